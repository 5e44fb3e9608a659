/- Walks. -/
import Derived.Test.YtfjkagjbanhdlaaDoorRef
import Derived.Test.YtfjkagjbanhdlaaDoorK1
import Derived.Test.YtfjkagjbanhdlaaDoorFlatE
set_option linter.unusedVariables false
set_option linter.unusedSimpArgs false
set_option maxRecDepth 20000
namespace Go.Flat
open Go.Proofs
variable {G : Glob}
set_option maxHeartbeats 4000000 in
theorem Zw1 (ds : List D) (n c : Nat) (hn : ds.length = n + 1) (hb : n ≤ 1000000) (hc : n + 1 ≤ c) :
  Zae Tryd.prog G 57 [slv 0 0 (n + 1) c] [dsR ds] (.tuple #[dgV (ds.getD n d0), slv 0 0 n c]) [dsR ds] := by
 refine Zbj (fn := Tryd.f57) (nt := 20) rfl rfl rfl rfl ?_
 refine Zaj 1 (H' := [dsR ds, hole]) rfl ?_
 have hR : (dsR ds).cells.length = ds.length * 32 := Zb7 ds
 have hx : ((n + 1 : Nat) : Int) - 1 = (n : Nat) := by omega
 have hat := Zi0 ds n (by omega)
 generalize ds.getD n d0 = x at hat ⊢
 repeat (first
  | ((with_reducible apply Zl); rfl; rfl; exact (rfl : _ = Value.pointer (some ⟨0, _, _⟩)); exact Zcx (n := 32) rfl rfl (by omega) hat)
  | ((with_reducible apply Zdd); rfl; rfl; exact (rfl : _ = Value.slice (some ⟨_, _, _⟩) _ _); rfl; rfl; exact Zie (h := n) rfl rfl hx (by omega) rfl)
  | ((with_reducible apply Zbf (j := n * 32)); rfl; rfl; exact (rfl : _ = Value.slice (some ⟨_, _, _⟩) _ _); (exact (rfl : _ = Value.int _ _)); (exact (rfl : _ = some (_, 32))); omega; omega; omega)
  | ((with_reducible apply Ze); rfl; rfl; (first
  | exact (rfl : _ = Value.int _ _)
  | exact (rfl : _ = Value.slice _ _ _)))
  | ((with_reducible apply Zc); rfl; rfl; (first
  | exact (rfl : _ = Value.int _ _)
  | exact (rfl : _ = Value.slice _ _ _)))
  | ((with_reducible apply Zk); rfl; rfl; (exact (rfl : _ = Value.int _ _)); (exact (rfl : _ = Value.int _ _)); (first
  | with_reducible exact Zge (by omega)
  | with_reducible exact Zde rfl (by omega) (by omega)))
  | ((with_reducible apply Zbl); rfl; rfl; (exact (rfl : _ = Value.slice _ _ _)); (exact (rfl : _ = some (Value.int _ _))))
  | ((with_reducible apply Zx); rfl; exact (rfl : _ = Value.pointer (some ⟨_, _, _⟩)); (exact (rfl : _ = Value.agg _)); (rfl); exact (rfl : _ = _ :: _))
  | ((with_reducible apply Z7 (nid := 1)); rfl; rfl; rfl; exact (rfl : _ = _ :: _))
  | with_reducible refine Za ?_
  | with_reducible refine Zg ?_
  | with_reducible refine Zf ?_
  | with_reducible refine Z2 ?_
  | with_reducible refine Zt ?_
  | with_reducible refine Zb ?_
  | (with_reducible refine Zcu (by kernel_rfl) ?_)
  | (with_reducible refine Zdu (by kernel_rfl) ?_)
  | ((with_reducible apply Zv); rfl))
 refine Zu ?_
 refine Zm (v := .tuple #[dgV x, slv 0 0 n c]) (by kernel_rfl) rfl rfl (by simp [Za9, dsR]) ?_
 exact ⟨Zcr (Zb0 fun _ => rfl) rfl, ⟨rfl, rfl, rfl, by omega, by omega⟩, trivial⟩
set_option maxHeartbeats 4000000 in
theorem Zz8 (ds : List D) (c : Nat) (hn : ds.length = 0) : Zsn Tryd.prog G 57 [slv 0 0 0 c] [dsR ds] := by
 refine Z31 (fn := Tryd.f57) (nt := 20) rfl rfl rfl rfl ?_
 refine Zaj 1 (H' := [dsR ds, hole]) rfl ?_
 iterate 15 (first
  | ((with_reducible apply Ze); rfl; rfl; (exact (rfl : _ = Value.slice _ _ _)))
  | ((with_reducible apply Zc); rfl; rfl; (exact (rfl : _ = Value.slice _ _ _)))
  | ((with_reducible apply Zk); rfl; rfl; (exact (rfl : _ = Value.int _ _)); (exact (rfl : _ = Value.int _ _)); (with_reducible exact Zdl (by omega)))
  | ((with_reducible apply Zbl); rfl; rfl; (exact (rfl : _ = Value.slice _ _ _)); (exact (rfl : _ = some (Value.int _ _))))
  | ((with_reducible apply Z7 (nid := 1)); rfl; rfl; rfl; exact (rfl : _ = _ :: _))
  | with_reducible refine Za ?_
  | with_reducible refine Zg ?_
  | with_reducible refine Zf ?_
  | with_reducible refine Zb ?_
  | ((with_reducible apply Zz); rfl))
 refine Zr4 2 rfl (rfl : _ = [_, _]) ?_
 repeat (first
  | ((with_reducible apply Zji); rfl; rfl; exact (rfl : _ = Value.agg _); exact (rfl : _ = some (Value.iface _ _)))
  | ((with_reducible apply Zbn); rfl; rfl; rfl; exact (rfl : _ = some (Value.agg _))))
 refine Zkb ⟨Zx0 rfl rfl, fun u v => ?_⟩
 repeat (first | with_reducible refine Zoq ?_ | with_reducible refine Zmd ?_ | with_reducible refine Zlu ?_)
 exact Z16
end Go.Flat
namespace Go.Flat
open Go.Proofs
variable {G : Glob}
def st1 (x : D) (r : Bool) : Blk := { cells := Zac w8 32 x ++ [.bool r], sz := 33, wr := true, fix := true, mv := false, pur := true }
theorem Zmq {P : Program} {H : List Blk} {t : TypeId} {q : Value} {b c n n' by_ : Nat} {zc : List Value} {ls : List Stp} {p : Stp} (ht : Zdc P t = some (33, zc, by_)) (hz : zc.length = 33) (hs : Zhg H 33 q = some (1, Zfc [p])) (hb : H[b]? = some (Zb8 ls)) (hn : ls.length = n) (hk : n + 1 = n') (hby : 0 < by_) (hm : n' * by_ ≤ 140737488355328) :
  Zpv P H t (slv b 0 n c) q = some (slv b 0 n' n', b, Zb8 (ls ++ [p])) := by
 have hc : (Zb8 ls).cells.length = n * 33 := by show (Zfc ls).length = _; rw [Zmj, hn]
 rw [Zen (n' := n') (p := (1, Zfc [p])) ht hs hb rfl rfl hz (Zy0 _) (by rw [hc]; omega) hby hk hm]
 have : List.take (n * 33) (List.drop 0 (Zb8 ls).cells) ++ Zfc [p] = Zfc (ls ++ [p]) := by
  rw [List.drop_zero, List.take_of_length_le (by rw [hc]; exact Nat.le_refl _), Zuk]; rfl
 simp only [this]
 rfl
structure WayS where
  size : Nat
  index : Nat
  m : Nat
  acc : List Stp
theorem Zq5 {ds : List D} {m : Nat} (h : m ≤ ds.length) (h0 : 0 < m) : (ds.take m).length = m ∧ (ds.take m).take ((ds.take m).length - 1) = ds.take (m - 1) := by
 have : (ds.take m).length = m := by simp; omega
 exact ⟨this, by rw [this, List.take_take, Nat.min_eq_left (by omega)]⟩
set_option maxHeartbeats 8000000 in
theorem Zv7 (size index : Nat) (ds : List D) (n c : Nat) (l : List Stp) (hn : ds.length = n) (hb : n ≤ 1000) (hc : n ≤ c) (hs : size ≤ 1000000) (hi : index ≤ 1000000) (hw : Zfa size index ds = some l) :
  Zae Tryd.prog G 36 [Iv (size : Nat), Iv (index : Nat), slv 0 0 n c] [dsR ds] (slv 1 0 l.length l.length) [dsR ds, Zb8 l] := by
 refine Zbj (fn := Tryd.f36) (nt := 41) rfl rfl rfl rfl ?_
 refine Zaj 1 (H' := [dsR ds, hole]) rfl ?_
 repeat (first
  | ((with_reducible apply Zc); rfl; rfl; (exact (rfl : _ = Value.slice _ _ _)))
  | with_reducible refine Za ?_
  | with_reducible refine Zg ?_
  | with_reducible refine Zf ?_
  | with_reducible refine Z9 ?_
  | with_reducible refine Zb ?_)
 refine Zb4 (Zbz.nilTmp (i := 7) (b := 1) true 33 rfl (by decide) rfl) ?_
 refine Zch (fun x : WayS => [Iv (x.size : Nat), Iv (x.index : Nat), slv 0 0 x.m c, dead, dead, dead, dead, slv 1 0 x.acc.length x.acc.length]) (fun x => [dsR ds, Zb8 x.acc])
  (fun x => x.size ≤ 1000000 ∧ x.index ≤ 1000000 ∧ x.m + x.acc.length ≤ n ∧ (Zfa x.size x.index (ds.take x.m)).map (fun t => x.acc ++ t) = some l) (fun x => x.size) ⟨size, index, n, []⟩ ⟨hs, hi, by simp, by rw [← hn, List.take_length, hw]; rfl⟩ ?_ ?_
 ·refine Zal (n := 2) rfl ?_ rfl ?_
  repeat (first | exact trivial | refine ⟨.inl rfl, ?_⟩ | refine ⟨.inr ⟨rfl, rfl⟩, ?_⟩)
  ·simp [dsR, Zb8]
 ·rintro ⟨size, index, m, acc⟩ ⟨g1, g2, g3, g4⟩
  dsimp only at g1 g2 g3 g4 ⊢
  by_cases h1 : 1 < size
  ·rcases Nat.eq_zero_or_pos m with h0 | h0
   ·subst h0
    rw [Zid index (by omega) (by simp)] at g4
    cases g4
   ·obtain ⟨t1, t2⟩ := Zq5 (ds := ds) (m := m) (by omega) h0
    obtain ⟨s1, s2⟩ := Zdx (n := size) (by omega)
    have hS := Zo8 (G := G) (size : Int) (by omega)
    have hsz : Zdz (size : Int) = (Zan size : Nat) := (Zfj (n := size) (by omega)).2.2
    rw [hsz] at hS
    have hL := Zw1 (G := G) (sub ds 0 m) (m - 1) c (by rw [Zdf (by omega)]; omega) (by omega) (by omega)
    rw [show m - 1 + 1 = m from by omega] at hL
    have hgd : (sub ds 0 m).getD (m - 1) d0 = (ds.take m).getD ((ds.take m).length - 1) d0 := by rw [t1]; simp [sub]
    rw [hgd] at hL
    have w1 := Zhp (size := size) (index := index) (ds := ds.take m) (by omega) (by omega)
    have w2 := Zhu (size := size) (index := index) (ds := ds.take m) (by omega) (by omega)
    rw [t2] at w1 w2
    generalize (ds.take m).getD ((ds.take m).length - 1) d0 = x at *
    generalize Zan size = k at *
    refine Zaj 2 (H' := [dsR ds, Zb8 acc, hole, hole]) rfl ?_
    by_cases hik : index < k
    ·have w := w1 hik
     repeat (first
      | ((with_reducible apply Z7 (nid := 2)); rfl; rfl; rfl; exact (show _ = [dsR ds, Zb8 acc, st1 d0 false, hole] by kernel_rfl))
      | ((with_reducible apply Z4 (e := [some (0, 0)]) (nid := 0) hL); rfl; rfl; rfl; rfl; rfl; rfl; rfl; refine ⟨⟨⟨rfl, rfl, rfl, by omega, by omega⟩, trivial⟩, ⟨Zml rfl (.inl rfl) (by omega) rfl, trivial⟩, rfl, rfl, rfl⟩; exact (show _ = Value.tuple #[dgV x, slv 0 0 (m - 1) c] by kernel_rfl); exact (show _ = [dsR ds, Zb8 acc, st1 d0 false, hole] by kernel_rfl))
      | ((with_reducible apply Zx); rfl; exact (rfl : _ = Value.pointer (some ⟨2, 0, _⟩)); exact (rfl : _ = Value.agg _); exact (show _ = some (2, st1 x false) by kernel_rfl); exact (show _ = [dsR ds, Zb8 acc, st1 x false, hole] by kernel_rfl))
      | ((with_reducible apply Zl); rfl; rfl; exact (rfl : _ = Value.pointer (some ⟨2, 0, _⟩)); exact (show _ = some (Value.agg (Zac w8 32 x ++ [Value.bool false]).toArray) by kernel_rfl))
      | ((with_reducible apply Zda (nid := 3)); rfl; rfl; rfl; exact (rfl : _ = some (Value.slice _ _ _, _)); exact (show _ = [dsR ds, Zb8 acc, st1 x false, Zb8 [(x, false)]] by kernel_rfl))
      | ((with_reducible apply Zcv); rfl; rfl; rfl; exact .inl ⟨_, rfl⟩; exact (rfl : _ = Value.slice (some ⟨_, _, _⟩) _ _); exact (rfl : _ = Value.slice (some ⟨_, _, _⟩) _ _); exact Zmq (n := acc.length) (n' := acc.length + 1) (ls := acc) (p := (x, false)) (rfl : _ = some (33, _, 33)) rfl (by kernel_rfl) rfl rfl rfl (by decide) (by omega); rfl; exact (show _ = [dsR ds, Zb8 (acc ++ [(x, false)]), st1 x false, Zb8 [(x, false)]] by kernel_rfl))
      | ((with_reducible apply Ze); rfl; rfl; (first
      | exact (rfl : _ = Value.int _ _)
      | exact (rfl : _ = Value.slice _ _ _)
      | exact (rfl : _ = Value.tuple _)))
      | ((with_reducible apply Zc); rfl; rfl; (first
      | exact (rfl : _ = Value.int _ _)
      | exact (rfl : _ = Value.slice _ _ _)))
      | ((with_reducible apply Zk); rfl; rfl; (exact (rfl : _ = Value.int _ _)); (exact (rfl : _ = Value.int _ _)); (first
      | with_reducible exact Zcq (by omega)
      | with_reducible exact Zet (by omega)))
      | ((with_reducible apply Zi); rfl; rfl; exact (rfl : _ = Value.pointer (some ⟨_, _, _⟩)); (exact (rfl : _ = some 0)); (exact Nat.zero_add _))
      | ((with_reducible apply Zp); rfl; rfl; rfl; (first
      | exact (rfl : _ = some (Value.slice _ _ _))
      | exact (rfl : _ = some (Value.agg _))))
      | ((with_reducible apply Zq (hS)); rfl; rfl; rfl; rfl; rfl; (exact (rfl : _ = Value.int _ _)))
      | with_reducible refine Za ?_
      | with_reducible refine Zg ?_
      | with_reducible refine Zf ?_
      | with_reducible refine Z9 ?_
      | with_reducible refine Z2 ?_
      | with_reducible refine Zb ?_
      | with_reducible refine Zab ?_
      | ((with_reducible apply Zz); rfl))
     refine Zas ⟨⟨k, index, m - 1, acc ++ [(x, false)]⟩, ⟨by show k ≤ _; omega, g2, by show m - 1 + (acc ++ [(x, false)]).length ≤ n; simp; omega, ?_⟩, by show k < size; omega, ?_⟩
     ·rw [w, Option.map_map] at g4
      rw [← g4]
      congr 1
      funext t
      simp
     ·show Zbz _ _ _ _ ⟨Tl [Iv (k : Nat), Iv (index : Nat), slv 0 0 (m - 1) c, dead, dead, dead, dead, slv 1 0 (acc ++ [(x, false)]).length (acc ++ [(x, false)]).length], [dsR ds, Zb8 (acc ++ [(x, false)])]⟩
      rw [show (acc ++ [(x, false)]).length = acc.length + 1 from by simp]
      refine Zal (n := 2) rfl ?_ rfl ?_
      repeat (first | exact trivial | refine ⟨.inl rfl, ?_⟩ | refine ⟨.inr ⟨rfl, rfl⟩, ?_⟩)
      ·simp [dsR, Zb8]
    ·have w := w2 (by omega)
     repeat (first
      | ((with_reducible apply Z7 (nid := 2)); rfl; rfl; rfl; exact (show _ = [dsR ds, Zb8 acc, st1 d0 false, hole] by kernel_rfl))
      | ((with_reducible apply Z4 (e := [some (0, 0)]) (nid := 0) hL); rfl; rfl; rfl; rfl; rfl; rfl; rfl; refine ⟨⟨⟨rfl, rfl, rfl, by omega, by omega⟩, trivial⟩, ⟨Zml rfl (.inl rfl) (by omega) rfl, trivial⟩, rfl, rfl, rfl⟩; exact (show _ = Value.tuple #[dgV x, slv 0 0 (m - 1) c] by kernel_rfl); exact (show _ = [dsR ds, Zb8 acc, st1 d0 false, hole] by kernel_rfl))
      | ((with_reducible apply Zx); rfl; exact (rfl : _ = Value.pointer (some ⟨2, 0, _⟩)); exact (rfl : _ = Value.agg _); exact (show _ = some (2, st1 x false) by kernel_rfl); exact (show _ = [dsR ds, Zb8 acc, st1 x false, hole] by kernel_rfl))
      | ((with_reducible apply Zx); rfl; exact (rfl : _ = Value.pointer (some ⟨2, 32, _⟩)); exact (rfl : _ = Value.bool true); exact (show _ = some (2, st1 x true) by kernel_rfl); exact (show _ = [dsR ds, Zb8 acc, st1 x true, hole] by kernel_rfl))
      | ((with_reducible apply Zl); rfl; rfl; exact (rfl : _ = Value.pointer (some ⟨2, 0, _⟩)); exact (show _ = some (Value.agg (Zac w8 32 x ++ [Value.bool true]).toArray) by kernel_rfl))
      | ((with_reducible apply Zda (nid := 3)); rfl; rfl; rfl; exact (rfl : _ = some (Value.slice _ _ _, _)); exact (show _ = [dsR ds, Zb8 acc, st1 x true, Zb8 [(x, true)]] by kernel_rfl))
      | ((with_reducible apply Zcv); rfl; rfl; rfl; exact .inl ⟨_, rfl⟩; exact (rfl : _ = Value.slice (some ⟨_, _, _⟩) _ _); exact (rfl : _ = Value.slice (some ⟨_, _, _⟩) _ _); exact Zmq (n := acc.length) (n' := acc.length + 1) (ls := acc) (p := (x, true)) (rfl : _ = some (33, _, 33)) rfl (by kernel_rfl) rfl rfl rfl (by decide) (by omega); rfl; exact (show _ = [dsR ds, Zb8 (acc ++ [(x, true)]), st1 x true, Zb8 [(x, true)]] by kernel_rfl))
      | ((with_reducible apply Ze); rfl; rfl; (first
      | exact (rfl : _ = Value.int _ _)
      | exact (rfl : _ = Value.slice _ _ _)
      | exact (rfl : _ = Value.tuple _)))
      | ((with_reducible apply Zc); rfl; rfl; (first
      | exact (rfl : _ = Value.int _ _)
      | exact (rfl : _ = Value.slice _ _ _)))
      | ((with_reducible apply Zk); rfl; rfl; (exact (rfl : _ = Value.int _ _)); (exact (rfl : _ = Value.int _ _)); (first
      | with_reducible exact Zcj (by omega)
      | with_reducible exact Zet (by omega)
      | with_reducible exact Zde rfl (by omega) (by omega)))
      | ((with_reducible apply Zi); rfl; rfl; exact (rfl : _ = Value.pointer (some ⟨_, _, _⟩)); (first
      | exact (rfl : _ = some 0)
      | rfl); (exact Nat.zero_add _))
      | ((with_reducible apply Zp); rfl; rfl; rfl; (first
      | exact (rfl : _ = some (Value.slice _ _ _))
      | exact (rfl : _ = some (Value.agg _))))
      | ((with_reducible apply Zq (hS)); rfl; rfl; rfl; rfl; rfl; (exact (rfl : _ = Value.int _ _)))
      | with_reducible refine Za ?_
      | with_reducible refine Zg ?_
      | with_reducible refine Zf ?_
      | with_reducible refine Z9 ?_
      | with_reducible refine Z2 ?_
      | with_reducible refine Zb ?_
      | with_reducible refine Zab ?_
      | ((with_reducible apply Zz); rfl)
      | ((with_reducible apply Zv); rfl))
     refine Zas ⟨⟨size - k, index - k, m - 1, acc ++ [(x, true)]⟩, ⟨by show size - k ≤ _; omega, by show index - k ≤ _; omega, by show m - 1 + (acc ++ [(x, true)]).length ≤ n; simp; omega, ?_⟩, by show size - k < size; omega, ?_⟩
     ·rw [w, Option.map_map] at g4
      rw [← g4]
      congr 1
      funext t
      simp
     ·show Zbz _ _ _ _ ⟨Tl [Iv ((size - k : Nat) : Int), Iv ((index - k : Nat) : Int), slv 0 0 (m - 1) c, dead, dead, dead, dead, slv 1 0 (acc ++ [(x, true)]).length (acc ++ [(x, true)]).length], [dsR ds, Zb8 (acc ++ [(x, true)])]⟩
      rw [show (acc ++ [(x, true)]).length = acc.length + 1 from by simp, show ((size - k : Nat) : Int) = (size : Int) - k from by omega, show ((index - k : Nat) : Int) = (index : Int) - k from by omega]
      refine Zal (n := 2) rfl ?_ rfl ?_
      repeat (first | exact trivial | refine ⟨.inl rfl, ?_⟩ | refine ⟨.inr ⟨rfl, rfl⟩, ?_⟩)
      ·simp [dsR, Zb8]
  ·rw [Zfr index _ (by omega)] at g4
   split at g4
   ·rename_i hm0
    have hm : m = 0 := by rw [List.length_take] at hm0; omega
    subst hm
    have hal : acc = l := by simpa using g4
    subst hal
    repeat (first
     | ((with_reducible apply Ze); rfl; rfl; (first
     | exact (rfl : _ = Value.int _ _)
     | exact (rfl : _ = Value.slice _ _ _)))
     | ((with_reducible apply Zc); rfl; rfl; (exact (rfl : _ = Value.slice _ _ _)))
     | ((with_reducible apply Zk); rfl; rfl; (exact (rfl : _ = Value.int _ _)); (exact (rfl : _ = Value.int _ _)); (with_reducible exact Zej (by omega)))
     | ((with_reducible apply Zbl); rfl; rfl; (exact (rfl : _ = Value.slice _ _ _)); (exact (rfl : _ = some (Value.int _ _))))
     | with_reducible refine Za ?_
     | with_reducible refine Zg ?_
     | with_reducible refine Zf ?_
     | with_reducible refine Z2 ?_
     | with_reducible refine Zbh ?_
     | with_reducible refine Zt ?_
     | with_reducible refine Zb ?_
     | with_reducible refine Zar ?_
     | with_reducible refine Za0 ?_
     | ((with_reducible apply Zv); rfl)
     | ((with_reducible apply Zaw); rfl))
    refine Zu ?_
    refine Zm (v := slv 1 0 acc.length acc.length) rfl rfl rfl ?_ ?_
    ·simp [Za9, dsR, Zb8]
    ·exact ⟨rfl, Nat.zero_add _ ▸ rfl, rfl, Nat.le_refl _, Nat.le_refl _⟩
   ·cases g4
end Go.Flat
namespace Go.Flat
open Go.Proofs
variable {G : Glob}
set_option maxRecDepth 20000 in
set_option maxHeartbeats 8000000 in
theorem Z25 (size index : Nat) (ds : List D) (n c : Nat) (hn : ds.length = n) (hb : n ≤ 1000) (hc : n ≤ c) (hs : size ≤ 1000000) (hi : index ≤ 1000000) (hw : Zfa size index ds = none) :
  Zsn Tryd.prog G 36 [Iv (size : Nat), Iv (index : Nat), slv 0 0 n c] [dsR ds] := by
 refine Z31 (fn := Tryd.f36) (nt := 41) rfl rfl rfl rfl ?_
 refine Zaj 1 (H' := [dsR ds, hole]) rfl ?_
 repeat (first
  | ((with_reducible apply Zc); rfl; rfl; (exact (rfl : _ = Value.slice _ _ _)))
  | with_reducible refine Za ?_
  | with_reducible refine Zg ?_
  | with_reducible refine Zf ?_
  | with_reducible refine Z9 ?_
  | with_reducible refine Zb ?_)
 refine Zb4 (Zbz.nilTmp (i := 7) (b := 1) true 33 rfl (by decide) rfl) ?_
 refine Zch (fun x : WayS => [Iv (x.size : Nat), Iv (x.index : Nat), slv 0 0 x.m c, dead, dead, dead, dead, slv 1 0 x.acc.length x.acc.length]) (fun x => [dsR ds, Zb8 x.acc])
  (fun x => x.size ≤ 1000000 ∧ x.index ≤ 1000000 ∧ x.m + x.acc.length ≤ n ∧ Zfa x.size x.index (ds.take x.m) = none) (fun x => x.size) ⟨size, index, n, []⟩ ⟨hs, hi, by simp, by rw [← hn, List.take_length, hw]⟩ ?_ ?_
 ·refine Zal (n := 2) rfl ?_ rfl ?_
  repeat (first | exact trivial | refine ⟨.inl rfl, ?_⟩ | refine ⟨.inr ⟨rfl, rfl⟩, ?_⟩)
  ·simp [dsR, Zb8]
 ·rintro ⟨size, index, m, acc⟩ ⟨g1, g2, g3, g4⟩
  dsimp only at g1 g2 g3 g4 ⊢
  by_cases h1 : 1 < size
  ·rcases Nat.eq_zero_or_pos m with h0 | h0
   ·subst h0
    have hL := Zz8 (G := G) (sub ds 0 0) c (Zdf (by omega))
    refine Zaj 2 (H' := [dsR ds, Zb8 acc, hole, hole]) rfl ?_
    iterate 13 (first
     | ((with_reducible apply Ze); rfl; rfl; (exact (rfl : _ = Value.int _ _)))
     | ((with_reducible apply Zk); rfl; rfl; (exact (rfl : _ = Value.int _ _)); (exact (rfl : _ = Value.int _ _)); (with_reducible exact Zet (by omega)))
     | with_reducible refine Za ?_
     | with_reducible refine Zg ?_
     | with_reducible refine Zf ?_
     | with_reducible refine Z9 ?_
     | with_reducible refine Z2 ?_
     | with_reducible refine Zb ?_
     | ((with_reducible apply Zz); rfl))
    with_reducible apply Z7 (nid := 2)
    rfl
    rfl
    rfl
    exact (rfl : _ = _ :: _)
    with_reducible refine Za ?_
    with_reducible refine Zb ?_
    with_reducible refine Zf ?_
    refine Zr4 1 rfl (rfl : _ = [_]) ?_
    ((with_reducible apply Ze); rfl; rfl; exact (rfl : _ = Value.slice (some ⟨_, _, _⟩) _ _))
    refine Zkb ⟨Z4z (e := [some (0, 0)]) hL rfl rfl rfl rfl rfl rfl rfl rfl ⟨⟨rfl, rfl, rfl, by omega, by omega⟩, trivial⟩ ⟨Zml rfl (.inl rfl) (by omega) rfl, trivial⟩, fun u v => ?_⟩
    repeat (first | with_reducible refine Zoq ?_ | with_reducible refine Zmd ?_ | with_reducible refine Zlu ?_)
    exact Z16
   ·obtain ⟨t1, t2⟩ := Zq5 (ds := ds) (m := m) (by omega) h0
    obtain ⟨s1, s2⟩ := Zdx (n := size) (by omega)
    have hS := Zo8 (G := G) (size : Int) (by omega)
    have hsz : Zdz (size : Int) = (Zan size : Nat) := (Zfj (n := size) (by omega)).2.2
    rw [hsz] at hS
    have hL := Zw1 (G := G) (sub ds 0 m) (m - 1) c (by rw [Zdf (by omega)]; omega) (by omega) (by omega)
    rw [show m - 1 + 1 = m from by omega] at hL
    have hgd : (sub ds 0 m).getD (m - 1) d0 = (ds.take m).getD ((ds.take m).length - 1) d0 := by rw [t1]; simp [sub]
    rw [hgd] at hL
    have w1 := Zhp (size := size) (index := index) (ds := ds.take m) (by omega) (by omega)
    have w2 := Zhu (size := size) (index := index) (ds := ds.take m) (by omega) (by omega)
    rw [t2] at w1 w2
    generalize (ds.take m).getD ((ds.take m).length - 1) d0 = x at *
    generalize Zan size = k at *
    refine Zaj 2 (H' := [dsR ds, Zb8 acc, hole, hole]) rfl ?_
    by_cases hik : index < k
    ·have w := w1 hik
     repeat (first
      | ((with_reducible apply Z7 (nid := 2)); rfl; rfl; rfl; exact (show _ = [dsR ds, Zb8 acc, st1 d0 false, hole] by kernel_rfl))
      | ((with_reducible apply Z4 (e := [some (0, 0)]) (nid := 0) hL); rfl; rfl; rfl; rfl; rfl; rfl; rfl; refine ⟨⟨⟨rfl, rfl, rfl, by omega, by omega⟩, trivial⟩, ⟨Zml rfl (.inl rfl) (by omega) rfl, trivial⟩, rfl, rfl, rfl⟩; exact (show _ = Value.tuple #[dgV x, slv 0 0 (m - 1) c] by kernel_rfl); exact (show _ = [dsR ds, Zb8 acc, st1 d0 false, hole] by kernel_rfl))
      | ((with_reducible apply Zx); rfl; exact (rfl : _ = Value.pointer (some ⟨2, 0, _⟩)); exact (rfl : _ = Value.agg _); exact (show _ = some (2, st1 x false) by kernel_rfl); exact (show _ = [dsR ds, Zb8 acc, st1 x false, hole] by kernel_rfl))
      | ((with_reducible apply Zl); rfl; rfl; exact (rfl : _ = Value.pointer (some ⟨2, 0, _⟩)); exact (show _ = some (Value.agg (Zac w8 32 x ++ [Value.bool false]).toArray) by kernel_rfl))
      | ((with_reducible apply Zda (nid := 3)); rfl; rfl; rfl; exact (rfl : _ = some (Value.slice _ _ _, _)); exact (show _ = [dsR ds, Zb8 acc, st1 x false, Zb8 [(x, false)]] by kernel_rfl))
      | ((with_reducible apply Zcv); rfl; rfl; rfl; exact .inl ⟨_, rfl⟩; exact (rfl : _ = Value.slice (some ⟨_, _, _⟩) _ _); exact (rfl : _ = Value.slice (some ⟨_, _, _⟩) _ _); exact Zmq (n := acc.length) (n' := acc.length + 1) (ls := acc) (p := (x, false)) (rfl : _ = some (33, _, 33)) rfl (by kernel_rfl) rfl rfl rfl (by decide) (by omega); rfl; exact (show _ = [dsR ds, Zb8 (acc ++ [(x, false)]), st1 x false, Zb8 [(x, false)]] by kernel_rfl))
      | ((with_reducible apply Ze); rfl; rfl; (first
      | exact (rfl : _ = Value.int _ _)
      | exact (rfl : _ = Value.slice _ _ _)
      | exact (rfl : _ = Value.tuple _)))
      | ((with_reducible apply Zc); rfl; rfl; (first
      | exact (rfl : _ = Value.int _ _)
      | exact (rfl : _ = Value.slice _ _ _)))
      | ((with_reducible apply Zk); rfl; rfl; (exact (rfl : _ = Value.int _ _)); (exact (rfl : _ = Value.int _ _)); (first
      | with_reducible exact Zcq (by omega)
      | with_reducible exact Zet (by omega)))
      | ((with_reducible apply Zi); rfl; rfl; exact (rfl : _ = Value.pointer (some ⟨_, _, _⟩)); (exact (rfl : _ = some 0)); (exact Nat.zero_add _))
      | ((with_reducible apply Zp); rfl; rfl; rfl; (first
      | exact (rfl : _ = some (Value.slice _ _ _))
      | exact (rfl : _ = some (Value.agg _))))
      | ((with_reducible apply Zq (hS)); rfl; rfl; rfl; rfl; rfl; (exact (rfl : _ = Value.int _ _)))
      | with_reducible refine Za ?_
      | with_reducible refine Zg ?_
      | with_reducible refine Zf ?_
      | with_reducible refine Z9 ?_
      | with_reducible refine Z2 ?_
      | with_reducible refine Zb ?_
      | with_reducible refine Zab ?_
      | ((with_reducible apply Zz); rfl))
     refine Zas ⟨⟨k, index, m - 1, acc ++ [(x, false)]⟩, ⟨by show k ≤ _; omega, g2, by show m - 1 + (acc ++ [(x, false)]).length ≤ n; simp; omega, ?_⟩, by show k < size; omega, ?_⟩
     ·rw [w, Option.map_eq_none_iff] at g4
      exact g4
     ·show Zbz _ _ _ _ ⟨Tl [Iv (k : Nat), Iv (index : Nat), slv 0 0 (m - 1) c, dead, dead, dead, dead, slv 1 0 (acc ++ [(x, false)]).length (acc ++ [(x, false)]).length], [dsR ds, Zb8 (acc ++ [(x, false)])]⟩
      rw [show (acc ++ [(x, false)]).length = acc.length + 1 from by simp]
      refine Zal (n := 2) rfl ?_ rfl ?_
      repeat (first | exact trivial | refine ⟨.inl rfl, ?_⟩ | refine ⟨.inr ⟨rfl, rfl⟩, ?_⟩)
      ·simp [dsR, Zb8]
    ·have w := w2 (by omega)
     repeat (first
      | ((with_reducible apply Z7 (nid := 2)); rfl; rfl; rfl; exact (show _ = [dsR ds, Zb8 acc, st1 d0 false, hole] by kernel_rfl))
      | ((with_reducible apply Z4 (e := [some (0, 0)]) (nid := 0) hL); rfl; rfl; rfl; rfl; rfl; rfl; rfl; refine ⟨⟨⟨rfl, rfl, rfl, by omega, by omega⟩, trivial⟩, ⟨Zml rfl (.inl rfl) (by omega) rfl, trivial⟩, rfl, rfl, rfl⟩; exact (show _ = Value.tuple #[dgV x, slv 0 0 (m - 1) c] by kernel_rfl); exact (show _ = [dsR ds, Zb8 acc, st1 d0 false, hole] by kernel_rfl))
      | ((with_reducible apply Zx); rfl; exact (rfl : _ = Value.pointer (some ⟨2, 0, _⟩)); exact (rfl : _ = Value.agg _); exact (show _ = some (2, st1 x false) by kernel_rfl); exact (show _ = [dsR ds, Zb8 acc, st1 x false, hole] by kernel_rfl))
      | ((with_reducible apply Zx); rfl; exact (rfl : _ = Value.pointer (some ⟨2, 32, _⟩)); exact (rfl : _ = Value.bool true); exact (show _ = some (2, st1 x true) by kernel_rfl); exact (show _ = [dsR ds, Zb8 acc, st1 x true, hole] by kernel_rfl))
      | ((with_reducible apply Zl); rfl; rfl; exact (rfl : _ = Value.pointer (some ⟨2, 0, _⟩)); exact (show _ = some (Value.agg (Zac w8 32 x ++ [Value.bool true]).toArray) by kernel_rfl))
      | ((with_reducible apply Zda (nid := 3)); rfl; rfl; rfl; exact (rfl : _ = some (Value.slice _ _ _, _)); exact (show _ = [dsR ds, Zb8 acc, st1 x true, Zb8 [(x, true)]] by kernel_rfl))
      | ((with_reducible apply Zcv); rfl; rfl; rfl; exact .inl ⟨_, rfl⟩; exact (rfl : _ = Value.slice (some ⟨_, _, _⟩) _ _); exact (rfl : _ = Value.slice (some ⟨_, _, _⟩) _ _); exact Zmq (n := acc.length) (n' := acc.length + 1) (ls := acc) (p := (x, true)) (rfl : _ = some (33, _, 33)) rfl (by kernel_rfl) rfl rfl rfl (by decide) (by omega); rfl; exact (show _ = [dsR ds, Zb8 (acc ++ [(x, true)]), st1 x true, Zb8 [(x, true)]] by kernel_rfl))
      | ((with_reducible apply Ze); rfl; rfl; (first
      | exact (rfl : _ = Value.int _ _)
      | exact (rfl : _ = Value.slice _ _ _)
      | exact (rfl : _ = Value.tuple _)))
      | ((with_reducible apply Zc); rfl; rfl; (first
      | exact (rfl : _ = Value.int _ _)
      | exact (rfl : _ = Value.slice _ _ _)))
      | ((with_reducible apply Zk); rfl; rfl; (exact (rfl : _ = Value.int _ _)); (exact (rfl : _ = Value.int _ _)); (first
      | with_reducible exact Zcj (by omega)
      | with_reducible exact Zet (by omega)
      | with_reducible exact Zde rfl (by omega) (by omega)))
      | ((with_reducible apply Zi); rfl; rfl; exact (rfl : _ = Value.pointer (some ⟨_, _, _⟩)); (first
      | exact (rfl : _ = some 0)
      | rfl); (exact Nat.zero_add _))
      | ((with_reducible apply Zp); rfl; rfl; rfl; (first
      | exact (rfl : _ = some (Value.slice _ _ _))
      | exact (rfl : _ = some (Value.agg _))))
      | ((with_reducible apply Zq (hS)); rfl; rfl; rfl; rfl; rfl; (exact (rfl : _ = Value.int _ _)))
      | with_reducible refine Za ?_
      | with_reducible refine Zg ?_
      | with_reducible refine Zf ?_
      | with_reducible refine Z9 ?_
      | with_reducible refine Z2 ?_
      | with_reducible refine Zb ?_
      | with_reducible refine Zab ?_
      | ((with_reducible apply Zz); rfl)
      | ((with_reducible apply Zv); rfl))
     refine Zas ⟨⟨size - k, index - k, m - 1, acc ++ [(x, true)]⟩, ⟨by show size - k ≤ _; omega, by show index - k ≤ _; omega, by show m - 1 + (acc ++ [(x, true)]).length ≤ n; simp; omega, ?_⟩, by show size - k < size; omega, ?_⟩
     ·rw [w, Option.map_eq_none_iff] at g4
      exact g4
     ·show Zbz _ _ _ _ ⟨Tl [Iv ((size - k : Nat) : Int), Iv ((index - k : Nat) : Int), slv 0 0 (m - 1) c, dead, dead, dead, dead, slv 1 0 (acc ++ [(x, true)]).length (acc ++ [(x, true)]).length], [dsR ds, Zb8 (acc ++ [(x, true)])]⟩
      rw [show (acc ++ [(x, true)]).length = acc.length + 1 from by simp, show ((size - k : Nat) : Int) = (size : Int) - k from by omega, show ((index - k : Nat) : Int) = (index : Int) - k from by omega]
      refine Zal (n := 2) rfl ?_ rfl ?_
      repeat (first | exact trivial | refine ⟨.inl rfl, ?_⟩ | refine ⟨.inr ⟨rfl, rfl⟩, ?_⟩)
      ·simp [dsR, Zb8]
  ·rw [Zfr index _ (by omega)] at g4
   split at g4
   ·cases g4
   ·rename_i hm0
    have hm : 0 < m := by rw [List.length_take] at hm0; omega
    iterate 18 (first
     | ((with_reducible apply Ze); rfl; rfl; (first
     | exact (rfl : _ = Value.int _ _)
     | exact (rfl : _ = Value.slice _ _ _)))
     | ((with_reducible apply Zk); rfl; rfl; (exact (rfl : _ = Value.int _ _)); (exact (rfl : _ = Value.int _ _)); (with_reducible exact Zej (by omega)))
     | ((with_reducible apply Zbl); rfl; rfl; (exact (rfl : _ = Value.slice _ _ _)); (exact (rfl : _ = some (Value.int _ _))))
     | with_reducible refine Za ?_
     | with_reducible refine Zg ?_
     | with_reducible refine Zf ?_
     | with_reducible refine Zbh ?_
     | with_reducible refine Zb ?_
     | with_reducible refine Zar ?_
     | with_reducible refine Za0 ?_
     | ((with_reducible apply Zv); rfl)
     | ((with_reducible apply Zaw); rfl))
    ((with_reducible apply Zk); rfl; rfl; exact (rfl : _ = Value.int _ _); exact (rfl : _ = Value.int _ _); exact Zet (by omega))
    with_reducible refine Za ?_
    with_reducible refine Zb ?_
    ((with_reducible apply Zz); rfl)
    refine Zr4 2 rfl (rfl : _ = [_, _]) ?_
    ((with_reducible apply Zbn); rfl; rfl; rfl; exact (rfl : _ = some (Value.agg _)))
    ((with_reducible apply Zji); rfl; rfl; exact (rfl : _ = Value.agg _); exact (rfl : _ = some (Value.iface _ _)))
    refine Zkb ⟨Zx0 rfl rfl, fun u v => ?_⟩
    repeat (first | with_reducible refine Zoq ?_ | with_reducible refine Zmd ?_ | with_reducible refine Zlu ?_)
    exact Z16
end Go.Flat
