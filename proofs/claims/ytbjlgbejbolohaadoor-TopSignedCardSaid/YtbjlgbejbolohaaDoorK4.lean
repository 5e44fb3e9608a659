/- Walks. -/
import Derived.Test.YtbjlgbejbolohaaDoorRef
import Derived.Test.YtbjlgbejbolohaaDoorK1
import Derived.Test.YtbjlgbejbolohaaDoorFlatE
set_option linter.unusedVariables false
set_option linter.unusedSimpArgs false
set_option maxRecDepth 20000
namespace Go.Flat
open Go.Proofs
variable {G : Glob}
set_option maxHeartbeats 4000000 in
theorem Zob (ds : List D) (n c : Nat) (hn : ds.length = n + 1) (hb : n ≤ 1000000) (hc : n + 1 ≤ c) :
  Zac Tryd.prog G 44 [slv 0 0 (n + 1) c] [dsR ds] (.tuple #[dgV (ds.getD n d0), slv 0 0 n c]) [dsR ds] := by
 refine Zb8 (fn := Tryd.f44) (nt := 20) rfl rfl rfl rfl ?_
 refine Zah 1 (H' := [dsR ds, hole]) rfl ?_
 have hR : (dsR ds).cells.length = ds.length * 32 := Zat ds
 have hx : ((n + 1 : Nat) : Int) - 1 = (n : Nat) := by omega
 have hat := Zhy ds n (by omega)
 generalize ds.getD n d0 = x at hat ⊢
 repeat (first
  | ((with_reducible apply Zg); rfl; rfl; exact (rfl : _ = Value.pointer (some ⟨0, _, _⟩)); exact Zcj (n := 32) rfl rfl (by omega) hat)
  | ((with_reducible apply Zci); rfl; rfl; exact (rfl : _ = Value.slice (some ⟨_, _, _⟩) _ _); rfl; rfl; exact Zgt (h := n) rfl rfl hx (by omega) rfl)
  | ((with_reducible apply Zbe (j := n * 32)); rfl; rfl; exact (rfl : _ = Value.slice (some ⟨_, _, _⟩) _ _); (exact (rfl : _ = Value.int _ _)); (exact (rfl : _ = some (_, 32))); omega; omega; omega)
  | ((with_reducible apply Zd); rfl; rfl; (first
  | exact (rfl : _ = Value.int _ _)
  | exact (rfl : _ = Value.slice _ _ _)))
  | ((with_reducible apply Zc); rfl; rfl; (first
  | exact (rfl : _ = Value.int _ _)
  | exact (rfl : _ = Value.slice _ _ _)))
  | ((with_reducible apply Zi); rfl; rfl; (exact (rfl : _ = Value.int _ _)); (exact (rfl : _ = Value.int _ _)); (first
  | with_reducible exact Zfc (by omega)
  | with_reducible exact Zb5 rfl (by omega) (by omega)))
  | ((with_reducible apply Za6); rfl; rfl; (exact (rfl : _ = Value.slice _ _ _)); (exact (rfl : _ = some (Value.int _ _))))
  | ((with_reducible apply Zj); rfl; exact (rfl : _ = Value.pointer (some ⟨_, _, _⟩)); (exact (rfl : _ = Value.agg _)); (rfl); exact (rfl : _ = _ :: _))
  | ((with_reducible apply Zq (nid := 1)); rfl; rfl; rfl; exact (rfl : _ = _ :: _))
  | with_reducible refine Za ?_
  | with_reducible refine Zf ?_
  | with_reducible refine Ze ?_
  | with_reducible refine Z0 ?_
  | with_reducible refine Zw ?_
  | with_reducible refine Zb ?_
  | (with_reducible refine Zca (by kernel_rfl) ?_)
  | (with_reducible refine Zc4 (by kernel_rfl) ?_)
  | ((with_reducible apply Zr); rfl))
 refine Zy ?_
 refine Zo (v := .tuple #[dgV x, slv 0 0 n c]) (by kernel_rfl) rfl rfl (by simp [Za1, dsR]) ?_
 exact ⟨Za7 (Zaz fun _ => rfl) rfl, ⟨rfl, rfl, rfl, by omega, by omega⟩, trivial⟩
set_option maxHeartbeats 4000000 in
theorem Zt4 (ds : List D) (c : Nat) (hn : ds.length = 0) : Zqh Tryd.prog G 44 [slv 0 0 0 c] [dsR ds] := by
 refine Z15 (fn := Tryd.f44) (nt := 20) rfl rfl rfl rfl ?_
 refine Zah 1 (H' := [dsR ds, hole]) rfl ?_
 iterate 15 (first
  | ((with_reducible apply Zd); rfl; rfl; (exact (rfl : _ = Value.slice _ _ _)))
  | ((with_reducible apply Zc); rfl; rfl; (exact (rfl : _ = Value.slice _ _ _)))
  | ((with_reducible apply Zi); rfl; rfl; (exact (rfl : _ = Value.int _ _)); (exact (rfl : _ = Value.int _ _)); (with_reducible exact Zd2 (by omega)))
  | ((with_reducible apply Za6); rfl; rfl; (exact (rfl : _ = Value.slice _ _ _)); (exact (rfl : _ = some (Value.int _ _))))
  | ((with_reducible apply Zq (nid := 1)); rfl; rfl; rfl; exact (rfl : _ = _ :: _))
  | with_reducible refine Za ?_
  | with_reducible refine Zf ?_
  | with_reducible refine Ze ?_
  | with_reducible refine Zb ?_
  | ((with_reducible apply Zu); rfl))
 refine Zgi 2 rfl (rfl : _ = [_, _]) ?_
 repeat (first
  | ((with_reducible apply Zfh); rfl; rfl; exact (rfl : _ = Value.agg _); exact (rfl : _ = some (Value.iface _ _)))
  | ((with_reducible apply Zbf); rfl; rfl; rfl; exact (rfl : _ = some (Value.agg _))))
 refine Ze8 ⟨Zoh rfl rfl, fun u v => ?_⟩
 repeat (first | with_reducible refine Zf5 ?_ | with_reducible refine Zez ?_ | with_reducible refine Ze0 ?_)
 exact Zmo
end Go.Flat
namespace Go.Flat
open Go.Proofs
variable {G : Glob}
def st1 (x : D) (r : Bool) : Blk := { cells := Zaa w8 32 x ++ [.bool r], sz := 33, wr := true, fix := true, mv := false, pur := true }
theorem Zlq {P : Program} {H : List Blk} {t : TypeId} {q : Value} {b c n n' by_ : Nat} {zc : List Value} {ls : List Stp} {p : Stp} (ht : Zcx P t = some (33, zc, by_)) (hz : zc.length = 33) (hs : Zgv H 33 q = some (1, Zfe [p])) (hb : H[b]? = some (Zcp ls)) (hn : ls.length = n) (hk : n + 1 = n') (hby : 0 < by_) (hm : n' * by_ ≤ 140737488355328) :
  Znv P H t (slv b 0 n c) q = some (slv b 0 n' n', b, Zcp (ls ++ [p])) := by
 have hc : (Zcp ls).cells.length = n * 33 := by show (Zfe ls).length = _; rw [Zmg, hn]
 rw [Zcy (n' := n') (p := (1, Zfe [p])) ht hs hb rfl rfl hz (Zz5 _) (by rw [hc]; omega) hby hk hm]
 have : List.take (n * 33) (List.drop 0 (Zcp ls).cells) ++ Zfe [p] = Zfe (ls ++ [p]) := by
  rw [List.drop_zero, List.take_of_length_le (by rw [hc]; exact Nat.le_refl _), Zu4]; rfl
 simp only [this]
 rfl
structure WayS where
  size : Nat
  index : Nat
  m : Nat
  acc : List Stp
theorem Zrz {ds : List D} {m : Nat} (h : m ≤ ds.length) (h0 : 0 < m) : (ds.take m).length = m ∧ (ds.take m).take ((ds.take m).length - 1) = ds.take (m - 1) := by
 have : (ds.take m).length = m := by simp; omega
 exact ⟨this, by rw [this, List.take_take, Nat.min_eq_left (by omega)]⟩
set_option maxHeartbeats 8000000 in
theorem Z67 (size index : Nat) (ds : List D) (n c : Nat) (l : List Stp) (hn : ds.length = n) (hb : n ≤ 1000) (hc : n ≤ c) (hs : size ≤ 1000000) (hi : index ≤ 1000000) (hw : Zij size index ds = some l) :
  Zac Tryd.prog G 42 [Iv (size : Nat), Iv (index : Nat), slv 0 0 n c] [dsR ds] (slv 1 0 l.length l.length) [dsR ds, Zcp l] := by
 refine Zb8 (fn := Tryd.f42) (nt := 41) rfl rfl rfl rfl ?_
 refine Zah 1 (H' := [dsR ds, hole]) rfl ?_
 repeat (first
  | ((with_reducible apply Zc); rfl; rfl; (exact (rfl : _ = Value.slice _ _ _)))
  | with_reducible refine Za ?_
  | with_reducible refine Zf ?_
  | with_reducible refine Ze ?_
  | with_reducible refine Z1 ?_
  | with_reducible refine Zb ?_)
 refine Zc8 (Zb2.nilTmp (i := 7) (b := 1) true 33 rfl (by decide) rfl) ?_
 refine Zby (fun x : WayS => [Iv (x.size : Nat), Iv (x.index : Nat), slv 0 0 x.m c, dead, dead, dead, dead, slv 1 0 x.acc.length x.acc.length]) (fun x => [dsR ds, Zcp x.acc])
  (fun x => x.size ≤ 1000000 ∧ x.index ≤ 1000000 ∧ x.m + x.acc.length ≤ n ∧ (Zij x.size x.index (ds.take x.m)).map (fun t => x.acc ++ t) = some l) (fun x => x.size) ⟨size, index, n, []⟩ ⟨hs, hi, by simp, by rw [← hn, List.take_length, hw]; rfl⟩ ?_ ?_
 ·refine Z2 (n := 2) rfl ?_ rfl ?_
  repeat (first | exact trivial | refine ⟨.inl rfl, ?_⟩ | refine ⟨.inr ⟨rfl, rfl⟩, ?_⟩)
  ·simp [dsR, Zcp]
 ·rintro ⟨size, index, m, acc⟩ ⟨g1, g2, g3, g4⟩
  dsimp only at g1 g2 g3 g4 ⊢
  by_cases h1 : 1 < size
  ·rcases Nat.eq_zero_or_pos m with h0 | h0
   ·subst h0
    rw [Zvb index (by omega) (by simp)] at g4
    cases g4
   ·obtain ⟨t1, t2⟩ := Zrz (ds := ds) (m := m) (by omega) h0
    obtain ⟨s1, s2⟩ := Zb1 (n := size) (by omega)
    have hS := Zil (G := G) (size : Int) (by omega)
    have hsz : Zct (size : Int) = (Zz size : Nat) := (Zdt (n := size) (by omega)).2.2
    rw [hsz] at hS
    have hL := Zob (G := G) (sub ds 0 m) (m - 1) c (by rw [Zau (by omega)]; omega) (by omega) (by omega)
    rw [show m - 1 + 1 = m from by omega] at hL
    have hgd : (sub ds 0 m).getD (m - 1) d0 = (ds.take m).getD ((ds.take m).length - 1) d0 := by rw [t1]; simp [sub]
    rw [hgd] at hL
    have w1 := Zom (size := size) (index := index) (ds := ds.take m) (by omega) (by omega)
    have w2 := Zol (size := size) (index := index) (ds := ds.take m) (by omega) (by omega)
    rw [t2] at w1 w2
    generalize (ds.take m).getD ((ds.take m).length - 1) d0 = x at *
    generalize Zz size = k at *
    refine Zah 2 (H' := [dsR ds, Zcp acc, hole, hole]) rfl ?_
    by_cases hik : index < k
    ·have w := w1 hik
     repeat (first
      | ((with_reducible apply Zq (nid := 2)); rfl; rfl; rfl; exact (show _ = [dsR ds, Zcp acc, st1 d0 false, hole] by kernel_rfl))
      | ((with_reducible apply Zab (e := [some (0, 0)]) (nid := 0) hL); rfl; rfl; rfl; rfl; rfl; rfl; rfl; refine ⟨⟨⟨rfl, rfl, rfl, by omega, by omega⟩, trivial⟩, ⟨Zg1 rfl (.inl rfl) (by omega) rfl, trivial⟩, rfl, rfl, rfl⟩; exact (show _ = Value.tuple #[dgV x, slv 0 0 (m - 1) c] by kernel_rfl); exact (show _ = [dsR ds, Zcp acc, st1 d0 false, hole] by kernel_rfl))
      | ((with_reducible apply Zj); rfl; exact (rfl : _ = Value.pointer (some ⟨2, 0, _⟩)); exact (rfl : _ = Value.agg _); exact (show _ = some (2, st1 x false) by kernel_rfl); exact (show _ = [dsR ds, Zcp acc, st1 x false, hole] by kernel_rfl))
      | ((with_reducible apply Zg); rfl; rfl; exact (rfl : _ = Value.pointer (some ⟨2, 0, _⟩)); exact (show _ = some (Value.agg (Zaa w8 32 x ++ [Value.bool false]).toArray) by kernel_rfl))
      | ((with_reducible apply Zdd (nid := 3)); rfl; rfl; rfl; exact (rfl : _ = some (Value.slice _ _ _, _)); exact (show _ = [dsR ds, Zcp acc, st1 x false, Zcp [(x, false)]] by kernel_rfl))
      | ((with_reducible apply Za5); rfl; rfl; rfl; exact .inl ⟨_, rfl⟩; exact (rfl : _ = Value.slice (some ⟨_, _, _⟩) _ _); exact (rfl : _ = Value.slice (some ⟨_, _, _⟩) _ _); exact Zlq (n := acc.length) (n' := acc.length + 1) (ls := acc) (p := (x, false)) (rfl : _ = some (33, _, 33)) rfl (by kernel_rfl) rfl rfl rfl (by decide) (by omega); rfl; exact (show _ = [dsR ds, Zcp (acc ++ [(x, false)]), st1 x false, Zcp [(x, false)]] by kernel_rfl))
      | ((with_reducible apply Zd); rfl; rfl; (first
      | exact (rfl : _ = Value.int _ _)
      | exact (rfl : _ = Value.slice _ _ _)
      | exact (rfl : _ = Value.tuple _)))
      | ((with_reducible apply Zc); rfl; rfl; (first
      | exact (rfl : _ = Value.int _ _)
      | exact (rfl : _ = Value.slice _ _ _)))
      | ((with_reducible apply Zi); rfl; rfl; (exact (rfl : _ = Value.int _ _)); (exact (rfl : _ = Value.int _ _)); (first
      | with_reducible exact Zcv (by omega)
      | with_reducible exact Zde (by omega)))
      | ((with_reducible apply Zh); rfl; rfl; exact (rfl : _ = Value.pointer (some ⟨_, _, _⟩)); (exact (rfl : _ = some 0)); (exact Nat.zero_add _))
      | ((with_reducible apply Z5); rfl; rfl; rfl; (first
      | exact (rfl : _ = some (Value.slice _ _ _))
      | exact (rfl : _ = some (Value.agg _))))
      | ((with_reducible apply Zv (hS)); rfl; rfl; rfl; rfl; rfl; (exact (rfl : _ = Value.int _ _)))
      | with_reducible refine Za ?_
      | with_reducible refine Zf ?_
      | with_reducible refine Ze ?_
      | with_reducible refine Z1 ?_
      | with_reducible refine Z0 ?_
      | with_reducible refine Zb ?_
      | with_reducible refine Zag ?_
      | ((with_reducible apply Zu); rfl))
     refine Zx ⟨⟨k, index, m - 1, acc ++ [(x, false)]⟩, ⟨by show k ≤ _; omega, g2, by show m - 1 + (acc ++ [(x, false)]).length ≤ n; simp; omega, ?_⟩, by show k < size; omega, ?_⟩
     ·rw [w, Option.map_map] at g4
      rw [← g4]
      congr 1
      funext t
      simp
     ·show Zb2 _ _ _ _ ⟨Tl [Iv (k : Nat), Iv (index : Nat), slv 0 0 (m - 1) c, dead, dead, dead, dead, slv 1 0 (acc ++ [(x, false)]).length (acc ++ [(x, false)]).length], [dsR ds, Zcp (acc ++ [(x, false)])]⟩
      rw [show (acc ++ [(x, false)]).length = acc.length + 1 from by simp]
      refine Z2 (n := 2) rfl ?_ rfl ?_
      repeat (first | exact trivial | refine ⟨.inl rfl, ?_⟩ | refine ⟨.inr ⟨rfl, rfl⟩, ?_⟩)
      ·simp [dsR, Zcp]
    ·have w := w2 (by omega)
     repeat (first
      | ((with_reducible apply Zq (nid := 2)); rfl; rfl; rfl; exact (show _ = [dsR ds, Zcp acc, st1 d0 false, hole] by kernel_rfl))
      | ((with_reducible apply Zab (e := [some (0, 0)]) (nid := 0) hL); rfl; rfl; rfl; rfl; rfl; rfl; rfl; refine ⟨⟨⟨rfl, rfl, rfl, by omega, by omega⟩, trivial⟩, ⟨Zg1 rfl (.inl rfl) (by omega) rfl, trivial⟩, rfl, rfl, rfl⟩; exact (show _ = Value.tuple #[dgV x, slv 0 0 (m - 1) c] by kernel_rfl); exact (show _ = [dsR ds, Zcp acc, st1 d0 false, hole] by kernel_rfl))
      | ((with_reducible apply Zj); rfl; exact (rfl : _ = Value.pointer (some ⟨2, 0, _⟩)); exact (rfl : _ = Value.agg _); exact (show _ = some (2, st1 x false) by kernel_rfl); exact (show _ = [dsR ds, Zcp acc, st1 x false, hole] by kernel_rfl))
      | ((with_reducible apply Zj); rfl; exact (rfl : _ = Value.pointer (some ⟨2, 32, _⟩)); exact (rfl : _ = Value.bool true); exact (show _ = some (2, st1 x true) by kernel_rfl); exact (show _ = [dsR ds, Zcp acc, st1 x true, hole] by kernel_rfl))
      | ((with_reducible apply Zg); rfl; rfl; exact (rfl : _ = Value.pointer (some ⟨2, 0, _⟩)); exact (show _ = some (Value.agg (Zaa w8 32 x ++ [Value.bool true]).toArray) by kernel_rfl))
      | ((with_reducible apply Zdd (nid := 3)); rfl; rfl; rfl; exact (rfl : _ = some (Value.slice _ _ _, _)); exact (show _ = [dsR ds, Zcp acc, st1 x true, Zcp [(x, true)]] by kernel_rfl))
      | ((with_reducible apply Za5); rfl; rfl; rfl; exact .inl ⟨_, rfl⟩; exact (rfl : _ = Value.slice (some ⟨_, _, _⟩) _ _); exact (rfl : _ = Value.slice (some ⟨_, _, _⟩) _ _); exact Zlq (n := acc.length) (n' := acc.length + 1) (ls := acc) (p := (x, true)) (rfl : _ = some (33, _, 33)) rfl (by kernel_rfl) rfl rfl rfl (by decide) (by omega); rfl; exact (show _ = [dsR ds, Zcp (acc ++ [(x, true)]), st1 x true, Zcp [(x, true)]] by kernel_rfl))
      | ((with_reducible apply Zd); rfl; rfl; (first
      | exact (rfl : _ = Value.int _ _)
      | exact (rfl : _ = Value.slice _ _ _)
      | exact (rfl : _ = Value.tuple _)))
      | ((with_reducible apply Zc); rfl; rfl; (first
      | exact (rfl : _ = Value.int _ _)
      | exact (rfl : _ = Value.slice _ _ _)))
      | ((with_reducible apply Zi); rfl; rfl; (exact (rfl : _ = Value.int _ _)); (exact (rfl : _ = Value.int _ _)); (first
      | with_reducible exact Zbv (by omega)
      | with_reducible exact Zde (by omega)
      | with_reducible exact Zb5 rfl (by omega) (by omega)))
      | ((with_reducible apply Zh); rfl; rfl; exact (rfl : _ = Value.pointer (some ⟨_, _, _⟩)); (first
      | exact (rfl : _ = some 0)
      | rfl); (exact Nat.zero_add _))
      | ((with_reducible apply Z5); rfl; rfl; rfl; (first
      | exact (rfl : _ = some (Value.slice _ _ _))
      | exact (rfl : _ = some (Value.agg _))))
      | ((with_reducible apply Zv (hS)); rfl; rfl; rfl; rfl; rfl; (exact (rfl : _ = Value.int _ _)))
      | with_reducible refine Za ?_
      | with_reducible refine Zf ?_
      | with_reducible refine Ze ?_
      | with_reducible refine Z1 ?_
      | with_reducible refine Z0 ?_
      | with_reducible refine Zb ?_
      | with_reducible refine Zag ?_
      | ((with_reducible apply Zu); rfl)
      | ((with_reducible apply Zr); rfl))
     refine Zx ⟨⟨size - k, index - k, m - 1, acc ++ [(x, true)]⟩, ⟨by show size - k ≤ _; omega, by show index - k ≤ _; omega, by show m - 1 + (acc ++ [(x, true)]).length ≤ n; simp; omega, ?_⟩, by show size - k < size; omega, ?_⟩
     ·rw [w, Option.map_map] at g4
      rw [← g4]
      congr 1
      funext t
      simp
     ·show Zb2 _ _ _ _ ⟨Tl [Iv ((size - k : Nat) : Int), Iv ((index - k : Nat) : Int), slv 0 0 (m - 1) c, dead, dead, dead, dead, slv 1 0 (acc ++ [(x, true)]).length (acc ++ [(x, true)]).length], [dsR ds, Zcp (acc ++ [(x, true)])]⟩
      rw [show (acc ++ [(x, true)]).length = acc.length + 1 from by simp, show ((size - k : Nat) : Int) = (size : Int) - k from by omega, show ((index - k : Nat) : Int) = (index : Int) - k from by omega]
      refine Z2 (n := 2) rfl ?_ rfl ?_
      repeat (first | exact trivial | refine ⟨.inl rfl, ?_⟩ | refine ⟨.inr ⟨rfl, rfl⟩, ?_⟩)
      ·simp [dsR, Zcp]
  ·rw [Zi7 index _ (by omega)] at g4
   split at g4
   ·rename_i hm0
    have hm : m = 0 := by rw [List.length_take] at hm0; omega
    subst hm
    have hal : acc = l := by simpa using g4
    subst hal
    repeat (first
     | ((with_reducible apply Zd); rfl; rfl; (first
     | exact (rfl : _ = Value.int _ _)
     | exact (rfl : _ = Value.slice _ _ _)))
     | ((with_reducible apply Zc); rfl; rfl; (exact (rfl : _ = Value.slice _ _ _)))
     | ((with_reducible apply Zi); rfl; rfl; (exact (rfl : _ = Value.int _ _)); (exact (rfl : _ = Value.int _ _)); (with_reducible exact Zcw (by omega)))
     | ((with_reducible apply Za6); rfl; rfl; (exact (rfl : _ = Value.slice _ _ _)); (exact (rfl : _ = some (Value.int _ _))))
     | with_reducible refine Za ?_
     | with_reducible refine Zf ?_
     | with_reducible refine Ze ?_
     | with_reducible refine Z0 ?_
     | with_reducible refine Zbx ?_
     | with_reducible refine Zw ?_
     | with_reducible refine Zb ?_
     | with_reducible refine Zay ?_
     | with_reducible refine Zav ?_
     | ((with_reducible apply Zr); rfl)
     | ((with_reducible apply Za2); rfl))
    refine Zy ?_
    refine Zo (v := slv 1 0 acc.length acc.length) rfl rfl rfl ?_ ?_
    ·simp [Za1, dsR, Zcp]
    ·exact ⟨rfl, Nat.zero_add _ ▸ rfl, rfl, Nat.le_refl _, Nat.le_refl _⟩
   ·cases g4
end Go.Flat
namespace Go.Flat
open Go.Proofs
variable {G : Glob}
set_option maxRecDepth 20000 in
set_option maxHeartbeats 8000000 in
theorem Z4n (size index : Nat) (ds : List D) (n c : Nat) (hn : ds.length = n) (hb : n ≤ 1000) (hc : n ≤ c) (hs : size ≤ 1000000) (hi : index ≤ 1000000) (hw : Zij size index ds = none) :
  Zqh Tryd.prog G 42 [Iv (size : Nat), Iv (index : Nat), slv 0 0 n c] [dsR ds] := by
 refine Z15 (fn := Tryd.f42) (nt := 41) rfl rfl rfl rfl ?_
 refine Zah 1 (H' := [dsR ds, hole]) rfl ?_
 repeat (first
  | ((with_reducible apply Zc); rfl; rfl; (exact (rfl : _ = Value.slice _ _ _)))
  | with_reducible refine Za ?_
  | with_reducible refine Zf ?_
  | with_reducible refine Ze ?_
  | with_reducible refine Z1 ?_
  | with_reducible refine Zb ?_)
 refine Zc8 (Zb2.nilTmp (i := 7) (b := 1) true 33 rfl (by decide) rfl) ?_
 refine Zby (fun x : WayS => [Iv (x.size : Nat), Iv (x.index : Nat), slv 0 0 x.m c, dead, dead, dead, dead, slv 1 0 x.acc.length x.acc.length]) (fun x => [dsR ds, Zcp x.acc])
  (fun x => x.size ≤ 1000000 ∧ x.index ≤ 1000000 ∧ x.m + x.acc.length ≤ n ∧ Zij x.size x.index (ds.take x.m) = none) (fun x => x.size) ⟨size, index, n, []⟩ ⟨hs, hi, by simp, by rw [← hn, List.take_length, hw]⟩ ?_ ?_
 ·refine Z2 (n := 2) rfl ?_ rfl ?_
  repeat (first | exact trivial | refine ⟨.inl rfl, ?_⟩ | refine ⟨.inr ⟨rfl, rfl⟩, ?_⟩)
  ·simp [dsR, Zcp]
 ·rintro ⟨size, index, m, acc⟩ ⟨g1, g2, g3, g4⟩
  dsimp only at g1 g2 g3 g4 ⊢
  by_cases h1 : 1 < size
  ·rcases Nat.eq_zero_or_pos m with h0 | h0
   ·subst h0
    have hL := Zt4 (G := G) (sub ds 0 0) c (Zau (by omega))
    refine Zah 2 (H' := [dsR ds, Zcp acc, hole, hole]) rfl ?_
    iterate 13 (first
     | ((with_reducible apply Zd); rfl; rfl; (exact (rfl : _ = Value.int _ _)))
     | ((with_reducible apply Zi); rfl; rfl; (exact (rfl : _ = Value.int _ _)); (exact (rfl : _ = Value.int _ _)); (with_reducible exact Zde (by omega)))
     | with_reducible refine Za ?_
     | with_reducible refine Zf ?_
     | with_reducible refine Ze ?_
     | with_reducible refine Z1 ?_
     | with_reducible refine Z0 ?_
     | with_reducible refine Zb ?_
     | ((with_reducible apply Zu); rfl))
    with_reducible apply Zq (nid := 2)
    rfl
    rfl
    rfl
    exact (rfl : _ = _ :: _)
    with_reducible refine Za ?_
    with_reducible refine Zb ?_
    with_reducible refine Ze ?_
    refine Zgi 1 rfl (rfl : _ = [_]) ?_
    ((with_reducible apply Zd); rfl; rfl; exact (rfl : _ = Value.slice (some ⟨_, _, _⟩) _ _))
    refine Ze8 ⟨Zm6 (e := [some (0, 0)]) hL rfl rfl rfl rfl rfl rfl rfl rfl ⟨⟨rfl, rfl, rfl, by omega, by omega⟩, trivial⟩ ⟨Zg1 rfl (.inl rfl) (by omega) rfl, trivial⟩, fun u v => ?_⟩
    repeat (first | with_reducible refine Zf5 ?_ | with_reducible refine Zez ?_ | with_reducible refine Ze0 ?_)
    exact Zmo
   ·obtain ⟨t1, t2⟩ := Zrz (ds := ds) (m := m) (by omega) h0
    obtain ⟨s1, s2⟩ := Zb1 (n := size) (by omega)
    have hS := Zil (G := G) (size : Int) (by omega)
    have hsz : Zct (size : Int) = (Zz size : Nat) := (Zdt (n := size) (by omega)).2.2
    rw [hsz] at hS
    have hL := Zob (G := G) (sub ds 0 m) (m - 1) c (by rw [Zau (by omega)]; omega) (by omega) (by omega)
    rw [show m - 1 + 1 = m from by omega] at hL
    have hgd : (sub ds 0 m).getD (m - 1) d0 = (ds.take m).getD ((ds.take m).length - 1) d0 := by rw [t1]; simp [sub]
    rw [hgd] at hL
    have w1 := Zom (size := size) (index := index) (ds := ds.take m) (by omega) (by omega)
    have w2 := Zol (size := size) (index := index) (ds := ds.take m) (by omega) (by omega)
    rw [t2] at w1 w2
    generalize (ds.take m).getD ((ds.take m).length - 1) d0 = x at *
    generalize Zz size = k at *
    refine Zah 2 (H' := [dsR ds, Zcp acc, hole, hole]) rfl ?_
    by_cases hik : index < k
    ·have w := w1 hik
     repeat (first
      | ((with_reducible apply Zq (nid := 2)); rfl; rfl; rfl; exact (show _ = [dsR ds, Zcp acc, st1 d0 false, hole] by kernel_rfl))
      | ((with_reducible apply Zab (e := [some (0, 0)]) (nid := 0) hL); rfl; rfl; rfl; rfl; rfl; rfl; rfl; refine ⟨⟨⟨rfl, rfl, rfl, by omega, by omega⟩, trivial⟩, ⟨Zg1 rfl (.inl rfl) (by omega) rfl, trivial⟩, rfl, rfl, rfl⟩; exact (show _ = Value.tuple #[dgV x, slv 0 0 (m - 1) c] by kernel_rfl); exact (show _ = [dsR ds, Zcp acc, st1 d0 false, hole] by kernel_rfl))
      | ((with_reducible apply Zj); rfl; exact (rfl : _ = Value.pointer (some ⟨2, 0, _⟩)); exact (rfl : _ = Value.agg _); exact (show _ = some (2, st1 x false) by kernel_rfl); exact (show _ = [dsR ds, Zcp acc, st1 x false, hole] by kernel_rfl))
      | ((with_reducible apply Zg); rfl; rfl; exact (rfl : _ = Value.pointer (some ⟨2, 0, _⟩)); exact (show _ = some (Value.agg (Zaa w8 32 x ++ [Value.bool false]).toArray) by kernel_rfl))
      | ((with_reducible apply Zdd (nid := 3)); rfl; rfl; rfl; exact (rfl : _ = some (Value.slice _ _ _, _)); exact (show _ = [dsR ds, Zcp acc, st1 x false, Zcp [(x, false)]] by kernel_rfl))
      | ((with_reducible apply Za5); rfl; rfl; rfl; exact .inl ⟨_, rfl⟩; exact (rfl : _ = Value.slice (some ⟨_, _, _⟩) _ _); exact (rfl : _ = Value.slice (some ⟨_, _, _⟩) _ _); exact Zlq (n := acc.length) (n' := acc.length + 1) (ls := acc) (p := (x, false)) (rfl : _ = some (33, _, 33)) rfl (by kernel_rfl) rfl rfl rfl (by decide) (by omega); rfl; exact (show _ = [dsR ds, Zcp (acc ++ [(x, false)]), st1 x false, Zcp [(x, false)]] by kernel_rfl))
      | ((with_reducible apply Zd); rfl; rfl; (first
      | exact (rfl : _ = Value.int _ _)
      | exact (rfl : _ = Value.slice _ _ _)
      | exact (rfl : _ = Value.tuple _)))
      | ((with_reducible apply Zc); rfl; rfl; (first
      | exact (rfl : _ = Value.int _ _)
      | exact (rfl : _ = Value.slice _ _ _)))
      | ((with_reducible apply Zi); rfl; rfl; (exact (rfl : _ = Value.int _ _)); (exact (rfl : _ = Value.int _ _)); (first
      | with_reducible exact Zcv (by omega)
      | with_reducible exact Zde (by omega)))
      | ((with_reducible apply Zh); rfl; rfl; exact (rfl : _ = Value.pointer (some ⟨_, _, _⟩)); (exact (rfl : _ = some 0)); (exact Nat.zero_add _))
      | ((with_reducible apply Z5); rfl; rfl; rfl; (first
      | exact (rfl : _ = some (Value.slice _ _ _))
      | exact (rfl : _ = some (Value.agg _))))
      | ((with_reducible apply Zv (hS)); rfl; rfl; rfl; rfl; rfl; (exact (rfl : _ = Value.int _ _)))
      | with_reducible refine Za ?_
      | with_reducible refine Zf ?_
      | with_reducible refine Ze ?_
      | with_reducible refine Z1 ?_
      | with_reducible refine Z0 ?_
      | with_reducible refine Zb ?_
      | with_reducible refine Zag ?_
      | ((with_reducible apply Zu); rfl))
     refine Zx ⟨⟨k, index, m - 1, acc ++ [(x, false)]⟩, ⟨by show k ≤ _; omega, g2, by show m - 1 + (acc ++ [(x, false)]).length ≤ n; simp; omega, ?_⟩, by show k < size; omega, ?_⟩
     ·rw [w, Option.map_eq_none_iff] at g4
      exact g4
     ·show Zb2 _ _ _ _ ⟨Tl [Iv (k : Nat), Iv (index : Nat), slv 0 0 (m - 1) c, dead, dead, dead, dead, slv 1 0 (acc ++ [(x, false)]).length (acc ++ [(x, false)]).length], [dsR ds, Zcp (acc ++ [(x, false)])]⟩
      rw [show (acc ++ [(x, false)]).length = acc.length + 1 from by simp]
      refine Z2 (n := 2) rfl ?_ rfl ?_
      repeat (first | exact trivial | refine ⟨.inl rfl, ?_⟩ | refine ⟨.inr ⟨rfl, rfl⟩, ?_⟩)
      ·simp [dsR, Zcp]
    ·have w := w2 (by omega)
     repeat (first
      | ((with_reducible apply Zq (nid := 2)); rfl; rfl; rfl; exact (show _ = [dsR ds, Zcp acc, st1 d0 false, hole] by kernel_rfl))
      | ((with_reducible apply Zab (e := [some (0, 0)]) (nid := 0) hL); rfl; rfl; rfl; rfl; rfl; rfl; rfl; refine ⟨⟨⟨rfl, rfl, rfl, by omega, by omega⟩, trivial⟩, ⟨Zg1 rfl (.inl rfl) (by omega) rfl, trivial⟩, rfl, rfl, rfl⟩; exact (show _ = Value.tuple #[dgV x, slv 0 0 (m - 1) c] by kernel_rfl); exact (show _ = [dsR ds, Zcp acc, st1 d0 false, hole] by kernel_rfl))
      | ((with_reducible apply Zj); rfl; exact (rfl : _ = Value.pointer (some ⟨2, 0, _⟩)); exact (rfl : _ = Value.agg _); exact (show _ = some (2, st1 x false) by kernel_rfl); exact (show _ = [dsR ds, Zcp acc, st1 x false, hole] by kernel_rfl))
      | ((with_reducible apply Zj); rfl; exact (rfl : _ = Value.pointer (some ⟨2, 32, _⟩)); exact (rfl : _ = Value.bool true); exact (show _ = some (2, st1 x true) by kernel_rfl); exact (show _ = [dsR ds, Zcp acc, st1 x true, hole] by kernel_rfl))
      | ((with_reducible apply Zg); rfl; rfl; exact (rfl : _ = Value.pointer (some ⟨2, 0, _⟩)); exact (show _ = some (Value.agg (Zaa w8 32 x ++ [Value.bool true]).toArray) by kernel_rfl))
      | ((with_reducible apply Zdd (nid := 3)); rfl; rfl; rfl; exact (rfl : _ = some (Value.slice _ _ _, _)); exact (show _ = [dsR ds, Zcp acc, st1 x true, Zcp [(x, true)]] by kernel_rfl))
      | ((with_reducible apply Za5); rfl; rfl; rfl; exact .inl ⟨_, rfl⟩; exact (rfl : _ = Value.slice (some ⟨_, _, _⟩) _ _); exact (rfl : _ = Value.slice (some ⟨_, _, _⟩) _ _); exact Zlq (n := acc.length) (n' := acc.length + 1) (ls := acc) (p := (x, true)) (rfl : _ = some (33, _, 33)) rfl (by kernel_rfl) rfl rfl rfl (by decide) (by omega); rfl; exact (show _ = [dsR ds, Zcp (acc ++ [(x, true)]), st1 x true, Zcp [(x, true)]] by kernel_rfl))
      | ((with_reducible apply Zd); rfl; rfl; (first
      | exact (rfl : _ = Value.int _ _)
      | exact (rfl : _ = Value.slice _ _ _)
      | exact (rfl : _ = Value.tuple _)))
      | ((with_reducible apply Zc); rfl; rfl; (first
      | exact (rfl : _ = Value.int _ _)
      | exact (rfl : _ = Value.slice _ _ _)))
      | ((with_reducible apply Zi); rfl; rfl; (exact (rfl : _ = Value.int _ _)); (exact (rfl : _ = Value.int _ _)); (first
      | with_reducible exact Zbv (by omega)
      | with_reducible exact Zde (by omega)
      | with_reducible exact Zb5 rfl (by omega) (by omega)))
      | ((with_reducible apply Zh); rfl; rfl; exact (rfl : _ = Value.pointer (some ⟨_, _, _⟩)); (first
      | exact (rfl : _ = some 0)
      | rfl); (exact Nat.zero_add _))
      | ((with_reducible apply Z5); rfl; rfl; rfl; (first
      | exact (rfl : _ = some (Value.slice _ _ _))
      | exact (rfl : _ = some (Value.agg _))))
      | ((with_reducible apply Zv (hS)); rfl; rfl; rfl; rfl; rfl; (exact (rfl : _ = Value.int _ _)))
      | with_reducible refine Za ?_
      | with_reducible refine Zf ?_
      | with_reducible refine Ze ?_
      | with_reducible refine Z1 ?_
      | with_reducible refine Z0 ?_
      | with_reducible refine Zb ?_
      | with_reducible refine Zag ?_
      | ((with_reducible apply Zu); rfl)
      | ((with_reducible apply Zr); rfl))
     refine Zx ⟨⟨size - k, index - k, m - 1, acc ++ [(x, true)]⟩, ⟨by show size - k ≤ _; omega, by show index - k ≤ _; omega, by show m - 1 + (acc ++ [(x, true)]).length ≤ n; simp; omega, ?_⟩, by show size - k < size; omega, ?_⟩
     ·rw [w, Option.map_eq_none_iff] at g4
      exact g4
     ·show Zb2 _ _ _ _ ⟨Tl [Iv ((size - k : Nat) : Int), Iv ((index - k : Nat) : Int), slv 0 0 (m - 1) c, dead, dead, dead, dead, slv 1 0 (acc ++ [(x, true)]).length (acc ++ [(x, true)]).length], [dsR ds, Zcp (acc ++ [(x, true)])]⟩
      rw [show (acc ++ [(x, true)]).length = acc.length + 1 from by simp, show ((size - k : Nat) : Int) = (size : Int) - k from by omega, show ((index - k : Nat) : Int) = (index : Int) - k from by omega]
      refine Z2 (n := 2) rfl ?_ rfl ?_
      repeat (first | exact trivial | refine ⟨.inl rfl, ?_⟩ | refine ⟨.inr ⟨rfl, rfl⟩, ?_⟩)
      ·simp [dsR, Zcp]
  ·rw [Zi7 index _ (by omega)] at g4
   split at g4
   ·cases g4
   ·rename_i hm0
    have hm : 0 < m := by rw [List.length_take] at hm0; omega
    iterate 18 (first
     | ((with_reducible apply Zd); rfl; rfl; (first
     | exact (rfl : _ = Value.int _ _)
     | exact (rfl : _ = Value.slice _ _ _)))
     | ((with_reducible apply Zi); rfl; rfl; (exact (rfl : _ = Value.int _ _)); (exact (rfl : _ = Value.int _ _)); (with_reducible exact Zcw (by omega)))
     | ((with_reducible apply Za6); rfl; rfl; (exact (rfl : _ = Value.slice _ _ _)); (exact (rfl : _ = some (Value.int _ _))))
     | with_reducible refine Za ?_
     | with_reducible refine Zf ?_
     | with_reducible refine Ze ?_
     | with_reducible refine Zbx ?_
     | with_reducible refine Zb ?_
     | with_reducible refine Zay ?_
     | with_reducible refine Zav ?_
     | ((with_reducible apply Zr); rfl)
     | ((with_reducible apply Za2); rfl))
    ((with_reducible apply Zi); rfl; rfl; exact (rfl : _ = Value.int _ _); exact (rfl : _ = Value.int _ _); exact Zde (by omega))
    with_reducible refine Za ?_
    with_reducible refine Zb ?_
    ((with_reducible apply Zu); rfl)
    refine Zgi 2 rfl (rfl : _ = [_, _]) ?_
    ((with_reducible apply Zbf); rfl; rfl; rfl; exact (rfl : _ = some (Value.agg _)))
    ((with_reducible apply Zfh); rfl; rfl; exact (rfl : _ = Value.agg _); exact (rfl : _ = some (Value.iface _ _)))
    refine Ze8 ⟨Zoh rfl rfl, fun u v => ?_⟩
    repeat (first | with_reducible refine Zf5 ?_ | with_reducible refine Zez ?_ | with_reducible refine Ze0 ?_)
    exact Zmo
end Go.Flat
