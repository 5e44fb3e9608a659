/- Walks. -/
import Derived.Test.YtfjkagjbanhdlaaGreatDoorK2
set_option linter.unusedVariables false
set_option linter.unusedSimpArgs false
set_option maxRecDepth 20000
namespace Go.Flat
open Go.Proofs
variable {G : Glob}
def st1 (x : D) (r : Bool) : Blk := { cells := Zag w8 32 x ++ [.bool r], sz := 33, wr := true, fix := true, mv := false, pur := true }
theorem Zoa {P : Program} {H : List Blk} {t : TypeId} {q : Value} {b c n n' by_ : Nat} {zc : List Value} {ls : List Stp} {p : Stp} (ht : Zdo P t = some (33, zc, by_)) (hz : zc.length = 33) (hs : Zgh H 33 q = some (1, Zf8 [p])) (hb : H[b]? = some (Zdp ls)) (hn : ls.length = n) (hk : n + 1 = n') (hby : 0 < by_) (hm : n' * by_ ≤ 140737488355328) :
  Zpv P H t (slv b 0 n c) q = some (slv b 0 n' n', b, Zdp (ls ++ [p])) := by
 have hc : (Zdp ls).cells.length = n * 33 := by show (Zf8 ls).length = _; rw [Zm7, hn]
 rw [Zey (n' := n') (p := (1, Zf8 [p])) ht hs hb rfl rfl hz (Z0y _) (by rw [hc]; omega) hby hk hm]
 have : List.take (n * 33) (List.drop 0 (Zdp ls).cells) ++ Zf8 [p] = Zf8 (ls ++ [p]) := by
  rw [List.drop_zero, List.take_of_length_le (by rw [hc]; exact Nat.le_refl _), Zxb]; rfl
 simp only [this]
 rfl
structure WayS where
  size : Nat
  index : Nat
  m : Nat
  acc : List Stp
theorem Ztl {ds : List D} {m : Nat} (h : m ≤ ds.length) (h0 : 0 < m) : (ds.take m).length = m ∧ (ds.take m).take ((ds.take m).length - 1) = ds.take (m - 1) := by
 have : (ds.take m).length = m := by simp; omega
 exact ⟨this, by rw [this, List.take_take, Nat.min_eq_left (by omega)]⟩
set_option maxHeartbeats 8000000 in
theorem Z7i (size index : Nat) (ds : List D) (n c : Nat) (l : List Stp) (hn : ds.length = n) (hb : n ≤ 1000) (hc : n ≤ c) (hs : size ≤ 1000000) (hi : index ≤ 1000000) (hw : Zi3 size index ds = some l) :
  Z6 Tryz.prog G 78 [Iv (size : Nat), Iv (index : Nat), slv 0 0 n c] [dsR ds] (slv 1 0 l.length l.length) [dsR ds, Zdp l] := by
 refine Za8 (fn := Tryz.f78) (nt := 41) rfl rfl rfl rfl ?_
 refine Zaa 1 (H' := [dsR ds, hole]) rfl ?_
 repeat (first
  | ((with_reducible apply Z3); rfl; rfl; (exact (rfl : _ = Value.slice _ _ _)))
  | with_reducible refine Za ?_
  | with_reducible refine Zg ?_
  | with_reducible refine Zf ?_
  | with_reducible refine Z1 ?_
  | with_reducible refine Zc ?_)
 refine Zbo (Zb6.nilTmp (i := 7) (b := 1) true 33 rfl (by decide) rfl) ?_
 refine Zbg (fun x : WayS => [Iv (x.size : Nat), Iv (x.index : Nat), slv 0 0 x.m c, dead, dead, dead, dead, slv 1 0 x.acc.length x.acc.length]) (fun x => [dsR ds, Zdp x.acc])
  (fun x => x.size ≤ 1000000 ∧ x.index ≤ 1000000 ∧ x.m + x.acc.length ≤ n ∧ (Zi3 x.size x.index (ds.take x.m)).map (fun t => x.acc ++ t) = some l) (fun x => x.size) ⟨size, index, n, []⟩ ⟨hs, hi, by simp, by rw [← hn, List.take_length, hw]; rfl⟩ ?_ ?_
 ·refine Z5 (n := 2) rfl ?_ rfl ?_
  repeat (first | exact trivial | refine ⟨.inl rfl, ?_⟩ | refine ⟨.inr ⟨rfl, rfl⟩, ?_⟩)
  ·simp [dsR, Zdp]
 ·rintro ⟨size, index, m, acc⟩ ⟨g1, g2, g3, g4⟩
  dsimp only at g1 g2 g3 g4 ⊢
  by_cases h1 : 1 < size
  ·rcases Nat.eq_zero_or_pos m with h0 | h0
   ·subst h0
    rw [Zw9 index (by omega) (by simp)] at g4
    cases g4
   ·obtain ⟨t1, t2⟩ := Ztl (ds := ds) (m := m) (by omega) h0
    obtain ⟨s1, s2⟩ := Zgg (n := size) (by omega)
    have hS := Zrq (G := G) (size : Int) (by omega)
    have hsz : Zdh (size : Int) = (Zaz size : Nat) := (Zd7 (n := size) (by omega)).2.2
    rw [hsz] at hS
    have hL := Zzh (G := G) (sub ds 0 m) (m - 1) c (by rw [Zcr (by omega)]; omega) (by omega) (by omega)
    rw [show m - 1 + 1 = m from by omega] at hL
    have hgd : (sub ds 0 m).getD (m - 1) d0 = (ds.take m).getD ((ds.take m).length - 1) d0 := by rw [t1]; simp [sub]
    rw [hgd] at hL
    have w1 := Zp1 (size := size) (index := index) (ds := ds.take m) (by omega) (by omega)
    have w2 := Zpz (size := size) (index := index) (ds := ds.take m) (by omega) (by omega)
    rw [t2] at w1 w2
    generalize (ds.take m).getD ((ds.take m).length - 1) d0 = x at *
    generalize Zaz size = k at *
    refine Zaa 2 (H' := [dsR ds, Zdp acc, hole, hole]) rfl ?_
    by_cases hik : index < k
    ·have w := w1 hik
     repeat (first
      | ((with_reducible apply Zbs (nid := 2)); rfl; rfl; rfl; exact (show _ = [dsR ds, Zdp acc, st1 d0 false, hole] by kernel_rfl))
      | ((with_reducible apply Z2 (e := [some (0, 0)]) (nid := 0) hL); rfl; rfl; rfl; rfl; rfl; rfl; rfl; refine ⟨⟨⟨rfl, rfl, rfl, by omega, by omega⟩, trivial⟩, ⟨Zgx rfl (.inl rfl) (by omega) rfl, trivial⟩, rfl, rfl, rfl⟩; exact (show _ = Value.tuple #[dgV x, slv 0 0 (m - 1) c] by kernel_rfl); exact (show _ = [dsR ds, Zdp acc, st1 d0 false, hole] by kernel_rfl))
      | ((with_reducible apply Zay); rfl; exact (rfl : _ = Value.pointer (some ⟨2, 0, _⟩)); exact (rfl : _ = Value.agg _); exact (show _ = some (2, st1 x false) by kernel_rfl); exact (show _ = [dsR ds, Zdp acc, st1 x false, hole] by kernel_rfl))
      | ((with_reducible apply Zad); rfl; rfl; exact (rfl : _ = Value.pointer (some ⟨2, 0, _⟩)); exact (show _ = some (Value.agg (Zag w8 32 x ++ [Value.bool false]).toArray) by kernel_rfl))
      | ((with_reducible apply Zdb (nid := 3)); rfl; rfl; rfl; exact (rfl : _ = some (Value.slice _ _ _, _)); exact (show _ = [dsR ds, Zdp acc, st1 x false, Zdp [(x, false)]] by kernel_rfl))
      | ((with_reducible apply Zbp); rfl; rfl; rfl; exact .inl ⟨_, rfl⟩; exact (rfl : _ = Value.slice (some ⟨_, _, _⟩) _ _); exact (rfl : _ = Value.slice (some ⟨_, _, _⟩) _ _); exact Zoa (n := acc.length) (n' := acc.length + 1) (ls := acc) (p := (x, false)) (rfl : _ = some (33, _, 33)) rfl (by kernel_rfl) rfl rfl rfl (by decide) (by omega); rfl; exact (show _ = [dsR ds, Zdp (acc ++ [(x, false)]), st1 x false, Zdp [(x, false)]] by kernel_rfl))
      | ((with_reducible apply Zac); rfl; rfl; (first
      | exact (rfl : _ = Value.int _ _)
      | exact (rfl : _ = Value.slice _ _ _)
      | exact (rfl : _ = Value.tuple _)))
      | ((with_reducible apply Z3); rfl; rfl; (first
      | exact (rfl : _ = Value.int _ _)
      | exact (rfl : _ = Value.slice _ _ _)))
      | ((with_reducible apply Zl); rfl; rfl; (exact (rfl : _ = Value.int _ _)); (exact (rfl : _ = Value.int _ _)); (first
      | with_reducible exact Zcc (by omega)
      | with_reducible exact Zes (by omega)))
      | ((with_reducible apply Za2); rfl; rfl; exact (rfl : _ = Value.pointer (some ⟨_, _, _⟩)); (exact (rfl : _ = some 0)); (exact Nat.zero_add _))
      | ((with_reducible apply Zg4); rfl; rfl; rfl; (first
      | exact (rfl : _ = some (Value.slice _ _ _))
      | exact (rfl : _ = some (Value.agg _))))
      | ((with_reducible apply Zo (hS)); rfl; rfl; rfl; rfl; rfl; (exact (rfl : _ = Value.int _ _)))
      | with_reducible refine Za ?_
      | with_reducible refine Zg ?_
      | with_reducible refine Zf ?_
      | with_reducible refine Z1 ?_
      | with_reducible refine Z0 ?_
      | with_reducible refine Zc ?_
      | with_reducible refine Z4 ?_
      | ((with_reducible apply Zx); rfl))
     refine Zao ⟨⟨k, index, m - 1, acc ++ [(x, false)]⟩, ⟨by show k ≤ _; omega, g2, by show m - 1 + (acc ++ [(x, false)]).length ≤ n; simp; omega, ?_⟩, by show k < size; omega, ?_⟩
     ·rw [w, Option.map_map] at g4
      rw [← g4]
      congr 1
      funext t
      simp
     ·show Zb6 _ _ _ _ ⟨Tl [Iv (k : Nat), Iv (index : Nat), slv 0 0 (m - 1) c, dead, dead, dead, dead, slv 1 0 (acc ++ [(x, false)]).length (acc ++ [(x, false)]).length], [dsR ds, Zdp (acc ++ [(x, false)])]⟩
      rw [show (acc ++ [(x, false)]).length = acc.length + 1 from by simp]
      refine Z5 (n := 2) rfl ?_ rfl ?_
      repeat (first | exact trivial | refine ⟨.inl rfl, ?_⟩ | refine ⟨.inr ⟨rfl, rfl⟩, ?_⟩)
      ·simp [dsR, Zdp]
    ·have w := w2 (by omega)
     repeat (first
      | ((with_reducible apply Zbs (nid := 2)); rfl; rfl; rfl; exact (show _ = [dsR ds, Zdp acc, st1 d0 false, hole] by kernel_rfl))
      | ((with_reducible apply Z2 (e := [some (0, 0)]) (nid := 0) hL); rfl; rfl; rfl; rfl; rfl; rfl; rfl; refine ⟨⟨⟨rfl, rfl, rfl, by omega, by omega⟩, trivial⟩, ⟨Zgx rfl (.inl rfl) (by omega) rfl, trivial⟩, rfl, rfl, rfl⟩; exact (show _ = Value.tuple #[dgV x, slv 0 0 (m - 1) c] by kernel_rfl); exact (show _ = [dsR ds, Zdp acc, st1 d0 false, hole] by kernel_rfl))
      | ((with_reducible apply Zay); rfl; exact (rfl : _ = Value.pointer (some ⟨2, 0, _⟩)); exact (rfl : _ = Value.agg _); exact (show _ = some (2, st1 x false) by kernel_rfl); exact (show _ = [dsR ds, Zdp acc, st1 x false, hole] by kernel_rfl))
      | ((with_reducible apply Zay); rfl; exact (rfl : _ = Value.pointer (some ⟨2, 32, _⟩)); exact (rfl : _ = Value.bool true); exact (show _ = some (2, st1 x true) by kernel_rfl); exact (show _ = [dsR ds, Zdp acc, st1 x true, hole] by kernel_rfl))
      | ((with_reducible apply Zad); rfl; rfl; exact (rfl : _ = Value.pointer (some ⟨2, 0, _⟩)); exact (show _ = some (Value.agg (Zag w8 32 x ++ [Value.bool true]).toArray) by kernel_rfl))
      | ((with_reducible apply Zdb (nid := 3)); rfl; rfl; rfl; exact (rfl : _ = some (Value.slice _ _ _, _)); exact (show _ = [dsR ds, Zdp acc, st1 x true, Zdp [(x, true)]] by kernel_rfl))
      | ((with_reducible apply Zbp); rfl; rfl; rfl; exact .inl ⟨_, rfl⟩; exact (rfl : _ = Value.slice (some ⟨_, _, _⟩) _ _); exact (rfl : _ = Value.slice (some ⟨_, _, _⟩) _ _); exact Zoa (n := acc.length) (n' := acc.length + 1) (ls := acc) (p := (x, true)) (rfl : _ = some (33, _, 33)) rfl (by kernel_rfl) rfl rfl rfl (by decide) (by omega); rfl; exact (show _ = [dsR ds, Zdp (acc ++ [(x, true)]), st1 x true, Zdp [(x, true)]] by kernel_rfl))
      | ((with_reducible apply Zac); rfl; rfl; (first
      | exact (rfl : _ = Value.int _ _)
      | exact (rfl : _ = Value.slice _ _ _)
      | exact (rfl : _ = Value.tuple _)))
      | ((with_reducible apply Z3); rfl; rfl; (first
      | exact (rfl : _ = Value.int _ _)
      | exact (rfl : _ = Value.slice _ _ _)))
      | ((with_reducible apply Zl); rfl; rfl; (exact (rfl : _ = Value.int _ _)); (exact (rfl : _ = Value.int _ _)); (first
      | with_reducible exact Zb5 (by omega)
      | with_reducible exact Zes (by omega)
      | with_reducible exact Zc4 rfl (by omega) (by omega)))
      | ((with_reducible apply Za2); rfl; rfl; exact (rfl : _ = Value.pointer (some ⟨_, _, _⟩)); (first
      | exact (rfl : _ = some 0)
      | rfl); (exact Nat.zero_add _))
      | ((with_reducible apply Zg4); rfl; rfl; rfl; (first
      | exact (rfl : _ = some (Value.slice _ _ _))
      | exact (rfl : _ = some (Value.agg _))))
      | ((with_reducible apply Zo (hS)); rfl; rfl; rfl; rfl; rfl; (exact (rfl : _ = Value.int _ _)))
      | with_reducible refine Za ?_
      | with_reducible refine Zg ?_
      | with_reducible refine Zf ?_
      | with_reducible refine Z1 ?_
      | with_reducible refine Z0 ?_
      | with_reducible refine Zc ?_
      | with_reducible refine Z4 ?_
      | ((with_reducible apply Zx); rfl)
      | ((with_reducible apply Zu); rfl))
     refine Zao ⟨⟨size - k, index - k, m - 1, acc ++ [(x, true)]⟩, ⟨by show size - k ≤ _; omega, by show index - k ≤ _; omega, by show m - 1 + (acc ++ [(x, true)]).length ≤ n; simp; omega, ?_⟩, by show size - k < size; omega, ?_⟩
     ·rw [w, Option.map_map] at g4
      rw [← g4]
      congr 1
      funext t
      simp
     ·show Zb6 _ _ _ _ ⟨Tl [Iv ((size - k : Nat) : Int), Iv ((index - k : Nat) : Int), slv 0 0 (m - 1) c, dead, dead, dead, dead, slv 1 0 (acc ++ [(x, true)]).length (acc ++ [(x, true)]).length], [dsR ds, Zdp (acc ++ [(x, true)])]⟩
      rw [show (acc ++ [(x, true)]).length = acc.length + 1 from by simp, show ((size - k : Nat) : Int) = (size : Int) - k from by omega, show ((index - k : Nat) : Int) = (index : Int) - k from by omega]
      refine Z5 (n := 2) rfl ?_ rfl ?_
      repeat (first | exact trivial | refine ⟨.inl rfl, ?_⟩ | refine ⟨.inr ⟨rfl, rfl⟩, ?_⟩)
      ·simp [dsR, Zdp]
  ·rw [Zk8 index _ (by omega)] at g4
   split at g4
   ·rename_i hm0
    have hm : m = 0 := by rw [List.length_take] at hm0; omega
    subst hm
    have hal : acc = l := by simpa using g4
    subst hal
    repeat (first
     | ((with_reducible apply Zac); rfl; rfl; (first
     | exact (rfl : _ = Value.int _ _)
     | exact (rfl : _ = Value.slice _ _ _)))
     | ((with_reducible apply Z3); rfl; rfl; (exact (rfl : _ = Value.slice _ _ _)))
     | ((with_reducible apply Zl); rfl; rfl; (exact (rfl : _ = Value.int _ _)); (exact (rfl : _ = Value.int _ _)); (with_reducible exact Zeq (by omega)))
     | ((with_reducible apply Zdm); rfl; rfl; (exact (rfl : _ = Value.slice _ _ _)); (exact (rfl : _ = some (Value.int _ _))))
     | with_reducible refine Za ?_
     | with_reducible refine Zg ?_
     | with_reducible refine Zf ?_
     | with_reducible refine Z0 ?_
     | with_reducible refine Zbb ?_
     | with_reducible refine Zq ?_
     | with_reducible refine Zc ?_
     | with_reducible refine Zaq ?_
     | with_reducible refine Zau ?_
     | ((with_reducible apply Zu); rfl)
     | ((with_reducible apply Zax); rfl))
    refine Zr ?_
    refine Zk (v := slv 1 0 acc.length acc.length) rfl rfl rfl ?_ ?_
    ·simp [Za0, dsR, Zdp]
    ·exact ⟨rfl, Nat.zero_add _ ▸ rfl, rfl, Nat.le_refl _, Nat.le_refl _⟩
   ·cases g4
end Go.Flat
namespace Go.Flat
open Go.Proofs
variable {G : Glob}
set_option maxRecDepth 20000 in
set_option maxHeartbeats 8000000 in
theorem Z63 (size index : Nat) (ds : List D) (n c : Nat) (hn : ds.length = n) (hb : n ≤ 1000) (hc : n ≤ c) (hs : size ≤ 1000000) (hi : index ≤ 1000000) (hw : Zi3 size index ds = none) :
  Ztx Tryz.prog G 78 [Iv (size : Nat), Iv (index : Nat), slv 0 0 n c] [dsR ds] := by
 refine Z7h (fn := Tryz.f78) (nt := 41) rfl rfl rfl rfl ?_
 refine Zaa 1 (H' := [dsR ds, hole]) rfl ?_
 repeat (first
  | ((with_reducible apply Z3); rfl; rfl; (exact (rfl : _ = Value.slice _ _ _)))
  | with_reducible refine Za ?_
  | with_reducible refine Zg ?_
  | with_reducible refine Zf ?_
  | with_reducible refine Z1 ?_
  | with_reducible refine Zc ?_)
 refine Zbo (Zb6.nilTmp (i := 7) (b := 1) true 33 rfl (by decide) rfl) ?_
 refine Zbg (fun x : WayS => [Iv (x.size : Nat), Iv (x.index : Nat), slv 0 0 x.m c, dead, dead, dead, dead, slv 1 0 x.acc.length x.acc.length]) (fun x => [dsR ds, Zdp x.acc])
  (fun x => x.size ≤ 1000000 ∧ x.index ≤ 1000000 ∧ x.m + x.acc.length ≤ n ∧ Zi3 x.size x.index (ds.take x.m) = none) (fun x => x.size) ⟨size, index, n, []⟩ ⟨hs, hi, by simp, by rw [← hn, List.take_length, hw]⟩ ?_ ?_
 ·refine Z5 (n := 2) rfl ?_ rfl ?_
  repeat (first | exact trivial | refine ⟨.inl rfl, ?_⟩ | refine ⟨.inr ⟨rfl, rfl⟩, ?_⟩)
  ·simp [dsR, Zdp]
 ·rintro ⟨size, index, m, acc⟩ ⟨g1, g2, g3, g4⟩
  dsimp only at g1 g2 g3 g4 ⊢
  by_cases h1 : 1 < size
  ·rcases Nat.eq_zero_or_pos m with h0 | h0
   ·subst h0
    have hL := Z21 (G := G) (sub ds 0 0) c (Zcr (by omega))
    refine Zaa 2 (H' := [dsR ds, Zdp acc, hole, hole]) rfl ?_
    iterate 13 (first
     | ((with_reducible apply Zac); rfl; rfl; (exact (rfl : _ = Value.int _ _)))
     | ((with_reducible apply Zl); rfl; rfl; (exact (rfl : _ = Value.int _ _)); (exact (rfl : _ = Value.int _ _)); (with_reducible exact Zes (by omega)))
     | with_reducible refine Za ?_
     | with_reducible refine Zg ?_
     | with_reducible refine Zf ?_
     | with_reducible refine Z1 ?_
     | with_reducible refine Z0 ?_
     | with_reducible refine Zc ?_
     | ((with_reducible apply Zx); rfl))
    with_reducible apply Zbs (nid := 2)
    rfl
    rfl
    rfl
    exact (rfl : _ = _ :: _)
    with_reducible refine Za ?_
    with_reducible refine Zc ?_
    with_reducible refine Zf ?_
    refine Zud 1 rfl (rfl : _ = [_]) ?_
    ((with_reducible apply Zac); rfl; rfl; exact (rfl : _ = Value.slice (some ⟨_, _, _⟩) _ _))
    refine Zkz ⟨p_call (e := [some (0, 0)]) hL rfl rfl rfl rfl rfl rfl rfl rfl ⟨⟨rfl, rfl, rfl, by omega, by omega⟩, trivial⟩ ⟨Zgx rfl (.inl rfl) (by omega) rfl, trivial⟩, fun u v => ?_⟩
    repeat (first | with_reducible refine Zpy ?_ | with_reducible refine Znd ?_ | with_reducible refine Zn2 ?_)
    exact Z2n
   ·obtain ⟨t1, t2⟩ := Ztl (ds := ds) (m := m) (by omega) h0
    obtain ⟨s1, s2⟩ := Zgg (n := size) (by omega)
    have hS := Zrq (G := G) (size : Int) (by omega)
    have hsz : Zdh (size : Int) = (Zaz size : Nat) := (Zd7 (n := size) (by omega)).2.2
    rw [hsz] at hS
    have hL := Zzh (G := G) (sub ds 0 m) (m - 1) c (by rw [Zcr (by omega)]; omega) (by omega) (by omega)
    rw [show m - 1 + 1 = m from by omega] at hL
    have hgd : (sub ds 0 m).getD (m - 1) d0 = (ds.take m).getD ((ds.take m).length - 1) d0 := by rw [t1]; simp [sub]
    rw [hgd] at hL
    have w1 := Zp1 (size := size) (index := index) (ds := ds.take m) (by omega) (by omega)
    have w2 := Zpz (size := size) (index := index) (ds := ds.take m) (by omega) (by omega)
    rw [t2] at w1 w2
    generalize (ds.take m).getD ((ds.take m).length - 1) d0 = x at *
    generalize Zaz size = k at *
    refine Zaa 2 (H' := [dsR ds, Zdp acc, hole, hole]) rfl ?_
    by_cases hik : index < k
    ·have w := w1 hik
     repeat (first
      | ((with_reducible apply Zbs (nid := 2)); rfl; rfl; rfl; exact (show _ = [dsR ds, Zdp acc, st1 d0 false, hole] by kernel_rfl))
      | ((with_reducible apply Z2 (e := [some (0, 0)]) (nid := 0) hL); rfl; rfl; rfl; rfl; rfl; rfl; rfl; refine ⟨⟨⟨rfl, rfl, rfl, by omega, by omega⟩, trivial⟩, ⟨Zgx rfl (.inl rfl) (by omega) rfl, trivial⟩, rfl, rfl, rfl⟩; exact (show _ = Value.tuple #[dgV x, slv 0 0 (m - 1) c] by kernel_rfl); exact (show _ = [dsR ds, Zdp acc, st1 d0 false, hole] by kernel_rfl))
      | ((with_reducible apply Zay); rfl; exact (rfl : _ = Value.pointer (some ⟨2, 0, _⟩)); exact (rfl : _ = Value.agg _); exact (show _ = some (2, st1 x false) by kernel_rfl); exact (show _ = [dsR ds, Zdp acc, st1 x false, hole] by kernel_rfl))
      | ((with_reducible apply Zad); rfl; rfl; exact (rfl : _ = Value.pointer (some ⟨2, 0, _⟩)); exact (show _ = some (Value.agg (Zag w8 32 x ++ [Value.bool false]).toArray) by kernel_rfl))
      | ((with_reducible apply Zdb (nid := 3)); rfl; rfl; rfl; exact (rfl : _ = some (Value.slice _ _ _, _)); exact (show _ = [dsR ds, Zdp acc, st1 x false, Zdp [(x, false)]] by kernel_rfl))
      | ((with_reducible apply Zbp); rfl; rfl; rfl; exact .inl ⟨_, rfl⟩; exact (rfl : _ = Value.slice (some ⟨_, _, _⟩) _ _); exact (rfl : _ = Value.slice (some ⟨_, _, _⟩) _ _); exact Zoa (n := acc.length) (n' := acc.length + 1) (ls := acc) (p := (x, false)) (rfl : _ = some (33, _, 33)) rfl (by kernel_rfl) rfl rfl rfl (by decide) (by omega); rfl; exact (show _ = [dsR ds, Zdp (acc ++ [(x, false)]), st1 x false, Zdp [(x, false)]] by kernel_rfl))
      | ((with_reducible apply Zac); rfl; rfl; (first
      | exact (rfl : _ = Value.int _ _)
      | exact (rfl : _ = Value.slice _ _ _)
      | exact (rfl : _ = Value.tuple _)))
      | ((with_reducible apply Z3); rfl; rfl; (first
      | exact (rfl : _ = Value.int _ _)
      | exact (rfl : _ = Value.slice _ _ _)))
      | ((with_reducible apply Zl); rfl; rfl; (exact (rfl : _ = Value.int _ _)); (exact (rfl : _ = Value.int _ _)); (first
      | with_reducible exact Zcc (by omega)
      | with_reducible exact Zes (by omega)))
      | ((with_reducible apply Za2); rfl; rfl; exact (rfl : _ = Value.pointer (some ⟨_, _, _⟩)); (exact (rfl : _ = some 0)); (exact Nat.zero_add _))
      | ((with_reducible apply Zg4); rfl; rfl; rfl; (first
      | exact (rfl : _ = some (Value.slice _ _ _))
      | exact (rfl : _ = some (Value.agg _))))
      | ((with_reducible apply Zo (hS)); rfl; rfl; rfl; rfl; rfl; (exact (rfl : _ = Value.int _ _)))
      | with_reducible refine Za ?_
      | with_reducible refine Zg ?_
      | with_reducible refine Zf ?_
      | with_reducible refine Z1 ?_
      | with_reducible refine Z0 ?_
      | with_reducible refine Zc ?_
      | with_reducible refine Z4 ?_
      | ((with_reducible apply Zx); rfl))
     refine Zao ⟨⟨k, index, m - 1, acc ++ [(x, false)]⟩, ⟨by show k ≤ _; omega, g2, by show m - 1 + (acc ++ [(x, false)]).length ≤ n; simp; omega, ?_⟩, by show k < size; omega, ?_⟩
     ·rw [w, Option.map_eq_none_iff] at g4
      exact g4
     ·show Zb6 _ _ _ _ ⟨Tl [Iv (k : Nat), Iv (index : Nat), slv 0 0 (m - 1) c, dead, dead, dead, dead, slv 1 0 (acc ++ [(x, false)]).length (acc ++ [(x, false)]).length], [dsR ds, Zdp (acc ++ [(x, false)])]⟩
      rw [show (acc ++ [(x, false)]).length = acc.length + 1 from by simp]
      refine Z5 (n := 2) rfl ?_ rfl ?_
      repeat (first | exact trivial | refine ⟨.inl rfl, ?_⟩ | refine ⟨.inr ⟨rfl, rfl⟩, ?_⟩)
      ·simp [dsR, Zdp]
    ·have w := w2 (by omega)
     repeat (first
      | ((with_reducible apply Zbs (nid := 2)); rfl; rfl; rfl; exact (show _ = [dsR ds, Zdp acc, st1 d0 false, hole] by kernel_rfl))
      | ((with_reducible apply Z2 (e := [some (0, 0)]) (nid := 0) hL); rfl; rfl; rfl; rfl; rfl; rfl; rfl; refine ⟨⟨⟨rfl, rfl, rfl, by omega, by omega⟩, trivial⟩, ⟨Zgx rfl (.inl rfl) (by omega) rfl, trivial⟩, rfl, rfl, rfl⟩; exact (show _ = Value.tuple #[dgV x, slv 0 0 (m - 1) c] by kernel_rfl); exact (show _ = [dsR ds, Zdp acc, st1 d0 false, hole] by kernel_rfl))
      | ((with_reducible apply Zay); rfl; exact (rfl : _ = Value.pointer (some ⟨2, 0, _⟩)); exact (rfl : _ = Value.agg _); exact (show _ = some (2, st1 x false) by kernel_rfl); exact (show _ = [dsR ds, Zdp acc, st1 x false, hole] by kernel_rfl))
      | ((with_reducible apply Zay); rfl; exact (rfl : _ = Value.pointer (some ⟨2, 32, _⟩)); exact (rfl : _ = Value.bool true); exact (show _ = some (2, st1 x true) by kernel_rfl); exact (show _ = [dsR ds, Zdp acc, st1 x true, hole] by kernel_rfl))
      | ((with_reducible apply Zad); rfl; rfl; exact (rfl : _ = Value.pointer (some ⟨2, 0, _⟩)); exact (show _ = some (Value.agg (Zag w8 32 x ++ [Value.bool true]).toArray) by kernel_rfl))
      | ((with_reducible apply Zdb (nid := 3)); rfl; rfl; rfl; exact (rfl : _ = some (Value.slice _ _ _, _)); exact (show _ = [dsR ds, Zdp acc, st1 x true, Zdp [(x, true)]] by kernel_rfl))
      | ((with_reducible apply Zbp); rfl; rfl; rfl; exact .inl ⟨_, rfl⟩; exact (rfl : _ = Value.slice (some ⟨_, _, _⟩) _ _); exact (rfl : _ = Value.slice (some ⟨_, _, _⟩) _ _); exact Zoa (n := acc.length) (n' := acc.length + 1) (ls := acc) (p := (x, true)) (rfl : _ = some (33, _, 33)) rfl (by kernel_rfl) rfl rfl rfl (by decide) (by omega); rfl; exact (show _ = [dsR ds, Zdp (acc ++ [(x, true)]), st1 x true, Zdp [(x, true)]] by kernel_rfl))
      | ((with_reducible apply Zac); rfl; rfl; (first
      | exact (rfl : _ = Value.int _ _)
      | exact (rfl : _ = Value.slice _ _ _)
      | exact (rfl : _ = Value.tuple _)))
      | ((with_reducible apply Z3); rfl; rfl; (first
      | exact (rfl : _ = Value.int _ _)
      | exact (rfl : _ = Value.slice _ _ _)))
      | ((with_reducible apply Zl); rfl; rfl; (exact (rfl : _ = Value.int _ _)); (exact (rfl : _ = Value.int _ _)); (first
      | with_reducible exact Zb5 (by omega)
      | with_reducible exact Zes (by omega)
      | with_reducible exact Zc4 rfl (by omega) (by omega)))
      | ((with_reducible apply Za2); rfl; rfl; exact (rfl : _ = Value.pointer (some ⟨_, _, _⟩)); (first
      | exact (rfl : _ = some 0)
      | rfl); (exact Nat.zero_add _))
      | ((with_reducible apply Zg4); rfl; rfl; rfl; (first
      | exact (rfl : _ = some (Value.slice _ _ _))
      | exact (rfl : _ = some (Value.agg _))))
      | ((with_reducible apply Zo (hS)); rfl; rfl; rfl; rfl; rfl; (exact (rfl : _ = Value.int _ _)))
      | with_reducible refine Za ?_
      | with_reducible refine Zg ?_
      | with_reducible refine Zf ?_
      | with_reducible refine Z1 ?_
      | with_reducible refine Z0 ?_
      | with_reducible refine Zc ?_
      | with_reducible refine Z4 ?_
      | ((with_reducible apply Zx); rfl)
      | ((with_reducible apply Zu); rfl))
     refine Zao ⟨⟨size - k, index - k, m - 1, acc ++ [(x, true)]⟩, ⟨by show size - k ≤ _; omega, by show index - k ≤ _; omega, by show m - 1 + (acc ++ [(x, true)]).length ≤ n; simp; omega, ?_⟩, by show size - k < size; omega, ?_⟩
     ·rw [w, Option.map_eq_none_iff] at g4
      exact g4
     ·show Zb6 _ _ _ _ ⟨Tl [Iv ((size - k : Nat) : Int), Iv ((index - k : Nat) : Int), slv 0 0 (m - 1) c, dead, dead, dead, dead, slv 1 0 (acc ++ [(x, true)]).length (acc ++ [(x, true)]).length], [dsR ds, Zdp (acc ++ [(x, true)])]⟩
      rw [show (acc ++ [(x, true)]).length = acc.length + 1 from by simp, show ((size - k : Nat) : Int) = (size : Int) - k from by omega, show ((index - k : Nat) : Int) = (index : Int) - k from by omega]
      refine Z5 (n := 2) rfl ?_ rfl ?_
      repeat (first | exact trivial | refine ⟨.inl rfl, ?_⟩ | refine ⟨.inr ⟨rfl, rfl⟩, ?_⟩)
      ·simp [dsR, Zdp]
  ·rw [Zk8 index _ (by omega)] at g4
   split at g4
   ·cases g4
   ·rename_i hm0
    have hm : 0 < m := by rw [List.length_take] at hm0; omega
    iterate 18 (first
     | ((with_reducible apply Zac); rfl; rfl; (first
     | exact (rfl : _ = Value.int _ _)
     | exact (rfl : _ = Value.slice _ _ _)))
     | ((with_reducible apply Zl); rfl; rfl; (exact (rfl : _ = Value.int _ _)); (exact (rfl : _ = Value.int _ _)); (with_reducible exact Zeq (by omega)))
     | ((with_reducible apply Zdm); rfl; rfl; (exact (rfl : _ = Value.slice _ _ _)); (exact (rfl : _ = some (Value.int _ _))))
     | with_reducible refine Za ?_
     | with_reducible refine Zg ?_
     | with_reducible refine Zf ?_
     | with_reducible refine Zbb ?_
     | with_reducible refine Zc ?_
     | with_reducible refine Zaq ?_
     | with_reducible refine Zau ?_
     | ((with_reducible apply Zu); rfl)
     | ((with_reducible apply Zax); rfl))
    ((with_reducible apply Zl); rfl; rfl; exact (rfl : _ = Value.int _ _); exact (rfl : _ = Value.int _ _); exact Zes (by omega))
    with_reducible refine Za ?_
    with_reducible refine Zc ?_
    ((with_reducible apply Zx); rfl)
    refine Zud 2 rfl (rfl : _ = [_, _]) ?_
    ((with_reducible apply Za5); rfl; rfl; rfl; exact (rfl : _ = some (Value.agg _)))
    ((with_reducible apply Zkn); rfl; rfl; exact (rfl : _ = Value.agg _); exact (rfl : _ = some (Value.iface _ _)))
    refine Zkz ⟨Zze rfl rfl, fun u v => ?_⟩
    repeat (first | with_reducible refine Zpy ?_ | with_reducible refine Znd ?_ | with_reducible refine Zn2 ?_)
    exact Z2n
end Go.Flat
