/- Walks. -/
import Derived.Test.YtfjkagjbanhdlaaDoorK2
set_option linter.unusedVariables false
set_option linter.unusedSimpArgs false
set_option maxRecDepth 20000
namespace Go.Flat
open Go.Proofs
variable {G : Glob}
def st1 (x : D) (r : Bool) : Blk := { cells := Z6 w8 32 x ++ [.bool r], sz := 33, wr := true, fix := true, mv := false, pur := true }
theorem Zl5 {P : Program} {H : List Blk} {t : TypeId} {q : Value} {b c n n' by_ : Nat} {zc : List Value} {ls : List Stp} {p : Stp} (ht : Zdf P t = some (33, zc, by_)) (hz : zc.length = 33) (hs : Zhw H 33 q = some (1, Zfj [p])) (hb : H[b]? = some (Zcz ls)) (hn : ls.length = n) (hk : n + 1 = n') (hby : 0 < by_) (hm : n' * by_ ≤ 140737488355328) :
  Zpb P H t (slv b 0 n c) q = some (slv b 0 n' n', b, Zcz (ls ++ [p])) := by
 have hc : (Zcz ls).cells.length = n * 33 := by show (Zfj ls).length = _; rw [Zne, hn]
 rw [Zeo (n' := n') (p := (1, Zfj [p])) ht hs hb rfl rfl hz (Z0c _) (by rw [hc]; omega) hby hk hm]
 have : List.take (n * 33) (List.drop 0 (Zcz ls).cells) ++ Zfj [p] = Zfj (ls ++ [p]) := by
  rw [List.drop_zero, List.take_of_length_le (by rw [hc]; exact Nat.le_refl _), Zvo]; rfl
 simp only [this]
 rfl
structure WayS where
  size : Nat
  index : Nat
  m : Nat
  acc : List Stp
theorem Zr3 {ds : List D} {m : Nat} (h : m ≤ ds.length) (h0 : 0 < m) : (ds.take m).length = m ∧ (ds.take m).take ((ds.take m).length - 1) = ds.take (m - 1) := by
 have : (ds.take m).length = m := by simp; omega
 exact ⟨this, by rw [this, List.take_take, Nat.min_eq_left (by omega)]⟩
set_option maxHeartbeats 8000000 in
theorem Z6m (size index : Nat) (ds : List D) (n c : Nat) (l : List Stp) (hn : ds.length = n) (hb : n ≤ 1000) (hc : n ≤ c) (hs : size ≤ 1000000) (hi : index ≤ 1000000) (hw : Zip size index ds = some l) :
  Z9 Tryd.prog G 36 [Iv (size : Nat), Iv (index : Nat), slv 0 0 n c] [dsR ds] (slv 1 0 l.length l.length) [dsR ds, Zcz l] := by
 refine Zbu (fn := Tryd.f36) (nt := 41) rfl rfl rfl rfl ?_
 refine Zaj 1 (H' := [dsR ds, hole]) rfl ?_
 repeat (first
  | ((with_reducible apply Zak); rfl; rfl; (exact (rfl : _ = Value.slice _ _ _)))
  | with_reducible refine Za ?_
  | with_reducible refine Zf ?_
  | with_reducible refine Ze ?_
  | with_reducible refine Z5 ?_
  | with_reducible refine Zc ?_)
 refine Zb5 (Zbo.nilTmp (i := 7) (b := 1) true 33 rfl (by decide) rfl) ?_
 refine Zck (fun x : WayS => [Iv (x.size : Nat), Iv (x.index : Nat), slv 0 0 x.m c, dead, dead, dead, dead, slv 1 0 x.acc.length x.acc.length]) (fun x => [dsR ds, Zcz x.acc])
  (fun x => x.size ≤ 1000000 ∧ x.index ≤ 1000000 ∧ x.m + x.acc.length ≤ n ∧ (Zip x.size x.index (ds.take x.m)).map (fun t => x.acc ++ t) = some l) (fun x => x.size) ⟨size, index, n, []⟩ ⟨hs, hi, by simp, by rw [← hn, List.take_length, hw]; rfl⟩ ?_ ?_
 ·refine Zam (n := 2) rfl ?_ rfl ?_
  repeat (first | exact trivial | refine ⟨.inl rfl, ?_⟩ | refine ⟨.inr ⟨rfl, rfl⟩, ?_⟩)
  ·simp [dsR, Zcz]
 ·rintro ⟨size, index, m, acc⟩ ⟨g1, g2, g3, g4⟩
  dsimp only at g1 g2 g3 g4 ⊢
  by_cases h1 : 1 < size
  ·rcases Nat.eq_zero_or_pos m with h0 | h0
   ·subst h0
    rw [Zvw index (by omega) (by simp)] at g4
    cases g4
   ·obtain ⟨t1, t2⟩ := Zr3 (ds := ds) (m := m) (by omega) h0
    obtain ⟨s1, s2⟩ := Zfp (n := size) (by omega)
    have hS := Zo9 (G := G) (size : Int) (by omega)
    have hsz : Zd2 (size : Int) = (Zaq size : Nat) := (Zfo (n := size) (by omega)).2.2
    rw [hsz] at hS
    have hL := Zyp (G := G) (sub ds 0 m) (m - 1) c (by rw [Zdr (by omega)]; omega) (by omega) (by omega)
    rw [show m - 1 + 1 = m from by omega] at hL
    have hgd : (sub ds 0 m).getD (m - 1) d0 = (ds.take m).getD ((ds.take m).length - 1) d0 := by rw [t1]; simp [sub]
    rw [hgd] at hL
    have w1 := Zo5 (size := size) (index := index) (ds := ds.take m) (by omega) (by omega)
    have w2 := Zo4 (size := size) (index := index) (ds := ds.take m) (by omega) (by omega)
    rw [t2] at w1 w2
    generalize (ds.take m).getD ((ds.take m).length - 1) d0 = x at *
    generalize Zaq size = k at *
    refine Zaj 2 (H' := [dsR ds, Zcz acc, hole, hole]) rfl ?_
    by_cases hik : index < k
    ·have w := w1 hik
     repeat (first
      | ((with_reducible apply Zcb (nid := 2)); rfl; rfl; rfl; exact (show _ = [dsR ds, Zcz acc, st1 d0 false, hole] by kernel_rfl))
      | ((with_reducible apply Zab (e := [some (0, 0)]) (nid := 0) hL); rfl; rfl; rfl; rfl; rfl; rfl; rfl; refine ⟨⟨⟨rfl, rfl, rfl, by omega, by omega⟩, trivial⟩, ⟨Zmc rfl (.inl rfl) (by omega) rfl, trivial⟩, rfl, rfl, rfl⟩; exact (show _ = Value.tuple #[dgV x, slv 0 0 (m - 1) c] by kernel_rfl); exact (show _ = [dsR ds, Zcz acc, st1 d0 false, hole] by kernel_rfl))
      | ((with_reducible apply Za1); rfl; exact (rfl : _ = Value.pointer (some ⟨2, 0, _⟩)); exact (rfl : _ = Value.agg _); exact (show _ = some (2, st1 x false) by kernel_rfl); exact (show _ = [dsR ds, Zcz acc, st1 x false, hole] by kernel_rfl))
      | ((with_reducible apply Zal); rfl; rfl; exact (rfl : _ = Value.pointer (some ⟨2, 0, _⟩)); exact (show _ = some (Value.agg (Z6 w8 32 x ++ [Value.bool false]).toArray) by kernel_rfl))
      | ((with_reducible apply Zel (nid := 3)); rfl; rfl; rfl; exact (rfl : _ = some (Value.slice _ _ _, _)); exact (show _ = [dsR ds, Zcz acc, st1 x false, Zcz [(x, false)]] by kernel_rfl))
      | ((with_reducible apply Zc9); rfl; rfl; rfl; exact .inl ⟨_, rfl⟩; exact (rfl : _ = Value.slice (some ⟨_, _, _⟩) _ _); exact (rfl : _ = Value.slice (some ⟨_, _, _⟩) _ _); exact Zl5 (n := acc.length) (n' := acc.length + 1) (ls := acc) (p := (x, false)) (rfl : _ = some (33, _, 33)) rfl (by kernel_rfl) rfl rfl rfl (by decide) (by omega); rfl; exact (show _ = [dsR ds, Zcz (acc ++ [(x, false)]), st1 x false, Zcz [(x, false)]] by kernel_rfl))
      | ((with_reducible apply Zan); rfl; rfl; (first
      | exact (rfl : _ = Value.int _ _)
      | exact (rfl : _ = Value.slice _ _ _)
      | exact (rfl : _ = Value.tuple _)))
      | ((with_reducible apply Zak); rfl; rfl; (first
      | exact (rfl : _ = Value.int _ _)
      | exact (rfl : _ = Value.slice _ _ _)))
      | ((with_reducible apply Zj); rfl; rfl; (exact (rfl : _ = Value.int _ _)); (exact (rfl : _ = Value.int _ _)); (first
      | with_reducible exact Zdd (by omega)
      | with_reducible exact Ze3 (by omega)))
      | ((with_reducible apply Za2); rfl; rfl; exact (rfl : _ = Value.pointer (some ⟨_, _, _⟩)); (exact (rfl : _ = some 0)); (exact Nat.zero_add _))
      | ((with_reducible apply Zgb); rfl; rfl; rfl; (first
      | exact (rfl : _ = some (Value.slice _ _ _))
      | exact (rfl : _ = some (Value.agg _))))
      | ((with_reducible apply Zp (hS)); rfl; rfl; rfl; rfl; rfl; (exact (rfl : _ = Value.int _ _)))
      | with_reducible refine Za ?_
      | with_reducible refine Zf ?_
      | with_reducible refine Ze ?_
      | with_reducible refine Z5 ?_
      | with_reducible refine Z0 ?_
      | with_reducible refine Zc ?_
      | with_reducible refine Zz ?_
      | ((with_reducible apply Zv); rfl))
     refine Zas ⟨⟨k, index, m - 1, acc ++ [(x, false)]⟩, ⟨by show k ≤ _; omega, g2, by show m - 1 + (acc ++ [(x, false)]).length ≤ n; simp; omega, ?_⟩, by show k < size; omega, ?_⟩
     ·rw [w, Option.map_map] at g4
      rw [← g4]
      congr 1
      funext t
      simp
     ·show Zbo _ _ _ _ ⟨Tl [Iv (k : Nat), Iv (index : Nat), slv 0 0 (m - 1) c, dead, dead, dead, dead, slv 1 0 (acc ++ [(x, false)]).length (acc ++ [(x, false)]).length], [dsR ds, Zcz (acc ++ [(x, false)])]⟩
      rw [show (acc ++ [(x, false)]).length = acc.length + 1 from by simp]
      refine Zam (n := 2) rfl ?_ rfl ?_
      repeat (first | exact trivial | refine ⟨.inl rfl, ?_⟩ | refine ⟨.inr ⟨rfl, rfl⟩, ?_⟩)
      ·simp [dsR, Zcz]
    ·have w := w2 (by omega)
     repeat (first
      | ((with_reducible apply Zcb (nid := 2)); rfl; rfl; rfl; exact (show _ = [dsR ds, Zcz acc, st1 d0 false, hole] by kernel_rfl))
      | ((with_reducible apply Zab (e := [some (0, 0)]) (nid := 0) hL); rfl; rfl; rfl; rfl; rfl; rfl; rfl; refine ⟨⟨⟨rfl, rfl, rfl, by omega, by omega⟩, trivial⟩, ⟨Zmc rfl (.inl rfl) (by omega) rfl, trivial⟩, rfl, rfl, rfl⟩; exact (show _ = Value.tuple #[dgV x, slv 0 0 (m - 1) c] by kernel_rfl); exact (show _ = [dsR ds, Zcz acc, st1 d0 false, hole] by kernel_rfl))
      | ((with_reducible apply Za1); rfl; exact (rfl : _ = Value.pointer (some ⟨2, 0, _⟩)); exact (rfl : _ = Value.agg _); exact (show _ = some (2, st1 x false) by kernel_rfl); exact (show _ = [dsR ds, Zcz acc, st1 x false, hole] by kernel_rfl))
      | ((with_reducible apply Za1); rfl; exact (rfl : _ = Value.pointer (some ⟨2, 32, _⟩)); exact (rfl : _ = Value.bool true); exact (show _ = some (2, st1 x true) by kernel_rfl); exact (show _ = [dsR ds, Zcz acc, st1 x true, hole] by kernel_rfl))
      | ((with_reducible apply Zal); rfl; rfl; exact (rfl : _ = Value.pointer (some ⟨2, 0, _⟩)); exact (show _ = some (Value.agg (Z6 w8 32 x ++ [Value.bool true]).toArray) by kernel_rfl))
      | ((with_reducible apply Zel (nid := 3)); rfl; rfl; rfl; exact (rfl : _ = some (Value.slice _ _ _, _)); exact (show _ = [dsR ds, Zcz acc, st1 x true, Zcz [(x, true)]] by kernel_rfl))
      | ((with_reducible apply Zc9); rfl; rfl; rfl; exact .inl ⟨_, rfl⟩; exact (rfl : _ = Value.slice (some ⟨_, _, _⟩) _ _); exact (rfl : _ = Value.slice (some ⟨_, _, _⟩) _ _); exact Zl5 (n := acc.length) (n' := acc.length + 1) (ls := acc) (p := (x, true)) (rfl : _ = some (33, _, 33)) rfl (by kernel_rfl) rfl rfl rfl (by decide) (by omega); rfl; exact (show _ = [dsR ds, Zcz (acc ++ [(x, true)]), st1 x true, Zcz [(x, true)]] by kernel_rfl))
      | ((with_reducible apply Zan); rfl; rfl; (first
      | exact (rfl : _ = Value.int _ _)
      | exact (rfl : _ = Value.slice _ _ _)
      | exact (rfl : _ = Value.tuple _)))
      | ((with_reducible apply Zak); rfl; rfl; (first
      | exact (rfl : _ = Value.int _ _)
      | exact (rfl : _ = Value.slice _ _ _)))
      | ((with_reducible apply Zj); rfl; rfl; (exact (rfl : _ = Value.int _ _)); (exact (rfl : _ = Value.int _ _)); (first
      | with_reducible exact Zcw (by omega)
      | with_reducible exact Ze3 (by omega)
      | with_reducible exact Zdg rfl (by omega) (by omega)))
      | ((with_reducible apply Za2); rfl; rfl; exact (rfl : _ = Value.pointer (some ⟨_, _, _⟩)); (first
      | exact (rfl : _ = some 0)
      | rfl); (exact Nat.zero_add _))
      | ((with_reducible apply Zgb); rfl; rfl; rfl; (first
      | exact (rfl : _ = some (Value.slice _ _ _))
      | exact (rfl : _ = some (Value.agg _))))
      | ((with_reducible apply Zp (hS)); rfl; rfl; rfl; rfl; rfl; (exact (rfl : _ = Value.int _ _)))
      | with_reducible refine Za ?_
      | with_reducible refine Zf ?_
      | with_reducible refine Ze ?_
      | with_reducible refine Z5 ?_
      | with_reducible refine Z0 ?_
      | with_reducible refine Zc ?_
      | with_reducible refine Zz ?_
      | ((with_reducible apply Zv); rfl)
      | ((with_reducible apply Zt); rfl))
     refine Zas ⟨⟨size - k, index - k, m - 1, acc ++ [(x, true)]⟩, ⟨by show size - k ≤ _; omega, by show index - k ≤ _; omega, by show m - 1 + (acc ++ [(x, true)]).length ≤ n; simp; omega, ?_⟩, by show size - k < size; omega, ?_⟩
     ·rw [w, Option.map_map] at g4
      rw [← g4]
      congr 1
      funext t
      simp
     ·show Zbo _ _ _ _ ⟨Tl [Iv ((size - k : Nat) : Int), Iv ((index - k : Nat) : Int), slv 0 0 (m - 1) c, dead, dead, dead, dead, slv 1 0 (acc ++ [(x, true)]).length (acc ++ [(x, true)]).length], [dsR ds, Zcz (acc ++ [(x, true)])]⟩
      rw [show (acc ++ [(x, true)]).length = acc.length + 1 from by simp, show ((size - k : Nat) : Int) = (size : Int) - k from by omega, show ((index - k : Nat) : Int) = (index : Int) - k from by omega]
      refine Zam (n := 2) rfl ?_ rfl ?_
      repeat (first | exact trivial | refine ⟨.inl rfl, ?_⟩ | refine ⟨.inr ⟨rfl, rfl⟩, ?_⟩)
      ·simp [dsR, Zcz]
  ·rw [Zkp index _ (by omega)] at g4
   split at g4
   ·rename_i hm0
    have hm : m = 0 := by rw [List.length_take] at hm0; omega
    subst hm
    have hal : acc = l := by simpa using g4
    subst hal
    repeat (first
     | ((with_reducible apply Zan); rfl; rfl; (first
     | exact (rfl : _ = Value.int _ _)
     | exact (rfl : _ = Value.slice _ _ _)))
     | ((with_reducible apply Zak); rfl; rfl; (exact (rfl : _ = Value.slice _ _ _)))
     | ((with_reducible apply Zj); rfl; rfl; (exact (rfl : _ = Value.int _ _)); (exact (rfl : _ = Value.int _ _)); (with_reducible exact Ze2 (by omega)))
     | ((with_reducible apply Ze6); rfl; rfl; (exact (rfl : _ = Value.slice _ _ _)); (exact (rfl : _ = some (Value.int _ _))))
     | with_reducible refine Za ?_
     | with_reducible refine Zf ?_
     | with_reducible refine Ze ?_
     | with_reducible refine Z0 ?_
     | with_reducible refine Zbn ?_
     | with_reducible refine Zs ?_
     | with_reducible refine Zc ?_
     | with_reducible refine Zat ?_
     | with_reducible refine Za3 ?_
     | ((with_reducible apply Zt); rfl)
     | ((with_reducible apply Zay); rfl))
    refine Zu ?_
    refine Zm (v := slv 1 0 acc.length acc.length) rfl rfl rfl ?_ ?_
    ·simp [Zbe, dsR, Zcz]
    ·exact ⟨rfl, Nat.zero_add _ ▸ rfl, rfl, Nat.le_refl _, Nat.le_refl _⟩
   ·cases g4
end Go.Flat
namespace Go.Flat
open Go.Proofs
variable {G : Glob}
set_option maxRecDepth 20000 in
set_option maxHeartbeats 8000000 in
theorem Z49 (size index : Nat) (ds : List D) (n c : Nat) (hn : ds.length = n) (hb : n ≤ 1000) (hc : n ≤ c) (hs : size ≤ 1000000) (hi : index ≤ 1000000) (hw : Zip size index ds = none) :
  Zsc Tryd.prog G 36 [Iv (size : Nat), Iv (index : Nat), slv 0 0 n c] [dsR ds] := by
 refine Z5i (fn := Tryd.f36) (nt := 41) rfl rfl rfl rfl ?_
 refine Zaj 1 (H' := [dsR ds, hole]) rfl ?_
 repeat (first
  | ((with_reducible apply Zak); rfl; rfl; (exact (rfl : _ = Value.slice _ _ _)))
  | with_reducible refine Za ?_
  | with_reducible refine Zf ?_
  | with_reducible refine Ze ?_
  | with_reducible refine Z5 ?_
  | with_reducible refine Zc ?_)
 refine Zb5 (Zbo.nilTmp (i := 7) (b := 1) true 33 rfl (by decide) rfl) ?_
 refine Zck (fun x : WayS => [Iv (x.size : Nat), Iv (x.index : Nat), slv 0 0 x.m c, dead, dead, dead, dead, slv 1 0 x.acc.length x.acc.length]) (fun x => [dsR ds, Zcz x.acc])
  (fun x => x.size ≤ 1000000 ∧ x.index ≤ 1000000 ∧ x.m + x.acc.length ≤ n ∧ Zip x.size x.index (ds.take x.m) = none) (fun x => x.size) ⟨size, index, n, []⟩ ⟨hs, hi, by simp, by rw [← hn, List.take_length, hw]⟩ ?_ ?_
 ·refine Zam (n := 2) rfl ?_ rfl ?_
  repeat (first | exact trivial | refine ⟨.inl rfl, ?_⟩ | refine ⟨.inr ⟨rfl, rfl⟩, ?_⟩)
  ·simp [dsR, Zcz]
 ·rintro ⟨size, index, m, acc⟩ ⟨g1, g2, g3, g4⟩
  dsimp only at g1 g2 g3 g4 ⊢
  by_cases h1 : 1 < size
  ·rcases Nat.eq_zero_or_pos m with h0 | h0
   ·subst h0
    have hL := Z10 (G := G) (sub ds 0 0) c (Zdr (by omega))
    refine Zaj 2 (H' := [dsR ds, Zcz acc, hole, hole]) rfl ?_
    iterate 13 (first
     | ((with_reducible apply Zan); rfl; rfl; (exact (rfl : _ = Value.int _ _)))
     | ((with_reducible apply Zj); rfl; rfl; (exact (rfl : _ = Value.int _ _)); (exact (rfl : _ = Value.int _ _)); (with_reducible exact Ze3 (by omega)))
     | with_reducible refine Za ?_
     | with_reducible refine Zf ?_
     | with_reducible refine Ze ?_
     | with_reducible refine Z5 ?_
     | with_reducible refine Z0 ?_
     | with_reducible refine Zc ?_
     | ((with_reducible apply Zv); rfl))
    with_reducible apply Zcb (nid := 2)
    rfl
    rfl
    rfl
    exact (rfl : _ = _ :: _)
    with_reducible refine Za ?_
    with_reducible refine Zc ?_
    with_reducible refine Ze ?_
    refine Zsk 1 rfl (rfl : _ = [_]) ?_
    ((with_reducible apply Zan); rfl; rfl; exact (rfl : _ = Value.slice (some ⟨_, _, _⟩) _ _))
    refine Zkj ⟨Z6c (e := [some (0, 0)]) hL rfl rfl rfl rfl rfl rfl rfl rfl ⟨⟨rfl, rfl, rfl, by omega, by omega⟩, trivial⟩ ⟨Zmc rfl (.inl rfl) (by omega) rfl, trivial⟩, fun u v => ?_⟩
    repeat (first | with_reducible refine Zo6 ?_ | with_reducible refine Znk ?_ | with_reducible refine Znl ?_)
    exact Z3g
   ·obtain ⟨t1, t2⟩ := Zr3 (ds := ds) (m := m) (by omega) h0
    obtain ⟨s1, s2⟩ := Zfp (n := size) (by omega)
    have hS := Zo9 (G := G) (size : Int) (by omega)
    have hsz : Zd2 (size : Int) = (Zaq size : Nat) := (Zfo (n := size) (by omega)).2.2
    rw [hsz] at hS
    have hL := Zyp (G := G) (sub ds 0 m) (m - 1) c (by rw [Zdr (by omega)]; omega) (by omega) (by omega)
    rw [show m - 1 + 1 = m from by omega] at hL
    have hgd : (sub ds 0 m).getD (m - 1) d0 = (ds.take m).getD ((ds.take m).length - 1) d0 := by rw [t1]; simp [sub]
    rw [hgd] at hL
    have w1 := Zo5 (size := size) (index := index) (ds := ds.take m) (by omega) (by omega)
    have w2 := Zo4 (size := size) (index := index) (ds := ds.take m) (by omega) (by omega)
    rw [t2] at w1 w2
    generalize (ds.take m).getD ((ds.take m).length - 1) d0 = x at *
    generalize Zaq size = k at *
    refine Zaj 2 (H' := [dsR ds, Zcz acc, hole, hole]) rfl ?_
    by_cases hik : index < k
    ·have w := w1 hik
     repeat (first
      | ((with_reducible apply Zcb (nid := 2)); rfl; rfl; rfl; exact (show _ = [dsR ds, Zcz acc, st1 d0 false, hole] by kernel_rfl))
      | ((with_reducible apply Zab (e := [some (0, 0)]) (nid := 0) hL); rfl; rfl; rfl; rfl; rfl; rfl; rfl; refine ⟨⟨⟨rfl, rfl, rfl, by omega, by omega⟩, trivial⟩, ⟨Zmc rfl (.inl rfl) (by omega) rfl, trivial⟩, rfl, rfl, rfl⟩; exact (show _ = Value.tuple #[dgV x, slv 0 0 (m - 1) c] by kernel_rfl); exact (show _ = [dsR ds, Zcz acc, st1 d0 false, hole] by kernel_rfl))
      | ((with_reducible apply Za1); rfl; exact (rfl : _ = Value.pointer (some ⟨2, 0, _⟩)); exact (rfl : _ = Value.agg _); exact (show _ = some (2, st1 x false) by kernel_rfl); exact (show _ = [dsR ds, Zcz acc, st1 x false, hole] by kernel_rfl))
      | ((with_reducible apply Zal); rfl; rfl; exact (rfl : _ = Value.pointer (some ⟨2, 0, _⟩)); exact (show _ = some (Value.agg (Z6 w8 32 x ++ [Value.bool false]).toArray) by kernel_rfl))
      | ((with_reducible apply Zel (nid := 3)); rfl; rfl; rfl; exact (rfl : _ = some (Value.slice _ _ _, _)); exact (show _ = [dsR ds, Zcz acc, st1 x false, Zcz [(x, false)]] by kernel_rfl))
      | ((with_reducible apply Zc9); rfl; rfl; rfl; exact .inl ⟨_, rfl⟩; exact (rfl : _ = Value.slice (some ⟨_, _, _⟩) _ _); exact (rfl : _ = Value.slice (some ⟨_, _, _⟩) _ _); exact Zl5 (n := acc.length) (n' := acc.length + 1) (ls := acc) (p := (x, false)) (rfl : _ = some (33, _, 33)) rfl (by kernel_rfl) rfl rfl rfl (by decide) (by omega); rfl; exact (show _ = [dsR ds, Zcz (acc ++ [(x, false)]), st1 x false, Zcz [(x, false)]] by kernel_rfl))
      | ((with_reducible apply Zan); rfl; rfl; (first
      | exact (rfl : _ = Value.int _ _)
      | exact (rfl : _ = Value.slice _ _ _)
      | exact (rfl : _ = Value.tuple _)))
      | ((with_reducible apply Zak); rfl; rfl; (first
      | exact (rfl : _ = Value.int _ _)
      | exact (rfl : _ = Value.slice _ _ _)))
      | ((with_reducible apply Zj); rfl; rfl; (exact (rfl : _ = Value.int _ _)); (exact (rfl : _ = Value.int _ _)); (first
      | with_reducible exact Zdd (by omega)
      | with_reducible exact Ze3 (by omega)))
      | ((with_reducible apply Za2); rfl; rfl; exact (rfl : _ = Value.pointer (some ⟨_, _, _⟩)); (exact (rfl : _ = some 0)); (exact Nat.zero_add _))
      | ((with_reducible apply Zgb); rfl; rfl; rfl; (first
      | exact (rfl : _ = some (Value.slice _ _ _))
      | exact (rfl : _ = some (Value.agg _))))
      | ((with_reducible apply Zp (hS)); rfl; rfl; rfl; rfl; rfl; (exact (rfl : _ = Value.int _ _)))
      | with_reducible refine Za ?_
      | with_reducible refine Zf ?_
      | with_reducible refine Ze ?_
      | with_reducible refine Z5 ?_
      | with_reducible refine Z0 ?_
      | with_reducible refine Zc ?_
      | with_reducible refine Zz ?_
      | ((with_reducible apply Zv); rfl))
     refine Zas ⟨⟨k, index, m - 1, acc ++ [(x, false)]⟩, ⟨by show k ≤ _; omega, g2, by show m - 1 + (acc ++ [(x, false)]).length ≤ n; simp; omega, ?_⟩, by show k < size; omega, ?_⟩
     ·rw [w, Option.map_eq_none_iff] at g4
      exact g4
     ·show Zbo _ _ _ _ ⟨Tl [Iv (k : Nat), Iv (index : Nat), slv 0 0 (m - 1) c, dead, dead, dead, dead, slv 1 0 (acc ++ [(x, false)]).length (acc ++ [(x, false)]).length], [dsR ds, Zcz (acc ++ [(x, false)])]⟩
      rw [show (acc ++ [(x, false)]).length = acc.length + 1 from by simp]
      refine Zam (n := 2) rfl ?_ rfl ?_
      repeat (first | exact trivial | refine ⟨.inl rfl, ?_⟩ | refine ⟨.inr ⟨rfl, rfl⟩, ?_⟩)
      ·simp [dsR, Zcz]
    ·have w := w2 (by omega)
     repeat (first
      | ((with_reducible apply Zcb (nid := 2)); rfl; rfl; rfl; exact (show _ = [dsR ds, Zcz acc, st1 d0 false, hole] by kernel_rfl))
      | ((with_reducible apply Zab (e := [some (0, 0)]) (nid := 0) hL); rfl; rfl; rfl; rfl; rfl; rfl; rfl; refine ⟨⟨⟨rfl, rfl, rfl, by omega, by omega⟩, trivial⟩, ⟨Zmc rfl (.inl rfl) (by omega) rfl, trivial⟩, rfl, rfl, rfl⟩; exact (show _ = Value.tuple #[dgV x, slv 0 0 (m - 1) c] by kernel_rfl); exact (show _ = [dsR ds, Zcz acc, st1 d0 false, hole] by kernel_rfl))
      | ((with_reducible apply Za1); rfl; exact (rfl : _ = Value.pointer (some ⟨2, 0, _⟩)); exact (rfl : _ = Value.agg _); exact (show _ = some (2, st1 x false) by kernel_rfl); exact (show _ = [dsR ds, Zcz acc, st1 x false, hole] by kernel_rfl))
      | ((with_reducible apply Za1); rfl; exact (rfl : _ = Value.pointer (some ⟨2, 32, _⟩)); exact (rfl : _ = Value.bool true); exact (show _ = some (2, st1 x true) by kernel_rfl); exact (show _ = [dsR ds, Zcz acc, st1 x true, hole] by kernel_rfl))
      | ((with_reducible apply Zal); rfl; rfl; exact (rfl : _ = Value.pointer (some ⟨2, 0, _⟩)); exact (show _ = some (Value.agg (Z6 w8 32 x ++ [Value.bool true]).toArray) by kernel_rfl))
      | ((with_reducible apply Zel (nid := 3)); rfl; rfl; rfl; exact (rfl : _ = some (Value.slice _ _ _, _)); exact (show _ = [dsR ds, Zcz acc, st1 x true, Zcz [(x, true)]] by kernel_rfl))
      | ((with_reducible apply Zc9); rfl; rfl; rfl; exact .inl ⟨_, rfl⟩; exact (rfl : _ = Value.slice (some ⟨_, _, _⟩) _ _); exact (rfl : _ = Value.slice (some ⟨_, _, _⟩) _ _); exact Zl5 (n := acc.length) (n' := acc.length + 1) (ls := acc) (p := (x, true)) (rfl : _ = some (33, _, 33)) rfl (by kernel_rfl) rfl rfl rfl (by decide) (by omega); rfl; exact (show _ = [dsR ds, Zcz (acc ++ [(x, true)]), st1 x true, Zcz [(x, true)]] by kernel_rfl))
      | ((with_reducible apply Zan); rfl; rfl; (first
      | exact (rfl : _ = Value.int _ _)
      | exact (rfl : _ = Value.slice _ _ _)
      | exact (rfl : _ = Value.tuple _)))
      | ((with_reducible apply Zak); rfl; rfl; (first
      | exact (rfl : _ = Value.int _ _)
      | exact (rfl : _ = Value.slice _ _ _)))
      | ((with_reducible apply Zj); rfl; rfl; (exact (rfl : _ = Value.int _ _)); (exact (rfl : _ = Value.int _ _)); (first
      | with_reducible exact Zcw (by omega)
      | with_reducible exact Ze3 (by omega)
      | with_reducible exact Zdg rfl (by omega) (by omega)))
      | ((with_reducible apply Za2); rfl; rfl; exact (rfl : _ = Value.pointer (some ⟨_, _, _⟩)); (first
      | exact (rfl : _ = some 0)
      | rfl); (exact Nat.zero_add _))
      | ((with_reducible apply Zgb); rfl; rfl; rfl; (first
      | exact (rfl : _ = some (Value.slice _ _ _))
      | exact (rfl : _ = some (Value.agg _))))
      | ((with_reducible apply Zp (hS)); rfl; rfl; rfl; rfl; rfl; (exact (rfl : _ = Value.int _ _)))
      | with_reducible refine Za ?_
      | with_reducible refine Zf ?_
      | with_reducible refine Ze ?_
      | with_reducible refine Z5 ?_
      | with_reducible refine Z0 ?_
      | with_reducible refine Zc ?_
      | with_reducible refine Zz ?_
      | ((with_reducible apply Zv); rfl)
      | ((with_reducible apply Zt); rfl))
     refine Zas ⟨⟨size - k, index - k, m - 1, acc ++ [(x, true)]⟩, ⟨by show size - k ≤ _; omega, by show index - k ≤ _; omega, by show m - 1 + (acc ++ [(x, true)]).length ≤ n; simp; omega, ?_⟩, by show size - k < size; omega, ?_⟩
     ·rw [w, Option.map_eq_none_iff] at g4
      exact g4
     ·show Zbo _ _ _ _ ⟨Tl [Iv ((size - k : Nat) : Int), Iv ((index - k : Nat) : Int), slv 0 0 (m - 1) c, dead, dead, dead, dead, slv 1 0 (acc ++ [(x, true)]).length (acc ++ [(x, true)]).length], [dsR ds, Zcz (acc ++ [(x, true)])]⟩
      rw [show (acc ++ [(x, true)]).length = acc.length + 1 from by simp, show ((size - k : Nat) : Int) = (size : Int) - k from by omega, show ((index - k : Nat) : Int) = (index : Int) - k from by omega]
      refine Zam (n := 2) rfl ?_ rfl ?_
      repeat (first | exact trivial | refine ⟨.inl rfl, ?_⟩ | refine ⟨.inr ⟨rfl, rfl⟩, ?_⟩)
      ·simp [dsR, Zcz]
  ·rw [Zkp index _ (by omega)] at g4
   split at g4
   ·cases g4
   ·rename_i hm0
    have hm : 0 < m := by rw [List.length_take] at hm0; omega
    iterate 18 (first
     | ((with_reducible apply Zan); rfl; rfl; (first
     | exact (rfl : _ = Value.int _ _)
     | exact (rfl : _ = Value.slice _ _ _)))
     | ((with_reducible apply Zj); rfl; rfl; (exact (rfl : _ = Value.int _ _)); (exact (rfl : _ = Value.int _ _)); (with_reducible exact Ze2 (by omega)))
     | ((with_reducible apply Ze6); rfl; rfl; (exact (rfl : _ = Value.slice _ _ _)); (exact (rfl : _ = some (Value.int _ _))))
     | with_reducible refine Za ?_
     | with_reducible refine Zf ?_
     | with_reducible refine Ze ?_
     | with_reducible refine Zbn ?_
     | with_reducible refine Zc ?_
     | with_reducible refine Zat ?_
     | with_reducible refine Za3 ?_
     | ((with_reducible apply Zt); rfl)
     | ((with_reducible apply Zay); rfl))
    ((with_reducible apply Zj); rfl; rfl; exact (rfl : _ = Value.int _ _); exact (rfl : _ = Value.int _ _); exact Ze3 (by omega))
    with_reducible refine Za ?_
    with_reducible refine Zc ?_
    ((with_reducible apply Zv); rfl)
    refine Zsk 2 rfl (rfl : _ = [_, _]) ?_
    ((with_reducible apply Zbm); rfl; rfl; rfl; exact (rfl : _ = some (Value.agg _)))
    ((with_reducible apply Zjv); rfl; rfl; exact (rfl : _ = Value.agg _); exact (rfl : _ = some (Value.iface _ _)))
    refine Zkj ⟨Zyt rfl rfl, fun u v => ?_⟩
    repeat (first | with_reducible refine Zo6 ?_ | with_reducible refine Znk ?_ | with_reducible refine Znl ?_)
    exact Z3g
end Go.Flat
