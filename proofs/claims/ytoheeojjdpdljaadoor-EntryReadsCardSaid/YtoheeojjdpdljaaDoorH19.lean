/- Walks. -/
import Derived.Test.YtoheeojjdpdljaaDoorH17
set_option linter.unusedVariables false
set_option linter.unusedSimpArgs false
set_option maxRecDepth 20000
namespace Go.Flat
open Go.Proofs
variable {G : Glob}
def cpD (s : ByteArray) : D := fun i => if i < s.size then (bl s).getD i 0 else 0
def Zc8 (ok : Bool) (s : ByteArray) : D := if ok = true then cpD s else dz
theorem Z1z {P : Program} {H : List Blk} {t : TypeId} {b c by_ : Nat} {zc : List Value} {s : ByteArray} (ht : Zdu P t = some (1, zc, by_)) (hb : H[b]? = some (dgB dz)) : Zl1 P H t (slv b 0 32 c) (.string s) = some (Iv (min s.size 32 : Nat), b, dgB (cpD s)) := by
 have hs : Zhg H 1 (.string s) = some (s.size, Zck s) := rfl
 have hl : (Zck s).length = s.size := Zea s
 have hcl : (dgB dz).cells.length = 32 := rfl
 have hp : Zd7 (dgB dz).pur ((Zck s).take (min s.size 32 * 1)) = true := by
  show ((Zck s).take (min s.size 32 * 1)).all Zcf = true
  rw [List.all_eq_true]
  intro v hv
  exact List.all_eq_true.1 (Zjy s) v (List.mem_of_mem_take hv)
 unfold Zl1
 rw [ht]
 simp only [hs, Option.bind_some, hb]
 rw [if_pos (by
  simp only [Bool.and_eq_true, decide_eq_true_eq]
  refine ⟨⟨⟨rfl, hp⟩, by rw [hcl]; omega⟩, by rw [List.length_take, hl]; omega⟩)]
 have e : splice (dgB dz).cells 0 ((Zck s).take (min s.size 32 * 1)) = Zbx w8 32 (cpD s) := by
  unfold splice
  rw [List.take_zero, List.nil_append, List.length_take, hl, Zgq]
  apply List.ext_getElem?
  intro i
  have hbl : (bl s).length = s.size := Zb5 s
  by_cases hi : i < min s.size 32
  ·rw [List.getElem?_append_left (by simp [hbl]; omega), List.getElem?_take, if_pos (by omega), Zcx (by omega), List.getElem?_map, List.getElem?_eq_getElem (by omega)]
   simp only [Option.map_some, cpD]
   rw [if_pos (by omega), List.getD_eq_getElem?_getD, List.getElem?_eq_getElem (by omega)]; rfl
  ·rw [List.getElem?_append_right (by simp [hbl]; omega), List.getElem?_drop]
   simp only [List.length_take, List.length_map, hbl]
   by_cases h32 : i < 32
   ·have e2 : 0 + min (min s.size 32 * 1) s.size + (i - min (min s.size 32 * 1) s.size) = i := by omega
    rw [e2, show (dgB dz).cells = Zbx w8 32 dz from rfl, Zcx h32, Zcx h32]
    simp only [cpD]
    rw [if_neg (by omega)]; rfl
   ·rw [List.getElem?_eq_none (by rw [hcl]; omega), List.getElem?_eq_none (by rw [Zcy]; omega)]
 rw [e]
 rfl
theorem Zre (ls : List ByteArray) (L p : Nat) (ok : Bool) (hL : ls.length = L) (hp : p ≤ L) : Zao Tryd.prog G 74 [pt 0 0, pt 2 0] [rfB (slv 1 p (Zak L p) (Zak L p)), Zcz ls, bxB 1 ([.bool ok])] (dgV (Zc8 (ok && decide (p < L)) (ls.getD p ⟨#[]⟩))) [rfB (slv 1 (nxP L p) (Zak L (nxP L p)) (Zak L (nxP L p))), Zcz ls, bxB 1 [.bool ((ok && decide (p < L)) && decide ((ls.getD p ⟨#[]⟩).size = 32))]] := by
 refine Zbv (fn := Tryd.f74) (nt := 29) rfl rfl rfl rfl ?_
 refine Zat 2 (H' := [rfB (slv 1 p (Zak L p) (Zak L p)), Zcz ls, bxB 1 ([.bool ok]), hole, hole]) rfl ?_
 refine Zg (Zi ?_)
 refine Zae (b := dgB dz) (nid := 3) (H' := [rfB (slv 1 p (Zak L p) (Zak L p)), Zcz ls, bxB 1 ([.bool ok]), dgB dz, hole]) rfl rfl (by kernel_rfl) (by kernel_rfl) ?_
 refine Za (Zc (Zg (Zi ?_)))
 refine Zae (b := dgB dz) (nid := 4) (H' := [rfB (slv 1 p (Zak L p) (Zak L p)), Zcz ls, bxB 1 ([.bool ok]), dgB dz, dgB dz]) rfl rfl (by kernel_rfl) (by kernel_rfl) ?_
 refine Za (Zc (Zg (Zi (Zd rfl rfl (pt 0 0) rfl (Zd rfl rfl (pt 2 0) rfl ?_)))))
 have hnx2 := Zv1 (L := L) (p := p) (by omega)
 refine Zad (e := [some (0, 0), some (1, 0), some (2, 0)]) (nid := 0) (Zr0 (G := G) ls L p ok hL (by omega)) (vals := [pt 0 0, pt 2 0]) (v := .string (ls.getD p ⟨#[]⟩)) (H' := [rfB (slv 1 (nxP L p) (Zak L (nxP L p)) (Zak L (nxP L p))), Zcz ls, bxB 1 ([.bool (ok && decide (p < L))]), dgB dz, dgB dz]) rfl rfl rfl rfl rfl rfl rfl ⟨⟨⟨rfl, rfl⟩, ⟨rfl, rfl⟩, trivial⟩, ⟨(Zay rfl rfl rfl (by show [_] = [Zdq _ _]; simp [Zdq, Zct])), (Zw8 rfl), (Zay rfl rfl rfl rfl), trivial⟩, rfl, rfl, rfl⟩ rfl (Eq.trans (b := [rfB (slv 1 (0 + (nxP L p)) (Zak L (nxP L p)) (Zak L (nxP L p))), Zcz ls, bxB 1 ([.bool (ok && decide (p < L))]), dgB dz, dgB dz]) (by kernel_rfl) (by rw [Nat.zero_add])) ?_
 refine Zb rfl rfl (.string (ls.getD p ⟨#[]⟩)) rfl (Za (Zc (Zg (Zi (Zd rfl rfl (pt 2 0) rfl (Zd rfl rfl (pt 2 0) rfl ?_))))))
 refine Zag (p := pt 2 0) (v := pt 2 0) rfl rfl rfl rfl ?_
 refine Zo (p := pt 2 0) (v := .bool (ok && decide (p < L))) rfl rfl rfl (by kernel_rfl) ?_
 refine Zd rfl rfl (.bool (ok && decide (p < L))) rfl ?_
 rcases Bool.eq_false_or_eq_true (ok && decide (p < L)) with h1 | h1
 refine Zec (p := pt 4 0) (vl := none) (vh := none) (v := slv 4 0 32 32) (by exact congrArg (fun b => some (b == true)) h1) rfl rfl rfl rfl rfl ?_
 refine Zd (by exact congrArg (fun b => some (b == true)) h1) rfl (.string (ls.getD p ⟨#[]⟩)) rfl ?_
 refine Zvs (p := slv 4 0 32 32) (q := .string (ls.getD p ⟨#[]⟩)) (v := Iv (((min (ls.getD p ⟨#[]⟩).size 32) : Nat) : Int)) (b := 4) (blk := dgB (cpD (ls.getD p ⟨#[]⟩))) (H' := [rfB (slv 1 (nxP L p) (Zak L (nxP L p)) (Zak L (nxP L p))), Zcz ls, bxB 1 ([.bool (ok && decide (p < L))]), dgB dz, dgB (cpD (ls.getD p ⟨#[]⟩))]) (by exact congrArg (fun b => some (b == true)) h1) rfl rfl rfl (Z1z rfl rfl) (by kernel_rfl) ?_
 refine Zd (by exact congrArg (fun b => some (b == true)) h1) rfl (.string (ls.getD p ⟨#[]⟩)) rfl ?_
 refine Zb7 (p := .string (ls.getD p ⟨#[]⟩)) (v := Iv ((((ls.getD p ⟨#[]⟩).size) : Nat) : Int)) (by exact congrArg (fun b => some (b == true)) h1) rfl rfl rfl ?_
 by_cases h2 : (((min (ls.getD p ⟨#[]⟩).size 32) : Nat) : Int) = ((((ls.getD p ⟨#[]⟩).size) : Nat) : Int)
 refine Zn (vx := Iv (((min (ls.getD p ⟨#[]⟩).size 32) : Nat) : Int)) (vy := Iv ((((ls.getD p ⟨#[]⟩).size) : Nat) : Int)) (by exact congrArg (fun b => some (b == true)) h1) rfl (.bool true) rfl rfl (Zbs (by omega)) ?_
 refine Zk rfl rfl (.bool true) (by show some (if _ then _ else _) = _; rw [h1] <;> rfl) ?_
 refine Zd rfl rfl (.bool true) rfl (Zd rfl rfl (.string (ls.getD p ⟨#[]⟩)) rfl ?_)
 refine Zb7 (p := .string (ls.getD p ⟨#[]⟩)) (v := Iv ((((ls.getD p ⟨#[]⟩).size) : Nat) : Int)) rfl rfl rfl rfl ?_
 by_cases h3 : ((((ls.getD p ⟨#[]⟩).size) : Nat) : Int) = 32
 refine Zn (vx := Iv ((((ls.getD p ⟨#[]⟩).size) : Nat) : Int)) (vy := Iv 32) rfl rfl (.bool true) rfl rfl (Zbs (by omega)) ?_
 refine Zk rfl rfl (.bool true) rfl ?_
 refine Zag (p := pt 2 0) (v := pt 2 0) rfl rfl rfl rfl ?_
 refine Zr (p := pt 2 0) (v := .bool true) (b := 2) (blk := bxB 1 ([.bool true])) (H' := [rfB (slv 1 (nxP L p) (Zak L (nxP L p)) (Zak L (nxP L p))), Zcz ls, bxB 1 ([.bool true]), dgB dz, dgB (cpD (ls.getD p ⟨#[]⟩))]) rfl rfl rfl (by kernel_rfl) (by kernel_rfl) ?_
 refine Za (Zc (Zg (Zi ?_)))
 refine Zo (p := pt 4 0) (v := dgV (cpD (ls.getD p ⟨#[]⟩))) rfl rfl rfl (by kernel_rfl) ?_
 refine Zr (p := pt 3 0) (v := dgV (cpD (ls.getD p ⟨#[]⟩))) (b := 3) (blk := dgB (cpD (ls.getD p ⟨#[]⟩))) (H' := [rfB (slv 1 (nxP L p) (Zak L (nxP L p)) (Zak L (nxP L p))), Zcz ls, bxB 1 ([.bool true]), dgB (cpD (ls.getD p ⟨#[]⟩)), dgB (cpD (ls.getD p ⟨#[]⟩))]) rfl rfl rfl (by kernel_rfl) (by kernel_rfl) ?_
 refine Za (Zc (Zv (Zu ?_)))
 rw [show ((ok && decide (p < L)) && decide ((ls.getD p ⟨#[]⟩).size = 32)) = true from by simp only [*, Bool.true_and]; exact decide_eq_true (by omega)]
 rw [show Zc8 (ok && decide (p < L)) (ls.getD p ⟨#[]⟩) = (cpD (ls.getD p ⟨#[]⟩)) from by simp only [*]; rfl]
 exact Zm (v := dgV (cpD (ls.getD p ⟨#[]⟩))) (by kernel_rfl) rfl rfl (by simp [Zac, Zcz, bxB, rfB, Zej, Zcp]) (Zd1 (Zfn fun _ => rfl) rfl)
 refine Zn (vx := Iv ((((ls.getD p ⟨#[]⟩).size) : Nat) : Int)) (vy := Iv 32) rfl rfl (.bool false) rfl rfl (Zb6 (by omega)) ?_
 refine Zk rfl rfl (.bool false) rfl ?_
 refine Zag (p := pt 2 0) (v := pt 2 0) rfl rfl rfl rfl ?_
 refine Zr (p := pt 2 0) (v := .bool false) (b := 2) (blk := bxB 1 ([.bool false])) (H' := [rfB (slv 1 (nxP L p) (Zak L (nxP L p)) (Zak L (nxP L p))), Zcz ls, bxB 1 ([.bool false]), dgB dz, dgB (cpD (ls.getD p ⟨#[]⟩))]) rfl rfl rfl (by kernel_rfl) (by kernel_rfl) ?_
 refine Za (Zc (Zg (Zi ?_)))
 refine Zo (p := pt 4 0) (v := dgV (cpD (ls.getD p ⟨#[]⟩))) rfl rfl rfl (by kernel_rfl) ?_
 refine Zr (p := pt 3 0) (v := dgV (cpD (ls.getD p ⟨#[]⟩))) (b := 3) (blk := dgB (cpD (ls.getD p ⟨#[]⟩))) (H' := [rfB (slv 1 (nxP L p) (Zak L (nxP L p)) (Zak L (nxP L p))), Zcz ls, bxB 1 ([.bool false]), dgB (cpD (ls.getD p ⟨#[]⟩)), dgB (cpD (ls.getD p ⟨#[]⟩))]) rfl rfl rfl (by kernel_rfl) (by kernel_rfl) ?_
 refine Za (Zc (Zv (Zu ?_)))
 rw [show ((ok && decide (p < L)) && decide ((ls.getD p ⟨#[]⟩).size = 32)) = false from by simp only [*, Bool.true_and, Bool.false_and]; try exact decide_eq_false (by omega)]
 rw [show Zc8 (ok && decide (p < L)) (ls.getD p ⟨#[]⟩) = (cpD (ls.getD p ⟨#[]⟩)) from by simp only [*]; rfl]
 exact Zm (v := dgV (cpD (ls.getD p ⟨#[]⟩))) (by kernel_rfl) rfl rfl (by simp [Zac, Zcz, bxB, rfB, Zej, Zcp]) (Zd1 (Zfn fun _ => rfl) rfl)
 refine Zn (vx := Iv (((min (ls.getD p ⟨#[]⟩).size 32) : Nat) : Int)) (vy := Iv ((((ls.getD p ⟨#[]⟩).size) : Nat) : Int)) (by exact congrArg (fun b => some (b == true)) h1) rfl (.bool false) rfl rfl (Zb6 (by omega)) ?_
 refine Zk rfl rfl (.bool false) (by show some (if _ then _ else _) = _; rw [h1] <;> rfl) ?_
 refine Zd rfl rfl (.bool false) rfl (Zf rfl rfl (Zf rfl rfl (Zf rfl rfl (Zk rfl rfl (.bool false) rfl ?_))))
 refine Zag (p := pt 2 0) (v := pt 2 0) rfl rfl rfl rfl ?_
 refine Zr (p := pt 2 0) (v := .bool false) (b := 2) (blk := bxB 1 ([.bool false])) (H' := [rfB (slv 1 (nxP L p) (Zak L (nxP L p)) (Zak L (nxP L p))), Zcz ls, bxB 1 ([.bool false]), dgB dz, dgB (cpD (ls.getD p ⟨#[]⟩))]) rfl rfl rfl (by kernel_rfl) (by kernel_rfl) ?_
 refine Za (Zc (Zg (Zi ?_)))
 refine Zo (p := pt 4 0) (v := dgV (cpD (ls.getD p ⟨#[]⟩))) rfl rfl rfl (by kernel_rfl) ?_
 refine Zr (p := pt 3 0) (v := dgV (cpD (ls.getD p ⟨#[]⟩))) (b := 3) (blk := dgB (cpD (ls.getD p ⟨#[]⟩))) (H' := [rfB (slv 1 (nxP L p) (Zak L (nxP L p)) (Zak L (nxP L p))), Zcz ls, bxB 1 ([.bool false]), dgB (cpD (ls.getD p ⟨#[]⟩)), dgB (cpD (ls.getD p ⟨#[]⟩))]) rfl rfl rfl (by kernel_rfl) (by kernel_rfl) ?_
 refine Za (Zc (Zv (Zu ?_)))
 rw [show ((ok && decide (p < L)) && decide ((ls.getD p ⟨#[]⟩).size = 32)) = false from by simp only [*, Bool.true_and, Bool.false_and]; try exact decide_eq_false (by omega)]
 rw [show Zc8 (ok && decide (p < L)) (ls.getD p ⟨#[]⟩) = (cpD (ls.getD p ⟨#[]⟩)) from by simp only [*]; rfl]
 exact Zm (v := dgV (cpD (ls.getD p ⟨#[]⟩))) (by kernel_rfl) rfl rfl (by simp [Zac, Zcz, bxB, rfB, Zej, Zcp]) (Zd1 (Zfn fun _ => rfl) rfl)
 refine Zf (by exact congrArg (fun b => some (b == true)) h1) rfl ?_
 refine Zf (by exact congrArg (fun b => some (b == true)) h1) rfl ?_
 refine Zf (by exact congrArg (fun b => some (b == true)) h1) rfl ?_
 refine Zf (by exact congrArg (fun b => some (b == true)) h1) rfl ?_
 refine Zf (by exact congrArg (fun b => some (b == true)) h1) rfl ?_
 refine Zf (by exact congrArg (fun b => some (b == true)) h1) rfl ?_
 refine Zk rfl rfl (.bool false) (by show some (if _ then _ else _) = _; rw [h1] <;> rfl) ?_
 refine Zd rfl rfl (.bool false) rfl (Zf rfl rfl (Zf rfl rfl (Zf rfl rfl (Zk rfl rfl (.bool false) rfl ?_))))
 refine Zag (p := pt 2 0) (v := pt 2 0) rfl rfl rfl rfl ?_
 refine Zr (p := pt 2 0) (v := .bool false) (b := 2) (blk := bxB 1 ([.bool false])) (H' := [rfB (slv 1 (nxP L p) (Zak L (nxP L p)) (Zak L (nxP L p))), Zcz ls, bxB 1 ([.bool false]), dgB dz, dgB dz]) rfl rfl rfl (by kernel_rfl) (by kernel_rfl) ?_
 refine Za (Zc (Zg (Zi ?_)))
 refine Zo (p := pt 4 0) (v := dgV dz) rfl rfl rfl (by kernel_rfl) ?_
 refine Zr (p := pt 3 0) (v := dgV dz) (b := 3) (blk := dgB dz) (H' := [rfB (slv 1 (nxP L p) (Zak L (nxP L p)) (Zak L (nxP L p))), Zcz ls, bxB 1 ([.bool false]), dgB dz, dgB dz]) rfl rfl rfl (by kernel_rfl) (by kernel_rfl) ?_
 refine Za (Zc (Zv (Zu ?_)))
 rw [show ((ok && decide (p < L)) && decide ((ls.getD p ⟨#[]⟩).size = 32)) = false from by simp only [*, Bool.true_and, Bool.false_and]; try exact decide_eq_false (by omega)]
 rw [show Zc8 (ok && decide (p < L)) (ls.getD p ⟨#[]⟩) = dz from by simp only [*]; rfl]
 exact Zm (v := dgV dz) (by kernel_rfl) rfl rfl (by simp [Zac, Zcz, bxB, rfB, Zej, Zcp]) (Zd1 (Zfn fun _ => rfl) rfl)
end Go.Flat
namespace Go.Flat
open Go.Proofs
variable {G : Glob}
abbrev oN (l : Bs) : Nat := (ofF l).2.length
theorem Zzz (l : Bs) (n c : Nat) (ok0 : Bool) (hn : l.length = n) (hc : n ≤ c) (hb : n ≤ 1099511627776) : Zao Tryd.prog G 70 [slv 0 0 n c, pt 1 0] [rdB l, bxB 1 [.bool ok0]] (pt 2 0) [rdB l, bxB 1 [.bool (ofF l).1], rfB (slv 3 0 (oN l) (oN l)), txB (ofF l).2] := by
 subst hn; exact Z5f (G := G) l c ok0 hc hb
def pK (L : Nat) : Nat → Nat
  | 0 => 0
  | k + 1 => nxP L (pK L k)
abbrev oG (l : Bs) (k : Nat) : ByteArray := ((ofF l).2).getD (pK ((ofF l).2.length) k) ⟨#[]⟩
abbrev oP (l : Bs) (k : Nat) : Bool := decide ((pK ((ofF l).2.length) k) < ((ofF l).2.length))
theorem Zg6 (L : Nat) : ∀ k, pK L k ≤ L
 | 0 => Nat.zero_le _
 | k + 1 => Zv1 (Zg6 L k)
def Zax (l : Bs) : Head × Int :=
  if ((((((((((((ofF l).1) && decide ((pK ((ofF l).2.length) 0) < ((ofF l).2.length))) && decide ((Zq (((ofF l).2).getD (pK ((ofF l).2.length) 0) ⟨#[]⟩)).2 = 0)) && decide ((pK ((ofF l).2.length) 1) < ((ofF l).2.length))) && decide ((Zq (((ofF l).2).getD (pK ((ofF l).2.length) 1) ⟨#[]⟩)).2 = 0)) && decide ((pK ((ofF l).2.length) 2) < ((ofF l).2.length))) && decide ((Zq (((ofF l).2).getD (pK ((ofF l).2.length) 2) ⟨#[]⟩)).2 = 0)) && decide ((pK ((ofF l).2.length) 3) < ((ofF l).2.length))) && decide ((((ofF l).2).getD (pK ((ofF l).2.length) 3) ⟨#[]⟩).size = 32)) && decide ((pK ((ofF l).2.length) 4) < ((ofF l).2.length))) && decide ((Zq (((ofF l).2).getD (pK ((ofF l).2.length) 4) ⟨#[]⟩)).2 = 0)) = true then (if 0 < (((Zak ((ofF l).2.length) (pK ((ofF l).2.length) 5)) : Nat) : Int) then ((⟨0, 0, 0, dz, 0⟩ : Head), 70) else
  if (Zbm (⟨((Zq (((ofF l).2).getD (pK ((ofF l).2.length) 0) ⟨#[]⟩)).1), ((Zq (((ofF l).2).getD (pK ((ofF l).2.length) 1) ⟨#[]⟩)).1), ((Zq (((ofF l).2).getD (pK ((ofF l).2.length) 2) ⟨#[]⟩)).1), (Zc8 (((((((((ofF l).1) && decide ((pK ((ofF l).2.length) 0) < ((ofF l).2.length))) && decide ((Zq (((ofF l).2).getD (pK ((ofF l).2.length) 0) ⟨#[]⟩)).2 = 0)) && decide ((pK ((ofF l).2.length) 1) < ((ofF l).2.length))) && decide ((Zq (((ofF l).2).getD (pK ((ofF l).2.length) 1) ⟨#[]⟩)).2 = 0)) && decide ((pK ((ofF l).2.length) 2) < ((ofF l).2.length))) && decide ((Zq (((ofF l).2).getD (pK ((ofF l).2.length) 2) ⟨#[]⟩)).2 = 0)) && decide ((pK ((ofF l).2.length) 3) < ((ofF l).2.length))) (((ofF l).2).getD (pK ((ofF l).2.length) 3) ⟨#[]⟩)), ((Zq (((ofF l).2).getD (pK ((ofF l).2.length) 4) ⟨#[]⟩)).1)⟩ : Head)) ≠ 0 then ((⟨0, 0, 0, dz, 0⟩ : Head), 70) else
  ((⟨((Zq (((ofF l).2).getD (pK ((ofF l).2.length) 0) ⟨#[]⟩)).1), ((Zq (((ofF l).2).getD (pK ((ofF l).2.length) 1) ⟨#[]⟩)).1), ((Zq (((ofF l).2).getD (pK ((ofF l).2.length) 2) ⟨#[]⟩)).1), (Zc8 (((((((((ofF l).1) && decide ((pK ((ofF l).2.length) 0) < ((ofF l).2.length))) && decide ((Zq (((ofF l).2).getD (pK ((ofF l).2.length) 0) ⟨#[]⟩)).2 = 0)) && decide ((pK ((ofF l).2.length) 1) < ((ofF l).2.length))) && decide ((Zq (((ofF l).2).getD (pK ((ofF l).2.length) 1) ⟨#[]⟩)).2 = 0)) && decide ((pK ((ofF l).2.length) 2) < ((ofF l).2.length))) && decide ((Zq (((ofF l).2).getD (pK ((ofF l).2.length) 2) ⟨#[]⟩)).2 = 0)) && decide ((pK ((ofF l).2.length) 3) < ((ofF l).2.length))) (((ofF l).2).getD (pK ((ofF l).2.length) 3) ⟨#[]⟩)), ((Zq (((ofF l).2).getD (pK ((ofF l).2.length) 4) ⟨#[]⟩)).1)⟩ : Head), 0)) else
  ((⟨0, 0, 0, dz, 0⟩ : Head), 70)
theorem Z2z (l : Bs) (n c : Nat) (hn : l.length = n) (hc : n ≤ c) (hb : n ≤ 1099511627776) : Zao Tryd.prog G 71 [slv 0 0 n c] [rdB l] (.tuple #[Zbf (Zax l).1, Iv (Zax l).2]) [rdB l] := by
  refine Zbv (fn := Tryd.f71) (nt := 40) rfl rfl rfl rfl ?_
  refine Zat 5 (H' := [rdB l, hole, hole, hole, hole, hole]) rfl ?_
  refine Zg (Zi ?_)
  refine Zae (b := bxB 36 (Zan (⟨0, 0, 0, dz, 0⟩ : Head))) (nid := 1) (H' := [rdB l, bxB 36 (Zan (⟨0, 0, 0, dz, 0⟩ : Head)), hole, hole, hole, hole]) rfl rfl (by kernel_rfl) (by kernel_rfl) ?_
  refine Zb rfl rfl (Iv 0) rfl (Za (Zc (Zg (Zi ?_))))
  refine Zae (b := bxB 1 ([.bool false])) (nid := 2) (H' := [rdB l, bxB 36 (Zan (⟨0, 0, 0, dz, 0⟩ : Head)), bxB 1 ([.bool false]), hole, hole, hole]) rfl rfl (by kernel_rfl) (by kernel_rfl) ?_
  refine Za (Zc (Zg (Zi ?_)))
  refine Zae (b := bxB 36 (Zan (⟨0, 0, 0, dz, 0⟩ : Head))) (nid := 3) (H' := [rdB l, bxB 36 (Zan (⟨0, 0, 0, dz, 0⟩ : Head)), bxB 1 ([.bool false]), bxB 36 (Zan (⟨0, 0, 0, dz, 0⟩ : Head)), hole, hole]) rfl rfl (by kernel_rfl) (by kernel_rfl) ?_
  refine Za (Zc (Zg (Zi (Zd rfl rfl (slv 0 0 n c) rfl ?_))))
  have hrm7 : Zak (oN l) (pK (oN l) 0) + pK (oN l) 0 = (oN l) := Zfc (Nat.zero_le _)
  refine Zad (e := [some (0, 0), some (2, 0)]) (nid := 4) (Zzz (G := G) l n c false hn (by omega) (by omega)) (vals := [slv 0 0 n c, pt 2 0]) (v := pt 4 0) (H' := [rdB l, bxB 36 (Zan (⟨0, 0, 0, dz, 0⟩ : Head)), bxB 1 ([.bool ((ofF l).1)]), bxB 36 (Zan (⟨0, 0, 0, dz, 0⟩ : Head)), rfB (slv 5 (pK (oN l) 0) (Zak (oN l) (pK (oN l) 0)) (Zak (oN l) (pK (oN l) 0))), txB ((ofF l).2)]) rfl rfl rfl rfl rfl rfl rfl ⟨⟨⟨rfl, rfl, rfl, by first | omega | exact Nat.le_refl _, by first | omega | exact Nat.le_refl _⟩, ⟨rfl, rfl⟩, trivial⟩, ⟨(Zdk rfl), (Zay rfl rfl rfl rfl), trivial⟩, rfl, rfl, rfl⟩ (by kernel_rfl) (by kernel_rfl) ?_
  refine Zb rfl rfl (pt 4 0) rfl (Za (Zc (Zg (Zi (Zd rfl rfl (pt 4 0) rfl ?_)))))
  have hpk8 := Zg6 (oN l) 1
  have hrm8 : Zak (oN l) (pK (oN l) 1) + (pK (oN l) 1) = (oN l) := Zfc hpk8
  refine Zad (e := [some (4, 0), some (5, 0), some (2, 0)]) (nid := 0) (Ziy (G := G) ((ofF l).2) (oN l) (pK (oN l) 0) ((ofF l).1) rfl (Zg6 (oN l) 0)) (vals := [pt 4 0, pt 2 0]) (v := Iv ((Zq (oG l 0)).1)) (H' := [rdB l, bxB 36 (Zan (⟨0, 0, 0, dz, 0⟩ : Head)), bxB 1 ([.bool ((((ofF l).1) && oP l 0) && decide ((Zq (oG l 0)).2 = 0))]), bxB 36 (Zan (⟨0, 0, 0, dz, 0⟩ : Head)), rfB (slv 5 (pK (oN l) 1) (Zak (oN l) (pK (oN l) 1)) (Zak (oN l) (pK (oN l) 1))), txB ((ofF l).2)]) rfl rfl rfl rfl rfl rfl rfl ⟨⟨⟨rfl, rfl⟩, ⟨rfl, rfl⟩, trivial⟩, ⟨(Zay rfl rfl rfl (by show [_] = [Zdq _ _]; simp [Zdq, Zct])), (Zg9 rfl), (Zay rfl rfl rfl rfl), trivial⟩, rfl, rfl, rfl⟩ (by kernel_rfl) (Eq.trans (b := [rdB l, bxB 36 (Zan (⟨0, 0, 0, dz, 0⟩ : Head)), bxB 1 ([.bool ((((ofF l).1) && oP l 0) && decide ((Zq (oG l 0)).2 = 0))]), bxB 36 (Zan (⟨0, 0, 0, dz, 0⟩ : Head)), rfB (slv 5 (0 + (pK (oN l) 1)) (Zak (oN l) (pK (oN l) 1)) (Zak (oN l) (pK (oN l) 1))), txB ((ofF l).2)]) (by kernel_rfl) (by rw [Nat.zero_add])) ?_
  refine Zj (b := 3) (o := 0) (n := 0) (o' := 0) rfl rfl rfl rfl rfl ?_
  refine Zr (p := pt 3 0) (v := Iv ((Zq (oG l 0)).1)) (b := 3) (blk := bxB 36 (Zan (⟨((Zq (oG l 0)).1), 0, 0, dz, 0⟩ : Head))) (H' := [rdB l, bxB 36 (Zan (⟨0, 0, 0, dz, 0⟩ : Head)), bxB 1 ([.bool ((((ofF l).1) && oP l 0) && decide ((Zq (oG l 0)).2 = 0))]), bxB 36 (Zan (⟨((Zq (oG l 0)).1), 0, 0, dz, 0⟩ : Head)), rfB (slv 5 (pK (oN l) 1) (Zak (oN l) (pK (oN l) 1)) (Zak (oN l) (pK (oN l) 1))), txB ((ofF l).2)]) rfl rfl rfl (by kernel_rfl) (by kernel_rfl) ?_
  refine Za (Zc (Zg (Zi (Zd rfl rfl (pt 4 0) rfl ?_))))
  have hpk9 := Zg6 (oN l) 2
  have hrm9 : Zak (oN l) (pK (oN l) 2) + (pK (oN l) 2) = (oN l) := Zfc hpk9
  refine Zad (e := [some (4, 0), some (5, 0), some (2, 0)]) (nid := 0) (Ziy (G := G) ((ofF l).2) (oN l) (pK (oN l) 1) ((((ofF l).1) && oP l 0) && decide ((Zq (oG l 0)).2 = 0)) rfl (Zg6 (oN l) 1)) (vals := [pt 4 0, pt 2 0]) (v := Iv ((Zq (oG l 1)).1)) (H' := [rdB l, bxB 36 (Zan (⟨0, 0, 0, dz, 0⟩ : Head)), bxB 1 ([.bool ((((((ofF l).1) && oP l 0) && decide ((Zq (oG l 0)).2 = 0)) && oP l 1) && decide ((Zq (oG l 1)).2 = 0))]), bxB 36 (Zan (⟨((Zq (oG l 0)).1), 0, 0, dz, 0⟩ : Head)), rfB (slv 5 (pK (oN l) 2) (Zak (oN l) (pK (oN l) 2)) (Zak (oN l) (pK (oN l) 2))), txB ((ofF l).2)]) rfl rfl rfl rfl rfl rfl rfl ⟨⟨⟨rfl, rfl⟩, ⟨rfl, rfl⟩, trivial⟩, ⟨(Zay rfl rfl rfl (by show [_] = [Zdq _ _]; simp [Zdq, Zct])), (Zg9 rfl), (Zay rfl rfl rfl rfl), trivial⟩, rfl, rfl, rfl⟩ (by kernel_rfl) (Eq.trans (b := [rdB l, bxB 36 (Zan (⟨0, 0, 0, dz, 0⟩ : Head)), bxB 1 ([.bool ((((((ofF l).1) && oP l 0) && decide ((Zq (oG l 0)).2 = 0)) && oP l 1) && decide ((Zq (oG l 1)).2 = 0))]), bxB 36 (Zan (⟨((Zq (oG l 0)).1), 0, 0, dz, 0⟩ : Head)), rfB (slv 5 (0 + (pK (oN l) 2)) (Zak (oN l) (pK (oN l) 2)) (Zak (oN l) (pK (oN l) 2))), txB ((ofF l).2)]) (by kernel_rfl) (by rw [Nat.zero_add])) ?_
  refine Zj (b := 3) (o := 0) (n := 1) (o' := 1) rfl rfl rfl rfl rfl ?_
  refine Zr (p := pt 3 1) (v := Iv ((Zq (oG l 1)).1)) (b := 3) (blk := bxB 36 (Zan (⟨((Zq (oG l 0)).1), ((Zq (oG l 1)).1), 0, dz, 0⟩ : Head))) (H' := [rdB l, bxB 36 (Zan (⟨0, 0, 0, dz, 0⟩ : Head)), bxB 1 ([.bool ((((((ofF l).1) && oP l 0) && decide ((Zq (oG l 0)).2 = 0)) && oP l 1) && decide ((Zq (oG l 1)).2 = 0))]), bxB 36 (Zan (⟨((Zq (oG l 0)).1), ((Zq (oG l 1)).1), 0, dz, 0⟩ : Head)), rfB (slv 5 (pK (oN l) 2) (Zak (oN l) (pK (oN l) 2)) (Zak (oN l) (pK (oN l) 2))), txB ((ofF l).2)]) rfl rfl rfl (by kernel_rfl) (by kernel_rfl) ?_
  refine Za (Zc (Zg (Zi (Zd rfl rfl (pt 4 0) rfl ?_))))
  have hpk10 := Zg6 (oN l) 3
  have hrm10 : Zak (oN l) (pK (oN l) 3) + (pK (oN l) 3) = (oN l) := Zfc hpk10
  refine Zad (e := [some (4, 0), some (5, 0), some (2, 0)]) (nid := 0) (Ziy (G := G) ((ofF l).2) (oN l) (pK (oN l) 2) ((((((ofF l).1) && oP l 0) && decide ((Zq (oG l 0)).2 = 0)) && oP l 1) && decide ((Zq (oG l 1)).2 = 0)) rfl (Zg6 (oN l) 2)) (vals := [pt 4 0, pt 2 0]) (v := Iv ((Zq (oG l 2)).1)) (H' := [rdB l, bxB 36 (Zan (⟨0, 0, 0, dz, 0⟩ : Head)), bxB 1 ([.bool ((((((((ofF l).1) && oP l 0) && decide ((Zq (oG l 0)).2 = 0)) && oP l 1) && decide ((Zq (oG l 1)).2 = 0)) && oP l 2) && decide ((Zq (oG l 2)).2 = 0))]), bxB 36 (Zan (⟨((Zq (oG l 0)).1), ((Zq (oG l 1)).1), 0, dz, 0⟩ : Head)), rfB (slv 5 (pK (oN l) 3) (Zak (oN l) (pK (oN l) 3)) (Zak (oN l) (pK (oN l) 3))), txB ((ofF l).2)]) rfl rfl rfl rfl rfl rfl rfl ⟨⟨⟨rfl, rfl⟩, ⟨rfl, rfl⟩, trivial⟩, ⟨(Zay rfl rfl rfl (by show [_] = [Zdq _ _]; simp [Zdq, Zct])), (Zg9 rfl), (Zay rfl rfl rfl rfl), trivial⟩, rfl, rfl, rfl⟩ (by kernel_rfl) (Eq.trans (b := [rdB l, bxB 36 (Zan (⟨0, 0, 0, dz, 0⟩ : Head)), bxB 1 ([.bool ((((((((ofF l).1) && oP l 0) && decide ((Zq (oG l 0)).2 = 0)) && oP l 1) && decide ((Zq (oG l 1)).2 = 0)) && oP l 2) && decide ((Zq (oG l 2)).2 = 0))]), bxB 36 (Zan (⟨((Zq (oG l 0)).1), ((Zq (oG l 1)).1), 0, dz, 0⟩ : Head)), rfB (slv 5 (0 + (pK (oN l) 3)) (Zak (oN l) (pK (oN l) 3)) (Zak (oN l) (pK (oN l) 3))), txB ((ofF l).2)]) (by kernel_rfl) (by rw [Nat.zero_add])) ?_
  refine Zj (b := 3) (o := 0) (n := 2) (o' := 2) rfl rfl rfl rfl rfl ?_
  refine Zr (p := pt 3 2) (v := Iv ((Zq (oG l 2)).1)) (b := 3) (blk := bxB 36 (Zan (⟨((Zq (oG l 0)).1), ((Zq (oG l 1)).1), ((Zq (oG l 2)).1), dz, 0⟩ : Head))) (H' := [rdB l, bxB 36 (Zan (⟨0, 0, 0, dz, 0⟩ : Head)), bxB 1 ([.bool ((((((((ofF l).1) && oP l 0) && decide ((Zq (oG l 0)).2 = 0)) && oP l 1) && decide ((Zq (oG l 1)).2 = 0)) && oP l 2) && decide ((Zq (oG l 2)).2 = 0))]), bxB 36 (Zan (⟨((Zq (oG l 0)).1), ((Zq (oG l 1)).1), ((Zq (oG l 2)).1), dz, 0⟩ : Head)), rfB (slv 5 (pK (oN l) 3) (Zak (oN l) (pK (oN l) 3)) (Zak (oN l) (pK (oN l) 3))), txB ((ofF l).2)]) rfl rfl rfl (by kernel_rfl) (by kernel_rfl) ?_
  refine Za (Zc (Zg (Zi (Zd rfl rfl (pt 4 0) rfl ?_))))
  have hpk11 := Zg6 (oN l) 4
  have hrm11 : Zak (oN l) (pK (oN l) 4) + (pK (oN l) 4) = (oN l) := Zfc hpk11
  refine Zad (e := [some (4, 0), some (5, 0), some (2, 0)]) (nid := 0) (Zre (G := G) ((ofF l).2) (oN l) (pK (oN l) 3) ((((((((ofF l).1) && oP l 0) && decide ((Zq (oG l 0)).2 = 0)) && oP l 1) && decide ((Zq (oG l 1)).2 = 0)) && oP l 2) && decide ((Zq (oG l 2)).2 = 0)) rfl (Zg6 (oN l) 3)) (vals := [pt 4 0, pt 2 0]) (v := dgV (Zc8 (((((((((ofF l).1) && oP l 0) && decide ((Zq (oG l 0)).2 = 0)) && oP l 1) && decide ((Zq (oG l 1)).2 = 0)) && oP l 2) && decide ((Zq (oG l 2)).2 = 0)) && oP l 3) (oG l 3))) (H' := [rdB l, bxB 36 (Zan (⟨0, 0, 0, dz, 0⟩ : Head)), bxB 1 ([.bool ((((((((((ofF l).1) && oP l 0) && decide ((Zq (oG l 0)).2 = 0)) && oP l 1) && decide ((Zq (oG l 1)).2 = 0)) && oP l 2) && decide ((Zq (oG l 2)).2 = 0)) && oP l 3) && decide ((oG l 3).size = 32))]), bxB 36 (Zan (⟨((Zq (oG l 0)).1), ((Zq (oG l 1)).1), ((Zq (oG l 2)).1), dz, 0⟩ : Head)), rfB (slv 5 (pK (oN l) 4) (Zak (oN l) (pK (oN l) 4)) (Zak (oN l) (pK (oN l) 4))), txB ((ofF l).2)]) rfl rfl rfl rfl rfl rfl rfl ⟨⟨⟨rfl, rfl⟩, ⟨rfl, rfl⟩, trivial⟩, ⟨(Zay rfl rfl rfl (by show [_] = [Zdq _ _]; simp [Zdq, Zct])), (Zg9 rfl), (Zay rfl rfl rfl rfl), trivial⟩, rfl, rfl, rfl⟩ (by kernel_rfl) (Eq.trans (b := [rdB l, bxB 36 (Zan (⟨0, 0, 0, dz, 0⟩ : Head)), bxB 1 ([.bool ((((((((((ofF l).1) && oP l 0) && decide ((Zq (oG l 0)).2 = 0)) && oP l 1) && decide ((Zq (oG l 1)).2 = 0)) && oP l 2) && decide ((Zq (oG l 2)).2 = 0)) && oP l 3) && decide ((oG l 3).size = 32))]), bxB 36 (Zan (⟨((Zq (oG l 0)).1), ((Zq (oG l 1)).1), ((Zq (oG l 2)).1), dz, 0⟩ : Head)), rfB (slv 5 (0 + (pK (oN l) 4)) (Zak (oN l) (pK (oN l) 4)) (Zak (oN l) (pK (oN l) 4))), txB ((ofF l).2)]) (by kernel_rfl) (by rw [Nat.zero_add])) ?_
  refine Zj (b := 3) (o := 0) (n := 3) (o' := 3) rfl rfl rfl rfl rfl ?_
  refine Zr (p := pt 3 3) (v := dgV (Zc8 (((((((((ofF l).1) && oP l 0) && decide ((Zq (oG l 0)).2 = 0)) && oP l 1) && decide ((Zq (oG l 1)).2 = 0)) && oP l 2) && decide ((Zq (oG l 2)).2 = 0)) && oP l 3) (oG l 3))) (b := 3) (blk := bxB 36 (Zan (⟨((Zq (oG l 0)).1), ((Zq (oG l 1)).1), ((Zq (oG l 2)).1), (Zc8 (((((((((ofF l).1) && oP l 0) && decide ((Zq (oG l 0)).2 = 0)) && oP l 1) && decide ((Zq (oG l 1)).2 = 0)) && oP l 2) && decide ((Zq (oG l 2)).2 = 0)) && oP l 3) (oG l 3)), 0⟩ : Head))) (H' := [rdB l, bxB 36 (Zan (⟨0, 0, 0, dz, 0⟩ : Head)), bxB 1 ([.bool ((((((((((ofF l).1) && oP l 0) && decide ((Zq (oG l 0)).2 = 0)) && oP l 1) && decide ((Zq (oG l 1)).2 = 0)) && oP l 2) && decide ((Zq (oG l 2)).2 = 0)) && oP l 3) && decide ((oG l 3).size = 32))]), bxB 36 (Zan (⟨((Zq (oG l 0)).1), ((Zq (oG l 1)).1), ((Zq (oG l 2)).1), (Zc8 (((((((((ofF l).1) && oP l 0) && decide ((Zq (oG l 0)).2 = 0)) && oP l 1) && decide ((Zq (oG l 1)).2 = 0)) && oP l 2) && decide ((Zq (oG l 2)).2 = 0)) && oP l 3) (oG l 3)), 0⟩ : Head)), rfB (slv 5 (pK (oN l) 4) (Zak (oN l) (pK (oN l) 4)) (Zak (oN l) (pK (oN l) 4))), txB ((ofF l).2)]) rfl rfl rfl (by kernel_rfl) (by kernel_rfl) ?_
  refine Za (Zc (Zg (Zi (Zd rfl rfl (pt 4 0) rfl ?_))))
  have hpk12 := Zg6 (oN l) 5
  have hrm12 : Zak (oN l) (pK (oN l) 5) + (pK (oN l) 5) = (oN l) := Zfc hpk12
  refine Zad (e := [some (4, 0), some (5, 0), some (2, 0)]) (nid := 0) (Ziy (G := G) ((ofF l).2) (oN l) (pK (oN l) 4) ((((((((((ofF l).1) && oP l 0) && decide ((Zq (oG l 0)).2 = 0)) && oP l 1) && decide ((Zq (oG l 1)).2 = 0)) && oP l 2) && decide ((Zq (oG l 2)).2 = 0)) && oP l 3) && decide ((oG l 3).size = 32)) rfl (Zg6 (oN l) 4)) (vals := [pt 4 0, pt 2 0]) (v := Iv ((Zq (oG l 4)).1)) (H' := [rdB l, bxB 36 (Zan (⟨0, 0, 0, dz, 0⟩ : Head)), bxB 1 ([.bool ((((((((((((ofF l).1) && oP l 0) && decide ((Zq (oG l 0)).2 = 0)) && oP l 1) && decide ((Zq (oG l 1)).2 = 0)) && oP l 2) && decide ((Zq (oG l 2)).2 = 0)) && oP l 3) && decide ((oG l 3).size = 32)) && oP l 4) && decide ((Zq (oG l 4)).2 = 0))]), bxB 36 (Zan (⟨((Zq (oG l 0)).1), ((Zq (oG l 1)).1), ((Zq (oG l 2)).1), (Zc8 (((((((((ofF l).1) && oP l 0) && decide ((Zq (oG l 0)).2 = 0)) && oP l 1) && decide ((Zq (oG l 1)).2 = 0)) && oP l 2) && decide ((Zq (oG l 2)).2 = 0)) && oP l 3) (oG l 3)), 0⟩ : Head)), rfB (slv 5 (pK (oN l) 5) (Zak (oN l) (pK (oN l) 5)) (Zak (oN l) (pK (oN l) 5))), txB ((ofF l).2)]) rfl rfl rfl rfl rfl rfl rfl ⟨⟨⟨rfl, rfl⟩, ⟨rfl, rfl⟩, trivial⟩, ⟨(Zay rfl rfl rfl (by show [_] = [Zdq _ _]; simp [Zdq, Zct])), (Zg9 rfl), (Zay rfl rfl rfl rfl), trivial⟩, rfl, rfl, rfl⟩ (by kernel_rfl) (Eq.trans (b := [rdB l, bxB 36 (Zan (⟨0, 0, 0, dz, 0⟩ : Head)), bxB 1 ([.bool ((((((((((((ofF l).1) && oP l 0) && decide ((Zq (oG l 0)).2 = 0)) && oP l 1) && decide ((Zq (oG l 1)).2 = 0)) && oP l 2) && decide ((Zq (oG l 2)).2 = 0)) && oP l 3) && decide ((oG l 3).size = 32)) && oP l 4) && decide ((Zq (oG l 4)).2 = 0))]), bxB 36 (Zan (⟨((Zq (oG l 0)).1), ((Zq (oG l 1)).1), ((Zq (oG l 2)).1), (Zc8 (((((((((ofF l).1) && oP l 0) && decide ((Zq (oG l 0)).2 = 0)) && oP l 1) && decide ((Zq (oG l 1)).2 = 0)) && oP l 2) && decide ((Zq (oG l 2)).2 = 0)) && oP l 3) (oG l 3)), 0⟩ : Head)), rfB (slv 5 (0 + (pK (oN l) 5)) (Zak (oN l) (pK (oN l) 5)) (Zak (oN l) (pK (oN l) 5))), txB ((ofF l).2)]) (by kernel_rfl) (by rw [Nat.zero_add])) ?_
  refine Zj (b := 3) (o := 0) (n := 35) (o' := 35) rfl rfl rfl rfl rfl ?_
  refine Zr (p := pt 3 35) (v := Iv ((Zq (oG l 4)).1)) (b := 3) (blk := bxB 36 (Zan (⟨((Zq (oG l 0)).1), ((Zq (oG l 1)).1), ((Zq (oG l 2)).1), (Zc8 (((((((((ofF l).1) && oP l 0) && decide ((Zq (oG l 0)).2 = 0)) && oP l 1) && decide ((Zq (oG l 1)).2 = 0)) && oP l 2) && decide ((Zq (oG l 2)).2 = 0)) && oP l 3) (oG l 3)), ((Zq (oG l 4)).1)⟩ : Head))) (H' := [rdB l, bxB 36 (Zan (⟨0, 0, 0, dz, 0⟩ : Head)), bxB 1 ([.bool ((((((((((((ofF l).1) && oP l 0) && decide ((Zq (oG l 0)).2 = 0)) && oP l 1) && decide ((Zq (oG l 1)).2 = 0)) && oP l 2) && decide ((Zq (oG l 2)).2 = 0)) && oP l 3) && decide ((oG l 3).size = 32)) && oP l 4) && decide ((Zq (oG l 4)).2 = 0))]), bxB 36 (Zan (⟨((Zq (oG l 0)).1), ((Zq (oG l 1)).1), ((Zq (oG l 2)).1), (Zc8 (((((((((ofF l).1) && oP l 0) && decide ((Zq (oG l 0)).2 = 0)) && oP l 1) && decide ((Zq (oG l 1)).2 = 0)) && oP l 2) && decide ((Zq (oG l 2)).2 = 0)) && oP l 3) (oG l 3)), ((Zq (oG l 4)).1)⟩ : Head)), rfB (slv 5 (pK (oN l) 5) (Zak (oN l) (pK (oN l) 5)) (Zak (oN l) (pK (oN l) 5))), txB ((ofF l).2)]) rfl rfl rfl (by kernel_rfl) (by kernel_rfl) ?_
  refine Za (Zc (Zg (Zg (Zi ?_))))
  refine Zo (p := pt 2 0) (v := .bool ((((((((((((ofF l).1) && oP l 0) && decide ((Zq (oG l 0)).2 = 0)) && oP l 1) && decide ((Zq (oG l 1)).2 = 0)) && oP l 2) && decide ((Zq (oG l 2)).2 = 0)) && oP l 3) && decide ((oG l 3).size = 32)) && oP l 4) && decide ((Zq (oG l 4)).2 = 0))) rfl rfl rfl (by kernel_rfl) ?_
  rcases Bool.eq_false_or_eq_true ((((((((((((ofF l).1) && oP l 0) && decide ((Zq (oG l 0)).2 = 0)) && oP l 1) && decide ((Zq (oG l 1)).2 = 0)) && oP l 2) && decide ((Zq (oG l 2)).2 = 0)) && oP l 3) && decide ((oG l 3).size = 32)) && oP l 4) && decide ((Zq (oG l 4)).2 = 0)) with h1 | h1
  refine Zef (vx := .bool ((((((((((((ofF l).1) && oP l 0) && decide ((Zq (oG l 0)).2 = 0)) && oP l 1) && decide ((Zq (oG l 1)).2 = 0)) && oP l 2) && decide ((Zq (oG l 2)).2 = 0)) && oP l 3) && decide ((oG l 3).size = 32)) && oP l 4) && decide ((Zq (oG l 4)).2 = 0))) rfl rfl (.bool false) rfl (Eq.trans Zb1 (congrArg (fun b => some (Value.bool !b)) h1)) ?_
  refine Zd rfl rfl (.bool false) rfl (Zd rfl rfl (pt 4 0) rfl ?_)
  refine Zag (p := pt 4 0) (v := pt 4 0) rfl rfl rfl rfl ?_
  refine Zo (p := pt 4 0) (v := slv 5 (pK (oN l) 5) (Zak (oN l) (pK (oN l) 5)) (Zak (oN l) (pK (oN l) 5))) rfl rfl rfl rfl ?_
  refine Zb7 (p := slv 5 (pK (oN l) 5) (Zak (oN l) (pK (oN l) 5)) (Zak (oN l) (pK (oN l) 5))) (v := Iv (((Zak (oN l) (pK (oN l) 5)) : Nat) : Int)) rfl rfl rfl rfl ?_
  by_cases h2 : 0 < (((Zak (oN l) (pK (oN l) 5)) : Nat) : Int)
  refine Zn (vx := Iv (((Zak (oN l) (pK (oN l) 5)) : Nat) : Int)) (vy := Iv 0) rfl rfl (.bool true) rfl rfl (Zf1 (by omega)) ?_
  refine Zk rfl rfl (.bool true) rfl (Zd rfl rfl (.bool true) rfl (Zf rfl rfl (Zf rfl rfl (Zf rfl rfl (Zk rfl rfl (.bool true) rfl (Za (Zc (Z0 rfl (Zg (Zi ?_))))))))))
  refine Zaw (vs := []) (v := Zbf (⟨0, 0, 0, dz, 0⟩ : Head)) rfl rfl rfl (by kernel_rfl) ?_
  refine Zr (p := pt 1 0) (v := Zbf (⟨0, 0, 0, dz, 0⟩ : Head)) (b := 1) (blk := bxB 36 (Zan (⟨0, 0, 0, dz, 0⟩ : Head))) (H' := [rdB l, bxB 36 (Zan (⟨0, 0, 0, dz, 0⟩ : Head)), bxB 1 ([.bool ((((((((((((ofF l).1) && oP l 0) && decide ((Zq (oG l 0)).2 = 0)) && oP l 1) && decide ((Zq (oG l 1)).2 = 0)) && oP l 2) && decide ((Zq (oG l 2)).2 = 0)) && oP l 3) && decide ((oG l 3).size = 32)) && oP l 4) && decide ((Zq (oG l 4)).2 = 0))]), bxB 36 (Zan (⟨((Zq (oG l 0)).1), ((Zq (oG l 1)).1), ((Zq (oG l 2)).1), (Zc8 (((((((((ofF l).1) && oP l 0) && decide ((Zq (oG l 0)).2 = 0)) && oP l 1) && decide ((Zq (oG l 1)).2 = 0)) && oP l 2) && decide ((Zq (oG l 2)).2 = 0)) && oP l 3) (oG l 3)), ((Zq (oG l 4)).1)⟩ : Head)), rfB (slv 5 (pK (oN l) 5) (Zak (oN l) (pK (oN l) 5)) (Zak (oN l) (pK (oN l) 5))), txB ((ofF l).2)]) rfl rfl rfl (by kernel_rfl) (by kernel_rfl) ?_
  refine Zb rfl rfl (Iv 70) rfl (Za (Zc (Zv (Z5 (Zu ?_)))))
  rw [show Zax l = ((⟨0, 0, 0, dz, 0⟩ : Head), 70) from by unfold Zax; rw [if_pos h1, if_pos h2]]
  exact Zm (v := .tuple #[Zbf (⟨0, 0, 0, dz, 0⟩ : Head), Iv 70]) (by kernel_rfl) rfl rfl (by simp [Zac, rdB]) ⟨(Zbd (by kernel_rfl) rfl), rfl, trivial⟩
  refine Zn (vx := Iv (((Zak (oN l) (pK (oN l) 5)) : Nat) : Int)) (vy := Iv 0) rfl rfl (.bool false) rfl rfl (Zf8 (by omega)) ?_
  refine Zk rfl rfl (.bool false) rfl (Zd rfl rfl (.bool false) rfl ?_)
  refine Zo (p := pt 3 0) (v := Zbf (⟨((Zq (oG l 0)).1), ((Zq (oG l 1)).1), ((Zq (oG l 2)).1), (Zc8 (((((((((ofF l).1) && oP l 0) && decide ((Zq (oG l 0)).2 = 0)) && oP l 1) && decide ((Zq (oG l 1)).2 = 0)) && oP l 2) && decide ((Zq (oG l 2)).2 = 0)) && oP l 3) (oG l 3)), ((Zq (oG l 4)).1)⟩ : Head)) rfl rfl rfl (by kernel_rfl) ?_
  refine Zs (Zoj (G := G) (⟨((Zq (oG l 0)).1), ((Zq (oG l 1)).1), ((Zq (oG l 2)).1), (Zc8 (((((((((ofF l).1) && oP l 0) && decide ((Zq (oG l 0)).2 = 0)) && oP l 1) && decide ((Zq (oG l 1)).2 = 0)) && oP l 2) && decide ((Zq (oG l 2)).2 = 0)) && oP l 3) (oG l 3)), ((Zq (oG l 4)).1)⟩ : Head)) (vals := [Zbf (⟨((Zq (oG l 0)).1), ((Zq (oG l 1)).1), ((Zq (oG l 2)).1), (Zc8 (((((((((ofF l).1) && oP l 0) && decide ((Zq (oG l 0)).2 = 0)) && oP l 1) && decide ((Zq (oG l 1)).2 = 0)) && oP l 2) && decide ((Zq (oG l 2)).2 = 0)) && oP l 3) (oG l 3)), ((Zq (oG l 4)).1)⟩ : Head)]) (res' := Iv (Zbm (⟨((Zq (oG l 0)).1), ((Zq (oG l 1)).1), ((Zq (oG l 2)).1), (Zc8 (((((((((ofF l).1) && oP l 0) && decide ((Zq (oG l 0)).2 = 0)) && oP l 1) && decide ((Zq (oG l 1)).2 = 0)) && oP l 2) && decide ((Zq (oG l 2)).2 = 0)) && oP l 3) (oG l 3)), ((Zq (oG l 4)).1)⟩ : Head))) rfl rfl rfl rfl rfl rfl ?_
  by_cases h3 : (Zbm (⟨((Zq (oG l 0)).1), ((Zq (oG l 1)).1), ((Zq (oG l 2)).1), (Zc8 (((((((((ofF l).1) && oP l 0) && decide ((Zq (oG l 0)).2 = 0)) && oP l 1) && decide ((Zq (oG l 1)).2 = 0)) && oP l 2) && decide ((Zq (oG l 2)).2 = 0)) && oP l 3) (oG l 3)), ((Zq (oG l 4)).1)⟩ : Head)) ≠ 0
  refine Zn (vx := Iv (Zbm (⟨((Zq (oG l 0)).1), ((Zq (oG l 1)).1), ((Zq (oG l 2)).1), (Zc8 (((((((((ofF l).1) && oP l 0) && decide ((Zq (oG l 0)).2 = 0)) && oP l 1) && decide ((Zq (oG l 1)).2 = 0)) && oP l 2) && decide ((Zq (oG l 2)).2 = 0)) && oP l 3) (oG l 3)), ((Zq (oG l 4)).1)⟩ : Head))) (vy := Iv 0) rfl rfl (.bool true) rfl rfl (Zeg (by omega)) ?_
  refine Zk rfl rfl (.bool true) rfl (Za (Zc (Z0 rfl (Zg (Zi ?_)))))
  refine Zaw (vs := []) (v := Zbf (⟨0, 0, 0, dz, 0⟩ : Head)) rfl rfl rfl (by kernel_rfl) ?_
  refine Zr (p := pt 1 0) (v := Zbf (⟨0, 0, 0, dz, 0⟩ : Head)) (b := 1) (blk := bxB 36 (Zan (⟨0, 0, 0, dz, 0⟩ : Head))) (H' := [rdB l, bxB 36 (Zan (⟨0, 0, 0, dz, 0⟩ : Head)), bxB 1 ([.bool ((((((((((((ofF l).1) && oP l 0) && decide ((Zq (oG l 0)).2 = 0)) && oP l 1) && decide ((Zq (oG l 1)).2 = 0)) && oP l 2) && decide ((Zq (oG l 2)).2 = 0)) && oP l 3) && decide ((oG l 3).size = 32)) && oP l 4) && decide ((Zq (oG l 4)).2 = 0))]), bxB 36 (Zan (⟨((Zq (oG l 0)).1), ((Zq (oG l 1)).1), ((Zq (oG l 2)).1), (Zc8 (((((((((ofF l).1) && oP l 0) && decide ((Zq (oG l 0)).2 = 0)) && oP l 1) && decide ((Zq (oG l 1)).2 = 0)) && oP l 2) && decide ((Zq (oG l 2)).2 = 0)) && oP l 3) (oG l 3)), ((Zq (oG l 4)).1)⟩ : Head)), rfB (slv 5 (pK (oN l) 5) (Zak (oN l) (pK (oN l) 5)) (Zak (oN l) (pK (oN l) 5))), txB ((ofF l).2)]) rfl rfl rfl (by kernel_rfl) (by kernel_rfl) ?_
  refine Zb rfl rfl (Iv 70) rfl (Za (Zc (Zv (Z5 (Zu ?_)))))
  rw [show Zax l = ((⟨0, 0, 0, dz, 0⟩ : Head), 70) from by unfold Zax; rw [if_pos h1, if_neg h2, if_pos h3]]
  exact Zm (v := .tuple #[Zbf (⟨0, 0, 0, dz, 0⟩ : Head), Iv 70]) (by kernel_rfl) rfl rfl (by simp [Zac, rdB]) ⟨(Zbd (by kernel_rfl) rfl), rfl, trivial⟩
  refine Zn (vx := Iv (Zbm (⟨((Zq (oG l 0)).1), ((Zq (oG l 1)).1), ((Zq (oG l 2)).1), (Zc8 (((((((((ofF l).1) && oP l 0) && decide ((Zq (oG l 0)).2 = 0)) && oP l 1) && decide ((Zq (oG l 1)).2 = 0)) && oP l 2) && decide ((Zq (oG l 2)).2 = 0)) && oP l 3) (oG l 3)), ((Zq (oG l 4)).1)⟩ : Head))) (vy := Iv 0) rfl rfl (.bool false) rfl rfl (Zds (by omega)) ?_
  refine Zk rfl rfl (.bool false) rfl (Za (Zc (Zx rfl (Zai (Zc (Zg (Zi ?_)))))))
  refine Zo (p := pt 3 0) (v := Zbf (⟨((Zq (oG l 0)).1), ((Zq (oG l 1)).1), ((Zq (oG l 2)).1), (Zc8 (((((((((ofF l).1) && oP l 0) && decide ((Zq (oG l 0)).2 = 0)) && oP l 1) && decide ((Zq (oG l 1)).2 = 0)) && oP l 2) && decide ((Zq (oG l 2)).2 = 0)) && oP l 3) (oG l 3)), ((Zq (oG l 4)).1)⟩ : Head)) rfl rfl rfl (by kernel_rfl) ?_
  refine Zr (p := pt 1 0) (v := Zbf (⟨((Zq (oG l 0)).1), ((Zq (oG l 1)).1), ((Zq (oG l 2)).1), (Zc8 (((((((((ofF l).1) && oP l 0) && decide ((Zq (oG l 0)).2 = 0)) && oP l 1) && decide ((Zq (oG l 1)).2 = 0)) && oP l 2) && decide ((Zq (oG l 2)).2 = 0)) && oP l 3) (oG l 3)), ((Zq (oG l 4)).1)⟩ : Head)) (b := 1) (blk := bxB 36 (Zan (⟨((Zq (oG l 0)).1), ((Zq (oG l 1)).1), ((Zq (oG l 2)).1), (Zc8 (((((((((ofF l).1) && oP l 0) && decide ((Zq (oG l 0)).2 = 0)) && oP l 1) && decide ((Zq (oG l 1)).2 = 0)) && oP l 2) && decide ((Zq (oG l 2)).2 = 0)) && oP l 3) (oG l 3)), ((Zq (oG l 4)).1)⟩ : Head))) (H' := [rdB l, bxB 36 (Zan (⟨((Zq (oG l 0)).1), ((Zq (oG l 1)).1), ((Zq (oG l 2)).1), (Zc8 (((((((((ofF l).1) && oP l 0) && decide ((Zq (oG l 0)).2 = 0)) && oP l 1) && decide ((Zq (oG l 1)).2 = 0)) && oP l 2) && decide ((Zq (oG l 2)).2 = 0)) && oP l 3) (oG l 3)), ((Zq (oG l 4)).1)⟩ : Head)), bxB 1 ([.bool ((((((((((((ofF l).1) && oP l 0) && decide ((Zq (oG l 0)).2 = 0)) && oP l 1) && decide ((Zq (oG l 1)).2 = 0)) && oP l 2) && decide ((Zq (oG l 2)).2 = 0)) && oP l 3) && decide ((oG l 3).size = 32)) && oP l 4) && decide ((Zq (oG l 4)).2 = 0))]), bxB 36 (Zan (⟨((Zq (oG l 0)).1), ((Zq (oG l 1)).1), ((Zq (oG l 2)).1), (Zc8 (((((((((ofF l).1) && oP l 0) && decide ((Zq (oG l 0)).2 = 0)) && oP l 1) && decide ((Zq (oG l 1)).2 = 0)) && oP l 2) && decide ((Zq (oG l 2)).2 = 0)) && oP l 3) (oG l 3)), ((Zq (oG l 4)).1)⟩ : Head)), rfB (slv 5 (pK (oN l) 5) (Zak (oN l) (pK (oN l) 5)) (Zak (oN l) (pK (oN l) 5))), txB ((ofF l).2)]) rfl rfl rfl (by kernel_rfl) (by kernel_rfl) ?_
  refine Zb rfl rfl (Iv 0) rfl (Za (Zc (Zv (Zu ?_))))
  rw [show Zax l = ((⟨((Zq (oG l 0)).1), ((Zq (oG l 1)).1), ((Zq (oG l 2)).1), (Zc8 (((((((((ofF l).1) && oP l 0) && decide ((Zq (oG l 0)).2 = 0)) && oP l 1) && decide ((Zq (oG l 1)).2 = 0)) && oP l 2) && decide ((Zq (oG l 2)).2 = 0)) && oP l 3) (oG l 3)), ((Zq (oG l 4)).1)⟩ : Head), 0) from by unfold Zax; rw [if_pos h1, if_neg h2, if_neg h3]]
  exact Zm (v := .tuple #[Zbf (⟨((Zq (oG l 0)).1), ((Zq (oG l 1)).1), ((Zq (oG l 2)).1), (Zc8 (((((((((ofF l).1) && oP l 0) && decide ((Zq (oG l 0)).2 = 0)) && oP l 1) && decide ((Zq (oG l 1)).2 = 0)) && oP l 2) && decide ((Zq (oG l 2)).2 = 0)) && oP l 3) (oG l 3)), ((Zq (oG l 4)).1)⟩ : Head), Iv 0]) (by kernel_rfl) rfl rfl (by simp [Zac, rdB]) ⟨(Zbd (by kernel_rfl) rfl), rfl, trivial⟩
  refine Zef (vx := .bool ((((((((((((ofF l).1) && oP l 0) && decide ((Zq (oG l 0)).2 = 0)) && oP l 1) && decide ((Zq (oG l 1)).2 = 0)) && oP l 2) && decide ((Zq (oG l 2)).2 = 0)) && oP l 3) && decide ((oG l 3).size = 32)) && oP l 4) && decide ((Zq (oG l 4)).2 = 0))) rfl rfl (.bool true) rfl (Eq.trans Zb1 (congrArg (fun b => some (Value.bool !b)) h1)) ?_
  refine Zd rfl rfl (.bool true) rfl (Zf rfl rfl (Zf rfl rfl (Zf rfl rfl (Zf rfl rfl (Zf rfl rfl (Zk rfl rfl (.bool true) rfl (Zd rfl rfl (.bool true) rfl (Zf rfl rfl (Zf rfl rfl (Zf rfl rfl (Zk rfl rfl (.bool true) rfl (Za (Zc (Z0 rfl (Zg (Zi ?_))))))))))))))))
  refine Zaw (vs := []) (v := Zbf (⟨0, 0, 0, dz, 0⟩ : Head)) rfl rfl rfl (by kernel_rfl) ?_
  refine Zr (p := pt 1 0) (v := Zbf (⟨0, 0, 0, dz, 0⟩ : Head)) (b := 1) (blk := bxB 36 (Zan (⟨0, 0, 0, dz, 0⟩ : Head))) (H' := [rdB l, bxB 36 (Zan (⟨0, 0, 0, dz, 0⟩ : Head)), bxB 1 ([.bool ((((((((((((ofF l).1) && oP l 0) && decide ((Zq (oG l 0)).2 = 0)) && oP l 1) && decide ((Zq (oG l 1)).2 = 0)) && oP l 2) && decide ((Zq (oG l 2)).2 = 0)) && oP l 3) && decide ((oG l 3).size = 32)) && oP l 4) && decide ((Zq (oG l 4)).2 = 0))]), bxB 36 (Zan (⟨((Zq (oG l 0)).1), ((Zq (oG l 1)).1), ((Zq (oG l 2)).1), (Zc8 (((((((((ofF l).1) && oP l 0) && decide ((Zq (oG l 0)).2 = 0)) && oP l 1) && decide ((Zq (oG l 1)).2 = 0)) && oP l 2) && decide ((Zq (oG l 2)).2 = 0)) && oP l 3) (oG l 3)), ((Zq (oG l 4)).1)⟩ : Head)), rfB (slv 5 (pK (oN l) 5) (Zak (oN l) (pK (oN l) 5)) (Zak (oN l) (pK (oN l) 5))), txB ((ofF l).2)]) rfl rfl rfl (by kernel_rfl) (by kernel_rfl) ?_
  refine Zb rfl rfl (Iv 70) rfl (Za (Zc (Zv (Z5 (Zu ?_)))))
  rw [show Zax l = ((⟨0, 0, 0, dz, 0⟩ : Head), 70) from by unfold Zax; rw [if_neg (by rw [h1]; decide)]]
  exact Zm (v := .tuple #[Zbf (⟨0, 0, 0, dz, 0⟩ : Head), Iv 70]) (by kernel_rfl) rfl rfl (by simp [Zac, rdB]) ⟨(Zbd (by kernel_rfl) rfl), rfl, trivial⟩
end Go.Flat
