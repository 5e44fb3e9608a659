/- Walks. -/
import Derived.Test.YtbjlgbejbolohaaDoorH17
set_option linter.unusedVariables false
set_option linter.unusedSimpArgs false
set_option maxRecDepth 20000
namespace Go.Flat
open Go.Proofs
variable {G : Glob}
def cpD (s : ByteArray) : D := fun i => if i < s.size then (bl s).getD i 0 else 0
def Zc5 (ok : Bool) (s : ByteArray) : D := if ok = true then cpD s else dz
theorem Z02 {P : Program} {H : List Blk} {t : TypeId} {b c by_ : Nat} {zc : List Value} {s : ByteArray} (ht : Zcx P t = some (1, zc, by_)) (hb : H[b]? = some (dgB dz)) : Zo5 P H t (slv b 0 32 c) (.string s) = some (Iv (min s.size 32 : Nat), b, dgB (cpD s)) := by
 have hs : Zgv H 1 (.string s) = some (s.size, Zcq s) := rfl
 have hl : (Zcq s).length = s.size := Zed s
 have hcl : (dgB dz).cells.length = 32 := rfl
 have hp : Zdh (dgB dz).pur ((Zcq s).take (min s.size 32 * 1)) = true := by
  show ((Zcq s).take (min s.size 32 * 1)).all Zbh = true
  rw [List.all_eq_true]
  intro v hv
  exact List.all_eq_true.1 (Zni s) v (List.mem_of_mem_take hv)
 unfold Zo5
 rw [ht]
 simp only [hs, Option.bind_some, hb]
 rw [if_pos (by
  simp only [Bool.and_eq_true, decide_eq_true_eq]
  refine ⟨⟨⟨rfl, hp⟩, by rw [hcl]; omega⟩, by rw [List.length_take, hl]; omega⟩)]
 have e : splice (dgB dz).cells 0 ((Zcq s).take (min s.size 32 * 1)) = Zaa w8 32 (cpD s) := by
  unfold splice
  rw [List.take_zero, List.nil_append, List.length_take, hl, Zio]
  apply List.ext_getElem?
  intro i
  have hbl : (bl s).length = s.size := Zes s
  by_cases hi : i < min s.size 32
  ·rw [List.getElem?_append_left (by simp [hbl]; omega), List.getElem?_take, if_pos (by omega), Zco (by omega), List.getElem?_map, List.getElem?_eq_getElem (by omega)]
   simp only [Option.map_some, cpD]
   rw [if_pos (by omega), List.getD_eq_getElem?_getD, List.getElem?_eq_getElem (by omega)]; rfl
  ·rw [List.getElem?_append_right (by simp [hbl]; omega), List.getElem?_drop]
   simp only [List.length_take, List.length_map, hbl]
   by_cases h32 : i < 32
   ·have e2 : 0 + min (min s.size 32 * 1) s.size + (i - min (min s.size 32 * 1) s.size) = i := by omega
    rw [e2, show (dgB dz).cells = Zaa w8 32 dz from rfl, Zco h32, Zco h32]
    simp only [cpD]
    rw [if_neg (by omega)]; rfl
   ·rw [List.getElem?_eq_none (by rw [hcl]; omega), List.getElem?_eq_none (by rw [Zbl]; omega)]
 rw [e]
 rfl
theorem Zq2 (ls : List ByteArray) (L p : Nat) (ok : Bool) (hL : ls.length = L) (hp : p ≤ L) : Zac Tryd.prog G 35 [pt 0 0, pt 2 0] [rfB (slv 1 p (Z3 L p) (Z3 L p)), Za8 ls, bxB 1 ([.bool ok])] (dgV (Zc5 (ok && decide (p < L)) (ls.getD p ⟨#[]⟩))) [rfB (slv 1 (nxP L p) (Z3 L (nxP L p)) (Z3 L (nxP L p))), Za8 ls, bxB 1 [.bool ((ok && decide (p < L)) && decide ((ls.getD p ⟨#[]⟩).size = 32))]] := by
 refine Zb8 (fn := Tryd.f35) (nt := 29) rfl rfl rfl rfl ?_
 refine Zah 2 (H' := [rfB (slv 1 p (Z3 L p) (Z3 L p)), Za8 ls, bxB 1 ([.bool ok]), hole, hole]) rfl ?_
 refine Ze (Zf ?_)
 refine Zq (b := dgB dz) (nid := 3) (H' := [rfB (slv 1 p (Z3 L p) (Z3 L p)), Za8 ls, bxB 1 ([.bool ok]), dgB dz, hole]) rfl rfl (by kernel_rfl) (by kernel_rfl) ?_
 refine Za (Zb (Ze (Zf ?_)))
 refine Zq (b := dgB dz) (nid := 4) (H' := [rfB (slv 1 p (Z3 L p) (Z3 L p)), Za8 ls, bxB 1 ([.bool ok]), dgB dz, dgB dz]) rfl rfl (by kernel_rfl) (by kernel_rfl) ?_
 refine Za (Zb (Ze (Zf (Zd rfl rfl (pt 0 0) rfl (Zd rfl rfl (pt 2 0) rfl ?_)))))
 have hnx2 := Zv7 (L := L) (p := p) (by omega)
 refine Zab (e := [some (0, 0), some (1, 0), some (2, 0)]) (nid := 0) (Zsu (G := G) ls L p ok hL (by omega)) (vals := [pt 0 0, pt 2 0]) (v := .string (ls.getD p ⟨#[]⟩)) (H' := [rfB (slv 1 (nxP L p) (Z3 L (nxP L p)) (Z3 L (nxP L p))), Za8 ls, bxB 1 ([.bool (ok && decide (p < L))]), dgB dz, dgB dz]) rfl rfl rfl rfl rfl rfl rfl ⟨⟨⟨rfl, rfl⟩, ⟨rfl, rfl⟩, trivial⟩, ⟨(Zal rfl rfl rfl (by show [_] = [Zdr _ _]; simp [Zdr, Zck])), (Zsj rfl), (Zal rfl rfl rfl rfl), trivial⟩, rfl, rfl, rfl⟩ rfl (Eq.trans (b := [rfB (slv 1 (0 + (nxP L p)) (Z3 L (nxP L p)) (Z3 L (nxP L p))), Za8 ls, bxB 1 ([.bool (ok && decide (p < L))]), dgB dz, dgB dz]) (by kernel_rfl) (by rw [Nat.zero_add])) ?_
 refine Zc rfl rfl (.string (ls.getD p ⟨#[]⟩)) rfl (Za (Zb (Ze (Zf (Zd rfl rfl (pt 2 0) rfl (Zd rfl rfl (pt 2 0) rfl ?_))))))
 refine Z7 (p := pt 2 0) (v := pt 2 0) rfl rfl rfl rfl ?_
 refine Zg (p := pt 2 0) (v := .bool (ok && decide (p < L))) rfl rfl rfl (by kernel_rfl) ?_
 refine Zd rfl rfl (.bool (ok && decide (p < L))) rfl ?_
 rcases Bool.eq_false_or_eq_true (ok && decide (p < L)) with h1 | h1
 refine Zci (p := pt 4 0) (vl := none) (vh := none) (v := slv 4 0 32 32) (by exact congrArg (fun b => some (b == true)) h1) rfl rfl rfl rfl rfl ?_
 refine Zd (by exact congrArg (fun b => some (b == true)) h1) rfl (.string (ls.getD p ⟨#[]⟩)) rfl ?_
 refine Zwb (p := slv 4 0 32 32) (q := .string (ls.getD p ⟨#[]⟩)) (v := Iv (((min (ls.getD p ⟨#[]⟩).size 32) : Nat) : Int)) (b := 4) (blk := dgB (cpD (ls.getD p ⟨#[]⟩))) (H' := [rfB (slv 1 (nxP L p) (Z3 L (nxP L p)) (Z3 L (nxP L p))), Za8 ls, bxB 1 ([.bool (ok && decide (p < L))]), dgB dz, dgB (cpD (ls.getD p ⟨#[]⟩))]) (by exact congrArg (fun b => some (b == true)) h1) rfl rfl rfl (Z02 rfl rfl) (by kernel_rfl) ?_
 refine Zd (by exact congrArg (fun b => some (b == true)) h1) rfl (.string (ls.getD p ⟨#[]⟩)) rfl ?_
 refine Za6 (p := .string (ls.getD p ⟨#[]⟩)) (v := Iv ((((ls.getD p ⟨#[]⟩).size) : Nat) : Int)) (by exact congrArg (fun b => some (b == true)) h1) rfl rfl rfl ?_
 by_cases h2 : (((min (ls.getD p ⟨#[]⟩).size 32) : Nat) : Int) = ((((ls.getD p ⟨#[]⟩).size) : Nat) : Int)
 refine Zi (vx := Iv (((min (ls.getD p ⟨#[]⟩).size 32) : Nat) : Int)) (vy := Iv ((((ls.getD p ⟨#[]⟩).size) : Nat) : Int)) (by exact congrArg (fun b => some (b == true)) h1) rfl (.bool true) rfl rfl (Zd2 (by omega)) ?_
 refine Zp rfl rfl (.bool true) (by show some (if _ then _ else _) = _; rw [h1] <;> rfl) ?_
 refine Zd rfl rfl (.bool true) rfl (Zd rfl rfl (.string (ls.getD p ⟨#[]⟩)) rfl ?_)
 refine Za6 (p := .string (ls.getD p ⟨#[]⟩)) (v := Iv ((((ls.getD p ⟨#[]⟩).size) : Nat) : Int)) rfl rfl rfl rfl ?_
 by_cases h3 : ((((ls.getD p ⟨#[]⟩).size) : Nat) : Int) = 32
 refine Zi (vx := Iv ((((ls.getD p ⟨#[]⟩).size) : Nat) : Int)) (vy := Iv 32) rfl rfl (.bool true) rfl rfl (Zd2 (by omega)) ?_
 refine Zp rfl rfl (.bool true) rfl ?_
 refine Z7 (p := pt 2 0) (v := pt 2 0) rfl rfl rfl rfl ?_
 refine Zj (p := pt 2 0) (v := .bool true) (b := 2) (blk := bxB 1 ([.bool true])) (H' := [rfB (slv 1 (nxP L p) (Z3 L (nxP L p)) (Z3 L (nxP L p))), Za8 ls, bxB 1 ([.bool true]), dgB dz, dgB (cpD (ls.getD p ⟨#[]⟩))]) rfl rfl rfl (by kernel_rfl) (by kernel_rfl) ?_
 refine Za (Zb (Ze (Zf ?_)))
 refine Zg (p := pt 4 0) (v := dgV (cpD (ls.getD p ⟨#[]⟩))) rfl rfl rfl (by kernel_rfl) ?_
 refine Zj (p := pt 3 0) (v := dgV (cpD (ls.getD p ⟨#[]⟩))) (b := 3) (blk := dgB (cpD (ls.getD p ⟨#[]⟩))) (H' := [rfB (slv 1 (nxP L p) (Z3 L (nxP L p)) (Z3 L (nxP L p))), Za8 ls, bxB 1 ([.bool true]), dgB (cpD (ls.getD p ⟨#[]⟩)), dgB (cpD (ls.getD p ⟨#[]⟩))]) rfl rfl rfl (by kernel_rfl) (by kernel_rfl) ?_
 refine Za (Zb (Zw (Zy ?_)))
 rw [show ((ok && decide (p < L)) && decide ((ls.getD p ⟨#[]⟩).size = 32)) = true from by simp only [*, Bool.true_and]; exact decide_eq_true (by omega)]
 rw [show Zc5 (ok && decide (p < L)) (ls.getD p ⟨#[]⟩) = (cpD (ls.getD p ⟨#[]⟩)) from by simp only [*]; rfl]
 exact Zo (v := dgV (cpD (ls.getD p ⟨#[]⟩))) (by kernel_rfl) rfl rfl (by simp [Za1, Za8, bxB, rfB, Zhk, Zdz]) (Za7 (Zaz fun _ => rfl) rfl)
 refine Zi (vx := Iv ((((ls.getD p ⟨#[]⟩).size) : Nat) : Int)) (vy := Iv 32) rfl rfl (.bool false) rfl rfl (Zfc (by omega)) ?_
 refine Zp rfl rfl (.bool false) rfl ?_
 refine Z7 (p := pt 2 0) (v := pt 2 0) rfl rfl rfl rfl ?_
 refine Zj (p := pt 2 0) (v := .bool false) (b := 2) (blk := bxB 1 ([.bool false])) (H' := [rfB (slv 1 (nxP L p) (Z3 L (nxP L p)) (Z3 L (nxP L p))), Za8 ls, bxB 1 ([.bool false]), dgB dz, dgB (cpD (ls.getD p ⟨#[]⟩))]) rfl rfl rfl (by kernel_rfl) (by kernel_rfl) ?_
 refine Za (Zb (Ze (Zf ?_)))
 refine Zg (p := pt 4 0) (v := dgV (cpD (ls.getD p ⟨#[]⟩))) rfl rfl rfl (by kernel_rfl) ?_
 refine Zj (p := pt 3 0) (v := dgV (cpD (ls.getD p ⟨#[]⟩))) (b := 3) (blk := dgB (cpD (ls.getD p ⟨#[]⟩))) (H' := [rfB (slv 1 (nxP L p) (Z3 L (nxP L p)) (Z3 L (nxP L p))), Za8 ls, bxB 1 ([.bool false]), dgB (cpD (ls.getD p ⟨#[]⟩)), dgB (cpD (ls.getD p ⟨#[]⟩))]) rfl rfl rfl (by kernel_rfl) (by kernel_rfl) ?_
 refine Za (Zb (Zw (Zy ?_)))
 rw [show ((ok && decide (p < L)) && decide ((ls.getD p ⟨#[]⟩).size = 32)) = false from by simp only [*, Bool.true_and, Bool.false_and]; try exact decide_eq_false (by omega)]
 rw [show Zc5 (ok && decide (p < L)) (ls.getD p ⟨#[]⟩) = (cpD (ls.getD p ⟨#[]⟩)) from by simp only [*]; rfl]
 exact Zo (v := dgV (cpD (ls.getD p ⟨#[]⟩))) (by kernel_rfl) rfl rfl (by simp [Za1, Za8, bxB, rfB, Zhk, Zdz]) (Za7 (Zaz fun _ => rfl) rfl)
 refine Zi (vx := Iv (((min (ls.getD p ⟨#[]⟩).size 32) : Nat) : Int)) (vy := Iv ((((ls.getD p ⟨#[]⟩).size) : Nat) : Int)) (by exact congrArg (fun b => some (b == true)) h1) rfl (.bool false) rfl rfl (Zfc (by omega)) ?_
 refine Zp rfl rfl (.bool false) (by show some (if _ then _ else _) = _; rw [h1] <;> rfl) ?_
 refine Zd rfl rfl (.bool false) rfl (Zn rfl rfl (Zn rfl rfl (Zn rfl rfl (Zp rfl rfl (.bool false) rfl ?_))))
 refine Z7 (p := pt 2 0) (v := pt 2 0) rfl rfl rfl rfl ?_
 refine Zj (p := pt 2 0) (v := .bool false) (b := 2) (blk := bxB 1 ([.bool false])) (H' := [rfB (slv 1 (nxP L p) (Z3 L (nxP L p)) (Z3 L (nxP L p))), Za8 ls, bxB 1 ([.bool false]), dgB dz, dgB (cpD (ls.getD p ⟨#[]⟩))]) rfl rfl rfl (by kernel_rfl) (by kernel_rfl) ?_
 refine Za (Zb (Ze (Zf ?_)))
 refine Zg (p := pt 4 0) (v := dgV (cpD (ls.getD p ⟨#[]⟩))) rfl rfl rfl (by kernel_rfl) ?_
 refine Zj (p := pt 3 0) (v := dgV (cpD (ls.getD p ⟨#[]⟩))) (b := 3) (blk := dgB (cpD (ls.getD p ⟨#[]⟩))) (H' := [rfB (slv 1 (nxP L p) (Z3 L (nxP L p)) (Z3 L (nxP L p))), Za8 ls, bxB 1 ([.bool false]), dgB (cpD (ls.getD p ⟨#[]⟩)), dgB (cpD (ls.getD p ⟨#[]⟩))]) rfl rfl rfl (by kernel_rfl) (by kernel_rfl) ?_
 refine Za (Zb (Zw (Zy ?_)))
 rw [show ((ok && decide (p < L)) && decide ((ls.getD p ⟨#[]⟩).size = 32)) = false from by simp only [*, Bool.true_and, Bool.false_and]; try exact decide_eq_false (by omega)]
 rw [show Zc5 (ok && decide (p < L)) (ls.getD p ⟨#[]⟩) = (cpD (ls.getD p ⟨#[]⟩)) from by simp only [*]; rfl]
 exact Zo (v := dgV (cpD (ls.getD p ⟨#[]⟩))) (by kernel_rfl) rfl rfl (by simp [Za1, Za8, bxB, rfB, Zhk, Zdz]) (Za7 (Zaz fun _ => rfl) rfl)
 refine Zn (by exact congrArg (fun b => some (b == true)) h1) rfl ?_
 refine Zn (by exact congrArg (fun b => some (b == true)) h1) rfl ?_
 refine Zn (by exact congrArg (fun b => some (b == true)) h1) rfl ?_
 refine Zn (by exact congrArg (fun b => some (b == true)) h1) rfl ?_
 refine Zn (by exact congrArg (fun b => some (b == true)) h1) rfl ?_
 refine Zn (by exact congrArg (fun b => some (b == true)) h1) rfl ?_
 refine Zp rfl rfl (.bool false) (by show some (if _ then _ else _) = _; rw [h1] <;> rfl) ?_
 refine Zd rfl rfl (.bool false) rfl (Zn rfl rfl (Zn rfl rfl (Zn rfl rfl (Zp rfl rfl (.bool false) rfl ?_))))
 refine Z7 (p := pt 2 0) (v := pt 2 0) rfl rfl rfl rfl ?_
 refine Zj (p := pt 2 0) (v := .bool false) (b := 2) (blk := bxB 1 ([.bool false])) (H' := [rfB (slv 1 (nxP L p) (Z3 L (nxP L p)) (Z3 L (nxP L p))), Za8 ls, bxB 1 ([.bool false]), dgB dz, dgB dz]) rfl rfl rfl (by kernel_rfl) (by kernel_rfl) ?_
 refine Za (Zb (Ze (Zf ?_)))
 refine Zg (p := pt 4 0) (v := dgV dz) rfl rfl rfl (by kernel_rfl) ?_
 refine Zj (p := pt 3 0) (v := dgV dz) (b := 3) (blk := dgB dz) (H' := [rfB (slv 1 (nxP L p) (Z3 L (nxP L p)) (Z3 L (nxP L p))), Za8 ls, bxB 1 ([.bool false]), dgB dz, dgB dz]) rfl rfl rfl (by kernel_rfl) (by kernel_rfl) ?_
 refine Za (Zb (Zw (Zy ?_)))
 rw [show ((ok && decide (p < L)) && decide ((ls.getD p ⟨#[]⟩).size = 32)) = false from by simp only [*, Bool.true_and, Bool.false_and]; try exact decide_eq_false (by omega)]
 rw [show Zc5 (ok && decide (p < L)) (ls.getD p ⟨#[]⟩) = dz from by simp only [*]; rfl]
 exact Zo (v := dgV dz) (by kernel_rfl) rfl rfl (by simp [Za1, Za8, bxB, rfB, Zhk, Zdz]) (Za7 (Zaz fun _ => rfl) rfl)
end Go.Flat
namespace Go.Flat
open Go.Proofs
variable {G : Glob}
abbrev oN (l : Bs) : Nat := (ofF l).2.length
theorem Z1w (l : Bs) (n c : Nat) (ok0 : Bool) (hn : l.length = n) (hc : n ≤ c) (hb : n ≤ 1099511627776) : Zac Tryd.prog G 31 [slv 0 0 n c, pt 1 0] [rdB l, bxB 1 [.bool ok0]] (pt 2 0) [rdB l, bxB 1 [.bool (ofF l).1], rfB (slv 3 0 (oN l) (oN l)), txB (ofF l).2] := by
 subst hn; exact Z7w (G := G) l c ok0 hc hb
def pK (L : Nat) : Nat → Nat
  | 0 => 0
  | k + 1 => nxP L (pK L k)
abbrev oG (l : Bs) (k : Nat) : ByteArray := ((ofF l).2).getD (pK ((ofF l).2.length) k) ⟨#[]⟩
abbrev oP (l : Bs) (k : Nat) : Bool := decide ((pK ((ofF l).2.length) k) < ((ofF l).2.length))
theorem Zgq (L : Nat) : ∀ k, pK L k ≤ L
 | 0 => Nat.zero_le _
 | k + 1 => Zv7 (Zgq L k)
def Zbo (l : Bs) : Head × Int :=
  if ((((((((((((ofF l).1) && decide ((pK ((ofF l).2.length) 0) < ((ofF l).2.length))) && decide ((Zk (((ofF l).2).getD (pK ((ofF l).2.length) 0) ⟨#[]⟩)).2 = 0)) && decide ((pK ((ofF l).2.length) 1) < ((ofF l).2.length))) && decide ((Zk (((ofF l).2).getD (pK ((ofF l).2.length) 1) ⟨#[]⟩)).2 = 0)) && decide ((pK ((ofF l).2.length) 2) < ((ofF l).2.length))) && decide ((Zk (((ofF l).2).getD (pK ((ofF l).2.length) 2) ⟨#[]⟩)).2 = 0)) && decide ((pK ((ofF l).2.length) 3) < ((ofF l).2.length))) && decide ((((ofF l).2).getD (pK ((ofF l).2.length) 3) ⟨#[]⟩).size = 32)) && decide ((pK ((ofF l).2.length) 4) < ((ofF l).2.length))) && decide ((Zk (((ofF l).2).getD (pK ((ofF l).2.length) 4) ⟨#[]⟩)).2 = 0)) = true then (if 0 < (((Z3 ((ofF l).2.length) (pK ((ofF l).2.length) 5)) : Nat) : Int) then ((⟨0, 0, 0, dz, 0⟩ : Head), 70) else
  if (Zbd (⟨((Zk (((ofF l).2).getD (pK ((ofF l).2.length) 0) ⟨#[]⟩)).1), ((Zk (((ofF l).2).getD (pK ((ofF l).2.length) 1) ⟨#[]⟩)).1), ((Zk (((ofF l).2).getD (pK ((ofF l).2.length) 2) ⟨#[]⟩)).1), (Zc5 (((((((((ofF l).1) && decide ((pK ((ofF l).2.length) 0) < ((ofF l).2.length))) && decide ((Zk (((ofF l).2).getD (pK ((ofF l).2.length) 0) ⟨#[]⟩)).2 = 0)) && decide ((pK ((ofF l).2.length) 1) < ((ofF l).2.length))) && decide ((Zk (((ofF l).2).getD (pK ((ofF l).2.length) 1) ⟨#[]⟩)).2 = 0)) && decide ((pK ((ofF l).2.length) 2) < ((ofF l).2.length))) && decide ((Zk (((ofF l).2).getD (pK ((ofF l).2.length) 2) ⟨#[]⟩)).2 = 0)) && decide ((pK ((ofF l).2.length) 3) < ((ofF l).2.length))) (((ofF l).2).getD (pK ((ofF l).2.length) 3) ⟨#[]⟩)), ((Zk (((ofF l).2).getD (pK ((ofF l).2.length) 4) ⟨#[]⟩)).1)⟩ : Head)) ≠ 0 then ((⟨0, 0, 0, dz, 0⟩ : Head), 70) else
  ((⟨((Zk (((ofF l).2).getD (pK ((ofF l).2.length) 0) ⟨#[]⟩)).1), ((Zk (((ofF l).2).getD (pK ((ofF l).2.length) 1) ⟨#[]⟩)).1), ((Zk (((ofF l).2).getD (pK ((ofF l).2.length) 2) ⟨#[]⟩)).1), (Zc5 (((((((((ofF l).1) && decide ((pK ((ofF l).2.length) 0) < ((ofF l).2.length))) && decide ((Zk (((ofF l).2).getD (pK ((ofF l).2.length) 0) ⟨#[]⟩)).2 = 0)) && decide ((pK ((ofF l).2.length) 1) < ((ofF l).2.length))) && decide ((Zk (((ofF l).2).getD (pK ((ofF l).2.length) 1) ⟨#[]⟩)).2 = 0)) && decide ((pK ((ofF l).2.length) 2) < ((ofF l).2.length))) && decide ((Zk (((ofF l).2).getD (pK ((ofF l).2.length) 2) ⟨#[]⟩)).2 = 0)) && decide ((pK ((ofF l).2.length) 3) < ((ofF l).2.length))) (((ofF l).2).getD (pK ((ofF l).2.length) 3) ⟨#[]⟩)), ((Zk (((ofF l).2).getD (pK ((ofF l).2.length) 4) ⟨#[]⟩)).1)⟩ : Head), 0)) else
  ((⟨0, 0, 0, dz, 0⟩ : Head), 70)
theorem Z2x (l : Bs) (n c : Nat) (hn : l.length = n) (hc : n ≤ c) (hb : n ≤ 1099511627776) : Zac Tryd.prog G 32 [slv 0 0 n c] [rdB l] (.tuple #[Zbp (Zbo l).1, Iv (Zbo l).2]) [rdB l] := by
  refine Zb8 (fn := Tryd.f32) (nt := 40) rfl rfl rfl rfl ?_
  refine Zah 5 (H' := [rdB l, hole, hole, hole, hole, hole]) rfl ?_
  refine Ze (Zf ?_)
  refine Zq (b := bxB 36 (Zae (⟨0, 0, 0, dz, 0⟩ : Head))) (nid := 1) (H' := [rdB l, bxB 36 (Zae (⟨0, 0, 0, dz, 0⟩ : Head)), hole, hole, hole, hole]) rfl rfl (by kernel_rfl) (by kernel_rfl) ?_
  refine Zc rfl rfl (Iv 0) rfl (Za (Zb (Ze (Zf ?_))))
  refine Zq (b := bxB 1 ([.bool false])) (nid := 2) (H' := [rdB l, bxB 36 (Zae (⟨0, 0, 0, dz, 0⟩ : Head)), bxB 1 ([.bool false]), hole, hole, hole]) rfl rfl (by kernel_rfl) (by kernel_rfl) ?_
  refine Za (Zb (Ze (Zf ?_)))
  refine Zq (b := bxB 36 (Zae (⟨0, 0, 0, dz, 0⟩ : Head))) (nid := 3) (H' := [rdB l, bxB 36 (Zae (⟨0, 0, 0, dz, 0⟩ : Head)), bxB 1 ([.bool false]), bxB 36 (Zae (⟨0, 0, 0, dz, 0⟩ : Head)), hole, hole]) rfl rfl (by kernel_rfl) (by kernel_rfl) ?_
  refine Za (Zb (Ze (Zf (Zd rfl rfl (slv 0 0 n c) rfl ?_))))
  have hrm7 : Z3 (oN l) (pK (oN l) 0) + pK (oN l) 0 = (oN l) := Zew (Nat.zero_le _)
  refine Zab (e := [some (0, 0), some (2, 0)]) (nid := 4) (Z1w (G := G) l n c false hn (by omega) (by omega)) (vals := [slv 0 0 n c, pt 2 0]) (v := pt 4 0) (H' := [rdB l, bxB 36 (Zae (⟨0, 0, 0, dz, 0⟩ : Head)), bxB 1 ([.bool ((ofF l).1)]), bxB 36 (Zae (⟨0, 0, 0, dz, 0⟩ : Head)), rfB (slv 5 (pK (oN l) 0) (Z3 (oN l) (pK (oN l) 0)) (Z3 (oN l) (pK (oN l) 0))), txB ((ofF l).2)]) rfl rfl rfl rfl rfl rfl rfl ⟨⟨⟨rfl, rfl, rfl, by first | omega | exact Nat.le_refl _, by first | omega | exact Nat.le_refl _⟩, ⟨rfl, rfl⟩, trivial⟩, ⟨(Zsi rfl), (Zal rfl rfl rfl rfl), trivial⟩, rfl, rfl, rfl⟩ (by kernel_rfl) (by kernel_rfl) ?_
  refine Zc rfl rfl (pt 4 0) rfl (Za (Zb (Ze (Zf (Zd rfl rfl (pt 4 0) rfl ?_)))))
  have hpk8 := Zgq (oN l) 1
  have hrm8 : Z3 (oN l) (pK (oN l) 1) + (pK (oN l) 1) = (oN l) := Zew hpk8
  refine Zab (e := [some (4, 0), some (5, 0), some (2, 0)]) (nid := 0) (Ziz (G := G) ((ofF l).2) (oN l) (pK (oN l) 0) ((ofF l).1) rfl (Zgq (oN l) 0)) (vals := [pt 4 0, pt 2 0]) (v := Iv ((Zk (oG l 0)).1)) (H' := [rdB l, bxB 36 (Zae (⟨0, 0, 0, dz, 0⟩ : Head)), bxB 1 ([.bool ((((ofF l).1) && oP l 0) && decide ((Zk (oG l 0)).2 = 0))]), bxB 36 (Zae (⟨0, 0, 0, dz, 0⟩ : Head)), rfB (slv 5 (pK (oN l) 1) (Z3 (oN l) (pK (oN l) 1)) (Z3 (oN l) (pK (oN l) 1))), txB ((ofF l).2)]) rfl rfl rfl rfl rfl rfl rfl ⟨⟨⟨rfl, rfl⟩, ⟨rfl, rfl⟩, trivial⟩, ⟨(Zal rfl rfl rfl (by show [_] = [Zdr _ _]; simp [Zdr, Zck])), (Zhg rfl), (Zal rfl rfl rfl rfl), trivial⟩, rfl, rfl, rfl⟩ (by kernel_rfl) (Eq.trans (b := [rdB l, bxB 36 (Zae (⟨0, 0, 0, dz, 0⟩ : Head)), bxB 1 ([.bool ((((ofF l).1) && oP l 0) && decide ((Zk (oG l 0)).2 = 0))]), bxB 36 (Zae (⟨0, 0, 0, dz, 0⟩ : Head)), rfB (slv 5 (0 + (pK (oN l) 1)) (Z3 (oN l) (pK (oN l) 1)) (Z3 (oN l) (pK (oN l) 1))), txB ((ofF l).2)]) (by kernel_rfl) (by rw [Nat.zero_add])) ?_
  refine Zh (b := 3) (o := 0) (n := 0) (o' := 0) rfl rfl rfl rfl rfl ?_
  refine Zj (p := pt 3 0) (v := Iv ((Zk (oG l 0)).1)) (b := 3) (blk := bxB 36 (Zae (⟨((Zk (oG l 0)).1), 0, 0, dz, 0⟩ : Head))) (H' := [rdB l, bxB 36 (Zae (⟨0, 0, 0, dz, 0⟩ : Head)), bxB 1 ([.bool ((((ofF l).1) && oP l 0) && decide ((Zk (oG l 0)).2 = 0))]), bxB 36 (Zae (⟨((Zk (oG l 0)).1), 0, 0, dz, 0⟩ : Head)), rfB (slv 5 (pK (oN l) 1) (Z3 (oN l) (pK (oN l) 1)) (Z3 (oN l) (pK (oN l) 1))), txB ((ofF l).2)]) rfl rfl rfl (by kernel_rfl) (by kernel_rfl) ?_
  refine Za (Zb (Ze (Zf (Zd rfl rfl (pt 4 0) rfl ?_))))
  have hpk9 := Zgq (oN l) 2
  have hrm9 : Z3 (oN l) (pK (oN l) 2) + (pK (oN l) 2) = (oN l) := Zew hpk9
  refine Zab (e := [some (4, 0), some (5, 0), some (2, 0)]) (nid := 0) (Ziz (G := G) ((ofF l).2) (oN l) (pK (oN l) 1) ((((ofF l).1) && oP l 0) && decide ((Zk (oG l 0)).2 = 0)) rfl (Zgq (oN l) 1)) (vals := [pt 4 0, pt 2 0]) (v := Iv ((Zk (oG l 1)).1)) (H' := [rdB l, bxB 36 (Zae (⟨0, 0, 0, dz, 0⟩ : Head)), bxB 1 ([.bool ((((((ofF l).1) && oP l 0) && decide ((Zk (oG l 0)).2 = 0)) && oP l 1) && decide ((Zk (oG l 1)).2 = 0))]), bxB 36 (Zae (⟨((Zk (oG l 0)).1), 0, 0, dz, 0⟩ : Head)), rfB (slv 5 (pK (oN l) 2) (Z3 (oN l) (pK (oN l) 2)) (Z3 (oN l) (pK (oN l) 2))), txB ((ofF l).2)]) rfl rfl rfl rfl rfl rfl rfl ⟨⟨⟨rfl, rfl⟩, ⟨rfl, rfl⟩, trivial⟩, ⟨(Zal rfl rfl rfl (by show [_] = [Zdr _ _]; simp [Zdr, Zck])), (Zhg rfl), (Zal rfl rfl rfl rfl), trivial⟩, rfl, rfl, rfl⟩ (by kernel_rfl) (Eq.trans (b := [rdB l, bxB 36 (Zae (⟨0, 0, 0, dz, 0⟩ : Head)), bxB 1 ([.bool ((((((ofF l).1) && oP l 0) && decide ((Zk (oG l 0)).2 = 0)) && oP l 1) && decide ((Zk (oG l 1)).2 = 0))]), bxB 36 (Zae (⟨((Zk (oG l 0)).1), 0, 0, dz, 0⟩ : Head)), rfB (slv 5 (0 + (pK (oN l) 2)) (Z3 (oN l) (pK (oN l) 2)) (Z3 (oN l) (pK (oN l) 2))), txB ((ofF l).2)]) (by kernel_rfl) (by rw [Nat.zero_add])) ?_
  refine Zh (b := 3) (o := 0) (n := 1) (o' := 1) rfl rfl rfl rfl rfl ?_
  refine Zj (p := pt 3 1) (v := Iv ((Zk (oG l 1)).1)) (b := 3) (blk := bxB 36 (Zae (⟨((Zk (oG l 0)).1), ((Zk (oG l 1)).1), 0, dz, 0⟩ : Head))) (H' := [rdB l, bxB 36 (Zae (⟨0, 0, 0, dz, 0⟩ : Head)), bxB 1 ([.bool ((((((ofF l).1) && oP l 0) && decide ((Zk (oG l 0)).2 = 0)) && oP l 1) && decide ((Zk (oG l 1)).2 = 0))]), bxB 36 (Zae (⟨((Zk (oG l 0)).1), ((Zk (oG l 1)).1), 0, dz, 0⟩ : Head)), rfB (slv 5 (pK (oN l) 2) (Z3 (oN l) (pK (oN l) 2)) (Z3 (oN l) (pK (oN l) 2))), txB ((ofF l).2)]) rfl rfl rfl (by kernel_rfl) (by kernel_rfl) ?_
  refine Za (Zb (Ze (Zf (Zd rfl rfl (pt 4 0) rfl ?_))))
  have hpk10 := Zgq (oN l) 3
  have hrm10 : Z3 (oN l) (pK (oN l) 3) + (pK (oN l) 3) = (oN l) := Zew hpk10
  refine Zab (e := [some (4, 0), some (5, 0), some (2, 0)]) (nid := 0) (Ziz (G := G) ((ofF l).2) (oN l) (pK (oN l) 2) ((((((ofF l).1) && oP l 0) && decide ((Zk (oG l 0)).2 = 0)) && oP l 1) && decide ((Zk (oG l 1)).2 = 0)) rfl (Zgq (oN l) 2)) (vals := [pt 4 0, pt 2 0]) (v := Iv ((Zk (oG l 2)).1)) (H' := [rdB l, bxB 36 (Zae (⟨0, 0, 0, dz, 0⟩ : Head)), bxB 1 ([.bool ((((((((ofF l).1) && oP l 0) && decide ((Zk (oG l 0)).2 = 0)) && oP l 1) && decide ((Zk (oG l 1)).2 = 0)) && oP l 2) && decide ((Zk (oG l 2)).2 = 0))]), bxB 36 (Zae (⟨((Zk (oG l 0)).1), ((Zk (oG l 1)).1), 0, dz, 0⟩ : Head)), rfB (slv 5 (pK (oN l) 3) (Z3 (oN l) (pK (oN l) 3)) (Z3 (oN l) (pK (oN l) 3))), txB ((ofF l).2)]) rfl rfl rfl rfl rfl rfl rfl ⟨⟨⟨rfl, rfl⟩, ⟨rfl, rfl⟩, trivial⟩, ⟨(Zal rfl rfl rfl (by show [_] = [Zdr _ _]; simp [Zdr, Zck])), (Zhg rfl), (Zal rfl rfl rfl rfl), trivial⟩, rfl, rfl, rfl⟩ (by kernel_rfl) (Eq.trans (b := [rdB l, bxB 36 (Zae (⟨0, 0, 0, dz, 0⟩ : Head)), bxB 1 ([.bool ((((((((ofF l).1) && oP l 0) && decide ((Zk (oG l 0)).2 = 0)) && oP l 1) && decide ((Zk (oG l 1)).2 = 0)) && oP l 2) && decide ((Zk (oG l 2)).2 = 0))]), bxB 36 (Zae (⟨((Zk (oG l 0)).1), ((Zk (oG l 1)).1), 0, dz, 0⟩ : Head)), rfB (slv 5 (0 + (pK (oN l) 3)) (Z3 (oN l) (pK (oN l) 3)) (Z3 (oN l) (pK (oN l) 3))), txB ((ofF l).2)]) (by kernel_rfl) (by rw [Nat.zero_add])) ?_
  refine Zh (b := 3) (o := 0) (n := 2) (o' := 2) rfl rfl rfl rfl rfl ?_
  refine Zj (p := pt 3 2) (v := Iv ((Zk (oG l 2)).1)) (b := 3) (blk := bxB 36 (Zae (⟨((Zk (oG l 0)).1), ((Zk (oG l 1)).1), ((Zk (oG l 2)).1), dz, 0⟩ : Head))) (H' := [rdB l, bxB 36 (Zae (⟨0, 0, 0, dz, 0⟩ : Head)), bxB 1 ([.bool ((((((((ofF l).1) && oP l 0) && decide ((Zk (oG l 0)).2 = 0)) && oP l 1) && decide ((Zk (oG l 1)).2 = 0)) && oP l 2) && decide ((Zk (oG l 2)).2 = 0))]), bxB 36 (Zae (⟨((Zk (oG l 0)).1), ((Zk (oG l 1)).1), ((Zk (oG l 2)).1), dz, 0⟩ : Head)), rfB (slv 5 (pK (oN l) 3) (Z3 (oN l) (pK (oN l) 3)) (Z3 (oN l) (pK (oN l) 3))), txB ((ofF l).2)]) rfl rfl rfl (by kernel_rfl) (by kernel_rfl) ?_
  refine Za (Zb (Ze (Zf (Zd rfl rfl (pt 4 0) rfl ?_))))
  have hpk11 := Zgq (oN l) 4
  have hrm11 : Z3 (oN l) (pK (oN l) 4) + (pK (oN l) 4) = (oN l) := Zew hpk11
  refine Zab (e := [some (4, 0), some (5, 0), some (2, 0)]) (nid := 0) (Zq2 (G := G) ((ofF l).2) (oN l) (pK (oN l) 3) ((((((((ofF l).1) && oP l 0) && decide ((Zk (oG l 0)).2 = 0)) && oP l 1) && decide ((Zk (oG l 1)).2 = 0)) && oP l 2) && decide ((Zk (oG l 2)).2 = 0)) rfl (Zgq (oN l) 3)) (vals := [pt 4 0, pt 2 0]) (v := dgV (Zc5 (((((((((ofF l).1) && oP l 0) && decide ((Zk (oG l 0)).2 = 0)) && oP l 1) && decide ((Zk (oG l 1)).2 = 0)) && oP l 2) && decide ((Zk (oG l 2)).2 = 0)) && oP l 3) (oG l 3))) (H' := [rdB l, bxB 36 (Zae (⟨0, 0, 0, dz, 0⟩ : Head)), bxB 1 ([.bool ((((((((((ofF l).1) && oP l 0) && decide ((Zk (oG l 0)).2 = 0)) && oP l 1) && decide ((Zk (oG l 1)).2 = 0)) && oP l 2) && decide ((Zk (oG l 2)).2 = 0)) && oP l 3) && decide ((oG l 3).size = 32))]), bxB 36 (Zae (⟨((Zk (oG l 0)).1), ((Zk (oG l 1)).1), ((Zk (oG l 2)).1), dz, 0⟩ : Head)), rfB (slv 5 (pK (oN l) 4) (Z3 (oN l) (pK (oN l) 4)) (Z3 (oN l) (pK (oN l) 4))), txB ((ofF l).2)]) rfl rfl rfl rfl rfl rfl rfl ⟨⟨⟨rfl, rfl⟩, ⟨rfl, rfl⟩, trivial⟩, ⟨(Zal rfl rfl rfl (by show [_] = [Zdr _ _]; simp [Zdr, Zck])), (Zhg rfl), (Zal rfl rfl rfl rfl), trivial⟩, rfl, rfl, rfl⟩ (by kernel_rfl) (Eq.trans (b := [rdB l, bxB 36 (Zae (⟨0, 0, 0, dz, 0⟩ : Head)), bxB 1 ([.bool ((((((((((ofF l).1) && oP l 0) && decide ((Zk (oG l 0)).2 = 0)) && oP l 1) && decide ((Zk (oG l 1)).2 = 0)) && oP l 2) && decide ((Zk (oG l 2)).2 = 0)) && oP l 3) && decide ((oG l 3).size = 32))]), bxB 36 (Zae (⟨((Zk (oG l 0)).1), ((Zk (oG l 1)).1), ((Zk (oG l 2)).1), dz, 0⟩ : Head)), rfB (slv 5 (0 + (pK (oN l) 4)) (Z3 (oN l) (pK (oN l) 4)) (Z3 (oN l) (pK (oN l) 4))), txB ((ofF l).2)]) (by kernel_rfl) (by rw [Nat.zero_add])) ?_
  refine Zh (b := 3) (o := 0) (n := 3) (o' := 3) rfl rfl rfl rfl rfl ?_
  refine Zj (p := pt 3 3) (v := dgV (Zc5 (((((((((ofF l).1) && oP l 0) && decide ((Zk (oG l 0)).2 = 0)) && oP l 1) && decide ((Zk (oG l 1)).2 = 0)) && oP l 2) && decide ((Zk (oG l 2)).2 = 0)) && oP l 3) (oG l 3))) (b := 3) (blk := bxB 36 (Zae (⟨((Zk (oG l 0)).1), ((Zk (oG l 1)).1), ((Zk (oG l 2)).1), (Zc5 (((((((((ofF l).1) && oP l 0) && decide ((Zk (oG l 0)).2 = 0)) && oP l 1) && decide ((Zk (oG l 1)).2 = 0)) && oP l 2) && decide ((Zk (oG l 2)).2 = 0)) && oP l 3) (oG l 3)), 0⟩ : Head))) (H' := [rdB l, bxB 36 (Zae (⟨0, 0, 0, dz, 0⟩ : Head)), bxB 1 ([.bool ((((((((((ofF l).1) && oP l 0) && decide ((Zk (oG l 0)).2 = 0)) && oP l 1) && decide ((Zk (oG l 1)).2 = 0)) && oP l 2) && decide ((Zk (oG l 2)).2 = 0)) && oP l 3) && decide ((oG l 3).size = 32))]), bxB 36 (Zae (⟨((Zk (oG l 0)).1), ((Zk (oG l 1)).1), ((Zk (oG l 2)).1), (Zc5 (((((((((ofF l).1) && oP l 0) && decide ((Zk (oG l 0)).2 = 0)) && oP l 1) && decide ((Zk (oG l 1)).2 = 0)) && oP l 2) && decide ((Zk (oG l 2)).2 = 0)) && oP l 3) (oG l 3)), 0⟩ : Head)), rfB (slv 5 (pK (oN l) 4) (Z3 (oN l) (pK (oN l) 4)) (Z3 (oN l) (pK (oN l) 4))), txB ((ofF l).2)]) rfl rfl rfl (by kernel_rfl) (by kernel_rfl) ?_
  refine Za (Zb (Ze (Zf (Zd rfl rfl (pt 4 0) rfl ?_))))
  have hpk12 := Zgq (oN l) 5
  have hrm12 : Z3 (oN l) (pK (oN l) 5) + (pK (oN l) 5) = (oN l) := Zew hpk12
  refine Zab (e := [some (4, 0), some (5, 0), some (2, 0)]) (nid := 0) (Ziz (G := G) ((ofF l).2) (oN l) (pK (oN l) 4) ((((((((((ofF l).1) && oP l 0) && decide ((Zk (oG l 0)).2 = 0)) && oP l 1) && decide ((Zk (oG l 1)).2 = 0)) && oP l 2) && decide ((Zk (oG l 2)).2 = 0)) && oP l 3) && decide ((oG l 3).size = 32)) rfl (Zgq (oN l) 4)) (vals := [pt 4 0, pt 2 0]) (v := Iv ((Zk (oG l 4)).1)) (H' := [rdB l, bxB 36 (Zae (⟨0, 0, 0, dz, 0⟩ : Head)), bxB 1 ([.bool ((((((((((((ofF l).1) && oP l 0) && decide ((Zk (oG l 0)).2 = 0)) && oP l 1) && decide ((Zk (oG l 1)).2 = 0)) && oP l 2) && decide ((Zk (oG l 2)).2 = 0)) && oP l 3) && decide ((oG l 3).size = 32)) && oP l 4) && decide ((Zk (oG l 4)).2 = 0))]), bxB 36 (Zae (⟨((Zk (oG l 0)).1), ((Zk (oG l 1)).1), ((Zk (oG l 2)).1), (Zc5 (((((((((ofF l).1) && oP l 0) && decide ((Zk (oG l 0)).2 = 0)) && oP l 1) && decide ((Zk (oG l 1)).2 = 0)) && oP l 2) && decide ((Zk (oG l 2)).2 = 0)) && oP l 3) (oG l 3)), 0⟩ : Head)), rfB (slv 5 (pK (oN l) 5) (Z3 (oN l) (pK (oN l) 5)) (Z3 (oN l) (pK (oN l) 5))), txB ((ofF l).2)]) rfl rfl rfl rfl rfl rfl rfl ⟨⟨⟨rfl, rfl⟩, ⟨rfl, rfl⟩, trivial⟩, ⟨(Zal rfl rfl rfl (by show [_] = [Zdr _ _]; simp [Zdr, Zck])), (Zhg rfl), (Zal rfl rfl rfl rfl), trivial⟩, rfl, rfl, rfl⟩ (by kernel_rfl) (Eq.trans (b := [rdB l, bxB 36 (Zae (⟨0, 0, 0, dz, 0⟩ : Head)), bxB 1 ([.bool ((((((((((((ofF l).1) && oP l 0) && decide ((Zk (oG l 0)).2 = 0)) && oP l 1) && decide ((Zk (oG l 1)).2 = 0)) && oP l 2) && decide ((Zk (oG l 2)).2 = 0)) && oP l 3) && decide ((oG l 3).size = 32)) && oP l 4) && decide ((Zk (oG l 4)).2 = 0))]), bxB 36 (Zae (⟨((Zk (oG l 0)).1), ((Zk (oG l 1)).1), ((Zk (oG l 2)).1), (Zc5 (((((((((ofF l).1) && oP l 0) && decide ((Zk (oG l 0)).2 = 0)) && oP l 1) && decide ((Zk (oG l 1)).2 = 0)) && oP l 2) && decide ((Zk (oG l 2)).2 = 0)) && oP l 3) (oG l 3)), 0⟩ : Head)), rfB (slv 5 (0 + (pK (oN l) 5)) (Z3 (oN l) (pK (oN l) 5)) (Z3 (oN l) (pK (oN l) 5))), txB ((ofF l).2)]) (by kernel_rfl) (by rw [Nat.zero_add])) ?_
  refine Zh (b := 3) (o := 0) (n := 35) (o' := 35) rfl rfl rfl rfl rfl ?_
  refine Zj (p := pt 3 35) (v := Iv ((Zk (oG l 4)).1)) (b := 3) (blk := bxB 36 (Zae (⟨((Zk (oG l 0)).1), ((Zk (oG l 1)).1), ((Zk (oG l 2)).1), (Zc5 (((((((((ofF l).1) && oP l 0) && decide ((Zk (oG l 0)).2 = 0)) && oP l 1) && decide ((Zk (oG l 1)).2 = 0)) && oP l 2) && decide ((Zk (oG l 2)).2 = 0)) && oP l 3) (oG l 3)), ((Zk (oG l 4)).1)⟩ : Head))) (H' := [rdB l, bxB 36 (Zae (⟨0, 0, 0, dz, 0⟩ : Head)), bxB 1 ([.bool ((((((((((((ofF l).1) && oP l 0) && decide ((Zk (oG l 0)).2 = 0)) && oP l 1) && decide ((Zk (oG l 1)).2 = 0)) && oP l 2) && decide ((Zk (oG l 2)).2 = 0)) && oP l 3) && decide ((oG l 3).size = 32)) && oP l 4) && decide ((Zk (oG l 4)).2 = 0))]), bxB 36 (Zae (⟨((Zk (oG l 0)).1), ((Zk (oG l 1)).1), ((Zk (oG l 2)).1), (Zc5 (((((((((ofF l).1) && oP l 0) && decide ((Zk (oG l 0)).2 = 0)) && oP l 1) && decide ((Zk (oG l 1)).2 = 0)) && oP l 2) && decide ((Zk (oG l 2)).2 = 0)) && oP l 3) (oG l 3)), ((Zk (oG l 4)).1)⟩ : Head)), rfB (slv 5 (pK (oN l) 5) (Z3 (oN l) (pK (oN l) 5)) (Z3 (oN l) (pK (oN l) 5))), txB ((ofF l).2)]) rfl rfl rfl (by kernel_rfl) (by kernel_rfl) ?_
  refine Za (Zb (Ze (Ze (Zf ?_))))
  refine Zg (p := pt 2 0) (v := .bool ((((((((((((ofF l).1) && oP l 0) && decide ((Zk (oG l 0)).2 = 0)) && oP l 1) && decide ((Zk (oG l 1)).2 = 0)) && oP l 2) && decide ((Zk (oG l 2)).2 = 0)) && oP l 3) && decide ((oG l 3).size = 32)) && oP l 4) && decide ((Zk (oG l 4)).2 = 0))) rfl rfl rfl (by kernel_rfl) ?_
  rcases Bool.eq_false_or_eq_true ((((((((((((ofF l).1) && oP l 0) && decide ((Zk (oG l 0)).2 = 0)) && oP l 1) && decide ((Zk (oG l 1)).2 = 0)) && oP l 2) && decide ((Zk (oG l 2)).2 = 0)) && oP l 3) && decide ((oG l 3).size = 32)) && oP l 4) && decide ((Zk (oG l 4)).2 = 0)) with h1 | h1
  refine Zhl (vx := .bool ((((((((((((ofF l).1) && oP l 0) && decide ((Zk (oG l 0)).2 = 0)) && oP l 1) && decide ((Zk (oG l 1)).2 = 0)) && oP l 2) && decide ((Zk (oG l 2)).2 = 0)) && oP l 3) && decide ((oG l 3).size = 32)) && oP l 4) && decide ((Zk (oG l 4)).2 = 0))) rfl rfl (.bool false) rfl (Eq.trans Zdu (congrArg (fun b => some (Value.bool !b)) h1)) ?_
  refine Zd rfl rfl (.bool false) rfl (Zd rfl rfl (pt 4 0) rfl ?_)
  refine Z7 (p := pt 4 0) (v := pt 4 0) rfl rfl rfl rfl ?_
  refine Zg (p := pt 4 0) (v := slv 5 (pK (oN l) 5) (Z3 (oN l) (pK (oN l) 5)) (Z3 (oN l) (pK (oN l) 5))) rfl rfl rfl rfl ?_
  refine Za6 (p := slv 5 (pK (oN l) 5) (Z3 (oN l) (pK (oN l) 5)) (Z3 (oN l) (pK (oN l) 5))) (v := Iv (((Z3 (oN l) (pK (oN l) 5)) : Nat) : Int)) rfl rfl rfl rfl ?_
  by_cases h2 : 0 < (((Z3 (oN l) (pK (oN l) 5)) : Nat) : Int)
  refine Zi (vx := Iv (((Z3 (oN l) (pK (oN l) 5)) : Nat) : Int)) (vy := Iv 0) rfl rfl (.bool true) rfl rfl (Zde (by omega)) ?_
  refine Zp rfl rfl (.bool true) rfl (Zd rfl rfl (.bool true) rfl (Zn rfl rfl (Zn rfl rfl (Zn rfl rfl (Zp rfl rfl (.bool true) rfl (Za (Zb (Zu rfl (Ze (Zf ?_))))))))))
  refine Zbf (vs := []) (v := Zbp (⟨0, 0, 0, dz, 0⟩ : Head)) rfl rfl rfl (by kernel_rfl) ?_
  refine Zj (p := pt 1 0) (v := Zbp (⟨0, 0, 0, dz, 0⟩ : Head)) (b := 1) (blk := bxB 36 (Zae (⟨0, 0, 0, dz, 0⟩ : Head))) (H' := [rdB l, bxB 36 (Zae (⟨0, 0, 0, dz, 0⟩ : Head)), bxB 1 ([.bool ((((((((((((ofF l).1) && oP l 0) && decide ((Zk (oG l 0)).2 = 0)) && oP l 1) && decide ((Zk (oG l 1)).2 = 0)) && oP l 2) && decide ((Zk (oG l 2)).2 = 0)) && oP l 3) && decide ((oG l 3).size = 32)) && oP l 4) && decide ((Zk (oG l 4)).2 = 0))]), bxB 36 (Zae (⟨((Zk (oG l 0)).1), ((Zk (oG l 1)).1), ((Zk (oG l 2)).1), (Zc5 (((((((((ofF l).1) && oP l 0) && decide ((Zk (oG l 0)).2 = 0)) && oP l 1) && decide ((Zk (oG l 1)).2 = 0)) && oP l 2) && decide ((Zk (oG l 2)).2 = 0)) && oP l 3) (oG l 3)), ((Zk (oG l 4)).1)⟩ : Head)), rfB (slv 5 (pK (oN l) 5) (Z3 (oN l) (pK (oN l) 5)) (Z3 (oN l) (pK (oN l) 5))), txB ((ofF l).2)]) rfl rfl rfl (by kernel_rfl) (by kernel_rfl) ?_
  refine Zc rfl rfl (Iv 70) rfl (Za (Zb (Zw (Zaj (Zy ?_)))))
  rw [show Zbo l = ((⟨0, 0, 0, dz, 0⟩ : Head), 70) from by unfold Zbo; rw [if_pos h1, if_pos h2]]
  exact Zo (v := .tuple #[Zbp (⟨0, 0, 0, dz, 0⟩ : Head), Iv 70]) (by kernel_rfl) rfl rfl (by simp [Za1, rdB]) ⟨(Zeg (by kernel_rfl) rfl), rfl, trivial⟩
  refine Zi (vx := Iv (((Z3 (oN l) (pK (oN l) 5)) : Nat) : Int)) (vy := Iv 0) rfl rfl (.bool false) rfl rfl (Zcw (by omega)) ?_
  refine Zp rfl rfl (.bool false) rfl (Zd rfl rfl (.bool false) rfl ?_)
  refine Zg (p := pt 3 0) (v := Zbp (⟨((Zk (oG l 0)).1), ((Zk (oG l 1)).1), ((Zk (oG l 2)).1), (Zc5 (((((((((ofF l).1) && oP l 0) && decide ((Zk (oG l 0)).2 = 0)) && oP l 1) && decide ((Zk (oG l 1)).2 = 0)) && oP l 2) && decide ((Zk (oG l 2)).2 = 0)) && oP l 3) (oG l 3)), ((Zk (oG l 4)).1)⟩ : Head)) rfl rfl rfl (by kernel_rfl) ?_
  refine Zv (Zs7 (G := G) (⟨((Zk (oG l 0)).1), ((Zk (oG l 1)).1), ((Zk (oG l 2)).1), (Zc5 (((((((((ofF l).1) && oP l 0) && decide ((Zk (oG l 0)).2 = 0)) && oP l 1) && decide ((Zk (oG l 1)).2 = 0)) && oP l 2) && decide ((Zk (oG l 2)).2 = 0)) && oP l 3) (oG l 3)), ((Zk (oG l 4)).1)⟩ : Head)) (vals := [Zbp (⟨((Zk (oG l 0)).1), ((Zk (oG l 1)).1), ((Zk (oG l 2)).1), (Zc5 (((((((((ofF l).1) && oP l 0) && decide ((Zk (oG l 0)).2 = 0)) && oP l 1) && decide ((Zk (oG l 1)).2 = 0)) && oP l 2) && decide ((Zk (oG l 2)).2 = 0)) && oP l 3) (oG l 3)), ((Zk (oG l 4)).1)⟩ : Head)]) (res' := Iv (Zbd (⟨((Zk (oG l 0)).1), ((Zk (oG l 1)).1), ((Zk (oG l 2)).1), (Zc5 (((((((((ofF l).1) && oP l 0) && decide ((Zk (oG l 0)).2 = 0)) && oP l 1) && decide ((Zk (oG l 1)).2 = 0)) && oP l 2) && decide ((Zk (oG l 2)).2 = 0)) && oP l 3) (oG l 3)), ((Zk (oG l 4)).1)⟩ : Head))) rfl rfl rfl rfl rfl rfl ?_
  by_cases h3 : (Zbd (⟨((Zk (oG l 0)).1), ((Zk (oG l 1)).1), ((Zk (oG l 2)).1), (Zc5 (((((((((ofF l).1) && oP l 0) && decide ((Zk (oG l 0)).2 = 0)) && oP l 1) && decide ((Zk (oG l 1)).2 = 0)) && oP l 2) && decide ((Zk (oG l 2)).2 = 0)) && oP l 3) (oG l 3)), ((Zk (oG l 4)).1)⟩ : Head)) ≠ 0
  refine Zi (vx := Iv (Zbd (⟨((Zk (oG l 0)).1), ((Zk (oG l 1)).1), ((Zk (oG l 2)).1), (Zc5 (((((((((ofF l).1) && oP l 0) && decide ((Zk (oG l 0)).2 = 0)) && oP l 1) && decide ((Zk (oG l 1)).2 = 0)) && oP l 2) && decide ((Zk (oG l 2)).2 = 0)) && oP l 3) (oG l 3)), ((Zk (oG l 4)).1)⟩ : Head))) (vy := Iv 0) rfl rfl (.bool true) rfl rfl (Zke (by omega)) ?_
  refine Zp rfl rfl (.bool true) rfl (Za (Zb (Zu rfl (Ze (Zf ?_)))))
  refine Zbf (vs := []) (v := Zbp (⟨0, 0, 0, dz, 0⟩ : Head)) rfl rfl rfl (by kernel_rfl) ?_
  refine Zj (p := pt 1 0) (v := Zbp (⟨0, 0, 0, dz, 0⟩ : Head)) (b := 1) (blk := bxB 36 (Zae (⟨0, 0, 0, dz, 0⟩ : Head))) (H' := [rdB l, bxB 36 (Zae (⟨0, 0, 0, dz, 0⟩ : Head)), bxB 1 ([.bool ((((((((((((ofF l).1) && oP l 0) && decide ((Zk (oG l 0)).2 = 0)) && oP l 1) && decide ((Zk (oG l 1)).2 = 0)) && oP l 2) && decide ((Zk (oG l 2)).2 = 0)) && oP l 3) && decide ((oG l 3).size = 32)) && oP l 4) && decide ((Zk (oG l 4)).2 = 0))]), bxB 36 (Zae (⟨((Zk (oG l 0)).1), ((Zk (oG l 1)).1), ((Zk (oG l 2)).1), (Zc5 (((((((((ofF l).1) && oP l 0) && decide ((Zk (oG l 0)).2 = 0)) && oP l 1) && decide ((Zk (oG l 1)).2 = 0)) && oP l 2) && decide ((Zk (oG l 2)).2 = 0)) && oP l 3) (oG l 3)), ((Zk (oG l 4)).1)⟩ : Head)), rfB (slv 5 (pK (oN l) 5) (Z3 (oN l) (pK (oN l) 5)) (Z3 (oN l) (pK (oN l) 5))), txB ((ofF l).2)]) rfl rfl rfl (by kernel_rfl) (by kernel_rfl) ?_
  refine Zc rfl rfl (Iv 70) rfl (Za (Zb (Zw (Zaj (Zy ?_)))))
  rw [show Zbo l = ((⟨0, 0, 0, dz, 0⟩ : Head), 70) from by unfold Zbo; rw [if_pos h1, if_neg h2, if_pos h3]]
  exact Zo (v := .tuple #[Zbp (⟨0, 0, 0, dz, 0⟩ : Head), Iv 70]) (by kernel_rfl) rfl rfl (by simp [Za1, rdB]) ⟨(Zeg (by kernel_rfl) rfl), rfl, trivial⟩
  refine Zi (vx := Iv (Zbd (⟨((Zk (oG l 0)).1), ((Zk (oG l 1)).1), ((Zk (oG l 2)).1), (Zc5 (((((((((ofF l).1) && oP l 0) && decide ((Zk (oG l 0)).2 = 0)) && oP l 1) && decide ((Zk (oG l 1)).2 = 0)) && oP l 2) && decide ((Zk (oG l 2)).2 = 0)) && oP l 3) (oG l 3)), ((Zk (oG l 4)).1)⟩ : Head))) (vy := Iv 0) rfl rfl (.bool false) rfl rfl (Zen (by omega)) ?_
  refine Zp rfl rfl (.bool false) rfl (Za (Zb (Zr rfl (Z0 (Zb (Ze (Zf ?_)))))))
  refine Zg (p := pt 3 0) (v := Zbp (⟨((Zk (oG l 0)).1), ((Zk (oG l 1)).1), ((Zk (oG l 2)).1), (Zc5 (((((((((ofF l).1) && oP l 0) && decide ((Zk (oG l 0)).2 = 0)) && oP l 1) && decide ((Zk (oG l 1)).2 = 0)) && oP l 2) && decide ((Zk (oG l 2)).2 = 0)) && oP l 3) (oG l 3)), ((Zk (oG l 4)).1)⟩ : Head)) rfl rfl rfl (by kernel_rfl) ?_
  refine Zj (p := pt 1 0) (v := Zbp (⟨((Zk (oG l 0)).1), ((Zk (oG l 1)).1), ((Zk (oG l 2)).1), (Zc5 (((((((((ofF l).1) && oP l 0) && decide ((Zk (oG l 0)).2 = 0)) && oP l 1) && decide ((Zk (oG l 1)).2 = 0)) && oP l 2) && decide ((Zk (oG l 2)).2 = 0)) && oP l 3) (oG l 3)), ((Zk (oG l 4)).1)⟩ : Head)) (b := 1) (blk := bxB 36 (Zae (⟨((Zk (oG l 0)).1), ((Zk (oG l 1)).1), ((Zk (oG l 2)).1), (Zc5 (((((((((ofF l).1) && oP l 0) && decide ((Zk (oG l 0)).2 = 0)) && oP l 1) && decide ((Zk (oG l 1)).2 = 0)) && oP l 2) && decide ((Zk (oG l 2)).2 = 0)) && oP l 3) (oG l 3)), ((Zk (oG l 4)).1)⟩ : Head))) (H' := [rdB l, bxB 36 (Zae (⟨((Zk (oG l 0)).1), ((Zk (oG l 1)).1), ((Zk (oG l 2)).1), (Zc5 (((((((((ofF l).1) && oP l 0) && decide ((Zk (oG l 0)).2 = 0)) && oP l 1) && decide ((Zk (oG l 1)).2 = 0)) && oP l 2) && decide ((Zk (oG l 2)).2 = 0)) && oP l 3) (oG l 3)), ((Zk (oG l 4)).1)⟩ : Head)), bxB 1 ([.bool ((((((((((((ofF l).1) && oP l 0) && decide ((Zk (oG l 0)).2 = 0)) && oP l 1) && decide ((Zk (oG l 1)).2 = 0)) && oP l 2) && decide ((Zk (oG l 2)).2 = 0)) && oP l 3) && decide ((oG l 3).size = 32)) && oP l 4) && decide ((Zk (oG l 4)).2 = 0))]), bxB 36 (Zae (⟨((Zk (oG l 0)).1), ((Zk (oG l 1)).1), ((Zk (oG l 2)).1), (Zc5 (((((((((ofF l).1) && oP l 0) && decide ((Zk (oG l 0)).2 = 0)) && oP l 1) && decide ((Zk (oG l 1)).2 = 0)) && oP l 2) && decide ((Zk (oG l 2)).2 = 0)) && oP l 3) (oG l 3)), ((Zk (oG l 4)).1)⟩ : Head)), rfB (slv 5 (pK (oN l) 5) (Z3 (oN l) (pK (oN l) 5)) (Z3 (oN l) (pK (oN l) 5))), txB ((ofF l).2)]) rfl rfl rfl (by kernel_rfl) (by kernel_rfl) ?_
  refine Zc rfl rfl (Iv 0) rfl (Za (Zb (Zw (Zy ?_))))
  rw [show Zbo l = ((⟨((Zk (oG l 0)).1), ((Zk (oG l 1)).1), ((Zk (oG l 2)).1), (Zc5 (((((((((ofF l).1) && oP l 0) && decide ((Zk (oG l 0)).2 = 0)) && oP l 1) && decide ((Zk (oG l 1)).2 = 0)) && oP l 2) && decide ((Zk (oG l 2)).2 = 0)) && oP l 3) (oG l 3)), ((Zk (oG l 4)).1)⟩ : Head), 0) from by unfold Zbo; rw [if_pos h1, if_neg h2, if_neg h3]]
  exact Zo (v := .tuple #[Zbp (⟨((Zk (oG l 0)).1), ((Zk (oG l 1)).1), ((Zk (oG l 2)).1), (Zc5 (((((((((ofF l).1) && oP l 0) && decide ((Zk (oG l 0)).2 = 0)) && oP l 1) && decide ((Zk (oG l 1)).2 = 0)) && oP l 2) && decide ((Zk (oG l 2)).2 = 0)) && oP l 3) (oG l 3)), ((Zk (oG l 4)).1)⟩ : Head), Iv 0]) (by kernel_rfl) rfl rfl (by simp [Za1, rdB]) ⟨(Zeg (by kernel_rfl) rfl), rfl, trivial⟩
  refine Zhl (vx := .bool ((((((((((((ofF l).1) && oP l 0) && decide ((Zk (oG l 0)).2 = 0)) && oP l 1) && decide ((Zk (oG l 1)).2 = 0)) && oP l 2) && decide ((Zk (oG l 2)).2 = 0)) && oP l 3) && decide ((oG l 3).size = 32)) && oP l 4) && decide ((Zk (oG l 4)).2 = 0))) rfl rfl (.bool true) rfl (Eq.trans Zdu (congrArg (fun b => some (Value.bool !b)) h1)) ?_
  refine Zd rfl rfl (.bool true) rfl (Zn rfl rfl (Zn rfl rfl (Zn rfl rfl (Zn rfl rfl (Zn rfl rfl (Zp rfl rfl (.bool true) rfl (Zd rfl rfl (.bool true) rfl (Zn rfl rfl (Zn rfl rfl (Zn rfl rfl (Zp rfl rfl (.bool true) rfl (Za (Zb (Zu rfl (Ze (Zf ?_))))))))))))))))
  refine Zbf (vs := []) (v := Zbp (⟨0, 0, 0, dz, 0⟩ : Head)) rfl rfl rfl (by kernel_rfl) ?_
  refine Zj (p := pt 1 0) (v := Zbp (⟨0, 0, 0, dz, 0⟩ : Head)) (b := 1) (blk := bxB 36 (Zae (⟨0, 0, 0, dz, 0⟩ : Head))) (H' := [rdB l, bxB 36 (Zae (⟨0, 0, 0, dz, 0⟩ : Head)), bxB 1 ([.bool ((((((((((((ofF l).1) && oP l 0) && decide ((Zk (oG l 0)).2 = 0)) && oP l 1) && decide ((Zk (oG l 1)).2 = 0)) && oP l 2) && decide ((Zk (oG l 2)).2 = 0)) && oP l 3) && decide ((oG l 3).size = 32)) && oP l 4) && decide ((Zk (oG l 4)).2 = 0))]), bxB 36 (Zae (⟨((Zk (oG l 0)).1), ((Zk (oG l 1)).1), ((Zk (oG l 2)).1), (Zc5 (((((((((ofF l).1) && oP l 0) && decide ((Zk (oG l 0)).2 = 0)) && oP l 1) && decide ((Zk (oG l 1)).2 = 0)) && oP l 2) && decide ((Zk (oG l 2)).2 = 0)) && oP l 3) (oG l 3)), ((Zk (oG l 4)).1)⟩ : Head)), rfB (slv 5 (pK (oN l) 5) (Z3 (oN l) (pK (oN l) 5)) (Z3 (oN l) (pK (oN l) 5))), txB ((ofF l).2)]) rfl rfl rfl (by kernel_rfl) (by kernel_rfl) ?_
  refine Zc rfl rfl (Iv 70) rfl (Za (Zb (Zw (Zaj (Zy ?_)))))
  rw [show Zbo l = ((⟨0, 0, 0, dz, 0⟩ : Head), 70) from by unfold Zbo; rw [if_neg (by rw [h1]; decide)]]
  exact Zo (v := .tuple #[Zbp (⟨0, 0, 0, dz, 0⟩ : Head), Iv 70]) (by kernel_rfl) rfl rfl (by simp [Za1, rdB]) ⟨(Zeg (by kernel_rfl) rfl), rfl, trivial⟩
end Go.Flat
