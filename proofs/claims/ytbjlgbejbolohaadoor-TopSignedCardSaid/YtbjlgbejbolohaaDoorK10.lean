/- Walks. -/
import Derived.Test.YtbjlgbejbolohaaDoorK9
set_option linter.unusedVariables false
set_option linter.unusedSimpArgs false
set_option maxRecDepth 20000
namespace Go.Flat
open Go.Proofs
variable {G : Glob}
def Zfo (kk : Nat → BitVec 32) (m : Int) (old : D) (n : Int) (root : D) (ds : List D) : Int :=
  if n < 0 ∨ 100000 < n ∨ m < 0 ∨ n < m ∨ (m = 0 ∧ 0 < ds.length) then 40 else
    if m = 0 then (if Zbm 32 old (Zbb kk []) = false ∨ (n = 0 ∧ Zbm 32 root old = false) then 41 else 0) else
    match Zfm kk old m.toNat n.toNat true ds with
    | none => 40
    | some p => if Zbm 32 p.1 old && Zbm 32 p.2 root then 0 else 41
def fnN : Blk := { cells := [.nilFunc], sz := 1, wr := true, fix := true, mv := false, pur := false }
def fnC (k : Nat) : Blk := { cells := [.func (.func 43) #[] #[pt 1 0, pt k 0]], sz := 1, wr := true, fix := true, mv := false, pur := false }
set_option maxRecDepth 20000 in
set_option maxHeartbeats 8000000 in
theorem Zqf (kk : Nat → BitVec 32) (hG : G 0 = some (Zaa w32 64 kk)) (m : Int) (old : D) (n : Int) (root : D) (ds : List D) (q c : Nat) (hq : ds.length = q) (hb : q ≤ 1000) (hc : q ≤ c)
  (s1 : -9223372036854775808 ≤ m) (s2 : m ≤ 9223372036854775807) (i1 : -9223372036854775808 ≤ n) (i2 : n ≤ 9223372036854775807) :
  Zac Tryd.prog G 15 [Iv m, dgV old, Iv n, dgV root, slv 0 0 q c] [dsR ds] (Iv (Zfo kk m old n root ds)) [dsR ds] := by
 have hE := Zlm (G := G) kk hG
 refine Zac.introS (fn := Tryd.f15) rfl rfl (show 5 ≤ 76 by decide) ?_
 refine WpS.seqL (K := fun s => Zb2 G 76 1 s ⟨Tl [Iv m, dead, Iv n, dead, slv 0 0 q c, dead, pt 1 0, dead, pt 2 0, dead, pt 3 0], [dsR ds, dgB old, dgB root, eB 0]⟩) (C.h ?_) fun s hs => WpS.weak hs ?_
 ·change C Tryd.prog G 76 1 _ _ _
  refine Zah 3 (H' := [dsR ds, hole, hole, hole]) rfl ?_
  repeat (first
   | ((with_reducible apply Zdc (nid := 1)); rfl; rfl; (exact (rfl : _ = Value.agg _)); rfl; exact (rfl : _ = _ :: _))
   | ((with_reducible apply Zdc (nid := 2)); rfl; rfl; (exact (rfl : _ = Value.agg _)); rfl; exact (rfl : _ = _ :: _))
   | ((with_reducible apply Zq (nid := 3)); rfl; rfl; rfl; exact (rfl : _ = _ :: _))
   | with_reducible refine Za ?_
   | with_reducible refine Zf ?_)
  refine Zx ?_
  refine Z2 (n := 4) rfl ?_ (by kernel_rfl) ?_
  repeat (first | exact trivial | refine ⟨.inl rfl, ?_⟩ | refine ⟨.inr ⟨rfl, rfl⟩, ?_⟩)
  ·simp [dsR, dgB, eB]
 ·have hend : ∀ (z : Int) (T : Nat → Value), T 10 = pt 3 0 → ∃ v e, EndOK Tryd.prog G Tryd.f15 [dsR ds] (Iv z) [dsR ds] ⟨T, [dsR ds, dgB old, dgB root, eB z]⟩ v e := by
   intro z T hT
   refine Zo (v := Iv z) ?_ rfl rfl (Zft ds) rfl
   show Zdm Tryd.prog G 32 [dsR ds, dgB old, dgB root, eB z] (T 10) = _
   rw [hT]
   rfl
  by_cases hbad : n < 0 ∨ 100000 < n ∨ m < 0 ∨ n < m ∨ (m = 0 ∧ 0 < ds.length)
  ·rw [show Zfo kk m old n root ds = 40 from by unfold Zfo; rw [if_pos hbad]]
   refine WpS.seqL (K := fun _ => False) (C.h ?_) fun s hs => hs.elim
   change C Tryd.prog G 76 1 _ _ _
   by_cases b1 : n < 0
   repeat (first
    | ((with_reducible apply Zd); rfl; rfl; (first
    | exact (rfl : _ = Value.int _ _)
    | exact (rfl : _ = Value.bool _)))
    | ((with_reducible apply Zc); rfl; rfl; (exact (rfl : _ = Value.bool _)))
    | ((with_reducible apply Zi); rfl; rfl; (exact (rfl : _ = Value.int _ _)); (exact (rfl : _ = Value.int _ _)); (with_reducible exact Zcv (by omega)))
    | ((with_reducible apply Zp); rfl; rfl; (exact (rfl : _ = some (Value.bool _))))
    | ((with_reducible apply Zj); rfl; exact (rfl : _ = Value.pointer (some ⟨_, _, _⟩)); (exact (rfl : _ = Value.int _ _)); (rfl); exact (rfl : _ = _ :: _))
    | ((with_reducible apply Zn); rfl; rfl)
    | with_reducible refine Za ?_
    | with_reducible refine Zf ?_
    | with_reducible refine Ze ?_
    | with_reducible refine Z1 ?_
    | with_reducible refine Zw ?_
    | with_reducible refine Zb ?_
    | with_reducible refine Zbc ?_
    | with_reducible refine Zbw ?_
    | ((with_reducible apply Zu); rfl))
   refine Zy ?_
   exact hend 40 _ rfl
   ·by_cases b2 : 100000 < n
    repeat (first
     | ((with_reducible apply Zd); rfl; rfl; (first
     | exact (rfl : _ = Value.int _ _)
     | exact (rfl : _ = Value.bool _)))
     | ((with_reducible apply Zc); rfl; rfl; (exact (rfl : _ = Value.bool _)))
     | ((with_reducible apply Zi); rfl; rfl; (exact (rfl : _ = Value.int _ _)); (exact (rfl : _ = Value.int _ _)); (first
     | with_reducible exact Zbv (by omega)
     | with_reducible exact Zde (by omega)))
     | ((with_reducible apply Zp); rfl; rfl; (exact (rfl : _ = some (Value.bool _))))
     | ((with_reducible apply Zj); rfl; exact (rfl : _ = Value.pointer (some ⟨_, _, _⟩)); (exact (rfl : _ = Value.int _ _)); (rfl); exact (rfl : _ = _ :: _))
     | ((with_reducible apply Zn); rfl; rfl)
     | with_reducible refine Za ?_
     | with_reducible refine Zf ?_
     | with_reducible refine Ze ?_
     | with_reducible refine Z1 ?_
     | with_reducible refine Zw ?_
     | with_reducible refine Zb ?_
     | with_reducible refine Zbc ?_
     | with_reducible refine Zbw ?_
     | ((with_reducible apply Zu); rfl))
    refine Zy ?_
    exact hend 40 _ rfl
    ·by_cases b3 : m < 0
     repeat (first
      | ((with_reducible apply Zd); rfl; rfl; (first
      | exact (rfl : _ = Value.int _ _)
      | exact (rfl : _ = Value.bool _)))
      | ((with_reducible apply Zc); rfl; rfl; (exact (rfl : _ = Value.bool _)))
      | ((with_reducible apply Zi); rfl; rfl; (exact (rfl : _ = Value.int _ _)); (exact (rfl : _ = Value.int _ _)); (first
      | with_reducible exact Zcv (by omega)
      | with_reducible exact Zbv (by omega)
      | with_reducible exact Zcw (by omega)))
      | ((with_reducible apply Zp); rfl; rfl; (exact (rfl : _ = some (Value.bool _))))
      | ((with_reducible apply Zj); rfl; exact (rfl : _ = Value.pointer (some ⟨_, _, _⟩)); (exact (rfl : _ = Value.int _ _)); (rfl); exact (rfl : _ = _ :: _))
      | ((with_reducible apply Zn); rfl; rfl)
      | with_reducible refine Za ?_
      | with_reducible refine Zf ?_
      | with_reducible refine Ze ?_
      | with_reducible refine Z1 ?_
      | with_reducible refine Zw ?_
      | with_reducible refine Zb ?_
      | with_reducible refine Zbc ?_
      | with_reducible refine Zbw ?_
      | ((with_reducible apply Zu); rfl))
     refine Zy ?_
     exact hend 40 _ rfl
     ·by_cases b4 : n < m
      repeat (first
       | ((with_reducible apply Zd); rfl; rfl; (first
       | exact (rfl : _ = Value.int _ _)
       | exact (rfl : _ = Value.bool _)))
       | ((with_reducible apply Zc); rfl; rfl; (exact (rfl : _ = Value.bool _)))
       | ((with_reducible apply Zi); rfl; rfl; (exact (rfl : _ = Value.int _ _)); (exact (rfl : _ = Value.int _ _)); (first
       | with_reducible exact Zbv (by omega)
       | with_reducible exact Zde (by omega)
       | with_reducible exact Zcw (by omega)))
       | ((with_reducible apply Zp); rfl; rfl; (exact (rfl : _ = some (Value.bool _))))
       | ((with_reducible apply Zj); rfl; exact (rfl : _ = Value.pointer (some ⟨_, _, _⟩)); (exact (rfl : _ = Value.int _ _)); (rfl); exact (rfl : _ = _ :: _))
       | ((with_reducible apply Zn); rfl; rfl)
       | with_reducible refine Za ?_
       | with_reducible refine Zf ?_
       | with_reducible refine Ze ?_
       | with_reducible refine Z1 ?_
       | with_reducible refine Zw ?_
       | with_reducible refine Zb ?_
       | with_reducible refine Zbc ?_
       | with_reducible refine Zbw ?_
       | ((with_reducible apply Zu); rfl))
      refine Zy ?_
      exact hend 40 _ rfl
      ·have b5 : m = 0 ∧ 0 < q := by omega
       obtain ⟨rfl, b6⟩ := b5
       repeat (first
        | ((with_reducible apply Zd); rfl; rfl; (first
        | exact (rfl : _ = Value.int _ _)
        | exact (rfl : _ = Value.bool _)
        | exact (rfl : _ = Value.slice _ _ _)))
        | ((with_reducible apply Zc); rfl; rfl; (exact (rfl : _ = Value.bool _)))
        | ((with_reducible apply Zi); rfl; rfl; (exact (rfl : _ = Value.int _ _)); (exact (rfl : _ = Value.int _ _)); (first
        | with_reducible exact Zbv (by omega)
        | with_reducible exact Zde (by omega)
        | with_reducible exact Zcw (by omega)
        | with_reducible exact Zd2 (by omega)))
        | ((with_reducible apply Zp); rfl; rfl; (exact (rfl : _ = some (Value.bool _))))
        | ((with_reducible apply Za6); rfl; rfl; (exact (rfl : _ = Value.slice _ _ _)); (exact (rfl : _ = some (Value.int _ _))))
        | ((with_reducible apply Zj); rfl; exact (rfl : _ = Value.pointer (some ⟨_, _, _⟩)); (exact (rfl : _ = Value.int _ _)); (rfl); exact (rfl : _ = _ :: _))
        | with_reducible refine Za ?_
        | with_reducible refine Zf ?_
        | with_reducible refine Ze ?_
        | with_reducible refine Z1 ?_
        | with_reducible refine Zw ?_
        | with_reducible refine Zb ?_
        | with_reducible refine Zbc ?_
        | with_reducible refine Zbw ?_
        | ((with_reducible apply Zu); rfl))
       refine Zy ?_
       exact hend 40 _ rfl
  ·by_cases h0 : m = 0
   ·subst h0
    obtain rfl : q = 0 := by omega
    refine WpS.seqL (K := fun _ => False) (C.h ?_) fun s hs => hs.elim
    change C Tryd.prog G 76 1 _ _ _
    cases h1 : Zbm 32 old (Zbb kk []) with
    | false =>
     rw [show Zfo kk 0 old n root ds = 41 from by unfold Zfo; rw [if_neg hbad, if_pos rfl, if_pos (.inl h1)]]
     repeat (first
      | ((with_reducible apply Zg); rfl; rfl; exact (rfl : _ = Value.pointer (some ⟨1, _, _⟩)); exact (show _ = some (dgV old) by kernel_rfl))
      | ((with_reducible apply Zi); rfl; rfl; exact (rfl : _ = Value.agg _); exact (rfl : _ = Value.agg _); refine Eq.trans (Zgd (a := old) (b := Zbb kk []) (by kernel_rfl) rfl rfl rfl) ?_; rw [h1])
      | ((with_reducible apply Zd); rfl; rfl; (first
      | exact (rfl : _ = Value.int _ _)
      | exact (rfl : _ = Value.bool _)
      | exact (rfl : _ = Value.slice _ _ _)))
      | ((with_reducible apply Zc); rfl; rfl; (exact (rfl : _ = Value.bool _)))
      | ((with_reducible apply Zi); rfl; rfl; (exact (rfl : _ = Value.int _ _)); (exact (rfl : _ = Value.int _ _)); (first
      | with_reducible exact Zbv (by omega)
      | with_reducible exact Zcw (by omega)
      | with_reducible exact Zd2 (by omega)))
      | ((with_reducible apply Zp); rfl; rfl; (exact (rfl : _ = some (Value.bool _))))
      | ((with_reducible apply Za6); rfl; rfl; (exact (rfl : _ = Value.slice _ _ _)); (exact (rfl : _ = some (Value.int _ _))))
      | ((with_reducible apply Zj); rfl; exact (rfl : _ = Value.pointer (some ⟨_, _, _⟩)); (exact (rfl : _ = Value.int _ _)); (rfl); exact (rfl : _ = _ :: _))
      | ((with_reducible apply Zn); rfl; rfl)
      | ((with_reducible apply Zv (hE)); rfl; rfl; rfl; rfl; rfl; (exact (rfl : _ = Value.agg _)))
      | with_reducible refine Za ?_
      | with_reducible refine Zf ?_
      | with_reducible refine Ze ?_
      | with_reducible refine Z1 ?_
      | with_reducible refine Zw ?_
      | with_reducible refine Zb ?_
      | with_reducible refine Zbc ?_
      | with_reducible refine Zbw ?_
      | (with_reducible refine Zca (by kernel_rfl) ?_)
      | (with_reducible refine Zc4 (by kernel_rfl) ?_)
      | ((with_reducible apply Zu); rfl)
      | ((with_reducible apply Zr); rfl))
     refine Zy ?_
     exact hend 41 _ rfl
    | true =>
     by_cases h2 : n = 0
     ·subst h2
      cases h3 : Zbm 32 root old with
      | false =>
       rw [show Zfo kk 0 old 0 root ds = 41 from by unfold Zfo; rw [if_neg hbad, if_pos rfl, if_pos (.inr ⟨rfl, h3⟩)]]
       repeat (first
        | ((with_reducible apply Zg); rfl; rfl; exact (rfl : _ = Value.pointer (some ⟨1, _, _⟩)); exact (show _ = some (dgV old) by kernel_rfl))
        | ((with_reducible apply Zg); rfl; rfl; exact (rfl : _ = Value.pointer (some ⟨2, _, _⟩)); exact (show _ = some (dgV root) by kernel_rfl))
        | ((with_reducible apply Zi); rfl; rfl; exact (rfl : _ = Value.agg _); exact (rfl : _ = Value.agg _); refine Eq.trans (Zgd (a := old) (b := Zbb kk []) (by kernel_rfl) rfl rfl rfl) ?_; rw [h1])
        | ((with_reducible apply Zi); rfl; rfl; exact (rfl : _ = Value.agg _); exact (rfl : _ = Value.agg _); refine Eq.trans (Zgd (a := root) (b := old) (by kernel_rfl) rfl rfl rfl) ?_; rw [h3])
        | ((with_reducible apply Zd); rfl; rfl; (first
        | exact (rfl : _ = Value.int _ _)
        | exact (rfl : _ = Value.bool _)
        | exact (rfl : _ = Value.slice _ _ _)))
        | ((with_reducible apply Zc); rfl; rfl; (exact (rfl : _ = Value.bool _)))
        | ((with_reducible apply Zi); rfl; rfl; (exact (rfl : _ = Value.int _ _)); (exact (rfl : _ = Value.int _ _)); (first
        | with_reducible exact Zbv (by omega)
        | with_reducible exact Zcw (by omega)
        | with_reducible exact Zd2 (by omega)))
        | ((with_reducible apply Zp); rfl; rfl; (exact (rfl : _ = some (Value.bool _))))
        | ((with_reducible apply Za6); rfl; rfl; (exact (rfl : _ = Value.slice _ _ _)); (exact (rfl : _ = some (Value.int _ _))))
        | ((with_reducible apply Zj); rfl; exact (rfl : _ = Value.pointer (some ⟨_, _, _⟩)); (exact (rfl : _ = Value.int _ _)); (rfl); exact (rfl : _ = _ :: _))
        | ((with_reducible apply Zv (hE)); rfl; rfl; rfl; rfl; rfl; (exact (rfl : _ = Value.agg _)))
        | with_reducible refine Za ?_
        | with_reducible refine Zf ?_
        | with_reducible refine Ze ?_
        | with_reducible refine Z1 ?_
        | with_reducible refine Zw ?_
        | with_reducible refine Zb ?_
        | with_reducible refine Zbc ?_
        | with_reducible refine Zbw ?_
        | (with_reducible refine Zca (by kernel_rfl) ?_)
        | (with_reducible refine Zc4 (by kernel_rfl) ?_)
        | ((with_reducible apply Zu); rfl)
        | ((with_reducible apply Zr); rfl))
       refine Zy ?_
       exact hend 41 _ rfl
      | true =>
       rw [show Zfo kk 0 old 0 root ds = 0 from by unfold Zfo; rw [if_neg hbad, if_pos rfl, if_neg (by rw [h1, h3]; simp)]]
       repeat (first
        | ((with_reducible apply Zg); rfl; rfl; exact (rfl : _ = Value.pointer (some ⟨1, _, _⟩)); exact (show _ = some (dgV old) by kernel_rfl))
        | ((with_reducible apply Zg); rfl; rfl; exact (rfl : _ = Value.pointer (some ⟨2, _, _⟩)); exact (show _ = some (dgV root) by kernel_rfl))
        | ((with_reducible apply Zi); rfl; rfl; exact (rfl : _ = Value.agg _); exact (rfl : _ = Value.agg _); refine Eq.trans (Zgd (a := old) (b := Zbb kk []) (by kernel_rfl) rfl rfl rfl) ?_; rw [h1])
        | ((with_reducible apply Zi); rfl; rfl; exact (rfl : _ = Value.agg _); exact (rfl : _ = Value.agg _); refine Eq.trans (Zgd (a := root) (b := old) (by kernel_rfl) rfl rfl rfl) ?_; rw [h3])
        | ((with_reducible apply Zd); rfl; rfl; (first
        | exact (rfl : _ = Value.int _ _)
        | exact (rfl : _ = Value.bool _)
        | exact (rfl : _ = Value.slice _ _ _)))
        | ((with_reducible apply Zc); rfl; rfl; (exact (rfl : _ = Value.bool _)))
        | ((with_reducible apply Zi); rfl; rfl; (exact (rfl : _ = Value.int _ _)); (exact (rfl : _ = Value.int _ _)); (first
        | with_reducible exact Zbv (by omega)
        | with_reducible exact Zcw (by omega)
        | with_reducible exact Zd2 (by omega)))
        | ((with_reducible apply Zp); rfl; rfl; (exact (rfl : _ = some (Value.bool _))))
        | ((with_reducible apply Za6); rfl; rfl; (exact (rfl : _ = Value.slice _ _ _)); (exact (rfl : _ = some (Value.int _ _))))
        | ((with_reducible apply Zj); rfl; exact (rfl : _ = Value.pointer (some ⟨_, _, _⟩)); (exact (rfl : _ = Value.int _ _)); (rfl); exact (rfl : _ = _ :: _))
        | ((with_reducible apply Zv (hE)); rfl; rfl; rfl; rfl; rfl; (exact (rfl : _ = Value.agg _)))
        | with_reducible refine Za ?_
        | with_reducible refine Zf ?_
        | with_reducible refine Ze ?_
        | with_reducible refine Z1 ?_
        | with_reducible refine Zw ?_
        | with_reducible refine Zb ?_
        | with_reducible refine Zbc ?_
        | with_reducible refine Zbw ?_
        | (with_reducible refine Zca (by kernel_rfl) ?_)
        | (with_reducible refine Zc4 (by kernel_rfl) ?_)
        | ((with_reducible apply Zu); rfl)
        | ((with_reducible apply Zr); rfl))
       refine Zy ?_
       exact hend 0 _ rfl
     ·rw [show Zfo kk 0 old n root ds = 0 from by unfold Zfo; rw [if_neg hbad, if_pos rfl, if_neg (by rw [h1]; simp [h2])]]
      repeat (first
       | ((with_reducible apply Zg); rfl; rfl; exact (rfl : _ = Value.pointer (some ⟨1, _, _⟩)); exact (show _ = some (dgV old) by kernel_rfl))
       | ((with_reducible apply Zi); rfl; rfl; exact (rfl : _ = Value.agg _); exact (rfl : _ = Value.agg _); refine Eq.trans (Zgd (a := old) (b := Zbb kk []) (by kernel_rfl) rfl rfl rfl) ?_; rw [h1])
       | ((with_reducible apply Zd); rfl; rfl; (first
       | exact (rfl : _ = Value.int _ _)
       | exact (rfl : _ = Value.bool _)
       | exact (rfl : _ = Value.slice _ _ _)))
       | ((with_reducible apply Zc); rfl; rfl; (exact (rfl : _ = Value.bool _)))
       | ((with_reducible apply Zi); rfl; rfl; (exact (rfl : _ = Value.int _ _)); (exact (rfl : _ = Value.int _ _)); (first
       | with_reducible exact Zbv (by omega)
       | with_reducible exact Zcw (by omega)
       | with_reducible exact Zd2 (by omega)
       | with_reducible exact Zfc (by omega)))
       | ((with_reducible apply Zp); rfl; rfl; (exact (rfl : _ = some (Value.bool _))))
       | ((with_reducible apply Za6); rfl; rfl; (exact (rfl : _ = Value.slice _ _ _)); (exact (rfl : _ = some (Value.int _ _))))
       | ((with_reducible apply Zj); rfl; exact (rfl : _ = Value.pointer (some ⟨_, _, _⟩)); (exact (rfl : _ = Value.int _ _)); (rfl); exact (rfl : _ = _ :: _))
       | ((with_reducible apply Zn); rfl; rfl)
       | ((with_reducible apply Zv (hE)); rfl; rfl; rfl; rfl; rfl; (exact (rfl : _ = Value.agg _)))
       | with_reducible refine Za ?_
       | with_reducible refine Zf ?_
       | with_reducible refine Ze ?_
       | with_reducible refine Z1 ?_
       | with_reducible refine Zw ?_
       | with_reducible refine Zb ?_
       | with_reducible refine Zbc ?_
       | with_reducible refine Zbw ?_
       | (with_reducible refine Zca (by kernel_rfl) ?_)
       | (with_reducible refine Zc4 (by kernel_rfl) ?_)
       | ((with_reducible apply Zu); rfl)
       | ((with_reducible apply Zr); rfl))
      refine Zy ?_
      exact hend 0 _ rfl
   ·refine WpS.seqL (K := fun s => Zb2 G 76 1 s ⟨Tl [Iv m, dead, Iv n, dead, slv 0 0 q c, dead, pt 1 0, dead, pt 2 0, dead, pt 3 0], [dsR ds, dgB old, dgB root, eB 0]⟩) (C.h ?_) fun s hs => WpS.weak hs ?_
    ·change C Tryd.prog G 76 1 _ _ _
     repeat (first
      | ((with_reducible apply Zd); rfl; rfl; (first
      | exact (rfl : _ = Value.int _ _)
      | exact (rfl : _ = Value.bool _)))
      | ((with_reducible apply Zc); rfl; rfl; (exact (rfl : _ = Value.bool _)))
      | ((with_reducible apply Zi); rfl; rfl; (exact (rfl : _ = Value.int _ _)); (exact (rfl : _ = Value.int _ _)); (first
      | with_reducible exact Zbv (by omega)
      | with_reducible exact Zcw (by omega)
      | with_reducible exact Zfc (by omega)))
      | ((with_reducible apply Zp); rfl; rfl; (exact (rfl : _ = some (Value.bool _))))
      | ((with_reducible apply Zn); rfl; rfl)
      | with_reducible refine Za ?_
      | with_reducible refine Zf ?_
      | with_reducible refine Ze ?_
      | with_reducible refine Z1 ?_
      | with_reducible refine Z0 ?_
      | with_reducible refine Zb ?_
      | with_reducible refine Zag ?_
      | (with_reducible refine Zca (by kernel_rfl) ?_)
      | (with_reducible refine Zc4 (by kernel_rfl) ?_)
      | ((with_reducible apply Zr); rfl))
     refine Zx ?_
     refine Z2 (n := 4) rfl ?_ rfl ?_
     repeat (first | exact trivial | refine ⟨.inl rfl, ?_⟩ | refine ⟨.inr ⟨rfl, rfl⟩, ?_⟩)
     ·simp [dsR, dgB, eB]
    ·refine WpS.deferC (pre := []) (K := fun s => s = _) rfl rfl rfl rfl rfl Zqz rfl ?_
     rintro s1 rfl
     refine ⟨3, eB 0, rfl, rfl, by show 0 < 1; decide, rfl, C.h ?_⟩
     obtain ⟨mm, rfl⟩ : ∃ k : Nat, m = k := ⟨m.toNat, by omega⟩
     obtain ⟨nn, rfl⟩ : ∃ k : Nat, n = k := ⟨n.toNat, by omega⟩
     change C Tryd.prog G 76 4 _ _ ⟨Tl [Iv (mm : Nat), dead, Iv (nn : Nat), dead, slv 0 0 q c, dead, pt 1 0, dead, pt 2 0, dead, pt 3 0], [dsR ds, dgB old, dgB root, eB 0]⟩
     have hEE : Zfo kk mm old nn root ds = (match Zfm kk old mm nn true ds with | none => 40 | some p => if Zbm 32 p.1 old && Zbm 32 p.2 root then 0 else 41) := by
      unfold Zfo; rw [if_neg hbad, if_neg h0]; rfl
     cases hw : Zfm kk old mm nn true ds with
     | none =>
      rw [hw] at hEE
      dsimp only at hEE
      rw [hEE]
      have hP := Z0u (G := G) kk old nn mm true ds q c hq hb hc (by omega) (by omega) (by omega) hw
      refine Zah 1 (H' := [dsR ds, dgB old, dgB root, eB 0, hole]) rfl ?_
      repeat (first
       | ((with_reducible apply Zgi 4); exact (rfl : _ = some (⟨some 65, _, _, _, _, _⟩ : Oper)); exact (rfl : _ = [_, _, _, _]))
       | ((with_reducible apply Zj); rfl; exact (rfl : _ = Value.pointer (some ⟨4, _, _⟩)); exact (rfl : _ = Value.func _ _ _); exact (show _ = some (4, fnC 4) by kernel_rfl); exact (show _ = [dsR ds, dgB old, dgB root, eB 0, fnC 4] by kernel_rfl))
       | ((with_reducible apply Zg); rfl; rfl; exact (rfl : _ = Value.pointer (some ⟨4, _, _⟩)); exact (show _ = some (Value.func (.func 43) #[] #[pt 1 0, pt 4 0]) by kernel_rfl))
       | ((with_reducible apply Zq (nid := 4)); rfl; rfl; rfl; exact (show _ = [dsR ds, dgB old, dgB root, eB 0, fnN] by kernel_rfl))
       | ((with_reducible apply Zd); rfl; rfl; (first
       | exact (rfl : _ = Value.int _ _)
       | exact (rfl : _ = Value.slice _ _ _)))
       | ((with_reducible apply Zfq); rfl; rfl; (exact (rfl : _ = [])); (exact (rfl : _ = [_, _])); rfl)
       | with_reducible refine Za ?_
       | with_reducible refine Zf ?_
       | with_reducible refine Ze ?_
       | with_reducible refine Zb ?_)
      refine Ze8 ⟨Zm6 (e := [some (0, 0), some (1, 0), some (4, 0)]) hP rfl rfl rfl rfl rfl rfl rfl rfl ⟨rfl, rfl, rfl, ⟨rfl, rfl, rfl, by omega, by omega⟩, ⟨rfl, rfl⟩, ⟨rfl, rfl⟩, trivial⟩ ⟨Zbu rfl rfl (by show 0 + (dsC _).length ≤ (dsC _).length; omega) (Zce _), Zd8 rfl rfl rfl rfl, Zbu rfl rfl (by show 0 + 1 ≤ 1; omega) (by kernel_rfl), trivial⟩, fun u v => ?_⟩
      repeat (first | with_reducible refine Zf5 ?_ | with_reducible refine Zez ?_ | with_reducible refine Ze0 ?_)
      have hO : ∀ T : Nat → Value, T 10 = pt 3 0 → ∃ v e, EndOK Tryd.prog G Tryd.f15 [dsR ds] (Iv 40) [dsR ds] ⟨T, [dsR ds, dgB old, dgB root, eB 40, fnC 4]⟩ v e := by
       intro T hT
       refine Zo (v := Iv 40) ?_ rfl rfl (Zft ds) rfl
       show Zdm Tryd.prog G 32 [dsR ds, dgB old, dgB root, eB 40, fnC 4] (T 10) = _
       rw [hT]
       rfl
      exact ⟨⟨⟨u, v, rfl⟩, _, _, eB 40, rfl, (hO _ (by rfl)).choose_spec.choose_spec⟩⟩
     | some p =>
      obtain ⟨a, b⟩ := p
      rw [hw] at hEE
      dsimp only at hEE
      have hB := Z27 (G := G) kk hG old nn mm true ds q c a b hq hb hc (by omega) (by omega) (by omega) hw
      refine Zah 3 (H' := [dsR ds, dgB old, dgB root, eB 0, hole, hole, hole]) rfl ?_
      cases ha : Zbm 32 a old with
      | false =>
       rw [show Zfo kk mm old nn root ds = 41 from by rw [hEE, ha]; rfl]
       repeat (first
        | ((with_reducible apply Zj); rfl; exact (rfl : _ = Value.pointer (some ⟨4, _, _⟩)); exact (rfl : _ = Value.func _ _ _); exact (show _ = some (4, fnC 4) by kernel_rfl); exact (show _ = [dsR ds, dgB old, dgB root, eB 0, fnC 4, hole, hole] by kernel_rfl))
        | ((with_reducible apply Zg); rfl; rfl; exact (rfl : _ = Value.pointer (some ⟨4, _, _⟩)); exact (show _ = some (Value.func (.func 43) #[] #[pt 1 0, pt 4 0]) by kernel_rfl))
        | ((with_reducible apply Zq (nid := 4)); rfl; rfl; rfl; exact (show _ = [dsR ds, dgB old, dgB root, eB 0, fnN, hole, hole] by kernel_rfl))
        | ((with_reducible apply Zab (e := [some (0, 0), some (1, 0), some (4, 0)]) (nid := 0) hB); rfl; rfl; rfl; rfl; rfl; rfl; rfl; refine ⟨⟨rfl, rfl, rfl, ⟨rfl, rfl, rfl, by omega, by omega⟩, ⟨rfl, rfl⟩, ⟨rfl, rfl⟩, trivial⟩, ⟨Zbu rfl rfl (by show 0 + (dsC _).length ≤ (dsC _).length; omega) (Zce _), Zd8 rfl rfl rfl rfl, Zbu rfl rfl (by show 0 + 1 ≤ 1; omega) (by kernel_rfl), trivial⟩, rfl, rfl, rfl⟩; exact (show _ = Value.tuple #[dgV a, dgV b] by kernel_rfl); exact (rfl : _ = _ :: _))
        | ((with_reducible apply Zq (nid := 5)); rfl; rfl; rfl; exact (show _ = [dsR ds, dgB old, dgB root, eB 0, fnC 4, dgB dz, hole] by kernel_rfl))
        | ((with_reducible apply Zq (nid := 6)); rfl; rfl; rfl; exact (show _ = [dsR ds, dgB old, dgB root, eB 0, fnC 4, dgB dz, dgB dz] by kernel_rfl))
        | ((with_reducible apply Zj); rfl; exact (rfl : _ = Value.pointer (some ⟨5, _, _⟩)); exact (rfl : _ = Value.agg _); exact (show _ = some (5, dgB a) by kernel_rfl); exact (show _ = [dsR ds, dgB old, dgB root, eB 0, fnC 4, dgB a, dgB dz] by kernel_rfl))
        | ((with_reducible apply Zj); rfl; exact (rfl : _ = Value.pointer (some ⟨6, _, _⟩)); exact (rfl : _ = Value.agg _); exact (show _ = some (6, dgB b) by kernel_rfl); exact (show _ = [dsR ds, dgB old, dgB root, eB 0, fnC 4, dgB a, dgB b] by kernel_rfl))
        | ((with_reducible apply Zg); rfl; rfl; exact (rfl : _ = Value.pointer (some ⟨1, _, _⟩)); exact (show _ = some (dgV old) by kernel_rfl))
        | ((with_reducible apply Zg); rfl; rfl; exact (rfl : _ = Value.pointer (some ⟨5, _, _⟩)); exact (show _ = some (dgV a) by kernel_rfl))
        | ((with_reducible apply Zi); rfl; rfl; exact (rfl : _ = Value.agg _); exact (rfl : _ = Value.agg _); refine Eq.trans (Zgd (a := a) (b := old) (by kernel_rfl) rfl rfl rfl) ?_; rw [ha])
        | ((with_reducible apply Zd); rfl; rfl; (first
        | exact (rfl : _ = Value.int _ _)
        | exact (rfl : _ = Value.bool _)
        | exact (rfl : _ = Value.slice _ _ _)
        | exact (rfl : _ = Value.tuple _)))
        | ((with_reducible apply Zfq); rfl; rfl; (exact (rfl : _ = [])); (exact (rfl : _ = [_, _])); rfl)
        | ((with_reducible apply Zp); rfl; rfl; (exact (rfl : _ = some (Value.bool _))))
        | ((with_reducible apply Z5); rfl; rfl; rfl; (exact (rfl : _ = some (Value.agg _))))
        | ((with_reducible apply Zj); rfl; exact (rfl : _ = Value.pointer (some ⟨_, _, _⟩)); (exact (rfl : _ = Value.int _ _)); (rfl); exact (rfl : _ = _ :: _))
        | ((with_reducible apply Zn); rfl; rfl)
        | with_reducible refine Za ?_
        | with_reducible refine Zf ?_
        | with_reducible refine Ze ?_
        | with_reducible refine Zw ?_
        | with_reducible refine Zb ?_
        | with_reducible refine Zaj ?_
        | ((with_reducible apply Zu); rfl))
       exact ⟨Zo (v := Iv 41) rfl rfl rfl (Zft ds) rfl⟩
      | true =>
       cases hb2 : Zbm 32 b root with
       | false =>
        rw [show Zfo kk mm old nn root ds = 41 from by rw [hEE, ha, hb2]; rfl]
        repeat (first
         | ((with_reducible apply Zj); rfl; exact (rfl : _ = Value.pointer (some ⟨4, _, _⟩)); exact (rfl : _ = Value.func _ _ _); exact (show _ = some (4, fnC 4) by kernel_rfl); exact (show _ = [dsR ds, dgB old, dgB root, eB 0, fnC 4, hole, hole] by kernel_rfl))
         | ((with_reducible apply Zg); rfl; rfl; exact (rfl : _ = Value.pointer (some ⟨4, _, _⟩)); exact (show _ = some (Value.func (.func 43) #[] #[pt 1 0, pt 4 0]) by kernel_rfl))
         | ((with_reducible apply Zq (nid := 4)); rfl; rfl; rfl; exact (show _ = [dsR ds, dgB old, dgB root, eB 0, fnN, hole, hole] by kernel_rfl))
         | ((with_reducible apply Zab (e := [some (0, 0), some (1, 0), some (4, 0)]) (nid := 0) hB); rfl; rfl; rfl; rfl; rfl; rfl; rfl; refine ⟨⟨rfl, rfl, rfl, ⟨rfl, rfl, rfl, by omega, by omega⟩, ⟨rfl, rfl⟩, ⟨rfl, rfl⟩, trivial⟩, ⟨Zbu rfl rfl (by show 0 + (dsC _).length ≤ (dsC _).length; omega) (Zce _), Zd8 rfl rfl rfl rfl, Zbu rfl rfl (by show 0 + 1 ≤ 1; omega) (by kernel_rfl), trivial⟩, rfl, rfl, rfl⟩; exact (show _ = Value.tuple #[dgV a, dgV b] by kernel_rfl); exact (rfl : _ = _ :: _))
         | ((with_reducible apply Zq (nid := 5)); rfl; rfl; rfl; exact (show _ = [dsR ds, dgB old, dgB root, eB 0, fnC 4, dgB dz, hole] by kernel_rfl))
         | ((with_reducible apply Zq (nid := 6)); rfl; rfl; rfl; exact (show _ = [dsR ds, dgB old, dgB root, eB 0, fnC 4, dgB dz, dgB dz] by kernel_rfl))
         | ((with_reducible apply Zj); rfl; exact (rfl : _ = Value.pointer (some ⟨5, _, _⟩)); exact (rfl : _ = Value.agg _); exact (show _ = some (5, dgB a) by kernel_rfl); exact (show _ = [dsR ds, dgB old, dgB root, eB 0, fnC 4, dgB a, dgB dz] by kernel_rfl))
         | ((with_reducible apply Zj); rfl; exact (rfl : _ = Value.pointer (some ⟨6, _, _⟩)); exact (rfl : _ = Value.agg _); exact (show _ = some (6, dgB b) by kernel_rfl); exact (show _ = [dsR ds, dgB old, dgB root, eB 0, fnC 4, dgB a, dgB b] by kernel_rfl))
         | ((with_reducible apply Zg); rfl; rfl; exact (rfl : _ = Value.pointer (some ⟨1, _, _⟩)); exact (show _ = some (dgV old) by kernel_rfl))
         | ((with_reducible apply Zg); rfl; rfl; exact (rfl : _ = Value.pointer (some ⟨2, _, _⟩)); exact (show _ = some (dgV root) by kernel_rfl))
         | ((with_reducible apply Zg); rfl; rfl; exact (rfl : _ = Value.pointer (some ⟨5, _, _⟩)); exact (show _ = some (dgV a) by kernel_rfl))
         | ((with_reducible apply Zg); rfl; rfl; exact (rfl : _ = Value.pointer (some ⟨6, _, _⟩)); exact (show _ = some (dgV b) by kernel_rfl))
         | ((with_reducible apply Zi); rfl; rfl; exact (rfl : _ = Value.agg _); exact (rfl : _ = Value.agg _); refine Eq.trans (Zgd (a := a) (b := old) (by kernel_rfl) rfl rfl rfl) ?_; rw [ha])
         | ((with_reducible apply Zi); rfl; rfl; exact (rfl : _ = Value.agg _); exact (rfl : _ = Value.agg _); refine Eq.trans (Zgd (a := b) (b := root) (by kernel_rfl) rfl rfl rfl) ?_; rw [hb2])
         | ((with_reducible apply Zd); rfl; rfl; (first
         | exact (rfl : _ = Value.int _ _)
         | exact (rfl : _ = Value.bool _)
         | exact (rfl : _ = Value.slice _ _ _)
         | exact (rfl : _ = Value.tuple _)))
         | ((with_reducible apply Zfq); rfl; rfl; (exact (rfl : _ = [])); (exact (rfl : _ = [_, _])); rfl)
         | ((with_reducible apply Zp); rfl; rfl; (exact (rfl : _ = some (Value.bool _))))
         | ((with_reducible apply Z5); rfl; rfl; rfl; (exact (rfl : _ = some (Value.agg _))))
         | ((with_reducible apply Zj); rfl; exact (rfl : _ = Value.pointer (some ⟨_, _, _⟩)); (exact (rfl : _ = Value.int _ _)); (rfl); exact (rfl : _ = _ :: _))
         | with_reducible refine Za ?_
         | with_reducible refine Zf ?_
         | with_reducible refine Ze ?_
         | with_reducible refine Zw ?_
         | with_reducible refine Zb ?_
         | with_reducible refine Zaj ?_
         | ((with_reducible apply Zu); rfl))
        exact ⟨Zo (v := Iv 41) rfl rfl rfl (Zft ds) rfl⟩
       | true =>
        rw [show Zfo kk mm old nn root ds = 0 from by rw [hEE, ha, hb2]; rfl]
        repeat (first
         | ((with_reducible apply Zj); rfl; exact (rfl : _ = Value.pointer (some ⟨4, _, _⟩)); exact (rfl : _ = Value.func _ _ _); exact (show _ = some (4, fnC 4) by kernel_rfl); exact (show _ = [dsR ds, dgB old, dgB root, eB 0, fnC 4, hole, hole] by kernel_rfl))
         | ((with_reducible apply Zg); rfl; rfl; exact (rfl : _ = Value.pointer (some ⟨4, _, _⟩)); exact (show _ = some (Value.func (.func 43) #[] #[pt 1 0, pt 4 0]) by kernel_rfl))
         | ((with_reducible apply Zq (nid := 4)); rfl; rfl; rfl; exact (show _ = [dsR ds, dgB old, dgB root, eB 0, fnN, hole, hole] by kernel_rfl))
         | ((with_reducible apply Zab (e := [some (0, 0), some (1, 0), some (4, 0)]) (nid := 0) hB); rfl; rfl; rfl; rfl; rfl; rfl; rfl; refine ⟨⟨rfl, rfl, rfl, ⟨rfl, rfl, rfl, by omega, by omega⟩, ⟨rfl, rfl⟩, ⟨rfl, rfl⟩, trivial⟩, ⟨Zbu rfl rfl (by show 0 + (dsC _).length ≤ (dsC _).length; omega) (Zce _), Zd8 rfl rfl rfl rfl, Zbu rfl rfl (by show 0 + 1 ≤ 1; omega) (by kernel_rfl), trivial⟩, rfl, rfl, rfl⟩; exact (show _ = Value.tuple #[dgV a, dgV b] by kernel_rfl); exact (rfl : _ = _ :: _))
         | ((with_reducible apply Zq (nid := 5)); rfl; rfl; rfl; exact (show _ = [dsR ds, dgB old, dgB root, eB 0, fnC 4, dgB dz, hole] by kernel_rfl))
         | ((with_reducible apply Zq (nid := 6)); rfl; rfl; rfl; exact (show _ = [dsR ds, dgB old, dgB root, eB 0, fnC 4, dgB dz, dgB dz] by kernel_rfl))
         | ((with_reducible apply Zj); rfl; exact (rfl : _ = Value.pointer (some ⟨5, _, _⟩)); exact (rfl : _ = Value.agg _); exact (show _ = some (5, dgB a) by kernel_rfl); exact (show _ = [dsR ds, dgB old, dgB root, eB 0, fnC 4, dgB a, dgB dz] by kernel_rfl))
         | ((with_reducible apply Zj); rfl; exact (rfl : _ = Value.pointer (some ⟨6, _, _⟩)); exact (rfl : _ = Value.agg _); exact (show _ = some (6, dgB b) by kernel_rfl); exact (show _ = [dsR ds, dgB old, dgB root, eB 0, fnC 4, dgB a, dgB b] by kernel_rfl))
         | ((with_reducible apply Zg); rfl; rfl; exact (rfl : _ = Value.pointer (some ⟨1, _, _⟩)); exact (show _ = some (dgV old) by kernel_rfl))
         | ((with_reducible apply Zg); rfl; rfl; exact (rfl : _ = Value.pointer (some ⟨2, _, _⟩)); exact (show _ = some (dgV root) by kernel_rfl))
         | ((with_reducible apply Zg); rfl; rfl; exact (rfl : _ = Value.pointer (some ⟨5, _, _⟩)); exact (show _ = some (dgV a) by kernel_rfl))
         | ((with_reducible apply Zg); rfl; rfl; exact (rfl : _ = Value.pointer (some ⟨6, _, _⟩)); exact (show _ = some (dgV b) by kernel_rfl))
         | ((with_reducible apply Zi); rfl; rfl; exact (rfl : _ = Value.agg _); exact (rfl : _ = Value.agg _); refine Eq.trans (Zgd (a := a) (b := old) (by kernel_rfl) rfl rfl rfl) ?_; rw [ha])
         | ((with_reducible apply Zi); rfl; rfl; exact (rfl : _ = Value.agg _); exact (rfl : _ = Value.agg _); refine Eq.trans (Zgd (a := b) (b := root) (by kernel_rfl) rfl rfl rfl) ?_; rw [hb2])
         | ((with_reducible apply Zd); rfl; rfl; (first
         | exact (rfl : _ = Value.int _ _)
         | exact (rfl : _ = Value.bool _)
         | exact (rfl : _ = Value.slice _ _ _)
         | exact (rfl : _ = Value.tuple _)))
         | ((with_reducible apply Zfq); rfl; rfl; (exact (rfl : _ = [])); (exact (rfl : _ = [_, _])); rfl)
         | ((with_reducible apply Zp); rfl; rfl; (exact (rfl : _ = some (Value.bool _))))
         | ((with_reducible apply Z5); rfl; rfl; rfl; (exact (rfl : _ = some (Value.agg _))))
         | ((with_reducible apply Zj); rfl; exact (rfl : _ = Value.pointer (some ⟨_, _, _⟩)); (exact (rfl : _ = Value.int _ _)); (rfl); exact (rfl : _ = _ :: _))
         | with_reducible refine Za ?_
         | with_reducible refine Zf ?_
         | with_reducible refine Ze ?_
         | with_reducible refine Z0 ?_
         | with_reducible refine Zw ?_
         | with_reducible refine Zb ?_
         | ((with_reducible apply Zr); rfl))
        exact ⟨Zo (v := Iv 0) rfl rfl rfl (Zft ds) rfl⟩
end Go.Flat
