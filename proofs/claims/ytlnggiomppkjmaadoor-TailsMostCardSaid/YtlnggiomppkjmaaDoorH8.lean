/- Walks. -/
import Derived.Test.YtlnggiomppkjmaaDoorH3
set_option linter.unusedVariables false
set_option linter.unusedSimpArgs false
set_option maxRecDepth 20000
namespace Go.Flat
open Go.Proofs
variable {G : Glob}
structure Head where
  region : Int
  epoch : Int
  size : Int
  root : D
  tick : Int
structure Signed where
  head : Head
  node : Int
  tag : D
def Zfq (h : Head) : List Value := [.int .i64 h.region, .int .i64 h.epoch, .int .i64 h.size] ++ Zah w8 32 h.root ++ [.int .i64 h.tick]
def Zho (h : Head) : Value := .agg (Zfq h).toArray
def Zd4 (s : Signed) : List Value := Zfq s.head ++ [.int .i64 s.node] ++ Zah w8 32 s.tag
def Zf7 (s : Signed) : Value := .agg (Zd4 s).toArray
def Zgf : Nat → List ByteArray → List Field
  | _, [] => []
  | k, x :: l => ⟨(k : Int) + 1, x⟩ :: Zgf (k + 1) l
def Zcs (ls : List ByteArray) : Bs := (Z2 (Zgf 0 ls) 0 []).1
theorem Zx4 {ls : List ByteArray} {i : Nat} {acc R : List Field} (hR : acc ++ Zgf i (ls.drop i) = R) (hi : i < ls.length) : (acc ++ [⟨(i : Int) + 1, ls.getD i ⟨#[]⟩⟩]) ++ Zgf (i + 1) (ls.drop (i + 1)) = R := by
 have e : ls.drop i = ls.getD i ⟨#[]⟩ :: ls.drop (i + 1) := by
  rw [List.drop_eq_getElem_cons hi, List.getD_eq_getElem?_getD, List.getElem?_eq_getElem hi]; rfl
 rw [e, Zgf] at hR
 rw [← hR, List.append_assoc]; rfl
def Zck (n low high : Int) : Bool :=
  if low ≤ n then (if n ≤ high then true else
  false) else
  false
theorem Zcu (n low high : Int) : Z6 Tryd.prog G 81 [Iv n, Iv low, Iv high] [] (.bool (Zck n low high)) [] := by
 refine Zbh (fn := Tryd.f81) (nt := 15) rfl rfl rfl rfl ?_
 refine Zf (Zg (Zb (.bool false) (Za (Zc (Zf (Zg (Zd (Iv n) (Zd (Iv low) ?_))))))))
 by_cases h1 : low ≤ n
 refine Zm (vx := Iv n) (vy := Iv low) rfl rfl (.bool true) rfl rfl (Zm0 (by omega)) ?_
 refine Zd (.bool true) (Zd (Iv n) (Zd (Iv high) ?_))
 by_cases h2 : n ≤ high
 refine Zm (vx := Iv n) (vy := Iv high) rfl rfl (.bool true) rfl rfl (Zka (by omega)) ?_
 refine Zl (.bool true) (Zb (.bool true) (Za (Zc (Zr (Zu ?_)))))
 rw [show Zck n low high = true from by unfold Zck; rw [if_pos h1, if_pos h2]]
 exact Zn (v := .bool true) rfl rfl rfl (by kernel_rfl) rfl
 refine Zm (vx := Iv n) (vy := Iv high) rfl rfl (.bool false) rfl rfl (Zlh (by omega)) ?_
 refine Zl (.bool false) (Zb (.bool false) (Za (Zc (Zr (Zu ?_)))))
 rw [show Zck n low high = false from by unfold Zck; rw [if_pos h1, if_neg h2]]
 exact Zn (v := .bool false) rfl rfl rfl (by kernel_rfl) rfl
 refine Zm (vx := Iv n) (vy := Iv low) rfl rfl (.bool false) rfl rfl (Zof (by omega)) ?_
 refine Zd (.bool false) (Ze (Ze (Ze (Zl (.bool false) (Zb (.bool false) (Za (Zc (Zr (Zu ?_)))))))))
 rw [show Zck n low high = false from by unfold Zck; rw [if_neg h1]]
 exact Zn (v := .bool false) rfl rfl rfl (by kernel_rfl) rfl
theorem Zbo {n low high : Int} (h1 : low ≤ n) (h2 : n ≤ high) : Zck n low high = true := by unfold Zck; rw [if_pos h1, if_pos h2]
theorem Zac {n low high : Int} (h : n < low ∨ high < n) : Zck n low high = false := by
 unfold Zck
 by_cases h1 : low ≤ n
 ·rw [if_pos h1, if_neg (by omega)]
 ·rw [if_neg h1]
def Za6 (h : Head) : Int :=
  if 1 ≤ h.region then (if h.region ≤ 5 then (if 1 ≤ h.epoch then (if h.epoch ≤ 900000000 then (if 0 ≤ h.size then (if h.size ≤ 100000 then (if 0 ≤ h.tick then (if h.tick ≤ 900000000 then 0 else
  70) else
  70) else
  70) else
  70) else
  70) else
  70) else
  70) else
  70
theorem Zro (h : Head) : Z6 Tryd.prog G 76 [Zho h] [] (Iv (Za6 h)) [] := by
 refine Zbh (fn := Tryd.f76) (nt := 21) rfl rfl rfl rfl ?_
 refine Zag 1 (H' := [hole]) rfl ?_
 refine Zf (Zg (Zb4 (v := Zho h) (b := bxB 36 (Zfq h)) (nid := 0) (H' := [bxB 36 (Zfq h)]) (Zb (Iv 0) (Za (Zc (Zf (Zf (Zg (Zh (b := 0) (o := 0) (n := 0) (o' := 0) (Zo (p := pt 0 0) (v := Iv h.region) ?_))))))))))
 by_cases h1 : 1 ≤ h.region
 by_cases h2 : h.region ≤ 5
 refine Zs ((Zcu (G := G) h.region 1 5).res (congrArg Value.bool (Zbo (by omega) (by omega)))) (vals := [Iv h.region, Iv 1, Iv 5]) (res' := .bool true) rfl rfl rfl rfl rfl rfl ?_
 refine Zd (.bool true) (Zh (b := 0) (o := 0) (n := 1) (o' := 1) (Zo (p := pt 0 1) (v := Iv h.epoch) ?_))
 by_cases h3 : 1 ≤ h.epoch
 by_cases h4 : h.epoch ≤ 900000000
 refine Zs ((Zcu (G := G) h.epoch 1 900000000).res (congrArg Value.bool (Zbo (by omega) (by omega)))) (vals := [Iv h.epoch, Iv 1, Iv 900000000]) (res' := .bool true) rfl rfl rfl rfl rfl rfl ?_
 refine Zl (.bool true) (Zd (.bool true) (Zh (b := 0) (o := 0) (n := 2) (o' := 2) (Zo (p := pt 0 2) (v := Iv h.size) ?_)))
 by_cases h5 : 0 ≤ h.size
 by_cases h6 : h.size ≤ 100000
 refine Zs ((Zcu (G := G) h.size 0 100000).res (congrArg Value.bool (Zbo (by omega) (by omega)))) (vals := [Iv h.size, Iv 0, Iv 100000]) (res' := .bool true) rfl rfl rfl rfl rfl rfl ?_
 refine Zl (.bool true) (Zd (.bool true) (Zh (b := 0) (o := 0) (n := 35) (o' := 35) (Zo (p := pt 0 35) (v := Iv h.tick) ?_)))
 by_cases h7 : 0 ≤ h.tick
 by_cases h8 : h.tick ≤ 900000000
 refine Zs ((Zcu (G := G) h.tick 0 900000000).res (congrArg Value.bool (Zbo (by omega) (by omega)))) (vals := [Iv h.tick, Iv 0, Iv 900000000]) (res' := .bool true) rfl rfl rfl rfl rfl rfl ?_
 refine Zl (.bool true) (Za (Zc (Zz rfl (Zf (Zg (Zb (Iv 0) (Za (Zc (Zr (Z3 (Zu ?_)))))))))))
 rw [show Za6 h = 0 from by unfold Za6; rw [if_pos h1, if_pos h2, if_pos h3, if_pos h4, if_pos h5, if_pos h6, if_pos h7, if_pos h8]]
 exact Zn (v := Iv 0) rfl rfl rfl (by kernel_rfl) rfl
 refine Zs ((Zcu (G := G) h.tick 0 900000000).res (congrArg Value.bool (Zac (by omega)))) (vals := [Iv h.tick, Iv 0, Iv 900000000]) (res' := .bool false) rfl rfl rfl rfl rfl rfl ?_
 refine Zl (.bool false) (Za (Zc (Zt rfl (Zy (Zc (Zf (Zg (Zb (Iv 70) (Za (Zc (Zr (Zu ?_))))))))))))
 rw [show Za6 h = 70 from by unfold Za6; rw [if_pos h1, if_pos h2, if_pos h3, if_pos h4, if_pos h5, if_pos h6, if_pos h7, if_neg h8]]
 exact Zn (v := Iv 70) rfl rfl rfl (by kernel_rfl) rfl
 refine Zs ((Zcu (G := G) h.tick 0 900000000).res (congrArg Value.bool (Zac (by omega)))) (vals := [Iv h.tick, Iv 0, Iv 900000000]) (res' := .bool false) rfl rfl rfl rfl rfl rfl ?_
 refine Zl (.bool false) (Za (Zc (Zt rfl (Zy (Zc (Zf (Zg (Zb (Iv 70) (Za (Zc (Zr (Zu ?_))))))))))))
 rw [show Za6 h = 70 from by unfold Za6; rw [if_pos h1, if_pos h2, if_pos h3, if_pos h4, if_pos h5, if_pos h6, if_neg h7]]
 exact Zn (v := Iv 70) rfl rfl rfl (by kernel_rfl) rfl
 refine Zs ((Zcu (G := G) h.size 0 100000).res (congrArg Value.bool (Zac (by omega)))) (vals := [Iv h.size, Iv 0, Iv 100000]) (res' := .bool false) rfl rfl rfl rfl rfl rfl ?_
 refine Zl (.bool false) (Zd (.bool false) (Ze (Ze (Ze (Zl (.bool false) (Za (Zc (Zt rfl (Zy (Zc (Zf (Zg (Zb (Iv 70) (Za (Zc (Zr (Zu ?_)))))))))))))))))
 rw [show Za6 h = 70 from by unfold Za6; rw [if_pos h1, if_pos h2, if_pos h3, if_pos h4, if_pos h5, if_neg h6]]
 exact Zn (v := Iv 70) rfl rfl rfl (by kernel_rfl) rfl
 refine Zs ((Zcu (G := G) h.size 0 100000).res (congrArg Value.bool (Zac (by omega)))) (vals := [Iv h.size, Iv 0, Iv 100000]) (res' := .bool false) rfl rfl rfl rfl rfl rfl ?_
 refine Zl (.bool false) (Zd (.bool false) (Ze (Ze (Ze (Zl (.bool false) (Za (Zc (Zt rfl (Zy (Zc (Zf (Zg (Zb (Iv 70) (Za (Zc (Zr (Zu ?_)))))))))))))))))
 rw [show Za6 h = 70 from by unfold Za6; rw [if_pos h1, if_pos h2, if_pos h3, if_pos h4, if_neg h5]]
 exact Zn (v := Iv 70) rfl rfl rfl (by kernel_rfl) rfl
 refine Zs ((Zcu (G := G) h.epoch 1 900000000).res (congrArg Value.bool (Zac (by omega)))) (vals := [Iv h.epoch, Iv 1, Iv 900000000]) (res' := .bool false) rfl rfl rfl rfl rfl rfl ?_
 refine Zl (.bool false) (Zd (.bool false) (Ze (Ze (Ze (Zl (.bool false) (Zd (.bool false) (Ze (Ze (Ze (Zl (.bool false) (Za (Zc (Zt rfl (Zy (Zc (Zf (Zg (Zb (Iv 70) (Za (Zc (Zr (Zu ?_))))))))))))))))))))))
 rw [show Za6 h = 70 from by unfold Za6; rw [if_pos h1, if_pos h2, if_pos h3, if_neg h4]]
 exact Zn (v := Iv 70) rfl rfl rfl (by kernel_rfl) rfl
 refine Zs ((Zcu (G := G) h.epoch 1 900000000).res (congrArg Value.bool (Zac (by omega)))) (vals := [Iv h.epoch, Iv 1, Iv 900000000]) (res' := .bool false) rfl rfl rfl rfl rfl rfl ?_
 refine Zl (.bool false) (Zd (.bool false) (Ze (Ze (Ze (Zl (.bool false) (Zd (.bool false) (Ze (Ze (Ze (Zl (.bool false) (Za (Zc (Zt rfl (Zy (Zc (Zf (Zg (Zb (Iv 70) (Za (Zc (Zr (Zu ?_))))))))))))))))))))))
 rw [show Za6 h = 70 from by unfold Za6; rw [if_pos h1, if_pos h2, if_neg h3]]
 exact Zn (v := Iv 70) rfl rfl rfl (by kernel_rfl) rfl
 refine Zs ((Zcu (G := G) h.region 1 5).res (congrArg Value.bool (Zac (by omega)))) (vals := [Iv h.region, Iv 1, Iv 5]) (res' := .bool false) rfl rfl rfl rfl rfl rfl ?_
 refine Zd (.bool false) (Ze (Ze (Ze (Zl (.bool false) (Zd (.bool false) (Ze (Ze (Ze (Zl (.bool false) (Zd (.bool false) (Ze (Ze (Ze (Zl (.bool false) (Za (Zc (Zt rfl (Zy (Zc (Zf (Zg (Zb (Iv 70) (Za (Zc (Zr (Zu ?_))))))))))))))))))))))))))
 rw [show Za6 h = 70 from by unfold Za6; rw [if_pos h1, if_neg h2]]
 exact Zn (v := Iv 70) rfl rfl rfl (by kernel_rfl) rfl
 refine Zs ((Zcu (G := G) h.region 1 5).res (congrArg Value.bool (Zac (by omega)))) (vals := [Iv h.region, Iv 1, Iv 5]) (res' := .bool false) rfl rfl rfl rfl rfl rfl ?_
 refine Zd (.bool false) (Ze (Ze (Ze (Zl (.bool false) (Zd (.bool false) (Ze (Ze (Ze (Zl (.bool false) (Zd (.bool false) (Ze (Ze (Ze (Zl (.bool false) (Za (Zc (Zt rfl (Zy (Zc (Zf (Zg (Zb (Iv 70) (Za (Zc (Zr (Zu ?_))))))))))))))))))))))))))
 rw [show Za6 h = 70 from by unfold Za6; rw [if_neg h1]]
 exact Zn (v := Iv 70) rfl rfl rfl (by kernel_rfl) rfl
def Zkr (h : Head) : Prop := (1 ≤ h.region ∧ h.region ≤ 5) ∧ (1 ≤ h.epoch ∧ h.epoch ≤ 900000000) ∧ (0 ≤ h.size ∧ h.size ≤ 100000) ∧ (0 ≤ h.tick ∧ h.tick ≤ 900000000)
instance (h : Head) : Decidable (Zkr h) := inferInstanceAs (Decidable (_ ∧ _))
theorem Zh4 (h : Head) : Za6 h = if Zkr h then 0 else 70 := by
 unfold Za6 Zkr
 repeat (first | split | omega)
theorem Zw1 {h : Head} (hc : Za6 h = 0) : (1 ≤ h.region ∧ h.region ≤ 5) ∧ (1 ≤ h.epoch ∧ h.epoch ≤ 900000000) ∧ (0 ≤ h.size ∧ h.size ≤ 100000) ∧ (0 ≤ h.tick ∧ h.tick ≤ 900000000) := by
 rw [Zh4] at hc
 split at hc
 ·assumption
 ·omega
def Zh7 (h : Head) : List ByteArray := [(Zq h.region).1, (Zq h.epoch).1, (Zq h.size).1, Zp (dgL h.root), (Zq h.tick).1]
def Zby (h : Head) : Bs × Int := if Za6 h = 0 then (Zcs (Zh7 h), 0) else ([], Za6 h)
theorem Zoy (ls : List ByteArray) (n : Nat) (x : ByteArray) (hn : ls.length = n) (hb : n ≤ 1000) : Z6 Tryd.prog G 91 [pt 0 0, .string x] [rfB (slv 1 0 n n), txB ls] (.tuple #[]) [rfB (slv 1 0 (n + 1) (n + 1)), txB (ls ++ [x])] := by
  refine Zbh (fn := Tryd.f91) (nt := 12) rfl rfl rfl rfl ?_
  refine Zag 1 (H' := [rfB (slv 1 0 n n), txB ls, hole]) rfl ?_
  refine Zg (Zd (pt 0 0) (Zd (pt 0 0) (Zeo (p := pt 0 0) (v := pt 0 0) ?_)))
  refine Zae (p := pt 0 0) (v := slv 1 0 n n) rfl rfl rfl rfl ?_
  refine Zd (.string x) ?_
  refine Zen (vs := [(0, .string x)]) (v := slv 2 0 1 1) (blk := txB [x]) (nid := 2) (H' := [rfB (slv 1 0 n n), txB ls, txB [x]]) rfl rfl rfl (by kernel_rfl) (by kernel_rfl) ?_
  have hl2 : (ls ++ [x]).length = n + 1 := by have := hn; have := (rfl : _ = 1); first | (rw [List.length_append]; omega) | (simp; omega) | simp
  refine Zc7 (p := slv 1 0 n n) (q := slv 2 0 1 1) (v := slv 1 0 (n + 1) (n + 1)) (b := 1) (blk := txB (ls ++ [x])) (H' := [rfB (dead), txB (ls ++ [x]), txB [x]]) rfl rfl rfl (.inl ⟨_, rfl⟩) rfl rfl (Zvr (by_ := 16) (k := 1) (n' := n + 1) (ms := [x]) rfl rfl (by kernel_rfl) rfl (by have := hn; omega) (by omega) (by decide) (by omega)) rfl (by kernel_rfl) ?_
  refine Zeo (p := pt 0 0) (v := pt 0 0) (Zab (p := pt 0 0) (v := slv 1 0 (n + 1) (n + 1)) (b := 0) (blk := rfB (slv 1 0 (n + 1) (n + 1))) (H' := [rfB (slv 1 0 (n + 1) (n + 1)), txB (ls ++ [x]), txB [x]]) (Za (Zkv ?_)))
  exact Zn (v := .tuple #[]) rfl rfl rfl (by simp [Zbf, rfB, txB, Zic, Zef]) trivial
theorem Zjo (ls : List ByteArray) (n : Nat) (x : Int) (hn : ls.length = n) (hb : n ≤ 1000) (hl : -9223372036854775808 ≤ x) (hh : x ≤ 9223372036854775807) : Z6 Tryd.prog G 92 [pt 0 0, Iv x] [rfB (slv 1 0 n n), txB ls] (.tuple #[]) [rfB (slv 1 0 (n + 1) (n + 1)), txB (ls ++ [(Zq x).1])] := by
  refine Zbh (fn := Tryd.f92) (nt := 19) rfl rfl rfl rfl ?_
  refine Zag 1 (H' := [rfB (slv 1 0 n n), txB ls, hole]) rfl ?_
  refine Zf (Zg (Zd (Iv x) ?_))
  refine Zs (Zpo (G := G) x (by omega) (by omega)) (vals := [Iv x]) (res' := .tuple #[.string ((Zq x).1), Iv ((Zq x).2)]) rfl rfl rfl rfl rfl (by kernel_rfl) ?_
  refine Zd (.tuple #[.string ((Zq x).1), Iv ((Zq x).2)]) (Z1 (vs := #[.string ((Zq x).1), Iv ((Zq x).2)]) (v := .string ((Zq x).1)) (Z1 (vs := #[.string ((Zq x).1), Iv ((Zq x).2)]) (v := Iv ((Zq x).2)) (Zb (.string ((Zq x).1)) (Zb (Iv ((Zq x).2)) (Za (Zc (Zg (Zd (pt 0 0) (Zd (pt 0 0) (Zeo (p := pt 0 0) (v := pt 0 0) ?_))))))))))
  refine Zae (p := pt 0 0) (v := slv 1 0 n n) rfl rfl rfl rfl ?_
  refine Zd (.string ((Zq x).1)) ?_
  refine Zen (vs := [(0, .string ((Zq x).1))]) (v := slv 2 0 1 1) (blk := txB [(Zq x).1]) (nid := 2) (H' := [rfB (slv 1 0 n n), txB ls, txB [(Zq x).1]]) rfl rfl rfl (by kernel_rfl) (by kernel_rfl) ?_
  have hl2 : (ls ++ [(Zq x).1]).length = n + 1 := by have := hn; have := (rfl : _ = 1); first | (rw [List.length_append]; omega) | (simp; omega) | simp
  refine Zc7 (p := slv 1 0 n n) (q := slv 2 0 1 1) (v := slv 1 0 (n + 1) (n + 1)) (b := 1) (blk := txB (ls ++ [(Zq x).1])) (H' := [rfB (dead), txB (ls ++ [(Zq x).1]), txB [(Zq x).1]]) rfl rfl rfl (.inl ⟨_, rfl⟩) rfl rfl (Zvr (by_ := 16) (k := 1) (n' := n + 1) (ms := [(Zq x).1]) rfl rfl (by kernel_rfl) rfl (by have := hn; omega) (by omega) (by decide) (by omega)) rfl (by kernel_rfl) ?_
  refine Zeo (p := pt 0 0) (v := pt 0 0) (Zab (p := pt 0 0) (v := slv 1 0 (n + 1) (n + 1)) (b := 0) (blk := rfB (slv 1 0 (n + 1) (n + 1))) (H' := [rfB (slv 1 0 (n + 1) (n + 1)), txB (ls ++ [(Zq x).1]), txB [(Zq x).1]]) (Za (Zkv ?_)))
  exact Zn (v := .tuple #[]) rfl rfl rfl (by simp [Zbf, rfB, txB, Zic, Zef]) trivial
theorem Zrz (ls : List ByteArray) (n : Nat) (hn : ls.length = n) (hb : n ≤ 1000) : Z6 Tryd.prog G 93 [pt 0 0] [rfB (slv 1 0 n n), txB ls] (slv 2 0 (Zcs ls).length (Zcs ls).length) [rfB (slv 1 0 n n), txB ls, Zap (Zcs ls)] := by
  refine Zbh (fn := Tryd.f93) (nt := 31) rfl rfl rfl rfl ?_
  refine Zag 1 (H' := [rfB (slv 1 0 n n), txB ls, hole]) rfl ?_
  refine Zf (Zg (Zb (.slice none 0 0) (Za (Zc (Zf (Zg (Zb (.slice none 0 0) (Za (Zc (Zf (Zf ?_)))))))))))
  refine Zb8 (Zba.nilTmp (i := 3) (b := 2) true 2 rfl (by decide) rfl) ?_
  refine Zg (Zd (pt 0 0) (Zeo (p := pt 0 0) (v := pt 0 0) ?_))
  refine Zae (p := pt 0 0) (v := slv 1 0 n n) rfl rfl rfl rfl ?_
  refine Zav (p := slv 1 0 n n) (v := Iv (n : Nat)) (Zd (Iv 0) (Za (Zc (Z8 ?_))))
  refine Zbs (fun x : Nat × (List Field) => match x with | (i, acc) => [pt 0 0, dead, .slice none 0 0, slv 2 0 i i, dead, dead, dead, dead, pt 0 0, pt 0 0, slv 1 0 n n, Iv (n : Nat), Iv (i : Nat)]) (fun x : Nat × (List Field) => match x with | (i, acc) => [rfB (slv 1 0 n n), txB ls, rwB cFd acc]) (fun x : Nat × (List Field) => match x with | (i, acc) => acc ++ Zgf i (ls.drop i) = Zgf 0 ls ∧ i ≤ n ∧ acc.length = i) (fun x : Nat × (List Field) => match x with | (i, acc) => n - i) (0, []) ⟨rfl, by omega, rfl⟩ ?_ ?_
  · refine Zaj (n := 3) rfl ?_ (by kernel_rfl) (by kernel_rfl)
    repeat (first | exact trivial | refine ⟨.inl rfl, ?_⟩ | refine ⟨.inr ⟨rfl, rfl⟩, ?_⟩ | refine ⟨.inr ⟨congrArg (Value.int .i64) (by first | omega | (dsimp only; omega)), rfl⟩, ?_⟩)
  rintro ⟨i, acc⟩ ⟨hR, hi, ha⟩
  dsimp only at *
  refine Zag 2 (H' := [rfB (slv 1 0 n n), txB ls, rwB cFd acc, hole, hole]) rfl ?_
  refine Zf (Zg ?_)
  by_cases h1 : (i : Nat) < (n : Nat)
  refine Zm (vx := Iv (i : Nat)) (vy := Iv (n : Nat)) rfl rfl (.bool true) rfl rfl (Zcz (by omega)) ?_
  refine Za (Zc (Zf (Zz rfl (Zy (Zc (Zf (Z8 (Zf (Zg (Zd (Iv (i : Nat)) ?_))))))))))
  refine Zbb (b := 1) (o := 0) (j := i) (m := n) (c := n) (sz := 1) (i := (i : Nat)) (k := .i64) rfl rfl rfl rfl rfl (by omega) (by omega) (by omega) ?_
  refine Zae (p := pt 1 i) (v := .string (ls.getD i ⟨#[]⟩)) rfl rfl rfl (Z2r rfl rfl rfl (by have := hn; omega)) ?_
  refine Zb (Iv (i : Nat)) (Zb (.string (ls.getD i ⟨#[]⟩)) (Za (Zc (Zg (Zd (slv 2 0 i i) (Zd (Iv (i : Nat)) ?_))))))
  refine Zm (vx := Iv (i : Nat)) (vy := Iv 1) rfl rfl (Iv ((i : Nat) + 1)) rfl rfl (Zal (by omega) (by omega) (by omega)) ?_
  refine Zd (.string (ls.getD i ⟨#[]⟩)) ?_
  refine Zc5 (vs := [(0, Iv ((i : Nat) + 1)), (1, .string (ls.getD i ⟨#[]⟩))]) (v := fdV (⟨(i : Nat) + 1, (ls.getD i ⟨#[]⟩)⟩ : Field)) rfl rfl rfl (by kernel_rfl) ?_
  refine Zen (vs := [(0, fdV (⟨(i : Nat) + 1, (ls.getD i ⟨#[]⟩)⟩ : Field))]) (v := slv 3 0 1 1) (blk := rwB cFd [(⟨(i : Nat) + 1, (ls.getD i ⟨#[]⟩)⟩ : Field)]) (nid := 3) (H' := [rfB (slv 1 0 n n), txB ls, rwB cFd acc, rwB cFd [(⟨(i : Nat) + 1, (ls.getD i ⟨#[]⟩)⟩ : Field)], hole]) rfl rfl rfl (by kernel_rfl) (by kernel_rfl) ?_
  have hl2 : (acc ++ [(⟨(i : Nat) + 1, (ls.getD i ⟨#[]⟩)⟩ : Field)]).length = i + 1 := by have := ha; have := (rfl : _ = 1); first | (rw [List.length_append]; omega) | (simp; omega) | simp
  refine Zc7 (p := slv 2 0 i i) (q := slv 3 0 1 1) (v := slv 2 0 (i + 1) (i + 1)) (b := 2) (blk := rwB cFd (acc ++ [(⟨(i : Nat) + 1, (ls.getD i ⟨#[]⟩)⟩ : Field)])) (H' := [rfB (slv 1 0 n n), txB ls, rwB cFd (acc ++ [(⟨(i : Nat) + 1, (ls.getD i ⟨#[]⟩)⟩ : Field)]), rwB cFd [(⟨(i : Nat) + 1, (ls.getD i ⟨#[]⟩)⟩ : Field)], hole]) rfl rfl rfl (.inl ⟨_, rfl⟩) rfl rfl (Zii cFd (by_ := 24) (k := 1) (n' := i + 1) (ms := [(⟨(i : Nat) + 1, (ls.getD i ⟨#[]⟩)⟩ : Field)]) (fun _ => rfl) rfl rfl (by kernel_rfl) rfl rfl (by have := ha; omega) (by omega) (by decide) (by omega)) rfl (by kernel_rfl) ?_
  refine Zb (slv 2 0 (i + 1) (i + 1)) (Za (Z7 (Zc (Zg ?_))))
  refine Zm (vx := Iv (i : Nat)) (vy := Iv 1) rfl rfl (Iv ((i : Nat) + 1)) rfl rfl (Zal (by omega) (by omega) (by omega)) ?_
  refine Zd (Iv ((i : Nat) + 1)) (Za ?_)
  refine Zak ⟨((i + 1), (acc ++ [(⟨(i : Nat) + 1, (ls.getD i ⟨#[]⟩)⟩ : Field)])), ⟨Zx4 hR (by omega), by omega, by rw [List.length_append, ha]; rfl⟩, by show n - (i + 1) < n - i; omega, ?_⟩
  refine Zaj (n := 3) rfl ?_ (by kernel_rfl) (by kernel_rfl)
  repeat (first | exact trivial | refine ⟨.inl rfl, ?_⟩ | refine ⟨.inr ⟨rfl, rfl⟩, ?_⟩ | refine ⟨.inr ⟨congrArg (Value.int .i64) (by first | omega | (dsimp only; omega)), rfl⟩, ?_⟩)
  refine Zm (vx := Iv (i : Nat)) (vy := Iv (n : Nat)) rfl rfl (.bool false) rfl rfl (Zcv (by omega)) ?_
  refine Za (Zc (Zf (Zt rfl (Zbm (Zaw (Zay (Za0 rfl (Zc (Zf (Zg (Zd (slv 2 0 i i) ?_)))))))))))
  refine Z5 (e := [some (2, 0)]) (nid := 3) (Zyh (G := G) acc i i ha (by omega) (by omega)) (vals := [slv 2 0 i i]) (v := .tuple #[slv 3 0 ((Z2 acc 0 []).1.length) ((Z2 acc 0 []).1.length), Iv ((Z2 acc 0 []).2)]) (H' := [rfB (slv 1 0 n n), txB ls, rwB cFd acc, Zap ((Z2 acc 0 []).1), hole]) rfl rfl rfl rfl rfl rfl rfl ⟨⟨⟨rfl, rfl, rfl, by first | omega | exact Nat.le_refl _, by first | omega | exact Nat.le_refl _⟩, trivial⟩, ⟨(Zbt rfl), trivial⟩, rfl, rfl, rfl⟩ (by kernel_rfl) (by kernel_rfl) ?_
  refine Zd (.tuple #[slv 3 0 ((Z2 acc 0 []).1.length) ((Z2 acc 0 []).1.length), Iv ((Z2 acc 0 []).2)]) (Z1 (vs := #[slv 3 0 ((Z2 acc 0 []).1.length) ((Z2 acc 0 []).1.length), Iv ((Z2 acc 0 []).2)]) (v := slv 3 0 ((Z2 acc 0 []).1.length) ((Z2 acc 0 []).1.length)) (Z1 (vs := #[slv 3 0 ((Z2 acc 0 []).1.length) ((Z2 acc 0 []).1.length), Iv ((Z2 acc 0 []).2)]) (v := Iv ((Z2 acc 0 []).2)) (Zb (slv 3 0 ((Z2 acc 0 []).1.length) ((Z2 acc 0 []).1.length)) (Zb (Iv ((Z2 acc 0 []).2)) (Za (Zc (Zf (Zg (Zd (slv 3 0 ((Z2 acc 0 []).1.length) ((Z2 acc 0 []).1.length)) (Zb (slv 3 0 ((Z2 acc 0 []).1.length) ((Z2 acc 0 []).1.length)) (Za (Zc (Zr (Zu ?_))))))))))))))
  have hR' : acc = Zgf 0 ls := by rw [← hR, List.drop_of_length_le (by omega)]; simp [Zgf]
  rw [show Zcs ls = (Z2 acc 0 []).1 from by rw [hR']; rfl]
  exact Zbd [0, 1, 3] (v := slv 3 0 ((Z2 acc 0 []).1.length) ((Z2 acc 0 []).1.length)) rfl (by kernel_rfl) rfl rfl (by decide) (by simp [Zbf, rfB, txB, Zap, Zic, Zef]) ⟨rfl, rfl, rfl, by first | omega | exact Nat.le_refl _ | exact Nat.zero_le _ | (dsimp only; omega), by first | omega | exact Nat.le_refl _ | exact Nat.zero_le _ | (dsimp only; omega)⟩
theorem Z33 (h : Head) : Z6 Tryd.prog G 90 [Zho h] [] (.tuple #[slv 0 0 (Zby h).1.length (Zby h).1.length, Iv (Zby h).2]) [Zap (Zby h).1] := by
  refine Zbh (fn := Tryd.f90) (nt := 34) rfl rfl rfl rfl ?_
  refine Zag 4 (H' := [hole, hole, hole, hole]) rfl ?_
  refine Zf (Zg (Zb4 (v := Zho h) (b := bxB 36 (Zfq h)) (nid := 0) (H' := [bxB 36 (Zfq h), hole, hole, hole]) (Zb (.slice none 0 0) (Zb (Iv 0) (Za (Zc (Zf (Zf (Zg (Zo (p := pt 0 0) (v := Zho h) ?_))))))))))
  refine Zs (Zro (G := G) h) (vals := [Zho h]) (res' := Iv (Za6 h)) rfl rfl rfl rfl rfl rfl ?_
  refine Zb (Iv (Za6 h)) (Za (Zc (Zf (Zg (Zd (Iv (Za6 h)) ?_)))))
  by_cases h1 : (Za6 h) ≠ 0
  refine Zm (vx := Iv (Za6 h)) (vy := Iv 0) rfl rfl (.bool true) rfl rfl (Zgd (by omega)) ?_
  refine Za (Zc (Zz rfl (Zf (Zg (Zd (Iv (Za6 h)) (Zb (.slice none 0 0) (Zb (Iv (Za6 h)) (Za (Zc ?_)))))))))
  refine Zb8 (Zba.nilTmp (i := 2) (b := 1) true 1 rfl (by decide) rfl) ?_
  refine Zr (Z3 (Zu ?_))
  rw [show Zby h = ([], (Za6 h)) from if_neg (by omega)]
  exact Zbd [1] (v := .tuple #[slv 1 0 0 0, Iv (Za6 h)]) rfl (by kernel_rfl) rfl rfl (by decide) (by simp [Zbf, Zap]) ⟨⟨rfl, rfl, rfl, by first | omega | exact Nat.le_refl _ | exact Nat.zero_le _ | (dsimp only; omega), by first | omega | exact Nat.le_refl _ | exact Nat.zero_le _ | (dsimp only; omega)⟩, rfl, trivial⟩
  refine Zm (vx := Iv (Za6 h)) (vy := Iv 0) rfl rfl (.bool false) rfl rfl (Zft (by omega)) ?_
  refine Za (Zc (Zt rfl (Zy (Zc (Zf (Zg (Za9 (b := rfB (.slice none 0 0)) (nid := 1) (H' := [bxB 36 (Zfq h), rfB (.slice none 0 0), hole, hole]) (Za (Zc (Zf ?_))))))))))
  have hc := Zw1 (h := h) (by omega)
  refine Zb8 (Zba.nilCell (k := 1) (j := 0) (b := 2) true 1 rfl (by decide) rfl (by show 0 < 1; decide) rfl rfl) ?_
  refine Zg ?_
  refine Zgz (vs := [pt 1 0]) (ws := []) rfl rfl rfl rfl rfl ?_
  refine Zb (.func (.func 92) #[pt 1 0] #[]) (Za (Zc (Zf (Zg (Zd (.func (.func 92) #[pt 1 0] #[]) (Zh (b := 0) (o := 0) (n := 0) (o' := 0) (Zo (p := pt 0 0) (v := Iv h.region) ?_)))))))
  refine Zcl (e := [some (1, 0), some (2, 0)]) (nid := 0) (Zjo (G := G) [] 0 h.region rfl (by omega) (by omega) (by omega)) (vals := [pt 1 0, Iv h.region]) (v := .tuple #[]) (H' := [bxB 36 (Zfq h), rfB (slv 2 0 1 1), txB ([] ++ [(Zq h.region).1]), hole]) rfl rfl rfl rfl rfl rfl ⟨⟨⟨rfl, rfl⟩, rfl, trivial⟩, ⟨(Zad rfl rfl rfl rfl), (Zad rfl rfl rfl rfl), trivial⟩, rfl, rfl, rfl, Nat.le_refl _⟩ (by kernel_rfl) rfl (by kernel_rfl) ?_
  refine Za (Zc (Zf (Zg (Zd (.func (.func 92) #[pt 1 0] #[]) (Zh (b := 0) (o := 0) (n := 1) (o' := 1) (Zo (p := pt 0 1) (v := Iv h.epoch) ?_))))))
  refine Zcl (e := [some (1, 0), some (2, 0)]) (nid := 0) (Zjo (G := G) ([] ++ [(Zq h.region).1]) 1 h.epoch rfl (by omega) (by omega) (by omega)) (vals := [pt 1 0, Iv h.epoch]) (v := .tuple #[]) (H' := [bxB 36 (Zfq h), rfB (slv 2 0 2 2), txB (([] ++ [(Zq h.region).1]) ++ [(Zq h.epoch).1]), hole]) rfl rfl rfl rfl rfl rfl ⟨⟨⟨rfl, rfl⟩, rfl, trivial⟩, ⟨(Zad rfl rfl rfl rfl), (Zad rfl rfl rfl rfl), trivial⟩, rfl, rfl, rfl, Nat.le_refl _⟩ (by kernel_rfl) rfl (by kernel_rfl) ?_
  refine Za (Zc (Zf (Zg (Zd (.func (.func 92) #[pt 1 0] #[]) (Zh (b := 0) (o := 0) (n := 2) (o' := 2) (Zo (p := pt 0 2) (v := Iv h.size) ?_))))))
  refine Zcl (e := [some (1, 0), some (2, 0)]) (nid := 0) (Zjo (G := G) (([] ++ [(Zq h.region).1]) ++ [(Zq h.epoch).1]) 2 h.size rfl (by omega) (by omega) (by omega)) (vals := [pt 1 0, Iv h.size]) (v := .tuple #[]) (H' := [bxB 36 (Zfq h), rfB (slv 2 0 3 3), txB ((([] ++ [(Zq h.region).1]) ++ [(Zq h.epoch).1]) ++ [(Zq h.size).1]), hole]) rfl rfl rfl rfl rfl rfl ⟨⟨⟨rfl, rfl⟩, rfl, trivial⟩, ⟨(Zad rfl rfl rfl rfl), (Zad rfl rfl rfl rfl), trivial⟩, rfl, rfl, rfl, Nat.le_refl _⟩ (by kernel_rfl) rfl (by kernel_rfl) ?_
  refine Za (Zc (Zf (Zg (Zh (b := 0) (o := 0) (n := 3) (o' := 3) ?_))))
  refine Zc0 (p := pt 0 3) (vl := none) (vh := none) (v := slv 0 3 32 32) rfl rfl rfl rfl rfl rfl ?_
  refine Zjm (p := slv 0 3 32 32) (v := .string (Zp (dgL h.root))) rfl rfl rfl (Zhf (l := (dgL h.root)) rfl rfl rfl rfl (of_decide_eq_true (by kernel_rfl)) (by kernel_rfl)) ?_
  refine Zcl (e := [some (1, 0), some (2, 0)]) (nid := 0) (Zoy (G := G) ((([] ++ [(Zq h.region).1]) ++ [(Zq h.epoch).1]) ++ [(Zq h.size).1]) 3 (Zp (dgL h.root)) rfl (by omega)) (vals := [pt 1 0, .string (Zp (dgL h.root))]) (v := .tuple #[]) (H' := [bxB 36 (Zfq h), rfB (slv 2 0 4 4), txB (((([] ++ [(Zq h.region).1]) ++ [(Zq h.epoch).1]) ++ [(Zq h.size).1]) ++ [(Zp (dgL h.root))]), hole]) rfl rfl rfl rfl rfl rfl ⟨⟨⟨rfl, rfl⟩, rfl, trivial⟩, ⟨(Zad rfl rfl rfl rfl), (Zad rfl rfl rfl rfl), trivial⟩, rfl, rfl, rfl, Nat.le_refl _⟩ (by kernel_rfl) rfl (by kernel_rfl) ?_
  refine Za (Zc (Zf (Zg (Zd (.func (.func 92) #[pt 1 0] #[]) (Zh (b := 0) (o := 0) (n := 35) (o' := 35) (Zo (p := pt 0 35) (v := Iv h.tick) ?_))))))
  refine Zcl (e := [some (1, 0), some (2, 0)]) (nid := 0) (Zjo (G := G) (((([] ++ [(Zq h.region).1]) ++ [(Zq h.epoch).1]) ++ [(Zq h.size).1]) ++ [(Zp (dgL h.root))]) 4 h.tick rfl (by omega) (by omega) (by omega)) (vals := [pt 1 0, Iv h.tick]) (v := .tuple #[]) (H' := [bxB 36 (Zfq h), rfB (slv 2 0 5 5), txB ((((([] ++ [(Zq h.region).1]) ++ [(Zq h.epoch).1]) ++ [(Zq h.size).1]) ++ [(Zp (dgL h.root))]) ++ [(Zq h.tick).1]), hole]) rfl rfl rfl rfl rfl rfl ⟨⟨⟨rfl, rfl⟩, rfl, trivial⟩, ⟨(Zad rfl rfl rfl rfl), (Zad rfl rfl rfl rfl), trivial⟩, rfl, rfl, rfl, Nat.le_refl _⟩ (by kernel_rfl) rfl (by kernel_rfl) ?_
  refine Za (Zc (Zf (Zg ?_)))
  refine Zcl (e := [some (1, 0), some (2, 0)]) (nid := 3) (Zrz (G := G) ((((([] ++ [(Zq h.region).1]) ++ [(Zq h.epoch).1]) ++ [(Zq h.size).1]) ++ [(Zp (dgL h.root))]) ++ [(Zq h.tick).1]) 5 rfl (by omega)) (vals := [pt 1 0]) (v := slv 3 0 ((Zcs ((((([] ++ [(Zq h.region).1]) ++ [(Zq h.epoch).1]) ++ [(Zq h.size).1]) ++ [(Zp (dgL h.root))]) ++ [(Zq h.tick).1])).length) ((Zcs ((((([] ++ [(Zq h.region).1]) ++ [(Zq h.epoch).1]) ++ [(Zq h.size).1]) ++ [(Zp (dgL h.root))]) ++ [(Zq h.tick).1])).length)) (H' := [bxB 36 (Zfq h), rfB (slv 2 0 5 5), txB ((((([] ++ [(Zq h.region).1]) ++ [(Zq h.epoch).1]) ++ [(Zq h.size).1]) ++ [(Zp (dgL h.root))]) ++ [(Zq h.tick).1]), Zap (Zcs ((((([] ++ [(Zq h.region).1]) ++ [(Zq h.epoch).1]) ++ [(Zq h.size).1]) ++ [(Zp (dgL h.root))]) ++ [(Zq h.tick).1]))]) rfl rfl rfl rfl rfl rfl ⟨⟨⟨rfl, rfl⟩, trivial⟩, ⟨(Zad rfl rfl rfl rfl), (Zad rfl rfl rfl rfl), trivial⟩, rfl, rfl, rfl, Nat.le_refl _⟩ rfl rfl (by kernel_rfl) ?_
  refine Zb (slv 3 0 ((Zcs ((((([] ++ [(Zq h.region).1]) ++ [(Zq h.epoch).1]) ++ [(Zq h.size).1]) ++ [(Zp (dgL h.root))]) ++ [(Zq h.tick).1])).length) ((Zcs ((((([] ++ [(Zq h.region).1]) ++ [(Zq h.epoch).1]) ++ [(Zq h.size).1]) ++ [(Zp (dgL h.root))]) ++ [(Zq h.tick).1])).length)) ?_
  refine Zb (Iv 0) (Za (Zc (Zr (Zu ?_))))
  rw [show Zby h = ((Zcs ((((([] ++ [(Zq h.region).1]) ++ [(Zq h.epoch).1]) ++ [(Zq h.size).1]) ++ [(Zp (dgL h.root))]) ++ [(Zq h.tick).1])), 0) from if_pos (by omega)]
  exact Zbd [3] (v := .tuple #[slv 3 0 ((Zcs ((((([] ++ [(Zq h.region).1]) ++ [(Zq h.epoch).1]) ++ [(Zq h.size).1]) ++ [(Zp (dgL h.root))]) ++ [(Zq h.tick).1])).length) ((Zcs ((((([] ++ [(Zq h.region).1]) ++ [(Zq h.epoch).1]) ++ [(Zq h.size).1]) ++ [(Zp (dgL h.root))]) ++ [(Zq h.tick).1])).length), Iv 0]) rfl (by kernel_rfl) rfl rfl (by decide) (by simp [Zbf, Zap]) ⟨⟨rfl, rfl, rfl, by first | omega | exact Nat.le_refl _ | exact Nat.zero_le _ | (dsimp only; omega), by first | omega | exact Nat.le_refl _ | exact Nat.zero_le _ | (dsimp only; omega)⟩, rfl, trivial⟩
end Go.Flat
namespace Go.Flat
open Go.Proofs
variable {G : Glob}
def Z6y (key : D) : D := fun i => if i < 32 then key i else 0
def Z6a (c : D) (x : BitVec 8) (j : Nat) : D := fun i => if i < j then c i ^^^ x else c i
def Zyw (key : D) (x : BitVec 8) : ByteArray := Zp (Zmt 64 (Z6a (Z6y key) x 64))
def Zz2 (kk : Nat → BitVec 32) (key : D) (s : ByteArray) : D := Zcq kk (Zd0 [Zyw key 92#8, Zp (dgL (Zcq kk (Zd0 [Zyw key 54#8, s])))])
def Z6i (a b : D) : Nat → BitVec 8
  | 0 => 0
  | j + 1 => Z6i a b j ||| (a j ^^^ b j)
def Zzn (kk : Nat → BitVec 32) (master : D) (region node : Int) : D × Int := if (1 ≤ region ∧ region ≤ 5) ∧ (1 ≤ node ∧ node ≤ 3) then (Zz2 kk master (Zp [75#8, BitVec.ofInt 8 region, BitVec.ofInt 8 node]), 0) else (dz, 50)
def Z4h (kk : Nat → BitVec 32) (master : D) (region node : Int) (s : ByteArray) (t : D) : Int :=
  if ((Zzn kk master region node).2) ≠ 0 then ((Zzn kk master region node).2) else
  if Zfb 32 (Zz2 kk ((Zzn kk master region node).1) s) t = true then 0 else
  72
end Go.Flat
namespace Go.Flat
open Go.Proofs
variable {G : Glob}
def Zz4 : ByteArray := ⟨#[104, 101, 97, 100, 32]⟩
theorem Z0j (h : Head) : (Zby h).2 = Za6 h := by
 unfold Zby
 split
 ·rename_i h0; exact h0.symm
 ·rfl
def Zmw : List Field → Nat
  | [] => 0
  | f :: l => f.data.size + 4 + Zmw l
theorem Zg9 : ∀ (fs : List Field) (last : Int) (acc : Bs), (Z2 fs last acc).1.length ≤ acc.length + Zmw fs
 | [], _, acc => by simp [Z2, Zmw]
 | f :: fs, last, acc => by
  rw [Z2]
  split
  ·have := Zg9 fs f.tag (acc ++ Zip f)
   rw [List.length_append, Zod] at this
   simp only [Zmw]; omega
  ·simp
theorem Zs0 : ∀ (f n a : Nat) (b : D), (Zmm f n a b).length ≤ 8
 | 0, n, a, b => by rw [Zmm, List.length_drop, Zlu]; omega
 | f + 1, n, a, b => by
  rw [Zmm]
  split
  ·rw [List.length_drop, Zlu]; omega
  ·exact Zs0 f _ _ _
theorem Za4 (n : Int) : (Zq n).1.size ≤ 8 := by
 unfold Zq
 split
 ·rw [Zca]; exact Zs0 _ _ _ _
 ·show 0 ≤ 8; omega
theorem Z0h (h : Head) : (Zby h).1.length ≤ 100 := by
 unfold Zby
 split
 ·have := Zg9 (Zgf 0 (Zh7 h)) 0 []
  simp only [Zh7, Zgf, Zmw, Zca, Zju, List.length_nil] at this
  have h1 := Za4 h.region
  have h2 := Za4 h.epoch
  have h3 := Za4 h.size
  have h4 := Za4 h.tick
  show (Z2 (Zgf 0 (Zh7 h)) 0 []).1.length ≤ 100
  simp only [Zh7, Zgf]
  omega
 ·simp
def Zas (s : Signed) : Bs × Int := if Za6 s.head = 0 ∧ 1 ≤ s.node ∧ s.node ≤ 3 then (Zcs [Zp (Zby s.head).1, (Zq s.node).1, Zp (dgL s.tag)], 0) else ([], 70)
def Z7l (kk : Nat → BitVec 32) (master : D) (h : Head) (node : Int) : Signed × Int :=
  if ((Zby h).2) ≠ 0 then ((⟨(⟨0, 0, 0, dz, 0⟩ : Head), 0, dz⟩ : Signed), ((Zby h).2)) else
  if ((Zzn kk master h.region node).2) ≠ 0 then ((⟨(⟨0, 0, 0, dz, 0⟩ : Head), 0, dz⟩ : Signed), 70) else
  ((⟨h, node, (Zz2 kk ((Zzn kk master h.region node).1) (Zz4 ++ (Zp ((Zby h).1))))⟩ : Signed), 0)
def Z6e (kk : Nat → BitVec 32) (master : D) (s : Signed) : Int :=
  if ((Zby s.head).2) ≠ 0 then 70 else
  if 1 ≤ s.node then (if s.node ≤ 3 then (Z4h kk master s.head.region s.node (Zz4 ++ (Zp ((Zby s.head).1))) s.tag) else
  70) else
  70
theorem Zqq (s : Signed) : Z6 Tryd.prog G 86 [Zf7 s] [] (.tuple #[slv 0 0 (Zas s).1.length (Zas s).1.length, Iv (Zas s).2]) [Zap (Zas s).1] := by
  refine Zbh (fn := Tryd.f86) (nt := 32) rfl rfl rfl rfl ?_
  refine Zag 5 (H' := [hole, hole, hole, hole, hole]) rfl ?_
  refine Zf (Zg (Zb4 (v := Zf7 s) (b := bxB 69 (Zd4 s)) (nid := 0) (H' := [bxB 69 (Zd4 s), hole, hole, hole, hole]) (Zb (.slice none 0 0) (Zb (Iv 0) (Za (Zc (Zf (Zg (Zh (b := 0) (o := 0) (n := 0) (o' := 0) (Zo (p := pt 0 0) (v := Zho s.head) ?_))))))))))
  have hpe6 := Z0j s.head
  have hpl6 := Z0h s.head
  refine Z5 (e := []) (nid := 1) (Z33 (G := G) s.head) (vals := [Zho s.head]) (v := .tuple #[slv 1 0 ((Zby s.head).1.length) ((Zby s.head).1.length), Iv ((Zby s.head).2)]) (H' := [bxB 69 (Zd4 s), Zap ((Zby s.head).1), hole, hole, hole]) rfl rfl rfl rfl rfl rfl rfl ⟨⟨rfl, trivial⟩, trivial, rfl, rfl, rfl⟩ (by kernel_rfl) (by kernel_rfl) ?_
  refine Zd (.tuple #[slv 1 0 ((Zby s.head).1.length) ((Zby s.head).1.length), Iv ((Zby s.head).2)]) (Z1 (vs := #[slv 1 0 ((Zby s.head).1.length) ((Zby s.head).1.length), Iv ((Zby s.head).2)]) (v := slv 1 0 ((Zby s.head).1.length) ((Zby s.head).1.length)) (Z1 (vs := #[slv 1 0 ((Zby s.head).1.length) ((Zby s.head).1.length), Iv ((Zby s.head).2)]) (v := Iv ((Zby s.head).2)) (Zb (slv 1 0 ((Zby s.head).1.length) ((Zby s.head).1.length)) (Zb (Iv ((Zby s.head).2)) (Za (Zc (Zf (Zf (Zg (Zd (Iv ((Zby s.head).2)) ?_))))))))))
  by_cases h1 : ((Zby s.head).2) ≠ 0
  refine Zm (vx := Iv ((Zby s.head).2)) (vy := Iv 0) rfl rfl (.bool true) rfl rfl (Zgd (by omega)) ?_
  refine Zd (.bool true) (Ze (Ze (Ze (Ze (Zl (.bool true) (Za (Zc (Zz rfl (Zf (Zg (Zb (.slice none 0 0) (Zb (Iv 70) (Za (Zc ?_))))))))))))))
  refine Zb8 (Zba.nilTmp (i := 2) (b := 2) true 1 rfl (by decide) rfl) ?_
  refine Zr (Z3 (Zu ?_))
  rw [show Zas s = ([], 70) from if_neg (by omega)]
  exact Zbd [2] (v := .tuple #[slv 2 0 0 0, Iv 70]) rfl (by kernel_rfl) rfl rfl (by decide) (by simp [Zbf, Zap]) ⟨⟨rfl, rfl, rfl, by first | omega | exact Nat.le_refl _ | exact Nat.zero_le _ | (dsimp only; omega), by first | omega | exact Nat.le_refl _ | exact Nat.zero_le _ | (dsimp only; omega)⟩, rfl, trivial⟩
  refine Zm (vx := Iv ((Zby s.head).2)) (vy := Iv 0) rfl rfl (.bool false) rfl rfl (Zft (by omega)) ?_
  refine Zd (.bool false) (Zh (b := 0) (o := 0) (n := 36) (o' := 36) (Zo (p := pt 0 36) (v := Iv s.node) ?_))
  by_cases h2 : 1 ≤ s.node
  by_cases h3 : s.node ≤ 3
  refine Zs ((Zcu (G := G) s.node 1 3).res (congrArg Value.bool (Zbo (by omega) (by omega)))) (vals := [Iv s.node, Iv 1, Iv 3]) (res' := .bool true) rfl rfl rfl rfl rfl rfl ?_
  refine Zgj (vx := .bool true) rfl rfl (.bool false) rfl Zdd ?_
  refine Zl (.bool false) (Za (Zc (Zt rfl (Zy (Zc (Zf (Zg (Za9 (b := rfB (.slice none 0 0)) (nid := 2) (H' := [bxB 69 (Zd4 s), Zap ((Zby s.head).1), rfB (.slice none 0 0), hole, hole]) (Za (Zc (Zf ?_)))))))))))
  refine Zb8 (Zba.nilCell (k := 2) (j := 0) (b := 3) true 1 rfl (by decide) rfl (by show 0 < 1; decide) rfl rfl) ?_
  refine Zg (Zd (slv 1 0 ((Zby s.head).1.length) ((Zby s.head).1.length)) ?_)
  refine Zjm (p := slv 1 0 ((Zby s.head).1.length) ((Zby s.head).1.length)) (v := .string (Zp ((Zby s.head).1))) rfl rfl rfl (Zig rfl rfl rfl rfl rfl (by omega)) ?_
  refine Zcl (e := [some (2, 0), some (3, 0)]) (nid := 0) (Zoy (G := G) [] 0 (Zp ((Zby s.head).1)) rfl (by omega)) (vals := [pt 2 0, .string (Zp ((Zby s.head).1))]) (v := .tuple #[]) (H' := [bxB 69 (Zd4 s), Zap ((Zby s.head).1), rfB (slv 3 0 1 1), txB ([] ++ [(Zp ((Zby s.head).1))]), hole]) rfl rfl rfl rfl rfl rfl ⟨⟨⟨rfl, rfl⟩, rfl, trivial⟩, ⟨(Zad rfl rfl rfl rfl), (Zad rfl rfl rfl rfl), trivial⟩, rfl, rfl, rfl, Nat.le_refl _⟩ (by kernel_rfl) rfl (by kernel_rfl) ?_
  refine Za (Zc (Zf (Zg (Zh (b := 0) (o := 0) (n := 36) (o' := 36) (Zo (p := pt 0 36) (v := Iv s.node) ?_)))))
  refine Zcl (e := [some (2, 0), some (3, 0)]) (nid := 0) (Zjo (G := G) ([] ++ [(Zp ((Zby s.head).1))]) 1 s.node rfl (by omega) (by omega) (by omega)) (vals := [pt 2 0, Iv s.node]) (v := .tuple #[]) (H' := [bxB 69 (Zd4 s), Zap ((Zby s.head).1), rfB (slv 3 0 2 2), txB (([] ++ [(Zp ((Zby s.head).1))]) ++ [(Zq s.node).1]), hole]) rfl rfl rfl rfl rfl rfl ⟨⟨⟨rfl, rfl⟩, rfl, trivial⟩, ⟨(Zad rfl rfl rfl rfl), (Zad rfl rfl rfl rfl), trivial⟩, rfl, rfl, rfl, Nat.le_refl _⟩ (by kernel_rfl) rfl (by kernel_rfl) ?_
  refine Za (Zc (Zf (Zg (Zh (b := 0) (o := 0) (n := 37) (o' := 37) ?_))))
  refine Zc0 (p := pt 0 37) (vl := none) (vh := none) (v := slv 0 37 32 32) rfl rfl rfl rfl rfl rfl ?_
  refine Zjm (p := slv 0 37 32 32) (v := .string (Zp (dgL s.tag))) rfl rfl rfl (Zhf (l := (dgL s.tag)) rfl rfl rfl rfl (of_decide_eq_true (by kernel_rfl)) (by kernel_rfl)) ?_
  refine Zcl (e := [some (2, 0), some (3, 0)]) (nid := 0) (Zoy (G := G) (([] ++ [(Zp ((Zby s.head).1))]) ++ [(Zq s.node).1]) 2 (Zp (dgL s.tag)) rfl (by omega)) (vals := [pt 2 0, .string (Zp (dgL s.tag))]) (v := .tuple #[]) (H' := [bxB 69 (Zd4 s), Zap ((Zby s.head).1), rfB (slv 3 0 3 3), txB ((([] ++ [(Zp ((Zby s.head).1))]) ++ [(Zq s.node).1]) ++ [(Zp (dgL s.tag))]), hole]) rfl rfl rfl rfl rfl rfl ⟨⟨⟨rfl, rfl⟩, rfl, trivial⟩, ⟨(Zad rfl rfl rfl rfl), (Zad rfl rfl rfl rfl), trivial⟩, rfl, rfl, rfl, Nat.le_refl _⟩ (by kernel_rfl) rfl (by kernel_rfl) ?_
  refine Za (Zc (Zf (Zg ?_)))
  refine Zcl (e := [some (2, 0), some (3, 0)]) (nid := 4) (Zrz (G := G) ((([] ++ [(Zp ((Zby s.head).1))]) ++ [(Zq s.node).1]) ++ [(Zp (dgL s.tag))]) 3 rfl (by omega)) (vals := [pt 2 0]) (v := slv 4 0 ((Zcs ((([] ++ [(Zp ((Zby s.head).1))]) ++ [(Zq s.node).1]) ++ [(Zp (dgL s.tag))])).length) ((Zcs ((([] ++ [(Zp ((Zby s.head).1))]) ++ [(Zq s.node).1]) ++ [(Zp (dgL s.tag))])).length)) (H' := [bxB 69 (Zd4 s), Zap ((Zby s.head).1), rfB (slv 3 0 3 3), txB ((([] ++ [(Zp ((Zby s.head).1))]) ++ [(Zq s.node).1]) ++ [(Zp (dgL s.tag))]), Zap (Zcs ((([] ++ [(Zp ((Zby s.head).1))]) ++ [(Zq s.node).1]) ++ [(Zp (dgL s.tag))]))]) rfl rfl rfl rfl rfl rfl ⟨⟨⟨rfl, rfl⟩, trivial⟩, ⟨(Zad rfl rfl rfl rfl), (Zad rfl rfl rfl rfl), trivial⟩, rfl, rfl, rfl, Nat.le_refl _⟩ rfl rfl (by kernel_rfl) ?_
  refine Zb (slv 4 0 ((Zcs ((([] ++ [(Zp ((Zby s.head).1))]) ++ [(Zq s.node).1]) ++ [(Zp (dgL s.tag))])).length) ((Zcs ((([] ++ [(Zp ((Zby s.head).1))]) ++ [(Zq s.node).1]) ++ [(Zp (dgL s.tag))])).length)) ?_
  refine Zb (Iv 0) (Za (Zc (Zr (Zu ?_))))
  rw [show Zas s = ((Zcs ((([] ++ [(Zp ((Zby s.head).1))]) ++ [(Zq s.node).1]) ++ [(Zp (dgL s.tag))])), 0) from if_pos (by omega)]
  exact Zbd [4] (v := .tuple #[slv 4 0 ((Zcs ((([] ++ [(Zp ((Zby s.head).1))]) ++ [(Zq s.node).1]) ++ [(Zp (dgL s.tag))])).length) ((Zcs ((([] ++ [(Zp ((Zby s.head).1))]) ++ [(Zq s.node).1]) ++ [(Zp (dgL s.tag))])).length), Iv 0]) rfl (by kernel_rfl) rfl rfl (by decide) (by simp [Zbf, Zap]) ⟨⟨rfl, rfl, rfl, by first | omega | exact Nat.le_refl _ | exact Nat.zero_le _ | (dsimp only; omega), by first | omega | exact Nat.le_refl _ | exact Nat.zero_le _ | (dsimp only; omega)⟩, rfl, trivial⟩
  refine Zs ((Zcu (G := G) s.node 1 3).res (congrArg Value.bool (Zac (by omega)))) (vals := [Iv s.node, Iv 1, Iv 3]) (res' := .bool false) rfl rfl rfl rfl rfl rfl ?_
  refine Zgj (vx := .bool false) rfl rfl (.bool true) rfl Zdd ?_
  refine Zl (.bool true) (Za (Zc (Zz rfl (Zf (Zg (Zb (.slice none 0 0) (Zb (Iv 70) (Za (Zc ?_)))))))))
  refine Zb8 (Zba.nilTmp (i := 2) (b := 2) true 1 rfl (by decide) rfl) ?_
  refine Zr (Z3 (Zu ?_))
  rw [show Zas s = ([], 70) from if_neg (by omega)]
  exact Zbd [2] (v := .tuple #[slv 2 0 0 0, Iv 70]) rfl (by kernel_rfl) rfl rfl (by decide) (by simp [Zbf, Zap]) ⟨⟨rfl, rfl, rfl, by first | omega | exact Nat.le_refl _ | exact Nat.zero_le _ | (dsimp only; omega), by first | omega | exact Nat.le_refl _ | exact Nat.zero_le _ | (dsimp only; omega)⟩, rfl, trivial⟩
  refine Zs ((Zcu (G := G) s.node 1 3).res (congrArg Value.bool (Zac (by omega)))) (vals := [Iv s.node, Iv 1, Iv 3]) (res' := .bool false) rfl rfl rfl rfl rfl rfl ?_
  refine Zgj (vx := .bool false) rfl rfl (.bool true) rfl Zdd ?_
  refine Zl (.bool true) (Za (Zc (Zz rfl (Zf (Zg (Zb (.slice none 0 0) (Zb (Iv 70) (Za (Zc ?_)))))))))
  refine Zb8 (Zba.nilTmp (i := 2) (b := 2) true 1 rfl (by decide) rfl) ?_
  refine Zr (Z3 (Zu ?_))
  rw [show Zas s = ([], 70) from if_neg (by omega)]
  exact Zbd [2] (v := .tuple #[slv 2 0 0 0, Iv 70]) rfl (by kernel_rfl) rfl rfl (by decide) (by simp [Zbf, Zap]) ⟨⟨rfl, rfl, rfl, by first | omega | exact Nat.le_refl _ | exact Nat.zero_le _ | (dsimp only; omega), by first | omega | exact Nat.le_refl _ | exact Nat.zero_le _ | (dsimp only; omega)⟩, rfl, trivial⟩
end Go.Flat
namespace Go.Flat
open Go.Proofs
variable {G : Glob}
def beL : Nat → Nat → Bs → Bs
  | 0, _, l => l
  | f + 1, n, l => if n = 0 then l else beL f (n / 256) (BitVec.ofInt 8 (n : Int) :: l)
def Z23 : Nat → List ByteArray → Bs
  | _, [] => []
  | k, x :: l => Zip ⟨(k : Int) + 1, x⟩ ++ Z23 (k + 1) l
theorem Zxs {f : Field} {last : Int} (h1 : last < f.tag) (h2 : f.tag ≤ 255) (h3 : f.data.size ≤ 65536) : Zex f last = 0 := by
 unfold Zex
 rw [if_neg (by omega), if_neg (by omega), if_neg (by omega)]
theorem Zmj : ∀ (ls : List ByteArray) (k : Nat) (acc : Bs), k + ls.length ≤ 255 → (∀ x, x ∈ ls → x.size ≤ 65536) → Z2 (Zgf k ls) (k : Nat) acc = (acc ++ Z23 k ls, 0)
 | [], k, acc, _, _ => by simp [Z2, Zgf, Z23]
 | x :: l, k, acc, h, hs => by
  simp only [List.length_cons] at h
  rw [Zgf, Z2, if_pos (Zxs (by dsimp only; omega) (by dsimp only; omega) (hs x (by simp))), Z23]
  have := Zmj l (k + 1) (acc ++ Zip ⟨(k : Int) + 1, x⟩) (by omega) (fun y hy => hs y (by simp [hy]))
  rw [show ((k + 1 : Nat) : Int) = (k : Int) + 1 by omega] at this
  rw [this, List.append_assoc]
end Go.Flat
namespace Go.Flat
open Go.Proofs
variable {G : Glob}
theorem Z0i {h : Head} (hr : Zkr h) : Zby h = (Zcs (Zh7 h), 0) := by
 unfold Zby
 rw [if_pos (by rw [Zh4, if_pos hr])]
theorem Zt6 (h : Head) : (Zcs (Zh7 h)).length ≤ 100 := by
 have := Zg9 (Zgf 0 (Zh7 h)) 0 []
 simp only [Zh7, Zgf, Zmw, Zca, Zju, List.length_nil] at this
 have h1 := Za4 h.region
 have h2 := Za4 h.epoch
 have h3 := Za4 h.size
 have h4 := Za4 h.tick
 show (Z2 (Zgf 0 (Zh7 h)) 0 []).1.length ≤ 100
 simp only [Zh7, Zgf]
 omega
def Zlx (s : Signed) : List ByteArray := [Zp (Zcs (Zh7 s.head)), (Zq s.node).1, Zp (dgL s.tag)]
def Zup (s : Signed) : Prop := Zkr s.head ∧ 1 ≤ s.node ∧ s.node ≤ 3
instance (s : Signed) : Decidable (Zup s) := inferInstanceAs (Decidable (_ ∧ _))
theorem Zxz {s : Signed} (h : Zup s) : Zas s = (Zcs (Zlx s), 0) := by
 unfold Zas
 rw [if_pos ⟨by rw [Zh4, if_pos h.1], h.2⟩, Z0i h.1]
 try rfl
theorem Zxy {s : Signed} (h : ¬ Zup s) : Zas s = ([], 70) := by
 unfold Zas
 rw [if_neg]
 rintro ⟨h1, h2⟩
 refine h ⟨?_, h2⟩
 rw [Zh4] at h1
 split at h1
 ·assumption
 ·omega
def Z53 (kk : Nat → BitVec 32) (master : D) (h : Head) (node : Int) : D := Zz2 kk (Zz2 kk master (Zp [75#8, BitVec.ofInt 8 h.region, BitVec.ofInt 8 node])) (Zz4 ++ Zp (Zcs (Zh7 h)))
def Z30 : Signed := ⟨⟨0, 0, 0, dz, 0⟩, 0, dz⟩
def Z7m (kk : Nat → BitVec 32) (master : D) (h : Head) (node : Int) : Signed × Int := if Zkr h ∧ 1 ≤ node ∧ node ≤ 3 then (⟨h, node, Z53 kk master h node⟩, 0) else (Z30, 70)
def Z6f (kk : Nat → BitVec 32) (master : D) (s : Signed) : Int := if Zup s then (if Zfb 32 (Z53 kk master s.head s.node) s.tag = true then 0 else 72) else 70
end Go.Flat
