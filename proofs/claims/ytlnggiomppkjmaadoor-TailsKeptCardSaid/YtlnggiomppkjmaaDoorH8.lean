/- Walks. -/
import Derived.Test.YtlnggiomppkjmaaDoorH3
set_option linter.unusedVariables false
set_option linter.unusedSimpArgs false
set_option maxRecDepth 20000
namespace Go.Flat
open Go.Proofs
variable {G : Glob}
structure Head where
  region : Int
  epoch : Int
  size : Int
  root : D
  tick : Int
structure Signed where
  head : Head
  node : Int
  tag : D
def Zfm (h : Head) : List Value := [.int .i64 h.region, .int .i64 h.epoch, .int .i64 h.size] ++ Zag w8 32 h.root ++ [.int .i64 h.tick]
def Zhd (h : Head) : Value := .agg (Zfm h).toArray
def Zd0 (s : Signed) : List Value := Zfm s.head ++ [.int .i64 s.node] ++ Zag w8 32 s.tag
def Zf0 (s : Signed) : Value := .agg (Zd0 s).toArray
def Zf7 : Nat → List ByteArray → List Field
  | _, [] => []
  | k, x :: l => ⟨(k : Int) + 1, x⟩ :: Zf7 (k + 1) l
def Zcl (ls : List ByteArray) : Bs := (Zz (Zf7 0 ls) 0 []).1
theorem Zxk {ls : List ByteArray} {i : Nat} {acc R : List Field} (hR : acc ++ Zf7 i (ls.drop i) = R) (hi : i < ls.length) : (acc ++ [⟨(i : Int) + 1, ls.getD i ⟨#[]⟩⟩]) ++ Zf7 (i + 1) (ls.drop (i + 1)) = R := by
 have e : ls.drop i = ls.getD i ⟨#[]⟩ :: ls.drop (i + 1) := by
  rw [List.drop_eq_getElem_cons hi, List.getD_eq_getElem?_getD, List.getElem?_eq_getElem hi]; rfl
 rw [e, Zf7] at hR
 rw [← hR, List.append_assoc]; rfl
def Zcg (n low high : Int) : Bool :=
  if low ≤ n then (if n ≤ high then true else
  false) else
  false
theorem Zco (n low high : Int) : Z4 Tryd.prog G 81 [Iv n, Iv low, Iv high] [] (.bool (Zcg n low high)) [] := by
 refine Zbd (fn := Tryd.f81) (nt := 15) rfl rfl rfl rfl ?_
 refine Ze (Zg (Zc (.bool false) (Za (Zb (Ze (Zg (Zd (Iv n) (Zd (Iv low) ?_))))))))
 by_cases h1 : low ≤ n
 refine Zl (vx := Iv n) (vy := Iv low) rfl rfl (.bool true) rfl rfl (Znx (by omega)) ?_
 refine Zd (.bool true) (Zd (Iv n) (Zd (Iv high) ?_))
 by_cases h2 : n ≤ high
 refine Zl (vx := Iv n) (vy := Iv high) rfl rfl (.bool true) rfl rfl (Zj3 (by omega)) ?_
 refine Zj (.bool true) (Zc (.bool true) (Za (Zb (Zr (Zs ?_)))))
 rw [show Zcg n low high = true from by unfold Zcg; rw [if_pos h1, if_pos h2]]
 exact Zk (v := .bool true) rfl rfl rfl (by kernel_rfl) rfl
 refine Zl (vx := Iv n) (vy := Iv high) rfl rfl (.bool false) rfl rfl (Zj2 (by omega)) ?_
 refine Zj (.bool false) (Zc (.bool false) (Za (Zb (Zr (Zs ?_)))))
 rw [show Zcg n low high = false from by unfold Zcg; rw [if_pos h1, if_neg h2]]
 exact Zk (v := .bool false) rfl rfl rfl (by kernel_rfl) rfl
 refine Zl (vx := Iv n) (vy := Iv low) rfl rfl (.bool false) rfl rfl (Znw (by omega)) ?_
 refine Zd (.bool false) (Zf (Zf (Zf (Zj (.bool false) (Zc (.bool false) (Za (Zb (Zr (Zs ?_)))))))))
 rw [show Zcg n low high = false from by unfold Zcg; rw [if_neg h1]]
 exact Zk (v := .bool false) rfl rfl rfl (by kernel_rfl) rfl
theorem Zbn {n low high : Int} (h1 : low ≤ n) (h2 : n ≤ high) : Zcg n low high = true := by unfold Zcg; rw [if_pos h1, if_pos h2]
theorem Zab {n low high : Int} (h : n < low ∨ high < n) : Zcg n low high = false := by
 unfold Zcg
 by_cases h1 : low ≤ n
 ·rw [if_pos h1, if_neg (by omega)]
 ·rw [if_neg h1]
def Za3 (h : Head) : Int :=
  if 1 ≤ h.region then (if h.region ≤ 5 then (if 1 ≤ h.epoch then (if h.epoch ≤ 900000000 then (if 0 ≤ h.size then (if h.size ≤ 100000 then (if 0 ≤ h.tick then (if h.tick ≤ 900000000 then 0 else
  70) else
  70) else
  70) else
  70) else
  70) else
  70) else
  70) else
  70
theorem Zrb (h : Head) : Z4 Tryd.prog G 76 [Zhd h] [] (Iv (Za3 h)) [] := by
 refine Zbd (fn := Tryd.f76) (nt := 21) rfl rfl rfl rfl ?_
 refine Zae 1 (H' := [hole]) rfl ?_
 refine Ze (Zg (Zbs (v := Zhd h) (b := bxB 36 (Zfm h)) (nid := 0) (H' := [bxB 36 (Zfm h)]) (Zc (Iv 0) (Za (Zb (Ze (Ze (Zg (Zi (b := 0) (o := 0) (n := 0) (o' := 0) (Zm (p := pt 0 0) (v := Iv h.region) ?_))))))))))
 by_cases h1 : 1 ≤ h.region
 by_cases h2 : h.region ≤ 5
 refine Zq ((Zco (G := G) h.region 1 5).res (congrArg Value.bool (Zbn (by omega) (by omega)))) (vals := [Iv h.region, Iv 1, Iv 5]) (res' := .bool true) rfl rfl rfl rfl rfl rfl ?_
 refine Zd (.bool true) (Zi (b := 0) (o := 0) (n := 1) (o' := 1) (Zm (p := pt 0 1) (v := Iv h.epoch) ?_))
 by_cases h3 : 1 ≤ h.epoch
 by_cases h4 : h.epoch ≤ 900000000
 refine Zq ((Zco (G := G) h.epoch 1 900000000).res (congrArg Value.bool (Zbn (by omega) (by omega)))) (vals := [Iv h.epoch, Iv 1, Iv 900000000]) (res' := .bool true) rfl rfl rfl rfl rfl rfl ?_
 refine Zj (.bool true) (Zd (.bool true) (Zi (b := 0) (o := 0) (n := 2) (o' := 2) (Zm (p := pt 0 2) (v := Iv h.size) ?_)))
 by_cases h5 : 0 ≤ h.size
 by_cases h6 : h.size ≤ 100000
 refine Zq ((Zco (G := G) h.size 0 100000).res (congrArg Value.bool (Zbn (by omega) (by omega)))) (vals := [Iv h.size, Iv 0, Iv 100000]) (res' := .bool true) rfl rfl rfl rfl rfl rfl ?_
 refine Zj (.bool true) (Zd (.bool true) (Zi (b := 0) (o := 0) (n := 35) (o' := 35) (Zm (p := pt 0 35) (v := Iv h.tick) ?_)))
 by_cases h7 : 0 ≤ h.tick
 by_cases h8 : h.tick ≤ 900000000
 refine Zq ((Zco (G := G) h.tick 0 900000000).res (congrArg Value.bool (Zbn (by omega) (by omega)))) (vals := [Iv h.tick, Iv 0, Iv 900000000]) (res' := .bool true) rfl rfl rfl rfl rfl rfl ?_
 refine Zj (.bool true) (Za (Zb (Zy rfl (Ze (Zg (Zc (Iv 0) (Za (Zb (Zr (Z3 (Zs ?_)))))))))))
 rw [show Za3 h = 0 from by unfold Za3; rw [if_pos h1, if_pos h2, if_pos h3, if_pos h4, if_pos h5, if_pos h6, if_pos h7, if_pos h8]]
 exact Zk (v := Iv 0) rfl rfl rfl (by kernel_rfl) rfl
 refine Zq ((Zco (G := G) h.tick 0 900000000).res (congrArg Value.bool (Zab (by omega)))) (vals := [Iv h.tick, Iv 0, Iv 900000000]) (res' := .bool false) rfl rfl rfl rfl rfl rfl ?_
 refine Zj (.bool false) (Za (Zb (Zt rfl (Zx (Zb (Ze (Zg (Zc (Iv 70) (Za (Zb (Zr (Zs ?_))))))))))))
 rw [show Za3 h = 70 from by unfold Za3; rw [if_pos h1, if_pos h2, if_pos h3, if_pos h4, if_pos h5, if_pos h6, if_pos h7, if_neg h8]]
 exact Zk (v := Iv 70) rfl rfl rfl (by kernel_rfl) rfl
 refine Zq ((Zco (G := G) h.tick 0 900000000).res (congrArg Value.bool (Zab (by omega)))) (vals := [Iv h.tick, Iv 0, Iv 900000000]) (res' := .bool false) rfl rfl rfl rfl rfl rfl ?_
 refine Zj (.bool false) (Za (Zb (Zt rfl (Zx (Zb (Ze (Zg (Zc (Iv 70) (Za (Zb (Zr (Zs ?_))))))))))))
 rw [show Za3 h = 70 from by unfold Za3; rw [if_pos h1, if_pos h2, if_pos h3, if_pos h4, if_pos h5, if_pos h6, if_neg h7]]
 exact Zk (v := Iv 70) rfl rfl rfl (by kernel_rfl) rfl
 refine Zq ((Zco (G := G) h.size 0 100000).res (congrArg Value.bool (Zab (by omega)))) (vals := [Iv h.size, Iv 0, Iv 100000]) (res' := .bool false) rfl rfl rfl rfl rfl rfl ?_
 refine Zj (.bool false) (Zd (.bool false) (Zf (Zf (Zf (Zj (.bool false) (Za (Zb (Zt rfl (Zx (Zb (Ze (Zg (Zc (Iv 70) (Za (Zb (Zr (Zs ?_)))))))))))))))))
 rw [show Za3 h = 70 from by unfold Za3; rw [if_pos h1, if_pos h2, if_pos h3, if_pos h4, if_pos h5, if_neg h6]]
 exact Zk (v := Iv 70) rfl rfl rfl (by kernel_rfl) rfl
 refine Zq ((Zco (G := G) h.size 0 100000).res (congrArg Value.bool (Zab (by omega)))) (vals := [Iv h.size, Iv 0, Iv 100000]) (res' := .bool false) rfl rfl rfl rfl rfl rfl ?_
 refine Zj (.bool false) (Zd (.bool false) (Zf (Zf (Zf (Zj (.bool false) (Za (Zb (Zt rfl (Zx (Zb (Ze (Zg (Zc (Iv 70) (Za (Zb (Zr (Zs ?_)))))))))))))))))
 rw [show Za3 h = 70 from by unfold Za3; rw [if_pos h1, if_pos h2, if_pos h3, if_pos h4, if_neg h5]]
 exact Zk (v := Iv 70) rfl rfl rfl (by kernel_rfl) rfl
 refine Zq ((Zco (G := G) h.epoch 1 900000000).res (congrArg Value.bool (Zab (by omega)))) (vals := [Iv h.epoch, Iv 1, Iv 900000000]) (res' := .bool false) rfl rfl rfl rfl rfl rfl ?_
 refine Zj (.bool false) (Zd (.bool false) (Zf (Zf (Zf (Zj (.bool false) (Zd (.bool false) (Zf (Zf (Zf (Zj (.bool false) (Za (Zb (Zt rfl (Zx (Zb (Ze (Zg (Zc (Iv 70) (Za (Zb (Zr (Zs ?_))))))))))))))))))))))
 rw [show Za3 h = 70 from by unfold Za3; rw [if_pos h1, if_pos h2, if_pos h3, if_neg h4]]
 exact Zk (v := Iv 70) rfl rfl rfl (by kernel_rfl) rfl
 refine Zq ((Zco (G := G) h.epoch 1 900000000).res (congrArg Value.bool (Zab (by omega)))) (vals := [Iv h.epoch, Iv 1, Iv 900000000]) (res' := .bool false) rfl rfl rfl rfl rfl rfl ?_
 refine Zj (.bool false) (Zd (.bool false) (Zf (Zf (Zf (Zj (.bool false) (Zd (.bool false) (Zf (Zf (Zf (Zj (.bool false) (Za (Zb (Zt rfl (Zx (Zb (Ze (Zg (Zc (Iv 70) (Za (Zb (Zr (Zs ?_))))))))))))))))))))))
 rw [show Za3 h = 70 from by unfold Za3; rw [if_pos h1, if_pos h2, if_neg h3]]
 exact Zk (v := Iv 70) rfl rfl rfl (by kernel_rfl) rfl
 refine Zq ((Zco (G := G) h.region 1 5).res (congrArg Value.bool (Zab (by omega)))) (vals := [Iv h.region, Iv 1, Iv 5]) (res' := .bool false) rfl rfl rfl rfl rfl rfl ?_
 refine Zd (.bool false) (Zf (Zf (Zf (Zj (.bool false) (Zd (.bool false) (Zf (Zf (Zf (Zj (.bool false) (Zd (.bool false) (Zf (Zf (Zf (Zj (.bool false) (Za (Zb (Zt rfl (Zx (Zb (Ze (Zg (Zc (Iv 70) (Za (Zb (Zr (Zs ?_))))))))))))))))))))))))))
 rw [show Za3 h = 70 from by unfold Za3; rw [if_pos h1, if_neg h2]]
 exact Zk (v := Iv 70) rfl rfl rfl (by kernel_rfl) rfl
 refine Zq ((Zco (G := G) h.region 1 5).res (congrArg Value.bool (Zab (by omega)))) (vals := [Iv h.region, Iv 1, Iv 5]) (res' := .bool false) rfl rfl rfl rfl rfl rfl ?_
 refine Zd (.bool false) (Zf (Zf (Zf (Zj (.bool false) (Zd (.bool false) (Zf (Zf (Zf (Zj (.bool false) (Zd (.bool false) (Zf (Zf (Zf (Zj (.bool false) (Za (Zb (Zt rfl (Zx (Zb (Ze (Zg (Zc (Iv 70) (Za (Zb (Zr (Zs ?_))))))))))))))))))))))))))
 rw [show Za3 h = 70 from by unfold Za3; rw [if_neg h1]]
 exact Zk (v := Iv 70) rfl rfl rfl (by kernel_rfl) rfl
def Zkj (h : Head) : Prop := (1 ≤ h.region ∧ h.region ≤ 5) ∧ (1 ≤ h.epoch ∧ h.epoch ≤ 900000000) ∧ (0 ≤ h.size ∧ h.size ≤ 100000) ∧ (0 ≤ h.tick ∧ h.tick ≤ 900000000)
instance (h : Head) : Decidable (Zkj h) := inferInstanceAs (Decidable (_ ∧ _))
theorem Zht (h : Head) : Za3 h = if Zkj h then 0 else 70 := by
 unfold Za3 Zkj
 repeat (first | split | omega)
theorem Zwh {h : Head} (hc : Za3 h = 0) : (1 ≤ h.region ∧ h.region ≤ 5) ∧ (1 ≤ h.epoch ∧ h.epoch ≤ 900000000) ∧ (0 ≤ h.size ∧ h.size ≤ 100000) ∧ (0 ≤ h.tick ∧ h.tick ≤ 900000000) := by
 rw [Zht] at hc
 split at hc
 ·assumption
 ·omega
def Zhw (h : Head) : List ByteArray := [(Zo h.region).1, (Zo h.epoch).1, (Zo h.size).1, Zn (dgL h.root), (Zo h.tick).1]
def Zbw (h : Head) : Bs × Int := if Za3 h = 0 then (Zcl (Zhw h), 0) else ([], Za3 h)
theorem Zok (ls : List ByteArray) (n : Nat) (x : ByteArray) (hn : ls.length = n) (hb : n ≤ 1000) : Z4 Tryd.prog G 91 [pt 0 0, .string x] [rfB (slv 1 0 n n), txB ls] (.tuple #[]) [rfB (slv 1 0 (n + 1) (n + 1)), txB (ls ++ [x])] := by
  refine Zbd (fn := Tryd.f91) (nt := 12) rfl rfl rfl rfl ?_
  refine Zae 1 (H' := [rfB (slv 1 0 n n), txB ls, hole]) rfl ?_
  refine Zg (Zd (pt 0 0) (Zd (pt 0 0) (Zeo (p := pt 0 0) (v := pt 0 0) ?_)))
  refine Zaj (p := pt 0 0) (v := slv 1 0 n n) rfl rfl rfl rfl ?_
  refine Zd (.string x) ?_
  refine Zen (vs := [(0, .string x)]) (v := slv 2 0 1 1) (blk := txB [x]) (nid := 2) (H' := [rfB (slv 1 0 n n), txB ls, txB [x]]) rfl rfl rfl (by kernel_rfl) (by kernel_rfl) ?_
  have hl2 : (ls ++ [x]).length = n + 1 := by have := hn; have := (rfl : _ = 1); first | (rw [List.length_append]; omega) | (simp; omega) | simp
  refine Zc4 (p := slv 1 0 n n) (q := slv 2 0 1 1) (v := slv 1 0 (n + 1) (n + 1)) (b := 1) (blk := txB (ls ++ [x])) (H' := [rfB (dead), txB (ls ++ [x]), txB [x]]) rfl rfl rfl (.inl ⟨_, rfl⟩) rfl rfl (Zu8 (by_ := 16) (k := 1) (n' := n + 1) (ms := [x]) rfl rfl (by kernel_rfl) rfl (by have := hn; omega) (by omega) (by decide) (by omega)) rfl (by kernel_rfl) ?_
  refine Zeo (p := pt 0 0) (v := pt 0 0) (Zaa (p := pt 0 0) (v := slv 1 0 (n + 1) (n + 1)) (b := 0) (blk := rfB (slv 1 0 (n + 1) (n + 1))) (H' := [rfB (slv 1 0 (n + 1) (n + 1)), txB (ls ++ [x]), txB [x]]) (Za (Zko ?_)))
  exact Zk (v := .tuple #[]) rfl rfl rfl (by simp [Za6, rfB, txB, Zh0, Zee]) trivial
theorem Zjf (ls : List ByteArray) (n : Nat) (x : Int) (hn : ls.length = n) (hb : n ≤ 1000) (hl : -9223372036854775808 ≤ x) (hh : x ≤ 9223372036854775807) : Z4 Tryd.prog G 92 [pt 0 0, Iv x] [rfB (slv 1 0 n n), txB ls] (.tuple #[]) [rfB (slv 1 0 (n + 1) (n + 1)), txB (ls ++ [(Zo x).1])] := by
  refine Zbd (fn := Tryd.f92) (nt := 19) rfl rfl rfl rfl ?_
  refine Zae 1 (H' := [rfB (slv 1 0 n n), txB ls, hole]) rfl ?_
  refine Ze (Zg (Zd (Iv x) ?_))
  refine Zq (Zpc (G := G) x (by omega) (by omega)) (vals := [Iv x]) (res' := .tuple #[.string ((Zo x).1), Iv ((Zo x).2)]) rfl rfl rfl rfl rfl (by kernel_rfl) ?_
  refine Zd (.tuple #[.string ((Zo x).1), Iv ((Zo x).2)]) (Z1 (vs := #[.string ((Zo x).1), Iv ((Zo x).2)]) (v := .string ((Zo x).1)) (Z1 (vs := #[.string ((Zo x).1), Iv ((Zo x).2)]) (v := Iv ((Zo x).2)) (Zc (.string ((Zo x).1)) (Zc (Iv ((Zo x).2)) (Za (Zb (Zg (Zd (pt 0 0) (Zd (pt 0 0) (Zeo (p := pt 0 0) (v := pt 0 0) ?_))))))))))
  refine Zaj (p := pt 0 0) (v := slv 1 0 n n) rfl rfl rfl rfl ?_
  refine Zd (.string ((Zo x).1)) ?_
  refine Zen (vs := [(0, .string ((Zo x).1))]) (v := slv 2 0 1 1) (blk := txB [(Zo x).1]) (nid := 2) (H' := [rfB (slv 1 0 n n), txB ls, txB [(Zo x).1]]) rfl rfl rfl (by kernel_rfl) (by kernel_rfl) ?_
  have hl2 : (ls ++ [(Zo x).1]).length = n + 1 := by have := hn; have := (rfl : _ = 1); first | (rw [List.length_append]; omega) | (simp; omega) | simp
  refine Zc4 (p := slv 1 0 n n) (q := slv 2 0 1 1) (v := slv 1 0 (n + 1) (n + 1)) (b := 1) (blk := txB (ls ++ [(Zo x).1])) (H' := [rfB (dead), txB (ls ++ [(Zo x).1]), txB [(Zo x).1]]) rfl rfl rfl (.inl ⟨_, rfl⟩) rfl rfl (Zu8 (by_ := 16) (k := 1) (n' := n + 1) (ms := [(Zo x).1]) rfl rfl (by kernel_rfl) rfl (by have := hn; omega) (by omega) (by decide) (by omega)) rfl (by kernel_rfl) ?_
  refine Zeo (p := pt 0 0) (v := pt 0 0) (Zaa (p := pt 0 0) (v := slv 1 0 (n + 1) (n + 1)) (b := 0) (blk := rfB (slv 1 0 (n + 1) (n + 1))) (H' := [rfB (slv 1 0 (n + 1) (n + 1)), txB (ls ++ [(Zo x).1]), txB [(Zo x).1]]) (Za (Zko ?_)))
  exact Zk (v := .tuple #[]) rfl rfl rfl (by simp [Za6, rfB, txB, Zh0, Zee]) trivial
theorem Zrn (ls : List ByteArray) (n : Nat) (hn : ls.length = n) (hb : n ≤ 1000) : Z4 Tryd.prog G 93 [pt 0 0] [rfB (slv 1 0 n n), txB ls] (slv 2 0 (Zcl ls).length (Zcl ls).length) [rfB (slv 1 0 n n), txB ls, Zao (Zcl ls)] := by
  refine Zbd (fn := Tryd.f93) (nt := 31) rfl rfl rfl rfl ?_
  refine Zae 1 (H' := [rfB (slv 1 0 n n), txB ls, hole]) rfl ?_
  refine Ze (Zg (Zc (.slice none 0 0) (Za (Zb (Ze (Zg (Zc (.slice none 0 0) (Za (Zb (Ze (Ze ?_)))))))))))
  refine Zb6 (Zbe.nilTmp (i := 3) (b := 2) true 2 rfl (by decide) rfl) ?_
  refine Zg (Zd (pt 0 0) (Zeo (p := pt 0 0) (v := pt 0 0) ?_))
  refine Zaj (p := pt 0 0) (v := slv 1 0 n n) rfl rfl rfl rfl ?_
  refine Zba (p := slv 1 0 n n) (v := Iv (n : Nat)) (Zd (Iv 0) (Za (Zb (Z7 ?_))))
  refine Zb2 (fun x : Nat × (List Field) => match x with | (i, acc) => [pt 0 0, dead, .slice none 0 0, slv 2 0 i i, dead, dead, dead, dead, pt 0 0, pt 0 0, slv 1 0 n n, Iv (n : Nat), Iv (i : Nat)]) (fun x : Nat × (List Field) => match x with | (i, acc) => [rfB (slv 1 0 n n), txB ls, rwB cFd acc]) (fun x : Nat × (List Field) => match x with | (i, acc) => acc ++ Zf7 i (ls.drop i) = Zf7 0 ls ∧ i ≤ n ∧ acc.length = i) (fun x : Nat × (List Field) => match x with | (i, acc) => n - i) (0, []) ⟨rfl, by omega, rfl⟩ ?_ ?_
  · refine Zah (n := 3) rfl ?_ (by kernel_rfl) (by kernel_rfl)
    repeat (first | exact trivial | refine ⟨.inl rfl, ?_⟩ | refine ⟨.inr ⟨rfl, rfl⟩, ?_⟩ | refine ⟨.inr ⟨congrArg (Value.int .i64) (by first | omega | (dsimp only; omega)), rfl⟩, ?_⟩)
  rintro ⟨i, acc⟩ ⟨hR, hi, ha⟩
  dsimp only at *
  refine Zae 2 (H' := [rfB (slv 1 0 n n), txB ls, rwB cFd acc, hole, hole]) rfl ?_
  refine Ze (Zg ?_)
  by_cases h1 : (i : Nat) < (n : Nat)
  refine Zl (vx := Iv (i : Nat)) (vy := Iv (n : Nat)) rfl rfl (.bool true) rfl rfl (Zc0 (by omega)) ?_
  refine Za (Zb (Ze (Zy rfl (Zx (Zb (Ze (Z7 (Ze (Zg (Zd (Iv (i : Nat)) ?_))))))))))
  refine Zb1 (b := 1) (o := 0) (j := i) (m := n) (c := n) (sz := 1) (i := (i : Nat)) (k := .i64) rfl rfl rfl rfl rfl (by omega) (by omega) (by omega) ?_
  refine Zaj (p := pt 1 i) (v := .string (ls.getD i ⟨#[]⟩)) rfl rfl rfl (Z10 rfl rfl rfl (by have := hn; omega)) ?_
  refine Zc (Iv (i : Nat)) (Zc (.string (ls.getD i ⟨#[]⟩)) (Za (Zb (Zg (Zd (slv 2 0 i i) (Zd (Iv (i : Nat)) ?_))))))
  refine Zl (vx := Iv (i : Nat)) (vy := Iv 1) rfl rfl (Iv ((i : Nat) + 1)) rfl rfl (Zan (by omega) (by omega) (by omega)) ?_
  refine Zd (.string (ls.getD i ⟨#[]⟩)) ?_
  refine Zcz (vs := [(0, Iv ((i : Nat) + 1)), (1, .string (ls.getD i ⟨#[]⟩))]) (v := fdV (⟨(i : Nat) + 1, (ls.getD i ⟨#[]⟩)⟩ : Field)) rfl rfl rfl (by kernel_rfl) ?_
  refine Zen (vs := [(0, fdV (⟨(i : Nat) + 1, (ls.getD i ⟨#[]⟩)⟩ : Field))]) (v := slv 3 0 1 1) (blk := rwB cFd [(⟨(i : Nat) + 1, (ls.getD i ⟨#[]⟩)⟩ : Field)]) (nid := 3) (H' := [rfB (slv 1 0 n n), txB ls, rwB cFd acc, rwB cFd [(⟨(i : Nat) + 1, (ls.getD i ⟨#[]⟩)⟩ : Field)], hole]) rfl rfl rfl (by kernel_rfl) (by kernel_rfl) ?_
  have hl2 : (acc ++ [(⟨(i : Nat) + 1, (ls.getD i ⟨#[]⟩)⟩ : Field)]).length = i + 1 := by have := ha; have := (rfl : _ = 1); first | (rw [List.length_append]; omega) | (simp; omega) | simp
  refine Zc4 (p := slv 2 0 i i) (q := slv 3 0 1 1) (v := slv 2 0 (i + 1) (i + 1)) (b := 2) (blk := rwB cFd (acc ++ [(⟨(i : Nat) + 1, (ls.getD i ⟨#[]⟩)⟩ : Field)])) (H' := [rfB (slv 1 0 n n), txB ls, rwB cFd (acc ++ [(⟨(i : Nat) + 1, (ls.getD i ⟨#[]⟩)⟩ : Field)]), rwB cFd [(⟨(i : Nat) + 1, (ls.getD i ⟨#[]⟩)⟩ : Field)], hole]) rfl rfl rfl (.inl ⟨_, rfl⟩) rfl rfl (Zh6 cFd (by_ := 24) (k := 1) (n' := i + 1) (ms := [(⟨(i : Nat) + 1, (ls.getD i ⟨#[]⟩)⟩ : Field)]) (fun _ => rfl) rfl rfl (by kernel_rfl) rfl rfl (by have := ha; omega) (by omega) (by decide) (by omega)) rfl (by kernel_rfl) ?_
  refine Zc (slv 2 0 (i + 1) (i + 1)) (Za (Z8 (Zb (Zg ?_))))
  refine Zl (vx := Iv (i : Nat)) (vy := Iv 1) rfl rfl (Iv ((i : Nat) + 1)) rfl rfl (Zan (by omega) (by omega) (by omega)) ?_
  refine Zd (Iv ((i : Nat) + 1)) (Za ?_)
  refine Zak ⟨((i + 1), (acc ++ [(⟨(i : Nat) + 1, (ls.getD i ⟨#[]⟩)⟩ : Field)])), ⟨Zxk hR (by omega), by omega, by rw [List.length_append, ha]; rfl⟩, by show n - (i + 1) < n - i; omega, ?_⟩
  refine Zah (n := 3) rfl ?_ (by kernel_rfl) (by kernel_rfl)
  repeat (first | exact trivial | refine ⟨.inl rfl, ?_⟩ | refine ⟨.inr ⟨rfl, rfl⟩, ?_⟩ | refine ⟨.inr ⟨congrArg (Value.int .i64) (by first | omega | (dsimp only; omega)), rfl⟩, ?_⟩)
  refine Zl (vx := Iv (i : Nat)) (vy := Iv (n : Nat)) rfl rfl (.bool false) rfl rfl (Zct (by omega)) ?_
  refine Za (Zb (Ze (Zt rfl (Zbp (Zau (Za2 (Za1 rfl (Zb (Ze (Zg (Zd (slv 2 0 i i) ?_)))))))))))
  refine Z0 (e := [some (2, 0)]) (nid := 3) (Zxy (G := G) acc i i ha (by omega) (by omega)) (vals := [slv 2 0 i i]) (v := .tuple #[slv 3 0 ((Zz acc 0 []).1.length) ((Zz acc 0 []).1.length), Iv ((Zz acc 0 []).2)]) (H' := [rfB (slv 1 0 n n), txB ls, rwB cFd acc, Zao ((Zz acc 0 []).1), hole]) rfl rfl rfl rfl rfl rfl rfl ⟨⟨⟨rfl, rfl, rfl, by first | omega | exact Nat.le_refl _, by first | omega | exact Nat.le_refl _⟩, trivial⟩, ⟨(Zbq rfl), trivial⟩, rfl, rfl, rfl⟩ (by kernel_rfl) (by kernel_rfl) ?_
  refine Zd (.tuple #[slv 3 0 ((Zz acc 0 []).1.length) ((Zz acc 0 []).1.length), Iv ((Zz acc 0 []).2)]) (Z1 (vs := #[slv 3 0 ((Zz acc 0 []).1.length) ((Zz acc 0 []).1.length), Iv ((Zz acc 0 []).2)]) (v := slv 3 0 ((Zz acc 0 []).1.length) ((Zz acc 0 []).1.length)) (Z1 (vs := #[slv 3 0 ((Zz acc 0 []).1.length) ((Zz acc 0 []).1.length), Iv ((Zz acc 0 []).2)]) (v := Iv ((Zz acc 0 []).2)) (Zc (slv 3 0 ((Zz acc 0 []).1.length) ((Zz acc 0 []).1.length)) (Zc (Iv ((Zz acc 0 []).2)) (Za (Zb (Ze (Zg (Zd (slv 3 0 ((Zz acc 0 []).1.length) ((Zz acc 0 []).1.length)) (Zc (slv 3 0 ((Zz acc 0 []).1.length) ((Zz acc 0 []).1.length)) (Za (Zb (Zr (Zs ?_))))))))))))))
  have hR' : acc = Zf7 0 ls := by rw [← hR, List.drop_of_length_le (by omega)]; simp [Zf7]
  rw [show Zcl ls = (Zz acc 0 []).1 from by rw [hR']; rfl]
  exact Za9 [0, 1, 3] (v := slv 3 0 ((Zz acc 0 []).1.length) ((Zz acc 0 []).1.length)) rfl (by kernel_rfl) rfl rfl (by decide) (by simp [Za6, rfB, txB, Zao, Zh0, Zee]) ⟨rfl, rfl, rfl, by first | omega | exact Nat.le_refl _ | exact Nat.zero_le _ | (dsimp only; omega), by first | omega | exact Nat.le_refl _ | exact Nat.zero_le _ | (dsimp only; omega)⟩
theorem Z3c (h : Head) : Z4 Tryd.prog G 90 [Zhd h] [] (.tuple #[slv 0 0 (Zbw h).1.length (Zbw h).1.length, Iv (Zbw h).2]) [Zao (Zbw h).1] := by
  refine Zbd (fn := Tryd.f90) (nt := 34) rfl rfl rfl rfl ?_
  refine Zae 4 (H' := [hole, hole, hole, hole]) rfl ?_
  refine Ze (Zg (Zbs (v := Zhd h) (b := bxB 36 (Zfm h)) (nid := 0) (H' := [bxB 36 (Zfm h), hole, hole, hole]) (Zc (.slice none 0 0) (Zc (Iv 0) (Za (Zb (Ze (Ze (Zg (Zm (p := pt 0 0) (v := Zhd h) ?_))))))))))
  refine Zq (Zrb (G := G) h) (vals := [Zhd h]) (res' := Iv (Za3 h)) rfl rfl rfl rfl rfl rfl ?_
  refine Zc (Iv (Za3 h)) (Za (Zb (Ze (Zg (Zd (Iv (Za3 h)) ?_)))))
  by_cases h1 : (Za3 h) ≠ 0
  refine Zl (vx := Iv (Za3 h)) (vy := Iv 0) rfl rfl (.bool true) rfl rfl (Zfc (by omega)) ?_
  refine Za (Zb (Zy rfl (Ze (Zg (Zd (Iv (Za3 h)) (Zc (.slice none 0 0) (Zc (Iv (Za3 h)) (Za (Zb ?_)))))))))
  refine Zb6 (Zbe.nilTmp (i := 2) (b := 1) true 1 rfl (by decide) rfl) ?_
  refine Zr (Z3 (Zs ?_))
  rw [show Zbw h = ([], (Za3 h)) from if_neg (by omega)]
  exact Za9 [1] (v := .tuple #[slv 1 0 0 0, Iv (Za3 h)]) rfl (by kernel_rfl) rfl rfl (by decide) (by simp [Za6, Zao]) ⟨⟨rfl, rfl, rfl, by first | omega | exact Nat.le_refl _ | exact Nat.zero_le _ | (dsimp only; omega), by first | omega | exact Nat.le_refl _ | exact Nat.zero_le _ | (dsimp only; omega)⟩, rfl, trivial⟩
  refine Zl (vx := Iv (Za3 h)) (vy := Iv 0) rfl rfl (.bool false) rfl rfl (Ze3 (by omega)) ?_
  refine Za (Zb (Zt rfl (Zx (Zb (Ze (Zg (Zaw (b := rfB (.slice none 0 0)) (nid := 1) (H' := [bxB 36 (Zfm h), rfB (.slice none 0 0), hole, hole]) (Za (Zb (Ze ?_))))))))))
  have hc := Zwh (h := h) (by omega)
  refine Zb6 (Zbe.nilCell (k := 1) (j := 0) (b := 2) true 1 rfl (by decide) rfl (by show 0 < 1; decide) rfl rfl) ?_
  refine Zg ?_
  refine Zgl (vs := [pt 1 0]) (ws := []) rfl rfl rfl rfl rfl ?_
  refine Zc (.func (.func 92) #[pt 1 0] #[]) (Za (Zb (Ze (Zg (Zd (.func (.func 92) #[pt 1 0] #[]) (Zi (b := 0) (o := 0) (n := 0) (o' := 0) (Zm (p := pt 0 0) (v := Iv h.region) ?_)))))))
  refine Zch (e := [some (1, 0), some (2, 0)]) (nid := 0) (Zjf (G := G) [] 0 h.region rfl (by omega) (by omega) (by omega)) (vals := [pt 1 0, Iv h.region]) (v := .tuple #[]) (H' := [bxB 36 (Zfm h), rfB (slv 2 0 1 1), txB ([] ++ [(Zo h.region).1]), hole]) rfl rfl rfl rfl rfl rfl ⟨⟨⟨rfl, rfl⟩, rfl, trivial⟩, ⟨(Zad rfl rfl rfl rfl), (Zad rfl rfl rfl rfl), trivial⟩, rfl, rfl, rfl, Nat.le_refl _⟩ (by kernel_rfl) rfl (by kernel_rfl) ?_
  refine Za (Zb (Ze (Zg (Zd (.func (.func 92) #[pt 1 0] #[]) (Zi (b := 0) (o := 0) (n := 1) (o' := 1) (Zm (p := pt 0 1) (v := Iv h.epoch) ?_))))))
  refine Zch (e := [some (1, 0), some (2, 0)]) (nid := 0) (Zjf (G := G) ([] ++ [(Zo h.region).1]) 1 h.epoch rfl (by omega) (by omega) (by omega)) (vals := [pt 1 0, Iv h.epoch]) (v := .tuple #[]) (H' := [bxB 36 (Zfm h), rfB (slv 2 0 2 2), txB (([] ++ [(Zo h.region).1]) ++ [(Zo h.epoch).1]), hole]) rfl rfl rfl rfl rfl rfl ⟨⟨⟨rfl, rfl⟩, rfl, trivial⟩, ⟨(Zad rfl rfl rfl rfl), (Zad rfl rfl rfl rfl), trivial⟩, rfl, rfl, rfl, Nat.le_refl _⟩ (by kernel_rfl) rfl (by kernel_rfl) ?_
  refine Za (Zb (Ze (Zg (Zd (.func (.func 92) #[pt 1 0] #[]) (Zi (b := 0) (o := 0) (n := 2) (o' := 2) (Zm (p := pt 0 2) (v := Iv h.size) ?_))))))
  refine Zch (e := [some (1, 0), some (2, 0)]) (nid := 0) (Zjf (G := G) (([] ++ [(Zo h.region).1]) ++ [(Zo h.epoch).1]) 2 h.size rfl (by omega) (by omega) (by omega)) (vals := [pt 1 0, Iv h.size]) (v := .tuple #[]) (H' := [bxB 36 (Zfm h), rfB (slv 2 0 3 3), txB ((([] ++ [(Zo h.region).1]) ++ [(Zo h.epoch).1]) ++ [(Zo h.size).1]), hole]) rfl rfl rfl rfl rfl rfl ⟨⟨⟨rfl, rfl⟩, rfl, trivial⟩, ⟨(Zad rfl rfl rfl rfl), (Zad rfl rfl rfl rfl), trivial⟩, rfl, rfl, rfl, Nat.le_refl _⟩ (by kernel_rfl) rfl (by kernel_rfl) ?_
  refine Za (Zb (Ze (Zg (Zi (b := 0) (o := 0) (n := 3) (o' := 3) ?_))))
  refine Zcu (p := pt 0 3) (vl := none) (vh := none) (v := slv 0 3 32 32) rfl rfl rfl rfl rfl rfl ?_
  refine Zjd (p := slv 0 3 32 32) (v := .string (Zn (dgL h.root))) rfl rfl rfl (Zg3 (l := (dgL h.root)) rfl rfl rfl rfl (of_decide_eq_true (by kernel_rfl)) (by kernel_rfl)) ?_
  refine Zch (e := [some (1, 0), some (2, 0)]) (nid := 0) (Zok (G := G) ((([] ++ [(Zo h.region).1]) ++ [(Zo h.epoch).1]) ++ [(Zo h.size).1]) 3 (Zn (dgL h.root)) rfl (by omega)) (vals := [pt 1 0, .string (Zn (dgL h.root))]) (v := .tuple #[]) (H' := [bxB 36 (Zfm h), rfB (slv 2 0 4 4), txB (((([] ++ [(Zo h.region).1]) ++ [(Zo h.epoch).1]) ++ [(Zo h.size).1]) ++ [(Zn (dgL h.root))]), hole]) rfl rfl rfl rfl rfl rfl ⟨⟨⟨rfl, rfl⟩, rfl, trivial⟩, ⟨(Zad rfl rfl rfl rfl), (Zad rfl rfl rfl rfl), trivial⟩, rfl, rfl, rfl, Nat.le_refl _⟩ (by kernel_rfl) rfl (by kernel_rfl) ?_
  refine Za (Zb (Ze (Zg (Zd (.func (.func 92) #[pt 1 0] #[]) (Zi (b := 0) (o := 0) (n := 35) (o' := 35) (Zm (p := pt 0 35) (v := Iv h.tick) ?_))))))
  refine Zch (e := [some (1, 0), some (2, 0)]) (nid := 0) (Zjf (G := G) (((([] ++ [(Zo h.region).1]) ++ [(Zo h.epoch).1]) ++ [(Zo h.size).1]) ++ [(Zn (dgL h.root))]) 4 h.tick rfl (by omega) (by omega) (by omega)) (vals := [pt 1 0, Iv h.tick]) (v := .tuple #[]) (H' := [bxB 36 (Zfm h), rfB (slv 2 0 5 5), txB ((((([] ++ [(Zo h.region).1]) ++ [(Zo h.epoch).1]) ++ [(Zo h.size).1]) ++ [(Zn (dgL h.root))]) ++ [(Zo h.tick).1]), hole]) rfl rfl rfl rfl rfl rfl ⟨⟨⟨rfl, rfl⟩, rfl, trivial⟩, ⟨(Zad rfl rfl rfl rfl), (Zad rfl rfl rfl rfl), trivial⟩, rfl, rfl, rfl, Nat.le_refl _⟩ (by kernel_rfl) rfl (by kernel_rfl) ?_
  refine Za (Zb (Ze (Zg ?_)))
  refine Zch (e := [some (1, 0), some (2, 0)]) (nid := 3) (Zrn (G := G) ((((([] ++ [(Zo h.region).1]) ++ [(Zo h.epoch).1]) ++ [(Zo h.size).1]) ++ [(Zn (dgL h.root))]) ++ [(Zo h.tick).1]) 5 rfl (by omega)) (vals := [pt 1 0]) (v := slv 3 0 ((Zcl ((((([] ++ [(Zo h.region).1]) ++ [(Zo h.epoch).1]) ++ [(Zo h.size).1]) ++ [(Zn (dgL h.root))]) ++ [(Zo h.tick).1])).length) ((Zcl ((((([] ++ [(Zo h.region).1]) ++ [(Zo h.epoch).1]) ++ [(Zo h.size).1]) ++ [(Zn (dgL h.root))]) ++ [(Zo h.tick).1])).length)) (H' := [bxB 36 (Zfm h), rfB (slv 2 0 5 5), txB ((((([] ++ [(Zo h.region).1]) ++ [(Zo h.epoch).1]) ++ [(Zo h.size).1]) ++ [(Zn (dgL h.root))]) ++ [(Zo h.tick).1]), Zao (Zcl ((((([] ++ [(Zo h.region).1]) ++ [(Zo h.epoch).1]) ++ [(Zo h.size).1]) ++ [(Zn (dgL h.root))]) ++ [(Zo h.tick).1]))]) rfl rfl rfl rfl rfl rfl ⟨⟨⟨rfl, rfl⟩, trivial⟩, ⟨(Zad rfl rfl rfl rfl), (Zad rfl rfl rfl rfl), trivial⟩, rfl, rfl, rfl, Nat.le_refl _⟩ rfl rfl (by kernel_rfl) ?_
  refine Zc (slv 3 0 ((Zcl ((((([] ++ [(Zo h.region).1]) ++ [(Zo h.epoch).1]) ++ [(Zo h.size).1]) ++ [(Zn (dgL h.root))]) ++ [(Zo h.tick).1])).length) ((Zcl ((((([] ++ [(Zo h.region).1]) ++ [(Zo h.epoch).1]) ++ [(Zo h.size).1]) ++ [(Zn (dgL h.root))]) ++ [(Zo h.tick).1])).length)) ?_
  refine Zc (Iv 0) (Za (Zb (Zr (Zs ?_))))
  rw [show Zbw h = ((Zcl ((((([] ++ [(Zo h.region).1]) ++ [(Zo h.epoch).1]) ++ [(Zo h.size).1]) ++ [(Zn (dgL h.root))]) ++ [(Zo h.tick).1])), 0) from if_pos (by omega)]
  exact Za9 [3] (v := .tuple #[slv 3 0 ((Zcl ((((([] ++ [(Zo h.region).1]) ++ [(Zo h.epoch).1]) ++ [(Zo h.size).1]) ++ [(Zn (dgL h.root))]) ++ [(Zo h.tick).1])).length) ((Zcl ((((([] ++ [(Zo h.region).1]) ++ [(Zo h.epoch).1]) ++ [(Zo h.size).1]) ++ [(Zn (dgL h.root))]) ++ [(Zo h.tick).1])).length), Iv 0]) rfl (by kernel_rfl) rfl rfl (by decide) (by simp [Za6, Zao]) ⟨⟨rfl, rfl, rfl, by first | omega | exact Nat.le_refl _ | exact Nat.zero_le _ | (dsimp only; omega), by first | omega | exact Nat.le_refl _ | exact Nat.zero_le _ | (dsimp only; omega)⟩, rfl, trivial⟩
end Go.Flat
namespace Go.Flat
open Go.Proofs
variable {G : Glob}
def Z6a (key : D) : D := fun i => if i < 32 then key i else 0
def Z5m (c : D) (x : BitVec 8) (j : Nat) : D := fun i => if i < j then c i ^^^ x else c i
def Zyc (key : D) (x : BitVec 8) : ByteArray := Zn (Zmf 64 (Z5m (Z6a key) x 64))
def Zzh (kk : Nat → BitVec 32) (key : D) (s : ByteArray) : D := Zck kk (Zdx [Zyc key 92#8, Zn (dgL (Zck kk (Zdx [Zyc key 54#8, s])))])
def Z5v (a b : D) : Nat → BitVec 8
  | 0 => 0
  | j + 1 => Z5v a b j ||| (a j ^^^ b j)
def Zy2 (kk : Nat → BitVec 32) (master : D) (region node : Int) : D × Int := if (1 ≤ region ∧ region ≤ 5) ∧ (1 ≤ node ∧ node ≤ 3) then (Zzh kk master (Zn [75#8, BitVec.ofInt 8 region, BitVec.ofInt 8 node]), 0) else (dz, 50)
def Z3q (kk : Nat → BitVec 32) (master : D) (region node : Int) (s : ByteArray) (t : D) : Int :=
  if ((Zy2 kk master region node).2) ≠ 0 then ((Zy2 kk master region node).2) else
  if Zfo 32 (Zzh kk ((Zy2 kk master region node).1) s) t = true then 0 else
  72
end Go.Flat
namespace Go.Flat
open Go.Proofs
variable {G : Glob}
def Zzj : ByteArray := ⟨#[104, 101, 97, 100, 32]⟩
theorem Zzy (h : Head) : (Zbw h).2 = Za3 h := by
 unfold Zbw
 split
 ·rename_i h0; exact h0.symm
 ·rfl
def Zmh : List Field → Nat
  | [] => 0
  | f :: l => f.data.size + 4 + Zmh l
theorem Zgx : ∀ (fs : List Field) (last : Int) (acc : Bs), (Zz fs last acc).1.length ≤ acc.length + Zmh fs
 | [], _, acc => by simp [Zz, Zmh]
 | f :: fs, last, acc => by
  rw [Zz]
  split
  ·have := Zgx fs f.tag (acc ++ Zic f)
   rw [List.length_append, Znu] at this
   simp only [Zmh]; omega
  ·simp
theorem Zsm : ∀ (f n a : Nat) (b : D), (Zma f n a b).length ≤ 8
 | 0, n, a, b => by rw [Zma, List.length_drop, Zlg]; omega
 | f + 1, n, a, b => by
  rw [Zma]
  split
  ·rw [List.length_drop, Zlg]; omega
  ·exact Zsm f _ _ _
theorem Zay (n : Int) : (Zo n).1.size ≤ 8 := by
 unfold Zo
 split
 ·rw [Zb8]; exact Zsm _ _ _ _
 ·show 0 ≤ 8; omega
theorem Zzw (h : Head) : (Zbw h).1.length ≤ 100 := by
 unfold Zbw
 split
 ·have := Zgx (Zf7 0 (Zhw h)) 0 []
  simp only [Zhw, Zf7, Zmh, Zb8, Zjl, List.length_nil] at this
  have h1 := Zay h.region
  have h2 := Zay h.epoch
  have h3 := Zay h.size
  have h4 := Zay h.tick
  show (Zz (Zf7 0 (Zhw h)) 0 []).1.length ≤ 100
  simp only [Zhw, Zf7]
  omega
 ·simp
def Zap (s : Signed) : Bs × Int := if Za3 s.head = 0 ∧ 1 ≤ s.node ∧ s.node ≤ 3 then (Zcl [Zn (Zbw s.head).1, (Zo s.node).1, Zn (dgL s.tag)], 0) else ([], 70)
def Z6x (kk : Nat → BitVec 32) (master : D) (h : Head) (node : Int) : Signed × Int :=
  if ((Zbw h).2) ≠ 0 then ((⟨(⟨0, 0, 0, dz, 0⟩ : Head), 0, dz⟩ : Signed), ((Zbw h).2)) else
  if ((Zy2 kk master h.region node).2) ≠ 0 then ((⟨(⟨0, 0, 0, dz, 0⟩ : Head), 0, dz⟩ : Signed), 70) else
  ((⟨h, node, (Zzh kk ((Zy2 kk master h.region node).1) (Zzj ++ (Zn ((Zbw h).1))))⟩ : Signed), 0)
def Z5q (kk : Nat → BitVec 32) (master : D) (s : Signed) : Int :=
  if ((Zbw s.head).2) ≠ 0 then 70 else
  if 1 ≤ s.node then (if s.node ≤ 3 then (Z3q kk master s.head.region s.node (Zzj ++ (Zn ((Zbw s.head).1))) s.tag) else
  70) else
  70
theorem Zqd (s : Signed) : Z4 Tryd.prog G 86 [Zf0 s] [] (.tuple #[slv 0 0 (Zap s).1.length (Zap s).1.length, Iv (Zap s).2]) [Zao (Zap s).1] := by
  refine Zbd (fn := Tryd.f86) (nt := 32) rfl rfl rfl rfl ?_
  refine Zae 5 (H' := [hole, hole, hole, hole, hole]) rfl ?_
  refine Ze (Zg (Zbs (v := Zf0 s) (b := bxB 69 (Zd0 s)) (nid := 0) (H' := [bxB 69 (Zd0 s), hole, hole, hole, hole]) (Zc (.slice none 0 0) (Zc (Iv 0) (Za (Zb (Ze (Zg (Zi (b := 0) (o := 0) (n := 0) (o' := 0) (Zm (p := pt 0 0) (v := Zhd s.head) ?_))))))))))
  have hpe6 := Zzy s.head
  have hpl6 := Zzw s.head
  refine Z0 (e := []) (nid := 1) (Z3c (G := G) s.head) (vals := [Zhd s.head]) (v := .tuple #[slv 1 0 ((Zbw s.head).1.length) ((Zbw s.head).1.length), Iv ((Zbw s.head).2)]) (H' := [bxB 69 (Zd0 s), Zao ((Zbw s.head).1), hole, hole, hole]) rfl rfl rfl rfl rfl rfl rfl ⟨⟨rfl, trivial⟩, trivial, rfl, rfl, rfl⟩ (by kernel_rfl) (by kernel_rfl) ?_
  refine Zd (.tuple #[slv 1 0 ((Zbw s.head).1.length) ((Zbw s.head).1.length), Iv ((Zbw s.head).2)]) (Z1 (vs := #[slv 1 0 ((Zbw s.head).1.length) ((Zbw s.head).1.length), Iv ((Zbw s.head).2)]) (v := slv 1 0 ((Zbw s.head).1.length) ((Zbw s.head).1.length)) (Z1 (vs := #[slv 1 0 ((Zbw s.head).1.length) ((Zbw s.head).1.length), Iv ((Zbw s.head).2)]) (v := Iv ((Zbw s.head).2)) (Zc (slv 1 0 ((Zbw s.head).1.length) ((Zbw s.head).1.length)) (Zc (Iv ((Zbw s.head).2)) (Za (Zb (Ze (Ze (Zg (Zd (Iv ((Zbw s.head).2)) ?_))))))))))
  by_cases h1 : ((Zbw s.head).2) ≠ 0
  refine Zl (vx := Iv ((Zbw s.head).2)) (vy := Iv 0) rfl rfl (.bool true) rfl rfl (Zfc (by omega)) ?_
  refine Zd (.bool true) (Zf (Zf (Zf (Zf (Zj (.bool true) (Za (Zb (Zy rfl (Ze (Zg (Zc (.slice none 0 0) (Zc (Iv 70) (Za (Zb ?_))))))))))))))
  refine Zb6 (Zbe.nilTmp (i := 2) (b := 2) true 1 rfl (by decide) rfl) ?_
  refine Zr (Z3 (Zs ?_))
  rw [show Zap s = ([], 70) from if_neg (by omega)]
  exact Za9 [2] (v := .tuple #[slv 2 0 0 0, Iv 70]) rfl (by kernel_rfl) rfl rfl (by decide) (by simp [Za6, Zao]) ⟨⟨rfl, rfl, rfl, by first | omega | exact Nat.le_refl _ | exact Nat.zero_le _ | (dsimp only; omega), by first | omega | exact Nat.le_refl _ | exact Nat.zero_le _ | (dsimp only; omega)⟩, rfl, trivial⟩
  refine Zl (vx := Iv ((Zbw s.head).2)) (vy := Iv 0) rfl rfl (.bool false) rfl rfl (Ze3 (by omega)) ?_
  refine Zd (.bool false) (Zi (b := 0) (o := 0) (n := 36) (o' := 36) (Zm (p := pt 0 36) (v := Iv s.node) ?_))
  by_cases h2 : 1 ≤ s.node
  by_cases h3 : s.node ≤ 3
  refine Zq ((Zco (G := G) s.node 1 3).res (congrArg Value.bool (Zbn (by omega) (by omega)))) (vals := [Iv s.node, Iv 1, Iv 3]) (res' := .bool true) rfl rfl rfl rfl rfl rfl ?_
  refine Zgz (vx := .bool true) rfl rfl (.bool false) rfl Zdk ?_
  refine Zj (.bool false) (Za (Zb (Zt rfl (Zx (Zb (Ze (Zg (Zaw (b := rfB (.slice none 0 0)) (nid := 2) (H' := [bxB 69 (Zd0 s), Zao ((Zbw s.head).1), rfB (.slice none 0 0), hole, hole]) (Za (Zb (Ze ?_)))))))))))
  refine Zb6 (Zbe.nilCell (k := 2) (j := 0) (b := 3) true 1 rfl (by decide) rfl (by show 0 < 1; decide) rfl rfl) ?_
  refine Zg (Zd (slv 1 0 ((Zbw s.head).1.length) ((Zbw s.head).1.length)) ?_)
  refine Zjd (p := slv 1 0 ((Zbw s.head).1.length) ((Zbw s.head).1.length)) (v := .string (Zn ((Zbw s.head).1))) rfl rfl rfl (Zh4 rfl rfl rfl rfl rfl (by omega)) ?_
  refine Zch (e := [some (2, 0), some (3, 0)]) (nid := 0) (Zok (G := G) [] 0 (Zn ((Zbw s.head).1)) rfl (by omega)) (vals := [pt 2 0, .string (Zn ((Zbw s.head).1))]) (v := .tuple #[]) (H' := [bxB 69 (Zd0 s), Zao ((Zbw s.head).1), rfB (slv 3 0 1 1), txB ([] ++ [(Zn ((Zbw s.head).1))]), hole]) rfl rfl rfl rfl rfl rfl ⟨⟨⟨rfl, rfl⟩, rfl, trivial⟩, ⟨(Zad rfl rfl rfl rfl), (Zad rfl rfl rfl rfl), trivial⟩, rfl, rfl, rfl, Nat.le_refl _⟩ (by kernel_rfl) rfl (by kernel_rfl) ?_
  refine Za (Zb (Ze (Zg (Zi (b := 0) (o := 0) (n := 36) (o' := 36) (Zm (p := pt 0 36) (v := Iv s.node) ?_)))))
  refine Zch (e := [some (2, 0), some (3, 0)]) (nid := 0) (Zjf (G := G) ([] ++ [(Zn ((Zbw s.head).1))]) 1 s.node rfl (by omega) (by omega) (by omega)) (vals := [pt 2 0, Iv s.node]) (v := .tuple #[]) (H' := [bxB 69 (Zd0 s), Zao ((Zbw s.head).1), rfB (slv 3 0 2 2), txB (([] ++ [(Zn ((Zbw s.head).1))]) ++ [(Zo s.node).1]), hole]) rfl rfl rfl rfl rfl rfl ⟨⟨⟨rfl, rfl⟩, rfl, trivial⟩, ⟨(Zad rfl rfl rfl rfl), (Zad rfl rfl rfl rfl), trivial⟩, rfl, rfl, rfl, Nat.le_refl _⟩ (by kernel_rfl) rfl (by kernel_rfl) ?_
  refine Za (Zb (Ze (Zg (Zi (b := 0) (o := 0) (n := 37) (o' := 37) ?_))))
  refine Zcu (p := pt 0 37) (vl := none) (vh := none) (v := slv 0 37 32 32) rfl rfl rfl rfl rfl rfl ?_
  refine Zjd (p := slv 0 37 32 32) (v := .string (Zn (dgL s.tag))) rfl rfl rfl (Zg3 (l := (dgL s.tag)) rfl rfl rfl rfl (of_decide_eq_true (by kernel_rfl)) (by kernel_rfl)) ?_
  refine Zch (e := [some (2, 0), some (3, 0)]) (nid := 0) (Zok (G := G) (([] ++ [(Zn ((Zbw s.head).1))]) ++ [(Zo s.node).1]) 2 (Zn (dgL s.tag)) rfl (by omega)) (vals := [pt 2 0, .string (Zn (dgL s.tag))]) (v := .tuple #[]) (H' := [bxB 69 (Zd0 s), Zao ((Zbw s.head).1), rfB (slv 3 0 3 3), txB ((([] ++ [(Zn ((Zbw s.head).1))]) ++ [(Zo s.node).1]) ++ [(Zn (dgL s.tag))]), hole]) rfl rfl rfl rfl rfl rfl ⟨⟨⟨rfl, rfl⟩, rfl, trivial⟩, ⟨(Zad rfl rfl rfl rfl), (Zad rfl rfl rfl rfl), trivial⟩, rfl, rfl, rfl, Nat.le_refl _⟩ (by kernel_rfl) rfl (by kernel_rfl) ?_
  refine Za (Zb (Ze (Zg ?_)))
  refine Zch (e := [some (2, 0), some (3, 0)]) (nid := 4) (Zrn (G := G) ((([] ++ [(Zn ((Zbw s.head).1))]) ++ [(Zo s.node).1]) ++ [(Zn (dgL s.tag))]) 3 rfl (by omega)) (vals := [pt 2 0]) (v := slv 4 0 ((Zcl ((([] ++ [(Zn ((Zbw s.head).1))]) ++ [(Zo s.node).1]) ++ [(Zn (dgL s.tag))])).length) ((Zcl ((([] ++ [(Zn ((Zbw s.head).1))]) ++ [(Zo s.node).1]) ++ [(Zn (dgL s.tag))])).length)) (H' := [bxB 69 (Zd0 s), Zao ((Zbw s.head).1), rfB (slv 3 0 3 3), txB ((([] ++ [(Zn ((Zbw s.head).1))]) ++ [(Zo s.node).1]) ++ [(Zn (dgL s.tag))]), Zao (Zcl ((([] ++ [(Zn ((Zbw s.head).1))]) ++ [(Zo s.node).1]) ++ [(Zn (dgL s.tag))]))]) rfl rfl rfl rfl rfl rfl ⟨⟨⟨rfl, rfl⟩, trivial⟩, ⟨(Zad rfl rfl rfl rfl), (Zad rfl rfl rfl rfl), trivial⟩, rfl, rfl, rfl, Nat.le_refl _⟩ rfl rfl (by kernel_rfl) ?_
  refine Zc (slv 4 0 ((Zcl ((([] ++ [(Zn ((Zbw s.head).1))]) ++ [(Zo s.node).1]) ++ [(Zn (dgL s.tag))])).length) ((Zcl ((([] ++ [(Zn ((Zbw s.head).1))]) ++ [(Zo s.node).1]) ++ [(Zn (dgL s.tag))])).length)) ?_
  refine Zc (Iv 0) (Za (Zb (Zr (Zs ?_))))
  rw [show Zap s = ((Zcl ((([] ++ [(Zn ((Zbw s.head).1))]) ++ [(Zo s.node).1]) ++ [(Zn (dgL s.tag))])), 0) from if_pos (by omega)]
  exact Za9 [4] (v := .tuple #[slv 4 0 ((Zcl ((([] ++ [(Zn ((Zbw s.head).1))]) ++ [(Zo s.node).1]) ++ [(Zn (dgL s.tag))])).length) ((Zcl ((([] ++ [(Zn ((Zbw s.head).1))]) ++ [(Zo s.node).1]) ++ [(Zn (dgL s.tag))])).length), Iv 0]) rfl (by kernel_rfl) rfl rfl (by decide) (by simp [Za6, Zao]) ⟨⟨rfl, rfl, rfl, by first | omega | exact Nat.le_refl _ | exact Nat.zero_le _ | (dsimp only; omega), by first | omega | exact Nat.le_refl _ | exact Nat.zero_le _ | (dsimp only; omega)⟩, rfl, trivial⟩
  refine Zq ((Zco (G := G) s.node 1 3).res (congrArg Value.bool (Zab (by omega)))) (vals := [Iv s.node, Iv 1, Iv 3]) (res' := .bool false) rfl rfl rfl rfl rfl rfl ?_
  refine Zgz (vx := .bool false) rfl rfl (.bool true) rfl Zdk ?_
  refine Zj (.bool true) (Za (Zb (Zy rfl (Ze (Zg (Zc (.slice none 0 0) (Zc (Iv 70) (Za (Zb ?_)))))))))
  refine Zb6 (Zbe.nilTmp (i := 2) (b := 2) true 1 rfl (by decide) rfl) ?_
  refine Zr (Z3 (Zs ?_))
  rw [show Zap s = ([], 70) from if_neg (by omega)]
  exact Za9 [2] (v := .tuple #[slv 2 0 0 0, Iv 70]) rfl (by kernel_rfl) rfl rfl (by decide) (by simp [Za6, Zao]) ⟨⟨rfl, rfl, rfl, by first | omega | exact Nat.le_refl _ | exact Nat.zero_le _ | (dsimp only; omega), by first | omega | exact Nat.le_refl _ | exact Nat.zero_le _ | (dsimp only; omega)⟩, rfl, trivial⟩
  refine Zq ((Zco (G := G) s.node 1 3).res (congrArg Value.bool (Zab (by omega)))) (vals := [Iv s.node, Iv 1, Iv 3]) (res' := .bool false) rfl rfl rfl rfl rfl rfl ?_
  refine Zgz (vx := .bool false) rfl rfl (.bool true) rfl Zdk ?_
  refine Zj (.bool true) (Za (Zb (Zy rfl (Ze (Zg (Zc (.slice none 0 0) (Zc (Iv 70) (Za (Zb ?_)))))))))
  refine Zb6 (Zbe.nilTmp (i := 2) (b := 2) true 1 rfl (by decide) rfl) ?_
  refine Zr (Z3 (Zs ?_))
  rw [show Zap s = ([], 70) from if_neg (by omega)]
  exact Za9 [2] (v := .tuple #[slv 2 0 0 0, Iv 70]) rfl (by kernel_rfl) rfl rfl (by decide) (by simp [Za6, Zao]) ⟨⟨rfl, rfl, rfl, by first | omega | exact Nat.le_refl _ | exact Nat.zero_le _ | (dsimp only; omega), by first | omega | exact Nat.le_refl _ | exact Nat.zero_le _ | (dsimp only; omega)⟩, rfl, trivial⟩
end Go.Flat
namespace Go.Flat
open Go.Proofs
variable {G : Glob}
def beL : Nat → Nat → Bs → Bs
  | 0, _, l => l
  | f + 1, n, l => if n = 0 then l else beL f (n / 256) (BitVec.ofInt 8 (n : Int) :: l)
def Z2c : Nat → List ByteArray → Bs
  | _, [] => []
  | k, x :: l => Zic ⟨(k : Int) + 1, x⟩ ++ Z2c (k + 1) l
theorem Zw8 {f : Field} {last : Int} (h1 : last < f.tag) (h2 : f.tag ≤ 255) (h3 : f.data.size ≤ 65536) : Zew f last = 0 := by
 unfold Zew
 rw [if_neg (by omega), if_neg (by omega), if_neg (by omega)]
theorem Zl7 : ∀ (ls : List ByteArray) (k : Nat) (acc : Bs), k + ls.length ≤ 255 → (∀ x, x ∈ ls → x.size ≤ 65536) → Zz (Zf7 k ls) (k : Nat) acc = (acc ++ Z2c k ls, 0)
 | [], k, acc, _, _ => by simp [Zz, Zf7, Z2c]
 | x :: l, k, acc, h, hs => by
  simp only [List.length_cons] at h
  rw [Zf7, Zz, if_pos (Zw8 (by dsimp only; omega) (by dsimp only; omega) (hs x (by simp))), Z2c]
  have := Zl7 l (k + 1) (acc ++ Zic ⟨(k : Int) + 1, x⟩) (by omega) (fun y hy => hs y (by simp [hy]))
  rw [show ((k + 1 : Nat) : Int) = (k : Int) + 1 by omega] at this
  rw [this, List.append_assoc]
end Go.Flat
namespace Go.Flat
open Go.Proofs
variable {G : Glob}
theorem Zzx {h : Head} (hr : Zkj h) : Zbw h = (Zcl (Zhw h), 0) := by
 unfold Zbw
 rw [if_pos (by rw [Zht, if_pos hr])]
theorem Ztq (h : Head) : (Zcl (Zhw h)).length ≤ 100 := by
 have := Zgx (Zf7 0 (Zhw h)) 0 []
 simp only [Zhw, Zf7, Zmh, Zb8, Zjl, List.length_nil] at this
 have h1 := Zay h.region
 have h2 := Zay h.epoch
 have h3 := Zay h.size
 have h4 := Zay h.tick
 show (Zz (Zf7 0 (Zhw h)) 0 []).1.length ≤ 100
 simp only [Zhw, Zf7]
 omega
def Zll (s : Signed) : List ByteArray := [Zn (Zcl (Zhw s.head)), (Zo s.node).1, Zn (dgL s.tag)]
def Zt9 (s : Signed) : Prop := Zkj s.head ∧ 1 ≤ s.node ∧ s.node ≤ 3
instance (s : Signed) : Decidable (Zt9 s) := inferInstanceAs (Decidable (_ ∧ _))
theorem Zxf {s : Signed} (h : Zt9 s) : Zap s = (Zcl (Zll s), 0) := by
 unfold Zap
 rw [if_pos ⟨by rw [Zht, if_pos h.1], h.2⟩, Zzx h.1]
 try rfl
theorem Zxe {s : Signed} (h : ¬ Zt9 s) : Zap s = ([], 70) := by
 unfold Zap
 rw [if_neg]
 rintro ⟨h1, h2⟩
 refine h ⟨?_, h2⟩
 rw [Zht] at h1
 split at h1
 ·assumption
 ·omega
def Z5f (kk : Nat → BitVec 32) (master : D) (h : Head) (node : Int) : D := Zzh kk (Zzh kk master (Zn [75#8, BitVec.ofInt 8 h.region, BitVec.ofInt 8 node])) (Zzj ++ Zn (Zcl (Zhw h)))
def Z29 : Signed := ⟨⟨0, 0, 0, dz, 0⟩, 0, dz⟩
def Z6y (kk : Nat → BitVec 32) (master : D) (h : Head) (node : Int) : Signed × Int := if Zkj h ∧ 1 ≤ node ∧ node ≤ 3 then (⟨h, node, Z5f kk master h node⟩, 0) else (Z29, 70)
def Z5r (kk : Nat → BitVec 32) (master : D) (s : Signed) : Int := if Zt9 s then (if Zfo 32 (Z5f kk master s.head s.node) s.tag = true then 0 else 72) else 70
end Go.Flat
