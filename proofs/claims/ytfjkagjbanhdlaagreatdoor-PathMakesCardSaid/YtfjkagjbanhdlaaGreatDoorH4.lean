/- Walks. -/
import Derived.Test.YtfjkagjbanhdlaaGreatDoorH3
set_option linter.unusedVariables false
set_option linter.unusedSimpArgs false
set_option maxRecDepth 20000
namespace Go.Flat
open Go.Proofs
variable {G : Glob}
structure Head where
  region : Int
  epoch : Int
  size : Int
  root : D
  tick : Int
structure Signed where
  head : Head
  node : Int
  tag : D
def Zcz (h : Head) : List Value := [.int .i64 h.region, .int .i64 h.epoch, .int .i64 h.size] ++ Zag w8 32 h.root ++ [.int .i64 h.tick]
def Zcd (h : Head) : Value := .agg (Zcz h).toArray
def Zj (s : Signed) : List Value := Zcz s.head ++ [.int .i64 s.node] ++ Zag w8 32 s.tag
def Zy (s : Signed) : Value := .agg (Zj s).toArray
def Zhn : Nat → List ByteArray → List Field
  | _, [] => []
  | k, x :: l => ⟨(k : Int) + 1, x⟩ :: Zhn (k + 1) l
def Zai (ls : List ByteArray) : Bs := (Z9 (Zhn 0 ls) 0 []).1
theorem Z15 {ls : List ByteArray} {i : Nat} {acc R : List Field} (hR : acc ++ Zhn i (ls.drop i) = R) (hi : i < ls.length) : (acc ++ [⟨(i : Int) + 1, ls.getD i ⟨#[]⟩⟩]) ++ Zhn (i + 1) (ls.drop (i + 1)) = R := by
 have e : ls.drop i = ls.getD i ⟨#[]⟩ :: ls.drop (i + 1) := by
  rw [List.drop_eq_getElem_cons hi, List.getD_eq_getElem?_getD, List.getElem?_eq_getElem hi]; rfl
 rw [e, Zhn] at hR
 rw [← hR, List.append_assoc]; rfl
def Zcx (n low high : Int) : Bool :=
  if low ≤ n then (if n ≤ high then true else
  false) else
  false
theorem Zc5 (n low high : Int) : Z6 Tryz.prog G 33 [Iv n, Iv low, Iv high] [] (.bool (Zcx n low high)) [] := by
 refine Za8 (fn := Tryz.f33) (nt := 15) rfl rfl rfl rfl ?_
 refine Zf (Zg (Zb (.bool false) (Za (Zc (Zf (Zg (Zd (Iv n) (Zd (Iv low) ?_))))))))
 by_cases h1 : low ≤ n
 refine Zl (vx := Iv n) (vy := Iv low) rfl rfl (.bool true) rfl rfl (Zgm (by omega)) ?_
 refine Zd (.bool true) (Zd (Iv n) (Zd (Iv high) ?_))
 by_cases h2 : n ≤ high
 refine Zl (vx := Iv n) (vy := Iv high) rfl rfl (.bool true) rfl rfl (Zo5 (by omega)) ?_
 refine Zi (.bool true) (Zb (.bool true) (Za (Zc (Zq (Zr ?_)))))
 rw [show Zcx n low high = true from by unfold Zcx; rw [if_pos h1, if_pos h2]]
 exact Zk (v := .bool true) rfl rfl rfl (by kernel_rfl) rfl
 refine Zl (vx := Iv n) (vy := Iv high) rfl rfl (.bool false) rfl rfl (Znp (by omega)) ?_
 refine Zi (.bool false) (Zb (.bool false) (Za (Zc (Zq (Zr ?_)))))
 rw [show Zcx n low high = false from by unfold Zcx; rw [if_pos h1, if_neg h2]]
 exact Zk (v := .bool false) rfl rfl rfl (by kernel_rfl) rfl
 refine Zl (vx := Iv n) (vy := Iv low) rfl rfl (.bool false) rfl rfl (Zg1 (by omega)) ?_
 refine Zd (.bool false) (Ze (Ze (Ze (Zi (.bool false) (Zb (.bool false) (Za (Zc (Zq (Zr ?_)))))))))
 rw [show Zcx n low high = false from by unfold Zcx; rw [if_neg h1]]
 exact Zk (v := .bool false) rfl rfl rfl (by kernel_rfl) rfl
theorem Zbc {n low high : Int} (h1 : low ≤ n) (h2 : n ≤ high) : Zcx n low high = true := by unfold Zcx; rw [if_pos h1, if_pos h2]
theorem Z8 {n low high : Int} (h : n < low ∨ high < n) : Zcx n low high = false := by
 unfold Zcx
 by_cases h1 : low ≤ n
 ·rw [if_pos h1, if_neg (by omega)]
 ·rw [if_neg h1]
def Zbn (h : Head) : Int :=
  if 1 ≤ h.region then (if h.region ≤ 5 then (if 1 ≤ h.epoch then (if h.epoch ≤ 900000000 then (if 0 ≤ h.size then (if h.size ≤ 100000 then (if 0 ≤ h.tick then (if h.tick ≤ 900000000 then 0 else
  70) else
  70) else
  70) else
  70) else
  70) else
  70) else
  70) else
  70
theorem Zqw (h : Head) : Z6 Tryz.prog G 61 [Zcd h] [] (Iv (Zbn h)) [] := by
 refine Za8 (fn := Tryz.f61) (nt := 21) rfl rfl rfl rfl ?_
 refine Zaa 1 (H' := [hole]) rfl ?_
 refine Zf (Zg (Zbq (v := Zcd h) (b := bxB 36 (Zcz h)) (nid := 0) (H' := [bxB 36 (Zcz h)]) (Zb (Iv 0) (Za (Zc (Zf (Zf (Zg (Zh (b := 0) (o := 0) (n := 0) (o' := 0) (Zp (p := pt 0 0) (v := Iv h.region) ?_))))))))))
 by_cases h1 : 1 ≤ h.region
 by_cases h2 : h.region ≤ 5
 refine Zo ((Zc5 (G := G) h.region 1 5).res (congrArg Value.bool (Zbc (by omega) (by omega)))) (vals := [Iv h.region, Iv 1, Iv 5]) (res' := .bool true) rfl rfl rfl rfl rfl rfl ?_
 refine Zd (.bool true) (Zh (b := 0) (o := 0) (n := 1) (o' := 1) (Zp (p := pt 0 1) (v := Iv h.epoch) ?_))
 by_cases h3 : 1 ≤ h.epoch
 by_cases h4 : h.epoch ≤ 900000000
 refine Zo ((Zc5 (G := G) h.epoch 1 900000000).res (congrArg Value.bool (Zbc (by omega) (by omega)))) (vals := [Iv h.epoch, Iv 1, Iv 900000000]) (res' := .bool true) rfl rfl rfl rfl rfl rfl ?_
 refine Zi (.bool true) (Zd (.bool true) (Zh (b := 0) (o := 0) (n := 2) (o' := 2) (Zp (p := pt 0 2) (v := Iv h.size) ?_)))
 by_cases h5 : 0 ≤ h.size
 by_cases h6 : h.size ≤ 100000
 refine Zo ((Zc5 (G := G) h.size 0 100000).res (congrArg Value.bool (Zbc (by omega) (by omega)))) (vals := [Iv h.size, Iv 0, Iv 100000]) (res' := .bool true) rfl rfl rfl rfl rfl rfl ?_
 refine Zi (.bool true) (Zd (.bool true) (Zh (b := 0) (o := 0) (n := 35) (o' := 35) (Zp (p := pt 0 35) (v := Iv h.tick) ?_)))
 by_cases h7 : 0 ≤ h.tick
 by_cases h8 : h.tick ≤ 900000000
 refine Zo ((Zc5 (G := G) h.tick 0 900000000).res (congrArg Value.bool (Zbc (by omega) (by omega)))) (vals := [Iv h.tick, Iv 0, Iv 900000000]) (res' := .bool true) rfl rfl rfl rfl rfl rfl ?_
 refine Zi (.bool true) (Za (Zc (Zx rfl (Zf (Zg (Zb (Iv 0) (Za (Zc (Zq (Zz (Zr ?_)))))))))))
 rw [show Zbn h = 0 from by unfold Zbn; rw [if_pos h1, if_pos h2, if_pos h3, if_pos h4, if_pos h5, if_pos h6, if_pos h7, if_pos h8]]
 exact Zk (v := Iv 0) rfl rfl rfl (by kernel_rfl) rfl
 refine Zo ((Zc5 (G := G) h.tick 0 900000000).res (congrArg Value.bool (Z8 (by omega)))) (vals := [Iv h.tick, Iv 0, Iv 900000000]) (res' := .bool false) rfl rfl rfl rfl rfl rfl ?_
 refine Zi (.bool false) (Za (Zc (Zu rfl (Z0 (Zc (Zf (Zg (Zb (Iv 70) (Za (Zc (Zq (Zr ?_))))))))))))
 rw [show Zbn h = 70 from by unfold Zbn; rw [if_pos h1, if_pos h2, if_pos h3, if_pos h4, if_pos h5, if_pos h6, if_pos h7, if_neg h8]]
 exact Zk (v := Iv 70) rfl rfl rfl (by kernel_rfl) rfl
 refine Zo ((Zc5 (G := G) h.tick 0 900000000).res (congrArg Value.bool (Z8 (by omega)))) (vals := [Iv h.tick, Iv 0, Iv 900000000]) (res' := .bool false) rfl rfl rfl rfl rfl rfl ?_
 refine Zi (.bool false) (Za (Zc (Zu rfl (Z0 (Zc (Zf (Zg (Zb (Iv 70) (Za (Zc (Zq (Zr ?_))))))))))))
 rw [show Zbn h = 70 from by unfold Zbn; rw [if_pos h1, if_pos h2, if_pos h3, if_pos h4, if_pos h5, if_pos h6, if_neg h7]]
 exact Zk (v := Iv 70) rfl rfl rfl (by kernel_rfl) rfl
 refine Zo ((Zc5 (G := G) h.size 0 100000).res (congrArg Value.bool (Z8 (by omega)))) (vals := [Iv h.size, Iv 0, Iv 100000]) (res' := .bool false) rfl rfl rfl rfl rfl rfl ?_
 refine Zi (.bool false) (Zd (.bool false) (Ze (Ze (Ze (Zi (.bool false) (Za (Zc (Zu rfl (Z0 (Zc (Zf (Zg (Zb (Iv 70) (Za (Zc (Zq (Zr ?_)))))))))))))))))
 rw [show Zbn h = 70 from by unfold Zbn; rw [if_pos h1, if_pos h2, if_pos h3, if_pos h4, if_pos h5, if_neg h6]]
 exact Zk (v := Iv 70) rfl rfl rfl (by kernel_rfl) rfl
 refine Zo ((Zc5 (G := G) h.size 0 100000).res (congrArg Value.bool (Z8 (by omega)))) (vals := [Iv h.size, Iv 0, Iv 100000]) (res' := .bool false) rfl rfl rfl rfl rfl rfl ?_
 refine Zi (.bool false) (Zd (.bool false) (Ze (Ze (Ze (Zi (.bool false) (Za (Zc (Zu rfl (Z0 (Zc (Zf (Zg (Zb (Iv 70) (Za (Zc (Zq (Zr ?_)))))))))))))))))
 rw [show Zbn h = 70 from by unfold Zbn; rw [if_pos h1, if_pos h2, if_pos h3, if_pos h4, if_neg h5]]
 exact Zk (v := Iv 70) rfl rfl rfl (by kernel_rfl) rfl
 refine Zo ((Zc5 (G := G) h.epoch 1 900000000).res (congrArg Value.bool (Z8 (by omega)))) (vals := [Iv h.epoch, Iv 1, Iv 900000000]) (res' := .bool false) rfl rfl rfl rfl rfl rfl ?_
 refine Zi (.bool false) (Zd (.bool false) (Ze (Ze (Ze (Zi (.bool false) (Zd (.bool false) (Ze (Ze (Ze (Zi (.bool false) (Za (Zc (Zu rfl (Z0 (Zc (Zf (Zg (Zb (Iv 70) (Za (Zc (Zq (Zr ?_))))))))))))))))))))))
 rw [show Zbn h = 70 from by unfold Zbn; rw [if_pos h1, if_pos h2, if_pos h3, if_neg h4]]
 exact Zk (v := Iv 70) rfl rfl rfl (by kernel_rfl) rfl
 refine Zo ((Zc5 (G := G) h.epoch 1 900000000).res (congrArg Value.bool (Z8 (by omega)))) (vals := [Iv h.epoch, Iv 1, Iv 900000000]) (res' := .bool false) rfl rfl rfl rfl rfl rfl ?_
 refine Zi (.bool false) (Zd (.bool false) (Ze (Ze (Ze (Zi (.bool false) (Zd (.bool false) (Ze (Ze (Ze (Zi (.bool false) (Za (Zc (Zu rfl (Z0 (Zc (Zf (Zg (Zb (Iv 70) (Za (Zc (Zq (Zr ?_))))))))))))))))))))))
 rw [show Zbn h = 70 from by unfold Zbn; rw [if_pos h1, if_pos h2, if_neg h3]]
 exact Zk (v := Iv 70) rfl rfl rfl (by kernel_rfl) rfl
 refine Zo ((Zc5 (G := G) h.region 1 5).res (congrArg Value.bool (Z8 (by omega)))) (vals := [Iv h.region, Iv 1, Iv 5]) (res' := .bool false) rfl rfl rfl rfl rfl rfl ?_
 refine Zd (.bool false) (Ze (Ze (Ze (Zi (.bool false) (Zd (.bool false) (Ze (Ze (Ze (Zi (.bool false) (Zd (.bool false) (Ze (Ze (Ze (Zi (.bool false) (Za (Zc (Zu rfl (Z0 (Zc (Zf (Zg (Zb (Iv 70) (Za (Zc (Zq (Zr ?_))))))))))))))))))))))))))
 rw [show Zbn h = 70 from by unfold Zbn; rw [if_pos h1, if_neg h2]]
 exact Zk (v := Iv 70) rfl rfl rfl (by kernel_rfl) rfl
 refine Zo ((Zc5 (G := G) h.region 1 5).res (congrArg Value.bool (Z8 (by omega)))) (vals := [Iv h.region, Iv 1, Iv 5]) (res' := .bool false) rfl rfl rfl rfl rfl rfl ?_
 refine Zd (.bool false) (Ze (Ze (Ze (Zi (.bool false) (Zd (.bool false) (Ze (Ze (Ze (Zi (.bool false) (Zd (.bool false) (Ze (Ze (Ze (Zi (.bool false) (Za (Zc (Zu rfl (Z0 (Zc (Zf (Zg (Zb (Iv 70) (Za (Zc (Zq (Zr ?_))))))))))))))))))))))))))
 rw [show Zbn h = 70 from by unfold Zbn; rw [if_neg h1]]
 exact Zk (v := Iv 70) rfl rfl rfl (by kernel_rfl) rfl
def Zcj (h : Head) : Prop := (1 ≤ h.region ∧ h.region ≤ 5) ∧ (1 ≤ h.epoch ∧ h.epoch ≤ 900000000) ∧ (0 ≤ h.size ∧ h.size ≤ 100000) ∧ (0 ≤ h.tick ∧ h.tick ≤ 900000000)
instance (h : Head) : Decidable (Zcj h) := inferInstanceAs (Decidable (_ ∧ _))
theorem Zg3 (h : Head) : Zbn h = if Zcj h then 0 else 70 := by
 unfold Zbn Zcj
 repeat (first | split | omega)
theorem Z2g {h : Head} (hc : Zbn h = 0) : (1 ≤ h.region ∧ h.region ≤ 5) ∧ (1 ≤ h.epoch ∧ h.epoch ≤ 900000000) ∧ (0 ≤ h.size ∧ h.size ≤ 100000) ∧ (0 ≤ h.tick ∧ h.tick ≤ 900000000) := by
 rw [Zg3] at hc
 split at hc
 ·assumption
 ·omega
def Zdd (h : Head) : List ByteArray := [(Zn h.region).1, (Zn h.epoch).1, (Zn h.size).1, Zm (dgL h.root), (Zn h.tick).1]
def Zas (h : Head) : Bs × Int := if Zbn h = 0 then (Zai (Zdd h), 0) else ([], Zbn h)
theorem Zqn (ls : List ByteArray) (n : Nat) (x : ByteArray) (hn : ls.length = n) (hb : n ≤ 1000) : Z6 Tryz.prog G 34 [pt 0 0, .string x] [rfB (slv 1 0 n n), txB ls] (.tuple #[]) [rfB (slv 1 0 (n + 1) (n + 1)), txB (ls ++ [x])] := by
  refine Za8 (fn := Tryz.f34) (nt := 12) rfl rfl rfl rfl ?_
  refine Zaa 1 (H' := [rfB (slv 1 0 n n), txB ls, hole]) rfl ?_
  refine Zg (Zd (pt 0 0) (Zd (pt 0 0) (Zfw (p := pt 0 0) (v := pt 0 0) ?_)))
  refine Zad (p := pt 0 0) (v := slv 1 0 n n) rfl rfl rfl rfl ?_
  refine Zd (.string x) ?_
  refine Zdb (vs := [(0, .string x)]) (v := slv 2 0 1 1) (blk := txB [x]) (nid := 2) (H' := [rfB (slv 1 0 n n), txB ls, txB [x]]) rfl rfl rfl (by kernel_rfl) (by kernel_rfl) ?_
  have hl2 : (ls ++ [x]).length = n + 1 := by have := hn; have := (rfl : _ = 1); first | (rw [List.length_append]; omega) | (simp; omega) | simp
  refine Zbp (p := slv 1 0 n n) (q := slv 2 0 1 1) (v := slv 1 0 (n + 1) (n + 1)) (b := 1) (blk := txB (ls ++ [x])) (H' := [rfB (dead), txB (ls ++ [x]), txB [x]]) rfl rfl rfl (.inl ⟨_, rfl⟩) rfl rfl (Z0o (by_ := 16) (k := 1) (n' := n + 1) (ms := [x]) rfl rfl (by kernel_rfl) rfl (by have := hn; omega) (by omega) (by decide) (by omega)) rfl (by kernel_rfl) ?_
  refine Zfw (p := pt 0 0) (v := pt 0 0) (Z7 (p := pt 0 0) (v := slv 1 0 (n + 1) (n + 1)) (b := 0) (blk := rfB (slv 1 0 (n + 1) (n + 1))) (H' := [rfB (slv 1 0 (n + 1) (n + 1)), txB (ls ++ [x]), txB [x]]) (Za (Zk3 ?_)))
  exact Zk (v := .tuple #[]) rfl rfl rfl (by simp [Za0, rfB, txB, Zmq, Zgt]) trivial
theorem Zku (ls : List ByteArray) (n : Nat) (x : Int) (hn : ls.length = n) (hb : n ≤ 1000) (hl : -9223372036854775808 ≤ x) (hh : x ≤ 9223372036854775807) : Z6 Tryz.prog G 35 [pt 0 0, Iv x] [rfB (slv 1 0 n n), txB ls] (.tuple #[]) [rfB (slv 1 0 (n + 1) (n + 1)), txB (ls ++ [(Zn x).1])] := by
  refine Za8 (fn := Tryz.f35) (nt := 19) rfl rfl rfl rfl ?_
  refine Zaa 1 (H' := [rfB (slv 1 0 n n), txB ls, hole]) rfl ?_
  refine Zf (Zg (Zd (Iv x) ?_))
  refine Zo (Zti (G := G) x (by omega) (by omega)) (vals := [Iv x]) (res' := .tuple #[.string ((Zn x).1), Iv ((Zn x).2)]) rfl rfl rfl rfl rfl (by kernel_rfl) ?_
  refine Zd (.tuple #[.string ((Zn x).1), Iv ((Zn x).2)]) (Zw (vs := #[.string ((Zn x).1), Iv ((Zn x).2)]) (v := .string ((Zn x).1)) (Zw (vs := #[.string ((Zn x).1), Iv ((Zn x).2)]) (v := Iv ((Zn x).2)) (Zb (.string ((Zn x).1)) (Zb (Iv ((Zn x).2)) (Za (Zc (Zg (Zd (pt 0 0) (Zd (pt 0 0) (Zfw (p := pt 0 0) (v := pt 0 0) ?_))))))))))
  refine Zad (p := pt 0 0) (v := slv 1 0 n n) rfl rfl rfl rfl ?_
  refine Zd (.string ((Zn x).1)) ?_
  refine Zdb (vs := [(0, .string ((Zn x).1))]) (v := slv 2 0 1 1) (blk := txB [(Zn x).1]) (nid := 2) (H' := [rfB (slv 1 0 n n), txB ls, txB [(Zn x).1]]) rfl rfl rfl (by kernel_rfl) (by kernel_rfl) ?_
  have hl2 : (ls ++ [(Zn x).1]).length = n + 1 := by have := hn; have := (rfl : _ = 1); first | (rw [List.length_append]; omega) | (simp; omega) | simp
  refine Zbp (p := slv 1 0 n n) (q := slv 2 0 1 1) (v := slv 1 0 (n + 1) (n + 1)) (b := 1) (blk := txB (ls ++ [(Zn x).1])) (H' := [rfB (dead), txB (ls ++ [(Zn x).1]), txB [(Zn x).1]]) rfl rfl rfl (.inl ⟨_, rfl⟩) rfl rfl (Z0o (by_ := 16) (k := 1) (n' := n + 1) (ms := [(Zn x).1]) rfl rfl (by kernel_rfl) rfl (by have := hn; omega) (by omega) (by decide) (by omega)) rfl (by kernel_rfl) ?_
  refine Zfw (p := pt 0 0) (v := pt 0 0) (Z7 (p := pt 0 0) (v := slv 1 0 (n + 1) (n + 1)) (b := 0) (blk := rfB (slv 1 0 (n + 1) (n + 1))) (H' := [rfB (slv 1 0 (n + 1) (n + 1)), txB (ls ++ [(Zn x).1]), txB [(Zn x).1]]) (Za (Zk3 ?_)))
  exact Zk (v := .tuple #[]) rfl rfl rfl (by simp [Za0, rfB, txB, Zmq, Zgt]) trivial
theorem Zvs (ls : List ByteArray) (n : Nat) (hn : ls.length = n) (hb : n ≤ 1000) : Z6 Tryz.prog G 36 [pt 0 0] [rfB (slv 1 0 n n), txB ls] (slv 2 0 (Zai ls).length (Zai ls).length) [rfB (slv 1 0 n n), txB ls, Zah (Zai ls)] := by
  refine Za8 (fn := Tryz.f36) (nt := 31) rfl rfl rfl rfl ?_
  refine Zaa 1 (H' := [rfB (slv 1 0 n n), txB ls, hole]) rfl ?_
  refine Zf (Zg (Zb (.slice none 0 0) (Za (Zc (Zf (Zg (Zb (.slice none 0 0) (Za (Zc (Zf (Zf ?_)))))))))))
  refine Zbo (Zb6.nilTmp (i := 3) (b := 2) true 2 rfl (by decide) rfl) ?_
  refine Zg (Zd (pt 0 0) (Zfw (p := pt 0 0) (v := pt 0 0) ?_))
  refine Zad (p := pt 0 0) (v := slv 1 0 n n) rfl rfl rfl rfl ?_
  refine Zcu (p := slv 1 0 n n) (v := Iv (n : Nat)) (Zd (Iv 0) (Za (Zc (Z1 ?_))))
  refine Zbg (fun x : Nat × (List Field) => match x with | (i, acc) => [pt 0 0, dead, .slice none 0 0, slv 2 0 i i, dead, dead, dead, dead, pt 0 0, pt 0 0, slv 1 0 n n, Iv (n : Nat), Iv (i : Nat)]) (fun x : Nat × (List Field) => match x with | (i, acc) => [rfB (slv 1 0 n n), txB ls, rwB cFd acc]) (fun x : Nat × (List Field) => match x with | (i, acc) => acc ++ Zhn i (ls.drop i) = Zhn 0 ls ∧ i ≤ n ∧ acc.length = i) (fun x : Nat × (List Field) => match x with | (i, acc) => n - i) (0, []) ⟨rfl, by omega, rfl⟩ ?_ ?_
  · refine Z5 (n := 3) rfl ?_ (by kernel_rfl) (by kernel_rfl)
    repeat (first | exact trivial | refine ⟨.inl rfl, ?_⟩ | refine ⟨.inr ⟨rfl, rfl⟩, ?_⟩ | refine ⟨.inr ⟨congrArg (Value.int .i64) (by first | omega | (dsimp only; omega)), rfl⟩, ?_⟩)
  rintro ⟨i, acc⟩ ⟨hR, hi, ha⟩
  dsimp only at *
  refine Zaa 2 (H' := [rfB (slv 1 0 n n), txB ls, rwB cFd acc, hole, hole]) rfl ?_
  refine Zf (Zg ?_)
  by_cases h1 : (i : Nat) < (n : Nat)
  refine Zl (vx := Iv (i : Nat)) (vy := Iv (n : Nat)) rfl rfl (.bool true) rfl rfl (Zcc (by omega)) ?_
  refine Za (Zc (Zf (Zx rfl (Z0 (Zc (Zf (Z1 (Zf (Zg (Zd (Iv (i : Nat)) ?_))))))))))
  refine Zbe (b := 1) (o := 0) (j := i) (m := n) (c := n) (sz := 1) (i := (i : Nat)) (k := .i64) rfl rfl rfl rfl rfl (by omega) (by omega) (by omega) ?_
  refine Zad (p := pt 1 i) (v := .string (ls.getD i ⟨#[]⟩)) rfl rfl rfl (Z0i rfl rfl rfl (by have := hn; omega)) ?_
  refine Zb (Iv (i : Nat)) (Zb (.string (ls.getD i ⟨#[]⟩)) (Za (Zc (Zg (Zd (slv 2 0 i i) (Zd (Iv (i : Nat)) ?_))))))
  refine Zl (vx := Iv (i : Nat)) (vy := Iv 1) rfl rfl (Iv ((i : Nat) + 1)) rfl rfl (Za3 (by omega) (by omega) (by omega)) ?_
  refine Zd (.string (ls.getD i ⟨#[]⟩)) ?_
  refine Za5 (vs := [(0, Iv ((i : Nat) + 1)), (1, .string (ls.getD i ⟨#[]⟩))]) (v := fdV (⟨(i : Nat) + 1, (ls.getD i ⟨#[]⟩)⟩ : Field)) rfl rfl rfl (by kernel_rfl) ?_
  refine Zdb (vs := [(0, fdV (⟨(i : Nat) + 1, (ls.getD i ⟨#[]⟩)⟩ : Field))]) (v := slv 3 0 1 1) (blk := rwB cFd [(⟨(i : Nat) + 1, (ls.getD i ⟨#[]⟩)⟩ : Field)]) (nid := 3) (H' := [rfB (slv 1 0 n n), txB ls, rwB cFd acc, rwB cFd [(⟨(i : Nat) + 1, (ls.getD i ⟨#[]⟩)⟩ : Field)], hole]) rfl rfl rfl (by kernel_rfl) (by kernel_rfl) ?_
  have hl2 : (acc ++ [(⟨(i : Nat) + 1, (ls.getD i ⟨#[]⟩)⟩ : Field)]).length = i + 1 := by have := ha; have := (rfl : _ = 1); first | (rw [List.length_append]; omega) | (simp; omega) | simp
  refine Zbp (p := slv 2 0 i i) (q := slv 3 0 1 1) (v := slv 2 0 (i + 1) (i + 1)) (b := 2) (blk := rwB cFd (acc ++ [(⟨(i : Nat) + 1, (ls.getD i ⟨#[]⟩)⟩ : Field)])) (H' := [rfB (slv 1 0 n n), txB ls, rwB cFd (acc ++ [(⟨(i : Nat) + 1, (ls.getD i ⟨#[]⟩)⟩ : Field)]), rwB cFd [(⟨(i : Nat) + 1, (ls.getD i ⟨#[]⟩)⟩ : Field)], hole]) rfl rfl rfl (.inl ⟨_, rfl⟩) rfl rfl (Zhd cFd (by_ := 24) (k := 1) (n' := i + 1) (ms := [(⟨(i : Nat) + 1, (ls.getD i ⟨#[]⟩)⟩ : Field)]) (fun _ => rfl) rfl rfl (by kernel_rfl) rfl rfl (by have := ha; omega) (by omega) (by decide) (by omega)) rfl (by kernel_rfl) ?_
  refine Zb (slv 2 0 (i + 1) (i + 1)) (Za (Z4 (Zc (Zg ?_))))
  refine Zl (vx := Iv (i : Nat)) (vy := Iv 1) rfl rfl (Iv ((i : Nat) + 1)) rfl rfl (Za3 (by omega) (by omega) (by omega)) ?_
  refine Zd (Iv ((i : Nat) + 1)) (Za ?_)
  refine Zao ⟨((i + 1), (acc ++ [(⟨(i : Nat) + 1, (ls.getD i ⟨#[]⟩)⟩ : Field)])), ⟨Z15 hR (by omega), by omega, by rw [List.length_append, ha]; rfl⟩, by show n - (i + 1) < n - i; omega, ?_⟩
  refine Z5 (n := 3) rfl ?_ (by kernel_rfl) (by kernel_rfl)
  repeat (first | exact trivial | refine ⟨.inl rfl, ?_⟩ | refine ⟨.inr ⟨rfl, rfl⟩, ?_⟩ | refine ⟨.inr ⟨congrArg (Value.int .i64) (by first | omega | (dsimp only; omega)), rfl⟩, ?_⟩)
  refine Zl (vx := Iv (i : Nat)) (vy := Iv (n : Nat)) rfl rfl (.bool false) rfl rfl (Zb5 (by omega)) ?_
  refine Za (Zc (Zf (Zu rfl (Zbb (Zaq (Zau (Zax rfl (Zc (Zf (Zg (Zd (slv 2 0 i i) ?_)))))))))))
  refine Z2 (e := [some (2, 0)]) (nid := 3) (Z2w (G := G) acc i i ha (by omega) (by omega)) (vals := [slv 2 0 i i]) (v := .tuple #[slv 3 0 ((Z9 acc 0 []).1.length) ((Z9 acc 0 []).1.length), Iv ((Z9 acc 0 []).2)]) (H' := [rfB (slv 1 0 n n), txB ls, rwB cFd acc, Zah ((Z9 acc 0 []).1), hole]) rfl rfl rfl rfl rfl rfl rfl ⟨⟨⟨rfl, rfl, rfl, by first | omega | exact Nat.le_refl _, by first | omega | exact Nat.le_refl _⟩, trivial⟩, ⟨(Zgb rfl), trivial⟩, rfl, rfl, rfl⟩ (by kernel_rfl) (by kernel_rfl) ?_
  refine Zd (.tuple #[slv 3 0 ((Z9 acc 0 []).1.length) ((Z9 acc 0 []).1.length), Iv ((Z9 acc 0 []).2)]) (Zw (vs := #[slv 3 0 ((Z9 acc 0 []).1.length) ((Z9 acc 0 []).1.length), Iv ((Z9 acc 0 []).2)]) (v := slv 3 0 ((Z9 acc 0 []).1.length) ((Z9 acc 0 []).1.length)) (Zw (vs := #[slv 3 0 ((Z9 acc 0 []).1.length) ((Z9 acc 0 []).1.length), Iv ((Z9 acc 0 []).2)]) (v := Iv ((Z9 acc 0 []).2)) (Zb (slv 3 0 ((Z9 acc 0 []).1.length) ((Z9 acc 0 []).1.length)) (Zb (Iv ((Z9 acc 0 []).2)) (Za (Zc (Zf (Zg (Zd (slv 3 0 ((Z9 acc 0 []).1.length) ((Z9 acc 0 []).1.length)) (Zb (slv 3 0 ((Z9 acc 0 []).1.length) ((Z9 acc 0 []).1.length)) (Za (Zc (Zq (Zr ?_))))))))))))))
  have hR' : acc = Zhn 0 ls := by rw [← hR, List.drop_of_length_le (by omega)]; simp [Zhn]
  rw [show Zai ls = (Z9 acc 0 []).1 from by rw [hR']; rfl]
  exact Zav [0, 1, 3] (v := slv 3 0 ((Z9 acc 0 []).1.length) ((Z9 acc 0 []).1.length)) rfl (by kernel_rfl) rfl rfl (by decide) (by simp [Za0, rfB, txB, Zah, Zmq, Zgt]) ⟨rfl, rfl, rfl, by first | omega | exact Nat.le_refl _ | exact Nat.zero_le _ | (dsimp only; omega), by first | omega | exact Nat.le_refl _ | exact Nat.zero_le _ | (dsimp only; omega)⟩
theorem Zxg (h : Head) : Z6 Tryz.prog G 32 [Zcd h] [] (.tuple #[slv 0 0 (Zas h).1.length (Zas h).1.length, Iv (Zas h).2]) [Zah (Zas h).1] := by
  refine Za8 (fn := Tryz.f32) (nt := 34) rfl rfl rfl rfl ?_
  refine Zaa 4 (H' := [hole, hole, hole, hole]) rfl ?_
  refine Zf (Zg (Zbq (v := Zcd h) (b := bxB 36 (Zcz h)) (nid := 0) (H' := [bxB 36 (Zcz h), hole, hole, hole]) (Zb (.slice none 0 0) (Zb (Iv 0) (Za (Zc (Zf (Zf (Zg (Zp (p := pt 0 0) (v := Zcd h) ?_))))))))))
  refine Zo (Zqw (G := G) h) (vals := [Zcd h]) (res' := Iv (Zbn h)) rfl rfl rfl rfl rfl rfl ?_
  refine Zb (Iv (Zbn h)) (Za (Zc (Zf (Zg (Zd (Iv (Zbn h)) ?_)))))
  by_cases h1 : (Zbn h) ≠ 0
  refine Zl (vx := Iv (Zbn h)) (vy := Iv 0) rfl rfl (.bool true) rfl rfl (Zea (by omega)) ?_
  refine Za (Zc (Zx rfl (Zf (Zg (Zd (Iv (Zbn h)) (Zb (.slice none 0 0) (Zb (Iv (Zbn h)) (Za (Zc ?_)))))))))
  refine Zbo (Zb6.nilTmp (i := 2) (b := 1) true 1 rfl (by decide) rfl) ?_
  refine Zq (Zz (Zr ?_))
  rw [show Zas h = ([], (Zbn h)) from if_neg (by omega)]
  exact Zav [1] (v := .tuple #[slv 1 0 0 0, Iv (Zbn h)]) rfl (by kernel_rfl) rfl rfl (by decide) (by simp [Za0, Zah]) ⟨⟨rfl, rfl, rfl, by first | omega | exact Nat.le_refl _ | exact Nat.zero_le _ | (dsimp only; omega), by first | omega | exact Nat.le_refl _ | exact Nat.zero_le _ | (dsimp only; omega)⟩, rfl, trivial⟩
  refine Zl (vx := Iv (Zbn h)) (vy := Iv 0) rfl rfl (.bool false) rfl rfl (Zdz (by omega)) ?_
  refine Za (Zc (Zu rfl (Z0 (Zc (Zf (Zg (Zam (b := rfB (.slice none 0 0)) (nid := 1) (H' := [bxB 36 (Zcz h), rfB (.slice none 0 0), hole, hole]) (Za (Zc (Zf ?_))))))))))
  have hc := Z2g (h := h) (by omega)
  refine Zbo (Zb6.nilCell (k := 1) (j := 0) (b := 2) true 1 rfl (by decide) rfl (by show 0 < 1; decide) rfl rfl) ?_
  refine Zg ?_
  refine Zop (vs := [pt 1 0]) (ws := []) rfl rfl rfl rfl rfl ?_
  refine Zb (.func (.func 35) #[pt 1 0] #[]) (Za (Zc (Zf (Zg (Zd (.func (.func 35) #[pt 1 0] #[]) (Zh (b := 0) (o := 0) (n := 0) (o' := 0) (Zp (p := pt 0 0) (v := Iv h.region) ?_)))))))
  refine Zdq (e := [some (1, 0), some (2, 0)]) (nid := 0) (Zku (G := G) [] 0 h.region rfl (by omega) (by omega) (by omega)) (vals := [pt 1 0, Iv h.region]) (v := .tuple #[]) (H' := [bxB 36 (Zcz h), rfB (slv 2 0 1 1), txB ([] ++ [(Zn h.region).1]), hole]) rfl rfl rfl rfl rfl rfl ⟨⟨⟨rfl, rfl⟩, rfl, trivial⟩, ⟨(Zbd rfl rfl rfl rfl), (Zbd rfl rfl rfl rfl), trivial⟩, rfl, rfl, rfl, Nat.le_refl _⟩ (by kernel_rfl) rfl (by kernel_rfl) ?_
  refine Za (Zc (Zf (Zg (Zd (.func (.func 35) #[pt 1 0] #[]) (Zh (b := 0) (o := 0) (n := 1) (o' := 1) (Zp (p := pt 0 1) (v := Iv h.epoch) ?_))))))
  refine Zdq (e := [some (1, 0), some (2, 0)]) (nid := 0) (Zku (G := G) ([] ++ [(Zn h.region).1]) 1 h.epoch rfl (by omega) (by omega) (by omega)) (vals := [pt 1 0, Iv h.epoch]) (v := .tuple #[]) (H' := [bxB 36 (Zcz h), rfB (slv 2 0 2 2), txB (([] ++ [(Zn h.region).1]) ++ [(Zn h.epoch).1]), hole]) rfl rfl rfl rfl rfl rfl ⟨⟨⟨rfl, rfl⟩, rfl, trivial⟩, ⟨(Zbd rfl rfl rfl rfl), (Zbd rfl rfl rfl rfl), trivial⟩, rfl, rfl, rfl, Nat.le_refl _⟩ (by kernel_rfl) rfl (by kernel_rfl) ?_
  refine Za (Zc (Zf (Zg (Zd (.func (.func 35) #[pt 1 0] #[]) (Zh (b := 0) (o := 0) (n := 2) (o' := 2) (Zp (p := pt 0 2) (v := Iv h.size) ?_))))))
  refine Zdq (e := [some (1, 0), some (2, 0)]) (nid := 0) (Zku (G := G) (([] ++ [(Zn h.region).1]) ++ [(Zn h.epoch).1]) 2 h.size rfl (by omega) (by omega) (by omega)) (vals := [pt 1 0, Iv h.size]) (v := .tuple #[]) (H' := [bxB 36 (Zcz h), rfB (slv 2 0 3 3), txB ((([] ++ [(Zn h.region).1]) ++ [(Zn h.epoch).1]) ++ [(Zn h.size).1]), hole]) rfl rfl rfl rfl rfl rfl ⟨⟨⟨rfl, rfl⟩, rfl, trivial⟩, ⟨(Zbd rfl rfl rfl rfl), (Zbd rfl rfl rfl rfl), trivial⟩, rfl, rfl, rfl, Nat.le_refl _⟩ (by kernel_rfl) rfl (by kernel_rfl) ?_
  refine Za (Zc (Zf (Zg (Zh (b := 0) (o := 0) (n := 3) (o' := 3) ?_))))
  refine Zc7 (p := pt 0 3) (vl := none) (vh := none) (v := slv 0 3 32 32) rfl rfl rfl rfl rfl rfl ?_
  refine Ze2 (p := slv 0 3 32 32) (v := .string (Zm (dgL h.root))) rfl rfl rfl (Zem (l := (dgL h.root)) rfl rfl rfl rfl (of_decide_eq_true (by kernel_rfl)) (by kernel_rfl)) ?_
  refine Zdq (e := [some (1, 0), some (2, 0)]) (nid := 0) (Zqn (G := G) ((([] ++ [(Zn h.region).1]) ++ [(Zn h.epoch).1]) ++ [(Zn h.size).1]) 3 (Zm (dgL h.root)) rfl (by omega)) (vals := [pt 1 0, .string (Zm (dgL h.root))]) (v := .tuple #[]) (H' := [bxB 36 (Zcz h), rfB (slv 2 0 4 4), txB (((([] ++ [(Zn h.region).1]) ++ [(Zn h.epoch).1]) ++ [(Zn h.size).1]) ++ [(Zm (dgL h.root))]), hole]) rfl rfl rfl rfl rfl rfl ⟨⟨⟨rfl, rfl⟩, rfl, trivial⟩, ⟨(Zbd rfl rfl rfl rfl), (Zbd rfl rfl rfl rfl), trivial⟩, rfl, rfl, rfl, Nat.le_refl _⟩ (by kernel_rfl) rfl (by kernel_rfl) ?_
  refine Za (Zc (Zf (Zg (Zd (.func (.func 35) #[pt 1 0] #[]) (Zh (b := 0) (o := 0) (n := 35) (o' := 35) (Zp (p := pt 0 35) (v := Iv h.tick) ?_))))))
  refine Zdq (e := [some (1, 0), some (2, 0)]) (nid := 0) (Zku (G := G) (((([] ++ [(Zn h.region).1]) ++ [(Zn h.epoch).1]) ++ [(Zn h.size).1]) ++ [(Zm (dgL h.root))]) 4 h.tick rfl (by omega) (by omega) (by omega)) (vals := [pt 1 0, Iv h.tick]) (v := .tuple #[]) (H' := [bxB 36 (Zcz h), rfB (slv 2 0 5 5), txB ((((([] ++ [(Zn h.region).1]) ++ [(Zn h.epoch).1]) ++ [(Zn h.size).1]) ++ [(Zm (dgL h.root))]) ++ [(Zn h.tick).1]), hole]) rfl rfl rfl rfl rfl rfl ⟨⟨⟨rfl, rfl⟩, rfl, trivial⟩, ⟨(Zbd rfl rfl rfl rfl), (Zbd rfl rfl rfl rfl), trivial⟩, rfl, rfl, rfl, Nat.le_refl _⟩ (by kernel_rfl) rfl (by kernel_rfl) ?_
  refine Za (Zc (Zf (Zg ?_)))
  refine Zdq (e := [some (1, 0), some (2, 0)]) (nid := 3) (Zvs (G := G) ((((([] ++ [(Zn h.region).1]) ++ [(Zn h.epoch).1]) ++ [(Zn h.size).1]) ++ [(Zm (dgL h.root))]) ++ [(Zn h.tick).1]) 5 rfl (by omega)) (vals := [pt 1 0]) (v := slv 3 0 ((Zai ((((([] ++ [(Zn h.region).1]) ++ [(Zn h.epoch).1]) ++ [(Zn h.size).1]) ++ [(Zm (dgL h.root))]) ++ [(Zn h.tick).1])).length) ((Zai ((((([] ++ [(Zn h.region).1]) ++ [(Zn h.epoch).1]) ++ [(Zn h.size).1]) ++ [(Zm (dgL h.root))]) ++ [(Zn h.tick).1])).length)) (H' := [bxB 36 (Zcz h), rfB (slv 2 0 5 5), txB ((((([] ++ [(Zn h.region).1]) ++ [(Zn h.epoch).1]) ++ [(Zn h.size).1]) ++ [(Zm (dgL h.root))]) ++ [(Zn h.tick).1]), Zah (Zai ((((([] ++ [(Zn h.region).1]) ++ [(Zn h.epoch).1]) ++ [(Zn h.size).1]) ++ [(Zm (dgL h.root))]) ++ [(Zn h.tick).1]))]) rfl rfl rfl rfl rfl rfl ⟨⟨⟨rfl, rfl⟩, trivial⟩, ⟨(Zbd rfl rfl rfl rfl), (Zbd rfl rfl rfl rfl), trivial⟩, rfl, rfl, rfl, Nat.le_refl _⟩ rfl rfl (by kernel_rfl) ?_
  refine Zb (slv 3 0 ((Zai ((((([] ++ [(Zn h.region).1]) ++ [(Zn h.epoch).1]) ++ [(Zn h.size).1]) ++ [(Zm (dgL h.root))]) ++ [(Zn h.tick).1])).length) ((Zai ((((([] ++ [(Zn h.region).1]) ++ [(Zn h.epoch).1]) ++ [(Zn h.size).1]) ++ [(Zm (dgL h.root))]) ++ [(Zn h.tick).1])).length)) ?_
  refine Zb (Iv 0) (Za (Zc (Zq (Zr ?_))))
  rw [show Zas h = ((Zai ((((([] ++ [(Zn h.region).1]) ++ [(Zn h.epoch).1]) ++ [(Zn h.size).1]) ++ [(Zm (dgL h.root))]) ++ [(Zn h.tick).1])), 0) from if_pos (by omega)]
  exact Zav [3] (v := .tuple #[slv 3 0 ((Zai ((((([] ++ [(Zn h.region).1]) ++ [(Zn h.epoch).1]) ++ [(Zn h.size).1]) ++ [(Zm (dgL h.root))]) ++ [(Zn h.tick).1])).length) ((Zai ((((([] ++ [(Zn h.region).1]) ++ [(Zn h.epoch).1]) ++ [(Zn h.size).1]) ++ [(Zm (dgL h.root))]) ++ [(Zn h.tick).1])).length), Iv 0]) rfl (by kernel_rfl) rfl rfl (by decide) (by simp [Za0, Zah]) ⟨⟨rfl, rfl, rfl, by first | omega | exact Nat.le_refl _ | exact Nat.zero_le _ | (dsimp only; omega), by first | omega | exact Nat.le_refl _ | exact Nat.zero_le _ | (dsimp only; omega)⟩, rfl, trivial⟩
end Go.Flat
