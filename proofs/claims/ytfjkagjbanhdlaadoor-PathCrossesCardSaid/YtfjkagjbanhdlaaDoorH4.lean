/- Walks. -/
import Derived.Test.YtfjkagjbanhdlaaDoorH3
set_option linter.unusedVariables false
set_option linter.unusedSimpArgs false
set_option maxRecDepth 20000
namespace Go.Flat
open Go.Proofs
variable {G : Glob}
structure Head where
  region : Int
  epoch : Int
  size : Int
  root : D
  tick : Int
structure Signed where
  head : Head
  node : Int
  tag : D
def Zbf (h : Head) : List Value := [.int .i64 h.region, .int .i64 h.epoch, .int .i64 h.size] ++ Zad w8 32 h.root ++ [.int .i64 h.tick]
def Zbn (h : Head) : Value := .agg (Zbf h).toArray
def Za (s : Signed) : List Value := Zbf s.head ++ [.int .i64 s.node] ++ Zad w8 32 s.tag
def Zs (s : Signed) : Value := .agg (Za s).toArray
def Zgz : Nat → List ByteArray → List Field
  | _, [] => []
  | k, x :: l => ⟨(k : Int) + 1, x⟩ :: Zgz (k + 1) l
def Zcr (ls : List ByteArray) : Bs := (Z8 (Zgz 0 ls) 0 []).1
theorem Zy1 {ls : List ByteArray} {i : Nat} {acc R : List Field} (hR : acc ++ Zgz i (ls.drop i) = R) (hi : i < ls.length) : (acc ++ [⟨(i : Int) + 1, ls.getD i ⟨#[]⟩⟩]) ++ Zgz (i + 1) (ls.drop (i + 1)) = R := by
 have e : ls.drop i = ls.getD i ⟨#[]⟩ :: ls.drop (i + 1) := by
  rw [List.drop_eq_getElem_cons hi, List.getD_eq_getElem?_getD, List.getElem?_eq_getElem hi]; rfl
 rw [e, Zgz] at hR
 rw [← hR, List.append_assoc]; rfl
def Zda (n low high : Int) : Bool :=
  if low ≤ n then (if n ≤ high then true else
  false) else
  false
theorem Zb6 (n low high : Int) : Zaf Tryd.prog G 41 [Iv n, Iv low, Iv high] [] (.bool (Zda n low high)) [] := by
 refine Zbj (fn := Tryd.f41) (nt := 15) rfl rfl rfl rfl ?_
 refine Zg (Zj (Zd rfl rfl (.bool false) rfl (Zb (Zc (Zg (Zj (Zf rfl rfl (Iv n) rfl (Zf rfl rfl (Iv low) rfl ?_))))))))
 by_cases h1 : low ≤ n
 refine Zo (vx := Iv n) (vy := Iv low) rfl rfl (.bool true) rfl rfl (Zg5 (by omega)) ?_
 refine Zf rfl rfl (.bool true) rfl (Zf rfl rfl (Iv n) rfl (Zf rfl rfl (Iv high) rfl ?_))
 by_cases h2 : n ≤ high
 refine Zo (vx := Iv n) (vy := Iv high) rfl rfl (.bool true) rfl rfl (Zuv (by omega)) ?_
 refine Zm rfl rfl (.bool true) rfl (Zd rfl rfl (.bool true) rfl (Zb (Zc (Zx (Zy ?_)))))
 rw [show Zda n low high = true from by unfold Zda; rw [if_pos h1, if_pos h2]]
 exact Zq (v := .bool true) rfl rfl rfl (by kernel_rfl) rfl
 refine Zo (vx := Iv n) (vy := Iv high) rfl rfl (.bool false) rfl rfl (Ztv (by omega)) ?_
 refine Zm rfl rfl (.bool false) rfl (Zd rfl rfl (.bool false) rfl (Zb (Zc (Zx (Zy ?_)))))
 rw [show Zda n low high = false from by unfold Zda; rw [if_pos h1, if_neg h2]]
 exact Zq (v := .bool false) rfl rfl rfl (by kernel_rfl) rfl
 refine Zo (vx := Iv n) (vy := Iv low) rfl rfl (.bool false) rfl rfl (Zhv (by omega)) ?_
 refine Zf rfl rfl (.bool false) rfl (Zi rfl rfl (Zi rfl rfl (Zi rfl rfl (Zm rfl rfl (.bool false) rfl (Zd rfl rfl (.bool false) rfl (Zb (Zc (Zx (Zy ?_)))))))))
 rw [show Zda n low high = false from by unfold Zda; rw [if_neg h1]]
 exact Zq (v := .bool false) rfl rfl rfl (by kernel_rfl) rfl
theorem Zb7 {n low high : Int} (h1 : low ≤ n) (h2 : n ≤ high) : Zda n low high = true := by unfold Zda; rw [if_pos h1, if_pos h2]
theorem Zan {n low high : Int} (h : n < low ∨ high < n) : Zda n low high = false := by
 unfold Zda
 by_cases h1 : low ≤ n
 ·rw [if_pos h1, if_neg (by omega)]
 ·rw [if_neg h1]
def Za4 (h : Head) : Int :=
  if 1 ≤ h.region then (if h.region ≤ 5 then (if 1 ≤ h.epoch then (if h.epoch ≤ 900000000 then (if 0 ≤ h.size then (if h.size ≤ 100000 then (if 0 ≤ h.tick then (if h.tick ≤ 900000000 then 0 else
  70) else
  70) else
  70) else
  70) else
  70) else
  70) else
  70) else
  70
theorem Zo3 (h : Head) : Zaf Tryd.prog G 22 [Zbn h] [] (Iv (Za4 h)) [] := by
 refine Zbj (fn := Tryd.f22) (nt := 21) rfl rfl rfl rfl ?_
 refine Zai 1 (H' := [hole]) rfl ?_
 refine Zg (Zj ?_)
 refine Zcj (v := Zbn h) (b := bxB 36 (Zbf h)) (nid := 0) (H' := [bxB 36 (Zbf h)]) rfl rfl rfl (by kernel_rfl) (by kernel_rfl) ?_
 refine Zd rfl rfl (Iv 0) rfl (Zb (Zc (Zg (Zg (Zj ?_)))))
 refine Zn (b := 0) (o := 0) (n := 0) (o' := 0) rfl rfl rfl rfl rfl ?_
 refine Zp (p := pt 0 0) (v := Iv h.region) rfl rfl rfl (by kernel_rfl) ?_
 by_cases h1 : 1 ≤ h.region
 by_cases h2 : h.region ≤ 5
 refine Zt ((Zb6 (G := G) h.region 1 5).res (congrArg Value.bool (Zb7 (by omega) (by omega)))) (vals := [Iv h.region, Iv 1, Iv 5]) (res' := .bool true) rfl rfl rfl rfl rfl rfl ?_
 refine Zf rfl rfl (.bool true) rfl ?_
 refine Zn (b := 0) (o := 0) (n := 1) (o' := 1) rfl rfl rfl rfl rfl ?_
 refine Zp (p := pt 0 1) (v := Iv h.epoch) rfl rfl rfl (by kernel_rfl) ?_
 by_cases h3 : 1 ≤ h.epoch
 by_cases h4 : h.epoch ≤ 900000000
 refine Zt ((Zb6 (G := G) h.epoch 1 900000000).res (congrArg Value.bool (Zb7 (by omega) (by omega)))) (vals := [Iv h.epoch, Iv 1, Iv 900000000]) (res' := .bool true) rfl rfl rfl rfl rfl rfl ?_
 refine Zm rfl rfl (.bool true) rfl (Zf rfl rfl (.bool true) rfl ?_)
 refine Zn (b := 0) (o := 0) (n := 2) (o' := 2) rfl rfl rfl rfl rfl ?_
 refine Zp (p := pt 0 2) (v := Iv h.size) rfl rfl rfl (by kernel_rfl) ?_
 by_cases h5 : 0 ≤ h.size
 by_cases h6 : h.size ≤ 100000
 refine Zt ((Zb6 (G := G) h.size 0 100000).res (congrArg Value.bool (Zb7 (by omega) (by omega)))) (vals := [Iv h.size, Iv 0, Iv 100000]) (res' := .bool true) rfl rfl rfl rfl rfl rfl ?_
 refine Zm rfl rfl (.bool true) rfl (Zf rfl rfl (.bool true) rfl ?_)
 refine Zn (b := 0) (o := 0) (n := 35) (o' := 35) rfl rfl rfl rfl rfl ?_
 refine Zp (p := pt 0 35) (v := Iv h.tick) rfl rfl rfl (by kernel_rfl) ?_
 by_cases h7 : 0 ≤ h.tick
 by_cases h8 : h.tick ≤ 900000000
 refine Zt ((Zb6 (G := G) h.tick 0 900000000).res (congrArg Value.bool (Zb7 (by omega) (by omega)))) (vals := [Iv h.tick, Iv 0, Iv 900000000]) (res' := .bool true) rfl rfl rfl rfl rfl rfl ?_
 refine Zm rfl rfl (.bool true) rfl (Zb (Zc (Z0 rfl (Zg (Zj (Zd rfl rfl (Iv 0) rfl (Zb (Zc (Zx (Zaa (Zy ?_)))))))))))
 rw [show Za4 h = 0 from by unfold Za4; rw [if_pos h1, if_pos h2, if_pos h3, if_pos h4, if_pos h5, if_pos h6, if_pos h7, if_pos h8]]
 exact Zq (v := Iv 0) rfl rfl rfl (by kernel_rfl) rfl
 refine Zt ((Zb6 (G := G) h.tick 0 900000000).res (congrArg Value.bool (Zan (by omega)))) (vals := [Iv h.tick, Iv 0, Iv 900000000]) (res' := .bool false) rfl rfl rfl rfl rfl rfl ?_
 refine Zm rfl rfl (.bool false) rfl (Zb (Zc (Zz rfl (Z5 (Zc (Zg (Zj (Zd rfl rfl (Iv 70) rfl (Zb (Zc (Zx (Zy ?_))))))))))))
 rw [show Za4 h = 70 from by unfold Za4; rw [if_pos h1, if_pos h2, if_pos h3, if_pos h4, if_pos h5, if_pos h6, if_pos h7, if_neg h8]]
 exact Zq (v := Iv 70) rfl rfl rfl (by kernel_rfl) rfl
 refine Zt ((Zb6 (G := G) h.tick 0 900000000).res (congrArg Value.bool (Zan (by omega)))) (vals := [Iv h.tick, Iv 0, Iv 900000000]) (res' := .bool false) rfl rfl rfl rfl rfl rfl ?_
 refine Zm rfl rfl (.bool false) rfl (Zb (Zc (Zz rfl (Z5 (Zc (Zg (Zj (Zd rfl rfl (Iv 70) rfl (Zb (Zc (Zx (Zy ?_))))))))))))
 rw [show Za4 h = 70 from by unfold Za4; rw [if_pos h1, if_pos h2, if_pos h3, if_pos h4, if_pos h5, if_pos h6, if_neg h7]]
 exact Zq (v := Iv 70) rfl rfl rfl (by kernel_rfl) rfl
 refine Zt ((Zb6 (G := G) h.size 0 100000).res (congrArg Value.bool (Zan (by omega)))) (vals := [Iv h.size, Iv 0, Iv 100000]) (res' := .bool false) rfl rfl rfl rfl rfl rfl ?_
 refine Zm rfl rfl (.bool false) rfl (Zf rfl rfl (.bool false) rfl (Zi rfl rfl (Zi rfl rfl (Zi rfl rfl (Zm rfl rfl (.bool false) rfl (Zb (Zc (Zz rfl (Z5 (Zc (Zg (Zj (Zd rfl rfl (Iv 70) rfl (Zb (Zc (Zx (Zy ?_)))))))))))))))))
 rw [show Za4 h = 70 from by unfold Za4; rw [if_pos h1, if_pos h2, if_pos h3, if_pos h4, if_pos h5, if_neg h6]]
 exact Zq (v := Iv 70) rfl rfl rfl (by kernel_rfl) rfl
 refine Zt ((Zb6 (G := G) h.size 0 100000).res (congrArg Value.bool (Zan (by omega)))) (vals := [Iv h.size, Iv 0, Iv 100000]) (res' := .bool false) rfl rfl rfl rfl rfl rfl ?_
 refine Zm rfl rfl (.bool false) rfl (Zf rfl rfl (.bool false) rfl (Zi rfl rfl (Zi rfl rfl (Zi rfl rfl (Zm rfl rfl (.bool false) rfl (Zb (Zc (Zz rfl (Z5 (Zc (Zg (Zj (Zd rfl rfl (Iv 70) rfl (Zb (Zc (Zx (Zy ?_)))))))))))))))))
 rw [show Za4 h = 70 from by unfold Za4; rw [if_pos h1, if_pos h2, if_pos h3, if_pos h4, if_neg h5]]
 exact Zq (v := Iv 70) rfl rfl rfl (by kernel_rfl) rfl
 refine Zt ((Zb6 (G := G) h.epoch 1 900000000).res (congrArg Value.bool (Zan (by omega)))) (vals := [Iv h.epoch, Iv 1, Iv 900000000]) (res' := .bool false) rfl rfl rfl rfl rfl rfl ?_
 refine Zm rfl rfl (.bool false) rfl (Zf rfl rfl (.bool false) rfl (Zi rfl rfl (Zi rfl rfl (Zi rfl rfl (Zm rfl rfl (.bool false) rfl (Zf rfl rfl (.bool false) rfl (Zi rfl rfl (Zi rfl rfl (Zi rfl rfl (Zm rfl rfl (.bool false) rfl (Zb (Zc (Zz rfl (Z5 (Zc (Zg (Zj (Zd rfl rfl (Iv 70) rfl (Zb (Zc (Zx (Zy ?_))))))))))))))))))))))
 rw [show Za4 h = 70 from by unfold Za4; rw [if_pos h1, if_pos h2, if_pos h3, if_neg h4]]
 exact Zq (v := Iv 70) rfl rfl rfl (by kernel_rfl) rfl
 refine Zt ((Zb6 (G := G) h.epoch 1 900000000).res (congrArg Value.bool (Zan (by omega)))) (vals := [Iv h.epoch, Iv 1, Iv 900000000]) (res' := .bool false) rfl rfl rfl rfl rfl rfl ?_
 refine Zm rfl rfl (.bool false) rfl (Zf rfl rfl (.bool false) rfl (Zi rfl rfl (Zi rfl rfl (Zi rfl rfl (Zm rfl rfl (.bool false) rfl (Zf rfl rfl (.bool false) rfl (Zi rfl rfl (Zi rfl rfl (Zi rfl rfl (Zm rfl rfl (.bool false) rfl (Zb (Zc (Zz rfl (Z5 (Zc (Zg (Zj (Zd rfl rfl (Iv 70) rfl (Zb (Zc (Zx (Zy ?_))))))))))))))))))))))
 rw [show Za4 h = 70 from by unfold Za4; rw [if_pos h1, if_pos h2, if_neg h3]]
 exact Zq (v := Iv 70) rfl rfl rfl (by kernel_rfl) rfl
 refine Zt ((Zb6 (G := G) h.region 1 5).res (congrArg Value.bool (Zan (by omega)))) (vals := [Iv h.region, Iv 1, Iv 5]) (res' := .bool false) rfl rfl rfl rfl rfl rfl ?_
 refine Zf rfl rfl (.bool false) rfl (Zi rfl rfl (Zi rfl rfl (Zi rfl rfl (Zm rfl rfl (.bool false) rfl (Zf rfl rfl (.bool false) rfl (Zi rfl rfl (Zi rfl rfl (Zi rfl rfl (Zm rfl rfl (.bool false) rfl (Zf rfl rfl (.bool false) rfl (Zi rfl rfl (Zi rfl rfl (Zi rfl rfl (Zm rfl rfl (.bool false) rfl (Zb (Zc (Zz rfl (Z5 (Zc (Zg (Zj (Zd rfl rfl (Iv 70) rfl (Zb (Zc (Zx (Zy ?_))))))))))))))))))))))))))
 rw [show Za4 h = 70 from by unfold Za4; rw [if_pos h1, if_neg h2]]
 exact Zq (v := Iv 70) rfl rfl rfl (by kernel_rfl) rfl
 refine Zt ((Zb6 (G := G) h.region 1 5).res (congrArg Value.bool (Zan (by omega)))) (vals := [Iv h.region, Iv 1, Iv 5]) (res' := .bool false) rfl rfl rfl rfl rfl rfl ?_
 refine Zf rfl rfl (.bool false) rfl (Zi rfl rfl (Zi rfl rfl (Zi rfl rfl (Zm rfl rfl (.bool false) rfl (Zf rfl rfl (.bool false) rfl (Zi rfl rfl (Zi rfl rfl (Zi rfl rfl (Zm rfl rfl (.bool false) rfl (Zf rfl rfl (.bool false) rfl (Zi rfl rfl (Zi rfl rfl (Zi rfl rfl (Zm rfl rfl (.bool false) rfl (Zb (Zc (Zz rfl (Z5 (Zc (Zg (Zj (Zd rfl rfl (Iv 70) rfl (Zb (Zc (Zx (Zy ?_))))))))))))))))))))))))))
 rw [show Za4 h = 70 from by unfold Za4; rw [if_neg h1]]
 exact Zq (v := Iv 70) rfl rfl rfl (by kernel_rfl) rfl
def Zfl (h : Head) : Prop := (1 ≤ h.region ∧ h.region ≤ 5) ∧ (1 ≤ h.epoch ∧ h.epoch ≤ 900000000) ∧ (0 ≤ h.size ∧ h.size ≤ 100000) ∧ (0 ≤ h.tick ∧ h.tick ≤ 900000000)
instance (h : Head) : Decidable (Zfl h) := inferInstanceAs (Decidable (_ ∧ _))
theorem Zft (h : Head) : Za4 h = if Zfl h then 0 else 70 := by
 unfold Za4 Zfl
 repeat (first | split | omega)
theorem Zyz {h : Head} (hc : Za4 h = 0) : (1 ≤ h.region ∧ h.region ≤ 5) ∧ (1 ≤ h.epoch ∧ h.epoch ≤ 900000000) ∧ (0 ≤ h.size ∧ h.size ≤ 100000) ∧ (0 ≤ h.tick ∧ h.tick ≤ 900000000) := by
 rw [Zft] at hc
 split at hc
 ·assumption
 ·omega
def Zhn (h : Head) : List ByteArray := [(Zv h.region).1, (Zv h.epoch).1, (Zv h.size).1, Zr (dgL h.root), (Zv h.tick).1]
def Zag (h : Head) : Bs × Int := if Za4 h = 0 then (Zcr (Zhn h), 0) else ([], Za4 h)
theorem Zpw (ls : List ByteArray) (n : Nat) (x : ByteArray) (hn : ls.length = n) (hb : n ≤ 1000) : Zaf Tryd.prog G 43 [pt 0 0, .string x] [rfB (slv 1 0 n n), txB ls] (.tuple #[]) [rfB (slv 1 0 (n + 1) (n + 1)), txB (ls ++ [x])] := by
  refine Zbj (fn := Tryd.f43) (nt := 12) rfl rfl rfl rfl ?_
  refine Zai 1 (H' := [rfB (slv 1 0 n n), txB ls, hole]) rfl ?_
  refine Zj (Zf rfl rfl (pt 0 0) rfl (Zf rfl rfl (pt 0 0) rfl ?_))
  refine Zc6 (p := pt 0 0) (v := pt 0 0) rfl rfl rfl rfl ?_
  refine Zp (p := pt 0 0) (v := slv 1 0 n n) rfl rfl rfl rfl ?_
  refine Zf rfl rfl (.string x) rfl ?_
  refine Zdh (vs := [(0, .string x)]) (v := slv 2 0 1 1) (blk := txB [x]) (nid := 2) (H' := [rfB (slv 1 0 n n), txB ls, txB [x]]) rfl rfl rfl (by kernel_rfl) (by kernel_rfl) ?_
  have hl2 : (ls ++ [x]).length = n + 1 := by have := hn; have := (rfl : _ = 1); first | (rw [List.length_append]; omega) | (simp; omega) | simp
  refine Zbo (p := slv 1 0 n n) (q := slv 2 0 1 1) (v := slv 1 0 (n + 1) (n + 1)) (b := 1) (blk := txB (ls ++ [x])) (H' := [rfB (dead), txB (ls ++ [x]), txB [x]]) rfl rfl rfl (.inl ⟨_, rfl⟩) rfl rfl (Zw7 (by_ := 16) (k := 1) (n' := n + 1) (ms := [x]) rfl rfl (by kernel_rfl) rfl (by have := hn; omega) (by omega) (by decide) (by omega)) rfl (by kernel_rfl) ?_
  refine Zc6 (p := pt 0 0) (v := pt 0 0) rfl rfl rfl rfl ?_
  refine Zw (p := pt 0 0) (v := slv 1 0 (n + 1) (n + 1)) (b := 0) (blk := rfB (slv 1 0 (n + 1) (n + 1))) (H' := [rfB (slv 1 0 (n + 1) (n + 1)), txB (ls ++ [x]), txB [x]]) rfl rfl rfl (by kernel_rfl) (by kernel_rfl) ?_
  refine Zb (Zj0 ?_)
  exact Zq (v := .tuple #[]) rfl rfl rfl (by simp [Za8, rfB, txB, Zlo, Zfw]) trivial
theorem Zkb (ls : List ByteArray) (n : Nat) (x : Int) (hn : ls.length = n) (hb : n ≤ 1000) (hl : -9223372036854775808 ≤ x) (hh : x ≤ 9223372036854775807) : Zaf Tryd.prog G 42 [pt 0 0, Iv x] [rfB (slv 1 0 n n), txB ls] (.tuple #[]) [rfB (slv 1 0 (n + 1) (n + 1)), txB (ls ++ [(Zv x).1])] := by
  refine Zbj (fn := Tryd.f42) (nt := 19) rfl rfl rfl rfl ?_
  refine Zai 1 (H' := [rfB (slv 1 0 n n), txB ls, hole]) rfl ?_
  refine Zg (Zj (Zf rfl rfl (Iv x) rfl ?_))
  refine Zt (Zrd (G := G) x (by omega) (by omega)) (vals := [Iv x]) (res' := .tuple #[.string ((Zv x).1), Iv ((Zv x).2)]) rfl rfl rfl rfl rfl (by kernel_rfl) ?_
  refine Zf rfl rfl (.tuple #[.string ((Zv x).1), Iv ((Zv x).2)]) rfl (Zu (vs := #[.string ((Zv x).1), Iv ((Zv x).2)]) (v := .string ((Zv x).1)) rfl rfl rfl rfl (Zu (vs := #[.string ((Zv x).1), Iv ((Zv x).2)]) (v := Iv ((Zv x).2)) rfl rfl rfl rfl (Zd rfl rfl (.string ((Zv x).1)) rfl (Zd rfl rfl (Iv ((Zv x).2)) rfl (Zb (Zc (Zj (Zf rfl rfl (pt 0 0) rfl (Zf rfl rfl (pt 0 0) rfl ?_)))))))))
  refine Zc6 (p := pt 0 0) (v := pt 0 0) rfl rfl rfl rfl ?_
  refine Zp (p := pt 0 0) (v := slv 1 0 n n) rfl rfl rfl rfl ?_
  refine Zf rfl rfl (.string ((Zv x).1)) rfl ?_
  refine Zdh (vs := [(0, .string ((Zv x).1))]) (v := slv 2 0 1 1) (blk := txB [(Zv x).1]) (nid := 2) (H' := [rfB (slv 1 0 n n), txB ls, txB [(Zv x).1]]) rfl rfl rfl (by kernel_rfl) (by kernel_rfl) ?_
  have hl2 : (ls ++ [(Zv x).1]).length = n + 1 := by have := hn; have := (rfl : _ = 1); first | (rw [List.length_append]; omega) | (simp; omega) | simp
  refine Zbo (p := slv 1 0 n n) (q := slv 2 0 1 1) (v := slv 1 0 (n + 1) (n + 1)) (b := 1) (blk := txB (ls ++ [(Zv x).1])) (H' := [rfB (dead), txB (ls ++ [(Zv x).1]), txB [(Zv x).1]]) rfl rfl rfl (.inl ⟨_, rfl⟩) rfl rfl (Zw7 (by_ := 16) (k := 1) (n' := n + 1) (ms := [(Zv x).1]) rfl rfl (by kernel_rfl) rfl (by have := hn; omega) (by omega) (by decide) (by omega)) rfl (by kernel_rfl) ?_
  refine Zc6 (p := pt 0 0) (v := pt 0 0) rfl rfl rfl rfl ?_
  refine Zw (p := pt 0 0) (v := slv 1 0 (n + 1) (n + 1)) (b := 0) (blk := rfB (slv 1 0 (n + 1) (n + 1))) (H' := [rfB (slv 1 0 (n + 1) (n + 1)), txB (ls ++ [(Zv x).1]), txB [(Zv x).1]]) rfl rfl rfl (by kernel_rfl) (by kernel_rfl) ?_
  refine Zb (Zj0 ?_)
  exact Zq (v := .tuple #[]) rfl rfl rfl (by simp [Za8, rfB, txB, Zlo, Zfw]) trivial
theorem Zut (ls : List ByteArray) (n : Nat) (hn : ls.length = n) (hb : n ≤ 1000) : Zaf Tryd.prog G 44 [pt 0 0] [rfB (slv 1 0 n n), txB ls] (slv 2 0 (Zcr ls).length (Zcr ls).length) [rfB (slv 1 0 n n), txB ls, Zaq (Zcr ls)] := by
  refine Zbj (fn := Tryd.f44) (nt := 31) rfl rfl rfl rfl ?_
  refine Zai 1 (H' := [rfB (slv 1 0 n n), txB ls, hole]) rfl ?_
  refine Zg (Zj (Zd rfl rfl (.slice none 0 0) rfl (Zb (Zc (Zg (Zj (Zd rfl rfl (.slice none 0 0) rfl (Zb (Zc (Zg (Zg ?_)))))))))))
  refine Zby (Zbt.nilTmp (i := 3) (b := 2) true 2 rfl (by decide) rfl) ?_
  refine Zj (Zf rfl rfl (pt 0 0) rfl ?_)
  refine Zc6 (p := pt 0 0) (v := pt 0 0) rfl rfl rfl rfl ?_
  refine Zp (p := pt 0 0) (v := slv 1 0 n n) rfl rfl rfl rfl ?_
  refine Zbl (p := slv 1 0 n n) (v := Iv (n : Nat)) rfl rfl rfl rfl ?_
  refine Zf rfl rfl (Iv 0) rfl (Zb (Zc (Z7 ?_)))
  refine Zcm (fun x : Nat × (List Field) => match x with | (i, acc) => [pt 0 0, dead, .slice none 0 0, slv 2 0 i i, dead, dead, dead, dead, pt 0 0, pt 0 0, slv 1 0 n n, Iv (n : Nat), Iv (i : Nat)]) (fun x : Nat × (List Field) => match x with | (i, acc) => [rfB (slv 1 0 n n), txB ls, rwB cFd acc]) (fun x : Nat × (List Field) => match x with | (i, acc) => acc ++ Zgz i (ls.drop i) = Zgz 0 ls ∧ i ≤ n ∧ acc.length = i) (fun x : Nat × (List Field) => match x with | (i, acc) => n - i) (0, []) ⟨rfl, by omega, rfl⟩ ?_ ?_
  · refine Zal (n := 3) rfl ?_ (by kernel_rfl) (by kernel_rfl)
    repeat (first | exact trivial | refine ⟨.inl rfl, ?_⟩ | refine ⟨.inr ⟨rfl, rfl⟩, ?_⟩ | refine ⟨.inr ⟨congrArg (Value.int .i64) (by first | omega | (dsimp only; omega)), rfl⟩, ?_⟩)
  rintro ⟨i, acc⟩ ⟨hR, hi, ha⟩
  dsimp only at *
  refine Zai 2 (H' := [rfB (slv 1 0 n n), txB ls, rwB cFd acc, hole, hole]) rfl ?_
  refine Zg (Zj ?_)
  by_cases h1 : (i : Nat) < (n : Nat)
  refine Zo (vx := Iv (i : Nat)) (vy := Iv (n : Nat)) rfl rfl (.bool true) rfl rfl (Zco (by omega)) ?_
  refine Zb (Zc (Zg (Z0 rfl (Z5 (Zc (Zg (Z7 (Zg (Zj (Zf rfl rfl (Iv (i : Nat)) rfl ?_))))))))))
  refine Zba (b := 1) (o := 0) (j := i) (m := n) (c := n) (sz := 1) (i := (i : Nat)) (k := .i64) rfl rfl rfl rfl rfl (by omega) (by omega) (by omega) ?_
  refine Zp (p := pt 1 i) (v := .string (ls.getD i ⟨#[]⟩)) rfl rfl rfl (Z3a rfl rfl rfl (by have := hn; omega)) ?_
  refine Zd rfl rfl (Iv (i : Nat)) rfl (Zd rfl rfl (.string (ls.getD i ⟨#[]⟩)) rfl (Zb (Zc (Zj (Zf rfl rfl (slv 2 0 i i) rfl (Zf rfl rfl (Iv (i : Nat)) rfl ?_))))))
  refine Zo (vx := Iv (i : Nat)) (vy := Iv 1) rfl rfl (Iv ((i : Nat) + 1)) rfl rfl (Zav (by omega) (by omega) (by omega)) ?_
  refine Zf rfl rfl (.string (ls.getD i ⟨#[]⟩)) rfl ?_
  refine Za1 (vs := [(0, Iv ((i : Nat) + 1)), (1, .string (ls.getD i ⟨#[]⟩))]) (v := fdV (⟨(i : Nat) + 1, (ls.getD i ⟨#[]⟩)⟩ : Field)) rfl rfl rfl (by kernel_rfl) ?_
  refine Zdh (vs := [(0, fdV (⟨(i : Nat) + 1, (ls.getD i ⟨#[]⟩)⟩ : Field))]) (v := slv 3 0 1 1) (blk := rwB cFd [(⟨(i : Nat) + 1, (ls.getD i ⟨#[]⟩)⟩ : Field)]) (nid := 3) (H' := [rfB (slv 1 0 n n), txB ls, rwB cFd acc, rwB cFd [(⟨(i : Nat) + 1, (ls.getD i ⟨#[]⟩)⟩ : Field)], hole]) rfl rfl rfl (by kernel_rfl) (by kernel_rfl) ?_
  have hl2 : (acc ++ [(⟨(i : Nat) + 1, (ls.getD i ⟨#[]⟩)⟩ : Field)]).length = i + 1 := by have := ha; have := (rfl : _ = 1); first | (rw [List.length_append]; omega) | (simp; omega) | simp
  refine Zbo (p := slv 2 0 i i) (q := slv 3 0 1 1) (v := slv 2 0 (i + 1) (i + 1)) (b := 2) (blk := rwB cFd (acc ++ [(⟨(i : Nat) + 1, (ls.getD i ⟨#[]⟩)⟩ : Field)])) (H' := [rfB (slv 1 0 n n), txB ls, rwB cFd (acc ++ [(⟨(i : Nat) + 1, (ls.getD i ⟨#[]⟩)⟩ : Field)]), rwB cFd [(⟨(i : Nat) + 1, (ls.getD i ⟨#[]⟩)⟩ : Field)], hole]) rfl rfl rfl (.inl ⟨_, rfl⟩) rfl rfl (Zfi cFd (by_ := 24) (k := 1) (n' := i + 1) (ms := [(⟨(i : Nat) + 1, (ls.getD i ⟨#[]⟩)⟩ : Field)]) (fun _ => rfl) rfl rfl (by kernel_rfl) rfl rfl (by have := ha; omega) (by omega) (by decide) (by omega)) rfl (by kernel_rfl) ?_
  refine Zd rfl rfl (slv 2 0 (i + 1) (i + 1)) rfl (Zb (Z3 (Zc (Zj ?_))))
  refine Zo (vx := Iv (i : Nat)) (vy := Iv 1) rfl rfl (Iv ((i : Nat) + 1)) rfl rfl (Zav (by omega) (by omega) (by omega)) ?_
  refine Zf rfl rfl (Iv ((i : Nat) + 1)) rfl (Zb ?_)
  refine Zaw ⟨((i + 1), (acc ++ [(⟨(i : Nat) + 1, (ls.getD i ⟨#[]⟩)⟩ : Field)])), ⟨Zy1 hR (by omega), by omega, by rw [List.length_append, ha]; rfl⟩, by show n - (i + 1) < n - i; omega, ?_⟩
  refine Zal (n := 3) rfl ?_ (by kernel_rfl) (by kernel_rfl)
  repeat (first | exact trivial | refine ⟨.inl rfl, ?_⟩ | refine ⟨.inr ⟨rfl, rfl⟩, ?_⟩ | refine ⟨.inr ⟨congrArg (Value.int .i64) (by first | omega | (dsimp only; omega)), rfl⟩, ?_⟩)
  refine Zo (vx := Iv (i : Nat)) (vy := Iv (n : Nat)) rfl rfl (.bool false) rfl rfl (Zce (by omega)) ?_
  refine Zb (Zc (Zg (Zz rfl (Zbe (Zam (Zau (Zas rfl (Zc (Zg (Zj (Zf rfl rfl (slv 2 0 i i) rfl ?_)))))))))))
  refine Z4 (e := [some (2, 0)]) (nid := 3) (Z08 (G := G) acc i i ha (by omega) (by omega)) (vals := [slv 2 0 i i]) (v := .tuple #[slv 3 0 ((Z8 acc 0 []).1.length) ((Z8 acc 0 []).1.length), Iv ((Z8 acc 0 []).2)]) (H' := [rfB (slv 1 0 n n), txB ls, rwB cFd acc, Zaq ((Z8 acc 0 []).1), hole]) rfl rfl rfl rfl rfl rfl rfl ⟨⟨⟨rfl, rfl, rfl, by first | omega | exact Nat.le_refl _, by first | omega | exact Nat.le_refl _⟩, trivial⟩, ⟨(Ze9 rfl), trivial⟩, rfl, rfl, rfl⟩ (by kernel_rfl) (by kernel_rfl) ?_
  refine Zf rfl rfl (.tuple #[slv 3 0 ((Z8 acc 0 []).1.length) ((Z8 acc 0 []).1.length), Iv ((Z8 acc 0 []).2)]) rfl (Zu (vs := #[slv 3 0 ((Z8 acc 0 []).1.length) ((Z8 acc 0 []).1.length), Iv ((Z8 acc 0 []).2)]) (v := slv 3 0 ((Z8 acc 0 []).1.length) ((Z8 acc 0 []).1.length)) rfl rfl rfl rfl (Zu (vs := #[slv 3 0 ((Z8 acc 0 []).1.length) ((Z8 acc 0 []).1.length), Iv ((Z8 acc 0 []).2)]) (v := Iv ((Z8 acc 0 []).2)) rfl rfl rfl rfl (Zd rfl rfl (slv 3 0 ((Z8 acc 0 []).1.length) ((Z8 acc 0 []).1.length)) rfl (Zd rfl rfl (Iv ((Z8 acc 0 []).2)) rfl (Zb (Zc (Zg (Zj (Zf rfl rfl (slv 3 0 ((Z8 acc 0 []).1.length) ((Z8 acc 0 []).1.length)) rfl (Zd rfl rfl (slv 3 0 ((Z8 acc 0 []).1.length) ((Z8 acc 0 []).1.length)) rfl (Zb (Zc (Zx (Zy ?_))))))))))))))
  have hR' : acc = Zgz 0 ls := by rw [← hR, List.drop_of_length_le (by omega)]; simp [Zgz]
  rw [show Zcr ls = (Z8 acc 0 []).1 from by rw [hR']; rfl]
  exact Za2 [0, 1, 3] (v := slv 3 0 ((Z8 acc 0 []).1.length) ((Z8 acc 0 []).1.length)) rfl (by kernel_rfl) rfl rfl (by decide) (by simp [Za8, rfB, txB, Zaq, Zlo, Zfw]) ⟨rfl, rfl, rfl, by first | omega | exact Nat.le_refl _ | exact Nat.zero_le _ | (dsimp only; omega), by first | omega | exact Nat.le_refl _ | exact Nat.zero_le _ | (dsimp only; omega)⟩
theorem Zwl (h : Head) : Zaf Tryd.prog G 23 [Zbn h] [] (.tuple #[slv 0 0 (Zag h).1.length (Zag h).1.length, Iv (Zag h).2]) [Zaq (Zag h).1] := by
  refine Zbj (fn := Tryd.f23) (nt := 34) rfl rfl rfl rfl ?_
  refine Zai 4 (H' := [hole, hole, hole, hole]) rfl ?_
  refine Zg (Zj ?_)
  refine Zcj (v := Zbn h) (b := bxB 36 (Zbf h)) (nid := 0) (H' := [bxB 36 (Zbf h), hole, hole, hole]) rfl rfl rfl (by kernel_rfl) (by kernel_rfl) ?_
  refine Zd rfl rfl (.slice none 0 0) rfl (Zd rfl rfl (Iv 0) rfl (Zb (Zc (Zg (Zg (Zj ?_))))))
  refine Zp (p := pt 0 0) (v := Zbn h) rfl rfl rfl (by kernel_rfl) ?_
  refine Zt (Zo3 (G := G) h) (vals := [Zbn h]) (res' := Iv (Za4 h)) rfl rfl rfl rfl rfl rfl ?_
  refine Zd rfl rfl (Iv (Za4 h)) rfl (Zb (Zc (Zg (Zj (Zf rfl rfl (Iv (Za4 h)) rfl ?_)))))
  by_cases h1 : (Za4 h) ≠ 0
  refine Zo (vx := Iv (Za4 h)) (vy := Iv 0) rfl rfl (.bool true) rfl rfl (Zdr (by omega)) ?_
  refine Zb (Zc (Z0 rfl (Zg (Zj (Zf rfl rfl (Iv (Za4 h)) rfl (Zd rfl rfl (.slice none 0 0) rfl (Zd rfl rfl (Iv (Za4 h)) rfl (Zb (Zc ?_)))))))))
  refine Zby (Zbt.nilTmp (i := 2) (b := 1) true 1 rfl (by decide) rfl) ?_
  refine Zx (Zaa (Zy ?_))
  rw [show Zag h = ([], (Za4 h)) from if_neg (by omega)]
  exact Za2 [1] (v := .tuple #[slv 1 0 0 0, Iv (Za4 h)]) rfl (by kernel_rfl) rfl rfl (by decide) (by simp [Za8, Zaq]) ⟨⟨rfl, rfl, rfl, by first | omega | exact Nat.le_refl _ | exact Nat.zero_le _ | (dsimp only; omega), by first | omega | exact Nat.le_refl _ | exact Nat.zero_le _ | (dsimp only; omega)⟩, rfl, trivial⟩
  refine Zo (vx := Iv (Za4 h)) (vy := Iv 0) rfl rfl (.bool false) rfl rfl (Zdb (by omega)) ?_
  refine Zb (Zc (Zz rfl (Z5 (Zc (Zg (Zj ?_))))))
  refine Z2 (b := rfB (.slice none 0 0)) (nid := 1) (H' := [bxB 36 (Zbf h), rfB (.slice none 0 0), hole, hole]) rfl rfl (by kernel_rfl) (by kernel_rfl) ?_
  refine Zb (Zc (Zg ?_))
  have hc := Zyz (h := h) (by omega)
  refine Zby (Zbt.nilCell (k := 1) (j := 0) (b := 2) true 1 rfl (by decide) rfl (by show 0 < 1; decide) rfl rfl) ?_
  refine Zj ?_
  refine Zm3 (vs := [pt 1 0]) (ws := []) rfl rfl rfl rfl rfl ?_
  refine Zd rfl rfl (.func (.func 42) #[pt 1 0] #[]) rfl (Zb (Zc (Zg (Zj (Zf rfl rfl (.func (.func 42) #[pt 1 0] #[]) rfl ?_)))))
  refine Zn (b := 0) (o := 0) (n := 0) (o' := 0) rfl rfl rfl rfl rfl ?_
  refine Zp (p := pt 0 0) (v := Iv h.region) rfl rfl rfl (by kernel_rfl) ?_
  refine Zcy (e := [some (1, 0), some (2, 0)]) (nid := 0) (Zkb (G := G) [] 0 h.region rfl (by omega) (by omega) (by omega)) (vals := [pt 1 0, Iv h.region]) (v := .tuple #[]) (H' := [bxB 36 (Zbf h), rfB (slv 2 0 1 1), txB ([] ++ [(Zv h.region).1]), hole]) rfl rfl rfl rfl rfl rfl ⟨⟨⟨rfl, rfl⟩, rfl, trivial⟩, ⟨(Zax rfl rfl rfl rfl), (Zax rfl rfl rfl rfl), trivial⟩, rfl, rfl, rfl, Nat.le_refl _⟩ (by kernel_rfl) rfl (by kernel_rfl) ?_
  refine Zb (Zc (Zg (Zj (Zf rfl rfl (.func (.func 42) #[pt 1 0] #[]) rfl ?_))))
  refine Zn (b := 0) (o := 0) (n := 1) (o' := 1) rfl rfl rfl rfl rfl ?_
  refine Zp (p := pt 0 1) (v := Iv h.epoch) rfl rfl rfl (by kernel_rfl) ?_
  refine Zcy (e := [some (1, 0), some (2, 0)]) (nid := 0) (Zkb (G := G) ([] ++ [(Zv h.region).1]) 1 h.epoch rfl (by omega) (by omega) (by omega)) (vals := [pt 1 0, Iv h.epoch]) (v := .tuple #[]) (H' := [bxB 36 (Zbf h), rfB (slv 2 0 2 2), txB (([] ++ [(Zv h.region).1]) ++ [(Zv h.epoch).1]), hole]) rfl rfl rfl rfl rfl rfl ⟨⟨⟨rfl, rfl⟩, rfl, trivial⟩, ⟨(Zax rfl rfl rfl rfl), (Zax rfl rfl rfl rfl), trivial⟩, rfl, rfl, rfl, Nat.le_refl _⟩ (by kernel_rfl) rfl (by kernel_rfl) ?_
  refine Zb (Zc (Zg (Zj (Zf rfl rfl (.func (.func 42) #[pt 1 0] #[]) rfl ?_))))
  refine Zn (b := 0) (o := 0) (n := 2) (o' := 2) rfl rfl rfl rfl rfl ?_
  refine Zp (p := pt 0 2) (v := Iv h.size) rfl rfl rfl (by kernel_rfl) ?_
  refine Zcy (e := [some (1, 0), some (2, 0)]) (nid := 0) (Zkb (G := G) (([] ++ [(Zv h.region).1]) ++ [(Zv h.epoch).1]) 2 h.size rfl (by omega) (by omega) (by omega)) (vals := [pt 1 0, Iv h.size]) (v := .tuple #[]) (H' := [bxB 36 (Zbf h), rfB (slv 2 0 3 3), txB ((([] ++ [(Zv h.region).1]) ++ [(Zv h.epoch).1]) ++ [(Zv h.size).1]), hole]) rfl rfl rfl rfl rfl rfl ⟨⟨⟨rfl, rfl⟩, rfl, trivial⟩, ⟨(Zax rfl rfl rfl rfl), (Zax rfl rfl rfl rfl), trivial⟩, rfl, rfl, rfl, Nat.le_refl _⟩ (by kernel_rfl) rfl (by kernel_rfl) ?_
  refine Zb (Zc (Zg (Zj ?_)))
  refine Zn (b := 0) (o := 0) (n := 3) (o' := 3) rfl rfl rfl rfl rfl ?_
  refine Zch (p := pt 0 3) (vl := none) (vh := none) (v := slv 0 3 32 32) rfl rfl rfl rfl rfl rfl ?_
  refine Zfr (p := slv 0 3 32 32) (v := .string (Zr (dgL h.root))) rfl rfl rfl (Zea (l := (dgL h.root)) rfl rfl rfl rfl (of_decide_eq_true (by kernel_rfl)) (by kernel_rfl)) ?_
  refine Zcy (e := [some (1, 0), some (2, 0)]) (nid := 0) (Zpw (G := G) ((([] ++ [(Zv h.region).1]) ++ [(Zv h.epoch).1]) ++ [(Zv h.size).1]) 3 (Zr (dgL h.root)) rfl (by omega)) (vals := [pt 1 0, .string (Zr (dgL h.root))]) (v := .tuple #[]) (H' := [bxB 36 (Zbf h), rfB (slv 2 0 4 4), txB (((([] ++ [(Zv h.region).1]) ++ [(Zv h.epoch).1]) ++ [(Zv h.size).1]) ++ [(Zr (dgL h.root))]), hole]) rfl rfl rfl rfl rfl rfl ⟨⟨⟨rfl, rfl⟩, rfl, trivial⟩, ⟨(Zax rfl rfl rfl rfl), (Zax rfl rfl rfl rfl), trivial⟩, rfl, rfl, rfl, Nat.le_refl _⟩ (by kernel_rfl) rfl (by kernel_rfl) ?_
  refine Zb (Zc (Zg (Zj (Zf rfl rfl (.func (.func 42) #[pt 1 0] #[]) rfl ?_))))
  refine Zn (b := 0) (o := 0) (n := 35) (o' := 35) rfl rfl rfl rfl rfl ?_
  refine Zp (p := pt 0 35) (v := Iv h.tick) rfl rfl rfl (by kernel_rfl) ?_
  refine Zcy (e := [some (1, 0), some (2, 0)]) (nid := 0) (Zkb (G := G) (((([] ++ [(Zv h.region).1]) ++ [(Zv h.epoch).1]) ++ [(Zv h.size).1]) ++ [(Zr (dgL h.root))]) 4 h.tick rfl (by omega) (by omega) (by omega)) (vals := [pt 1 0, Iv h.tick]) (v := .tuple #[]) (H' := [bxB 36 (Zbf h), rfB (slv 2 0 5 5), txB ((((([] ++ [(Zv h.region).1]) ++ [(Zv h.epoch).1]) ++ [(Zv h.size).1]) ++ [(Zr (dgL h.root))]) ++ [(Zv h.tick).1]), hole]) rfl rfl rfl rfl rfl rfl ⟨⟨⟨rfl, rfl⟩, rfl, trivial⟩, ⟨(Zax rfl rfl rfl rfl), (Zax rfl rfl rfl rfl), trivial⟩, rfl, rfl, rfl, Nat.le_refl _⟩ (by kernel_rfl) rfl (by kernel_rfl) ?_
  refine Zb (Zc (Zg (Zj ?_)))
  refine Zcy (e := [some (1, 0), some (2, 0)]) (nid := 3) (Zut (G := G) ((((([] ++ [(Zv h.region).1]) ++ [(Zv h.epoch).1]) ++ [(Zv h.size).1]) ++ [(Zr (dgL h.root))]) ++ [(Zv h.tick).1]) 5 rfl (by omega)) (vals := [pt 1 0]) (v := slv 3 0 ((Zcr ((((([] ++ [(Zv h.region).1]) ++ [(Zv h.epoch).1]) ++ [(Zv h.size).1]) ++ [(Zr (dgL h.root))]) ++ [(Zv h.tick).1])).length) ((Zcr ((((([] ++ [(Zv h.region).1]) ++ [(Zv h.epoch).1]) ++ [(Zv h.size).1]) ++ [(Zr (dgL h.root))]) ++ [(Zv h.tick).1])).length)) (H' := [bxB 36 (Zbf h), rfB (slv 2 0 5 5), txB ((((([] ++ [(Zv h.region).1]) ++ [(Zv h.epoch).1]) ++ [(Zv h.size).1]) ++ [(Zr (dgL h.root))]) ++ [(Zv h.tick).1]), Zaq (Zcr ((((([] ++ [(Zv h.region).1]) ++ [(Zv h.epoch).1]) ++ [(Zv h.size).1]) ++ [(Zr (dgL h.root))]) ++ [(Zv h.tick).1]))]) rfl rfl rfl rfl rfl rfl ⟨⟨⟨rfl, rfl⟩, trivial⟩, ⟨(Zax rfl rfl rfl rfl), (Zax rfl rfl rfl rfl), trivial⟩, rfl, rfl, rfl, Nat.le_refl _⟩ rfl rfl (by kernel_rfl) ?_
  refine Zd rfl rfl (slv 3 0 ((Zcr ((((([] ++ [(Zv h.region).1]) ++ [(Zv h.epoch).1]) ++ [(Zv h.size).1]) ++ [(Zr (dgL h.root))]) ++ [(Zv h.tick).1])).length) ((Zcr ((((([] ++ [(Zv h.region).1]) ++ [(Zv h.epoch).1]) ++ [(Zv h.size).1]) ++ [(Zr (dgL h.root))]) ++ [(Zv h.tick).1])).length)) rfl ?_
  refine Zd rfl rfl (Iv 0) rfl (Zb (Zc (Zx (Zy ?_))))
  rw [show Zag h = ((Zcr ((((([] ++ [(Zv h.region).1]) ++ [(Zv h.epoch).1]) ++ [(Zv h.size).1]) ++ [(Zr (dgL h.root))]) ++ [(Zv h.tick).1])), 0) from if_pos (by omega)]
  exact Za2 [3] (v := .tuple #[slv 3 0 ((Zcr ((((([] ++ [(Zv h.region).1]) ++ [(Zv h.epoch).1]) ++ [(Zv h.size).1]) ++ [(Zr (dgL h.root))]) ++ [(Zv h.tick).1])).length) ((Zcr ((((([] ++ [(Zv h.region).1]) ++ [(Zv h.epoch).1]) ++ [(Zv h.size).1]) ++ [(Zr (dgL h.root))]) ++ [(Zv h.tick).1])).length), Iv 0]) rfl (by kernel_rfl) rfl rfl (by decide) (by simp [Za8, Zaq]) ⟨⟨rfl, rfl, rfl, by first | omega | exact Nat.le_refl _ | exact Nat.zero_le _ | (dsimp only; omega), by first | omega | exact Nat.le_refl _ | exact Nat.zero_le _ | (dsimp only; omega)⟩, rfl, trivial⟩
end Go.Flat
