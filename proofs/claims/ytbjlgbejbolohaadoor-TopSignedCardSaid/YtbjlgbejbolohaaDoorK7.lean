/- Walks. -/
import Derived.Test.YtbjlgbejbolohaaDoorK4
import Derived.Test.YtbjlgbejbolohaaDoorFlatE
import Derived.Tactics
import Derived.Tactics2
import Derived.Recover
import Derived.Laws.Pointers
import Derived.Test.YtbjlgbejbolohaaDoorChecked
set_option linter.unusedVariables false
set_option linter.unusedSimpArgs false
set_option maxRecDepth 20000
namespace Go.Flat
open Go.Proofs
variable {G : Glob}
theorem Z19 : ∀ n, rep n (Zaa w8 32 dz) = dsC (List.replicate n dz)
 | 0 => rfl
 | n + 1 => by rw [List.replicate_succ, Zfa, ← Z19 n]; rfl
theorem Z2a : ∀ n, rep n [Value.string ⟨#[]⟩] = (List.replicate n (⟨#[]⟩ : ByteArray)).map Value.string
 | 0 => rfl
 | n + 1 => by rw [List.replicate_succ, List.map_cons, ← Z2a n]; rfl
theorem Zz4 (p q : List Stp) : (Zfe (p ++ q)).drop (p.length * 33) = Zfe q := by
 rw [Zu4, List.drop_append_of_le_length (by rw [Zmg]; exact Nat.le_refl _), List.drop_of_length_le (by rw [Zmg]; exact Nat.le_refl _), List.nil_append]
theorem Zrx (a : Stp) (q : List Stp) : Zfe (a :: q) = Zaa w8 32 a.1 ++ ([Value.bool a.2] ++ Zfe q) := by simp [Zfe]
theorem Z4h (l : List Stp) (i : Nat) (p : Stp) (h : l[i]? = some p) : ((Zfe l).drop (i * 33)).take 32 = Zaa w8 32 p.1 ∧ (Zfe l)[i * 33 + 32]? = some (Value.bool p.2) := by
 have hi : i < l.length := (List.getElem?_eq_some_iff.1 h).1
 have e : l = l.take i ++ p :: l.drop (i + 1) := by
  have := List.getElem?_eq_some_iff.1 h
  obtain ⟨h1, h2⟩ := this
  rw [← h2, ← List.drop_eq_getElem_cons h1, List.take_append_drop]
 have hl : (l.take i).length = i := by simp; omega
 have hd := Zz4 (l.take i) (p :: l.drop (i + 1))
 rw [← e, hl] at hd
 refine ⟨?_, ?_⟩
 ·rw [hd, Zrx, List.take_append_of_le_length (by rw [Zbl]; exact Nat.le_refl _), List.take_of_length_le (by rw [Zbl]; exact Nat.le_refl _)]
 ·have : (Zfe l)[i * 33 + 32]? = ((Zfe l).drop (i * 33))[32]? := by rw [List.getElem?_drop]
  rw [this, hd, Zrx, List.getElem?_append_right (by rw [Zbl]; exact Nat.le_refl _), Zbl]
  rfl
structure KnS where
  j : Nat
  A : List D
  TS : List ByteArray
theorem drop_set {α : Type} {A : List α} {j : Nat} {x : α} {t : List α} (h : A.drop (j + 1) = t) (hj : j < A.length) : (A.set j x).drop j = x :: t := by
 rw [List.drop_eq_getElem_cons (by simpa using hj)]
 congr 1
 ·simp
 ·rw [List.drop_set, if_pos (by omega)]; exact h
set_option maxRecDepth 20000 in
set_option maxHeartbeats 8000000 in
theorem Z1l (kk : Nat → BitVec 32) (hG : G 0 = some (Zaa w32 64 kk)) (leaf : D) (l : List Stp) (n c : Nat) (hn : l.length = n) (hb : n ≤ 1000) (hc : n ≤ c) :
  Zac Tryd.prog G 41 [dgV leaf, slv 0 0 n c] [Zjt l] (.tuple #[slv 1 0 (n + 1) (n + 1), slv 2 0 n n]) [Zjt l, dsB (knA kk leaf l), txB (knT kk leaf l)] := by
 refine Zb8 (fn := Tryd.f41) (nt := 64) rfl rfl rfl rfl ?_
 refine Zah 5 (H' := [Zjt l, hole, hole, hole, hole, hole]) rfl ?_
 have hr1 : ((n : Int) + 1) = ((n + 1 : Nat) : Int) := by omega
 repeat (first
  | ((with_reducible apply Zdc (nid := 3)); rfl; rfl; exact (rfl : _ = Value.agg _); rfl; exact (show _ = [Zjt l, hole, hole, dgB leaf, hole, hole] by kernel_rfl))
  | ((with_reducible apply Zwc (nid := 1)); rfl; rfl; exact (rfl : _ = Value.int _ _); exact (rfl : _ = Value.int _ _); exact Zpm (n := n + 1) (c := n + 1) (rfl : _ = some (32, _, 32)) hr1 hr1 (Nat.le_refl _) (by omega) (by omega) rfl; exact (congrArg (fun q => [Zjt l, ({ cells := q, sz := 32, wr := true, fix := false, mv := true, pur := true } : Blk), hole, dgB leaf, hole, hole]) (Z19 (n + 1))))
  | ((with_reducible apply Zwc (nid := 2)); rfl; rfl; exact (rfl : _ = Value.int _ _); exact (rfl : _ = Value.int _ _); exact Zpm (n := n) (c := n) (rfl : _ = some (1, _, 16)) rfl rfl (Nat.le_refl _) (by omega) (by omega) rfl; exact (congrArg (fun q => [Zjt l, dsB (List.replicate (n + 1) dz), ({ cells := q, sz := 1, wr := true, fix := false, mv := true, pur := true } : Blk), dgB leaf, hole, hole]) (Z2a n)))
  | ((with_reducible apply Zg); rfl; rfl; exact (rfl : _ = Value.pointer (some ⟨3, _, _⟩)); exact (show _ = some (dgV leaf) by kernel_rfl))
  | ((with_reducible apply Zj); rfl; exact (rfl : _ = Value.pointer (some ⟨1, _, _⟩)); exact (rfl : _ = Value.agg _); exact Zi5 (i := n) (Q := List.replicate (n + 1) dz) rfl rfl rfl rfl (by simp) rfl; exact (show _ = [Zjt l, dsB ((List.replicate (n + 1) dz).set n leaf), txB (List.replicate n ⟨#[]⟩), dgB leaf, hole, hole] by kernel_rfl))
  | ((with_reducible apply Zbe (j := n * 32)); rfl; rfl; exact (rfl : _ = Value.slice (some ⟨_, _, _⟩) _ _); (exact (rfl : _ = Value.int _ _)); (exact (rfl : _ = some (_, 32))); omega; omega; omega)
  | ((with_reducible apply Zd); rfl; rfl; (exact (rfl : _ = Value.slice _ _ _)))
  | ((with_reducible apply Zc); rfl; rfl; (first
  | exact (rfl : _ = Value.int _ _)
  | exact (rfl : _ = Value.slice _ _ _)))
  | ((with_reducible apply Zi); rfl; rfl; (exact (rfl : _ = Value.int _ _)); (exact (rfl : _ = Value.int _ _)); (first
  | with_reducible exact Zap rfl (by omega) (by omega)
  | with_reducible exact Zb5 rfl (by omega) (by omega)))
  | ((with_reducible apply Za6); rfl; rfl; (exact (rfl : _ = Value.slice _ _ _)); (exact (rfl : _ = some (Value.int _ _))))
  | with_reducible refine Za ?_
  | with_reducible refine Zf ?_
  | with_reducible refine Ze ?_
  | with_reducible refine Z1 ?_
  | with_reducible refine Zb ?_
  | (with_reducible refine Zca (by kernel_rfl) ?_)
  | (with_reducible refine Zc4 (by kernel_rfl) ?_))
 refine Zby (fun x : KnS => [dead, slv 0 0 n c, dead, dead, dead, dead, slv 1 0 (n + 1) (n + 1), slv 2 0 n n, Iv ((x.j : Int) - 1)]) (fun x => [Zjt l, dsB x.A, txB x.TS]) (fun x => x.j ≤ n ∧ x.A.length = n + 1 ∧ x.TS.length = n ∧ x.A.drop x.j = knA kk leaf (l.drop x.j) ∧ x.TS.drop x.j = knT kk leaf (l.drop x.j)) (fun x => x.j) ⟨n, (List.replicate (n + 1) dz).set n leaf, List.replicate n ⟨#[]⟩⟩ ⟨Nat.le_refl _, by simp, by simp, ?_, ?_⟩ ?_ ?_
 ·rw [List.drop_of_length_le (l := l) (by show l.length ≤ n; omega)]
  exact drop_set (by rw [List.drop_of_length_le (by simp)]) (by simp)
 ·rw [List.drop_of_length_le (l := l) (by show l.length ≤ n; omega), List.drop_of_length_le (by simp)]; rfl
 ·refine Z2 (n := 3) rfl ?_ rfl ?_
  repeat (first | exact trivial | refine ⟨.inl rfl, ?_⟩ | refine ⟨.inr ⟨rfl, rfl⟩, ?_⟩)
  ·simp [Zjt, dsB, txB]
 ·rintro ⟨j, A, TS⟩ ⟨g1, g2, g3, g4, g5⟩
  dsimp only at g1 g2 g3 g4 g5 ⊢
  rcases Nat.eq_zero_or_pos j with h0 | h0
  ·subst h0
   have e1 : A = knA kk leaf l := by simpa using g4
   have e2 : TS = knT kk leaf l := by simpa using g5
   rw [← e1, ← e2]
   repeat (first
    | ((with_reducible apply Zd); rfl; rfl; (first
    | exact (rfl : _ = Value.int _ _)
    | exact (rfl : _ = Value.slice _ _ _)))
    | ((with_reducible apply Zc); rfl; rfl; (exact (rfl : _ = Value.slice _ _ _)))
    | ((with_reducible apply Zi); rfl; rfl; (exact (rfl : _ = Value.int _ _)); (exact (rfl : _ = Value.int _ _)); (with_reducible exact Zis (by omega)))
    | with_reducible refine Za ?_
    | with_reducible refine Zf ?_
    | with_reducible refine Ze ?_
    | with_reducible refine Zbx ?_
    | with_reducible refine Zw ?_
    | with_reducible refine Zb ?_
    | with_reducible refine Zay ?_
    | with_reducible refine Zav ?_
    | ((with_reducible apply Zr); rfl)
    | ((with_reducible apply Za2); rfl))
   refine Zy ?_
   refine Zo (v := .tuple #[slv 1 0 (n + 1) (n + 1), slv 2 0 n n]) rfl rfl rfl ?_ ?_
   ·simp [Za1, Zjt, dsB, txB]
   ·exact ⟨⟨rfl, rfl, rfl, by omega, by omega⟩, ⟨rfl, rfl, rfl, by omega, by omega⟩, trivial⟩
  ·obtain ⟨i, rfl⟩ : ∃ i, j = i + 1 := ⟨j - 1, by omega⟩
   obtain ⟨⟨y, r⟩, hp⟩ : ∃ p, l[i]? = some p := ⟨l[i]'(by omega), by simp⟩
   obtain ⟨p1, p2⟩ := Z4h l i (y, r) hp
   dsimp only at p1 p2
   have hld : l.drop i = (y, r) :: l.drop (i + 1) := by
    obtain ⟨h1, h2⟩ := List.getElem?_eq_some_iff.1 hp
    rw [← h2, ← List.drop_eq_getElem_cons h1]
   have hA1 := Zhy A (i + 1) (by omega)
   have hgx : A.getD (i + 1) d0 = (knA kk leaf (l.drop (i + 1))).getD 0 d0 := by
    rw [← g4, List.getD_eq_getElem?_getD, List.getD_eq_getElem?_getD, List.getElem?_drop, Nat.add_zero]
   rw [hgx] at hA1
   have hxx : (((i + 1 : Nat) : Int) - 1) = (i : Nat) := by omega
   have hxx1 : (((i + 1 : Nat) : Int) - 1) + 1 = ((i + 1 : Nat) : Int) := by omega
   rw [hxx] 
   have kA : knA kk leaf (l.drop i) = (if r then Zba kk y ((knA kk leaf (l.drop (i + 1))).getD 0 d0) else Zba kk ((knA kk leaf (l.drop (i + 1))).getD 0 d0) y) :: knA kk leaf (l.drop (i + 1)) := by rw [hld]; rfl
   have kT : knT kk leaf (l.drop i) = (if r then tx y ((knA kk leaf (l.drop (i + 1))).getD 0 d0) else tx ((knA kk leaf (l.drop (i + 1))).getD 0 d0) y) :: knT kk leaf (l.drop (i + 1)) := by rw [hld]; rfl
   generalize (knA kk leaf (l.drop (i + 1))).getD 0 d0 = x at *
   have h32 : ∀ d : Nat → BitVec 8, (Zs (dgL d)).size = 32 := fun d => by rw [Za3, Zei]
   have h1 : Zql.size = 1 := rfl
   have hcA : (dsB A).cells.length = (n + 1) * 32 := by show (dsC A).length = _; rw [Zat, g2]
   have hcS : (Zjt l).cells.length = n * 33 := by show (Zfe l).length = _; rw [Zmg, hn]
   refine Zah 2 (H' := [Zjt l, dsB A, txB TS, hole, hole]) rfl ?_
   cases r with
   | false =>
    have hK := Zhs (G := G) kk hG x y
    have c1 : Zql.size + (Zs (dgL x)).size ≤ 140737488351232 := by rw [h32, h1]; omega
    have c2 : (Zql ++ Zs (dgL x)).size + (Zs (dgL y)).size ≤ 140737488351232 := by rw [ByteArray.size_append, h32, h32, h1]; omega
    have hstr : Zs (dgL x) = Zs (dgL x) := rfl
    repeat (first
     | ((with_reducible apply Zbe (j := i * 33)); rfl; rfl; exact (rfl : _ = Value.slice (some ⟨_, _, _⟩) _ _); exact (rfl : _ = Value.int _ _); exact (rfl : _ = some (_, 33)); omega; omega; omega)
     | ((with_reducible apply Zg); rfl; rfl; exact (rfl : _ = Value.pointer (some ⟨1, _, _⟩)); exact (show _ = some (dgV x) from Zcj (n := 32) rfl rfl (by omega) hA1))
     | ((with_reducible apply Zg); rfl; rfl; exact (rfl : _ = Value.pointer (some ⟨0, _, _⟩)); first | exact (show _ = some (dgV y) from Zcj (n := 32) rfl rfl (by omega) p1) | exact (show _ = some (Value.bool _) from Ziv rfl rfl p2 rfl))
     | ((with_reducible apply Zq (nid := 3)); rfl; rfl; rfl; exact (show _ = [Zjt l, dsB A, txB TS, dgB dz, hole] by kernel_rfl))
     | ((with_reducible apply Zq (nid := 4)); rfl; rfl; rfl; exact (rfl : _ = _ :: _))
     | ((with_reducible apply Zgy); rfl; rfl; exact (rfl : _ = Value.slice (some ⟨3, _, _⟩) _ _); exact Zec (l := dgL x) rfl rfl rfl rfl (by show 0 + 32 ≤ 32; decide) rfl)
     | ((with_reducible apply Zgy); rfl; rfl; exact (rfl : _ = Value.slice (some ⟨4, _, _⟩) _ _); exact Zec (l := dgL y) rfl rfl rfl rfl (by show 0 + 32 ≤ 32; decide) rfl)
     | ((with_reducible apply Zi); rfl; rfl; exact (rfl : _ = Value.string _); exact (rfl : _ = Value.string _); first | exact Zkn c1 | exact Zkn c2)
     | ((with_reducible apply Zj); rfl; exact (rfl : _ = Value.pointer (some ⟨1, _, _⟩)); exact (rfl : _ = Value.agg _); exact Zi5 (i := i) (Q := A) rfl rfl rfl rfl (by omega) rfl; exact (rfl : _ = _ :: _))
     | ((with_reducible apply Zj); rfl; exact (rfl : _ = Value.pointer (some ⟨2, _, _⟩)); exact (rfl : _ = Value.string _); exact Zlj (o := i) rfl rfl rfl rfl (by show i < (TS.map Value.string).length; simp; omega) rfl rfl; exact (rfl : _ = _ :: _))
     | ((with_reducible apply Zbe (j := (i + 1) * 32)); rfl; rfl; exact (rfl : _ = Value.slice (some ⟨_, _, _⟩) _ _); (exact (rfl : _ = Value.int _ _)); (first
     | exact (rfl : _ = some (_, 1))
     | exact (rfl : _ = some (_, 32))); omega; omega; omega)
     | ((with_reducible apply Zbe (j := i * 32)); rfl; rfl; exact (rfl : _ = Value.slice (some ⟨_, _, _⟩) _ _); (exact (rfl : _ = Value.int _ _)); (first
     | exact (rfl : _ = some (_, 1))
     | exact (rfl : _ = some (_, 32))); omega; omega; omega)
     | ((with_reducible apply Zbe (j := i)); rfl; rfl; exact (rfl : _ = Value.slice (some ⟨_, _, _⟩) _ _); (exact (rfl : _ = Value.int _ _)); (exact (rfl : _ = some (_, 1))); omega; omega; omega)
     | ((with_reducible apply Zd); rfl; rfl; (first
     | exact (rfl : _ = Value.int _ _)
     | exact (rfl : _ = Value.slice _ _ _)))
     | ((with_reducible apply Zc); rfl; rfl; (exact (rfl : _ = Value.int _ _)))
     | ((with_reducible apply Zi); rfl; rfl; (exact (rfl : _ = Value.int _ _)); (exact (rfl : _ = Value.int _ _)); (first
     | with_reducible exact Zit (by omega)
     | with_reducible exact Zap rfl (by omega) (by omega)
     | with_reducible exact Zb5 rfl (by omega) (by omega)))
     | ((with_reducible apply Zci); rfl; rfl; (exact (rfl : _ = Value.pointer (some _))); rfl; rfl; (exact (rfl : _ = some (Value.slice (some ⟨_, _, _⟩) _ _))))
     | ((with_reducible apply Zh); rfl; rfl; exact (rfl : _ = Value.pointer (some ⟨_, _, _⟩)); (first
     | exact (rfl : _ = some 0)
     | rfl); (exact Nat.add_zero _))
     | ((with_reducible apply Zg); rfl; rfl; exact (rfl : _ = Value.pointer (some ⟨_, _, _⟩)); (exact (rfl : _ = some (Value.agg _))))
     | ((with_reducible apply Zj); rfl; exact (rfl : _ = Value.pointer (some ⟨_, _, _⟩)); (exact (rfl : _ = Value.agg _)); (rfl); exact (rfl : _ = _ :: _))
     | ((with_reducible apply Zv (hK)); rfl; rfl; rfl; rfl; rfl; (exact (rfl : _ = Value.agg _)))
     | with_reducible refine Za ?_
     | with_reducible refine Zf ?_
     | with_reducible refine Ze ?_
     | with_reducible refine Z1 ?_
     | with_reducible refine Z0 ?_
     | with_reducible refine Zb ?_
     | with_reducible refine Zag ?_
     | (with_reducible refine Zca (by kernel_rfl) ?_)
     | (with_reducible refine Zc4 (by kernel_rfl) ?_)
     | ((with_reducible apply Zu); rfl)
     | ((with_reducible apply Zr); rfl))
    refine Zx ⟨⟨i, A.set i (Zba kk x y), TS.set i (tx x y)⟩, ⟨by show i ≤ n; omega, by simpa using g2, by simpa using g3, ?_, ?_⟩, by show i < i + 1; omega, ?_⟩
    ·rw [kA]; exact drop_set g4 (by show i < A.length; omega)
    ·rw [kT]; exact drop_set g5 (by show i < TS.length; omega)
    ·have e2 : (TS.map Value.string).set i (Value.string (tx x y)) = (TS.set i (tx x y)).map Value.string := by rw [List.map_set]
     refine Z2 (n := 3) rfl ?_ (congrArg (fun q => [Zjt l, dsB (A.set i (Zba kk x y)), ({ cells := q, sz := 1, wr := true, fix := false, mv := true, pur := true } : Blk)]) e2) ?_
     repeat (first | exact trivial | refine ⟨.inl rfl, ?_⟩ | refine ⟨.inr ⟨rfl, rfl⟩, ?_⟩)
     ·simp [Zjt, dsB, txB]
   | true =>
    have hK := Zhs (G := G) kk hG y x
    have c1 : Zql.size + (Zs (dgL y)).size ≤ 140737488351232 := by rw [h32, h1]; omega
    have c2 : (Zql ++ Zs (dgL y)).size + (Zs (dgL x)).size ≤ 140737488351232 := by rw [ByteArray.size_append, h32, h32, h1]; omega
    have hstr : Zs (dgL y) = Zs (dgL y) := rfl
    repeat (first
     | ((with_reducible apply Zbe (j := i * 33)); rfl; rfl; exact (rfl : _ = Value.slice (some ⟨_, _, _⟩) _ _); exact (rfl : _ = Value.int _ _); exact (rfl : _ = some (_, 33)); omega; omega; omega)
     | ((with_reducible apply Zg); rfl; rfl; exact (rfl : _ = Value.pointer (some ⟨1, _, _⟩)); exact (show _ = some (dgV x) from Zcj (n := 32) rfl rfl (by omega) hA1))
     | ((with_reducible apply Zg); rfl; rfl; exact (rfl : _ = Value.pointer (some ⟨0, _, _⟩)); first | exact (show _ = some (dgV y) from Zcj (n := 32) rfl rfl (by omega) p1) | exact (show _ = some (Value.bool _) from Ziv rfl rfl p2 rfl))
     | ((with_reducible apply Zq (nid := 3)); rfl; rfl; rfl; exact (show _ = [Zjt l, dsB A, txB TS, dgB dz, hole] by kernel_rfl))
     | ((with_reducible apply Zq (nid := 4)); rfl; rfl; rfl; exact (rfl : _ = _ :: _))
     | ((with_reducible apply Zgy); rfl; rfl; exact (rfl : _ = Value.slice (some ⟨3, _, _⟩) _ _); exact Zec (l := dgL y) rfl rfl rfl rfl (by show 0 + 32 ≤ 32; decide) rfl)
     | ((with_reducible apply Zgy); rfl; rfl; exact (rfl : _ = Value.slice (some ⟨4, _, _⟩) _ _); exact Zec (l := dgL x) rfl rfl rfl rfl (by show 0 + 32 ≤ 32; decide) rfl)
     | ((with_reducible apply Zi); rfl; rfl; exact (rfl : _ = Value.string _); exact (rfl : _ = Value.string _); first | exact Zkn c1 | exact Zkn c2)
     | ((with_reducible apply Zj); rfl; exact (rfl : _ = Value.pointer (some ⟨1, _, _⟩)); exact (rfl : _ = Value.agg _); exact Zi5 (i := i) (Q := A) rfl rfl rfl rfl (by omega) rfl; exact (rfl : _ = _ :: _))
     | ((with_reducible apply Zj); rfl; exact (rfl : _ = Value.pointer (some ⟨2, _, _⟩)); exact (rfl : _ = Value.string _); exact Zlj (o := i) rfl rfl rfl rfl (by show i < (TS.map Value.string).length; simp; omega) rfl rfl; exact (rfl : _ = _ :: _))
     | ((with_reducible apply Zbe (j := (i + 1) * 32)); rfl; rfl; exact (rfl : _ = Value.slice (some ⟨_, _, _⟩) _ _); (exact (rfl : _ = Value.int _ _)); (first
     | exact (rfl : _ = some (_, 1))
     | exact (rfl : _ = some (_, 32))); omega; omega; omega)
     | ((with_reducible apply Zbe (j := i * 32)); rfl; rfl; exact (rfl : _ = Value.slice (some ⟨_, _, _⟩) _ _); (exact (rfl : _ = Value.int _ _)); (first
     | exact (rfl : _ = some (_, 1))
     | exact (rfl : _ = some (_, 32))); omega; omega; omega)
     | ((with_reducible apply Zbe (j := i)); rfl; rfl; exact (rfl : _ = Value.slice (some ⟨_, _, _⟩) _ _); (exact (rfl : _ = Value.int _ _)); (exact (rfl : _ = some (_, 1))); omega; omega; omega)
     | ((with_reducible apply Zd); rfl; rfl; (first
     | exact (rfl : _ = Value.int _ _)
     | exact (rfl : _ = Value.slice _ _ _)))
     | ((with_reducible apply Zc); rfl; rfl; (exact (rfl : _ = Value.int _ _)))
     | ((with_reducible apply Zi); rfl; rfl; (exact (rfl : _ = Value.int _ _)); (exact (rfl : _ = Value.int _ _)); (first
     | with_reducible exact Zit (by omega)
     | with_reducible exact Zap rfl (by omega) (by omega)
     | with_reducible exact Zb5 rfl (by omega) (by omega)))
     | ((with_reducible apply Zci); rfl; rfl; (exact (rfl : _ = Value.pointer (some _))); rfl; rfl; (exact (rfl : _ = some (Value.slice (some ⟨_, _, _⟩) _ _))))
     | ((with_reducible apply Zh); rfl; rfl; exact (rfl : _ = Value.pointer (some ⟨_, _, _⟩)); (first
     | exact (rfl : _ = some 0)
     | rfl); (exact Nat.add_zero _))
     | ((with_reducible apply Zg); rfl; rfl; exact (rfl : _ = Value.pointer (some ⟨_, _, _⟩)); (exact (rfl : _ = some (Value.agg _))))
     | ((with_reducible apply Zj); rfl; exact (rfl : _ = Value.pointer (some ⟨_, _, _⟩)); (exact (rfl : _ = Value.agg _)); (rfl); exact (rfl : _ = _ :: _))
     | ((with_reducible apply Zv (hK)); rfl; rfl; rfl; rfl; rfl; (exact (rfl : _ = Value.agg _)))
     | with_reducible refine Za ?_
     | with_reducible refine Zf ?_
     | with_reducible refine Ze ?_
     | with_reducible refine Z1 ?_
     | with_reducible refine Z0 ?_
     | with_reducible refine Zb ?_
     | with_reducible refine Zag ?_
     | (with_reducible refine Zca (by kernel_rfl) ?_)
     | (with_reducible refine Zc4 (by kernel_rfl) ?_)
     | ((with_reducible apply Zu); rfl))
    refine Zx ⟨⟨i, A.set i (Zba kk y x), TS.set i (tx y x)⟩, ⟨by show i ≤ n; omega, by simpa using g2, by simpa using g3, ?_, ?_⟩, by show i < i + 1; omega, ?_⟩
    ·rw [kA]; exact drop_set g4 (by show i < A.length; omega)
    ·rw [kT]; exact drop_set g5 (by show i < TS.length; omega)
    ·have e2 : (TS.map Value.string).set i (Value.string (tx y x)) = (TS.set i (tx y x)).map Value.string := by rw [List.map_set]
     refine Z2 (n := 3) rfl ?_ (congrArg (fun q => [Zjt l, dsB (A.set i (Zba kk y x)), ({ cells := q, sz := 1, wr := true, fix := false, mv := true, pur := true } : Blk)]) e2) ?_
     repeat (first | exact trivial | refine ⟨.inl rfl, ?_⟩ | refine ⟨.inr ⟨rfl, rfl⟩, ?_⟩)
     ·simp [Zjt, dsB, txB]
end Go.Flat
namespace Go.Flat
open Go.Proofs
theorem Zqz : Zw1 Tryd.prog 40 32 (Iv 40) := by
 constructor
 ·intro p u pv w w' h
  refine callsD_of_wpS (fn := Tryd.f40) rfl rfl fun c₀ cs hu => ?_
  apply wpS_seq
  apply wpS_region
  simp [wpOpsS, go_sem, recoverD, hu, Exit.thenS, Tryd.f40]
  apply wpS_seq
  apply wpS_region
  simp [wpOpsS, go_sem, Exit.thenS, Act.eval, Act.put]
  refine wpS_cond (t := true) (by simp [Act.eval, Array.replicate]) ?_
  simp only [if_true]
  apply wpS_region
  simp [go_sem] at h
  simp [wpOpsS, go_sem, h, bodyPostS, results, Oper.upon]
 ·intro p w
  refine callsD_of_wpS (fn := Tryd.f40) rfl rfl fun c₀ cs hu => ?_
  apply wpS_seq
  apply wpS_region
  simp [wpOpsS, go_sem, recoverD, hu, Exit.thenS, Tryd.f40]
  apply wpS_seq
  apply wpS_region
  simp [wpOpsS, go_sem, Exit.thenS, Act.eval, Act.put]
  refine wpS_cond (t := false) (by simp [Act.eval, Array.replicate]) ?_
  simp only [Bool.false_eq_true, if_false]
  refine wpS_of_wp (wp_skip ?_)
  cases c₀
  simp_all [bodyPostS, results]
end Go.Flat
namespace Go.Flat
open Go.Proofs
variable {G : Glob}
theorem WpS.weak {P : Program} {nt n0 : Nat} {c : Code} {Φ : Ent → Exit → Act → World → Prop} {s s' : St} (hw : Zb2 G nt n0 s s') (h : WpS P G nt n0 c Φ s') : WpS P G nt n0 c Φ s :=
 fun E m a w hE h0 hr => let ⟨m', h1⟩ := hw E m a w h0 hr; h E m' a w hE h0 h1
theorem Zxw {H : List Blk} {e : Emb} {id : Nat} {l : List Stp} (hB : H[id]? = some (Zcp l)) : Zc0 H e (some (id, 0)) (Zjt l) :=
 Zbu hB rfl (by show 0 + (Zfe _).length ≤ (Zfe _).length; omega) (by show ((Zfe l).drop 0).take (Zfe l).length = Zfe l; simp)
def eB (z : Int) : Blk := { cells := [.int .i64 z], sz := 1, wr := true, fix := true, mv := false, pur := true }
def Zh0 (kk : Nat → BitVec 32) (root leaf : D) (size index : Int) (ds : List D) : Int :=
  if size < 1 ∨ 100000 < size ∨ index < 0 ∨ size ≤ index then 40 else
    match Zij size.toNat index.toNat ds with
    | none => 40
    | some l => if Zbm 32 ((knA kk leaf l).getD 0 d0) root then 0 else 41
set_option maxRecDepth 20000 in
set_option maxHeartbeats 8000000 in
theorem Zj3 (kk : Nat → BitVec 32) (hG : G 0 = some (Zaa w32 64 kk)) (root leaf : D) (size index : Int) (ds : List D) (n c : Nat) (hn : ds.length = n) (hb : n ≤ 1000) (hc : n ≤ c)
  (s1 : -9223372036854775808 ≤ size) (s2 : size ≤ 9223372036854775807) (i1 : -9223372036854775808 ≤ index) (i2 : index ≤ 9223372036854775807) :
  Zac Tryd.prog G 14 [dgV root, Iv size, Iv index, dgV leaf, slv 0 0 n c] [dsR ds] (Iv (Zh0 kk root leaf size index ds)) [dsR ds] := by
 refine Zac.introS (fn := Tryd.f14) rfl rfl (show 5 ≤ 42 by decide) ?_
 refine WpS.seqL (K := fun s => Zb2 G 42 1 s ⟨Tl [dead, Iv size, Iv index, dead, slv 0 0 n c, pt 1 0, dead, dead, pt 2 0, dead, pt 3 0], [dsR ds, dgB root, dgB leaf, eB 0]⟩) (C.h ?_) fun s hs => WpS.weak hs ?_
 ·change C Tryd.prog G 42 1 _ _ _
  refine Zah 3 (H' := [dsR ds, hole, hole, hole]) rfl ?_
  repeat (first
   | ((with_reducible apply Zdc (nid := 1)); rfl; rfl; (exact (rfl : _ = Value.agg _)); rfl; exact (rfl : _ = _ :: _))
   | ((with_reducible apply Zdc (nid := 2)); rfl; rfl; (exact (rfl : _ = Value.agg _)); rfl; exact (rfl : _ = _ :: _))
   | ((with_reducible apply Zq (nid := 3)); rfl; rfl; rfl; exact (rfl : _ = _ :: _))
   | with_reducible refine Za ?_
   | with_reducible refine Zf ?_)
  refine Zx ?_
  refine Z2 (n := 4) rfl ?_ (by kernel_rfl) ?_
  repeat (first | exact trivial | refine ⟨.inl rfl, ?_⟩ | refine ⟨.inr ⟨rfl, rfl⟩, ?_⟩)
  ·simp [dsR, dgB, eB]
 ·by_cases hbad : size < 1 ∨ 100000 < size ∨ index < 0 ∨ size ≤ index
  ·rw [show Zh0 kk root leaf size index ds = 40 from by unfold Zh0; rw [if_pos hbad]]
   refine WpS.seqL (K := fun _ => False) (C.h ?_) fun s hs => hs.elim
   have hend : ∀ T : Nat → Value, T 10 = pt 3 0 → ∃ v e, EndOK Tryd.prog G Tryd.f14 [dsR ds] (Iv 40) [dsR ds] ⟨T, [dsR ds, dgB root, dgB leaf, eB 40]⟩ v e := by
    intro T hT
    refine Zo (v := Iv 40) ?_ rfl rfl (Zft ds) rfl
    show Zdm Tryd.prog G 32 [dsR ds, dgB root, dgB leaf, eB 40] (T 10) = _
    rw [hT]
    rfl
   change C Tryd.prog G 42 1 _ _ _
   by_cases b1 : size < 1
   repeat (first
    | ((with_reducible apply Zd); rfl; rfl; (first
    | exact (rfl : _ = Value.int _ _)
    | exact (rfl : _ = Value.bool _)))
    | ((with_reducible apply Zi); rfl; rfl; (exact (rfl : _ = Value.int _ _)); (exact (rfl : _ = Value.int _ _)); (with_reducible exact Zcv (by omega)))
    | ((with_reducible apply Zp); rfl; rfl; (exact (rfl : _ = some (Value.bool _))))
    | ((with_reducible apply Zj); rfl; exact (rfl : _ = Value.pointer (some ⟨_, _, _⟩)); (exact (rfl : _ = Value.int _ _)); (rfl); exact (rfl : _ = _ :: _))
    | ((with_reducible apply Zn); rfl; rfl)
    | with_reducible refine Za ?_
    | with_reducible refine Zf ?_
    | with_reducible refine Ze ?_
    | with_reducible refine Zw ?_
    | with_reducible refine Zb ?_
    | with_reducible refine Zbw ?_
    | ((with_reducible apply Zu); rfl))
   refine Zy ?_
   exact hend _ rfl
   ·by_cases b2 : 100000 < size
    repeat (first
     | ((with_reducible apply Zd); rfl; rfl; (first
     | exact (rfl : _ = Value.int _ _)
     | exact (rfl : _ = Value.bool _)))
     | ((with_reducible apply Zi); rfl; rfl; (exact (rfl : _ = Value.int _ _)); (exact (rfl : _ = Value.int _ _)); (first
     | with_reducible exact Zbv (by omega)
     | with_reducible exact Zde (by omega)))
     | ((with_reducible apply Zp); rfl; rfl; (exact (rfl : _ = some (Value.bool _))))
     | ((with_reducible apply Zj); rfl; exact (rfl : _ = Value.pointer (some ⟨_, _, _⟩)); (exact (rfl : _ = Value.int _ _)); (rfl); exact (rfl : _ = _ :: _))
     | ((with_reducible apply Zn); rfl; rfl)
     | with_reducible refine Za ?_
     | with_reducible refine Zf ?_
     | with_reducible refine Ze ?_
     | with_reducible refine Zw ?_
     | with_reducible refine Zb ?_
     | with_reducible refine Zbw ?_
     | ((with_reducible apply Zu); rfl))
    refine Zy ?_
    exact hend _ rfl
    ·by_cases b3 : index < 0
     repeat (first
      | ((with_reducible apply Zd); rfl; rfl; (first
      | exact (rfl : _ = Value.int _ _)
      | exact (rfl : _ = Value.bool _)))
      | ((with_reducible apply Zi); rfl; rfl; (exact (rfl : _ = Value.int _ _)); (exact (rfl : _ = Value.int _ _)); (first
      | with_reducible exact Zcv (by omega)
      | with_reducible exact Zbv (by omega)
      | with_reducible exact Zcw (by omega)))
      | ((with_reducible apply Zp); rfl; rfl; (exact (rfl : _ = some (Value.bool _))))
      | ((with_reducible apply Zj); rfl; exact (rfl : _ = Value.pointer (some ⟨_, _, _⟩)); (exact (rfl : _ = Value.int _ _)); (rfl); exact (rfl : _ = _ :: _))
      | ((with_reducible apply Zn); rfl; rfl)
      | with_reducible refine Za ?_
      | with_reducible refine Zf ?_
      | with_reducible refine Ze ?_
      | with_reducible refine Zw ?_
      | with_reducible refine Zb ?_
      | with_reducible refine Zbw ?_
      | ((with_reducible apply Zu); rfl))
     refine Zy ?_
     exact hend _ rfl
     ·have b4 : size ≤ index := by omega
      repeat (first
       | ((with_reducible apply Zd); rfl; rfl; (first
       | exact (rfl : _ = Value.int _ _)
       | exact (rfl : _ = Value.bool _)))
       | ((with_reducible apply Zi); rfl; rfl; (exact (rfl : _ = Value.int _ _)); (exact (rfl : _ = Value.int _ _)); (first
       | with_reducible exact Zbv (by omega)
       | with_reducible exact Zcw (by omega)
       | with_reducible exact Zit (by omega)))
       | ((with_reducible apply Zp); rfl; rfl; (exact (rfl : _ = some (Value.bool _))))
       | ((with_reducible apply Zj); rfl; exact (rfl : _ = Value.pointer (some ⟨_, _, _⟩)); (exact (rfl : _ = Value.int _ _)); (rfl); exact (rfl : _ = _ :: _))
       | with_reducible refine Za ?_
       | with_reducible refine Zf ?_
       | with_reducible refine Ze ?_
       | with_reducible refine Zw ?_
       | with_reducible refine Zb ?_
       | with_reducible refine Zbw ?_
       | ((with_reducible apply Zu); rfl))
      refine Zy ?_
      exact hend _ rfl
  ·refine WpS.seqL (K := fun s => Zb2 G 42 1 s ⟨Tl [dead, Iv size, Iv index, dead, slv 0 0 n c, pt 1 0, dead, dead, pt 2 0, dead, pt 3 0], [dsR ds, dgB root, dgB leaf, eB 0]⟩) (C.h ?_) fun s hs => WpS.weak hs ?_
   ·change C Tryd.prog G 42 1 _ _ _
    repeat (first
     | ((with_reducible apply Zd); rfl; rfl; (first
     | exact (rfl : _ = Value.int _ _)
     | exact (rfl : _ = Value.bool _)))
     | ((with_reducible apply Zi); rfl; rfl; (exact (rfl : _ = Value.int _ _)); (exact (rfl : _ = Value.int _ _)); (first
     | with_reducible exact Zbv (by omega)
     | with_reducible exact Zcw (by omega)
     | with_reducible exact Zis (by omega)))
     | ((with_reducible apply Zp); rfl; rfl; (exact (rfl : _ = some (Value.bool _))))
     | with_reducible refine Za ?_
     | with_reducible refine Zf ?_
     | with_reducible refine Ze ?_
     | with_reducible refine Z0 ?_
     | with_reducible refine Zb ?_
     | ((with_reducible apply Zr); rfl))
    refine Zx ?_
    refine Z2 (n := 4) rfl ?_ rfl ?_
    repeat (first | exact trivial | refine ⟨.inl rfl, ?_⟩ | refine ⟨.inr ⟨rfl, rfl⟩, ?_⟩)
    ·simp [dsR, dgB, eB]
   ·refine WpS.deferC (pre := []) (K := fun s => s = _) rfl rfl rfl rfl rfl Zqz rfl ?_
    rintro s1 rfl
    refine ⟨3, eB 0, rfl, rfl, by show 0 < 1; decide, rfl, C.h ?_⟩
    obtain ⟨sz, rfl⟩ : ∃ m : Nat, size = m := ⟨size.toNat, by omega⟩
    obtain ⟨ix, rfl⟩ : ∃ m : Nat, index = m := ⟨index.toNat, by omega⟩
    change C Tryd.prog G 42 4 _ _ ⟨Tl [dead, Iv (sz : Nat), Iv (ix : Nat), dead, slv 0 0 n c, pt 1 0, dead, dead, pt 2 0, dead, pt 3 0], [dsR ds, dgB root, dgB leaf, eB 0]⟩
    have hE : Zh0 kk root leaf sz ix ds = (match Zij sz ix ds with | none => 40 | some l => if Zbm 32 ((knA kk leaf l).getD 0 d0) root then 0 else 41) := by
     unfold Zh0; rw [if_neg hbad]; rfl
    cases hw : Zij sz ix ds with
    | none =>
     rw [hw] at hE
     dsimp only at hE
     rw [hE]
     have hP := Z4n (G := G) sz ix ds n c hn hb hc (by omega) (by omega) hw
     with_reducible refine Ze ?_
     with_reducible refine Ze ?_
     refine Z0w 4 (by kernel_rfl) rfl (rfl : _ = [_, _, _, _]) (by kernel_rfl) (foot := [0]) ?_
     repeat (first
      | ((with_reducible apply Zg); rfl; rfl; exact (rfl : _ = Value.pointer (some ⟨2, _, _⟩)); exact (show _ = some (dgV leaf) by kernel_rfl))
      | ((with_reducible apply Zd); rfl; rfl; (first
      | exact (rfl : _ = Value.int _ _)
      | exact (rfl : _ = Value.slice _ _ _))))
     refine Ze8 ⟨by kernel_rfl, Z3x (e := [some (0, 0)]) hP rfl rfl rfl rfl rfl rfl rfl rfl ⟨rfl, rfl, ⟨rfl, rfl, rfl, by omega, by omega⟩, trivial⟩ ⟨Zbu rfl rfl (by show 0 + (dsC _).length ≤ (dsC _).length; omega) (Zce _), trivial⟩, by kernel_rfl, fun u v => ?_⟩
     repeat (first | with_reducible refine Zf5 ?_ | with_reducible refine Zez ?_ | with_reducible refine Ze0 ?_)
     obtain ⟨v', e', hO⟩ : ∃ v e, EndOK Tryd.prog G Tryd.f14 [dsR ds] (Iv 40) [dsR ds] ⟨deadT [29, 30, 31, 32] (Tl [dead, Iv (sz : Nat), Iv (ix : Nat), dead, slv 0 0 n c, pt 1 0, dead, dead, pt 2 0, dead, pt 3 0]), [dsR ds, dgB root, dgB leaf, eB 40]⟩ v e := Zo (v := Iv 40) rfl rfl rfl (Zft ds) rfl
     exact ⟨⟨⟨u, v, rfl⟩, v', e', eB 40, rfl, hO⟩⟩
    | some l =>
     rw [hw] at hE
     dsimp only at hE
     rw [hE]
     have hll := Zqb 17 sz ix ds l (by omega) hw
     have hW := Z67 (G := G) sz ix ds n c l hn hb hc (by omega) (by omega) hw
     have hKn := Z1l (G := G) kk hG leaf l l.length l.length rfl (by omega) (Nat.le_refl _)
     have hAl := Zx2 kk leaf l
     have hAt := Zhy (knA kk leaf l) 0 (by omega)
     generalize (knA kk leaf l).getD 0 d0 = x at *
     generalize knA kk leaf l = A at *
     generalize knT kk leaf l = TS at *
     generalize hq : l.length = q at *
     have hcA : (dsB A).cells.length = (q + 1) * 32 := by show (dsC A).length = _; rw [Zat, hAl]
     refine Zah 3 (H' := [dsR ds, dgB root, dgB leaf, eB 0, hole, hole, hole]) rfl ?_
     cases hs : Zbm 32 x root with
     | true =>
      repeat (first
       | ((with_reducible apply Zg); rfl; rfl; exact (rfl : _ = Value.pointer (some ⟨2, _, _⟩)); exact (show _ = some (dgV leaf) by kernel_rfl))
       | ((with_reducible apply Zg); rfl; rfl; exact (rfl : _ = Value.pointer (some ⟨1, _, _⟩)); exact (show _ = some (dgV root) by kernel_rfl))
       | ((with_reducible apply Zab (e := [some (0, 0)]) (nid := 4) hW); rfl; rfl; rfl; rfl; rfl; rfl; rfl; refine ⟨⟨rfl, rfl, ⟨rfl, rfl, rfl, by omega, by omega⟩, trivial⟩, ⟨Zbu rfl rfl (by show 0 + (dsC _).length ≤ (dsC _).length; omega) (Zce _), trivial⟩, rfl, rfl, rfl⟩; exact (show _ = slv 4 0 q q by kernel_rfl); exact (show _ = [dsR ds, dgB root, dgB leaf, eB 0, Zcp l, hole, hole] by kernel_rfl))
       | ((with_reducible apply Zab (e := [some (4, 0)]) (nid := 5) hKn); rfl; rfl; rfl; rfl; rfl; rfl; rfl; refine ⟨⟨rfl, ⟨rfl, rfl, rfl, by omega, by omega⟩, trivial⟩, ⟨Zxw rfl, trivial⟩, rfl, rfl, rfl⟩; exact (show _ = Value.tuple #[slv 5 0 (q + 1) (q + 1), slv 6 0 q q] by kernel_rfl); exact (show _ = [dsR ds, dgB root, dgB leaf, eB 0, Zcp l, dsB A, txB TS] by kernel_rfl))
       | ((with_reducible apply Zg); rfl; rfl; exact (rfl : _ = Value.pointer (some ⟨5, _, _⟩)); exact (show _ = some (dgV x) from Zcj (n := 32) rfl rfl (by omega) hAt))
       | ((with_reducible apply Zi); rfl; rfl; exact (rfl : _ = Value.agg _); exact (rfl : _ = Value.agg _); refine Eq.trans (Zgd (a := x) (b := root) (by kernel_rfl) rfl rfl rfl) ?_; rw [hs])
       | ((with_reducible apply Zbe (j := 0 * 32)); rfl; rfl; exact (rfl : _ = Value.slice (some ⟨_, _, _⟩) _ _); (exact (rfl : _ = Value.int _ _)); (exact (rfl : _ = some (_, 32))); omega; omega; omega)
       | ((with_reducible apply Zd); rfl; rfl; (first
       | exact (rfl : _ = Value.int _ _)
       | exact (rfl : _ = Value.slice _ _ _)
       | exact (rfl : _ = Value.tuple _)))
       | ((with_reducible apply Zc); rfl; rfl; (exact (rfl : _ = Value.slice _ _ _)))
       | ((with_reducible apply Z5); rfl; rfl; rfl; (exact (rfl : _ = some (Value.slice _ _ _))))
       | ((with_reducible apply Zj); rfl; exact (rfl : _ = Value.pointer (some ⟨_, _, _⟩)); (exact (rfl : _ = Value.int _ _)); (rfl); exact (rfl : _ = _ :: _))
       | with_reducible refine Za ?_
       | with_reducible refine Zf ?_
       | with_reducible refine Ze ?_
       | with_reducible refine Z0 ?_
       | with_reducible refine Zw ?_
       | with_reducible refine Zb ?_
       | (with_reducible refine Zca (by kernel_rfl) ?_)
       | (with_reducible refine Zc4 (by kernel_rfl) ?_)
       | ((with_reducible apply Zr); rfl))
      exact ⟨Zo (v := Iv 0) rfl rfl rfl (Zft ds) rfl⟩
     | false =>
      repeat (first
       | ((with_reducible apply Zg); rfl; rfl; exact (rfl : _ = Value.pointer (some ⟨2, _, _⟩)); exact (show _ = some (dgV leaf) by kernel_rfl))
       | ((with_reducible apply Zg); rfl; rfl; exact (rfl : _ = Value.pointer (some ⟨1, _, _⟩)); exact (show _ = some (dgV root) by kernel_rfl))
       | ((with_reducible apply Zab (e := [some (0, 0)]) (nid := 4) hW); rfl; rfl; rfl; rfl; rfl; rfl; rfl; refine ⟨⟨rfl, rfl, ⟨rfl, rfl, rfl, by omega, by omega⟩, trivial⟩, ⟨Zbu rfl rfl (by show 0 + (dsC _).length ≤ (dsC _).length; omega) (Zce _), trivial⟩, rfl, rfl, rfl⟩; exact (show _ = slv 4 0 q q by kernel_rfl); exact (show _ = [dsR ds, dgB root, dgB leaf, eB 0, Zcp l, hole, hole] by kernel_rfl))
       | ((with_reducible apply Zab (e := [some (4, 0)]) (nid := 5) hKn); rfl; rfl; rfl; rfl; rfl; rfl; rfl; refine ⟨⟨rfl, ⟨rfl, rfl, rfl, by omega, by omega⟩, trivial⟩, ⟨Zxw rfl, trivial⟩, rfl, rfl, rfl⟩; exact (show _ = Value.tuple #[slv 5 0 (q + 1) (q + 1), slv 6 0 q q] by kernel_rfl); exact (show _ = [dsR ds, dgB root, dgB leaf, eB 0, Zcp l, dsB A, txB TS] by kernel_rfl))
       | ((with_reducible apply Zg); rfl; rfl; exact (rfl : _ = Value.pointer (some ⟨5, _, _⟩)); exact (show _ = some (dgV x) from Zcj (n := 32) rfl rfl (by omega) hAt))
       | ((with_reducible apply Zi); rfl; rfl; exact (rfl : _ = Value.agg _); exact (rfl : _ = Value.agg _); refine Eq.trans (Zgd (a := x) (b := root) (by kernel_rfl) rfl rfl rfl) ?_; rw [hs])
       | ((with_reducible apply Zbe (j := 0 * 32)); rfl; rfl; exact (rfl : _ = Value.slice (some ⟨_, _, _⟩) _ _); (exact (rfl : _ = Value.int _ _)); (exact (rfl : _ = some (_, 32))); omega; omega; omega)
       | ((with_reducible apply Zd); rfl; rfl; (first
       | exact (rfl : _ = Value.int _ _)
       | exact (rfl : _ = Value.slice _ _ _)
       | exact (rfl : _ = Value.tuple _)))
       | ((with_reducible apply Zc); rfl; rfl; (exact (rfl : _ = Value.slice _ _ _)))
       | ((with_reducible apply Z5); rfl; rfl; rfl; (exact (rfl : _ = some (Value.slice _ _ _))))
       | ((with_reducible apply Zj); rfl; exact (rfl : _ = Value.pointer (some ⟨_, _, _⟩)); (exact (rfl : _ = Value.int _ _)); (rfl); exact (rfl : _ = _ :: _))
       | with_reducible refine Za ?_
       | with_reducible refine Zf ?_
       | with_reducible refine Ze ?_
       | with_reducible refine Zw ?_
       | with_reducible refine Zb ?_
       | with_reducible refine Zaj ?_
       | (with_reducible refine Zca (by kernel_rfl) ?_)
       | (with_reducible refine Zc4 (by kernel_rfl) ?_)
       | ((with_reducible apply Zu); rfl))
      exact ⟨Zo (v := Iv 41) rfl rfl rfl (Zft ds) rfl⟩
end Go.Flat
