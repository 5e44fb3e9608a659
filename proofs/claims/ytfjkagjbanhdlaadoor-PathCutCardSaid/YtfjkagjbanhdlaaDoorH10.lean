/- Walks. -/
import Derived.Test.YtfjkagjbanhdlaaDoorK4
import Derived.Test.YtfjkagjbanhdlaaDoorFlatE
import Derived.Tactics
import Derived.Tactics2
import Derived.Recover
import Derived.Laws.Pointers
import Derived.Test.YtfjkagjbanhdlaaDoorChecked
import Derived.Test.YtfjkagjbanhdlaaDoorH9
set_option linter.unusedVariables false
set_option linter.unusedSimpArgs false
set_option maxRecDepth 20000
namespace Go.Flat
open Go.Proofs
variable {G : Glob}
theorem Z2r : ∀ n, rep n (Z6 w8 32 dz) = dsC (List.replicate n dz)
 | 0 => rfl
 | n + 1 => by rw [List.replicate_succ, Zhh, ← Z2r n]; rfl
theorem Z2s : ∀ n, rep n [Value.string ⟨#[]⟩] = (List.replicate n (⟨#[]⟩ : ByteArray)).map Value.string
 | 0 => rfl
 | n + 1 => by rw [List.replicate_succ, List.map_cons, ← Z2s n]; rfl
theorem Z0b (p q : List Stp) : (Zfj (p ++ q)).drop (p.length * 33) = Zfj q := by
 rw [Zvo, List.drop_append_of_le_length (by rw [Zne]; exact Nat.le_refl _), List.drop_of_length_le (by rw [Zne]; exact Nat.le_refl _), List.nil_append]
theorem Zr2 (a : Stp) (q : List Stp) : Zfj (a :: q) = Z6 w8 32 a.1 ++ ([Value.bool a.2] ++ Zfj q) := by simp [Zfj]
theorem Z42 (l : List Stp) (i : Nat) (p : Stp) (h : l[i]? = some p) : ((Zfj l).drop (i * 33)).take 32 = Z6 w8 32 p.1 ∧ (Zfj l)[i * 33 + 32]? = some (Value.bool p.2) := by
 have hi : i < l.length := (List.getElem?_eq_some_iff.1 h).1
 have e : l = l.take i ++ p :: l.drop (i + 1) := by
  have := List.getElem?_eq_some_iff.1 h
  obtain ⟨h1, h2⟩ := this
  rw [← h2, ← List.drop_eq_getElem_cons h1, List.take_append_drop]
 have hl : (l.take i).length = i := by simp; omega
 have hd := Z0b (l.take i) (p :: l.drop (i + 1))
 rw [← e, hl] at hd
 refine ⟨?_, ?_⟩
 ·rw [hd, Zr2, List.take_append_of_le_length (by rw [Zbt]; exact Nat.le_refl _), List.take_of_length_le (by rw [Zbt]; exact Nat.le_refl _)]
 ·have : (Zfj l)[i * 33 + 32]? = ((Zfj l).drop (i * 33))[32]? := by rw [List.getElem?_drop]
  rw [this, hd, Zr2, List.getElem?_append_right (by rw [Zbt]; exact Nat.le_refl _), Zbt]
  rfl
structure KnS where
  j : Nat
  A : List D
  TS : List ByteArray
theorem drop_set {α : Type} {A : List α} {j : Nat} {x : α} {t : List α} (h : A.drop (j + 1) = t) (hj : j < A.length) : (A.set j x).drop j = x :: t := by
 rw [List.drop_eq_getElem_cons (by simpa using hj)]
 congr 1
 ·simp
 ·rw [List.drop_set, if_pos (by omega)]; exact h
set_option maxRecDepth 20000 in
set_option maxHeartbeats 8000000 in
theorem Z1u (kk : Nat → BitVec 32) (hG : G 0 = some (Z6 w32 64 kk)) (leaf : D) (l : List Stp) (n c : Nat) (hn : l.length = n) (hb : n ≤ 1000) (hc : n ≤ c) :
  Z9 Tryd.prog G 35 [dgV leaf, slv 0 0 n c] [Zjr l] (.tuple #[slv 1 0 (n + 1) (n + 1), slv 2 0 n n]) [Zjr l, dsB (knA kk leaf l), txB (knT kk leaf l)] := by
 refine Zbu (fn := Tryd.f35) (nt := 64) rfl rfl rfl rfl ?_
 refine Zaj 5 (H' := [Zjr l, hole, hole, hole, hole, hole]) rfl ?_
 have hr1 : ((n : Int) + 1) = ((n + 1 : Nat) : Int) := by omega
 repeat (first
  | ((with_reducible apply Zrw (nid := 3)); rfl; rfl; exact (rfl : _ = Value.agg _); rfl; exact (show _ = [Zjr l, hole, hole, dgB leaf, hole, hole] by kernel_rfl))
  | ((with_reducible apply Zw8 (nid := 1)); rfl; rfl; exact (rfl : _ = Value.int _ _); exact (rfl : _ = Value.int _ _); exact Zp3 (n := n + 1) (c := n + 1) (rfl : _ = some (32, _, 32)) hr1 hr1 (Nat.le_refl _) (by omega) (by omega) rfl; exact (congrArg (fun q => [Zjr l, ({ cells := q, sz := 32, wr := true, fix := false, mv := true, pur := true } : Blk), hole, dgB leaf, hole, hole]) (Z2r (n + 1))))
  | ((with_reducible apply Zw8 (nid := 2)); rfl; rfl; exact (rfl : _ = Value.int _ _); exact (rfl : _ = Value.int _ _); exact Zp3 (n := n) (c := n) (rfl : _ = some (1, _, 16)) rfl rfl (Nat.le_refl _) (by omega) (by omega) rfl; exact (congrArg (fun q => [Zjr l, dsB (List.replicate (n + 1) dz), ({ cells := q, sz := 1, wr := true, fix := false, mv := true, pur := true } : Blk), dgB leaf, hole, hole]) (Z2s n)))
  | ((with_reducible apply Zal); rfl; rfl; exact (rfl : _ = Value.pointer (some ⟨3, _, _⟩)); exact (show _ = some (dgV leaf) by kernel_rfl))
  | ((with_reducible apply Za1); rfl; exact (rfl : _ = Value.pointer (some ⟨1, _, _⟩)); exact (rfl : _ = Value.agg _); exact Zi3 (i := n) (Q := List.replicate (n + 1) dz) rfl rfl rfl rfl (by simp) rfl; exact (show _ = [Zjr l, dsB ((List.replicate (n + 1) dz).set n leaf), txB (List.replicate n ⟨#[]⟩), dgB leaf, hole, hole] by kernel_rfl))
  | ((with_reducible apply Zbs (j := n * 32)); rfl; rfl; exact (rfl : _ = Value.slice (some ⟨_, _, _⟩) _ _); (exact (rfl : _ = Value.int _ _)); (exact (rfl : _ = some (_, 32))); omega; omega; omega)
  | ((with_reducible apply Zan); rfl; rfl; (exact (rfl : _ = Value.slice _ _ _)))
  | ((with_reducible apply Zak); rfl; rfl; (first
  | exact (rfl : _ = Value.int _ _)
  | exact (rfl : _ = Value.slice _ _ _)))
  | ((with_reducible apply Zj); rfl; rfl; (exact (rfl : _ = Value.int _ _)); (exact (rfl : _ = Value.int _ _)); (first
  | with_reducible exact Za0 rfl (by omega) (by omega)
  | with_reducible exact Zdg rfl (by omega) (by omega)))
  | ((with_reducible apply Ze6); rfl; rfl; (exact (rfl : _ = Value.slice _ _ _)); (exact (rfl : _ = some (Value.int _ _))))
  | with_reducible refine Za ?_
  | with_reducible refine Zf ?_
  | with_reducible refine Ze ?_
  | with_reducible refine Z5 ?_
  | with_reducible refine Zc ?_
  | (with_reducible refine Zdq (by kernel_rfl) ?_)
  | (with_reducible refine Zer (by kernel_rfl) ?_))
 refine Zck (fun x : KnS => [dead, slv 0 0 n c, dead, dead, dead, dead, slv 1 0 (n + 1) (n + 1), slv 2 0 n n, Iv ((x.j : Int) - 1)]) (fun x => [Zjr l, dsB x.A, txB x.TS]) (fun x => x.j ≤ n ∧ x.A.length = n + 1 ∧ x.TS.length = n ∧ x.A.drop x.j = knA kk leaf (l.drop x.j) ∧ x.TS.drop x.j = knT kk leaf (l.drop x.j)) (fun x => x.j) ⟨n, (List.replicate (n + 1) dz).set n leaf, List.replicate n ⟨#[]⟩⟩ ⟨Nat.le_refl _, by simp, by simp, ?_, ?_⟩ ?_ ?_
 ·rw [List.drop_of_length_le (l := l) (by show l.length ≤ n; omega)]
  exact drop_set (by rw [List.drop_of_length_le (by simp)]) (by simp)
 ·rw [List.drop_of_length_le (l := l) (by show l.length ≤ n; omega), List.drop_of_length_le (by simp)]; rfl
 ·refine Zam (n := 3) rfl ?_ rfl ?_
  repeat (first | exact trivial | refine ⟨.inl rfl, ?_⟩ | refine ⟨.inr ⟨rfl, rfl⟩, ?_⟩)
  ·simp [Zjr, dsB, txB]
 ·rintro ⟨j, A, TS⟩ ⟨g1, g2, g3, g4, g5⟩
  dsimp only at g1 g2 g3 g4 g5 ⊢
  rcases Nat.eq_zero_or_pos j with h0 | h0
  ·subst h0
   have e1 : A = knA kk leaf l := by simpa using g4
   have e2 : TS = knT kk leaf l := by simpa using g5
   rw [← e1, ← e2]
   repeat (first
    | ((with_reducible apply Zan); rfl; rfl; (first
    | exact (rfl : _ = Value.int _ _)
    | exact (rfl : _ = Value.slice _ _ _)))
    | ((with_reducible apply Zak); rfl; rfl; (exact (rfl : _ = Value.slice _ _ _)))
    | ((with_reducible apply Zj); rfl; rfl; (exact (rfl : _ = Value.int _ _)); (exact (rfl : _ = Value.int _ _)); (with_reducible exact Zhi (by omega)))
    | with_reducible refine Za ?_
    | with_reducible refine Zf ?_
    | with_reducible refine Ze ?_
    | with_reducible refine Zbn ?_
    | with_reducible refine Zs ?_
    | with_reducible refine Zc ?_
    | with_reducible refine Zat ?_
    | with_reducible refine Za3 ?_
    | ((with_reducible apply Zt); rfl)
    | ((with_reducible apply Zay); rfl))
   refine Zu ?_
   refine Zm (v := .tuple #[slv 1 0 (n + 1) (n + 1), slv 2 0 n n]) rfl rfl rfl ?_ ?_
   ·simp [Zbe, Zjr, dsB, txB]
   ·exact ⟨⟨rfl, rfl, rfl, by omega, by omega⟩, ⟨rfl, rfl, rfl, by omega, by omega⟩, trivial⟩
  ·obtain ⟨i, rfl⟩ : ∃ i, j = i + 1 := ⟨j - 1, by omega⟩
   obtain ⟨⟨y, r⟩, hp⟩ : ∃ p, l[i]? = some p := ⟨l[i]'(by omega), by simp⟩
   obtain ⟨p1, p2⟩ := Z42 l i (y, r) hp
   dsimp only at p1 p2
   have hld : l.drop i = (y, r) :: l.drop (i + 1) := by
    obtain ⟨h1, h2⟩ := List.getElem?_eq_some_iff.1 hp
    rw [← h2, ← List.drop_eq_getElem_cons h1]
   have hA1 := Zja A (i + 1) (by omega)
   have hgx : A.getD (i + 1) d0 = (knA kk leaf (l.drop (i + 1))).getD 0 d0 := by
    rw [← g4, List.getD_eq_getElem?_getD, List.getD_eq_getElem?_getD, List.getElem?_drop, Nat.add_zero]
   rw [hgx] at hA1
   have hxx : (((i + 1 : Nat) : Int) - 1) = (i : Nat) := by omega
   have hxx1 : (((i + 1 : Nat) : Int) - 1) + 1 = ((i + 1 : Nat) : Int) := by omega
   rw [hxx] 
   have kA : knA kk leaf (l.drop i) = (if r then Zf6 kk y ((knA kk leaf (l.drop (i + 1))).getD 0 d0) else Zf6 kk ((knA kk leaf (l.drop (i + 1))).getD 0 d0) y) :: knA kk leaf (l.drop (i + 1)) := by rw [hld]; rfl
   have kT : knT kk leaf (l.drop i) = (if r then tx y ((knA kk leaf (l.drop (i + 1))).getD 0 d0) else tx ((knA kk leaf (l.drop (i + 1))).getD 0 d0) y) :: knT kk leaf (l.drop (i + 1)) := by rw [hld]; rfl
   generalize (knA kk leaf (l.drop (i + 1))).getD 0 d0 = x at *
   have h32 : ∀ d : Nat → BitVec 8, (Zk (dgL d)).size = 32 := fun d => by rw [Za6, Zfw]
   have h1 : Zq0.size = 1 := rfl
   have hcA : (dsB A).cells.length = (n + 1) * 32 := by show (dsC A).length = _; rw [Zb7, g2]
   have hcS : (Zjr l).cells.length = n * 33 := by show (Zfj l).length = _; rw [Zne, hn]
   refine Zaj 2 (H' := [Zjr l, dsB A, txB TS, hole, hole]) rfl ?_
   cases r with
   | false =>
    have hK := Zr9 (G := G) kk hG x y
    have c1 : Zq0.size + (Zk (dgL x)).size ≤ 140737488351232 := by rw [h32, h1]; omega
    have c2 : (Zq0 ++ Zk (dgL x)).size + (Zk (dgL y)).size ≤ 140737488351232 := by rw [ByteArray.size_append, h32, h32, h1]; omega
    have hstr : Zk (dgL x) = Zk (dgL x) := rfl
    repeat (first
     | ((with_reducible apply Zbs (j := i * 33)); rfl; rfl; exact (rfl : _ = Value.slice (some ⟨_, _, _⟩) _ _); exact (rfl : _ = Value.int _ _); exact (rfl : _ = some (_, 33)); omega; omega; omega)
     | ((with_reducible apply Zal); rfl; rfl; exact (rfl : _ = Value.pointer (some ⟨1, _, _⟩)); exact (show _ = some (dgV x) from Zcu (n := 32) rfl rfl (by omega) hA1))
     | ((with_reducible apply Zal); rfl; rfl; exact (rfl : _ = Value.pointer (some ⟨0, _, _⟩)); first | exact (show _ = some (dgV y) from Zcu (n := 32) rfl rfl (by omega) p1) | exact (show _ = some (Value.bool _) from Zkb rfl rfl p2 rfl))
     | ((with_reducible apply Zcb (nid := 3)); rfl; rfl; rfl; exact (show _ = [Zjr l, dsB A, txB TS, dgB dz, hole] by kernel_rfl))
     | ((with_reducible apply Zcb (nid := 4)); rfl; rfl; rfl; exact (rfl : _ = _ :: _))
     | ((with_reducible apply Zfs); rfl; rfl; exact (rfl : _ = Value.slice (some ⟨3, _, _⟩) _ _); exact Zd9 (l := dgL x) rfl rfl rfl rfl (by show 0 + 32 ≤ 32; decide) rfl)
     | ((with_reducible apply Zfs); rfl; rfl; exact (rfl : _ = Value.slice (some ⟨4, _, _⟩) _ _); exact Zd9 (l := dgL y) rfl rfl rfl rfl (by show 0 + 32 ≤ 32; decide) rfl)
     | ((with_reducible apply Zj); rfl; rfl; exact (rfl : _ = Value.string _); exact (rfl : _ = Value.string _); first | exact Zks c1 | exact Zks c2)
     | ((with_reducible apply Za1); rfl; exact (rfl : _ = Value.pointer (some ⟨1, _, _⟩)); exact (rfl : _ = Value.agg _); exact Zi3 (i := i) (Q := A) rfl rfl rfl rfl (by omega) rfl; exact (rfl : _ = _ :: _))
     | ((with_reducible apply Za1); rfl; exact (rfl : _ = Value.pointer (some ⟨2, _, _⟩)); exact (rfl : _ = Value.string _); exact Zl1 (o := i) rfl rfl rfl rfl (by show i < (TS.map Value.string).length; simp; omega) rfl rfl; exact (rfl : _ = _ :: _))
     | ((with_reducible apply Zbs (j := (i + 1) * 32)); rfl; rfl; exact (rfl : _ = Value.slice (some ⟨_, _, _⟩) _ _); (exact (rfl : _ = Value.int _ _)); (first
     | exact (rfl : _ = some (_, 1))
     | exact (rfl : _ = some (_, 32))); omega; omega; omega)
     | ((with_reducible apply Zbs (j := i * 32)); rfl; rfl; exact (rfl : _ = Value.slice (some ⟨_, _, _⟩) _ _); (exact (rfl : _ = Value.int _ _)); (first
     | exact (rfl : _ = some (_, 1))
     | exact (rfl : _ = some (_, 32))); omega; omega; omega)
     | ((with_reducible apply Zbs (j := i)); rfl; rfl; exact (rfl : _ = Value.slice (some ⟨_, _, _⟩) _ _); (exact (rfl : _ = Value.int _ _)); (exact (rfl : _ = some (_, 1))); omega; omega; omega)
     | ((with_reducible apply Zan); rfl; rfl; (first
     | exact (rfl : _ = Value.int _ _)
     | exact (rfl : _ = Value.slice _ _ _)))
     | ((with_reducible apply Zak); rfl; rfl; (exact (rfl : _ = Value.int _ _)))
     | ((with_reducible apply Zj); rfl; rfl; (exact (rfl : _ = Value.int _ _)); (exact (rfl : _ = Value.int _ _)); (first
     | with_reducible exact Zgy (by omega)
     | with_reducible exact Za0 rfl (by omega) (by omega)
     | with_reducible exact Zdg rfl (by omega) (by omega)))
     | ((with_reducible apply Zda); rfl; rfl; (exact (rfl : _ = Value.pointer (some _))); rfl; rfl; (exact (rfl : _ = some (Value.slice (some ⟨_, _, _⟩) _ _))))
     | ((with_reducible apply Za2); rfl; rfl; exact (rfl : _ = Value.pointer (some ⟨_, _, _⟩)); (first
     | exact (rfl : _ = some 0)
     | rfl); (exact Nat.add_zero _))
     | ((with_reducible apply Zal); rfl; rfl; exact (rfl : _ = Value.pointer (some ⟨_, _, _⟩)); (exact (rfl : _ = some (Value.agg _))))
     | ((with_reducible apply Za1); rfl; exact (rfl : _ = Value.pointer (some ⟨_, _, _⟩)); (exact (rfl : _ = Value.agg _)); (rfl); exact (rfl : _ = _ :: _))
     | ((with_reducible apply Zp (hK)); rfl; rfl; rfl; rfl; rfl; (exact (rfl : _ = Value.agg _)))
     | with_reducible refine Za ?_
     | with_reducible refine Zf ?_
     | with_reducible refine Ze ?_
     | with_reducible refine Z5 ?_
     | with_reducible refine Z0 ?_
     | with_reducible refine Zc ?_
     | with_reducible refine Zz ?_
     | (with_reducible refine Zdq (by kernel_rfl) ?_)
     | (with_reducible refine Zer (by kernel_rfl) ?_)
     | ((with_reducible apply Zv); rfl)
     | ((with_reducible apply Zt); rfl))
    refine Zas ⟨⟨i, A.set i (Zf6 kk x y), TS.set i (tx x y)⟩, ⟨by show i ≤ n; omega, by simpa using g2, by simpa using g3, ?_, ?_⟩, by show i < i + 1; omega, ?_⟩
    ·rw [kA]; exact drop_set g4 (by show i < A.length; omega)
    ·rw [kT]; exact drop_set g5 (by show i < TS.length; omega)
    ·have e2 : (TS.map Value.string).set i (Value.string (tx x y)) = (TS.set i (tx x y)).map Value.string := by rw [List.map_set]
     refine Zam (n := 3) rfl ?_ (congrArg (fun q => [Zjr l, dsB (A.set i (Zf6 kk x y)), ({ cells := q, sz := 1, wr := true, fix := false, mv := true, pur := true } : Blk)]) e2) ?_
     repeat (first | exact trivial | refine ⟨.inl rfl, ?_⟩ | refine ⟨.inr ⟨rfl, rfl⟩, ?_⟩)
     ·simp [Zjr, dsB, txB]
   | true =>
    have hK := Zr9 (G := G) kk hG y x
    have c1 : Zq0.size + (Zk (dgL y)).size ≤ 140737488351232 := by rw [h32, h1]; omega
    have c2 : (Zq0 ++ Zk (dgL y)).size + (Zk (dgL x)).size ≤ 140737488351232 := by rw [ByteArray.size_append, h32, h32, h1]; omega
    have hstr : Zk (dgL y) = Zk (dgL y) := rfl
    repeat (first
     | ((with_reducible apply Zbs (j := i * 33)); rfl; rfl; exact (rfl : _ = Value.slice (some ⟨_, _, _⟩) _ _); exact (rfl : _ = Value.int _ _); exact (rfl : _ = some (_, 33)); omega; omega; omega)
     | ((with_reducible apply Zal); rfl; rfl; exact (rfl : _ = Value.pointer (some ⟨1, _, _⟩)); exact (show _ = some (dgV x) from Zcu (n := 32) rfl rfl (by omega) hA1))
     | ((with_reducible apply Zal); rfl; rfl; exact (rfl : _ = Value.pointer (some ⟨0, _, _⟩)); first | exact (show _ = some (dgV y) from Zcu (n := 32) rfl rfl (by omega) p1) | exact (show _ = some (Value.bool _) from Zkb rfl rfl p2 rfl))
     | ((with_reducible apply Zcb (nid := 3)); rfl; rfl; rfl; exact (show _ = [Zjr l, dsB A, txB TS, dgB dz, hole] by kernel_rfl))
     | ((with_reducible apply Zcb (nid := 4)); rfl; rfl; rfl; exact (rfl : _ = _ :: _))
     | ((with_reducible apply Zfs); rfl; rfl; exact (rfl : _ = Value.slice (some ⟨3, _, _⟩) _ _); exact Zd9 (l := dgL y) rfl rfl rfl rfl (by show 0 + 32 ≤ 32; decide) rfl)
     | ((with_reducible apply Zfs); rfl; rfl; exact (rfl : _ = Value.slice (some ⟨4, _, _⟩) _ _); exact Zd9 (l := dgL x) rfl rfl rfl rfl (by show 0 + 32 ≤ 32; decide) rfl)
     | ((with_reducible apply Zj); rfl; rfl; exact (rfl : _ = Value.string _); exact (rfl : _ = Value.string _); first | exact Zks c1 | exact Zks c2)
     | ((with_reducible apply Za1); rfl; exact (rfl : _ = Value.pointer (some ⟨1, _, _⟩)); exact (rfl : _ = Value.agg _); exact Zi3 (i := i) (Q := A) rfl rfl rfl rfl (by omega) rfl; exact (rfl : _ = _ :: _))
     | ((with_reducible apply Za1); rfl; exact (rfl : _ = Value.pointer (some ⟨2, _, _⟩)); exact (rfl : _ = Value.string _); exact Zl1 (o := i) rfl rfl rfl rfl (by show i < (TS.map Value.string).length; simp; omega) rfl rfl; exact (rfl : _ = _ :: _))
     | ((with_reducible apply Zbs (j := (i + 1) * 32)); rfl; rfl; exact (rfl : _ = Value.slice (some ⟨_, _, _⟩) _ _); (exact (rfl : _ = Value.int _ _)); (first
     | exact (rfl : _ = some (_, 1))
     | exact (rfl : _ = some (_, 32))); omega; omega; omega)
     | ((with_reducible apply Zbs (j := i * 32)); rfl; rfl; exact (rfl : _ = Value.slice (some ⟨_, _, _⟩) _ _); (exact (rfl : _ = Value.int _ _)); (first
     | exact (rfl : _ = some (_, 1))
     | exact (rfl : _ = some (_, 32))); omega; omega; omega)
     | ((with_reducible apply Zbs (j := i)); rfl; rfl; exact (rfl : _ = Value.slice (some ⟨_, _, _⟩) _ _); (exact (rfl : _ = Value.int _ _)); (exact (rfl : _ = some (_, 1))); omega; omega; omega)
     | ((with_reducible apply Zan); rfl; rfl; (first
     | exact (rfl : _ = Value.int _ _)
     | exact (rfl : _ = Value.slice _ _ _)))
     | ((with_reducible apply Zak); rfl; rfl; (exact (rfl : _ = Value.int _ _)))
     | ((with_reducible apply Zj); rfl; rfl; (exact (rfl : _ = Value.int _ _)); (exact (rfl : _ = Value.int _ _)); (first
     | with_reducible exact Zgy (by omega)
     | with_reducible exact Za0 rfl (by omega) (by omega)
     | with_reducible exact Zdg rfl (by omega) (by omega)))
     | ((with_reducible apply Zda); rfl; rfl; (exact (rfl : _ = Value.pointer (some _))); rfl; rfl; (exact (rfl : _ = some (Value.slice (some ⟨_, _, _⟩) _ _))))
     | ((with_reducible apply Za2); rfl; rfl; exact (rfl : _ = Value.pointer (some ⟨_, _, _⟩)); (first
     | exact (rfl : _ = some 0)
     | rfl); (exact Nat.add_zero _))
     | ((with_reducible apply Zal); rfl; rfl; exact (rfl : _ = Value.pointer (some ⟨_, _, _⟩)); (exact (rfl : _ = some (Value.agg _))))
     | ((with_reducible apply Za1); rfl; exact (rfl : _ = Value.pointer (some ⟨_, _, _⟩)); (exact (rfl : _ = Value.agg _)); (rfl); exact (rfl : _ = _ :: _))
     | ((with_reducible apply Zp (hK)); rfl; rfl; rfl; rfl; rfl; (exact (rfl : _ = Value.agg _)))
     | with_reducible refine Za ?_
     | with_reducible refine Zf ?_
     | with_reducible refine Ze ?_
     | with_reducible refine Z5 ?_
     | with_reducible refine Z0 ?_
     | with_reducible refine Zc ?_
     | with_reducible refine Zz ?_
     | (with_reducible refine Zdq (by kernel_rfl) ?_)
     | (with_reducible refine Zer (by kernel_rfl) ?_)
     | ((with_reducible apply Zv); rfl))
    refine Zas ⟨⟨i, A.set i (Zf6 kk y x), TS.set i (tx y x)⟩, ⟨by show i ≤ n; omega, by simpa using g2, by simpa using g3, ?_, ?_⟩, by show i < i + 1; omega, ?_⟩
    ·rw [kA]; exact drop_set g4 (by show i < A.length; omega)
    ·rw [kT]; exact drop_set g5 (by show i < TS.length; omega)
    ·have e2 : (TS.map Value.string).set i (Value.string (tx y x)) = (TS.set i (tx y x)).map Value.string := by rw [List.map_set]
     refine Zam (n := 3) rfl ?_ (congrArg (fun q => [Zjr l, dsB (A.set i (Zf6 kk y x)), ({ cells := q, sz := 1, wr := true, fix := false, mv := true, pur := true } : Blk)]) e2) ?_
     repeat (first | exact trivial | refine ⟨.inl rfl, ?_⟩ | refine ⟨.inr ⟨rfl, rfl⟩, ?_⟩)
     ·simp [Zjr, dsB, txB]
end Go.Flat
namespace Go.Flat
open Go.Proofs
theorem Zzb : Zxs Tryd.prog 55 29 (Iv 40) := by
 constructor
 ·intro p u pv w w' h
  refine callsD_of_wpS (fn := Tryd.f55) rfl rfl fun c₀ cs hu => ?_
  apply wpS_seq
  apply wpS_region
  simp [wpOpsS, go_sem, recoverD, hu, Exit.thenS, Tryd.f55]
  apply wpS_seq
  apply wpS_region
  simp [wpOpsS, go_sem, Exit.thenS, Act.eval, Act.put]
  refine wpS_cond (t := true) (by simp [Act.eval, Array.replicate]) ?_
  simp only [if_true]
  apply wpS_region
  simp [go_sem] at h
  simp [wpOpsS, go_sem, h, bodyPostS, results, Oper.upon]
 ·intro p w
  refine callsD_of_wpS (fn := Tryd.f55) rfl rfl fun c₀ cs hu => ?_
  apply wpS_seq
  apply wpS_region
  simp [wpOpsS, go_sem, recoverD, hu, Exit.thenS, Tryd.f55]
  apply wpS_seq
  apply wpS_region
  simp [wpOpsS, go_sem, Exit.thenS, Act.eval, Act.put]
  refine wpS_cond (t := false) (by simp [Act.eval, Array.replicate]) ?_
  simp only [Bool.false_eq_true, if_false]
  refine wpS_of_wp (wp_skip ?_)
  cases c₀
  simp_all [bodyPostS, results]
end Go.Flat
namespace Go.Flat
open Go.Proofs
variable {G : Glob}
theorem WpS.weak {P : Program} {nt n0 : Nat} {c : Code} {Φ : Ent → Exit → Act → World → Prop} {s s' : St} (hw : Zbo G nt n0 s s') (h : WpS P G nt n0 c Φ s') : WpS P G nt n0 c Φ s :=
 fun E m a w hE h0 hr => let ⟨m', h1⟩ := hw E m a w h0 hr; h E m' a w hE h0 h1
theorem Zyg {H : List Blk} {e : Emb} {id : Nat} {l : List Stp} (hB : H[id]? = some (Zcz l)) : Zdp H e (some (id, 0)) (Zjr l) :=
 Zdh hB rfl (by show 0 + (Zfj _).length ≤ (Zfj _).length; omega) (by show ((Zfj l).drop 0).take (Zfj l).length = Zfj l; simp)
def eB (z : Int) : Blk := { cells := [.int .i64 z], sz := 1, wr := true, fix := true, mv := false, pur := true }
def Zhk (kk : Nat → BitVec 32) (root leaf : D) (size index : Int) (ds : List D) : Int :=
  if size < 1 ∨ 100000 < size ∨ index < 0 ∨ size ≤ index then 40 else
    match Zip size.toNat index.toNat ds with
    | none => 40
    | some l => if Zcg 32 ((knA kk leaf l).getD 0 d0) root then 0 else 41
set_option maxRecDepth 20000 in
set_option maxHeartbeats 8000000 in
theorem Zte (kk : Nat → BitVec 32) (hG : G 0 = some (Z6 w32 64 kk)) (root leaf : D) (size index : Int) (ds : List D) (n c : Nat) (hn : ds.length = n) (hb : n ≤ 1000) (hc : n ≤ c)
  (s1 : -9223372036854775808 ≤ size) (s2 : size ≤ 9223372036854775807) (i1 : -9223372036854775808 ≤ index) (i2 : index ≤ 9223372036854775807) :
  Z9 Tryd.prog G 34 [dgV root, Iv size, Iv index, dgV leaf, slv 0 0 n c] [dsR ds] (Iv (Zhk kk root leaf size index ds)) [dsR ds] := by
 refine Z9.introS (fn := Tryd.f34) rfl rfl (show 5 ≤ 42 by decide) ?_
 refine WpS.seqL (K := fun s => Zbo G 42 1 s ⟨Tl [dead, Iv size, Iv index, dead, slv 0 0 n c, pt 1 0, dead, dead, pt 2 0, dead, pt 3 0], [dsR ds, dgB root, dgB leaf, eB 0]⟩) (C.h ?_) fun s hs => WpS.weak hs ?_
 ·change C Tryd.prog G 42 1 _ _ _
  refine Zaj 3 (H' := [dsR ds, hole, hole, hole]) rfl ?_
  repeat (first
   | ((with_reducible apply Zrw (nid := 1)); rfl; rfl; (exact (rfl : _ = Value.agg _)); rfl; exact (rfl : _ = _ :: _))
   | ((with_reducible apply Zrw (nid := 2)); rfl; rfl; (exact (rfl : _ = Value.agg _)); rfl; exact (rfl : _ = _ :: _))
   | ((with_reducible apply Zcb (nid := 3)); rfl; rfl; rfl; exact (rfl : _ = _ :: _))
   | with_reducible refine Za ?_
   | with_reducible refine Zf ?_)
  refine Zas ?_
  refine Zam (n := 4) rfl ?_ (by kernel_rfl) ?_
  repeat (first | exact trivial | refine ⟨.inl rfl, ?_⟩ | refine ⟨.inr ⟨rfl, rfl⟩, ?_⟩)
  ·simp [dsR, dgB, eB]
 ·by_cases hbad : size < 1 ∨ 100000 < size ∨ index < 0 ∨ size ≤ index
  ·rw [show Zhk kk root leaf size index ds = 40 from by unfold Zhk; rw [if_pos hbad]]
   refine WpS.seqL (K := fun _ => False) (C.h ?_) fun s hs => hs.elim
   have hend : ∀ T : Nat → Value, T 10 = pt 3 0 → ∃ v e, EndOK Tryd.prog G Tryd.f34 [dsR ds] (Iv 40) [dsR ds] ⟨T, [dsR ds, dgB root, dgB leaf, eB 40]⟩ v e := by
    intro T hT
    refine Zm (v := Iv 40) ?_ rfl rfl (Zit ds) rfl
    show Zdx Tryd.prog G 29 [dsR ds, dgB root, dgB leaf, eB 40] (T 10) = _
    rw [hT]
    rfl
   change C Tryd.prog G 42 1 _ _ _
   by_cases b1 : size < 1
   repeat (first
    | ((with_reducible apply Zan); rfl; rfl; (first
    | exact (rfl : _ = Value.int _ _)
    | exact (rfl : _ = Value.bool _)))
    | ((with_reducible apply Zj); rfl; rfl; (exact (rfl : _ = Value.int _ _)); (exact (rfl : _ = Value.int _ _)); (with_reducible exact Zdd (by omega)))
    | ((with_reducible apply Zgx); rfl; rfl; (exact (rfl : _ = some (Value.bool _))))
    | ((with_reducible apply Za1); rfl; exact (rfl : _ = Value.pointer (some ⟨_, _, _⟩)); (exact (rfl : _ = Value.int _ _)); (rfl); exact (rfl : _ = _ :: _))
    | ((with_reducible apply Zlv); rfl; rfl)
    | with_reducible refine Za ?_
    | with_reducible refine Zf ?_
    | with_reducible refine Ze ?_
    | with_reducible refine Zs ?_
    | with_reducible refine Zc ?_
    | with_reducible refine Zen ?_
    | ((with_reducible apply Zv); rfl))
   refine Zu ?_
   exact hend _ rfl
   ·by_cases b2 : 100000 < size
    repeat (first
     | ((with_reducible apply Zan); rfl; rfl; (first
     | exact (rfl : _ = Value.int _ _)
     | exact (rfl : _ = Value.bool _)))
     | ((with_reducible apply Zj); rfl; rfl; (exact (rfl : _ = Value.int _ _)); (exact (rfl : _ = Value.int _ _)); (first
     | with_reducible exact Zcw (by omega)
     | with_reducible exact Ze3 (by omega)))
     | ((with_reducible apply Zgx); rfl; rfl; (exact (rfl : _ = some (Value.bool _))))
     | ((with_reducible apply Za1); rfl; exact (rfl : _ = Value.pointer (some ⟨_, _, _⟩)); (exact (rfl : _ = Value.int _ _)); (rfl); exact (rfl : _ = _ :: _))
     | ((with_reducible apply Zlv); rfl; rfl)
     | with_reducible refine Za ?_
     | with_reducible refine Zf ?_
     | with_reducible refine Ze ?_
     | with_reducible refine Zs ?_
     | with_reducible refine Zc ?_
     | with_reducible refine Zen ?_
     | ((with_reducible apply Zv); rfl))
    refine Zu ?_
    exact hend _ rfl
    ·by_cases b3 : index < 0
     repeat (first
      | ((with_reducible apply Zan); rfl; rfl; (first
      | exact (rfl : _ = Value.int _ _)
      | exact (rfl : _ = Value.bool _)))
      | ((with_reducible apply Zj); rfl; rfl; (exact (rfl : _ = Value.int _ _)); (exact (rfl : _ = Value.int _ _)); (first
      | with_reducible exact Zdd (by omega)
      | with_reducible exact Zcw (by omega)
      | with_reducible exact Ze2 (by omega)))
      | ((with_reducible apply Zgx); rfl; rfl; (exact (rfl : _ = some (Value.bool _))))
      | ((with_reducible apply Za1); rfl; exact (rfl : _ = Value.pointer (some ⟨_, _, _⟩)); (exact (rfl : _ = Value.int _ _)); (rfl); exact (rfl : _ = _ :: _))
      | ((with_reducible apply Zlv); rfl; rfl)
      | with_reducible refine Za ?_
      | with_reducible refine Zf ?_
      | with_reducible refine Ze ?_
      | with_reducible refine Zs ?_
      | with_reducible refine Zc ?_
      | with_reducible refine Zen ?_
      | ((with_reducible apply Zv); rfl))
     refine Zu ?_
     exact hend _ rfl
     ·have b4 : size ≤ index := by omega
      repeat (first
       | ((with_reducible apply Zan); rfl; rfl; (first
       | exact (rfl : _ = Value.int _ _)
       | exact (rfl : _ = Value.bool _)))
       | ((with_reducible apply Zj); rfl; rfl; (exact (rfl : _ = Value.int _ _)); (exact (rfl : _ = Value.int _ _)); (first
       | with_reducible exact Zcw (by omega)
       | with_reducible exact Ze2 (by omega)
       | with_reducible exact Zgy (by omega)))
       | ((with_reducible apply Zgx); rfl; rfl; (exact (rfl : _ = some (Value.bool _))))
       | ((with_reducible apply Za1); rfl; exact (rfl : _ = Value.pointer (some ⟨_, _, _⟩)); (exact (rfl : _ = Value.int _ _)); (rfl); exact (rfl : _ = _ :: _))
       | with_reducible refine Za ?_
       | with_reducible refine Zf ?_
       | with_reducible refine Ze ?_
       | with_reducible refine Zs ?_
       | with_reducible refine Zc ?_
       | with_reducible refine Zen ?_
       | ((with_reducible apply Zv); rfl))
      refine Zu ?_
      exact hend _ rfl
  ·refine WpS.seqL (K := fun s => Zbo G 42 1 s ⟨Tl [dead, Iv size, Iv index, dead, slv 0 0 n c, pt 1 0, dead, dead, pt 2 0, dead, pt 3 0], [dsR ds, dgB root, dgB leaf, eB 0]⟩) (C.h ?_) fun s hs => WpS.weak hs ?_
   ·change C Tryd.prog G 42 1 _ _ _
    repeat (first
     | ((with_reducible apply Zan); rfl; rfl; (first
     | exact (rfl : _ = Value.int _ _)
     | exact (rfl : _ = Value.bool _)))
     | ((with_reducible apply Zj); rfl; rfl; (exact (rfl : _ = Value.int _ _)); (exact (rfl : _ = Value.int _ _)); (first
     | with_reducible exact Zcw (by omega)
     | with_reducible exact Ze2 (by omega)
     | with_reducible exact Zhi (by omega)))
     | ((with_reducible apply Zgx); rfl; rfl; (exact (rfl : _ = some (Value.bool _))))
     | with_reducible refine Za ?_
     | with_reducible refine Zf ?_
     | with_reducible refine Ze ?_
     | with_reducible refine Z0 ?_
     | with_reducible refine Zc ?_
     | ((with_reducible apply Zt); rfl))
    refine Zas ?_
    refine Zam (n := 4) rfl ?_ rfl ?_
    repeat (first | exact trivial | refine ⟨.inl rfl, ?_⟩ | refine ⟨.inr ⟨rfl, rfl⟩, ?_⟩)
    ·simp [dsR, dgB, eB]
   ·refine WpS.deferC (pre := []) (K := fun s => s = _) rfl rfl rfl rfl rfl Zzb rfl ?_
    rintro s1 rfl
    refine ⟨3, eB 0, rfl, rfl, by show 0 < 1; decide, rfl, C.h ?_⟩
    obtain ⟨sz, rfl⟩ : ∃ m : Nat, size = m := ⟨size.toNat, by omega⟩
    obtain ⟨ix, rfl⟩ : ∃ m : Nat, index = m := ⟨index.toNat, by omega⟩
    change C Tryd.prog G 42 4 _ _ ⟨Tl [dead, Iv (sz : Nat), Iv (ix : Nat), dead, slv 0 0 n c, pt 1 0, dead, dead, pt 2 0, dead, pt 3 0], [dsR ds, dgB root, dgB leaf, eB 0]⟩
    have hE : Zhk kk root leaf sz ix ds = (match Zip sz ix ds with | none => 40 | some l => if Zcg 32 ((knA kk leaf l).getD 0 d0) root then 0 else 41) := by
     unfold Zhk; rw [if_neg hbad]; rfl
    cases hw : Zip sz ix ds with
    | none =>
     rw [hw] at hE
     dsimp only at hE
     rw [hE]
     have hP := Z49 (G := G) sz ix ds n c hn hb hc (by omega) (by omega) hw
     with_reducible refine Ze ?_
     with_reducible refine Ze ?_
     refine Z00 4 (by kernel_rfl) rfl (rfl : _ = [_, _, _, _]) (by kernel_rfl) (foot := [0]) ?_
     repeat (first
      | ((with_reducible apply Zal); rfl; rfl; exact (rfl : _ = Value.pointer (some ⟨2, _, _⟩)); exact (show _ = some (dgV leaf) by kernel_rfl))
      | ((with_reducible apply Zan); rfl; rfl; (first
      | exact (rfl : _ = Value.int _ _)
      | exact (rfl : _ = Value.slice _ _ _))))
     refine Zkj ⟨by kernel_rfl, Z4k (e := [some (0, 0)]) hP rfl rfl rfl rfl rfl rfl rfl rfl ⟨rfl, rfl, ⟨rfl, rfl, rfl, by omega, by omega⟩, trivial⟩ ⟨Zdh rfl rfl (by show 0 + (dsC _).length ≤ (dsC _).length; omega) (Zf8 _), trivial⟩, by kernel_rfl, fun u v => ?_⟩
     repeat (first | with_reducible refine Zo6 ?_ | with_reducible refine Znk ?_ | with_reducible refine Znl ?_)
     obtain ⟨v', e', hO⟩ : ∃ v e, EndOK Tryd.prog G Tryd.f34 [dsR ds] (Iv 40) [dsR ds] ⟨deadT [29, 30, 31, 32] (Tl [dead, Iv (sz : Nat), Iv (ix : Nat), dead, slv 0 0 n c, pt 1 0, dead, dead, pt 2 0, dead, pt 3 0]), [dsR ds, dgB root, dgB leaf, eB 40]⟩ v e := Zm (v := Iv 40) rfl rfl rfl (Zit ds) rfl
     exact ⟨⟨⟨u, v, rfl⟩, v', e', eB 40, rfl, hO⟩⟩
    | some l =>
     rw [hw] at hE
     dsimp only at hE
     rw [hE]
     have hll := Zqs 17 sz ix ds l (by omega) hw
     have hW := Z6m (G := G) sz ix ds n c l hn hb hc (by omega) (by omega) hw
     have hKn := Z1u (G := G) kk hG leaf l l.length l.length rfl (by omega) (Nat.le_refl _)
     have hAl := Zyo kk leaf l
     have hAt := Zja (knA kk leaf l) 0 (by omega)
     generalize (knA kk leaf l).getD 0 d0 = x at *
     generalize knA kk leaf l = A at *
     generalize knT kk leaf l = TS at *
     generalize hq : l.length = q at *
     have hcA : (dsB A).cells.length = (q + 1) * 32 := by show (dsC A).length = _; rw [Zb7, hAl]
     refine Zaj 3 (H' := [dsR ds, dgB root, dgB leaf, eB 0, hole, hole, hole]) rfl ?_
     cases hs : Zcg 32 x root with
     | true =>
      repeat (first
       | ((with_reducible apply Zal); rfl; rfl; exact (rfl : _ = Value.pointer (some ⟨2, _, _⟩)); exact (show _ = some (dgV leaf) by kernel_rfl))
       | ((with_reducible apply Zal); rfl; rfl; exact (rfl : _ = Value.pointer (some ⟨1, _, _⟩)); exact (show _ = some (dgV root) by kernel_rfl))
       | ((with_reducible apply Zab (e := [some (0, 0)]) (nid := 4) hW); rfl; rfl; rfl; rfl; rfl; rfl; rfl; refine ⟨⟨rfl, rfl, ⟨rfl, rfl, rfl, by omega, by omega⟩, trivial⟩, ⟨Zdh rfl rfl (by show 0 + (dsC _).length ≤ (dsC _).length; omega) (Zf8 _), trivial⟩, rfl, rfl, rfl⟩; exact (show _ = slv 4 0 q q by kernel_rfl); exact (show _ = [dsR ds, dgB root, dgB leaf, eB 0, Zcz l, hole, hole] by kernel_rfl))
       | ((with_reducible apply Zab (e := [some (4, 0)]) (nid := 5) hKn); rfl; rfl; rfl; rfl; rfl; rfl; rfl; refine ⟨⟨rfl, ⟨rfl, rfl, rfl, by omega, by omega⟩, trivial⟩, ⟨Zyg rfl, trivial⟩, rfl, rfl, rfl⟩; exact (show _ = Value.tuple #[slv 5 0 (q + 1) (q + 1), slv 6 0 q q] by kernel_rfl); exact (show _ = [dsR ds, dgB root, dgB leaf, eB 0, Zcz l, dsB A, txB TS] by kernel_rfl))
       | ((with_reducible apply Zal); rfl; rfl; exact (rfl : _ = Value.pointer (some ⟨5, _, _⟩)); exact (show _ = some (dgV x) from Zcu (n := 32) rfl rfl (by omega) hAt))
       | ((with_reducible apply Zj); rfl; rfl; exact (rfl : _ = Value.agg _); exact (rfl : _ = Value.agg _); refine Eq.trans (Zs2 (a := x) (b := root) (by kernel_rfl) rfl rfl rfl) ?_; rw [hs])
       | ((with_reducible apply Zbs (j := 0 * 32)); rfl; rfl; exact (rfl : _ = Value.slice (some ⟨_, _, _⟩) _ _); (exact (rfl : _ = Value.int _ _)); (exact (rfl : _ = some (_, 32))); omega; omega; omega)
       | ((with_reducible apply Zan); rfl; rfl; (first
       | exact (rfl : _ = Value.int _ _)
       | exact (rfl : _ = Value.slice _ _ _)
       | exact (rfl : _ = Value.tuple _)))
       | ((with_reducible apply Zak); rfl; rfl; (exact (rfl : _ = Value.slice _ _ _)))
       | ((with_reducible apply Zgb); rfl; rfl; rfl; (exact (rfl : _ = some (Value.slice _ _ _))))
       | ((with_reducible apply Za1); rfl; exact (rfl : _ = Value.pointer (some ⟨_, _, _⟩)); (exact (rfl : _ = Value.int _ _)); (rfl); exact (rfl : _ = _ :: _))
       | with_reducible refine Za ?_
       | with_reducible refine Zf ?_
       | with_reducible refine Ze ?_
       | with_reducible refine Z0 ?_
       | with_reducible refine Zs ?_
       | with_reducible refine Zc ?_
       | (with_reducible refine Zdq (by kernel_rfl) ?_)
       | (with_reducible refine Zer (by kernel_rfl) ?_)
       | ((with_reducible apply Zt); rfl))
      exact ⟨Zm (v := Iv 0) rfl rfl rfl (Zit ds) rfl⟩
     | false =>
      repeat (first
       | ((with_reducible apply Zal); rfl; rfl; exact (rfl : _ = Value.pointer (some ⟨2, _, _⟩)); exact (show _ = some (dgV leaf) by kernel_rfl))
       | ((with_reducible apply Zal); rfl; rfl; exact (rfl : _ = Value.pointer (some ⟨1, _, _⟩)); exact (show _ = some (dgV root) by kernel_rfl))
       | ((with_reducible apply Zab (e := [some (0, 0)]) (nid := 4) hW); rfl; rfl; rfl; rfl; rfl; rfl; rfl; refine ⟨⟨rfl, rfl, ⟨rfl, rfl, rfl, by omega, by omega⟩, trivial⟩, ⟨Zdh rfl rfl (by show 0 + (dsC _).length ≤ (dsC _).length; omega) (Zf8 _), trivial⟩, rfl, rfl, rfl⟩; exact (show _ = slv 4 0 q q by kernel_rfl); exact (show _ = [dsR ds, dgB root, dgB leaf, eB 0, Zcz l, hole, hole] by kernel_rfl))
       | ((with_reducible apply Zab (e := [some (4, 0)]) (nid := 5) hKn); rfl; rfl; rfl; rfl; rfl; rfl; rfl; refine ⟨⟨rfl, ⟨rfl, rfl, rfl, by omega, by omega⟩, trivial⟩, ⟨Zyg rfl, trivial⟩, rfl, rfl, rfl⟩; exact (show _ = Value.tuple #[slv 5 0 (q + 1) (q + 1), slv 6 0 q q] by kernel_rfl); exact (show _ = [dsR ds, dgB root, dgB leaf, eB 0, Zcz l, dsB A, txB TS] by kernel_rfl))
       | ((with_reducible apply Zal); rfl; rfl; exact (rfl : _ = Value.pointer (some ⟨5, _, _⟩)); exact (show _ = some (dgV x) from Zcu (n := 32) rfl rfl (by omega) hAt))
       | ((with_reducible apply Zj); rfl; rfl; exact (rfl : _ = Value.agg _); exact (rfl : _ = Value.agg _); refine Eq.trans (Zs2 (a := x) (b := root) (by kernel_rfl) rfl rfl rfl) ?_; rw [hs])
       | ((with_reducible apply Zbs (j := 0 * 32)); rfl; rfl; exact (rfl : _ = Value.slice (some ⟨_, _, _⟩) _ _); (exact (rfl : _ = Value.int _ _)); (exact (rfl : _ = some (_, 32))); omega; omega; omega)
       | ((with_reducible apply Zan); rfl; rfl; (first
       | exact (rfl : _ = Value.int _ _)
       | exact (rfl : _ = Value.slice _ _ _)
       | exact (rfl : _ = Value.tuple _)))
       | ((with_reducible apply Zak); rfl; rfl; (exact (rfl : _ = Value.slice _ _ _)))
       | ((with_reducible apply Zgb); rfl; rfl; rfl; (exact (rfl : _ = some (Value.slice _ _ _))))
       | ((with_reducible apply Za1); rfl; exact (rfl : _ = Value.pointer (some ⟨_, _, _⟩)); (exact (rfl : _ = Value.int _ _)); (rfl); exact (rfl : _ = _ :: _))
       | with_reducible refine Za ?_
       | with_reducible refine Zf ?_
       | with_reducible refine Ze ?_
       | with_reducible refine Zs ?_
       | with_reducible refine Zc ?_
       | with_reducible refine Zaa ?_
       | (with_reducible refine Zdq (by kernel_rfl) ?_)
       | (with_reducible refine Zer (by kernel_rfl) ?_)
       | ((with_reducible apply Zv); rfl))
      exact ⟨Zm (v := Iv 41) rfl rfl rfl (Zit ds) rfl⟩
end Go.Flat
namespace Go.Flat
open Go.Proofs
variable {G : Glob}
theorem Zqc {h : Head} (hr : ¬ Zgd h) : (Zad h).2 ≠ 0 ∧ (Zad h).2 = 70 := by
 rw [Zm7, Zf7, if_neg hr]; exact ⟨by decide, rfl⟩
theorem Zyn {kk : Nat → BitVec 32} {master : D} {region node : Int} (h : (1 ≤ region ∧ region ≤ 5) ∧ (1 ≤ node ∧ node ≤ 3)) : Zbr kk master region node = (Zf4 kk master (Zk [75#8, BitVec.ofInt 8 region, BitVec.ofInt 8 node]), 0) := if_pos h
theorem Z1r {kk : Nat → BitVec 32} {master : D} {region node : Int} (h : ¬ ((1 ≤ region ∧ region ≤ 5) ∧ (1 ≤ node ∧ node ≤ 3))) : Zbr kk master region node = (dz, 50) := if_neg h
theorem Z20 (kk : Nat → BitVec 32) (master : D) (h : Head) (node : Int) : Zlh kk master h node = Zb3 kk master h node := by
 unfold Zlh Zb3
 by_cases hr : Zgd h
 ·rw [Zm6 hr]
  rw [if_neg (by simp)]
  by_cases hn : 1 ≤ node ∧ node ≤ 3
  ·rw [Zyn ⟨hr.1, hn⟩, if_neg (by simp), if_pos ⟨hr, hn⟩]; rfl
  ·rw [Z1r (fun q => hn q.2), if_pos (by show (50 : Int) ≠ 0; decide), if_neg (fun q => hn q.2)]; rfl
 ·rw [if_pos (Zqc hr).1, (Zqc hr).2, if_neg (fun q => hr q.1)]; rfl
theorem Zxo (kk : Nat → BitVec 32) (master : D) (s : Signed) : Zf2 kk master s = Zcd kk master s := by
 unfold Zf2 Zcd
 by_cases hm : Zkd s
 ·rw [if_pos hm, Zm6 hm.1]
  rw [if_neg (show ¬ ((Zcm (Zhj s.head), (0 : Int)).2 ≠ 0) by simp), if_pos hm.2.1, if_pos hm.2.2]
  unfold Zf9
  rw [Zyn ⟨hm.1.1, hm.2⟩]
  rw [if_neg (by simp)]; rfl
 ·rw [if_neg hm]
  by_cases hr : Zgd s.head
  ·rw [Zm6 hr, if_neg (show ¬ ((Zcm (Zhj s.head), (0 : Int)).2 ≠ 0) by simp)]
   split
   ·rw [if_neg (fun q => hm ⟨hr, by assumption, q⟩)]
   ·rfl
  ·rw [if_pos (Zqc hr).1]
theorem Z0r (kk : Nat → BitVec 32) (hG : G 0 = some (Z6 w32 64 kk)) (master : D) (h : Head) (node : Int) : Z9 Tryd.prog G 9 [dgV master, Zb2 h, Iv node] [] (.tuple #[Zw (Zb3 kk master h node).1, Iv (Zb3 kk master h node).2]) [] := Z20 kk master h node ▸ Z3n (G := G) kk hG master h node
theorem Zv5 (kk : Nat → BitVec 32) (hG : G 0 = some (Z6 w32 64 kk)) (master : D) (s : Signed) : Z9 Tryd.prog G 47 [dgV master, Zw s] [] (Iv (Zcd kk master s)) [] := Zxo kk master s ▸ Zy5 (G := G) kk hG master s
def Z66 : Head := ⟨1, 1, 0, dz, 0⟩
def s1 (kk : Nat → BitVec 32) : Signed := ⟨Z66, 1, Z0e kk dz Z66 1⟩
end Go.Flat
