/- Walks. -/
import Derived.Test.YtlnggiomppkjmaaDoorE1
set_option linter.unusedVariables false
set_option linter.unusedSimpArgs false
set_option maxRecDepth 20000
namespace Go.Flat
open Go.Proofs
variable {G : Glob}
theorem Zkp (n : Nat) (a b : D) : Zfx n a b = Zfx n b a := by
  cases h : Zfx n a b with
  | true => rw [Zj2] at h; exact (Zj2.2 h.symm).symm
  | false =>
    cases h' : Zfx n b a with
    | true => rw [Zj2] at h'; rw [Zj2.2 h'.symm] at h; cases h
    | false => rfl
theorem Zsi (a b : Head) : Zjd a b = Zjd b a := by
 unfold Zjd; rw [BEq.comm (a := a.region), BEq.comm (a := a.epoch), BEq.comm (a := a.size), BEq.comm (a := a.tick), Zkp]
theorem Zph (a b : Signed) : Zez a b = Zez b a := by
 unfold Zez; rw [Zsi, BEq.comm (a := a.node), Zkp]
theorem Zq2 (a b : Claim) : Zdq a b = Zdq b a := by
 unfold Zdq; rw [BEq.comm (a := a.region), BEq.comm (a := a.epoch), BEq.comm (a := a.node), BEq.comm (a := a.size), Zkp]
def Zfj (e : Entry) : Prop :=
  (e.kind = 1 ∧ 1 ≤ e.client ∧ e.client ≤ 3 ∧ 1 ≤ e.seq ∧ e.seq ≤ 1000000 ∧ e.text.size ≤ 200 ∧ Zez e.head ⟨⟨0, 0, 0, dz, 0⟩, 0, dz⟩ = true ∧ Zdq e.claim ⟨0, 0, 0, 0, dz⟩ = true) ∨
  (e.kind = 2 ∧ e.client = 0 ∧ e.seq = 0 ∧ e.text = ⟨#[]⟩ ∧ Zup e.head ∧ Zdq e.claim ⟨0, 0, 0, 0, dz⟩ = true) ∨
  (e.kind = 3 ∧ e.client = 0 ∧ e.seq = 0 ∧ e.text = ⟨#[]⟩ ∧ Zez e.head ⟨⟨0, 0, 0, dz, 0⟩, 0, dz⟩ = true ∧ Zdz e.claim)
instance (e : Entry) : Decidable (Zfj e) := inferInstanceAs (Decidable (_ ∨ _))
def Zel (e : Entry) : Int := if Zfj e then 0 else 60
theorem Zr6 {e : Entry} (h : Zel e = 0) : Zfj e := by
 unfold Zel at h
 split at h
 ·assumption
 ·omega
theorem Zi8 {e : Entry} (h : ¬ Zel e = 0) : ¬ Zfj e := fun q => h (if_pos q)
def Zdg (x : Item) : Prop := 1 ≤ x.epoch ∧ x.epoch ≤ 900000000 ∧ Zfj x.entry
instance (x : Item) : Decidable (Zdg x) := inferInstanceAs (Decidable (_ ∧ _))
theorem Zr5 {h : Head} : Za5 h = 0 ↔ Zkn h := by
 rw [Zh4]; split <;> simp [*]
theorem Zb3 (e : Entry) : Zfj e ↔ (
 (e.kind = 1 ∧ 1 ≤ e.client ∧ e.client ≤ 3 ∧ 1 ≤ e.seq ∧ e.seq ≤ 1000000 ∧ e.text.size ≤ 200 ∧ Zjc ⟨e.kind, e.client, e.seq, e.text, ⟨⟨0, 0, 0, dz, 0⟩, 0, dz⟩, ⟨0, 0, 0, 0, dz⟩⟩ e = true) ∨
 (e.kind = 2 ∧ Za5 e.head.head = 0 ∧ 1 ≤ e.head.node ∧ e.head.node ≤ 3 ∧ Zjc ⟨e.kind, 0, 0, ⟨#[]⟩, e.head, ⟨0, 0, 0, 0, dz⟩⟩ e = true) ∨
 (e.kind = 3 ∧ Zdd e.claim = 0 ∧ Zjc ⟨e.kind, 0, 0, ⟨#[]⟩, ⟨⟨0, 0, 0, dz, 0⟩, 0, dz⟩, e.claim⟩ e = true)) := by
 have hc : Zdd e.claim = 0 ↔ Zdz e.claim := by unfold Zdd; split <;> simp [*]
 have hz : (⟨#[]⟩ : ByteArray) = e.text ↔ e.text = ⟨#[]⟩ := eq_comm
 have h1 : (0 : Int) = e.client ↔ e.client = 0 := eq_comm
 have h2 : (0 : Int) = e.seq ↔ e.seq = 0 := eq_comm
 have h3 : (1 : Int) = e.kind ↔ e.kind = 1 := eq_comm
 have h4 : (2 : Int) = e.kind ↔ e.kind = 2 := eq_comm
 have h5 : (3 : Int) = e.kind ↔ e.kind = 3 := eq_comm
 simp only [Zfj, Zjc, hc, Zr5, Zup, Zpi, Zk4, BEq.rfl, Bool.true_and, Bool.and_true, Bool.and_eq_true, beq_iff_eq, Zph ⟨⟨0, 0, 0, dz, 0⟩, 0, dz⟩, Zq2 ⟨0, 0, 0, 0, dz⟩, hz, h1, h2, h3, h4, h5, and_assoc, and_left_comm, and_comm]
theorem Zmx (e : Entry) : Z6 Tryd.prog G 68 [Zd1 e] [] (Iv (Zel e)) [] := by
  refine Zbh (fn := Tryd.f68) (nt := 67) rfl rfl rfl rfl ?_
  refine Zaf 2 (H' := [hole, hole]) rfl ?_
  refine Zf (Zg (Zb7 (v := Zd1 e) (b := bxB 109 (Zdf e)) (nid := 0) (H' := [bxB 109 (Zdf e), hole]) (Zb (Iv 0) (Za (Zc (Zf (Zg (Zh (b := 0) (o := 0) (n := 0) (o' := 0) (Zn (p := pt 0 0) (v := Iv e.kind) ?_)))))))))
  refine Zdb (vs := [(0, Iv e.kind)]) (v := Zd1 (⟨e.kind, 0, 0, ⟨#[]⟩, (⟨(⟨0, 0, 0, dz, 0⟩ : Head), 0, dz⟩ : Signed), (⟨0, 0, 0, 0, dz⟩ : Claim)⟩ : Entry)) rfl rfl rfl (by kernel_rfl) ?_
  refine Za9 (b := bxB 109 (Zdf (⟨0, 0, 0, ⟨#[]⟩, (⟨(⟨0, 0, 0, dz, 0⟩ : Head), 0, dz⟩ : Signed), (⟨0, 0, 0, 0, dz⟩ : Claim)⟩ : Entry))) (nid := 1) (H' := [bxB 109 (Zdf e), bxB 109 (Zdf (⟨0, 0, 0, ⟨#[]⟩, (⟨(⟨0, 0, 0, dz, 0⟩ : Head), 0, dz⟩ : Signed), (⟨0, 0, 0, 0, dz⟩ : Claim)⟩ : Entry))]) (Zab (p := pt 1 0) (v := Zd1 (⟨e.kind, 0, 0, ⟨#[]⟩, (⟨(⟨0, 0, 0, dz, 0⟩ : Head), 0, dz⟩ : Signed), (⟨0, 0, 0, 0, dz⟩ : Claim)⟩ : Entry)) (b := 1) (blk := bxB 109 (Zdf (⟨e.kind, 0, 0, ⟨#[]⟩, (⟨(⟨0, 0, 0, dz, 0⟩ : Head), 0, dz⟩ : Signed), (⟨0, 0, 0, 0, dz⟩ : Claim)⟩ : Entry))) (H' := [bxB 109 (Zdf e), bxB 109 (Zdf (⟨e.kind, 0, 0, ⟨#[]⟩, (⟨(⟨0, 0, 0, dz, 0⟩ : Head), 0, dz⟩ : Signed), (⟨0, 0, 0, 0, dz⟩ : Claim)⟩ : Entry))]) (Za (Zc (Zf (Zg (Zb (.bool false) (Za (Zc (Zf (Zf (Zg (Zh (b := 0) (o := 0) (n := 0) (o' := 0) (Zn (p := pt 0 0) (v := Iv e.kind) (Za (Zc (Z8 (Zf (Zg ?_))))))))))))))))))
  by_cases h1 : e.kind = 1
  refine Zl (vx := Iv e.kind) (vy := Iv 1) rfl rfl (.bool true) rfl rfl (Zdp (by omega)) ?_
  refine Zb (.bool true) (Za (Zc (Zy rfl (Zf ?_))))
  refine Zgh (by kernel_rfl) ?_
  refine Zh (b := 0) (o := 0) (n := 1) (o' := 1) (Zn (p := pt 0 1) (v := Iv e.client) (Zh (b := 0) (o := 0) (n := 2) (o' := 2) (Zn (p := pt 0 2) (v := Iv e.seq) (Zh (b := 0) (o := 0) (n := 3) (o' := 3) (Zn (p := pt 0 3) (v := .string e.text) (Zh (b := 1) (o := 0) (n := 1) (o' := 1) (Zab (p := pt 1 1) (v := Iv e.client) (b := 1) (blk := bxB 109 (Zdf (⟨e.kind, e.client, 0, ⟨#[]⟩, (⟨(⟨0, 0, 0, dz, 0⟩ : Head), 0, dz⟩ : Signed), (⟨0, 0, 0, 0, dz⟩ : Claim)⟩ : Entry))) (H' := [bxB 109 (Zdf e), bxB 109 (Zdf (⟨e.kind, e.client, 0, ⟨#[]⟩, (⟨(⟨0, 0, 0, dz, 0⟩ : Head), 0, dz⟩ : Signed), (⟨0, 0, 0, 0, dz⟩ : Claim)⟩ : Entry))]) (Zh (b := 1) (o := 0) (n := 2) (o' := 2) (Zab (p := pt 1 2) (v := Iv e.seq) (b := 1) (blk := bxB 109 (Zdf (⟨e.kind, e.client, e.seq, ⟨#[]⟩, (⟨(⟨0, 0, 0, dz, 0⟩ : Head), 0, dz⟩ : Signed), (⟨0, 0, 0, 0, dz⟩ : Claim)⟩ : Entry))) (H' := [bxB 109 (Zdf e), bxB 109 (Zdf (⟨e.kind, e.client, e.seq, ⟨#[]⟩, (⟨(⟨0, 0, 0, dz, 0⟩ : Head), 0, dz⟩ : Signed), (⟨0, 0, 0, 0, dz⟩ : Claim)⟩ : Entry))]) (Zh (b := 1) (o := 0) (n := 3) (o' := 3) (Zab (p := pt 1 3) (v := .string e.text) (b := 1) (blk := bxB 109 (Zdf (⟨e.kind, e.client, e.seq, e.text, (⟨(⟨0, 0, 0, dz, 0⟩ : Head), 0, dz⟩ : Signed), (⟨0, 0, 0, 0, dz⟩ : Claim)⟩ : Entry))) (H' := [bxB 109 (Zdf e), bxB 109 (Zdf (⟨e.kind, e.client, e.seq, e.text, (⟨(⟨0, 0, 0, dz, 0⟩ : Head), 0, dz⟩ : Signed), (⟨0, 0, 0, 0, dz⟩ : Claim)⟩ : Entry))]) ?_)))))))))))
  refine Zdm (Zc4 [[], [0], [], [2], [], [4], [0, 1], [0, 1, 6], [0, 1, 2, 3, 6, 7], [0, 1, 2, 3, 6, 7, 8], [0, 1, 2, 3, 4, 5, 6, 7, 8, 9], [0, 1, 2, 3, 4, 5, 6, 7, 8, 9, 10]] (by kernel_rfl) (by kernel_rfl)) ?_
  refine Zc (Zg (Zh (b := 1) (o := 0) (n := 1) (o' := 1) (Zn (p := pt 1 1) (v := Iv e.client) ?_)))
  by_cases h2 : 1 ≤ e.client
  by_cases h3 : e.client ≤ 3
  refine Zs ((Zau (G := G) e.client 1 3).res (congrArg Value.bool (Zbq (by omega) (by omega)))) (vals := [Iv e.client, Iv 1, Iv 3]) (res' := .bool true) rfl rfl rfl rfl rfl rfl ?_
  refine Zd (.bool true) (Zh (b := 1) (o := 0) (n := 2) (o' := 2) (Zn (p := pt 1 2) (v := Iv e.seq) ?_))
  by_cases h4 : 1 ≤ e.seq
  by_cases h5 : e.seq ≤ 1000000
  refine Zs ((Zau (G := G) e.seq 1 1000000).res (congrArg Value.bool (Zbq (by omega) (by omega)))) (vals := [Iv e.seq, Iv 1, Iv 1000000]) (res' := .bool true) rfl rfl rfl rfl rfl rfl ?_
  refine Zk (.bool true) (Zd (.bool true) (Zh (b := 1) (o := 0) (n := 3) (o' := 3) (Zn (p := pt 1 3) (v := .string e.text) (Zaw (p := .string e.text) (v := Iv (e.text.size : Nat)) ?_))))
  by_cases h6 : (e.text.size : Nat) ≤ 200
  refine Zl (vx := Iv (e.text.size : Nat)) (vy := Iv 200) rfl rfl (.bool true) rfl rfl (Zlg (by omega)) ?_
  refine Zk (.bool true) (Zb (.bool true) (Za (Z7 (Zc (Zf (Zg (Zd (.bool true) (Zd (.bool true) (Zn (p := pt 1 0) (v := Zd1 (⟨e.kind, e.client, e.seq, e.text, (⟨(⟨0, 0, 0, dz, 0⟩ : Head), 0, dz⟩ : Signed), (⟨0, 0, 0, 0, dz⟩ : Claim)⟩ : Entry)) (Zn (p := pt 0 0) (v := Zd1 e) ?_))))))))))
  rcases Bool.eq_false_or_eq_true (Zjc (⟨e.kind, e.client, e.seq, e.text, (⟨(⟨0, 0, 0, dz, 0⟩ : Head), 0, dz⟩ : Signed), (⟨0, 0, 0, 0, dz⟩ : Claim)⟩ : Entry) e) with h7 | h7
  refine Zl (vx := Zd1 (⟨e.kind, e.client, e.seq, e.text, (⟨(⟨0, 0, 0, dz, 0⟩ : Head), 0, dz⟩ : Signed), (⟨0, 0, 0, 0, dz⟩ : Claim)⟩ : Entry)) (vy := Zd1 e) rfl rfl (.bool true) rfl rfl (Eq.trans (Zgu (⟨e.kind, e.client, e.seq, e.text, (⟨(⟨0, 0, 0, dz, 0⟩ : Head), 0, dz⟩ : Signed), (⟨0, 0, 0, 0, dz⟩ : Claim)⟩ : Entry) e) (by rw [h7] <;> rfl)) ?_
  refine Zk (.bool true) ?_
  refine Zs (Zb9 (G := G) true) (vals := [.bool true]) (res' := Iv 0) rfl rfl rfl rfl rfl rfl ?_
  refine Zb (Iv 0) (Za (Zc (Zr (Zt ?_))))
  rw [show Zel e = 0 from if_pos ((Zb3 e).2 (by first | exact .inl ⟨by omega, by omega, by omega, by omega, by omega, by omega, by assumption⟩ | exact .inr (.inl ⟨by omega, by omega, by omega, by omega, by assumption⟩) | exact .inr (.inr ⟨by omega, by omega, by assumption⟩)))]
  exact Zm (v := Iv 0) rfl rfl rfl (by kernel_rfl) rfl
  refine Zl (vx := Zd1 (⟨e.kind, e.client, e.seq, e.text, (⟨(⟨0, 0, 0, dz, 0⟩ : Head), 0, dz⟩ : Signed), (⟨0, 0, 0, 0, dz⟩ : Claim)⟩ : Entry)) (vy := Zd1 e) rfl rfl (.bool false) rfl rfl (Eq.trans (Zgu (⟨e.kind, e.client, e.seq, e.text, (⟨(⟨0, 0, 0, dz, 0⟩ : Head), 0, dz⟩ : Signed), (⟨0, 0, 0, 0, dz⟩ : Claim)⟩ : Entry) e) (by rw [h7] <;> rfl)) ?_
  refine Zk (.bool false) ?_
  refine Zs (Zb9 (G := G) false) (vals := [.bool false]) (res' := Iv 60) rfl rfl rfl rfl rfl rfl ?_
  refine Zb (Iv 60) (Za (Zc (Zr (Zt ?_))))
  rw [show Zel e = 60 from if_neg (fun q => by rcases (Zb3 e).1 q with q | q | q <;> first | omega | (exact absurd (by first | exact q.2.2.2.2.2.2 | exact q.2.2.2.2 | exact q.2.2) (Bool.eq_false_iff.1 (by assumption))))]
  exact Zm (v := Iv 60) rfl rfl rfl (by kernel_rfl) rfl
  refine Zl (vx := Iv (e.text.size : Nat)) (vy := Iv 200) rfl rfl (.bool false) rfl rfl (Zlf (by omega)) ?_
  refine Zk (.bool false) (Zb (.bool false) (Za (Z7 (Zc (Zf (Zg (Zd (.bool false) (Zd (.bool false) (Ze (Ze (Ze (Zk (.bool false) ?_))))))))))))
  refine Zs (Zb9 (G := G) false) (vals := [.bool false]) (res' := Iv 60) rfl rfl rfl rfl rfl rfl ?_
  refine Zb (Iv 60) (Za (Zc (Zr (Zt ?_))))
  rw [show Zel e = 60 from if_neg (fun q => by rcases (Zb3 e).1 q with q | q | q <;> first | omega | (exact absurd (by first | exact q.2.2.2.2.2.2 | exact q.2.2.2.2 | exact q.2.2) (Bool.eq_false_iff.1 (by assumption))))]
  exact Zm (v := Iv 60) rfl rfl rfl (by kernel_rfl) rfl
  refine Zs ((Zau (G := G) e.seq 1 1000000).res (congrArg Value.bool (Zac (by omega)))) (vals := [Iv e.seq, Iv 1, Iv 1000000]) (res' := .bool false) rfl rfl rfl rfl rfl rfl ?_
  refine Zk (.bool false) (Zd (.bool false) (Ze (Ze (Ze (Ze (Zk (.bool false) (Zb (.bool false) (Za (Z7 (Zc (Zf (Zg (Zd (.bool false) (Zd (.bool false) (Ze (Ze (Ze (Zk (.bool false) ?_))))))))))))))))))
  refine Zs (Zb9 (G := G) false) (vals := [.bool false]) (res' := Iv 60) rfl rfl rfl rfl rfl rfl ?_
  refine Zb (Iv 60) (Za (Zc (Zr (Zt ?_))))
  rw [show Zel e = 60 from if_neg (fun q => by rcases (Zb3 e).1 q with q | q | q <;> first | omega | (exact absurd (by first | exact q.2.2.2.2.2.2 | exact q.2.2.2.2 | exact q.2.2) (Bool.eq_false_iff.1 (by assumption))))]
  exact Zm (v := Iv 60) rfl rfl rfl (by kernel_rfl) rfl
  refine Zs ((Zau (G := G) e.seq 1 1000000).res (congrArg Value.bool (Zac (by omega)))) (vals := [Iv e.seq, Iv 1, Iv 1000000]) (res' := .bool false) rfl rfl rfl rfl rfl rfl ?_
  refine Zk (.bool false) (Zd (.bool false) (Ze (Ze (Ze (Ze (Zk (.bool false) (Zb (.bool false) (Za (Z7 (Zc (Zf (Zg (Zd (.bool false) (Zd (.bool false) (Ze (Ze (Ze (Zk (.bool false) ?_))))))))))))))))))
  refine Zs (Zb9 (G := G) false) (vals := [.bool false]) (res' := Iv 60) rfl rfl rfl rfl rfl rfl ?_
  refine Zb (Iv 60) (Za (Zc (Zr (Zt ?_))))
  rw [show Zel e = 60 from if_neg (fun q => by rcases (Zb3 e).1 q with q | q | q <;> first | omega | (exact absurd (by first | exact q.2.2.2.2.2.2 | exact q.2.2.2.2 | exact q.2.2) (Bool.eq_false_iff.1 (by assumption))))]
  exact Zm (v := Iv 60) rfl rfl rfl (by kernel_rfl) rfl
  refine Zs ((Zau (G := G) e.client 1 3).res (congrArg Value.bool (Zac (by omega)))) (vals := [Iv e.client, Iv 1, Iv 3]) (res' := .bool false) rfl rfl rfl rfl rfl rfl ?_
  refine Zd (.bool false) (Ze (Ze (Ze (Zk (.bool false) (Zd (.bool false) (Ze (Ze (Ze (Ze (Zk (.bool false) (Zb (.bool false) (Za (Z7 (Zc (Zf (Zg (Zd (.bool false) (Zd (.bool false) (Ze (Ze (Ze (Zk (.bool false) ?_))))))))))))))))))))))
  refine Zs (Zb9 (G := G) false) (vals := [.bool false]) (res' := Iv 60) rfl rfl rfl rfl rfl rfl ?_
  refine Zb (Iv 60) (Za (Zc (Zr (Zt ?_))))
  rw [show Zel e = 60 from if_neg (fun q => by rcases (Zb3 e).1 q with q | q | q <;> first | omega | (exact absurd (by first | exact q.2.2.2.2.2.2 | exact q.2.2.2.2 | exact q.2.2) (Bool.eq_false_iff.1 (by assumption))))]
  exact Zm (v := Iv 60) rfl rfl rfl (by kernel_rfl) rfl
  refine Zs ((Zau (G := G) e.client 1 3).res (congrArg Value.bool (Zac (by omega)))) (vals := [Iv e.client, Iv 1, Iv 3]) (res' := .bool false) rfl rfl rfl rfl rfl rfl ?_
  refine Zd (.bool false) (Ze (Ze (Ze (Zk (.bool false) (Zd (.bool false) (Ze (Ze (Ze (Ze (Zk (.bool false) (Zb (.bool false) (Za (Z7 (Zc (Zf (Zg (Zd (.bool false) (Zd (.bool false) (Ze (Ze (Ze (Zk (.bool false) ?_))))))))))))))))))))))
  refine Zs (Zb9 (G := G) false) (vals := [.bool false]) (res' := Iv 60) rfl rfl rfl rfl rfl rfl ?_
  refine Zb (Iv 60) (Za (Zc (Zr (Zt ?_))))
  rw [show Zel e = 60 from if_neg (fun q => by rcases (Zb3 e).1 q with q | q | q <;> first | omega | (exact absurd (by first | exact q.2.2.2.2.2.2 | exact q.2.2.2.2 | exact q.2.2) (Bool.eq_false_iff.1 (by assumption))))]
  exact Zm (v := Iv 60) rfl rfl rfl (by kernel_rfl) rfl
  refine Zl (vx := Iv e.kind) (vy := Iv 1) rfl rfl (.bool false) rfl rfl (Zef (by omega)) ?_
  refine Zb (.bool false) (Za (Zc (Zu rfl (Zf (Zg ?_)))))
  by_cases h8 : e.kind = 2
  refine Zl (vx := Iv e.kind) (vy := Iv 2) rfl rfl (.bool true) rfl rfl (Zdp (by omega)) ?_
  refine Zb (.bool true) (Za (Zc (Zy rfl (Zf (Zg (Zh (b := 0) (o := 0) (n := 4) (o' := 4) (Zn (p := pt 0 4) (v := Zf9 e.head) (Zh (b := 1) (o := 0) (n := 4) (o' := 4) (Zab (p := pt 1 4) (v := Zf9 e.head) (b := 1) (blk := bxB 109 (Zdf (⟨e.kind, 0, 0, ⟨#[]⟩, e.head, (⟨0, 0, 0, 0, dz⟩ : Claim)⟩ : Entry))) (H' := [bxB 109 (Zdf e), bxB 109 (Zdf (⟨e.kind, 0, 0, ⟨#[]⟩, e.head, (⟨0, 0, 0, 0, dz⟩ : Claim)⟩ : Entry))]) (Za (Zc (Zg (Zh (b := 1) (o := 0) (n := 4) (o' := 4) (Zh (b := 1) (o := 4) (n := 0) (o' := 4) (Zn (p := pt 1 4) (v := Zhn e.head.head) ?_)))))))))))))))
  refine Zs (Zrr (G := G) e.head.head) (vals := [Zhn e.head.head]) (res' := Iv (Za5 e.head.head)) rfl rfl rfl rfl rfl rfl ?_
  by_cases h9 : (Za5 e.head.head) = 0
  refine Zl (vx := Iv (Za5 e.head.head)) (vy := Iv 0) rfl rfl (.bool true) rfl rfl (Zdp (by omega)) ?_
  refine Zd (.bool true) (Zh (b := 1) (o := 0) (n := 4) (o' := 4) (Zh (b := 1) (o := 4) (n := 36) (o' := 40) (Zn (p := pt 1 40) (v := Iv e.head.node) ?_)))
  by_cases h10 : 1 ≤ e.head.node
  by_cases h11 : e.head.node ≤ 3
  refine Zs ((Zau (G := G) e.head.node 1 3).res (congrArg Value.bool (Zbq (by omega) (by omega)))) (vals := [Iv e.head.node, Iv 1, Iv 3]) (res' := .bool true) rfl rfl rfl rfl rfl rfl ?_
  refine Zk (.bool true) (Zb (.bool true) (Za (Z7 (Zc (Zf (Zg (Zd (.bool true) (Zd (.bool true) (Zn (p := pt 1 0) (v := Zd1 (⟨e.kind, 0, 0, ⟨#[]⟩, e.head, (⟨0, 0, 0, 0, dz⟩ : Claim)⟩ : Entry)) (Zn (p := pt 0 0) (v := Zd1 e) ?_))))))))))
  rcases Bool.eq_false_or_eq_true (Zjc (⟨e.kind, 0, 0, ⟨#[]⟩, e.head, (⟨0, 0, 0, 0, dz⟩ : Claim)⟩ : Entry) e) with h12 | h12
  refine Zl (vx := Zd1 (⟨e.kind, 0, 0, ⟨#[]⟩, e.head, (⟨0, 0, 0, 0, dz⟩ : Claim)⟩ : Entry)) (vy := Zd1 e) rfl rfl (.bool true) rfl rfl (Eq.trans (Zgu (⟨e.kind, 0, 0, ⟨#[]⟩, e.head, (⟨0, 0, 0, 0, dz⟩ : Claim)⟩ : Entry) e) (by rw [h12] <;> rfl)) ?_
  refine Zk (.bool true) ?_
  refine Zs (Zb9 (G := G) true) (vals := [.bool true]) (res' := Iv 0) rfl rfl rfl rfl rfl rfl ?_
  refine Zb (Iv 0) (Za (Zc (Zr (Zt ?_))))
  rw [show Zel e = 0 from if_pos ((Zb3 e).2 (by first | exact .inl ⟨by omega, by omega, by omega, by omega, by omega, by omega, by assumption⟩ | exact .inr (.inl ⟨by omega, by omega, by omega, by omega, by assumption⟩) | exact .inr (.inr ⟨by omega, by omega, by assumption⟩)))]
  exact Zm (v := Iv 0) rfl rfl rfl (by kernel_rfl) rfl
  refine Zl (vx := Zd1 (⟨e.kind, 0, 0, ⟨#[]⟩, e.head, (⟨0, 0, 0, 0, dz⟩ : Claim)⟩ : Entry)) (vy := Zd1 e) rfl rfl (.bool false) rfl rfl (Eq.trans (Zgu (⟨e.kind, 0, 0, ⟨#[]⟩, e.head, (⟨0, 0, 0, 0, dz⟩ : Claim)⟩ : Entry) e) (by rw [h12] <;> rfl)) ?_
  refine Zk (.bool false) ?_
  refine Zs (Zb9 (G := G) false) (vals := [.bool false]) (res' := Iv 60) rfl rfl rfl rfl rfl rfl ?_
  refine Zb (Iv 60) (Za (Zc (Zr (Zt ?_))))
  rw [show Zel e = 60 from if_neg (fun q => by rcases (Zb3 e).1 q with q | q | q <;> first | omega | (exact absurd (by first | exact q.2.2.2.2.2.2 | exact q.2.2.2.2 | exact q.2.2) (Bool.eq_false_iff.1 (by assumption))))]
  exact Zm (v := Iv 60) rfl rfl rfl (by kernel_rfl) rfl
  refine Zs ((Zau (G := G) e.head.node 1 3).res (congrArg Value.bool (Zac (by omega)))) (vals := [Iv e.head.node, Iv 1, Iv 3]) (res' := .bool false) rfl rfl rfl rfl rfl rfl ?_
  refine Zk (.bool false) (Zb (.bool false) (Za (Z7 (Zc (Zf (Zg (Zd (.bool false) (Zd (.bool false) (Ze (Ze (Ze (Zk (.bool false) ?_))))))))))))
  refine Zs (Zb9 (G := G) false) (vals := [.bool false]) (res' := Iv 60) rfl rfl rfl rfl rfl rfl ?_
  refine Zb (Iv 60) (Za (Zc (Zr (Zt ?_))))
  rw [show Zel e = 60 from if_neg (fun q => by rcases (Zb3 e).1 q with q | q | q <;> first | omega | (exact absurd (by first | exact q.2.2.2.2.2.2 | exact q.2.2.2.2 | exact q.2.2) (Bool.eq_false_iff.1 (by assumption))))]
  exact Zm (v := Iv 60) rfl rfl rfl (by kernel_rfl) rfl
  refine Zs ((Zau (G := G) e.head.node 1 3).res (congrArg Value.bool (Zac (by omega)))) (vals := [Iv e.head.node, Iv 1, Iv 3]) (res' := .bool false) rfl rfl rfl rfl rfl rfl ?_
  refine Zk (.bool false) (Zb (.bool false) (Za (Z7 (Zc (Zf (Zg (Zd (.bool false) (Zd (.bool false) (Ze (Ze (Ze (Zk (.bool false) ?_))))))))))))
  refine Zs (Zb9 (G := G) false) (vals := [.bool false]) (res' := Iv 60) rfl rfl rfl rfl rfl rfl ?_
  refine Zb (Iv 60) (Za (Zc (Zr (Zt ?_))))
  rw [show Zel e = 60 from if_neg (fun q => by rcases (Zb3 e).1 q with q | q | q <;> first | omega | (exact absurd (by first | exact q.2.2.2.2.2.2 | exact q.2.2.2.2 | exact q.2.2) (Bool.eq_false_iff.1 (by assumption))))]
  exact Zm (v := Iv 60) rfl rfl rfl (by kernel_rfl) rfl
  refine Zl (vx := Iv (Za5 e.head.head)) (vy := Iv 0) rfl rfl (.bool false) rfl rfl (Zef (by omega)) ?_
  refine Zd (.bool false) (Ze (Ze (Ze (Ze (Zk (.bool false) (Zb (.bool false) (Za (Z7 (Zc (Zf (Zg (Zd (.bool false) (Zd (.bool false) (Ze (Ze (Ze (Zk (.bool false) ?_)))))))))))))))))
  refine Zs (Zb9 (G := G) false) (vals := [.bool false]) (res' := Iv 60) rfl rfl rfl rfl rfl rfl ?_
  refine Zb (Iv 60) (Za (Zc (Zr (Zt ?_))))
  rw [show Zel e = 60 from if_neg (fun q => by rcases (Zb3 e).1 q with q | q | q <;> first | omega | (exact absurd (by first | exact q.2.2.2.2.2.2 | exact q.2.2.2.2 | exact q.2.2) (Bool.eq_false_iff.1 (by assumption))))]
  exact Zm (v := Iv 60) rfl rfl rfl (by kernel_rfl) rfl
  refine Zl (vx := Iv e.kind) (vy := Iv 2) rfl rfl (.bool false) rfl rfl (Zef (by omega)) ?_
  refine Zb (.bool false) (Za (Zc (Zu rfl (Zf (Zg ?_)))))
  by_cases h13 : e.kind = 3
  refine Zl (vx := Iv e.kind) (vy := Iv 3) rfl rfl (.bool true) rfl rfl (Zdp (by omega)) ?_
  refine Zb (.bool true) (Za (Zc (Zy rfl (Zf (Zg (Zh (b := 0) (o := 0) (n := 73) (o' := 73) (Zn (p := pt 0 73) (v := Zai e.claim) (Zh (b := 1) (o := 0) (n := 73) (o' := 73) (Zab (p := pt 1 73) (v := Zai e.claim) (b := 1) (blk := bxB 109 (Zdf (⟨e.kind, 0, 0, ⟨#[]⟩, (⟨(⟨0, 0, 0, dz, 0⟩ : Head), 0, dz⟩ : Signed), e.claim⟩ : Entry))) (H' := [bxB 109 (Zdf e), bxB 109 (Zdf (⟨e.kind, 0, 0, ⟨#[]⟩, (⟨(⟨0, 0, 0, dz, 0⟩ : Head), 0, dz⟩ : Signed), e.claim⟩ : Entry))]) (Za (Zc (Zg (Zh (b := 1) (o := 0) (n := 73) (o' := 73) (Zn (p := pt 1 73) (v := Zai e.claim) ?_))))))))))))))
  refine Zs (Zf4 (G := G) e.claim) (vals := [Zai e.claim]) (res' := Iv (Zdd e.claim)) rfl rfl rfl rfl rfl rfl ?_
  by_cases h14 : (Zdd e.claim) = 0
  refine Zl (vx := Iv (Zdd e.claim)) (vy := Iv 0) rfl rfl (.bool true) rfl rfl (Zdp (by omega)) ?_
  refine Zb (.bool true) (Za (Z7 (Zc (Zf (Zg (Zd (.bool true) (Zd (.bool true) (Zn (p := pt 1 0) (v := Zd1 (⟨e.kind, 0, 0, ⟨#[]⟩, (⟨(⟨0, 0, 0, dz, 0⟩ : Head), 0, dz⟩ : Signed), e.claim⟩ : Entry)) (Zn (p := pt 0 0) (v := Zd1 e) ?_)))))))))
  rcases Bool.eq_false_or_eq_true (Zjc (⟨e.kind, 0, 0, ⟨#[]⟩, (⟨(⟨0, 0, 0, dz, 0⟩ : Head), 0, dz⟩ : Signed), e.claim⟩ : Entry) e) with h15 | h15
  refine Zl (vx := Zd1 (⟨e.kind, 0, 0, ⟨#[]⟩, (⟨(⟨0, 0, 0, dz, 0⟩ : Head), 0, dz⟩ : Signed), e.claim⟩ : Entry)) (vy := Zd1 e) rfl rfl (.bool true) rfl rfl (Eq.trans (Zgu (⟨e.kind, 0, 0, ⟨#[]⟩, (⟨(⟨0, 0, 0, dz, 0⟩ : Head), 0, dz⟩ : Signed), e.claim⟩ : Entry) e) (by rw [h15] <;> rfl)) ?_
  refine Zk (.bool true) ?_
  refine Zs (Zb9 (G := G) true) (vals := [.bool true]) (res' := Iv 0) rfl rfl rfl rfl rfl rfl ?_
  refine Zb (Iv 0) (Za (Zc (Zr (Zt ?_))))
  rw [show Zel e = 0 from if_pos ((Zb3 e).2 (by first | exact .inl ⟨by omega, by omega, by omega, by omega, by omega, by omega, by assumption⟩ | exact .inr (.inl ⟨by omega, by omega, by omega, by omega, by assumption⟩) | exact .inr (.inr ⟨by omega, by omega, by assumption⟩)))]
  exact Zm (v := Iv 0) rfl rfl rfl (by kernel_rfl) rfl
  refine Zl (vx := Zd1 (⟨e.kind, 0, 0, ⟨#[]⟩, (⟨(⟨0, 0, 0, dz, 0⟩ : Head), 0, dz⟩ : Signed), e.claim⟩ : Entry)) (vy := Zd1 e) rfl rfl (.bool false) rfl rfl (Eq.trans (Zgu (⟨e.kind, 0, 0, ⟨#[]⟩, (⟨(⟨0, 0, 0, dz, 0⟩ : Head), 0, dz⟩ : Signed), e.claim⟩ : Entry) e) (by rw [h15] <;> rfl)) ?_
  refine Zk (.bool false) ?_
  refine Zs (Zb9 (G := G) false) (vals := [.bool false]) (res' := Iv 60) rfl rfl rfl rfl rfl rfl ?_
  refine Zb (Iv 60) (Za (Zc (Zr (Zt ?_))))
  rw [show Zel e = 60 from if_neg (fun q => by rcases (Zb3 e).1 q with q | q | q <;> first | omega | (exact absurd (by first | exact q.2.2.2.2.2.2 | exact q.2.2.2.2 | exact q.2.2) (Bool.eq_false_iff.1 (by assumption))))]
  exact Zm (v := Iv 60) rfl rfl rfl (by kernel_rfl) rfl
  refine Zl (vx := Iv (Zdd e.claim)) (vy := Iv 0) rfl rfl (.bool false) rfl rfl (Zef (by omega)) ?_
  refine Zb (.bool false) (Za (Z7 (Zc (Zf (Zg (Zd (.bool false) (Zd (.bool false) (Ze (Ze (Ze (Zk (.bool false) ?_)))))))))))
  refine Zs (Zb9 (G := G) false) (vals := [.bool false]) (res' := Iv 60) rfl rfl rfl rfl rfl rfl ?_
  refine Zb (Iv 60) (Za (Zc (Zr (Zt ?_))))
  rw [show Zel e = 60 from if_neg (fun q => by rcases (Zb3 e).1 q with q | q | q <;> first | omega | (exact absurd (by first | exact q.2.2.2.2.2.2 | exact q.2.2.2.2 | exact q.2.2) (Bool.eq_false_iff.1 (by assumption))))]
  exact Zm (v := Iv 60) rfl rfl rfl (by kernel_rfl) rfl
  refine Zl (vx := Iv e.kind) (vy := Iv 3) rfl rfl (.bool false) rfl rfl (Zef (by omega)) ?_
  refine Zb (.bool false) (Za (Zc (Zu rfl (Zz (Z7 (Zc (Zf (Zg (Zd (.bool false) (Zd (.bool false) (Ze (Ze (Ze (Zk (.bool false) ?_))))))))))))))
  refine Zs (Zb9 (G := G) false) (vals := [.bool false]) (res' := Iv 60) rfl rfl rfl rfl rfl rfl ?_
  refine Zb (Iv 60) (Za (Zc (Zr (Zt ?_))))
  rw [show Zel e = 60 from if_neg (fun q => by rcases (Zb3 e).1 q with q | q | q <;> first | omega | (exact absurd (by first | exact q.2.2.2.2.2.2 | exact q.2.2.2.2 | exact q.2.2) (Bool.eq_false_iff.1 (by assumption))))]
  exact Zm (v := Iv 60) rfl rfl rfl (by kernel_rfl) rfl
end Go.Flat
