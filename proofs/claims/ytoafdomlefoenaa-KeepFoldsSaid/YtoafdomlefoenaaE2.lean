/- Walks. -/
import Derived.Test.YtoafdomlefoenaaE1
set_option linter.unusedVariables false
set_option linter.unusedSimpArgs false
set_option maxRecDepth 20000
namespace Go.Flat
open Go.Proofs
variable {G : Glob}
theorem Zj5 (n : Nat) (a b : D) : Zfm n a b = Zfm n b a := by
  cases h : Zfm n a b with
  | true => rw [Zjd] at h; exact (Zjd.2 h.symm).symm
  | false =>
    cases h' : Zfm n b a with
    | true => rw [Zjd] at h'; rw [Zjd.2 h'.symm] at h; cases h
    | false => rfl
theorem Zqn (a b : Head) : Zim a b = Zim b a := by
 unfold Zim; rw [BEq.comm (a := a.region), BEq.comm (a := a.epoch), BEq.comm (a := a.size), BEq.comm (a := a.tick), Zj5]
theorem Zjk (a b : Signed) : Zee a b = Zee b a := by
 unfold Zee; rw [Zqn, BEq.comm (a := a.node), Zj5]
theorem Zp (a b : Claim) : Zu a b = Zu b a := by
 unfold Zu; rw [BEq.comm (a := a.region), BEq.comm (a := a.epoch), BEq.comm (a := a.node), BEq.comm (a := a.size), Zj5]
def Zck (e : Entry) : Prop :=
  (e.kind = 1 ∧ 1 ≤ e.client ∧ e.client ≤ 3 ∧ 1 ≤ e.seq ∧ e.seq ≤ 1000000 ∧ e.text.size ≤ 200 ∧ Zee e.head ⟨⟨0, 0, 0, dz, 0⟩, 0, dz⟩ = true ∧ Zu e.claim ⟨0, 0, 0, 0, dz⟩ = true) ∨
  (e.kind = 2 ∧ e.client = 0 ∧ e.seq = 0 ∧ e.text = ⟨#[]⟩ ∧ Zlb e.head ∧ Zu e.claim ⟨0, 0, 0, 0, dz⟩ = true) ∨
  (e.kind = 3 ∧ e.client = 0 ∧ e.seq = 0 ∧ e.text = ⟨#[]⟩ ∧ Zee e.head ⟨⟨0, 0, 0, dz, 0⟩, 0, dz⟩ = true ∧ Zaz e.claim)
instance (e : Entry) : Decidable (Zck e) := inferInstanceAs (Decidable (_ ∨ _))
def Zf4 (e : Entry) : Int := if Zck e then 0 else 60
theorem Zeo {e : Entry} (h : Zf4 e = 0) : Zck e := by
 unfold Zf4 at h
 split at h
 ·assumption
 ·omega
theorem Z8 {e : Entry} (h : ¬ Zf4 e = 0) : ¬ Zck e := fun q => h (if_pos q)
def Zbb (x : Item) : Prop := 1 ≤ x.epoch ∧ x.epoch ≤ 900000000 ∧ Zck x.entry
instance (x : Item) : Decidable (Zbb x) := inferInstanceAs (Decidable (_ ∧ _))
theorem Zqd {h : Head} : Zcv h = 0 ↔ Zc6 h := by
 rw [Zup]; split <;> simp [*]
theorem Zcl (e : Entry) : Zck e ↔ (
 (e.kind = 1 ∧ 1 ≤ e.client ∧ e.client ≤ 3 ∧ 1 ≤ e.seq ∧ e.seq ≤ 1000000 ∧ e.text.size ≤ 200 ∧ Zgi ⟨e.kind, e.client, e.seq, e.text, ⟨⟨0, 0, 0, dz, 0⟩, 0, dz⟩, ⟨0, 0, 0, 0, dz⟩⟩ e = true) ∨
 (e.kind = 2 ∧ Zcv e.head.head = 0 ∧ 1 ≤ e.head.node ∧ e.head.node ≤ 3 ∧ Zgi ⟨e.kind, 0, 0, ⟨#[]⟩, e.head, ⟨0, 0, 0, 0, dz⟩⟩ e = true) ∨
 (e.kind = 3 ∧ Ze6 e.claim = 0 ∧ Zgi ⟨e.kind, 0, 0, ⟨#[]⟩, ⟨⟨0, 0, 0, dz, 0⟩, 0, dz⟩, e.claim⟩ e = true)) := by
 have hc : Ze6 e.claim = 0 ↔ Zaz e.claim := by unfold Ze6; split <;> simp [*]
 have hz : (⟨#[]⟩ : ByteArray) = e.text ↔ e.text = ⟨#[]⟩ := eq_comm
 have h1 : (0 : Int) = e.client ↔ e.client = 0 := eq_comm
 have h2 : (0 : Int) = e.seq ↔ e.seq = 0 := eq_comm
 have h3 : (1 : Int) = e.kind ↔ e.kind = 1 := eq_comm
 have h4 : (2 : Int) = e.kind ↔ e.kind = 2 := eq_comm
 have h5 : (3 : Int) = e.kind ↔ e.kind = 3 := eq_comm
 simp only [Zck, Zgi, hc, Zqd, Zlb, Zjl, Zag, BEq.rfl, Bool.true_and, Bool.and_true, Bool.and_eq_true, beq_iff_eq, Zjk ⟨⟨0, 0, 0, dz, 0⟩, 0, dz⟩, Zp ⟨0, 0, 0, 0, dz⟩, hz, h1, h2, h3, h4, h5, and_assoc, and_left_comm, and_comm]
theorem Zlh (e : Entry) : Zat Try.prog G 52 [Zdg e] [] (Iv (Zf4 e)) [] := by
  refine Zcg (fn := Try.f52) (nt := 67) rfl rfl rfl rfl ?_
  refine Za8 2 (H' := [hole, hole]) rfl ?_
  refine Zi (Zm (Zbn (v := Zdg e) (b := bxB 109 (Zdd e)) (nid := 0) (H' := [bxB 109 (Zdd e), hole]) (Zc (Iv 0) (Zd (Ze (Zi (Zm (Zf (b := 0) (o := 0) (n := 0) (o' := 0) (Zl (p := pt 0 0) (v := Iv e.kind) ?_)))))))))
  refine Za0 (vs := [(0, Iv e.kind)]) (v := Zdg (⟨e.kind, 0, 0, ⟨#[]⟩, (⟨(⟨0, 0, 0, dz, 0⟩ : Head), 0, dz⟩ : Signed), (⟨0, 0, 0, 0, dz⟩ : Claim)⟩ : Entry)) rfl rfl rfl (by kernel_rfl) ?_
  refine Zbf (b := bxB 109 (Zdd (⟨0, 0, 0, ⟨#[]⟩, (⟨(⟨0, 0, 0, dz, 0⟩ : Head), 0, dz⟩ : Signed), (⟨0, 0, 0, 0, dz⟩ : Claim)⟩ : Entry))) (nid := 1) (H' := [bxB 109 (Zdd e), bxB 109 (Zdd (⟨0, 0, 0, ⟨#[]⟩, (⟨(⟨0, 0, 0, dz, 0⟩ : Head), 0, dz⟩ : Signed), (⟨0, 0, 0, 0, dz⟩ : Claim)⟩ : Entry))]) (Z5 (p := pt 1 0) (v := Zdg (⟨e.kind, 0, 0, ⟨#[]⟩, (⟨(⟨0, 0, 0, dz, 0⟩ : Head), 0, dz⟩ : Signed), (⟨0, 0, 0, 0, dz⟩ : Claim)⟩ : Entry)) (b := 1) (blk := bxB 109 (Zdd (⟨e.kind, 0, 0, ⟨#[]⟩, (⟨(⟨0, 0, 0, dz, 0⟩ : Head), 0, dz⟩ : Signed), (⟨0, 0, 0, 0, dz⟩ : Claim)⟩ : Entry))) (H' := [bxB 109 (Zdd e), bxB 109 (Zdd (⟨e.kind, 0, 0, ⟨#[]⟩, (⟨(⟨0, 0, 0, dz, 0⟩ : Head), 0, dz⟩ : Signed), (⟨0, 0, 0, 0, dz⟩ : Claim)⟩ : Entry))]) (Zd (Ze (Zi (Zm (Zc (.bool false) (Zd (Ze (Zi (Zi (Zm (Zf (b := 0) (o := 0) (n := 0) (o' := 0) (Zl (p := pt 0 0) (v := Iv e.kind) (Zd (Ze (Zav (Zi (Zm ?_))))))))))))))))))
  by_cases h1 : e.kind = 1
  refine Zn (vx := Iv e.kind) (vy := Iv 1) rfl rfl (.bool true) rfl rfl (Zaj (by omega)) ?_
  refine Zc (.bool true) (Zd (Ze (Z4 rfl (Zi ?_))))
  refine Zek (by kernel_rfl) ?_
  refine Zf (b := 0) (o := 0) (n := 1) (o' := 1) (Zl (p := pt 0 1) (v := Iv e.client) (Zf (b := 0) (o := 0) (n := 2) (o' := 2) (Zl (p := pt 0 2) (v := Iv e.seq) (Zf (b := 0) (o := 0) (n := 3) (o' := 3) (Zl (p := pt 0 3) (v := .string e.text) (Zf (b := 1) (o := 0) (n := 1) (o' := 1) (Z5 (p := pt 1 1) (v := Iv e.client) (b := 1) (blk := bxB 109 (Zdd (⟨e.kind, e.client, 0, ⟨#[]⟩, (⟨(⟨0, 0, 0, dz, 0⟩ : Head), 0, dz⟩ : Signed), (⟨0, 0, 0, 0, dz⟩ : Claim)⟩ : Entry))) (H' := [bxB 109 (Zdd e), bxB 109 (Zdd (⟨e.kind, e.client, 0, ⟨#[]⟩, (⟨(⟨0, 0, 0, dz, 0⟩ : Head), 0, dz⟩ : Signed), (⟨0, 0, 0, 0, dz⟩ : Claim)⟩ : Entry))]) (Zf (b := 1) (o := 0) (n := 2) (o' := 2) (Z5 (p := pt 1 2) (v := Iv e.seq) (b := 1) (blk := bxB 109 (Zdd (⟨e.kind, e.client, e.seq, ⟨#[]⟩, (⟨(⟨0, 0, 0, dz, 0⟩ : Head), 0, dz⟩ : Signed), (⟨0, 0, 0, 0, dz⟩ : Claim)⟩ : Entry))) (H' := [bxB 109 (Zdd e), bxB 109 (Zdd (⟨e.kind, e.client, e.seq, ⟨#[]⟩, (⟨(⟨0, 0, 0, dz, 0⟩ : Head), 0, dz⟩ : Signed), (⟨0, 0, 0, 0, dz⟩ : Claim)⟩ : Entry))]) (Zf (b := 1) (o := 0) (n := 3) (o' := 3) (Z5 (p := pt 1 3) (v := .string e.text) (b := 1) (blk := bxB 109 (Zdd (⟨e.kind, e.client, e.seq, e.text, (⟨(⟨0, 0, 0, dz, 0⟩ : Head), 0, dz⟩ : Signed), (⟨0, 0, 0, 0, dz⟩ : Claim)⟩ : Entry))) (H' := [bxB 109 (Zdd e), bxB 109 (Zdd (⟨e.kind, e.client, e.seq, e.text, (⟨(⟨0, 0, 0, dz, 0⟩ : Head), 0, dz⟩ : Signed), (⟨0, 0, 0, 0, dz⟩ : Claim)⟩ : Entry))]) ?_)))))))))))
  refine Zbv (Za4 [[], [0], [], [2], [], [4], [0, 1], [0, 1, 6], [0, 1, 2, 3, 6, 7], [0, 1, 2, 3, 6, 7, 8], [0, 1, 2, 3, 4, 5, 6, 7, 8, 9], [0, 1, 2, 3, 4, 5, 6, 7, 8, 9, 10]] (by kernel_rfl) (by kernel_rfl)) ?_
  refine Ze (Zm (Zf (b := 1) (o := 0) (n := 1) (o' := 1) (Zl (p := pt 1 1) (v := Iv e.client) ?_)))
  by_cases h2 : 1 ≤ e.client
  by_cases h3 : e.client ≤ 3
  refine Zw ((Zbu (G := G) e.client 1 3).res (congrArg Value.bool (Zak (by omega) (by omega)))) (vals := [Iv e.client, Iv 1, Iv 3]) (res' := .bool true) rfl rfl rfl rfl rfl rfl ?_
  refine Zb (.bool true) (Zf (b := 1) (o := 0) (n := 2) (o' := 2) (Zl (p := pt 1 2) (v := Iv e.seq) ?_))
  by_cases h4 : 1 ≤ e.seq
  by_cases h5 : e.seq ≤ 1000000
  refine Zw ((Zbu (G := G) e.seq 1 1000000).res (congrArg Value.bool (Zak (by omega) (by omega)))) (vals := [Iv e.seq, Iv 1, Iv 1000000]) (res' := .bool true) rfl rfl rfl rfl rfl rfl ?_
  refine Zg (.bool true) (Zb (.bool true) (Zf (b := 1) (o := 0) (n := 3) (o' := 3) (Zl (p := pt 1 3) (v := .string e.text) (Zbg (p := .string e.text) (v := Iv (e.text.size : Nat)) ?_))))
  by_cases h6 : (e.text.size : Nat) ≤ 200
  refine Zn (vx := Iv (e.text.size : Nat)) (vy := Iv 200) rfl rfl (.bool true) rfl rfl (Zjn (by omega)) ?_
  refine Zg (.bool true) (Zc (.bool true) (Zd (Z7 (Ze (Zi (Zm (Zb (.bool true) (Zb (.bool true) (Zl (p := pt 1 0) (v := Zdg (⟨e.kind, e.client, e.seq, e.text, (⟨(⟨0, 0, 0, dz, 0⟩ : Head), 0, dz⟩ : Signed), (⟨0, 0, 0, 0, dz⟩ : Claim)⟩ : Entry)) (Zl (p := pt 0 0) (v := Zdg e) ?_))))))))))
  rcases Bool.eq_false_or_eq_true (Zgi (⟨e.kind, e.client, e.seq, e.text, (⟨(⟨0, 0, 0, dz, 0⟩ : Head), 0, dz⟩ : Signed), (⟨0, 0, 0, 0, dz⟩ : Claim)⟩ : Entry) e) with h7 | h7
  refine Zn (vx := Zdg (⟨e.kind, e.client, e.seq, e.text, (⟨(⟨0, 0, 0, dz, 0⟩ : Head), 0, dz⟩ : Signed), (⟨0, 0, 0, 0, dz⟩ : Claim)⟩ : Entry)) (vy := Zdg e) rfl rfl (.bool true) rfl rfl (Eq.trans (Zgs (⟨e.kind, e.client, e.seq, e.text, (⟨(⟨0, 0, 0, dz, 0⟩ : Head), 0, dz⟩ : Signed), (⟨0, 0, 0, 0, dz⟩ : Claim)⟩ : Entry) e) (by rw [h7] <;> rfl)) ?_
  refine Zg (.bool true) ?_
  refine Zw (Zcn (G := G) true) (vals := [.bool true]) (res' := Iv 0) rfl rfl rfl rfl rfl rfl ?_
  refine Zc (Iv 0) (Zd (Ze (Zs (Zq ?_))))
  rw [show Zf4 e = 0 from if_pos ((Zcl e).2 (by first | exact .inl ⟨by omega, by omega, by omega, by omega, by omega, by omega, by assumption⟩ | exact .inr (.inl ⟨by omega, by omega, by omega, by omega, by assumption⟩) | exact .inr (.inr ⟨by omega, by omega, by assumption⟩)))]
  exact Zk (v := Iv 0) rfl rfl rfl (by kernel_rfl) rfl
  refine Zn (vx := Zdg (⟨e.kind, e.client, e.seq, e.text, (⟨(⟨0, 0, 0, dz, 0⟩ : Head), 0, dz⟩ : Signed), (⟨0, 0, 0, 0, dz⟩ : Claim)⟩ : Entry)) (vy := Zdg e) rfl rfl (.bool false) rfl rfl (Eq.trans (Zgs (⟨e.kind, e.client, e.seq, e.text, (⟨(⟨0, 0, 0, dz, 0⟩ : Head), 0, dz⟩ : Signed), (⟨0, 0, 0, 0, dz⟩ : Claim)⟩ : Entry) e) (by rw [h7] <;> rfl)) ?_
  refine Zg (.bool false) ?_
  refine Zw (Zcn (G := G) false) (vals := [.bool false]) (res' := Iv 60) rfl rfl rfl rfl rfl rfl ?_
  refine Zc (Iv 60) (Zd (Ze (Zs (Zq ?_))))
  rw [show Zf4 e = 60 from if_neg (fun q => by rcases (Zcl e).1 q with q | q | q <;> first | omega | (exact absurd (by first | exact q.2.2.2.2.2.2 | exact q.2.2.2.2 | exact q.2.2) (Bool.eq_false_iff.1 (by assumption))))]
  exact Zk (v := Iv 60) rfl rfl rfl (by kernel_rfl) rfl
  refine Zn (vx := Iv (e.text.size : Nat)) (vy := Iv 200) rfl rfl (.bool false) rfl rfl (Zjm (by omega)) ?_
  refine Zg (.bool false) (Zc (.bool false) (Zd (Z7 (Ze (Zi (Zm (Zb (.bool false) (Zb (.bool false) (Za (Za (Za (Zg (.bool false) ?_))))))))))))
  refine Zw (Zcn (G := G) false) (vals := [.bool false]) (res' := Iv 60) rfl rfl rfl rfl rfl rfl ?_
  refine Zc (Iv 60) (Zd (Ze (Zs (Zq ?_))))
  rw [show Zf4 e = 60 from if_neg (fun q => by rcases (Zcl e).1 q with q | q | q <;> first | omega | (exact absurd (by first | exact q.2.2.2.2.2.2 | exact q.2.2.2.2 | exact q.2.2) (Bool.eq_false_iff.1 (by assumption))))]
  exact Zk (v := Iv 60) rfl rfl rfl (by kernel_rfl) rfl
  refine Zw ((Zbu (G := G) e.seq 1 1000000).res (congrArg Value.bool (Z2 (by omega)))) (vals := [Iv e.seq, Iv 1, Iv 1000000]) (res' := .bool false) rfl rfl rfl rfl rfl rfl ?_
  refine Zg (.bool false) (Zb (.bool false) (Za (Za (Za (Za (Zg (.bool false) (Zc (.bool false) (Zd (Z7 (Ze (Zi (Zm (Zb (.bool false) (Zb (.bool false) (Za (Za (Za (Zg (.bool false) ?_))))))))))))))))))
  refine Zw (Zcn (G := G) false) (vals := [.bool false]) (res' := Iv 60) rfl rfl rfl rfl rfl rfl ?_
  refine Zc (Iv 60) (Zd (Ze (Zs (Zq ?_))))
  rw [show Zf4 e = 60 from if_neg (fun q => by rcases (Zcl e).1 q with q | q | q <;> first | omega | (exact absurd (by first | exact q.2.2.2.2.2.2 | exact q.2.2.2.2 | exact q.2.2) (Bool.eq_false_iff.1 (by assumption))))]
  exact Zk (v := Iv 60) rfl rfl rfl (by kernel_rfl) rfl
  refine Zw ((Zbu (G := G) e.seq 1 1000000).res (congrArg Value.bool (Z2 (by omega)))) (vals := [Iv e.seq, Iv 1, Iv 1000000]) (res' := .bool false) rfl rfl rfl rfl rfl rfl ?_
  refine Zg (.bool false) (Zb (.bool false) (Za (Za (Za (Za (Zg (.bool false) (Zc (.bool false) (Zd (Z7 (Ze (Zi (Zm (Zb (.bool false) (Zb (.bool false) (Za (Za (Za (Zg (.bool false) ?_))))))))))))))))))
  refine Zw (Zcn (G := G) false) (vals := [.bool false]) (res' := Iv 60) rfl rfl rfl rfl rfl rfl ?_
  refine Zc (Iv 60) (Zd (Ze (Zs (Zq ?_))))
  rw [show Zf4 e = 60 from if_neg (fun q => by rcases (Zcl e).1 q with q | q | q <;> first | omega | (exact absurd (by first | exact q.2.2.2.2.2.2 | exact q.2.2.2.2 | exact q.2.2) (Bool.eq_false_iff.1 (by assumption))))]
  exact Zk (v := Iv 60) rfl rfl rfl (by kernel_rfl) rfl
  refine Zw ((Zbu (G := G) e.client 1 3).res (congrArg Value.bool (Z2 (by omega)))) (vals := [Iv e.client, Iv 1, Iv 3]) (res' := .bool false) rfl rfl rfl rfl rfl rfl ?_
  refine Zb (.bool false) (Za (Za (Za (Zg (.bool false) (Zb (.bool false) (Za (Za (Za (Za (Zg (.bool false) (Zc (.bool false) (Zd (Z7 (Ze (Zi (Zm (Zb (.bool false) (Zb (.bool false) (Za (Za (Za (Zg (.bool false) ?_))))))))))))))))))))))
  refine Zw (Zcn (G := G) false) (vals := [.bool false]) (res' := Iv 60) rfl rfl rfl rfl rfl rfl ?_
  refine Zc (Iv 60) (Zd (Ze (Zs (Zq ?_))))
  rw [show Zf4 e = 60 from if_neg (fun q => by rcases (Zcl e).1 q with q | q | q <;> first | omega | (exact absurd (by first | exact q.2.2.2.2.2.2 | exact q.2.2.2.2 | exact q.2.2) (Bool.eq_false_iff.1 (by assumption))))]
  exact Zk (v := Iv 60) rfl rfl rfl (by kernel_rfl) rfl
  refine Zw ((Zbu (G := G) e.client 1 3).res (congrArg Value.bool (Z2 (by omega)))) (vals := [Iv e.client, Iv 1, Iv 3]) (res' := .bool false) rfl rfl rfl rfl rfl rfl ?_
  refine Zb (.bool false) (Za (Za (Za (Zg (.bool false) (Zb (.bool false) (Za (Za (Za (Za (Zg (.bool false) (Zc (.bool false) (Zd (Z7 (Ze (Zi (Zm (Zb (.bool false) (Zb (.bool false) (Za (Za (Za (Zg (.bool false) ?_))))))))))))))))))))))
  refine Zw (Zcn (G := G) false) (vals := [.bool false]) (res' := Iv 60) rfl rfl rfl rfl rfl rfl ?_
  refine Zc (Iv 60) (Zd (Ze (Zs (Zq ?_))))
  rw [show Zf4 e = 60 from if_neg (fun q => by rcases (Zcl e).1 q with q | q | q <;> first | omega | (exact absurd (by first | exact q.2.2.2.2.2.2 | exact q.2.2.2.2 | exact q.2.2) (Bool.eq_false_iff.1 (by assumption))))]
  exact Zk (v := Iv 60) rfl rfl rfl (by kernel_rfl) rfl
  refine Zn (vx := Iv e.kind) (vy := Iv 1) rfl rfl (.bool false) rfl rfl (Zaq (by omega)) ?_
  refine Zc (.bool false) (Zd (Ze (Zz rfl (Zi (Zm ?_)))))
  by_cases h8 : e.kind = 2
  refine Zn (vx := Iv e.kind) (vy := Iv 2) rfl rfl (.bool true) rfl rfl (Zaj (by omega)) ?_
  refine Zc (.bool true) (Zd (Ze (Z4 rfl (Zi (Zm (Zf (b := 0) (o := 0) (n := 4) (o' := 4) (Zl (p := pt 0 4) (v := Zcu e.head) (Zf (b := 1) (o := 0) (n := 4) (o' := 4) (Z5 (p := pt 1 4) (v := Zcu e.head) (b := 1) (blk := bxB 109 (Zdd (⟨e.kind, 0, 0, ⟨#[]⟩, e.head, (⟨0, 0, 0, 0, dz⟩ : Claim)⟩ : Entry))) (H' := [bxB 109 (Zdd e), bxB 109 (Zdd (⟨e.kind, 0, 0, ⟨#[]⟩, e.head, (⟨0, 0, 0, 0, dz⟩ : Claim)⟩ : Entry))]) (Zd (Ze (Zm (Zf (b := 1) (o := 0) (n := 4) (o' := 4) (Zf (b := 1) (o := 4) (n := 0) (o' := 4) (Zl (p := pt 1 4) (v := Zid e.head.head) ?_)))))))))))))))
  refine Zw (Zvk (G := G) e.head.head) (vals := [Zid e.head.head]) (res' := Iv (Zcv e.head.head)) rfl rfl rfl rfl rfl rfl ?_
  by_cases h9 : (Zcv e.head.head) = 0
  refine Zn (vx := Iv (Zcv e.head.head)) (vy := Iv 0) rfl rfl (.bool true) rfl rfl (Zaj (by omega)) ?_
  refine Zb (.bool true) (Zf (b := 1) (o := 0) (n := 4) (o' := 4) (Zf (b := 1) (o := 4) (n := 36) (o' := 40) (Zl (p := pt 1 40) (v := Iv e.head.node) ?_)))
  by_cases h10 : 1 ≤ e.head.node
  by_cases h11 : e.head.node ≤ 3
  refine Zw ((Zbu (G := G) e.head.node 1 3).res (congrArg Value.bool (Zak (by omega) (by omega)))) (vals := [Iv e.head.node, Iv 1, Iv 3]) (res' := .bool true) rfl rfl rfl rfl rfl rfl ?_
  refine Zg (.bool true) (Zc (.bool true) (Zd (Z7 (Ze (Zi (Zm (Zb (.bool true) (Zb (.bool true) (Zl (p := pt 1 0) (v := Zdg (⟨e.kind, 0, 0, ⟨#[]⟩, e.head, (⟨0, 0, 0, 0, dz⟩ : Claim)⟩ : Entry)) (Zl (p := pt 0 0) (v := Zdg e) ?_))))))))))
  rcases Bool.eq_false_or_eq_true (Zgi (⟨e.kind, 0, 0, ⟨#[]⟩, e.head, (⟨0, 0, 0, 0, dz⟩ : Claim)⟩ : Entry) e) with h12 | h12
  refine Zn (vx := Zdg (⟨e.kind, 0, 0, ⟨#[]⟩, e.head, (⟨0, 0, 0, 0, dz⟩ : Claim)⟩ : Entry)) (vy := Zdg e) rfl rfl (.bool true) rfl rfl (Eq.trans (Zgs (⟨e.kind, 0, 0, ⟨#[]⟩, e.head, (⟨0, 0, 0, 0, dz⟩ : Claim)⟩ : Entry) e) (by rw [h12] <;> rfl)) ?_
  refine Zg (.bool true) ?_
  refine Zw (Zcn (G := G) true) (vals := [.bool true]) (res' := Iv 0) rfl rfl rfl rfl rfl rfl ?_
  refine Zc (Iv 0) (Zd (Ze (Zs (Zq ?_))))
  rw [show Zf4 e = 0 from if_pos ((Zcl e).2 (by first | exact .inl ⟨by omega, by omega, by omega, by omega, by omega, by omega, by assumption⟩ | exact .inr (.inl ⟨by omega, by omega, by omega, by omega, by assumption⟩) | exact .inr (.inr ⟨by omega, by omega, by assumption⟩)))]
  exact Zk (v := Iv 0) rfl rfl rfl (by kernel_rfl) rfl
  refine Zn (vx := Zdg (⟨e.kind, 0, 0, ⟨#[]⟩, e.head, (⟨0, 0, 0, 0, dz⟩ : Claim)⟩ : Entry)) (vy := Zdg e) rfl rfl (.bool false) rfl rfl (Eq.trans (Zgs (⟨e.kind, 0, 0, ⟨#[]⟩, e.head, (⟨0, 0, 0, 0, dz⟩ : Claim)⟩ : Entry) e) (by rw [h12] <;> rfl)) ?_
  refine Zg (.bool false) ?_
  refine Zw (Zcn (G := G) false) (vals := [.bool false]) (res' := Iv 60) rfl rfl rfl rfl rfl rfl ?_
  refine Zc (Iv 60) (Zd (Ze (Zs (Zq ?_))))
  rw [show Zf4 e = 60 from if_neg (fun q => by rcases (Zcl e).1 q with q | q | q <;> first | omega | (exact absurd (by first | exact q.2.2.2.2.2.2 | exact q.2.2.2.2 | exact q.2.2) (Bool.eq_false_iff.1 (by assumption))))]
  exact Zk (v := Iv 60) rfl rfl rfl (by kernel_rfl) rfl
  refine Zw ((Zbu (G := G) e.head.node 1 3).res (congrArg Value.bool (Z2 (by omega)))) (vals := [Iv e.head.node, Iv 1, Iv 3]) (res' := .bool false) rfl rfl rfl rfl rfl rfl ?_
  refine Zg (.bool false) (Zc (.bool false) (Zd (Z7 (Ze (Zi (Zm (Zb (.bool false) (Zb (.bool false) (Za (Za (Za (Zg (.bool false) ?_))))))))))))
  refine Zw (Zcn (G := G) false) (vals := [.bool false]) (res' := Iv 60) rfl rfl rfl rfl rfl rfl ?_
  refine Zc (Iv 60) (Zd (Ze (Zs (Zq ?_))))
  rw [show Zf4 e = 60 from if_neg (fun q => by rcases (Zcl e).1 q with q | q | q <;> first | omega | (exact absurd (by first | exact q.2.2.2.2.2.2 | exact q.2.2.2.2 | exact q.2.2) (Bool.eq_false_iff.1 (by assumption))))]
  exact Zk (v := Iv 60) rfl rfl rfl (by kernel_rfl) rfl
  refine Zw ((Zbu (G := G) e.head.node 1 3).res (congrArg Value.bool (Z2 (by omega)))) (vals := [Iv e.head.node, Iv 1, Iv 3]) (res' := .bool false) rfl rfl rfl rfl rfl rfl ?_
  refine Zg (.bool false) (Zc (.bool false) (Zd (Z7 (Ze (Zi (Zm (Zb (.bool false) (Zb (.bool false) (Za (Za (Za (Zg (.bool false) ?_))))))))))))
  refine Zw (Zcn (G := G) false) (vals := [.bool false]) (res' := Iv 60) rfl rfl rfl rfl rfl rfl ?_
  refine Zc (Iv 60) (Zd (Ze (Zs (Zq ?_))))
  rw [show Zf4 e = 60 from if_neg (fun q => by rcases (Zcl e).1 q with q | q | q <;> first | omega | (exact absurd (by first | exact q.2.2.2.2.2.2 | exact q.2.2.2.2 | exact q.2.2) (Bool.eq_false_iff.1 (by assumption))))]
  exact Zk (v := Iv 60) rfl rfl rfl (by kernel_rfl) rfl
  refine Zn (vx := Iv (Zcv e.head.head)) (vy := Iv 0) rfl rfl (.bool false) rfl rfl (Zaq (by omega)) ?_
  refine Zb (.bool false) (Za (Za (Za (Za (Zg (.bool false) (Zc (.bool false) (Zd (Z7 (Ze (Zi (Zm (Zb (.bool false) (Zb (.bool false) (Za (Za (Za (Zg (.bool false) ?_)))))))))))))))))
  refine Zw (Zcn (G := G) false) (vals := [.bool false]) (res' := Iv 60) rfl rfl rfl rfl rfl rfl ?_
  refine Zc (Iv 60) (Zd (Ze (Zs (Zq ?_))))
  rw [show Zf4 e = 60 from if_neg (fun q => by rcases (Zcl e).1 q with q | q | q <;> first | omega | (exact absurd (by first | exact q.2.2.2.2.2.2 | exact q.2.2.2.2 | exact q.2.2) (Bool.eq_false_iff.1 (by assumption))))]
  exact Zk (v := Iv 60) rfl rfl rfl (by kernel_rfl) rfl
  refine Zn (vx := Iv e.kind) (vy := Iv 2) rfl rfl (.bool false) rfl rfl (Zaq (by omega)) ?_
  refine Zc (.bool false) (Zd (Ze (Zz rfl (Zi (Zm ?_)))))
  by_cases h13 : e.kind = 3
  refine Zn (vx := Iv e.kind) (vy := Iv 3) rfl rfl (.bool true) rfl rfl (Zaj (by omega)) ?_
  refine Zc (.bool true) (Zd (Ze (Z4 rfl (Zi (Zm (Zf (b := 0) (o := 0) (n := 73) (o' := 73) (Zl (p := pt 0 73) (v := Zx e.claim) (Zf (b := 1) (o := 0) (n := 73) (o' := 73) (Z5 (p := pt 1 73) (v := Zx e.claim) (b := 1) (blk := bxB 109 (Zdd (⟨e.kind, 0, 0, ⟨#[]⟩, (⟨(⟨0, 0, 0, dz, 0⟩ : Head), 0, dz⟩ : Signed), e.claim⟩ : Entry))) (H' := [bxB 109 (Zdd e), bxB 109 (Zdd (⟨e.kind, 0, 0, ⟨#[]⟩, (⟨(⟨0, 0, 0, dz, 0⟩ : Head), 0, dz⟩ : Signed), e.claim⟩ : Entry))]) (Zd (Ze (Zm (Zf (b := 1) (o := 0) (n := 73) (o' := 73) (Zl (p := pt 1 73) (v := Zx e.claim) ?_))))))))))))))
  refine Zw (Zhd (G := G) e.claim) (vals := [Zx e.claim]) (res' := Iv (Ze6 e.claim)) rfl rfl rfl rfl rfl rfl ?_
  by_cases h14 : (Ze6 e.claim) = 0
  refine Zn (vx := Iv (Ze6 e.claim)) (vy := Iv 0) rfl rfl (.bool true) rfl rfl (Zaj (by omega)) ?_
  refine Zc (.bool true) (Zd (Z7 (Ze (Zi (Zm (Zb (.bool true) (Zb (.bool true) (Zl (p := pt 1 0) (v := Zdg (⟨e.kind, 0, 0, ⟨#[]⟩, (⟨(⟨0, 0, 0, dz, 0⟩ : Head), 0, dz⟩ : Signed), e.claim⟩ : Entry)) (Zl (p := pt 0 0) (v := Zdg e) ?_)))))))))
  rcases Bool.eq_false_or_eq_true (Zgi (⟨e.kind, 0, 0, ⟨#[]⟩, (⟨(⟨0, 0, 0, dz, 0⟩ : Head), 0, dz⟩ : Signed), e.claim⟩ : Entry) e) with h15 | h15
  refine Zn (vx := Zdg (⟨e.kind, 0, 0, ⟨#[]⟩, (⟨(⟨0, 0, 0, dz, 0⟩ : Head), 0, dz⟩ : Signed), e.claim⟩ : Entry)) (vy := Zdg e) rfl rfl (.bool true) rfl rfl (Eq.trans (Zgs (⟨e.kind, 0, 0, ⟨#[]⟩, (⟨(⟨0, 0, 0, dz, 0⟩ : Head), 0, dz⟩ : Signed), e.claim⟩ : Entry) e) (by rw [h15] <;> rfl)) ?_
  refine Zg (.bool true) ?_
  refine Zw (Zcn (G := G) true) (vals := [.bool true]) (res' := Iv 0) rfl rfl rfl rfl rfl rfl ?_
  refine Zc (Iv 0) (Zd (Ze (Zs (Zq ?_))))
  rw [show Zf4 e = 0 from if_pos ((Zcl e).2 (by first | exact .inl ⟨by omega, by omega, by omega, by omega, by omega, by omega, by assumption⟩ | exact .inr (.inl ⟨by omega, by omega, by omega, by omega, by assumption⟩) | exact .inr (.inr ⟨by omega, by omega, by assumption⟩)))]
  exact Zk (v := Iv 0) rfl rfl rfl (by kernel_rfl) rfl
  refine Zn (vx := Zdg (⟨e.kind, 0, 0, ⟨#[]⟩, (⟨(⟨0, 0, 0, dz, 0⟩ : Head), 0, dz⟩ : Signed), e.claim⟩ : Entry)) (vy := Zdg e) rfl rfl (.bool false) rfl rfl (Eq.trans (Zgs (⟨e.kind, 0, 0, ⟨#[]⟩, (⟨(⟨0, 0, 0, dz, 0⟩ : Head), 0, dz⟩ : Signed), e.claim⟩ : Entry) e) (by rw [h15] <;> rfl)) ?_
  refine Zg (.bool false) ?_
  refine Zw (Zcn (G := G) false) (vals := [.bool false]) (res' := Iv 60) rfl rfl rfl rfl rfl rfl ?_
  refine Zc (Iv 60) (Zd (Ze (Zs (Zq ?_))))
  rw [show Zf4 e = 60 from if_neg (fun q => by rcases (Zcl e).1 q with q | q | q <;> first | omega | (exact absurd (by first | exact q.2.2.2.2.2.2 | exact q.2.2.2.2 | exact q.2.2) (Bool.eq_false_iff.1 (by assumption))))]
  exact Zk (v := Iv 60) rfl rfl rfl (by kernel_rfl) rfl
  refine Zn (vx := Iv (Ze6 e.claim)) (vy := Iv 0) rfl rfl (.bool false) rfl rfl (Zaq (by omega)) ?_
  refine Zc (.bool false) (Zd (Z7 (Ze (Zi (Zm (Zb (.bool false) (Zb (.bool false) (Za (Za (Za (Zg (.bool false) ?_)))))))))))
  refine Zw (Zcn (G := G) false) (vals := [.bool false]) (res' := Iv 60) rfl rfl rfl rfl rfl rfl ?_
  refine Zc (Iv 60) (Zd (Ze (Zs (Zq ?_))))
  rw [show Zf4 e = 60 from if_neg (fun q => by rcases (Zcl e).1 q with q | q | q <;> first | omega | (exact absurd (by first | exact q.2.2.2.2.2.2 | exact q.2.2.2.2 | exact q.2.2) (Bool.eq_false_iff.1 (by assumption))))]
  exact Zk (v := Iv 60) rfl rfl rfl (by kernel_rfl) rfl
  refine Zn (vx := Iv e.kind) (vy := Iv 3) rfl rfl (.bool false) rfl rfl (Zaq (by omega)) ?_
  refine Zc (.bool false) (Zd (Ze (Zz rfl (Z9 (Z7 (Ze (Zi (Zm (Zb (.bool false) (Zb (.bool false) (Za (Za (Za (Zg (.bool false) ?_))))))))))))))
  refine Zw (Zcn (G := G) false) (vals := [.bool false]) (res' := Iv 60) rfl rfl rfl rfl rfl rfl ?_
  refine Zc (Iv 60) (Zd (Ze (Zs (Zq ?_))))
  rw [show Zf4 e = 60 from if_neg (fun q => by rcases (Zcl e).1 q with q | q | q <;> first | omega | (exact absurd (by first | exact q.2.2.2.2.2.2 | exact q.2.2.2.2 | exact q.2.2) (Bool.eq_false_iff.1 (by assumption))))]
  exact Zk (v := Iv 60) rfl rfl rfl (by kernel_rfl) rfl
theorem Zp2 (e : Entry) : Zat Try.prog G 63 [Zdg e] [] (.bool (decide (Zck e))) [] := by
  refine Zcg (fn := Try.f63) (nt := 85) rfl rfl rfl rfl ?_
  refine Za8 1 (H' := [hole]) rfl ?_
  refine Zi (Zm (Zbn (v := Zdg e) (b := bxB 109 (Zdd e)) (nid := 0) (H' := [bxB 109 (Zdd e)]) (Zc (.bool false) (Zd (Ze (Zi (Zi (Zm (Zf (b := 0) (o := 0) (n := 0) (o' := 0) (Zl (p := pt 0 0) (v := Iv e.kind) (Zd (Ze (Zav (Zi (Zm ?_)))))))))))))))
  by_cases h1 : e.kind = 1
  refine Zn (vx := Iv e.kind) (vy := Iv 1) rfl rfl (.bool true) rfl rfl (Zaj (by omega)) ?_
  refine Zc (.bool true) (Zd (Ze (Z4 rfl (Zi (Zm (Zf (b := 0) (o := 0) (n := 1) (o' := 1) (Zl (p := pt 0 1) (v := Iv e.client) ?_)))))))
  by_cases h2 : 1 ≤ e.client
  by_cases h3 : e.client ≤ 3
  refine Zw ((Zbk (G := G) e.client 1 3).res (congrArg Value.bool (Zak (by omega) (by omega)))) (vals := [Iv e.client, Iv 1, Iv 3]) (res' := .bool true) rfl rfl rfl rfl rfl rfl ?_
  refine Zb (.bool true) (Zf (b := 0) (o := 0) (n := 2) (o' := 2) (Zl (p := pt 0 2) (v := Iv e.seq) ?_))
  by_cases h4 : 1 ≤ e.seq
  by_cases h5 : e.seq ≤ 1000000
  refine Zw ((Zbk (G := G) e.seq 1 1000000).res (congrArg Value.bool (Zak (by omega) (by omega)))) (vals := [Iv e.seq, Iv 1, Iv 1000000]) (res' := .bool true) rfl rfl rfl rfl rfl rfl ?_
  refine Zg (.bool true) (Zb (.bool true) (Zf (b := 0) (o := 0) (n := 3) (o' := 3) (Zl (p := pt 0 3) (v := .string e.text) (Zbg (p := .string e.text) (v := Iv (e.text.size : Nat)) ?_))))
  by_cases h6 : (e.text.size : Nat) ≤ 200
  refine Zn (vx := Iv (e.text.size : Nat)) (vy := Iv 200) rfl rfl (.bool true) rfl rfl (Zjn (by omega)) ?_
  refine Zg (.bool true) (Zb (.bool true) (Zf (b := 0) (o := 0) (n := 4) (o' := 4) (Zl (p := pt 0 4) (v := Zcu e.head) ?_)))
  refine Za0 (vs := []) (v := Zcu (⟨(⟨0, 0, 0, dz, 0⟩ : Head), 0, dz⟩ : Signed)) rfl rfl rfl (by kernel_rfl) ?_
  rcases Bool.eq_false_or_eq_true (Zee e.head (⟨(⟨0, 0, 0, dz, 0⟩ : Head), 0, dz⟩ : Signed)) with h7 | h7
  refine Zn (vx := Zcu e.head) (vy := Zcu (⟨(⟨0, 0, 0, dz, 0⟩ : Head), 0, dz⟩ : Signed)) rfl rfl (.bool true) rfl rfl (Eq.trans (Zhx e.head (⟨(⟨0, 0, 0, dz, 0⟩ : Head), 0, dz⟩ : Signed)) (by rw [h7] <;> rfl)) ?_
  refine Zg (.bool true) (Zb (.bool true) (Zf (b := 0) (o := 0) (n := 73) (o' := 73) (Zl (p := pt 0 73) (v := Zx e.claim) ?_)))
  refine Za0 (vs := []) (v := Zx (⟨0, 0, 0, 0, dz⟩ : Claim)) rfl rfl rfl (by kernel_rfl) ?_
  rcases Bool.eq_false_or_eq_true (Zu e.claim (⟨0, 0, 0, 0, dz⟩ : Claim)) with h8 | h8
  refine Zn (vx := Zx e.claim) (vy := Zx (⟨0, 0, 0, 0, dz⟩ : Claim)) rfl rfl (.bool true) rfl rfl (Eq.trans (Zb8 e.claim (⟨0, 0, 0, 0, dz⟩ : Claim)) (by rw [h8] <;> rfl)) ?_
  refine Zg (.bool true) (Zc (.bool true) (Zd (Ze (Zs (Zy (Zv (Zq ?_)))))))
  rw [show decide (Zck e) = true from decide_eq_true (by first | exact .inl ⟨by omega, by omega, by omega, by omega, by omega, by omega, by assumption, by assumption⟩ | exact .inr (.inl ⟨by omega, by omega, by omega, (Zbx _ _).1 (by assumption), of_decide_eq_true (by assumption), by assumption⟩) | exact .inr (.inr ⟨by omega, by omega, by omega, (Zbx _ _).1 (by assumption), by assumption, of_decide_eq_true (by assumption)⟩))]
  exact Zk (v := .bool true) rfl rfl rfl (by kernel_rfl) rfl
  refine Zn (vx := Zx e.claim) (vy := Zx (⟨0, 0, 0, 0, dz⟩ : Claim)) rfl rfl (.bool false) rfl rfl (Eq.trans (Zb8 e.claim (⟨0, 0, 0, 0, dz⟩ : Claim)) (by rw [h8] <;> rfl)) ?_
  refine Zg (.bool false) (Zc (.bool false) (Zd (Ze (Zs (Zy (Zv (Zq ?_)))))))
  rw [show decide (Zck e) = false from decide_eq_false (fun q => by rcases q with ⟨q1, q2, q3, q4, q5, q6, q7, q8⟩ | ⟨q1, q2, q3, q4, q5, q6⟩ | ⟨q1, q2, q3, q4, q5, q6⟩ <;> first | omega | (exact absurd ((Zbx _ _).2 q4) (by rw [‹Zey _ _ = false›]; decide)) | (simp [*] at *; done) | (simp_all; done))]
  exact Zk (v := .bool false) rfl rfl rfl (by kernel_rfl) rfl
  refine Zn (vx := Zcu e.head) (vy := Zcu (⟨(⟨0, 0, 0, dz, 0⟩ : Head), 0, dz⟩ : Signed)) rfl rfl (.bool false) rfl rfl (Eq.trans (Zhx e.head (⟨(⟨0, 0, 0, dz, 0⟩ : Head), 0, dz⟩ : Signed)) (by rw [h7] <;> rfl)) ?_
  refine Zg (.bool false) (Zb (.bool false) (Za (Za (Za (Za (Zg (.bool false) (Zc (.bool false) (Zd (Ze (Zs (Zy (Zv (Zq ?_)))))))))))))
  rw [show decide (Zck e) = false from decide_eq_false (fun q => by rcases q with ⟨q1, q2, q3, q4, q5, q6, q7, q8⟩ | ⟨q1, q2, q3, q4, q5, q6⟩ | ⟨q1, q2, q3, q4, q5, q6⟩ <;> first | omega | (exact absurd ((Zbx _ _).2 q4) (by rw [‹Zey _ _ = false›]; decide)) | (simp [*] at *; done) | (simp_all; done))]
  exact Zk (v := .bool false) rfl rfl rfl (by kernel_rfl) rfl
  refine Zn (vx := Iv (e.text.size : Nat)) (vy := Iv 200) rfl rfl (.bool false) rfl rfl (Zjm (by omega)) ?_
  refine Zg (.bool false) (Zb (.bool false) (Za (Za (Za (Za (Zg (.bool false) (Zb (.bool false) (Za (Za (Za (Za (Zg (.bool false) (Zc (.bool false) (Zd (Ze (Zs (Zy (Zv (Zq ?_)))))))))))))))))))
  rw [show decide (Zck e) = false from decide_eq_false (fun q => by rcases q with ⟨q1, q2, q3, q4, q5, q6, q7, q8⟩ | ⟨q1, q2, q3, q4, q5, q6⟩ | ⟨q1, q2, q3, q4, q5, q6⟩ <;> first | omega | (exact absurd ((Zbx _ _).2 q4) (by rw [‹Zey _ _ = false›]; decide)) | (simp [*] at *; done) | (simp_all; done))]
  exact Zk (v := .bool false) rfl rfl rfl (by kernel_rfl) rfl
  refine Zw ((Zbk (G := G) e.seq 1 1000000).res (congrArg Value.bool (Z2 (by omega)))) (vals := [Iv e.seq, Iv 1, Iv 1000000]) (res' := .bool false) rfl rfl rfl rfl rfl rfl ?_
  refine Zg (.bool false) (Zb (.bool false) (Za (Za (Za (Za (Zg (.bool false) (Zb (.bool false) (Za (Za (Za (Za (Zg (.bool false) (Zb (.bool false) (Za (Za (Za (Za (Zg (.bool false) (Zc (.bool false) (Zd (Ze (Zs (Zy (Zv (Zq ?_)))))))))))))))))))))))))
  rw [show decide (Zck e) = false from decide_eq_false (fun q => by rcases q with ⟨q1, q2, q3, q4, q5, q6, q7, q8⟩ | ⟨q1, q2, q3, q4, q5, q6⟩ | ⟨q1, q2, q3, q4, q5, q6⟩ <;> first | omega | (exact absurd ((Zbx _ _).2 q4) (by rw [‹Zey _ _ = false›]; decide)) | (simp [*] at *; done) | (simp_all; done))]
  exact Zk (v := .bool false) rfl rfl rfl (by kernel_rfl) rfl
  refine Zw ((Zbk (G := G) e.seq 1 1000000).res (congrArg Value.bool (Z2 (by omega)))) (vals := [Iv e.seq, Iv 1, Iv 1000000]) (res' := .bool false) rfl rfl rfl rfl rfl rfl ?_
  refine Zg (.bool false) (Zb (.bool false) (Za (Za (Za (Za (Zg (.bool false) (Zb (.bool false) (Za (Za (Za (Za (Zg (.bool false) (Zb (.bool false) (Za (Za (Za (Za (Zg (.bool false) (Zc (.bool false) (Zd (Ze (Zs (Zy (Zv (Zq ?_)))))))))))))))))))))))))
  rw [show decide (Zck e) = false from decide_eq_false (fun q => by rcases q with ⟨q1, q2, q3, q4, q5, q6, q7, q8⟩ | ⟨q1, q2, q3, q4, q5, q6⟩ | ⟨q1, q2, q3, q4, q5, q6⟩ <;> first | omega | (exact absurd ((Zbx _ _).2 q4) (by rw [‹Zey _ _ = false›]; decide)) | (simp [*] at *; done) | (simp_all; done))]
  exact Zk (v := .bool false) rfl rfl rfl (by kernel_rfl) rfl
  refine Zw ((Zbk (G := G) e.client 1 3).res (congrArg Value.bool (Z2 (by omega)))) (vals := [Iv e.client, Iv 1, Iv 3]) (res' := .bool false) rfl rfl rfl rfl rfl rfl ?_
  refine Zb (.bool false) (Za (Za (Za (Zg (.bool false) (Zb (.bool false) (Za (Za (Za (Za (Zg (.bool false) (Zb (.bool false) (Za (Za (Za (Za (Zg (.bool false) (Zb (.bool false) (Za (Za (Za (Za (Zg (.bool false) ?_))))))))))))))))))))))
  refine Zc (.bool false) (Zd (Ze (Zs (Zy (Zv (Zq ?_))))))
  rw [show decide (Zck e) = false from decide_eq_false (fun q => by rcases q with ⟨q1, q2, q3, q4, q5, q6, q7, q8⟩ | ⟨q1, q2, q3, q4, q5, q6⟩ | ⟨q1, q2, q3, q4, q5, q6⟩ <;> first | omega | (exact absurd ((Zbx _ _).2 q4) (by rw [‹Zey _ _ = false›]; decide)) | (simp [*] at *; done) | (simp_all; done))]
  exact Zk (v := .bool false) rfl rfl rfl (by kernel_rfl) rfl
  refine Zw ((Zbk (G := G) e.client 1 3).res (congrArg Value.bool (Z2 (by omega)))) (vals := [Iv e.client, Iv 1, Iv 3]) (res' := .bool false) rfl rfl rfl rfl rfl rfl ?_
  refine Zb (.bool false) (Za (Za (Za (Zg (.bool false) (Zb (.bool false) (Za (Za (Za (Za (Zg (.bool false) (Zb (.bool false) (Za (Za (Za (Za (Zg (.bool false) (Zb (.bool false) (Za (Za (Za (Za (Zg (.bool false) ?_))))))))))))))))))))))
  refine Zc (.bool false) (Zd (Ze (Zs (Zy (Zv (Zq ?_))))))
  rw [show decide (Zck e) = false from decide_eq_false (fun q => by rcases q with ⟨q1, q2, q3, q4, q5, q6, q7, q8⟩ | ⟨q1, q2, q3, q4, q5, q6⟩ | ⟨q1, q2, q3, q4, q5, q6⟩ <;> first | omega | (exact absurd ((Zbx _ _).2 q4) (by rw [‹Zey _ _ = false›]; decide)) | (simp [*] at *; done) | (simp_all; done))]
  exact Zk (v := .bool false) rfl rfl rfl (by kernel_rfl) rfl
  refine Zn (vx := Iv e.kind) (vy := Iv 1) rfl rfl (.bool false) rfl rfl (Zaq (by omega)) ?_
  refine Zc (.bool false) (Zd (Ze (Zz rfl (Zi (Zm ?_)))))
  by_cases h9 : e.kind = 2
  refine Zn (vx := Iv e.kind) (vy := Iv 2) rfl rfl (.bool true) rfl rfl (Zaj (by omega)) ?_
  refine Zc (.bool true) (Zd (Ze (Z4 rfl (Zi (Zm (Zf (b := 0) (o := 0) (n := 1) (o' := 1) (Zl (p := pt 0 1) (v := Iv e.client) ?_)))))))
  by_cases h10 : e.client = 0
  refine Zn (vx := Iv e.client) (vy := Iv 0) rfl rfl (.bool true) rfl rfl (Zaj (by omega)) ?_
  refine Zb (.bool true) (Zf (b := 0) (o := 0) (n := 2) (o' := 2) (Zl (p := pt 0 2) (v := Iv e.seq) ?_))
  by_cases h11 : e.seq = 0
  refine Zn (vx := Iv e.seq) (vy := Iv 0) rfl rfl (.bool true) rfl rfl (Zaj (by omega)) ?_
  refine Zg (.bool true) (Zb (.bool true) (Zf (b := 0) (o := 0) (n := 3) (o' := 3) (Zl (p := pt 0 3) (v := .string e.text) ?_)))
  rcases Bool.eq_false_or_eq_true (Zey e.text ⟨#[]⟩) with h12 | h12
  · have hzh12 := Zlu h12
    refine Zn (vx := .string e.text) (vy := .string ⟨#[]⟩) rfl rfl (.bool true) rfl rfl (Eq.trans (Zma _ _) (by rw [h12] <;> rfl)) ?_
    refine Zg (.bool true) (Zb (.bool true) (Zf (b := 0) (o := 0) (n := 4) (o' := 4) (Zl (p := pt 0 4) (v := Zcu e.head) ?_)))
    refine Zw (Zu9 (G := G) e.head) (vals := [Zcu e.head]) (res' := .bool (decide (Zlb e.head))) rfl rfl rfl rfl rfl rfl ?_
    refine Zg (.bool (decide (Zlb e.head))) (Zb (.bool (decide (Zlb e.head))) ?_)
    rcases Bool.eq_false_or_eq_true (decide (Zlb e.head)) with h13 | h13
    refine Zas (b := 0) (o := 0) (n := 73) (o' := 73) (by exact congrArg (fun b => some (b == true)) h13) rfl rfl rfl rfl ?_
    refine Zba (p := pt 0 73) (v := Zx e.claim) (by exact congrArg (fun b => some (b == true)) h13) rfl rfl (by kernel_rfl) ?_
    refine Za0 (vs := []) (v := Zx (⟨0, 0, 0, 0, dz⟩ : Claim)) (by exact congrArg (fun b => some (b == true)) h13) rfl rfl (by kernel_rfl) ?_
    rcases Bool.eq_false_or_eq_true (Zu e.claim (⟨0, 0, 0, 0, dz⟩ : Claim)) with h14 | h14
    refine Zn (vx := Zx e.claim) (vy := Zx (⟨0, 0, 0, 0, dz⟩ : Claim)) (by exact congrArg (fun b => some (b == true)) h13) rfl (.bool true) rfl rfl (Eq.trans (Zb8 e.claim (⟨0, 0, 0, 0, dz⟩ : Claim)) (by rw [h14] <;> rfl)) ?_
    refine Zcw rfl rfl (.bool true) (by show some (if _ then _ else _) = _; rw [h13] <;> rfl) ?_
    refine Zc (.bool true) (Zd (Ze (Zs (Zy (Zv (Zq ?_))))))
    rw [show decide (Zck e) = true from decide_eq_true (by first | exact .inl ⟨by omega, by omega, by omega, by omega, by omega, by omega, by assumption, by assumption⟩ | exact .inr (.inl ⟨by omega, by omega, by omega, (Zbx _ _).1 (by assumption), of_decide_eq_true (by assumption), by assumption⟩) | exact .inr (.inr ⟨by omega, by omega, by omega, (Zbx _ _).1 (by assumption), by assumption, of_decide_eq_true (by assumption)⟩))]
    exact Zk (v := .bool true) rfl rfl rfl (by kernel_rfl) rfl
    refine Zn (vx := Zx e.claim) (vy := Zx (⟨0, 0, 0, 0, dz⟩ : Claim)) (by exact congrArg (fun b => some (b == true)) h13) rfl (.bool false) rfl rfl (Eq.trans (Zb8 e.claim (⟨0, 0, 0, 0, dz⟩ : Claim)) (by rw [h14] <;> rfl)) ?_
    refine Zcw rfl rfl (.bool false) (by show some (if _ then _ else _) = _; rw [h13] <;> rfl) ?_
    refine Zc (.bool false) (Zd (Ze (Zs (Zy (Zv (Zq ?_))))))
    rw [show decide (Zck e) = false from decide_eq_false (fun q => by rcases q with ⟨q1, q2, q3, q4, q5, q6, q7, q8⟩ | ⟨q1, q2, q3, q4, q5, q6⟩ | ⟨q1, q2, q3, q4, q5, q6⟩ <;> first | omega | (exact absurd ((Zbx _ _).2 q4) (by rw [‹Zey _ _ = false›]; decide)) | (simp [*] at *; done) | (simp_all; done))]
    exact Zk (v := .bool false) rfl rfl rfl (by kernel_rfl) rfl
    refine Zb1 (by exact congrArg (fun b => some (b == true)) h13) rfl ?_
    refine Zb1 (by exact congrArg (fun b => some (b == true)) h13) rfl ?_
    refine Zb1 (by exact congrArg (fun b => some (b == true)) h13) rfl ?_
    refine Zb1 (by exact congrArg (fun b => some (b == true)) h13) rfl ?_
    refine Zcw rfl rfl (.bool false) (by show some (if _ then _ else _) = _; rw [h13] <;> rfl) ?_
    refine Zc (.bool false) (Zd (Ze (Zs (Zy (Zv (Zq ?_))))))
    rw [show decide (Zck e) = false from decide_eq_false (fun q => by rcases q with ⟨q1, q2, q3, q4, q5, q6, q7, q8⟩ | ⟨q1, q2, q3, q4, q5, q6⟩ | ⟨q1, q2, q3, q4, q5, q6⟩ <;> first | omega | (exact absurd ((Zbx _ _).2 q4) (by rw [‹Zey _ _ = false›]; decide)) | (simp [*] at *; done) | (simp_all; done))]
    exact Zk (v := .bool false) rfl rfl rfl (by kernel_rfl) rfl
  have hzh12 := Zlt h12
  refine Zn (vx := .string e.text) (vy := .string ⟨#[]⟩) rfl rfl (.bool false) rfl rfl (Eq.trans (Zma _ _) (by rw [h12] <;> rfl)) ?_
  refine Zg (.bool false) (Zb (.bool false) (Za (Za (Za (Zg (.bool false) (Zb (.bool false) (Za (Za (Za (Za (Zg (.bool false) (Zc (.bool false) (Zd (Ze (Zs (Zy (Zv (Zq ?_))))))))))))))))))
  rw [show decide (Zck e) = false from decide_eq_false (fun q => by rcases q with ⟨q1, q2, q3, q4, q5, q6, q7, q8⟩ | ⟨q1, q2, q3, q4, q5, q6⟩ | ⟨q1, q2, q3, q4, q5, q6⟩ <;> first | omega | (exact absurd ((Zbx _ _).2 q4) (by rw [‹Zey _ _ = false›]; decide)) | (simp [*] at *; done) | (simp_all; done))]
  exact Zk (v := .bool false) rfl rfl rfl (by kernel_rfl) rfl
  refine Zn (vx := Iv e.seq) (vy := Iv 0) rfl rfl (.bool false) rfl rfl (Zaq (by omega)) ?_
  refine Zg (.bool false) (Zb (.bool false) (Za (Za (Za (Zg (.bool false) (Zb (.bool false) (Za (Za (Za (Zg (.bool false) (Zb (.bool false) (Za (Za (Za (Za (Zg (.bool false) (Zc (.bool false) (Zd (Ze (Zs (Zy (Zv (Zq ?_)))))))))))))))))))))))
  rw [show decide (Zck e) = false from decide_eq_false (fun q => by rcases q with ⟨q1, q2, q3, q4, q5, q6, q7, q8⟩ | ⟨q1, q2, q3, q4, q5, q6⟩ | ⟨q1, q2, q3, q4, q5, q6⟩ <;> first | omega | (exact absurd ((Zbx _ _).2 q4) (by rw [‹Zey _ _ = false›]; decide)) | (simp [*] at *; done) | (simp_all; done))]
  exact Zk (v := .bool false) rfl rfl rfl (by kernel_rfl) rfl
  refine Zn (vx := Iv e.client) (vy := Iv 0) rfl rfl (.bool false) rfl rfl (Zaq (by omega)) ?_
  refine Zb (.bool false) (Za (Za (Za (Zg (.bool false) (Zb (.bool false) (Za (Za (Za (Zg (.bool false) (Zb (.bool false) (Za (Za (Za (Zg (.bool false) (Zb (.bool false) (Za (Za (Za (Za (Zg (.bool false) ?_))))))))))))))))))))
  refine Zc (.bool false) (Zd (Ze (Zs (Zy (Zv (Zq ?_))))))
  rw [show decide (Zck e) = false from decide_eq_false (fun q => by rcases q with ⟨q1, q2, q3, q4, q5, q6, q7, q8⟩ | ⟨q1, q2, q3, q4, q5, q6⟩ | ⟨q1, q2, q3, q4, q5, q6⟩ <;> first | omega | (exact absurd ((Zbx _ _).2 q4) (by rw [‹Zey _ _ = false›]; decide)) | (simp [*] at *; done) | (simp_all; done))]
  exact Zk (v := .bool false) rfl rfl rfl (by kernel_rfl) rfl
  refine Zn (vx := Iv e.kind) (vy := Iv 2) rfl rfl (.bool false) rfl rfl (Zaq (by omega)) ?_
  refine Zc (.bool false) (Zd (Ze (Zz rfl (Zi (Zm ?_)))))
  by_cases h15 : e.kind = 3
  refine Zn (vx := Iv e.kind) (vy := Iv 3) rfl rfl (.bool true) rfl rfl (Zaj (by omega)) ?_
  refine Zc (.bool true) (Zd (Ze (Z4 rfl (Zi (Zm (Zf (b := 0) (o := 0) (n := 1) (o' := 1) (Zl (p := pt 0 1) (v := Iv e.client) ?_)))))))
  by_cases h16 : e.client = 0
  refine Zn (vx := Iv e.client) (vy := Iv 0) rfl rfl (.bool true) rfl rfl (Zaj (by omega)) ?_
  refine Zb (.bool true) (Zf (b := 0) (o := 0) (n := 2) (o' := 2) (Zl (p := pt 0 2) (v := Iv e.seq) ?_))
  by_cases h17 : e.seq = 0
  refine Zn (vx := Iv e.seq) (vy := Iv 0) rfl rfl (.bool true) rfl rfl (Zaj (by omega)) ?_
  refine Zg (.bool true) (Zb (.bool true) (Zf (b := 0) (o := 0) (n := 3) (o' := 3) (Zl (p := pt 0 3) (v := .string e.text) ?_)))
  rcases Bool.eq_false_or_eq_true (Zey e.text ⟨#[]⟩) with h18 | h18
  · have hzh18 := Zlu h18
    refine Zn (vx := .string e.text) (vy := .string ⟨#[]⟩) rfl rfl (.bool true) rfl rfl (Eq.trans (Zma _ _) (by rw [h18] <;> rfl)) ?_
    refine Zg (.bool true) (Zb (.bool true) (Zf (b := 0) (o := 0) (n := 4) (o' := 4) (Zl (p := pt 0 4) (v := Zcu e.head) ?_)))
    refine Za0 (vs := []) (v := Zcu (⟨(⟨0, 0, 0, dz, 0⟩ : Head), 0, dz⟩ : Signed)) rfl rfl rfl (by kernel_rfl) ?_
    rcases Bool.eq_false_or_eq_true (Zee e.head (⟨(⟨0, 0, 0, dz, 0⟩ : Head), 0, dz⟩ : Signed)) with h19 | h19
    refine Zn (vx := Zcu e.head) (vy := Zcu (⟨(⟨0, 0, 0, dz, 0⟩ : Head), 0, dz⟩ : Signed)) rfl rfl (.bool true) rfl rfl (Eq.trans (Zhx e.head (⟨(⟨0, 0, 0, dz, 0⟩ : Head), 0, dz⟩ : Signed)) (by rw [h19] <;> rfl)) ?_
    refine Zg (.bool true) (Zb (.bool true) (Zf (b := 0) (o := 0) (n := 73) (o' := 73) (Zl (p := pt 0 73) (v := Zx e.claim) ?_)))
    refine Zw (Zfw (G := G) e.claim) (vals := [Zx e.claim]) (res' := .bool (decide (Zaz e.claim))) rfl rfl rfl rfl rfl rfl ?_
    refine Zg (.bool (decide (Zaz e.claim))) (Zc (.bool (decide (Zaz e.claim))) (Zd (Ze (Zs (Zy (Zv (Zq ?_)))))))
    rw [show decide (Zck e) = decide (Zaz e.claim) from decide_eq_decide.2 ⟨fun q => by rcases q with q | q | q <;> first | omega | exact q.2.2.2.2.2, fun q => .inr (.inr ⟨by omega, by omega, by omega, (Zbx _ _).1 (by assumption), by assumption, q⟩)⟩]
    exact Zk (v := .bool (decide (Zaz e.claim))) rfl rfl rfl (by kernel_rfl) rfl
    refine Zn (vx := Zcu e.head) (vy := Zcu (⟨(⟨0, 0, 0, dz, 0⟩ : Head), 0, dz⟩ : Signed)) rfl rfl (.bool false) rfl rfl (Eq.trans (Zhx e.head (⟨(⟨0, 0, 0, dz, 0⟩ : Head), 0, dz⟩ : Signed)) (by rw [h19] <;> rfl)) ?_
    refine Zg (.bool false) (Zb (.bool false) (Za (Za (Za (Zg (.bool false) (Zc (.bool false) (Zd (Ze (Zs (Zy (Zv (Zq ?_))))))))))))
    rw [show decide (Zck e) = false from decide_eq_false (fun q => by rcases q with ⟨q1, q2, q3, q4, q5, q6, q7, q8⟩ | ⟨q1, q2, q3, q4, q5, q6⟩ | ⟨q1, q2, q3, q4, q5, q6⟩ <;> first | omega | (exact absurd ((Zbx _ _).2 q4) (by rw [‹Zey _ _ = false›]; decide)) | (simp [*] at *; done) | (simp_all; done))]
    exact Zk (v := .bool false) rfl rfl rfl (by kernel_rfl) rfl
  have hzh18 := Zlt h18
  refine Zn (vx := .string e.text) (vy := .string ⟨#[]⟩) rfl rfl (.bool false) rfl rfl (Eq.trans (Zma _ _) (by rw [h18] <;> rfl)) ?_
  refine Zg (.bool false) (Zb (.bool false) (Za (Za (Za (Za (Zg (.bool false) (Zb (.bool false) (Za (Za (Za (Zg (.bool false) (Zc (.bool false) (Zd (Ze (Zs (Zy (Zv (Zq ?_))))))))))))))))))
  rw [show decide (Zck e) = false from decide_eq_false (fun q => by rcases q with ⟨q1, q2, q3, q4, q5, q6, q7, q8⟩ | ⟨q1, q2, q3, q4, q5, q6⟩ | ⟨q1, q2, q3, q4, q5, q6⟩ <;> first | omega | (exact absurd ((Zbx _ _).2 q4) (by rw [‹Zey _ _ = false›]; decide)) | (simp [*] at *; done) | (simp_all; done))]
  exact Zk (v := .bool false) rfl rfl rfl (by kernel_rfl) rfl
  refine Zn (vx := Iv e.seq) (vy := Iv 0) rfl rfl (.bool false) rfl rfl (Zaq (by omega)) ?_
  refine Zg (.bool false) (Zb (.bool false) (Za (Za (Za (Zg (.bool false) (Zb (.bool false) (Za (Za (Za (Za (Zg (.bool false) (Zb (.bool false) (Za (Za (Za (Zg (.bool false) (Zc (.bool false) (Zd (Ze (Zs (Zy (Zv (Zq ?_)))))))))))))))))))))))
  rw [show decide (Zck e) = false from decide_eq_false (fun q => by rcases q with ⟨q1, q2, q3, q4, q5, q6, q7, q8⟩ | ⟨q1, q2, q3, q4, q5, q6⟩ | ⟨q1, q2, q3, q4, q5, q6⟩ <;> first | omega | (exact absurd ((Zbx _ _).2 q4) (by rw [‹Zey _ _ = false›]; decide)) | (simp [*] at *; done) | (simp_all; done))]
  exact Zk (v := .bool false) rfl rfl rfl (by kernel_rfl) rfl
  refine Zn (vx := Iv e.client) (vy := Iv 0) rfl rfl (.bool false) rfl rfl (Zaq (by omega)) ?_
  refine Zb (.bool false) (Za (Za (Za (Zg (.bool false) (Zb (.bool false) (Za (Za (Za (Zg (.bool false) (Zb (.bool false) (Za (Za (Za (Za (Zg (.bool false) (Zb (.bool false) (Za (Za (Za (Zg (.bool false) ?_))))))))))))))))))))
  refine Zc (.bool false) (Zd (Ze (Zs (Zy (Zv (Zq ?_))))))
  rw [show decide (Zck e) = false from decide_eq_false (fun q => by rcases q with ⟨q1, q2, q3, q4, q5, q6, q7, q8⟩ | ⟨q1, q2, q3, q4, q5, q6⟩ | ⟨q1, q2, q3, q4, q5, q6⟩ <;> first | omega | (exact absurd ((Zbx _ _).2 q4) (by rw [‹Zey _ _ = false›]; decide)) | (simp [*] at *; done) | (simp_all; done))]
  exact Zk (v := .bool false) rfl rfl rfl (by kernel_rfl) rfl
  refine Zn (vx := Iv e.kind) (vy := Iv 3) rfl rfl (.bool false) rfl rfl (Zaq (by omega)) ?_
  refine Zc (.bool false) (Zd (Ze (Zz rfl (Z9 (Z7 (Ze (Zi (Zm (Zc (.bool false) (Zd (Ze (Zs (Zq ?_)))))))))))))
  rw [show decide (Zck e) = false from decide_eq_false (fun q => by rcases q with ⟨q1, q2, q3, q4, q5, q6, q7, q8⟩ | ⟨q1, q2, q3, q4, q5, q6⟩ | ⟨q1, q2, q3, q4, q5, q6⟩ <;> first | omega | (exact absurd ((Zbx _ _).2 q4) (by rw [‹Zey _ _ = false›]; decide)) | (simp [*] at *; done) | (simp_all; done))]
  exact Zk (v := .bool false) rfl rfl rfl (by kernel_rfl) rfl
theorem Zfx (x : Item) : Zat Try.prog G 49 [Zal x] [] (.bool (decide (Zbb x))) [] := by
  refine Zcg (fn := Try.f49) (nt := 11) rfl rfl rfl rfl ?_
  refine Za8 1 (H' := [hole]) rfl ?_
  refine Zi (Zm (Zbn (v := Zal x) (b := bxB 110 (Z1 x)) (nid := 0) (H' := [bxB 110 (Z1 x)]) (Zc (.bool false) (Zd (Ze (Zi (Zm (Zf (b := 0) (o := 0) (n := 0) (o' := 0) (Zl (p := pt 0 0) (v := Iv x.epoch) ?_)))))))))
  by_cases h1 : 1 ≤ x.epoch
  by_cases h2 : x.epoch ≤ 900000000
  refine Zw ((Zbk (G := G) x.epoch 1 900000000).res (congrArg Value.bool (Zak (by omega) (by omega)))) (vals := [Iv x.epoch, Iv 1, Iv 900000000]) (res' := .bool true) rfl rfl rfl rfl rfl rfl ?_
  refine Zb (.bool true) (Zf (b := 0) (o := 0) (n := 1) (o' := 1) (Zl (p := pt 0 1) (v := Zdg x.entry) ?_))
  refine Zw (Zp2 (G := G) x.entry) (vals := [Zdg x.entry]) (res' := .bool (decide (Zck x.entry))) rfl rfl rfl rfl rfl rfl ?_
  refine Zg (.bool (decide (Zck x.entry))) (Zc (.bool (decide (Zck x.entry))) (Zd (Ze (Zs (Zq ?_)))))
  rw [show decide (Zbb x) = decide (Zck x.entry) from decide_eq_decide.2 ⟨fun q => q.2.2, fun q => ⟨by omega, by omega, q⟩⟩]
  exact Zk (v := .bool (decide (Zck x.entry))) rfl rfl rfl (by kernel_rfl) rfl
  refine Zw ((Zbk (G := G) x.epoch 1 900000000).res (congrArg Value.bool (Z2 (by omega)))) (vals := [Iv x.epoch, Iv 1, Iv 900000000]) (res' := .bool false) rfl rfl rfl rfl rfl rfl ?_
  refine Zb (.bool false) (Za (Za (Za (Zg (.bool false) (Zc (.bool false) (Zd (Ze (Zs (Zq ?_)))))))))
  rw [show decide (Zbb x) = false from decide_eq_false (fun q => by first | (have := q.1; have := q.2.1; omega) | (exact absurd q.2.2 (of_decide_eq_false (by assumption))))]
  exact Zk (v := .bool false) rfl rfl rfl (by kernel_rfl) rfl
  refine Zw ((Zbk (G := G) x.epoch 1 900000000).res (congrArg Value.bool (Z2 (by omega)))) (vals := [Iv x.epoch, Iv 1, Iv 900000000]) (res' := .bool false) rfl rfl rfl rfl rfl rfl ?_
  refine Zb (.bool false) (Za (Za (Za (Zg (.bool false) (Zc (.bool false) (Zd (Ze (Zs (Zq ?_)))))))))
  rw [show decide (Zbb x) = false from decide_eq_false (fun q => by first | (have := q.1; have := q.2.1; omega) | (exact absurd q.2.2 (of_decide_eq_false (by assumption))))]
  exact Zk (v := .bool false) rfl rfl rfl (by kernel_rfl) rfl
end Go.Flat
