/- Walks. -/
import Derived.Test.YtoafdomlefoenaaE1
set_option linter.unusedVariables false
set_option linter.unusedSimpArgs false
set_option maxRecDepth 20000
namespace Go.Flat
open Go.Proofs
variable {G : Glob}
theorem Zim (n : Nat) (a b : D) : Zee n a b = Zee n b a := by
  cases h : Zee n a b with
  | true => rw [Zh1] at h; exact (Zh1.2 h.symm).symm
  | false =>
    cases h' : Zee n b a with
    | true => rw [Zh1] at h'; rw [Zh1.2 h'.symm] at h; cases h
    | false => rfl
theorem Zn9 (a b : Head) : Zg7 a b = Zg7 b a := by
 unfold Zg7; rw [BEq.comm (a := a.region), BEq.comm (a := a.epoch), BEq.comm (a := a.size), BEq.comm (a := a.tick), Zim]
theorem Zia (a b : Signed) : Zc4 a b = Zc4 b a := by
 unfold Zc4; rw [Zn9, BEq.comm (a := a.node), Zim]
theorem Zu (a b : Claim) : Zw a b = Zw b a := by
 unfold Zw; rw [BEq.comm (a := a.region), BEq.comm (a := a.epoch), BEq.comm (a := a.node), BEq.comm (a := a.size), Zim]
def Zbq (e : Entry) : Prop :=
  (e.kind = 1 ∧ 1 ≤ e.client ∧ e.client ≤ 3 ∧ 1 ≤ e.seq ∧ e.seq ≤ 1000000 ∧ e.text.size ≤ 200 ∧ Zc4 e.head ⟨⟨0, 0, 0, dz, 0⟩, 0, dz⟩ = true ∧ Zw e.claim ⟨0, 0, 0, 0, dz⟩ = true) ∨
  (e.kind = 2 ∧ e.client = 0 ∧ e.seq = 0 ∧ e.text = ⟨#[]⟩ ∧ Zjp e.head ∧ Zw e.claim ⟨0, 0, 0, 0, dz⟩ = true) ∨
  (e.kind = 3 ∧ e.client = 0 ∧ e.seq = 0 ∧ e.text = ⟨#[]⟩ ∧ Zc4 e.head ⟨⟨0, 0, 0, dz, 0⟩, 0, dz⟩ = true ∧ Zaw e.claim)
instance (e : Entry) : Decidable (Zbq e) := inferInstanceAs (Decidable (_ ∨ _))
def Zet (e : Entry) : Int := if Zbq e then 0 else 60
theorem Zgk {e : Entry} (h : Zet e = 0) : Zbq e := by
 unfold Zet at h
 split at h
 ·assumption
 ·omega
theorem Zap {e : Entry} (h : ¬ Zet e = 0) : ¬ Zbq e := fun q => h (if_pos q)
def Zbd (x : Item) : Prop := 1 ≤ x.epoch ∧ x.epoch ≤ 900000000 ∧ Zbq x.entry
instance (x : Item) : Decidable (Zbd x) := inferInstanceAs (Decidable (_ ∧ _))
theorem Zpb {h : Head} : Zb4 h = 0 ↔ Zca h := by
 rw [Zr2]; split <;> simp [*]
theorem Zbp (e : Entry) : Zbq e ↔ (
 (e.kind = 1 ∧ 1 ≤ e.client ∧ e.client ≤ 3 ∧ 1 ≤ e.seq ∧ e.seq ≤ 1000000 ∧ e.text.size ≤ 200 ∧ Zfa ⟨e.kind, e.client, e.seq, e.text, ⟨⟨0, 0, 0, dz, 0⟩, 0, dz⟩, ⟨0, 0, 0, 0, dz⟩⟩ e = true) ∨
 (e.kind = 2 ∧ Zb4 e.head.head = 0 ∧ 1 ≤ e.head.node ∧ e.head.node ≤ 3 ∧ Zfa ⟨e.kind, 0, 0, ⟨#[]⟩, e.head, ⟨0, 0, 0, 0, dz⟩⟩ e = true) ∨
 (e.kind = 3 ∧ Zfi e.claim = 0 ∧ Zfa ⟨e.kind, 0, 0, ⟨#[]⟩, ⟨⟨0, 0, 0, dz, 0⟩, 0, dz⟩, e.claim⟩ e = true)) := by
 have hc : Zfi e.claim = 0 ↔ Zaw e.claim := by unfold Zfi; split <;> simp [*]
 have hz : (⟨#[]⟩ : ByteArray) = e.text ↔ e.text = ⟨#[]⟩ := eq_comm
 have h1 : (0 : Int) = e.client ↔ e.client = 0 := eq_comm
 have h2 : (0 : Int) = e.seq ↔ e.seq = 0 := eq_comm
 have h3 : (1 : Int) = e.kind ↔ e.kind = 1 := eq_comm
 have h4 : (2 : Int) = e.kind ↔ e.kind = 2 := eq_comm
 have h5 : (3 : Int) = e.kind ↔ e.kind = 3 := eq_comm
 simp only [Zbq, Zfa, hc, Zpb, Zjp, Zib, Zaq, BEq.rfl, Bool.true_and, Bool.and_true, Bool.and_eq_true, beq_iff_eq, Zia ⟨⟨0, 0, 0, dz, 0⟩, 0, dz⟩, Zu ⟨0, 0, 0, 0, dz⟩, hz, h1, h2, h3, h4, h5, and_assoc, and_left_comm, and_comm]
theorem Zj4 (e : Entry) : Zak Try.prog G 52 [Zcn e] [] (Iv (Zet e)) [] := by
  refine Zb5 (fn := Try.f52) (nt := 67) rfl rfl rfl rfl ?_
  refine Za5 2 (H' := [hole, hole]) rfl ?_
  refine Zk (Zm ?_)
  refine Zch (v := Zcn e) (b := bxB 109 (Zcp e)) (nid := 0) (H' := [bxB 109 (Zcp e), hole]) rfl rfl rfl (by kernel_rfl) (by kernel_rfl) ?_
  refine Zd rfl rfl (Iv 0) rfl (Zb (Zc (Zk (Zm ?_))))
  refine Ze (b := 0) (o := 0) (n := 0) (o' := 0) rfl rfl rfl rfl rfl ?_
  refine Zl (p := pt 0 0) (v := Iv e.kind) rfl rfl rfl (by kernel_rfl) ?_
  refine Zbj (vs := [(0, Iv e.kind)]) (v := Zcn (⟨e.kind, 0, 0, ⟨#[]⟩, (⟨(⟨0, 0, 0, dz, 0⟩ : Head), 0, dz⟩ : Signed), (⟨0, 0, 0, 0, dz⟩ : Claim)⟩ : Entry)) rfl rfl rfl (by kernel_rfl) ?_
  refine Zbk (b := bxB 109 (Zcp (⟨0, 0, 0, ⟨#[]⟩, (⟨(⟨0, 0, 0, dz, 0⟩ : Head), 0, dz⟩ : Signed), (⟨0, 0, 0, 0, dz⟩ : Claim)⟩ : Entry))) (nid := 1) (H' := [bxB 109 (Zcp e), bxB 109 (Zcp (⟨0, 0, 0, ⟨#[]⟩, (⟨(⟨0, 0, 0, dz, 0⟩ : Head), 0, dz⟩ : Signed), (⟨0, 0, 0, 0, dz⟩ : Claim)⟩ : Entry))]) rfl rfl (by kernel_rfl) (by kernel_rfl) ?_
  refine Zaa (p := pt 1 0) (v := Zcn (⟨e.kind, 0, 0, ⟨#[]⟩, (⟨(⟨0, 0, 0, dz, 0⟩ : Head), 0, dz⟩ : Signed), (⟨0, 0, 0, 0, dz⟩ : Claim)⟩ : Entry)) (b := 1) (blk := bxB 109 (Zcp (⟨e.kind, 0, 0, ⟨#[]⟩, (⟨(⟨0, 0, 0, dz, 0⟩ : Head), 0, dz⟩ : Signed), (⟨0, 0, 0, 0, dz⟩ : Claim)⟩ : Entry))) (H' := [bxB 109 (Zcp e), bxB 109 (Zcp (⟨e.kind, 0, 0, ⟨#[]⟩, (⟨(⟨0, 0, 0, dz, 0⟩ : Head), 0, dz⟩ : Signed), (⟨0, 0, 0, 0, dz⟩ : Claim)⟩ : Entry))]) rfl rfl rfl (by kernel_rfl) (by kernel_rfl) ?_
  refine Zb (Zc (Zk (Zm (Zd rfl rfl (.bool false) rfl (Zb (Zc (Zk (Zk (Zm ?_)))))))))
  refine Ze (b := 0) (o := 0) (n := 0) (o' := 0) rfl rfl rfl rfl rfl ?_
  refine Zl (p := pt 0 0) (v := Iv e.kind) rfl rfl rfl (by kernel_rfl) ?_
  refine Zb (Zc (Zbm (Zk (Zm ?_))))
  by_cases h1 : e.kind = 1
  refine Zn (vx := Iv e.kind) (vy := Iv 1) rfl rfl (.bool true) rfl rfl (Zao (by omega)) ?_
  refine Zd rfl rfl (.bool true) rfl (Zb (Zc (Z4 rfl (Zk ?_))))
  refine Zd6 (by kernel_rfl) ?_
  refine Ze (b := 0) (o := 0) (n := 1) (o' := 1) rfl rfl rfl rfl rfl ?_
  refine Zl (p := pt 0 1) (v := Iv e.client) rfl rfl rfl (by kernel_rfl) ?_
  refine Ze (b := 0) (o := 0) (n := 2) (o' := 2) rfl rfl rfl rfl rfl ?_
  refine Zl (p := pt 0 2) (v := Iv e.seq) rfl rfl rfl (by kernel_rfl) ?_
  refine Ze (b := 0) (o := 0) (n := 3) (o' := 3) rfl rfl rfl rfl rfl ?_
  refine Zl (p := pt 0 3) (v := .string e.text) rfl rfl rfl (by kernel_rfl) ?_
  refine Ze (b := 1) (o := 0) (n := 1) (o' := 1) rfl rfl rfl rfl rfl ?_
  refine Zaa (p := pt 1 1) (v := Iv e.client) (b := 1) (blk := bxB 109 (Zcp (⟨e.kind, e.client, 0, ⟨#[]⟩, (⟨(⟨0, 0, 0, dz, 0⟩ : Head), 0, dz⟩ : Signed), (⟨0, 0, 0, 0, dz⟩ : Claim)⟩ : Entry))) (H' := [bxB 109 (Zcp e), bxB 109 (Zcp (⟨e.kind, e.client, 0, ⟨#[]⟩, (⟨(⟨0, 0, 0, dz, 0⟩ : Head), 0, dz⟩ : Signed), (⟨0, 0, 0, 0, dz⟩ : Claim)⟩ : Entry))]) rfl rfl rfl (by kernel_rfl) (by kernel_rfl) ?_
  refine Ze (b := 1) (o := 0) (n := 2) (o' := 2) rfl rfl rfl rfl rfl ?_
  refine Zaa (p := pt 1 2) (v := Iv e.seq) (b := 1) (blk := bxB 109 (Zcp (⟨e.kind, e.client, e.seq, ⟨#[]⟩, (⟨(⟨0, 0, 0, dz, 0⟩ : Head), 0, dz⟩ : Signed), (⟨0, 0, 0, 0, dz⟩ : Claim)⟩ : Entry))) (H' := [bxB 109 (Zcp e), bxB 109 (Zcp (⟨e.kind, e.client, e.seq, ⟨#[]⟩, (⟨(⟨0, 0, 0, dz, 0⟩ : Head), 0, dz⟩ : Signed), (⟨0, 0, 0, 0, dz⟩ : Claim)⟩ : Entry))]) rfl rfl rfl (by kernel_rfl) (by kernel_rfl) ?_
  refine Ze (b := 1) (o := 0) (n := 3) (o' := 3) rfl rfl rfl rfl rfl ?_
  refine Zaa (p := pt 1 3) (v := .string e.text) (b := 1) (blk := bxB 109 (Zcp (⟨e.kind, e.client, e.seq, e.text, (⟨(⟨0, 0, 0, dz, 0⟩ : Head), 0, dz⟩ : Signed), (⟨0, 0, 0, 0, dz⟩ : Claim)⟩ : Entry))) (H' := [bxB 109 (Zcp e), bxB 109 (Zcp (⟨e.kind, e.client, e.seq, e.text, (⟨(⟨0, 0, 0, dz, 0⟩ : Head), 0, dz⟩ : Signed), (⟨0, 0, 0, 0, dz⟩ : Claim)⟩ : Entry))]) rfl rfl rfl (by kernel_rfl) (by kernel_rfl) ?_
  refine Zbe (Zan [[], [0], [], [2], [], [4], [0, 1], [0, 1, 6], [0, 1, 2, 3, 6, 7], [0, 1, 2, 3, 6, 7, 8], [0, 1, 2, 3, 4, 5, 6, 7, 8, 9], [0, 1, 2, 3, 4, 5, 6, 7, 8, 9, 10]] (by kernel_rfl) (by kernel_rfl)) ?_
  refine Zc (Zm ?_)
  refine Ze (b := 1) (o := 0) (n := 1) (o' := 1) rfl rfl rfl rfl rfl ?_
  refine Zl (p := pt 1 1) (v := Iv e.client) rfl rfl rfl (by kernel_rfl) ?_
  by_cases h2 : 1 ≤ e.client
  by_cases h3 : e.client ≤ 3
  refine Zp ((Za6 (G := G) e.client 1 3).res (congrArg Value.bool (Zaf (by omega) (by omega)))) (vals := [Iv e.client, Iv 1, Iv 3]) (res' := .bool true) rfl rfl rfl rfl rfl rfl ?_
  refine Zf rfl rfl (.bool true) rfl ?_
  refine Ze (b := 1) (o := 0) (n := 2) (o' := 2) rfl rfl rfl rfl rfl ?_
  refine Zl (p := pt 1 2) (v := Iv e.seq) rfl rfl rfl (by kernel_rfl) ?_
  by_cases h4 : 1 ≤ e.seq
  by_cases h5 : e.seq ≤ 1000000
  refine Zp ((Za6 (G := G) e.seq 1 1000000).res (congrArg Value.bool (Zaf (by omega) (by omega)))) (vals := [Iv e.seq, Iv 1, Iv 1000000]) (res' := .bool true) rfl rfl rfl rfl rfl rfl ?_
  refine Zg rfl rfl (.bool true) rfl (Zf rfl rfl (.bool true) rfl ?_)
  refine Ze (b := 1) (o := 0) (n := 3) (o' := 3) rfl rfl rfl rfl rfl ?_
  refine Zl (p := pt 1 3) (v := .string e.text) rfl rfl rfl (by kernel_rfl) ?_
  refine Zci (p := .string e.text) (v := Iv (e.text.size : Nat)) rfl rfl rfl rfl ?_
  by_cases h6 : (e.text.size : Nat) ≤ 200
  refine Zn (vx := Iv (e.text.size : Nat)) (vy := Iv 200) rfl rfl (.bool true) rfl rfl (Zh8 (by omega)) ?_
  refine Zg rfl rfl (.bool true) rfl (Zd rfl rfl (.bool true) rfl (Zb (Z2 (Zc (Zk (Zm (Zf rfl rfl (.bool true) rfl (Zf rfl rfl (.bool true) rfl ?_))))))))
  refine Zl (p := pt 1 0) (v := Zcn (⟨e.kind, e.client, e.seq, e.text, (⟨(⟨0, 0, 0, dz, 0⟩ : Head), 0, dz⟩ : Signed), (⟨0, 0, 0, 0, dz⟩ : Claim)⟩ : Entry)) rfl rfl rfl (by kernel_rfl) ?_
  refine Zl (p := pt 0 0) (v := Zcn e) rfl rfl rfl (by kernel_rfl) ?_
  rcases Bool.eq_false_or_eq_true (Zfa (⟨e.kind, e.client, e.seq, e.text, (⟨(⟨0, 0, 0, dz, 0⟩ : Head), 0, dz⟩ : Signed), (⟨0, 0, 0, 0, dz⟩ : Claim)⟩ : Entry) e) with h7 | h7
  refine Zn (vx := Zcn (⟨e.kind, e.client, e.seq, e.text, (⟨(⟨0, 0, 0, dz, 0⟩ : Head), 0, dz⟩ : Signed), (⟨0, 0, 0, 0, dz⟩ : Claim)⟩ : Entry)) (vy := Zcn e) rfl rfl (.bool true) rfl rfl (Eq.trans (Zfk (⟨e.kind, e.client, e.seq, e.text, (⟨(⟨0, 0, 0, dz, 0⟩ : Head), 0, dz⟩ : Signed), (⟨0, 0, 0, 0, dz⟩ : Claim)⟩ : Entry) e) (by rw [h7] <;> rfl)) ?_
  refine Zg rfl rfl (.bool true) rfl ?_
  refine Zp (Zbz (G := G) true) (vals := [.bool true]) (res' := Iv 0) rfl rfl rfl rfl rfl rfl ?_
  refine Zd rfl rfl (Iv 0) rfl (Zb (Zc (Zq (Zo ?_))))
  rw [show Zet e = 0 from if_pos ((Zbp e).2 (by first | exact .inl ⟨by omega, by omega, by omega, by omega, by omega, by omega, by assumption⟩ | exact .inr (.inl ⟨by omega, by omega, by omega, by omega, by assumption⟩) | exact .inr (.inr ⟨by omega, by omega, by assumption⟩)))]
  exact Zi (v := Iv 0) rfl rfl rfl (by kernel_rfl) rfl
  refine Zn (vx := Zcn (⟨e.kind, e.client, e.seq, e.text, (⟨(⟨0, 0, 0, dz, 0⟩ : Head), 0, dz⟩ : Signed), (⟨0, 0, 0, 0, dz⟩ : Claim)⟩ : Entry)) (vy := Zcn e) rfl rfl (.bool false) rfl rfl (Eq.trans (Zfk (⟨e.kind, e.client, e.seq, e.text, (⟨(⟨0, 0, 0, dz, 0⟩ : Head), 0, dz⟩ : Signed), (⟨0, 0, 0, 0, dz⟩ : Claim)⟩ : Entry) e) (by rw [h7] <;> rfl)) ?_
  refine Zg rfl rfl (.bool false) rfl ?_
  refine Zp (Zbz (G := G) false) (vals := [.bool false]) (res' := Iv 60) rfl rfl rfl rfl rfl rfl ?_
  refine Zd rfl rfl (Iv 60) rfl (Zb (Zc (Zq (Zo ?_))))
  rw [show Zet e = 60 from if_neg (fun q => by rcases (Zbp e).1 q with q | q | q <;> first | omega | (exact absurd (by first | exact q.2.2.2.2.2.2 | exact q.2.2.2.2 | exact q.2.2) (Bool.eq_false_iff.1 (by assumption))))]
  exact Zi (v := Iv 60) rfl rfl rfl (by kernel_rfl) rfl
  refine Zn (vx := Iv (e.text.size : Nat)) (vy := Iv 200) rfl rfl (.bool false) rfl rfl (Zh7 (by omega)) ?_
  refine Zg rfl rfl (.bool false) rfl (Zd rfl rfl (.bool false) rfl (Zb (Z2 (Zc (Zk (Zm (Zf rfl rfl (.bool false) rfl (Zf rfl rfl (.bool false) rfl (Za rfl rfl (Za rfl rfl (Za rfl rfl (Zg rfl rfl (.bool false) rfl ?_))))))))))))
  refine Zp (Zbz (G := G) false) (vals := [.bool false]) (res' := Iv 60) rfl rfl rfl rfl rfl rfl ?_
  refine Zd rfl rfl (Iv 60) rfl (Zb (Zc (Zq (Zo ?_))))
  rw [show Zet e = 60 from if_neg (fun q => by rcases (Zbp e).1 q with q | q | q <;> first | omega | (exact absurd (by first | exact q.2.2.2.2.2.2 | exact q.2.2.2.2 | exact q.2.2) (Bool.eq_false_iff.1 (by assumption))))]
  exact Zi (v := Iv 60) rfl rfl rfl (by kernel_rfl) rfl
  refine Zp ((Za6 (G := G) e.seq 1 1000000).res (congrArg Value.bool (Zt (by omega)))) (vals := [Iv e.seq, Iv 1, Iv 1000000]) (res' := .bool false) rfl rfl rfl rfl rfl rfl ?_
  refine Zg rfl rfl (.bool false) rfl (Zf rfl rfl (.bool false) rfl (Za rfl rfl (Za rfl rfl (Za rfl rfl (Za rfl rfl (Zg rfl rfl (.bool false) rfl (Zd rfl rfl (.bool false) rfl (Zb (Z2 (Zc (Zk (Zm (Zf rfl rfl (.bool false) rfl (Zf rfl rfl (.bool false) rfl (Za rfl rfl (Za rfl rfl (Za rfl rfl (Zg rfl rfl (.bool false) rfl ?_))))))))))))))))))
  refine Zp (Zbz (G := G) false) (vals := [.bool false]) (res' := Iv 60) rfl rfl rfl rfl rfl rfl ?_
  refine Zd rfl rfl (Iv 60) rfl (Zb (Zc (Zq (Zo ?_))))
  rw [show Zet e = 60 from if_neg (fun q => by rcases (Zbp e).1 q with q | q | q <;> first | omega | (exact absurd (by first | exact q.2.2.2.2.2.2 | exact q.2.2.2.2 | exact q.2.2) (Bool.eq_false_iff.1 (by assumption))))]
  exact Zi (v := Iv 60) rfl rfl rfl (by kernel_rfl) rfl
  refine Zp ((Za6 (G := G) e.seq 1 1000000).res (congrArg Value.bool (Zt (by omega)))) (vals := [Iv e.seq, Iv 1, Iv 1000000]) (res' := .bool false) rfl rfl rfl rfl rfl rfl ?_
  refine Zg rfl rfl (.bool false) rfl (Zf rfl rfl (.bool false) rfl (Za rfl rfl (Za rfl rfl (Za rfl rfl (Za rfl rfl (Zg rfl rfl (.bool false) rfl (Zd rfl rfl (.bool false) rfl (Zb (Z2 (Zc (Zk (Zm (Zf rfl rfl (.bool false) rfl (Zf rfl rfl (.bool false) rfl (Za rfl rfl (Za rfl rfl (Za rfl rfl (Zg rfl rfl (.bool false) rfl ?_))))))))))))))))))
  refine Zp (Zbz (G := G) false) (vals := [.bool false]) (res' := Iv 60) rfl rfl rfl rfl rfl rfl ?_
  refine Zd rfl rfl (Iv 60) rfl (Zb (Zc (Zq (Zo ?_))))
  rw [show Zet e = 60 from if_neg (fun q => by rcases (Zbp e).1 q with q | q | q <;> first | omega | (exact absurd (by first | exact q.2.2.2.2.2.2 | exact q.2.2.2.2 | exact q.2.2) (Bool.eq_false_iff.1 (by assumption))))]
  exact Zi (v := Iv 60) rfl rfl rfl (by kernel_rfl) rfl
  refine Zp ((Za6 (G := G) e.client 1 3).res (congrArg Value.bool (Zt (by omega)))) (vals := [Iv e.client, Iv 1, Iv 3]) (res' := .bool false) rfl rfl rfl rfl rfl rfl ?_
  refine Zf rfl rfl (.bool false) rfl (Za rfl rfl (Za rfl rfl (Za rfl rfl (Zg rfl rfl (.bool false) rfl (Zf rfl rfl (.bool false) rfl (Za rfl rfl (Za rfl rfl (Za rfl rfl (Za rfl rfl (Zg rfl rfl (.bool false) rfl (Zd rfl rfl (.bool false) rfl (Zb (Z2 (Zc (Zk (Zm (Zf rfl rfl (.bool false) rfl (Zf rfl rfl (.bool false) rfl (Za rfl rfl (Za rfl rfl (Za rfl rfl (Zg rfl rfl (.bool false) rfl ?_))))))))))))))))))))))
  refine Zp (Zbz (G := G) false) (vals := [.bool false]) (res' := Iv 60) rfl rfl rfl rfl rfl rfl ?_
  refine Zd rfl rfl (Iv 60) rfl (Zb (Zc (Zq (Zo ?_))))
  rw [show Zet e = 60 from if_neg (fun q => by rcases (Zbp e).1 q with q | q | q <;> first | omega | (exact absurd (by first | exact q.2.2.2.2.2.2 | exact q.2.2.2.2 | exact q.2.2) (Bool.eq_false_iff.1 (by assumption))))]
  exact Zi (v := Iv 60) rfl rfl rfl (by kernel_rfl) rfl
  refine Zp ((Za6 (G := G) e.client 1 3).res (congrArg Value.bool (Zt (by omega)))) (vals := [Iv e.client, Iv 1, Iv 3]) (res' := .bool false) rfl rfl rfl rfl rfl rfl ?_
  refine Zf rfl rfl (.bool false) rfl (Za rfl rfl (Za rfl rfl (Za rfl rfl (Zg rfl rfl (.bool false) rfl (Zf rfl rfl (.bool false) rfl (Za rfl rfl (Za rfl rfl (Za rfl rfl (Za rfl rfl (Zg rfl rfl (.bool false) rfl (Zd rfl rfl (.bool false) rfl (Zb (Z2 (Zc (Zk (Zm (Zf rfl rfl (.bool false) rfl (Zf rfl rfl (.bool false) rfl (Za rfl rfl (Za rfl rfl (Za rfl rfl (Zg rfl rfl (.bool false) rfl ?_))))))))))))))))))))))
  refine Zp (Zbz (G := G) false) (vals := [.bool false]) (res' := Iv 60) rfl rfl rfl rfl rfl rfl ?_
  refine Zd rfl rfl (Iv 60) rfl (Zb (Zc (Zq (Zo ?_))))
  rw [show Zet e = 60 from if_neg (fun q => by rcases (Zbp e).1 q with q | q | q <;> first | omega | (exact absurd (by first | exact q.2.2.2.2.2.2 | exact q.2.2.2.2 | exact q.2.2) (Bool.eq_false_iff.1 (by assumption))))]
  exact Zi (v := Iv 60) rfl rfl rfl (by kernel_rfl) rfl
  refine Zn (vx := Iv e.kind) (vy := Iv 1) rfl rfl (.bool false) rfl rfl (Zbf (by omega)) ?_
  refine Zd rfl rfl (.bool false) rfl (Zb (Zc (Zx rfl (Zk (Zm ?_)))))
  by_cases h8 : e.kind = 2
  refine Zn (vx := Iv e.kind) (vy := Iv 2) rfl rfl (.bool true) rfl rfl (Zao (by omega)) ?_
  refine Zd rfl rfl (.bool true) rfl (Zb (Zc (Z4 rfl (Zk (Zm ?_)))))
  refine Ze (b := 0) (o := 0) (n := 4) (o' := 4) rfl rfl rfl rfl rfl ?_
  refine Zl (p := pt 0 4) (v := Zb3 e.head) rfl rfl rfl (by kernel_rfl) ?_
  refine Ze (b := 1) (o := 0) (n := 4) (o' := 4) rfl rfl rfl rfl rfl ?_
  refine Zaa (p := pt 1 4) (v := Zb3 e.head) (b := 1) (blk := bxB 109 (Zcp (⟨e.kind, 0, 0, ⟨#[]⟩, e.head, (⟨0, 0, 0, 0, dz⟩ : Claim)⟩ : Entry))) (H' := [bxB 109 (Zcp e), bxB 109 (Zcp (⟨e.kind, 0, 0, ⟨#[]⟩, e.head, (⟨0, 0, 0, 0, dz⟩ : Claim)⟩ : Entry))]) rfl rfl rfl (by kernel_rfl) (by kernel_rfl) ?_
  refine Zb (Zc (Zm ?_))
  refine Ze (b := 1) (o := 0) (n := 4) (o' := 4) rfl rfl rfl rfl rfl ?_
  refine Ze (b := 1) (o := 4) (n := 0) (o' := 4) rfl rfl rfl rfl rfl ?_
  refine Zl (p := pt 1 4) (v := Zg3 e.head.head) rfl rfl rfl (by kernel_rfl) ?_
  refine Zp (Zt4 (G := G) e.head.head) (vals := [Zg3 e.head.head]) (res' := Iv (Zb4 e.head.head)) rfl rfl rfl rfl rfl rfl ?_
  by_cases h9 : (Zb4 e.head.head) = 0
  refine Zn (vx := Iv (Zb4 e.head.head)) (vy := Iv 0) rfl rfl (.bool true) rfl rfl (Zao (by omega)) ?_
  refine Zf rfl rfl (.bool true) rfl ?_
  refine Ze (b := 1) (o := 0) (n := 4) (o' := 4) rfl rfl rfl rfl rfl ?_
  refine Ze (b := 1) (o := 4) (n := 36) (o' := 40) rfl rfl rfl rfl rfl ?_
  refine Zl (p := pt 1 40) (v := Iv e.head.node) rfl rfl rfl (by kernel_rfl) ?_
  by_cases h10 : 1 ≤ e.head.node
  by_cases h11 : e.head.node ≤ 3
  refine Zp ((Za6 (G := G) e.head.node 1 3).res (congrArg Value.bool (Zaf (by omega) (by omega)))) (vals := [Iv e.head.node, Iv 1, Iv 3]) (res' := .bool true) rfl rfl rfl rfl rfl rfl ?_
  refine Zg rfl rfl (.bool true) rfl (Zd rfl rfl (.bool true) rfl (Zb (Z2 (Zc (Zk (Zm (Zf rfl rfl (.bool true) rfl (Zf rfl rfl (.bool true) rfl ?_))))))))
  refine Zl (p := pt 1 0) (v := Zcn (⟨e.kind, 0, 0, ⟨#[]⟩, e.head, (⟨0, 0, 0, 0, dz⟩ : Claim)⟩ : Entry)) rfl rfl rfl (by kernel_rfl) ?_
  refine Zl (p := pt 0 0) (v := Zcn e) rfl rfl rfl (by kernel_rfl) ?_
  rcases Bool.eq_false_or_eq_true (Zfa (⟨e.kind, 0, 0, ⟨#[]⟩, e.head, (⟨0, 0, 0, 0, dz⟩ : Claim)⟩ : Entry) e) with h12 | h12
  refine Zn (vx := Zcn (⟨e.kind, 0, 0, ⟨#[]⟩, e.head, (⟨0, 0, 0, 0, dz⟩ : Claim)⟩ : Entry)) (vy := Zcn e) rfl rfl (.bool true) rfl rfl (Eq.trans (Zfk (⟨e.kind, 0, 0, ⟨#[]⟩, e.head, (⟨0, 0, 0, 0, dz⟩ : Claim)⟩ : Entry) e) (by rw [h12] <;> rfl)) ?_
  refine Zg rfl rfl (.bool true) rfl ?_
  refine Zp (Zbz (G := G) true) (vals := [.bool true]) (res' := Iv 0) rfl rfl rfl rfl rfl rfl ?_
  refine Zd rfl rfl (Iv 0) rfl (Zb (Zc (Zq (Zo ?_))))
  rw [show Zet e = 0 from if_pos ((Zbp e).2 (by first | exact .inl ⟨by omega, by omega, by omega, by omega, by omega, by omega, by assumption⟩ | exact .inr (.inl ⟨by omega, by omega, by omega, by omega, by assumption⟩) | exact .inr (.inr ⟨by omega, by omega, by assumption⟩)))]
  exact Zi (v := Iv 0) rfl rfl rfl (by kernel_rfl) rfl
  refine Zn (vx := Zcn (⟨e.kind, 0, 0, ⟨#[]⟩, e.head, (⟨0, 0, 0, 0, dz⟩ : Claim)⟩ : Entry)) (vy := Zcn e) rfl rfl (.bool false) rfl rfl (Eq.trans (Zfk (⟨e.kind, 0, 0, ⟨#[]⟩, e.head, (⟨0, 0, 0, 0, dz⟩ : Claim)⟩ : Entry) e) (by rw [h12] <;> rfl)) ?_
  refine Zg rfl rfl (.bool false) rfl ?_
  refine Zp (Zbz (G := G) false) (vals := [.bool false]) (res' := Iv 60) rfl rfl rfl rfl rfl rfl ?_
  refine Zd rfl rfl (Iv 60) rfl (Zb (Zc (Zq (Zo ?_))))
  rw [show Zet e = 60 from if_neg (fun q => by rcases (Zbp e).1 q with q | q | q <;> first | omega | (exact absurd (by first | exact q.2.2.2.2.2.2 | exact q.2.2.2.2 | exact q.2.2) (Bool.eq_false_iff.1 (by assumption))))]
  exact Zi (v := Iv 60) rfl rfl rfl (by kernel_rfl) rfl
  refine Zp ((Za6 (G := G) e.head.node 1 3).res (congrArg Value.bool (Zt (by omega)))) (vals := [Iv e.head.node, Iv 1, Iv 3]) (res' := .bool false) rfl rfl rfl rfl rfl rfl ?_
  refine Zg rfl rfl (.bool false) rfl (Zd rfl rfl (.bool false) rfl (Zb (Z2 (Zc (Zk (Zm (Zf rfl rfl (.bool false) rfl (Zf rfl rfl (.bool false) rfl (Za rfl rfl (Za rfl rfl (Za rfl rfl (Zg rfl rfl (.bool false) rfl ?_))))))))))))
  refine Zp (Zbz (G := G) false) (vals := [.bool false]) (res' := Iv 60) rfl rfl rfl rfl rfl rfl ?_
  refine Zd rfl rfl (Iv 60) rfl (Zb (Zc (Zq (Zo ?_))))
  rw [show Zet e = 60 from if_neg (fun q => by rcases (Zbp e).1 q with q | q | q <;> first | omega | (exact absurd (by first | exact q.2.2.2.2.2.2 | exact q.2.2.2.2 | exact q.2.2) (Bool.eq_false_iff.1 (by assumption))))]
  exact Zi (v := Iv 60) rfl rfl rfl (by kernel_rfl) rfl
  refine Zp ((Za6 (G := G) e.head.node 1 3).res (congrArg Value.bool (Zt (by omega)))) (vals := [Iv e.head.node, Iv 1, Iv 3]) (res' := .bool false) rfl rfl rfl rfl rfl rfl ?_
  refine Zg rfl rfl (.bool false) rfl (Zd rfl rfl (.bool false) rfl (Zb (Z2 (Zc (Zk (Zm (Zf rfl rfl (.bool false) rfl (Zf rfl rfl (.bool false) rfl (Za rfl rfl (Za rfl rfl (Za rfl rfl (Zg rfl rfl (.bool false) rfl ?_))))))))))))
  refine Zp (Zbz (G := G) false) (vals := [.bool false]) (res' := Iv 60) rfl rfl rfl rfl rfl rfl ?_
  refine Zd rfl rfl (Iv 60) rfl (Zb (Zc (Zq (Zo ?_))))
  rw [show Zet e = 60 from if_neg (fun q => by rcases (Zbp e).1 q with q | q | q <;> first | omega | (exact absurd (by first | exact q.2.2.2.2.2.2 | exact q.2.2.2.2 | exact q.2.2) (Bool.eq_false_iff.1 (by assumption))))]
  exact Zi (v := Iv 60) rfl rfl rfl (by kernel_rfl) rfl
  refine Zn (vx := Iv (Zb4 e.head.head)) (vy := Iv 0) rfl rfl (.bool false) rfl rfl (Zbf (by omega)) ?_
  refine Zf rfl rfl (.bool false) rfl (Za rfl rfl (Za rfl rfl (Za rfl rfl (Za rfl rfl (Zg rfl rfl (.bool false) rfl (Zd rfl rfl (.bool false) rfl (Zb (Z2 (Zc (Zk (Zm (Zf rfl rfl (.bool false) rfl (Zf rfl rfl (.bool false) rfl (Za rfl rfl (Za rfl rfl (Za rfl rfl (Zg rfl rfl (.bool false) rfl ?_)))))))))))))))))
  refine Zp (Zbz (G := G) false) (vals := [.bool false]) (res' := Iv 60) rfl rfl rfl rfl rfl rfl ?_
  refine Zd rfl rfl (Iv 60) rfl (Zb (Zc (Zq (Zo ?_))))
  rw [show Zet e = 60 from if_neg (fun q => by rcases (Zbp e).1 q with q | q | q <;> first | omega | (exact absurd (by first | exact q.2.2.2.2.2.2 | exact q.2.2.2.2 | exact q.2.2) (Bool.eq_false_iff.1 (by assumption))))]
  exact Zi (v := Iv 60) rfl rfl rfl (by kernel_rfl) rfl
  refine Zn (vx := Iv e.kind) (vy := Iv 2) rfl rfl (.bool false) rfl rfl (Zbf (by omega)) ?_
  refine Zd rfl rfl (.bool false) rfl (Zb (Zc (Zx rfl (Zk (Zm ?_)))))
  by_cases h13 : e.kind = 3
  refine Zn (vx := Iv e.kind) (vy := Iv 3) rfl rfl (.bool true) rfl rfl (Zao (by omega)) ?_
  refine Zd rfl rfl (.bool true) rfl (Zb (Zc (Z4 rfl (Zk (Zm ?_)))))
  refine Ze (b := 0) (o := 0) (n := 73) (o' := 73) rfl rfl rfl rfl rfl ?_
  refine Zl (p := pt 0 73) (v := Z3 e.claim) rfl rfl rfl (by kernel_rfl) ?_
  refine Ze (b := 1) (o := 0) (n := 73) (o' := 73) rfl rfl rfl rfl rfl ?_
  refine Zaa (p := pt 1 73) (v := Z3 e.claim) (b := 1) (blk := bxB 109 (Zcp (⟨e.kind, 0, 0, ⟨#[]⟩, (⟨(⟨0, 0, 0, dz, 0⟩ : Head), 0, dz⟩ : Signed), e.claim⟩ : Entry))) (H' := [bxB 109 (Zcp e), bxB 109 (Zcp (⟨e.kind, 0, 0, ⟨#[]⟩, (⟨(⟨0, 0, 0, dz, 0⟩ : Head), 0, dz⟩ : Signed), e.claim⟩ : Entry))]) rfl rfl rfl (by kernel_rfl) (by kernel_rfl) ?_
  refine Zb (Zc (Zm ?_))
  refine Ze (b := 1) (o := 0) (n := 73) (o' := 73) rfl rfl rfl rfl rfl ?_
  refine Zl (p := pt 1 73) (v := Z3 e.claim) rfl rfl rfl (by kernel_rfl) ?_
  refine Zp (Zh9 (G := G) e.claim) (vals := [Z3 e.claim]) (res' := Iv (Zfi e.claim)) rfl rfl rfl rfl rfl rfl ?_
  by_cases h14 : (Zfi e.claim) = 0
  refine Zn (vx := Iv (Zfi e.claim)) (vy := Iv 0) rfl rfl (.bool true) rfl rfl (Zao (by omega)) ?_
  refine Zd rfl rfl (.bool true) rfl (Zb (Z2 (Zc (Zk (Zm (Zf rfl rfl (.bool true) rfl (Zf rfl rfl (.bool true) rfl ?_)))))))
  refine Zl (p := pt 1 0) (v := Zcn (⟨e.kind, 0, 0, ⟨#[]⟩, (⟨(⟨0, 0, 0, dz, 0⟩ : Head), 0, dz⟩ : Signed), e.claim⟩ : Entry)) rfl rfl rfl (by kernel_rfl) ?_
  refine Zl (p := pt 0 0) (v := Zcn e) rfl rfl rfl (by kernel_rfl) ?_
  rcases Bool.eq_false_or_eq_true (Zfa (⟨e.kind, 0, 0, ⟨#[]⟩, (⟨(⟨0, 0, 0, dz, 0⟩ : Head), 0, dz⟩ : Signed), e.claim⟩ : Entry) e) with h15 | h15
  refine Zn (vx := Zcn (⟨e.kind, 0, 0, ⟨#[]⟩, (⟨(⟨0, 0, 0, dz, 0⟩ : Head), 0, dz⟩ : Signed), e.claim⟩ : Entry)) (vy := Zcn e) rfl rfl (.bool true) rfl rfl (Eq.trans (Zfk (⟨e.kind, 0, 0, ⟨#[]⟩, (⟨(⟨0, 0, 0, dz, 0⟩ : Head), 0, dz⟩ : Signed), e.claim⟩ : Entry) e) (by rw [h15] <;> rfl)) ?_
  refine Zg rfl rfl (.bool true) rfl ?_
  refine Zp (Zbz (G := G) true) (vals := [.bool true]) (res' := Iv 0) rfl rfl rfl rfl rfl rfl ?_
  refine Zd rfl rfl (Iv 0) rfl (Zb (Zc (Zq (Zo ?_))))
  rw [show Zet e = 0 from if_pos ((Zbp e).2 (by first | exact .inl ⟨by omega, by omega, by omega, by omega, by omega, by omega, by assumption⟩ | exact .inr (.inl ⟨by omega, by omega, by omega, by omega, by assumption⟩) | exact .inr (.inr ⟨by omega, by omega, by assumption⟩)))]
  exact Zi (v := Iv 0) rfl rfl rfl (by kernel_rfl) rfl
  refine Zn (vx := Zcn (⟨e.kind, 0, 0, ⟨#[]⟩, (⟨(⟨0, 0, 0, dz, 0⟩ : Head), 0, dz⟩ : Signed), e.claim⟩ : Entry)) (vy := Zcn e) rfl rfl (.bool false) rfl rfl (Eq.trans (Zfk (⟨e.kind, 0, 0, ⟨#[]⟩, (⟨(⟨0, 0, 0, dz, 0⟩ : Head), 0, dz⟩ : Signed), e.claim⟩ : Entry) e) (by rw [h15] <;> rfl)) ?_
  refine Zg rfl rfl (.bool false) rfl ?_
  refine Zp (Zbz (G := G) false) (vals := [.bool false]) (res' := Iv 60) rfl rfl rfl rfl rfl rfl ?_
  refine Zd rfl rfl (Iv 60) rfl (Zb (Zc (Zq (Zo ?_))))
  rw [show Zet e = 60 from if_neg (fun q => by rcases (Zbp e).1 q with q | q | q <;> first | omega | (exact absurd (by first | exact q.2.2.2.2.2.2 | exact q.2.2.2.2 | exact q.2.2) (Bool.eq_false_iff.1 (by assumption))))]
  exact Zi (v := Iv 60) rfl rfl rfl (by kernel_rfl) rfl
  refine Zn (vx := Iv (Zfi e.claim)) (vy := Iv 0) rfl rfl (.bool false) rfl rfl (Zbf (by omega)) ?_
  refine Zd rfl rfl (.bool false) rfl (Zb (Z2 (Zc (Zk (Zm (Zf rfl rfl (.bool false) rfl (Zf rfl rfl (.bool false) rfl (Za rfl rfl (Za rfl rfl (Za rfl rfl (Zg rfl rfl (.bool false) rfl ?_)))))))))))
  refine Zp (Zbz (G := G) false) (vals := [.bool false]) (res' := Iv 60) rfl rfl rfl rfl rfl rfl ?_
  refine Zd rfl rfl (Iv 60) rfl (Zb (Zc (Zq (Zo ?_))))
  rw [show Zet e = 60 from if_neg (fun q => by rcases (Zbp e).1 q with q | q | q <;> first | omega | (exact absurd (by first | exact q.2.2.2.2.2.2 | exact q.2.2.2.2 | exact q.2.2) (Bool.eq_false_iff.1 (by assumption))))]
  exact Zi (v := Iv 60) rfl rfl rfl (by kernel_rfl) rfl
  refine Zn (vx := Iv e.kind) (vy := Iv 3) rfl rfl (.bool false) rfl rfl (Zbf (by omega)) ?_
  refine Zd rfl rfl (.bool false) rfl (Zb (Zc (Zx rfl (Z8 (Z2 (Zc (Zk (Zm (Zf rfl rfl (.bool false) rfl (Zf rfl rfl (.bool false) rfl (Za rfl rfl (Za rfl rfl (Za rfl rfl (Zg rfl rfl (.bool false) rfl ?_))))))))))))))
  refine Zp (Zbz (G := G) false) (vals := [.bool false]) (res' := Iv 60) rfl rfl rfl rfl rfl rfl ?_
  refine Zd rfl rfl (Iv 60) rfl (Zb (Zc (Zq (Zo ?_))))
  rw [show Zet e = 60 from if_neg (fun q => by rcases (Zbp e).1 q with q | q | q <;> first | omega | (exact absurd (by first | exact q.2.2.2.2.2.2 | exact q.2.2.2.2 | exact q.2.2) (Bool.eq_false_iff.1 (by assumption))))]
  exact Zi (v := Iv 60) rfl rfl rfl (by kernel_rfl) rfl
theorem Zni (e : Entry) : Zak Try.prog G 63 [Zcn e] [] (.bool (decide (Zbq e))) [] := by
  refine Zb5 (fn := Try.f63) (nt := 85) rfl rfl rfl rfl ?_
  refine Za5 1 (H' := [hole]) rfl ?_
  refine Zk (Zm ?_)
  refine Zch (v := Zcn e) (b := bxB 109 (Zcp e)) (nid := 0) (H' := [bxB 109 (Zcp e)]) rfl rfl rfl (by kernel_rfl) (by kernel_rfl) ?_
  refine Zd rfl rfl (.bool false) rfl (Zb (Zc (Zk (Zk (Zm ?_)))))
  refine Ze (b := 0) (o := 0) (n := 0) (o' := 0) rfl rfl rfl rfl rfl ?_
  refine Zl (p := pt 0 0) (v := Iv e.kind) rfl rfl rfl (by kernel_rfl) ?_
  refine Zb (Zc (Zbm (Zk (Zm ?_))))
  by_cases h1 : e.kind = 1
  refine Zn (vx := Iv e.kind) (vy := Iv 1) rfl rfl (.bool true) rfl rfl (Zao (by omega)) ?_
  refine Zd rfl rfl (.bool true) rfl (Zb (Zc (Z4 rfl (Zk (Zm ?_)))))
  refine Ze (b := 0) (o := 0) (n := 1) (o' := 1) rfl rfl rfl rfl rfl ?_
  refine Zl (p := pt 0 1) (v := Iv e.client) rfl rfl rfl (by kernel_rfl) ?_
  by_cases h2 : 1 ≤ e.client
  by_cases h3 : e.client ≤ 3
  refine Zp ((Zav (G := G) e.client 1 3).res (congrArg Value.bool (Zaf (by omega) (by omega)))) (vals := [Iv e.client, Iv 1, Iv 3]) (res' := .bool true) rfl rfl rfl rfl rfl rfl ?_
  refine Zf rfl rfl (.bool true) rfl ?_
  refine Ze (b := 0) (o := 0) (n := 2) (o' := 2) rfl rfl rfl rfl rfl ?_
  refine Zl (p := pt 0 2) (v := Iv e.seq) rfl rfl rfl (by kernel_rfl) ?_
  by_cases h4 : 1 ≤ e.seq
  by_cases h5 : e.seq ≤ 1000000
  refine Zp ((Zav (G := G) e.seq 1 1000000).res (congrArg Value.bool (Zaf (by omega) (by omega)))) (vals := [Iv e.seq, Iv 1, Iv 1000000]) (res' := .bool true) rfl rfl rfl rfl rfl rfl ?_
  refine Zg rfl rfl (.bool true) rfl (Zf rfl rfl (.bool true) rfl ?_)
  refine Ze (b := 0) (o := 0) (n := 3) (o' := 3) rfl rfl rfl rfl rfl ?_
  refine Zl (p := pt 0 3) (v := .string e.text) rfl rfl rfl (by kernel_rfl) ?_
  refine Zci (p := .string e.text) (v := Iv (e.text.size : Nat)) rfl rfl rfl rfl ?_
  by_cases h6 : (e.text.size : Nat) ≤ 200
  refine Zn (vx := Iv (e.text.size : Nat)) (vy := Iv 200) rfl rfl (.bool true) rfl rfl (Zh8 (by omega)) ?_
  refine Zg rfl rfl (.bool true) rfl (Zf rfl rfl (.bool true) rfl ?_)
  refine Ze (b := 0) (o := 0) (n := 4) (o' := 4) rfl rfl rfl rfl rfl ?_
  refine Zl (p := pt 0 4) (v := Zb3 e.head) rfl rfl rfl (by kernel_rfl) ?_
  refine Zbj (vs := []) (v := Zb3 (⟨(⟨0, 0, 0, dz, 0⟩ : Head), 0, dz⟩ : Signed)) rfl rfl rfl (by kernel_rfl) ?_
  rcases Bool.eq_false_or_eq_true (Zc4 e.head (⟨(⟨0, 0, 0, dz, 0⟩ : Head), 0, dz⟩ : Signed)) with h7 | h7
  refine Zn (vx := Zb3 e.head) (vy := Zb3 (⟨(⟨0, 0, 0, dz, 0⟩ : Head), 0, dz⟩ : Signed)) rfl rfl (.bool true) rfl rfl (Eq.trans (Zgs e.head (⟨(⟨0, 0, 0, dz, 0⟩ : Head), 0, dz⟩ : Signed)) (by rw [h7] <;> rfl)) ?_
  refine Zg rfl rfl (.bool true) rfl (Zf rfl rfl (.bool true) rfl ?_)
  refine Ze (b := 0) (o := 0) (n := 73) (o' := 73) rfl rfl rfl rfl rfl ?_
  refine Zl (p := pt 0 73) (v := Z3 e.claim) rfl rfl rfl (by kernel_rfl) ?_
  refine Zbj (vs := []) (v := Z3 (⟨0, 0, 0, 0, dz⟩ : Claim)) rfl rfl rfl (by kernel_rfl) ?_
  rcases Bool.eq_false_or_eq_true (Zw e.claim (⟨0, 0, 0, 0, dz⟩ : Claim)) with h8 | h8
  refine Zn (vx := Z3 e.claim) (vy := Z3 (⟨0, 0, 0, 0, dz⟩ : Claim)) rfl rfl (.bool true) rfl rfl (Eq.trans (Zcm e.claim (⟨0, 0, 0, 0, dz⟩ : Claim)) (by rw [h8] <;> rfl)) ?_
  refine Zg rfl rfl (.bool true) rfl (Zd rfl rfl (.bool true) rfl (Zb (Zc (Zq (Zz (Zv (Zo ?_)))))))
  rw [show decide (Zbq e) = true from decide_eq_true (by first | exact .inl ⟨by omega, by omega, by omega, by omega, by omega, by omega, by assumption, by assumption⟩ | exact .inr (.inl ⟨by omega, by omega, by omega, (Za7 _ _).1 (by assumption), of_decide_eq_true (by assumption), by assumption⟩) | exact .inr (.inr ⟨by omega, by omega, by omega, (Za7 _ _).1 (by assumption), by assumption, of_decide_eq_true (by assumption)⟩))]
  exact Zi (v := .bool true) rfl rfl rfl (by kernel_rfl) rfl
  refine Zn (vx := Z3 e.claim) (vy := Z3 (⟨0, 0, 0, 0, dz⟩ : Claim)) rfl rfl (.bool false) rfl rfl (Eq.trans (Zcm e.claim (⟨0, 0, 0, 0, dz⟩ : Claim)) (by rw [h8] <;> rfl)) ?_
  refine Zg rfl rfl (.bool false) rfl (Zd rfl rfl (.bool false) rfl (Zb (Zc (Zq (Zz (Zv (Zo ?_)))))))
  rw [show decide (Zbq e) = false from decide_eq_false (fun q => by rcases q with ⟨q1, q2, q3, q4, q5, q6, q7, q8⟩ | ⟨q1, q2, q3, q4, q5, q6⟩ | ⟨q1, q2, q3, q4, q5, q6⟩ <;> first | omega | (exact absurd ((Za7 _ _).2 q4) (by rw [‹Zdk _ _ = false›]; decide)) | (simp [*] at *; done) | (simp_all; done))]
  exact Zi (v := .bool false) rfl rfl rfl (by kernel_rfl) rfl
  refine Zn (vx := Zb3 e.head) (vy := Zb3 (⟨(⟨0, 0, 0, dz, 0⟩ : Head), 0, dz⟩ : Signed)) rfl rfl (.bool false) rfl rfl (Eq.trans (Zgs e.head (⟨(⟨0, 0, 0, dz, 0⟩ : Head), 0, dz⟩ : Signed)) (by rw [h7] <;> rfl)) ?_
  refine Zg rfl rfl (.bool false) rfl (Zf rfl rfl (.bool false) rfl (Za rfl rfl (Za rfl rfl (Za rfl rfl (Za rfl rfl (Zg rfl rfl (.bool false) rfl (Zd rfl rfl (.bool false) rfl (Zb (Zc (Zq (Zz (Zv (Zo ?_)))))))))))))
  rw [show decide (Zbq e) = false from decide_eq_false (fun q => by rcases q with ⟨q1, q2, q3, q4, q5, q6, q7, q8⟩ | ⟨q1, q2, q3, q4, q5, q6⟩ | ⟨q1, q2, q3, q4, q5, q6⟩ <;> first | omega | (exact absurd ((Za7 _ _).2 q4) (by rw [‹Zdk _ _ = false›]; decide)) | (simp [*] at *; done) | (simp_all; done))]
  exact Zi (v := .bool false) rfl rfl rfl (by kernel_rfl) rfl
  refine Zn (vx := Iv (e.text.size : Nat)) (vy := Iv 200) rfl rfl (.bool false) rfl rfl (Zh7 (by omega)) ?_
  refine Zg rfl rfl (.bool false) rfl (Zf rfl rfl (.bool false) rfl (Za rfl rfl (Za rfl rfl (Za rfl rfl (Za rfl rfl (Zg rfl rfl (.bool false) rfl (Zf rfl rfl (.bool false) rfl (Za rfl rfl (Za rfl rfl (Za rfl rfl (Za rfl rfl (Zg rfl rfl (.bool false) rfl (Zd rfl rfl (.bool false) rfl (Zb (Zc (Zq (Zz (Zv (Zo ?_)))))))))))))))))))
  rw [show decide (Zbq e) = false from decide_eq_false (fun q => by rcases q with ⟨q1, q2, q3, q4, q5, q6, q7, q8⟩ | ⟨q1, q2, q3, q4, q5, q6⟩ | ⟨q1, q2, q3, q4, q5, q6⟩ <;> first | omega | (exact absurd ((Za7 _ _).2 q4) (by rw [‹Zdk _ _ = false›]; decide)) | (simp [*] at *; done) | (simp_all; done))]
  exact Zi (v := .bool false) rfl rfl rfl (by kernel_rfl) rfl
  refine Zp ((Zav (G := G) e.seq 1 1000000).res (congrArg Value.bool (Zt (by omega)))) (vals := [Iv e.seq, Iv 1, Iv 1000000]) (res' := .bool false) rfl rfl rfl rfl rfl rfl ?_
  refine Zg rfl rfl (.bool false) rfl (Zf rfl rfl (.bool false) rfl (Za rfl rfl (Za rfl rfl (Za rfl rfl (Za rfl rfl (Zg rfl rfl (.bool false) rfl (Zf rfl rfl (.bool false) rfl (Za rfl rfl (Za rfl rfl (Za rfl rfl (Za rfl rfl (Zg rfl rfl (.bool false) rfl (Zf rfl rfl (.bool false) rfl (Za rfl rfl (Za rfl rfl (Za rfl rfl (Za rfl rfl (Zg rfl rfl (.bool false) rfl (Zd rfl rfl (.bool false) rfl (Zb (Zc (Zq (Zz (Zv (Zo ?_)))))))))))))))))))))))))
  rw [show decide (Zbq e) = false from decide_eq_false (fun q => by rcases q with ⟨q1, q2, q3, q4, q5, q6, q7, q8⟩ | ⟨q1, q2, q3, q4, q5, q6⟩ | ⟨q1, q2, q3, q4, q5, q6⟩ <;> first | omega | (exact absurd ((Za7 _ _).2 q4) (by rw [‹Zdk _ _ = false›]; decide)) | (simp [*] at *; done) | (simp_all; done))]
  exact Zi (v := .bool false) rfl rfl rfl (by kernel_rfl) rfl
  refine Zp ((Zav (G := G) e.seq 1 1000000).res (congrArg Value.bool (Zt (by omega)))) (vals := [Iv e.seq, Iv 1, Iv 1000000]) (res' := .bool false) rfl rfl rfl rfl rfl rfl ?_
  refine Zg rfl rfl (.bool false) rfl (Zf rfl rfl (.bool false) rfl (Za rfl rfl (Za rfl rfl (Za rfl rfl (Za rfl rfl (Zg rfl rfl (.bool false) rfl (Zf rfl rfl (.bool false) rfl (Za rfl rfl (Za rfl rfl (Za rfl rfl (Za rfl rfl (Zg rfl rfl (.bool false) rfl (Zf rfl rfl (.bool false) rfl (Za rfl rfl (Za rfl rfl (Za rfl rfl (Za rfl rfl (Zg rfl rfl (.bool false) rfl (Zd rfl rfl (.bool false) rfl (Zb (Zc (Zq (Zz (Zv (Zo ?_)))))))))))))))))))))))))
  rw [show decide (Zbq e) = false from decide_eq_false (fun q => by rcases q with ⟨q1, q2, q3, q4, q5, q6, q7, q8⟩ | ⟨q1, q2, q3, q4, q5, q6⟩ | ⟨q1, q2, q3, q4, q5, q6⟩ <;> first | omega | (exact absurd ((Za7 _ _).2 q4) (by rw [‹Zdk _ _ = false›]; decide)) | (simp [*] at *; done) | (simp_all; done))]
  exact Zi (v := .bool false) rfl rfl rfl (by kernel_rfl) rfl
  refine Zp ((Zav (G := G) e.client 1 3).res (congrArg Value.bool (Zt (by omega)))) (vals := [Iv e.client, Iv 1, Iv 3]) (res' := .bool false) rfl rfl rfl rfl rfl rfl ?_
  refine Zf rfl rfl (.bool false) rfl (Za rfl rfl (Za rfl rfl (Za rfl rfl (Zg rfl rfl (.bool false) rfl (Zf rfl rfl (.bool false) rfl (Za rfl rfl (Za rfl rfl (Za rfl rfl (Za rfl rfl (Zg rfl rfl (.bool false) rfl (Zf rfl rfl (.bool false) rfl (Za rfl rfl (Za rfl rfl (Za rfl rfl (Za rfl rfl (Zg rfl rfl (.bool false) rfl (Zf rfl rfl (.bool false) rfl (Za rfl rfl (Za rfl rfl (Za rfl rfl (Za rfl rfl (Zg rfl rfl (.bool false) rfl ?_))))))))))))))))))))))
  refine Zd rfl rfl (.bool false) rfl (Zb (Zc (Zq (Zz (Zv (Zo ?_))))))
  rw [show decide (Zbq e) = false from decide_eq_false (fun q => by rcases q with ⟨q1, q2, q3, q4, q5, q6, q7, q8⟩ | ⟨q1, q2, q3, q4, q5, q6⟩ | ⟨q1, q2, q3, q4, q5, q6⟩ <;> first | omega | (exact absurd ((Za7 _ _).2 q4) (by rw [‹Zdk _ _ = false›]; decide)) | (simp [*] at *; done) | (simp_all; done))]
  exact Zi (v := .bool false) rfl rfl rfl (by kernel_rfl) rfl
  refine Zp ((Zav (G := G) e.client 1 3).res (congrArg Value.bool (Zt (by omega)))) (vals := [Iv e.client, Iv 1, Iv 3]) (res' := .bool false) rfl rfl rfl rfl rfl rfl ?_
  refine Zf rfl rfl (.bool false) rfl (Za rfl rfl (Za rfl rfl (Za rfl rfl (Zg rfl rfl (.bool false) rfl (Zf rfl rfl (.bool false) rfl (Za rfl rfl (Za rfl rfl (Za rfl rfl (Za rfl rfl (Zg rfl rfl (.bool false) rfl (Zf rfl rfl (.bool false) rfl (Za rfl rfl (Za rfl rfl (Za rfl rfl (Za rfl rfl (Zg rfl rfl (.bool false) rfl (Zf rfl rfl (.bool false) rfl (Za rfl rfl (Za rfl rfl (Za rfl rfl (Za rfl rfl (Zg rfl rfl (.bool false) rfl ?_))))))))))))))))))))))
  refine Zd rfl rfl (.bool false) rfl (Zb (Zc (Zq (Zz (Zv (Zo ?_))))))
  rw [show decide (Zbq e) = false from decide_eq_false (fun q => by rcases q with ⟨q1, q2, q3, q4, q5, q6, q7, q8⟩ | ⟨q1, q2, q3, q4, q5, q6⟩ | ⟨q1, q2, q3, q4, q5, q6⟩ <;> first | omega | (exact absurd ((Za7 _ _).2 q4) (by rw [‹Zdk _ _ = false›]; decide)) | (simp [*] at *; done) | (simp_all; done))]
  exact Zi (v := .bool false) rfl rfl rfl (by kernel_rfl) rfl
  refine Zn (vx := Iv e.kind) (vy := Iv 1) rfl rfl (.bool false) rfl rfl (Zbf (by omega)) ?_
  refine Zd rfl rfl (.bool false) rfl (Zb (Zc (Zx rfl (Zk (Zm ?_)))))
  by_cases h9 : e.kind = 2
  refine Zn (vx := Iv e.kind) (vy := Iv 2) rfl rfl (.bool true) rfl rfl (Zao (by omega)) ?_
  refine Zd rfl rfl (.bool true) rfl (Zb (Zc (Z4 rfl (Zk (Zm ?_)))))
  refine Ze (b := 0) (o := 0) (n := 1) (o' := 1) rfl rfl rfl rfl rfl ?_
  refine Zl (p := pt 0 1) (v := Iv e.client) rfl rfl rfl (by kernel_rfl) ?_
  by_cases h10 : e.client = 0
  refine Zn (vx := Iv e.client) (vy := Iv 0) rfl rfl (.bool true) rfl rfl (Zao (by omega)) ?_
  refine Zf rfl rfl (.bool true) rfl ?_
  refine Ze (b := 0) (o := 0) (n := 2) (o' := 2) rfl rfl rfl rfl rfl ?_
  refine Zl (p := pt 0 2) (v := Iv e.seq) rfl rfl rfl (by kernel_rfl) ?_
  by_cases h11 : e.seq = 0
  refine Zn (vx := Iv e.seq) (vy := Iv 0) rfl rfl (.bool true) rfl rfl (Zao (by omega)) ?_
  refine Zg rfl rfl (.bool true) rfl (Zf rfl rfl (.bool true) rfl ?_)
  refine Ze (b := 0) (o := 0) (n := 3) (o' := 3) rfl rfl rfl rfl rfl ?_
  refine Zl (p := pt 0 3) (v := .string e.text) rfl rfl rfl (by kernel_rfl) ?_
  rcases Bool.eq_false_or_eq_true (Zdk e.text ⟨#[]⟩) with h12 | h12
  · have hzh12 := Zj9 h12
    refine Zn (vx := .string e.text) (vy := .string ⟨#[]⟩) rfl rfl (.bool true) rfl rfl (Eq.trans (Zkv _ _) (by rw [h12] <;> rfl)) ?_
    refine Zg rfl rfl (.bool true) rfl (Zf rfl rfl (.bool true) rfl ?_)
    refine Ze (b := 0) (o := 0) (n := 4) (o' := 4) rfl rfl rfl rfl rfl ?_
    refine Zl (p := pt 0 4) (v := Zb3 e.head) rfl rfl rfl (by kernel_rfl) ?_
    refine Zp (Zry (G := G) e.head) (vals := [Zb3 e.head]) (res' := .bool (decide (Zjp e.head))) rfl rfl rfl rfl rfl rfl ?_
    refine Zg rfl rfl (.bool (decide (Zjp e.head))) rfl (Zf rfl rfl (.bool (decide (Zjp e.head))) rfl ?_)
    rcases Bool.eq_false_or_eq_true (decide (Zjp e.head)) with h13 | h13
    refine Ze (b := 0) (o := 0) (n := 73) (o' := 73) (by exact congrArg (fun b => some (b == true)) h13) rfl rfl rfl rfl ?_
    refine Zl (p := pt 0 73) (v := Z3 e.claim) (by exact congrArg (fun b => some (b == true)) h13) rfl rfl (by kernel_rfl) ?_
    refine Zbj (vs := []) (v := Z3 (⟨0, 0, 0, 0, dz⟩ : Claim)) (by exact congrArg (fun b => some (b == true)) h13) rfl rfl (by kernel_rfl) ?_
    rcases Bool.eq_false_or_eq_true (Zw e.claim (⟨0, 0, 0, 0, dz⟩ : Claim)) with h14 | h14
    refine Zn (vx := Z3 e.claim) (vy := Z3 (⟨0, 0, 0, 0, dz⟩ : Claim)) (by exact congrArg (fun b => some (b == true)) h13) rfl (.bool true) rfl rfl (Eq.trans (Zcm e.claim (⟨0, 0, 0, 0, dz⟩ : Claim)) (by rw [h14] <;> rfl)) ?_
    refine Zg rfl rfl (.bool true) (by show some (if _ then _ else _) = _; rw [h13] <;> rfl) ?_
    refine Zd rfl rfl (.bool true) rfl (Zb (Zc (Zq (Zz (Zv (Zo ?_))))))
    rw [show decide (Zbq e) = true from decide_eq_true (by first | exact .inl ⟨by omega, by omega, by omega, by omega, by omega, by omega, by assumption, by assumption⟩ | exact .inr (.inl ⟨by omega, by omega, by omega, (Za7 _ _).1 (by assumption), of_decide_eq_true (by assumption), by assumption⟩) | exact .inr (.inr ⟨by omega, by omega, by omega, (Za7 _ _).1 (by assumption), by assumption, of_decide_eq_true (by assumption)⟩))]
    exact Zi (v := .bool true) rfl rfl rfl (by kernel_rfl) rfl
    refine Zn (vx := Z3 e.claim) (vy := Z3 (⟨0, 0, 0, 0, dz⟩ : Claim)) (by exact congrArg (fun b => some (b == true)) h13) rfl (.bool false) rfl rfl (Eq.trans (Zcm e.claim (⟨0, 0, 0, 0, dz⟩ : Claim)) (by rw [h14] <;> rfl)) ?_
    refine Zg rfl rfl (.bool false) (by show some (if _ then _ else _) = _; rw [h13] <;> rfl) ?_
    refine Zd rfl rfl (.bool false) rfl (Zb (Zc (Zq (Zz (Zv (Zo ?_))))))
    rw [show decide (Zbq e) = false from decide_eq_false (fun q => by rcases q with ⟨q1, q2, q3, q4, q5, q6, q7, q8⟩ | ⟨q1, q2, q3, q4, q5, q6⟩ | ⟨q1, q2, q3, q4, q5, q6⟩ <;> first | omega | (exact absurd ((Za7 _ _).2 q4) (by rw [‹Zdk _ _ = false›]; decide)) | (simp [*] at *; done) | (simp_all; done))]
    exact Zi (v := .bool false) rfl rfl rfl (by kernel_rfl) rfl
    refine Za (by exact congrArg (fun b => some (b == true)) h13) rfl ?_
    refine Za (by exact congrArg (fun b => some (b == true)) h13) rfl ?_
    refine Za (by exact congrArg (fun b => some (b == true)) h13) rfl ?_
    refine Za (by exact congrArg (fun b => some (b == true)) h13) rfl ?_
    refine Zg rfl rfl (.bool false) (by show some (if _ then _ else _) = _; rw [h13] <;> rfl) ?_
    refine Zd rfl rfl (.bool false) rfl (Zb (Zc (Zq (Zz (Zv (Zo ?_))))))
    rw [show decide (Zbq e) = false from decide_eq_false (fun q => by rcases q with ⟨q1, q2, q3, q4, q5, q6, q7, q8⟩ | ⟨q1, q2, q3, q4, q5, q6⟩ | ⟨q1, q2, q3, q4, q5, q6⟩ <;> first | omega | (exact absurd ((Za7 _ _).2 q4) (by rw [‹Zdk _ _ = false›]; decide)) | (simp [*] at *; done) | (simp_all; done))]
    exact Zi (v := .bool false) rfl rfl rfl (by kernel_rfl) rfl
  have hzh12 := Zkc h12
  refine Zn (vx := .string e.text) (vy := .string ⟨#[]⟩) rfl rfl (.bool false) rfl rfl (Eq.trans (Zkv _ _) (by rw [h12] <;> rfl)) ?_
  refine Zg rfl rfl (.bool false) rfl (Zf rfl rfl (.bool false) rfl (Za rfl rfl (Za rfl rfl (Za rfl rfl (Zg rfl rfl (.bool false) rfl (Zf rfl rfl (.bool false) rfl (Za rfl rfl (Za rfl rfl (Za rfl rfl (Za rfl rfl (Zg rfl rfl (.bool false) rfl (Zd rfl rfl (.bool false) rfl (Zb (Zc (Zq (Zz (Zv (Zo ?_))))))))))))))))))
  rw [show decide (Zbq e) = false from decide_eq_false (fun q => by rcases q with ⟨q1, q2, q3, q4, q5, q6, q7, q8⟩ | ⟨q1, q2, q3, q4, q5, q6⟩ | ⟨q1, q2, q3, q4, q5, q6⟩ <;> first | omega | (exact absurd ((Za7 _ _).2 q4) (by rw [‹Zdk _ _ = false›]; decide)) | (simp [*] at *; done) | (simp_all; done))]
  exact Zi (v := .bool false) rfl rfl rfl (by kernel_rfl) rfl
  refine Zn (vx := Iv e.seq) (vy := Iv 0) rfl rfl (.bool false) rfl rfl (Zbf (by omega)) ?_
  refine Zg rfl rfl (.bool false) rfl (Zf rfl rfl (.bool false) rfl (Za rfl rfl (Za rfl rfl (Za rfl rfl (Zg rfl rfl (.bool false) rfl (Zf rfl rfl (.bool false) rfl (Za rfl rfl (Za rfl rfl (Za rfl rfl (Zg rfl rfl (.bool false) rfl (Zf rfl rfl (.bool false) rfl (Za rfl rfl (Za rfl rfl (Za rfl rfl (Za rfl rfl (Zg rfl rfl (.bool false) rfl (Zd rfl rfl (.bool false) rfl (Zb (Zc (Zq (Zz (Zv (Zo ?_)))))))))))))))))))))))
  rw [show decide (Zbq e) = false from decide_eq_false (fun q => by rcases q with ⟨q1, q2, q3, q4, q5, q6, q7, q8⟩ | ⟨q1, q2, q3, q4, q5, q6⟩ | ⟨q1, q2, q3, q4, q5, q6⟩ <;> first | omega | (exact absurd ((Za7 _ _).2 q4) (by rw [‹Zdk _ _ = false›]; decide)) | (simp [*] at *; done) | (simp_all; done))]
  exact Zi (v := .bool false) rfl rfl rfl (by kernel_rfl) rfl
  refine Zn (vx := Iv e.client) (vy := Iv 0) rfl rfl (.bool false) rfl rfl (Zbf (by omega)) ?_
  refine Zf rfl rfl (.bool false) rfl (Za rfl rfl (Za rfl rfl (Za rfl rfl (Zg rfl rfl (.bool false) rfl (Zf rfl rfl (.bool false) rfl (Za rfl rfl (Za rfl rfl (Za rfl rfl (Zg rfl rfl (.bool false) rfl (Zf rfl rfl (.bool false) rfl (Za rfl rfl (Za rfl rfl (Za rfl rfl (Zg rfl rfl (.bool false) rfl (Zf rfl rfl (.bool false) rfl (Za rfl rfl (Za rfl rfl (Za rfl rfl (Za rfl rfl (Zg rfl rfl (.bool false) rfl ?_))))))))))))))))))))
  refine Zd rfl rfl (.bool false) rfl (Zb (Zc (Zq (Zz (Zv (Zo ?_))))))
  rw [show decide (Zbq e) = false from decide_eq_false (fun q => by rcases q with ⟨q1, q2, q3, q4, q5, q6, q7, q8⟩ | ⟨q1, q2, q3, q4, q5, q6⟩ | ⟨q1, q2, q3, q4, q5, q6⟩ <;> first | omega | (exact absurd ((Za7 _ _).2 q4) (by rw [‹Zdk _ _ = false›]; decide)) | (simp [*] at *; done) | (simp_all; done))]
  exact Zi (v := .bool false) rfl rfl rfl (by kernel_rfl) rfl
  refine Zn (vx := Iv e.kind) (vy := Iv 2) rfl rfl (.bool false) rfl rfl (Zbf (by omega)) ?_
  refine Zd rfl rfl (.bool false) rfl (Zb (Zc (Zx rfl (Zk (Zm ?_)))))
  by_cases h15 : e.kind = 3
  refine Zn (vx := Iv e.kind) (vy := Iv 3) rfl rfl (.bool true) rfl rfl (Zao (by omega)) ?_
  refine Zd rfl rfl (.bool true) rfl (Zb (Zc (Z4 rfl (Zk (Zm ?_)))))
  refine Ze (b := 0) (o := 0) (n := 1) (o' := 1) rfl rfl rfl rfl rfl ?_
  refine Zl (p := pt 0 1) (v := Iv e.client) rfl rfl rfl (by kernel_rfl) ?_
  by_cases h16 : e.client = 0
  refine Zn (vx := Iv e.client) (vy := Iv 0) rfl rfl (.bool true) rfl rfl (Zao (by omega)) ?_
  refine Zf rfl rfl (.bool true) rfl ?_
  refine Ze (b := 0) (o := 0) (n := 2) (o' := 2) rfl rfl rfl rfl rfl ?_
  refine Zl (p := pt 0 2) (v := Iv e.seq) rfl rfl rfl (by kernel_rfl) ?_
  by_cases h17 : e.seq = 0
  refine Zn (vx := Iv e.seq) (vy := Iv 0) rfl rfl (.bool true) rfl rfl (Zao (by omega)) ?_
  refine Zg rfl rfl (.bool true) rfl (Zf rfl rfl (.bool true) rfl ?_)
  refine Ze (b := 0) (o := 0) (n := 3) (o' := 3) rfl rfl rfl rfl rfl ?_
  refine Zl (p := pt 0 3) (v := .string e.text) rfl rfl rfl (by kernel_rfl) ?_
  rcases Bool.eq_false_or_eq_true (Zdk e.text ⟨#[]⟩) with h18 | h18
  · have hzh18 := Zj9 h18
    refine Zn (vx := .string e.text) (vy := .string ⟨#[]⟩) rfl rfl (.bool true) rfl rfl (Eq.trans (Zkv _ _) (by rw [h18] <;> rfl)) ?_
    refine Zg rfl rfl (.bool true) rfl (Zf rfl rfl (.bool true) rfl ?_)
    refine Ze (b := 0) (o := 0) (n := 4) (o' := 4) rfl rfl rfl rfl rfl ?_
    refine Zl (p := pt 0 4) (v := Zb3 e.head) rfl rfl rfl (by kernel_rfl) ?_
    refine Zbj (vs := []) (v := Zb3 (⟨(⟨0, 0, 0, dz, 0⟩ : Head), 0, dz⟩ : Signed)) rfl rfl rfl (by kernel_rfl) ?_
    rcases Bool.eq_false_or_eq_true (Zc4 e.head (⟨(⟨0, 0, 0, dz, 0⟩ : Head), 0, dz⟩ : Signed)) with h19 | h19
    refine Zn (vx := Zb3 e.head) (vy := Zb3 (⟨(⟨0, 0, 0, dz, 0⟩ : Head), 0, dz⟩ : Signed)) rfl rfl (.bool true) rfl rfl (Eq.trans (Zgs e.head (⟨(⟨0, 0, 0, dz, 0⟩ : Head), 0, dz⟩ : Signed)) (by rw [h19] <;> rfl)) ?_
    refine Zg rfl rfl (.bool true) rfl (Zf rfl rfl (.bool true) rfl ?_)
    refine Ze (b := 0) (o := 0) (n := 73) (o' := 73) rfl rfl rfl rfl rfl ?_
    refine Zl (p := pt 0 73) (v := Z3 e.claim) rfl rfl rfl (by kernel_rfl) ?_
    refine Zp (Zjb (G := G) e.claim) (vals := [Z3 e.claim]) (res' := .bool (decide (Zaw e.claim))) rfl rfl rfl rfl rfl rfl ?_
    refine Zg rfl rfl (.bool (decide (Zaw e.claim))) rfl (Zd rfl rfl (.bool (decide (Zaw e.claim))) rfl (Zb (Zc (Zq (Zz (Zv (Zo ?_)))))))
    rw [show decide (Zbq e) = decide (Zaw e.claim) from decide_eq_decide.2 ⟨fun q => by rcases q with q | q | q <;> first | omega | exact q.2.2.2.2.2, fun q => .inr (.inr ⟨by omega, by omega, by omega, (Za7 _ _).1 (by assumption), by assumption, q⟩)⟩]
    exact Zi (v := .bool (decide (Zaw e.claim))) rfl rfl rfl (by kernel_rfl) rfl
    refine Zn (vx := Zb3 e.head) (vy := Zb3 (⟨(⟨0, 0, 0, dz, 0⟩ : Head), 0, dz⟩ : Signed)) rfl rfl (.bool false) rfl rfl (Eq.trans (Zgs e.head (⟨(⟨0, 0, 0, dz, 0⟩ : Head), 0, dz⟩ : Signed)) (by rw [h19] <;> rfl)) ?_
    refine Zg rfl rfl (.bool false) rfl (Zf rfl rfl (.bool false) rfl (Za rfl rfl (Za rfl rfl (Za rfl rfl (Zg rfl rfl (.bool false) rfl (Zd rfl rfl (.bool false) rfl (Zb (Zc (Zq (Zz (Zv (Zo ?_))))))))))))
    rw [show decide (Zbq e) = false from decide_eq_false (fun q => by rcases q with ⟨q1, q2, q3, q4, q5, q6, q7, q8⟩ | ⟨q1, q2, q3, q4, q5, q6⟩ | ⟨q1, q2, q3, q4, q5, q6⟩ <;> first | omega | (exact absurd ((Za7 _ _).2 q4) (by rw [‹Zdk _ _ = false›]; decide)) | (simp [*] at *; done) | (simp_all; done))]
    exact Zi (v := .bool false) rfl rfl rfl (by kernel_rfl) rfl
  have hzh18 := Zkc h18
  refine Zn (vx := .string e.text) (vy := .string ⟨#[]⟩) rfl rfl (.bool false) rfl rfl (Eq.trans (Zkv _ _) (by rw [h18] <;> rfl)) ?_
  refine Zg rfl rfl (.bool false) rfl (Zf rfl rfl (.bool false) rfl (Za rfl rfl (Za rfl rfl (Za rfl rfl (Za rfl rfl (Zg rfl rfl (.bool false) rfl (Zf rfl rfl (.bool false) rfl (Za rfl rfl (Za rfl rfl (Za rfl rfl (Zg rfl rfl (.bool false) rfl (Zd rfl rfl (.bool false) rfl (Zb (Zc (Zq (Zz (Zv (Zo ?_))))))))))))))))))
  rw [show decide (Zbq e) = false from decide_eq_false (fun q => by rcases q with ⟨q1, q2, q3, q4, q5, q6, q7, q8⟩ | ⟨q1, q2, q3, q4, q5, q6⟩ | ⟨q1, q2, q3, q4, q5, q6⟩ <;> first | omega | (exact absurd ((Za7 _ _).2 q4) (by rw [‹Zdk _ _ = false›]; decide)) | (simp [*] at *; done) | (simp_all; done))]
  exact Zi (v := .bool false) rfl rfl rfl (by kernel_rfl) rfl
  refine Zn (vx := Iv e.seq) (vy := Iv 0) rfl rfl (.bool false) rfl rfl (Zbf (by omega)) ?_
  refine Zg rfl rfl (.bool false) rfl (Zf rfl rfl (.bool false) rfl (Za rfl rfl (Za rfl rfl (Za rfl rfl (Zg rfl rfl (.bool false) rfl (Zf rfl rfl (.bool false) rfl (Za rfl rfl (Za rfl rfl (Za rfl rfl (Za rfl rfl (Zg rfl rfl (.bool false) rfl (Zf rfl rfl (.bool false) rfl (Za rfl rfl (Za rfl rfl (Za rfl rfl (Zg rfl rfl (.bool false) rfl (Zd rfl rfl (.bool false) rfl (Zb (Zc (Zq (Zz (Zv (Zo ?_)))))))))))))))))))))))
  rw [show decide (Zbq e) = false from decide_eq_false (fun q => by rcases q with ⟨q1, q2, q3, q4, q5, q6, q7, q8⟩ | ⟨q1, q2, q3, q4, q5, q6⟩ | ⟨q1, q2, q3, q4, q5, q6⟩ <;> first | omega | (exact absurd ((Za7 _ _).2 q4) (by rw [‹Zdk _ _ = false›]; decide)) | (simp [*] at *; done) | (simp_all; done))]
  exact Zi (v := .bool false) rfl rfl rfl (by kernel_rfl) rfl
  refine Zn (vx := Iv e.client) (vy := Iv 0) rfl rfl (.bool false) rfl rfl (Zbf (by omega)) ?_
  refine Zf rfl rfl (.bool false) rfl (Za rfl rfl (Za rfl rfl (Za rfl rfl (Zg rfl rfl (.bool false) rfl (Zf rfl rfl (.bool false) rfl (Za rfl rfl (Za rfl rfl (Za rfl rfl (Zg rfl rfl (.bool false) rfl (Zf rfl rfl (.bool false) rfl (Za rfl rfl (Za rfl rfl (Za rfl rfl (Za rfl rfl (Zg rfl rfl (.bool false) rfl (Zf rfl rfl (.bool false) rfl (Za rfl rfl (Za rfl rfl (Za rfl rfl (Zg rfl rfl (.bool false) rfl ?_))))))))))))))))))))
  refine Zd rfl rfl (.bool false) rfl (Zb (Zc (Zq (Zz (Zv (Zo ?_))))))
  rw [show decide (Zbq e) = false from decide_eq_false (fun q => by rcases q with ⟨q1, q2, q3, q4, q5, q6, q7, q8⟩ | ⟨q1, q2, q3, q4, q5, q6⟩ | ⟨q1, q2, q3, q4, q5, q6⟩ <;> first | omega | (exact absurd ((Za7 _ _).2 q4) (by rw [‹Zdk _ _ = false›]; decide)) | (simp [*] at *; done) | (simp_all; done))]
  exact Zi (v := .bool false) rfl rfl rfl (by kernel_rfl) rfl
  refine Zn (vx := Iv e.kind) (vy := Iv 3) rfl rfl (.bool false) rfl rfl (Zbf (by omega)) ?_
  refine Zd rfl rfl (.bool false) rfl (Zb (Zc (Zx rfl (Z8 (Z2 (Zc (Zk (Zm (Zd rfl rfl (.bool false) rfl (Zb (Zc (Zq (Zo ?_)))))))))))))
  rw [show decide (Zbq e) = false from decide_eq_false (fun q => by rcases q with ⟨q1, q2, q3, q4, q5, q6, q7, q8⟩ | ⟨q1, q2, q3, q4, q5, q6⟩ | ⟨q1, q2, q3, q4, q5, q6⟩ <;> first | omega | (exact absurd ((Za7 _ _).2 q4) (by rw [‹Zdk _ _ = false›]; decide)) | (simp [*] at *; done) | (simp_all; done))]
  exact Zi (v := .bool false) rfl rfl rfl (by kernel_rfl) rfl
theorem Znj (x : Item) : Zak Try.prog G 49 [Zai x] [] (.bool (decide (Zbd x))) [] := by
  refine Zb5 (fn := Try.f49) (nt := 11) rfl rfl rfl rfl ?_
  refine Za5 1 (H' := [hole]) rfl ?_
  refine Zk (Zm ?_)
  refine Zch (v := Zai x) (b := bxB 110 (Zr x)) (nid := 0) (H' := [bxB 110 (Zr x)]) rfl rfl rfl (by kernel_rfl) (by kernel_rfl) ?_
  refine Zd rfl rfl (.bool false) rfl (Zb (Zc (Zk (Zm ?_))))
  refine Ze (b := 0) (o := 0) (n := 0) (o' := 0) rfl rfl rfl rfl rfl ?_
  refine Zl (p := pt 0 0) (v := Iv x.epoch) rfl rfl rfl (by kernel_rfl) ?_
  by_cases h1 : 1 ≤ x.epoch
  by_cases h2 : x.epoch ≤ 900000000
  refine Zp ((Zav (G := G) x.epoch 1 900000000).res (congrArg Value.bool (Zaf (by omega) (by omega)))) (vals := [Iv x.epoch, Iv 1, Iv 900000000]) (res' := .bool true) rfl rfl rfl rfl rfl rfl ?_
  refine Zf rfl rfl (.bool true) rfl ?_
  refine Ze (b := 0) (o := 0) (n := 1) (o' := 1) rfl rfl rfl rfl rfl ?_
  refine Zl (p := pt 0 1) (v := Zcn x.entry) rfl rfl rfl (by kernel_rfl) ?_
  refine Zp (Zni (G := G) x.entry) (vals := [Zcn x.entry]) (res' := .bool (decide (Zbq x.entry))) rfl rfl rfl rfl rfl rfl ?_
  refine Zg rfl rfl (.bool (decide (Zbq x.entry))) rfl (Zd rfl rfl (.bool (decide (Zbq x.entry))) rfl (Zb (Zc (Zq (Zo ?_)))))
  rw [show decide (Zbd x) = decide (Zbq x.entry) from decide_eq_decide.2 ⟨fun q => q.2.2, fun q => ⟨by omega, by omega, q⟩⟩]
  exact Zi (v := .bool (decide (Zbq x.entry))) rfl rfl rfl (by kernel_rfl) rfl
  refine Zp ((Zav (G := G) x.epoch 1 900000000).res (congrArg Value.bool (Zt (by omega)))) (vals := [Iv x.epoch, Iv 1, Iv 900000000]) (res' := .bool false) rfl rfl rfl rfl rfl rfl ?_
  refine Zf rfl rfl (.bool false) rfl (Za rfl rfl (Za rfl rfl (Za rfl rfl (Zg rfl rfl (.bool false) rfl (Zd rfl rfl (.bool false) rfl (Zb (Zc (Zq (Zo ?_)))))))))
  rw [show decide (Zbd x) = false from decide_eq_false (fun q => by first | (have := q.1; have := q.2.1; omega) | (exact absurd q.2.2 (of_decide_eq_false (by assumption))))]
  exact Zi (v := .bool false) rfl rfl rfl (by kernel_rfl) rfl
  refine Zp ((Zav (G := G) x.epoch 1 900000000).res (congrArg Value.bool (Zt (by omega)))) (vals := [Iv x.epoch, Iv 1, Iv 900000000]) (res' := .bool false) rfl rfl rfl rfl rfl rfl ?_
  refine Zf rfl rfl (.bool false) rfl (Za rfl rfl (Za rfl rfl (Za rfl rfl (Zg rfl rfl (.bool false) rfl (Zd rfl rfl (.bool false) rfl (Zb (Zc (Zq (Zo ?_)))))))))
  rw [show decide (Zbd x) = false from decide_eq_false (fun q => by first | (have := q.1; have := q.2.1; omega) | (exact absurd q.2.2 (of_decide_eq_false (by assumption))))]
  exact Zi (v := .bool false) rfl rfl rfl (by kernel_rfl) rfl
end Go.Flat
