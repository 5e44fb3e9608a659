/- Walks. -/
import Derived.Test.YtoafdomlefoenaaE1
set_option linter.unusedVariables false
set_option linter.unusedSimpArgs false
set_option maxRecDepth 20000
namespace Go.Flat
open Go.Proofs
variable {G : Glob}
theorem Zi9 (n : Nat) (a b : D) : Zdn n a b = Zdn n b a := by
  cases h : Zdn n a b with
  | true => rw [Zg1] at h; exact (Zg1.2 h.symm).symm
  | false =>
    cases h' : Zdn n b a with
    | true => rw [Zg1] at h'; rw [Zg1.2 h'.symm] at h; cases h
    | false => rfl
theorem Zpe (a b : Head) : Zhu a b = Zhu b a := by
 unfold Zhu; rw [BEq.comm (a := a.region), BEq.comm (a := a.epoch), BEq.comm (a := a.size), BEq.comm (a := a.tick), Zi9]
theorem Ziu (a b : Signed) : Zed a b = Zed b a := by
 unfold Zed; rw [Zpe, BEq.comm (a := a.node), Zi9]
theorem Zu (a b : Claim) : Zr a b = Zr b a := by
 unfold Zr; rw [BEq.comm (a := a.region), BEq.comm (a := a.epoch), BEq.comm (a := a.node), BEq.comm (a := a.size), Zi9]
def Zi8 (e : Entry) : Prop :=
  (e.kind = 1 ∧ 1 ≤ e.client ∧ e.client ≤ 3 ∧ 1 ≤ e.seq ∧ e.seq ≤ 1000000 ∧ e.text.size ≤ 200 ∧ Zed e.head ⟨⟨0, 0, 0, dz, 0⟩, 0, dz⟩ = true ∧ Zr e.claim ⟨0, 0, 0, 0, dz⟩ = true) ∨
  (e.kind = 2 ∧ e.client = 0 ∧ e.seq = 0 ∧ e.text = ⟨#[]⟩ ∧ Zxj e.head ∧ Zr e.claim ⟨0, 0, 0, 0, dz⟩ = true) ∨
  (e.kind = 3 ∧ e.client = 0 ∧ e.seq = 0 ∧ e.text = ⟨#[]⟩ ∧ Zed e.head ⟨⟨0, 0, 0, dz, 0⟩, 0, dz⟩ = true ∧ Zck e.claim)
instance (e : Entry) : Decidable (Zi8 e) := inferInstanceAs (Decidable (_ ∨ _))
def Ze4 (e : Entry) : Int := if Zi8 e then 0 else 60
theorem Zgs {e : Entry} (h : Ze4 e = 0) : Zi8 e := by
 unfold Ze4 at h
 split at h
 ·assumption
 ·omega
theorem Zap {e : Entry} (h : ¬ Ze4 e = 0) : ¬ Zi8 e := fun q => h (if_pos q)
def Zb7 (x : Item) : Prop := 1 ≤ x.epoch ∧ x.epoch ≤ 900000000 ∧ Zi8 x.entry
instance (x : Item) : Decidable (Zb7 x) := inferInstanceAs (Decidable (_ ∧ _))
theorem Zo3 {h : Head} : Zb3 h = 0 ↔ Zkf h := by
 rw [Ztb]; split <;> simp [*]
theorem Zbt (e : Entry) : Zi8 e ↔ (
 (e.kind = 1 ∧ 1 ≤ e.client ∧ e.client ≤ 3 ∧ 1 ≤ e.seq ∧ e.seq ≤ 1000000 ∧ e.text.size ≤ 200 ∧ Zfl ⟨e.kind, e.client, e.seq, e.text, ⟨⟨0, 0, 0, dz, 0⟩, 0, dz⟩, ⟨0, 0, 0, 0, dz⟩⟩ e = true) ∨
 (e.kind = 2 ∧ Zb3 e.head.head = 0 ∧ 1 ≤ e.head.node ∧ e.head.node ≤ 3 ∧ Zfl ⟨e.kind, 0, 0, ⟨#[]⟩, e.head, ⟨0, 0, 0, 0, dz⟩⟩ e = true) ∨
 (e.kind = 3 ∧ Zdv e.claim = 0 ∧ Zfl ⟨e.kind, 0, 0, ⟨#[]⟩, ⟨⟨0, 0, 0, dz, 0⟩, 0, dz⟩, e.claim⟩ e = true)) := by
 have hc : Zdv e.claim = 0 ↔ Zck e.claim := by unfold Zdv; split <;> simp [*]
 have hz : (⟨#[]⟩ : ByteArray) = e.text ↔ e.text = ⟨#[]⟩ := eq_comm
 have h1 : (0 : Int) = e.client ↔ e.client = 0 := eq_comm
 have h2 : (0 : Int) = e.seq ↔ e.seq = 0 := eq_comm
 have h3 : (1 : Int) = e.kind ↔ e.kind = 1 := eq_comm
 have h4 : (2 : Int) = e.kind ↔ e.kind = 2 := eq_comm
 have h5 : (3 : Int) = e.kind ↔ e.kind = 3 := eq_comm
 simp only [Zi8, Zfl, hc, Zo3, Zxj, Ziv, Zaq, BEq.rfl, Bool.true_and, Bool.and_true, Bool.and_eq_true, beq_iff_eq, Ziu ⟨⟨0, 0, 0, dz, 0⟩, 0, dz⟩, Zu ⟨0, 0, 0, 0, dz⟩, hz, h1, h2, h3, h4, h5, and_assoc, and_left_comm, and_comm]
theorem Zkj (e : Entry) : Zas Try.prog G 52 [Zdc e] [] (Iv (Ze4 e)) [] := by
  refine Zcv (fn := Try.f52) (nt := 67) rfl rfl rfl rfl ?_
  refine Zbq 2 (H' := [hole, hole]) rfl ?_
  refine Zj (Zl (Zbw (v := Zdc e) (b := bxB 109 (Zdb e)) (nid := 0) (H' := [bxB 109 (Zdb e), hole]) (Zc (Iv 0) (Ze (Zf (Zj (Zl (Zd (b := 0) (o := 0) (n := 0) (o' := 0) (Zi (p := pt 0 0) (v := Iv e.kind) ?_)))))))))
  refine Zbg (vs := [(0, Iv e.kind)]) (v := Zdc (⟨e.kind, 0, 0, ⟨#[]⟩, (⟨(⟨0, 0, 0, dz, 0⟩ : Head), 0, dz⟩ : Signed), (⟨0, 0, 0, 0, dz⟩ : Claim)⟩ : Entry)) rfl rfl rfl (by kernel_rfl) ?_
  refine Za4 (b := bxB 109 (Zdb (⟨0, 0, 0, ⟨#[]⟩, (⟨(⟨0, 0, 0, dz, 0⟩ : Head), 0, dz⟩ : Signed), (⟨0, 0, 0, 0, dz⟩ : Claim)⟩ : Entry))) (nid := 1) (H' := [bxB 109 (Zdb e), bxB 109 (Zdb (⟨0, 0, 0, ⟨#[]⟩, (⟨(⟨0, 0, 0, dz, 0⟩ : Head), 0, dz⟩ : Signed), (⟨0, 0, 0, 0, dz⟩ : Claim)⟩ : Entry))]) (Zy (p := pt 1 0) (v := Zdc (⟨e.kind, 0, 0, ⟨#[]⟩, (⟨(⟨0, 0, 0, dz, 0⟩ : Head), 0, dz⟩ : Signed), (⟨0, 0, 0, 0, dz⟩ : Claim)⟩ : Entry)) (b := 1) (blk := bxB 109 (Zdb (⟨e.kind, 0, 0, ⟨#[]⟩, (⟨(⟨0, 0, 0, dz, 0⟩ : Head), 0, dz⟩ : Signed), (⟨0, 0, 0, 0, dz⟩ : Claim)⟩ : Entry))) (H' := [bxB 109 (Zdb e), bxB 109 (Zdb (⟨e.kind, 0, 0, ⟨#[]⟩, (⟨(⟨0, 0, 0, dz, 0⟩ : Head), 0, dz⟩ : Signed), (⟨0, 0, 0, 0, dz⟩ : Claim)⟩ : Entry))]) (Ze (Zf (Zj (Zl (Zc (.bool false) (Ze (Zf (Zj (Zj (Zl (Zd (b := 0) (o := 0) (n := 0) (o' := 0) (Zi (p := pt 0 0) (v := Iv e.kind) (Ze (Zf (Zbm (Zj (Zl ?_))))))))))))))))))
  by_cases h1 : e.kind = 1
  refine Zn (vx := Iv e.kind) (vy := Iv 1) rfl rfl (.bool true) rfl rfl (Zav (by omega)) ?_
  refine Zc (.bool true) (Ze (Zf (Z8 rfl (Zj ?_))))
  refine Zdx (by kernel_rfl) ?_
  refine Zd (b := 0) (o := 0) (n := 1) (o' := 1) (Zi (p := pt 0 1) (v := Iv e.client) (Zd (b := 0) (o := 0) (n := 2) (o' := 2) (Zi (p := pt 0 2) (v := Iv e.seq) (Zd (b := 0) (o := 0) (n := 3) (o' := 3) (Zi (p := pt 0 3) (v := .string e.text) (Zd (b := 1) (o := 0) (n := 1) (o' := 1) (Zy (p := pt 1 1) (v := Iv e.client) (b := 1) (blk := bxB 109 (Zdb (⟨e.kind, e.client, 0, ⟨#[]⟩, (⟨(⟨0, 0, 0, dz, 0⟩ : Head), 0, dz⟩ : Signed), (⟨0, 0, 0, 0, dz⟩ : Claim)⟩ : Entry))) (H' := [bxB 109 (Zdb e), bxB 109 (Zdb (⟨e.kind, e.client, 0, ⟨#[]⟩, (⟨(⟨0, 0, 0, dz, 0⟩ : Head), 0, dz⟩ : Signed), (⟨0, 0, 0, 0, dz⟩ : Claim)⟩ : Entry))]) (Zd (b := 1) (o := 0) (n := 2) (o' := 2) (Zy (p := pt 1 2) (v := Iv e.seq) (b := 1) (blk := bxB 109 (Zdb (⟨e.kind, e.client, e.seq, ⟨#[]⟩, (⟨(⟨0, 0, 0, dz, 0⟩ : Head), 0, dz⟩ : Signed), (⟨0, 0, 0, 0, dz⟩ : Claim)⟩ : Entry))) (H' := [bxB 109 (Zdb e), bxB 109 (Zdb (⟨e.kind, e.client, e.seq, ⟨#[]⟩, (⟨(⟨0, 0, 0, dz, 0⟩ : Head), 0, dz⟩ : Signed), (⟨0, 0, 0, 0, dz⟩ : Claim)⟩ : Entry))]) (Zd (b := 1) (o := 0) (n := 3) (o' := 3) (Zy (p := pt 1 3) (v := .string e.text) (b := 1) (blk := bxB 109 (Zdb (⟨e.kind, e.client, e.seq, e.text, (⟨(⟨0, 0, 0, dz, 0⟩ : Head), 0, dz⟩ : Signed), (⟨0, 0, 0, 0, dz⟩ : Claim)⟩ : Entry))) (H' := [bxB 109 (Zdb e), bxB 109 (Zdb (⟨e.kind, e.client, e.seq, e.text, (⟨(⟨0, 0, 0, dz, 0⟩ : Head), 0, dz⟩ : Signed), (⟨0, 0, 0, 0, dz⟩ : Claim)⟩ : Entry))]) ?_)))))))))))
  refine Zbh (Zar [[], [0], [], [2], [], [4], [0, 1], [0, 1, 6], [0, 1, 2, 3, 6, 7], [0, 1, 2, 3, 6, 7, 8], [0, 1, 2, 3, 4, 5, 6, 7, 8, 9], [0, 1, 2, 3, 4, 5, 6, 7, 8, 9, 10]] (by kernel_rfl) (by kernel_rfl)) ?_
  refine Zf (Zl (Zd (b := 1) (o := 0) (n := 1) (o' := 1) (Zi (p := pt 1 1) (v := Iv e.client) ?_)))
  by_cases h2 : 1 ≤ e.client
  by_cases h3 : e.client ≤ 3
  refine Zs ((Za0 (G := G) e.client 1 3).res (congrArg Value.bool (Za5 (by omega) (by omega)))) (vals := [Iv e.client, Iv 1, Iv 3]) (res' := .bool true) rfl rfl rfl rfl rfl rfl ?_
  refine Zb (.bool true) (Zd (b := 1) (o := 0) (n := 2) (o' := 2) (Zi (p := pt 1 2) (v := Iv e.seq) ?_))
  by_cases h4 : 1 ≤ e.seq
  by_cases h5 : e.seq ≤ 1000000
  refine Zs ((Za0 (G := G) e.seq 1 1000000).res (congrArg Value.bool (Za5 (by omega) (by omega)))) (vals := [Iv e.seq, Iv 1, Iv 1000000]) (res' := .bool true) rfl rfl rfl rfl rfl rfl ?_
  refine Zg (.bool true) (Zb (.bool true) (Zd (b := 1) (o := 0) (n := 3) (o' := 3) (Zi (p := pt 1 3) (v := .string e.text) (Zba (p := .string e.text) (v := Iv (e.text.size : Nat)) ?_))))
  by_cases h6 : (e.text.size : Nat) ≤ 200
  refine Zn (vx := Iv (e.text.size : Nat)) (vy := Iv 200) rfl rfl (.bool true) rfl rfl (Zni (by omega)) ?_
  refine Zg (.bool true) (Zc (.bool true) (Ze (Z1 (Zf (Zj (Zl (Zb (.bool true) (Zb (.bool true) (Zi (p := pt 1 0) (v := Zdc (⟨e.kind, e.client, e.seq, e.text, (⟨(⟨0, 0, 0, dz, 0⟩ : Head), 0, dz⟩ : Signed), (⟨0, 0, 0, 0, dz⟩ : Claim)⟩ : Entry)) (Zi (p := pt 0 0) (v := Zdc e) ?_))))))))))
  rcases Bool.eq_false_or_eq_true (Zfl (⟨e.kind, e.client, e.seq, e.text, (⟨(⟨0, 0, 0, dz, 0⟩ : Head), 0, dz⟩ : Signed), (⟨0, 0, 0, 0, dz⟩ : Claim)⟩ : Entry) e) with h7 | h7
  refine Zn (vx := Zdc (⟨e.kind, e.client, e.seq, e.text, (⟨(⟨0, 0, 0, dz, 0⟩ : Head), 0, dz⟩ : Signed), (⟨0, 0, 0, 0, dz⟩ : Claim)⟩ : Entry)) (vy := Zdc e) rfl rfl (.bool true) rfl rfl (Eq.trans (Zfy (⟨e.kind, e.client, e.seq, e.text, (⟨(⟨0, 0, 0, dz, 0⟩ : Head), 0, dz⟩ : Signed), (⟨0, 0, 0, 0, dz⟩ : Claim)⟩ : Entry) e) (by rw [h7] <;> rfl)) ?_
  refine Zg (.bool true) ?_
  refine Zs (Zby (G := G) true) (vals := [.bool true]) (res' := Iv 0) rfl rfl rfl rfl rfl rfl ?_
  refine Zc (Iv 0) (Ze (Zf (Zq (Zp ?_))))
  rw [show Ze4 e = 0 from if_pos ((Zbt e).2 (by first | exact .inl ⟨by omega, by omega, by omega, by omega, by omega, by omega, by assumption⟩ | exact .inr (.inl ⟨by omega, by omega, by omega, by omega, by assumption⟩) | exact .inr (.inr ⟨by omega, by omega, by assumption⟩)))]
  exact Zm (v := Iv 0) rfl rfl rfl (by kernel_rfl) rfl
  refine Zn (vx := Zdc (⟨e.kind, e.client, e.seq, e.text, (⟨(⟨0, 0, 0, dz, 0⟩ : Head), 0, dz⟩ : Signed), (⟨0, 0, 0, 0, dz⟩ : Claim)⟩ : Entry)) (vy := Zdc e) rfl rfl (.bool false) rfl rfl (Eq.trans (Zfy (⟨e.kind, e.client, e.seq, e.text, (⟨(⟨0, 0, 0, dz, 0⟩ : Head), 0, dz⟩ : Signed), (⟨0, 0, 0, 0, dz⟩ : Claim)⟩ : Entry) e) (by rw [h7] <;> rfl)) ?_
  refine Zg (.bool false) ?_
  refine Zs (Zby (G := G) false) (vals := [.bool false]) (res' := Iv 60) rfl rfl rfl rfl rfl rfl ?_
  refine Zc (Iv 60) (Ze (Zf (Zq (Zp ?_))))
  rw [show Ze4 e = 60 from if_neg (fun q => by rcases (Zbt e).1 q with q | q | q <;> first | omega | (exact absurd (by first | exact q.2.2.2.2.2.2 | exact q.2.2.2.2 | exact q.2.2) (Bool.eq_false_iff.1 (by assumption))))]
  exact Zm (v := Iv 60) rfl rfl rfl (by kernel_rfl) rfl
  refine Zn (vx := Iv (e.text.size : Nat)) (vy := Iv 200) rfl rfl (.bool false) rfl rfl (Znh (by omega)) ?_
  refine Zg (.bool false) (Zc (.bool false) (Ze (Z1 (Zf (Zj (Zl (Zb (.bool false) (Zb (.bool false) (Za (Za (Za (Zg (.bool false) ?_))))))))))))
  refine Zs (Zby (G := G) false) (vals := [.bool false]) (res' := Iv 60) rfl rfl rfl rfl rfl rfl ?_
  refine Zc (Iv 60) (Ze (Zf (Zq (Zp ?_))))
  rw [show Ze4 e = 60 from if_neg (fun q => by rcases (Zbt e).1 q with q | q | q <;> first | omega | (exact absurd (by first | exact q.2.2.2.2.2.2 | exact q.2.2.2.2 | exact q.2.2) (Bool.eq_false_iff.1 (by assumption))))]
  exact Zm (v := Iv 60) rfl rfl rfl (by kernel_rfl) rfl
  refine Zs ((Za0 (G := G) e.seq 1 1000000).res (congrArg Value.bool (Z6 (by omega)))) (vals := [Iv e.seq, Iv 1, Iv 1000000]) (res' := .bool false) rfl rfl rfl rfl rfl rfl ?_
  refine Zg (.bool false) (Zb (.bool false) (Za (Za (Za (Za (Zg (.bool false) (Zc (.bool false) (Ze (Z1 (Zf (Zj (Zl (Zb (.bool false) (Zb (.bool false) (Za (Za (Za (Zg (.bool false) ?_))))))))))))))))))
  refine Zs (Zby (G := G) false) (vals := [.bool false]) (res' := Iv 60) rfl rfl rfl rfl rfl rfl ?_
  refine Zc (Iv 60) (Ze (Zf (Zq (Zp ?_))))
  rw [show Ze4 e = 60 from if_neg (fun q => by rcases (Zbt e).1 q with q | q | q <;> first | omega | (exact absurd (by first | exact q.2.2.2.2.2.2 | exact q.2.2.2.2 | exact q.2.2) (Bool.eq_false_iff.1 (by assumption))))]
  exact Zm (v := Iv 60) rfl rfl rfl (by kernel_rfl) rfl
  refine Zs ((Za0 (G := G) e.seq 1 1000000).res (congrArg Value.bool (Z6 (by omega)))) (vals := [Iv e.seq, Iv 1, Iv 1000000]) (res' := .bool false) rfl rfl rfl rfl rfl rfl ?_
  refine Zg (.bool false) (Zb (.bool false) (Za (Za (Za (Za (Zg (.bool false) (Zc (.bool false) (Ze (Z1 (Zf (Zj (Zl (Zb (.bool false) (Zb (.bool false) (Za (Za (Za (Zg (.bool false) ?_))))))))))))))))))
  refine Zs (Zby (G := G) false) (vals := [.bool false]) (res' := Iv 60) rfl rfl rfl rfl rfl rfl ?_
  refine Zc (Iv 60) (Ze (Zf (Zq (Zp ?_))))
  rw [show Ze4 e = 60 from if_neg (fun q => by rcases (Zbt e).1 q with q | q | q <;> first | omega | (exact absurd (by first | exact q.2.2.2.2.2.2 | exact q.2.2.2.2 | exact q.2.2) (Bool.eq_false_iff.1 (by assumption))))]
  exact Zm (v := Iv 60) rfl rfl rfl (by kernel_rfl) rfl
  refine Zs ((Za0 (G := G) e.client 1 3).res (congrArg Value.bool (Z6 (by omega)))) (vals := [Iv e.client, Iv 1, Iv 3]) (res' := .bool false) rfl rfl rfl rfl rfl rfl ?_
  refine Zb (.bool false) (Za (Za (Za (Zg (.bool false) (Zb (.bool false) (Za (Za (Za (Za (Zg (.bool false) (Zc (.bool false) (Ze (Z1 (Zf (Zj (Zl (Zb (.bool false) (Zb (.bool false) (Za (Za (Za (Zg (.bool false) ?_))))))))))))))))))))))
  refine Zs (Zby (G := G) false) (vals := [.bool false]) (res' := Iv 60) rfl rfl rfl rfl rfl rfl ?_
  refine Zc (Iv 60) (Ze (Zf (Zq (Zp ?_))))
  rw [show Ze4 e = 60 from if_neg (fun q => by rcases (Zbt e).1 q with q | q | q <;> first | omega | (exact absurd (by first | exact q.2.2.2.2.2.2 | exact q.2.2.2.2 | exact q.2.2) (Bool.eq_false_iff.1 (by assumption))))]
  exact Zm (v := Iv 60) rfl rfl rfl (by kernel_rfl) rfl
  refine Zs ((Za0 (G := G) e.client 1 3).res (congrArg Value.bool (Z6 (by omega)))) (vals := [Iv e.client, Iv 1, Iv 3]) (res' := .bool false) rfl rfl rfl rfl rfl rfl ?_
  refine Zb (.bool false) (Za (Za (Za (Zg (.bool false) (Zb (.bool false) (Za (Za (Za (Za (Zg (.bool false) (Zc (.bool false) (Ze (Z1 (Zf (Zj (Zl (Zb (.bool false) (Zb (.bool false) (Za (Za (Za (Zg (.bool false) ?_))))))))))))))))))))))
  refine Zs (Zby (G := G) false) (vals := [.bool false]) (res' := Iv 60) rfl rfl rfl rfl rfl rfl ?_
  refine Zc (Iv 60) (Ze (Zf (Zq (Zp ?_))))
  rw [show Ze4 e = 60 from if_neg (fun q => by rcases (Zbt e).1 q with q | q | q <;> first | omega | (exact absurd (by first | exact q.2.2.2.2.2.2 | exact q.2.2.2.2 | exact q.2.2) (Bool.eq_false_iff.1 (by assumption))))]
  exact Zm (v := Iv 60) rfl rfl rfl (by kernel_rfl) rfl
  refine Zn (vx := Iv e.kind) (vy := Iv 1) rfl rfl (.bool false) rfl rfl (Zbb (by omega)) ?_
  refine Zc (.bool false) (Ze (Zf (Zw rfl (Zj (Zl ?_)))))
  by_cases h8 : e.kind = 2
  refine Zn (vx := Iv e.kind) (vy := Iv 2) rfl rfl (.bool true) rfl rfl (Zav (by omega)) ?_
  refine Zc (.bool true) (Ze (Zf (Z8 rfl (Zj (Zl (Zd (b := 0) (o := 0) (n := 4) (o' := 4) (Zi (p := pt 0 4) (v := Zio e.head) (Zd (b := 1) (o := 0) (n := 4) (o' := 4) (Zy (p := pt 1 4) (v := Zio e.head) (b := 1) (blk := bxB 109 (Zdb (⟨e.kind, 0, 0, ⟨#[]⟩, e.head, (⟨0, 0, 0, 0, dz⟩ : Claim)⟩ : Entry))) (H' := [bxB 109 (Zdb e), bxB 109 (Zdb (⟨e.kind, 0, 0, ⟨#[]⟩, e.head, (⟨0, 0, 0, 0, dz⟩ : Claim)⟩ : Entry))]) (Ze (Zf (Zl (Zd (b := 1) (o := 0) (n := 4) (o' := 4) (Zd (b := 1) (o := 4) (n := 0) (o' := 4) (Zi (p := pt 1 4) (v := Zkp e.head.head) ?_)))))))))))))))
  refine Zs (Zuc (G := G) e.head.head) (vals := [Zkp e.head.head]) (res' := Iv (Zb3 e.head.head)) rfl rfl rfl rfl rfl rfl ?_
  by_cases h9 : (Zb3 e.head.head) = 0
  refine Zn (vx := Iv (Zb3 e.head.head)) (vy := Iv 0) rfl rfl (.bool true) rfl rfl (Zav (by omega)) ?_
  refine Zb (.bool true) (Zd (b := 1) (o := 0) (n := 4) (o' := 4) (Zd (b := 1) (o := 4) (n := 36) (o' := 40) (Zi (p := pt 1 40) (v := Iv e.head.node) ?_)))
  by_cases h10 : 1 ≤ e.head.node
  by_cases h11 : e.head.node ≤ 3
  refine Zs ((Za0 (G := G) e.head.node 1 3).res (congrArg Value.bool (Za5 (by omega) (by omega)))) (vals := [Iv e.head.node, Iv 1, Iv 3]) (res' := .bool true) rfl rfl rfl rfl rfl rfl ?_
  refine Zg (.bool true) (Zc (.bool true) (Ze (Z1 (Zf (Zj (Zl (Zb (.bool true) (Zb (.bool true) (Zi (p := pt 1 0) (v := Zdc (⟨e.kind, 0, 0, ⟨#[]⟩, e.head, (⟨0, 0, 0, 0, dz⟩ : Claim)⟩ : Entry)) (Zi (p := pt 0 0) (v := Zdc e) ?_))))))))))
  rcases Bool.eq_false_or_eq_true (Zfl (⟨e.kind, 0, 0, ⟨#[]⟩, e.head, (⟨0, 0, 0, 0, dz⟩ : Claim)⟩ : Entry) e) with h12 | h12
  refine Zn (vx := Zdc (⟨e.kind, 0, 0, ⟨#[]⟩, e.head, (⟨0, 0, 0, 0, dz⟩ : Claim)⟩ : Entry)) (vy := Zdc e) rfl rfl (.bool true) rfl rfl (Eq.trans (Zfy (⟨e.kind, 0, 0, ⟨#[]⟩, e.head, (⟨0, 0, 0, 0, dz⟩ : Claim)⟩ : Entry) e) (by rw [h12] <;> rfl)) ?_
  refine Zg (.bool true) ?_
  refine Zs (Zby (G := G) true) (vals := [.bool true]) (res' := Iv 0) rfl rfl rfl rfl rfl rfl ?_
  refine Zc (Iv 0) (Ze (Zf (Zq (Zp ?_))))
  rw [show Ze4 e = 0 from if_pos ((Zbt e).2 (by first | exact .inl ⟨by omega, by omega, by omega, by omega, by omega, by omega, by assumption⟩ | exact .inr (.inl ⟨by omega, by omega, by omega, by omega, by assumption⟩) | exact .inr (.inr ⟨by omega, by omega, by assumption⟩)))]
  exact Zm (v := Iv 0) rfl rfl rfl (by kernel_rfl) rfl
  refine Zn (vx := Zdc (⟨e.kind, 0, 0, ⟨#[]⟩, e.head, (⟨0, 0, 0, 0, dz⟩ : Claim)⟩ : Entry)) (vy := Zdc e) rfl rfl (.bool false) rfl rfl (Eq.trans (Zfy (⟨e.kind, 0, 0, ⟨#[]⟩, e.head, (⟨0, 0, 0, 0, dz⟩ : Claim)⟩ : Entry) e) (by rw [h12] <;> rfl)) ?_
  refine Zg (.bool false) ?_
  refine Zs (Zby (G := G) false) (vals := [.bool false]) (res' := Iv 60) rfl rfl rfl rfl rfl rfl ?_
  refine Zc (Iv 60) (Ze (Zf (Zq (Zp ?_))))
  rw [show Ze4 e = 60 from if_neg (fun q => by rcases (Zbt e).1 q with q | q | q <;> first | omega | (exact absurd (by first | exact q.2.2.2.2.2.2 | exact q.2.2.2.2 | exact q.2.2) (Bool.eq_false_iff.1 (by assumption))))]
  exact Zm (v := Iv 60) rfl rfl rfl (by kernel_rfl) rfl
  refine Zs ((Za0 (G := G) e.head.node 1 3).res (congrArg Value.bool (Z6 (by omega)))) (vals := [Iv e.head.node, Iv 1, Iv 3]) (res' := .bool false) rfl rfl rfl rfl rfl rfl ?_
  refine Zg (.bool false) (Zc (.bool false) (Ze (Z1 (Zf (Zj (Zl (Zb (.bool false) (Zb (.bool false) (Za (Za (Za (Zg (.bool false) ?_))))))))))))
  refine Zs (Zby (G := G) false) (vals := [.bool false]) (res' := Iv 60) rfl rfl rfl rfl rfl rfl ?_
  refine Zc (Iv 60) (Ze (Zf (Zq (Zp ?_))))
  rw [show Ze4 e = 60 from if_neg (fun q => by rcases (Zbt e).1 q with q | q | q <;> first | omega | (exact absurd (by first | exact q.2.2.2.2.2.2 | exact q.2.2.2.2 | exact q.2.2) (Bool.eq_false_iff.1 (by assumption))))]
  exact Zm (v := Iv 60) rfl rfl rfl (by kernel_rfl) rfl
  refine Zs ((Za0 (G := G) e.head.node 1 3).res (congrArg Value.bool (Z6 (by omega)))) (vals := [Iv e.head.node, Iv 1, Iv 3]) (res' := .bool false) rfl rfl rfl rfl rfl rfl ?_
  refine Zg (.bool false) (Zc (.bool false) (Ze (Z1 (Zf (Zj (Zl (Zb (.bool false) (Zb (.bool false) (Za (Za (Za (Zg (.bool false) ?_))))))))))))
  refine Zs (Zby (G := G) false) (vals := [.bool false]) (res' := Iv 60) rfl rfl rfl rfl rfl rfl ?_
  refine Zc (Iv 60) (Ze (Zf (Zq (Zp ?_))))
  rw [show Ze4 e = 60 from if_neg (fun q => by rcases (Zbt e).1 q with q | q | q <;> first | omega | (exact absurd (by first | exact q.2.2.2.2.2.2 | exact q.2.2.2.2 | exact q.2.2) (Bool.eq_false_iff.1 (by assumption))))]
  exact Zm (v := Iv 60) rfl rfl rfl (by kernel_rfl) rfl
  refine Zn (vx := Iv (Zb3 e.head.head)) (vy := Iv 0) rfl rfl (.bool false) rfl rfl (Zbb (by omega)) ?_
  refine Zb (.bool false) (Za (Za (Za (Za (Zg (.bool false) (Zc (.bool false) (Ze (Z1 (Zf (Zj (Zl (Zb (.bool false) (Zb (.bool false) (Za (Za (Za (Zg (.bool false) ?_)))))))))))))))))
  refine Zs (Zby (G := G) false) (vals := [.bool false]) (res' := Iv 60) rfl rfl rfl rfl rfl rfl ?_
  refine Zc (Iv 60) (Ze (Zf (Zq (Zp ?_))))
  rw [show Ze4 e = 60 from if_neg (fun q => by rcases (Zbt e).1 q with q | q | q <;> first | omega | (exact absurd (by first | exact q.2.2.2.2.2.2 | exact q.2.2.2.2 | exact q.2.2) (Bool.eq_false_iff.1 (by assumption))))]
  exact Zm (v := Iv 60) rfl rfl rfl (by kernel_rfl) rfl
  refine Zn (vx := Iv e.kind) (vy := Iv 2) rfl rfl (.bool false) rfl rfl (Zbb (by omega)) ?_
  refine Zc (.bool false) (Ze (Zf (Zw rfl (Zj (Zl ?_)))))
  by_cases h13 : e.kind = 3
  refine Zn (vx := Iv e.kind) (vy := Iv 3) rfl rfl (.bool true) rfl rfl (Zav (by omega)) ?_
  refine Zc (.bool true) (Ze (Zf (Z8 rfl (Zj (Zl (Zd (b := 0) (o := 0) (n := 73) (o' := 73) (Zi (p := pt 0 73) (v := Zv e.claim) (Zd (b := 1) (o := 0) (n := 73) (o' := 73) (Zy (p := pt 1 73) (v := Zv e.claim) (b := 1) (blk := bxB 109 (Zdb (⟨e.kind, 0, 0, ⟨#[]⟩, (⟨(⟨0, 0, 0, dz, 0⟩ : Head), 0, dz⟩ : Signed), e.claim⟩ : Entry))) (H' := [bxB 109 (Zdb e), bxB 109 (Zdb (⟨e.kind, 0, 0, ⟨#[]⟩, (⟨(⟨0, 0, 0, dz, 0⟩ : Head), 0, dz⟩ : Signed), e.claim⟩ : Entry))]) (Ze (Zf (Zl (Zd (b := 1) (o := 0) (n := 73) (o' := 73) (Zi (p := pt 1 73) (v := Zv e.claim) ?_))))))))))))))
  refine Zs (Zgi (G := G) e.claim) (vals := [Zv e.claim]) (res' := Iv (Zdv e.claim)) rfl rfl rfl rfl rfl rfl ?_
  by_cases h14 : (Zdv e.claim) = 0
  refine Zn (vx := Iv (Zdv e.claim)) (vy := Iv 0) rfl rfl (.bool true) rfl rfl (Zav (by omega)) ?_
  refine Zc (.bool true) (Ze (Z1 (Zf (Zj (Zl (Zb (.bool true) (Zb (.bool true) (Zi (p := pt 1 0) (v := Zdc (⟨e.kind, 0, 0, ⟨#[]⟩, (⟨(⟨0, 0, 0, dz, 0⟩ : Head), 0, dz⟩ : Signed), e.claim⟩ : Entry)) (Zi (p := pt 0 0) (v := Zdc e) ?_)))))))))
  rcases Bool.eq_false_or_eq_true (Zfl (⟨e.kind, 0, 0, ⟨#[]⟩, (⟨(⟨0, 0, 0, dz, 0⟩ : Head), 0, dz⟩ : Signed), e.claim⟩ : Entry) e) with h15 | h15
  refine Zn (vx := Zdc (⟨e.kind, 0, 0, ⟨#[]⟩, (⟨(⟨0, 0, 0, dz, 0⟩ : Head), 0, dz⟩ : Signed), e.claim⟩ : Entry)) (vy := Zdc e) rfl rfl (.bool true) rfl rfl (Eq.trans (Zfy (⟨e.kind, 0, 0, ⟨#[]⟩, (⟨(⟨0, 0, 0, dz, 0⟩ : Head), 0, dz⟩ : Signed), e.claim⟩ : Entry) e) (by rw [h15] <;> rfl)) ?_
  refine Zg (.bool true) ?_
  refine Zs (Zby (G := G) true) (vals := [.bool true]) (res' := Iv 0) rfl rfl rfl rfl rfl rfl ?_
  refine Zc (Iv 0) (Ze (Zf (Zq (Zp ?_))))
  rw [show Ze4 e = 0 from if_pos ((Zbt e).2 (by first | exact .inl ⟨by omega, by omega, by omega, by omega, by omega, by omega, by assumption⟩ | exact .inr (.inl ⟨by omega, by omega, by omega, by omega, by assumption⟩) | exact .inr (.inr ⟨by omega, by omega, by assumption⟩)))]
  exact Zm (v := Iv 0) rfl rfl rfl (by kernel_rfl) rfl
  refine Zn (vx := Zdc (⟨e.kind, 0, 0, ⟨#[]⟩, (⟨(⟨0, 0, 0, dz, 0⟩ : Head), 0, dz⟩ : Signed), e.claim⟩ : Entry)) (vy := Zdc e) rfl rfl (.bool false) rfl rfl (Eq.trans (Zfy (⟨e.kind, 0, 0, ⟨#[]⟩, (⟨(⟨0, 0, 0, dz, 0⟩ : Head), 0, dz⟩ : Signed), e.claim⟩ : Entry) e) (by rw [h15] <;> rfl)) ?_
  refine Zg (.bool false) ?_
  refine Zs (Zby (G := G) false) (vals := [.bool false]) (res' := Iv 60) rfl rfl rfl rfl rfl rfl ?_
  refine Zc (Iv 60) (Ze (Zf (Zq (Zp ?_))))
  rw [show Ze4 e = 60 from if_neg (fun q => by rcases (Zbt e).1 q with q | q | q <;> first | omega | (exact absurd (by first | exact q.2.2.2.2.2.2 | exact q.2.2.2.2 | exact q.2.2) (Bool.eq_false_iff.1 (by assumption))))]
  exact Zm (v := Iv 60) rfl rfl rfl (by kernel_rfl) rfl
  refine Zn (vx := Iv (Zdv e.claim)) (vy := Iv 0) rfl rfl (.bool false) rfl rfl (Zbb (by omega)) ?_
  refine Zc (.bool false) (Ze (Z1 (Zf (Zj (Zl (Zb (.bool false) (Zb (.bool false) (Za (Za (Za (Zg (.bool false) ?_)))))))))))
  refine Zs (Zby (G := G) false) (vals := [.bool false]) (res' := Iv 60) rfl rfl rfl rfl rfl rfl ?_
  refine Zc (Iv 60) (Ze (Zf (Zq (Zp ?_))))
  rw [show Ze4 e = 60 from if_neg (fun q => by rcases (Zbt e).1 q with q | q | q <;> first | omega | (exact absurd (by first | exact q.2.2.2.2.2.2 | exact q.2.2.2.2 | exact q.2.2) (Bool.eq_false_iff.1 (by assumption))))]
  exact Zm (v := Iv 60) rfl rfl rfl (by kernel_rfl) rfl
  refine Zn (vx := Iv e.kind) (vy := Iv 3) rfl rfl (.bool false) rfl rfl (Zbb (by omega)) ?_
  refine Zc (.bool false) (Ze (Zf (Zw rfl (Z7 (Z1 (Zf (Zj (Zl (Zb (.bool false) (Zb (.bool false) (Za (Za (Za (Zg (.bool false) ?_))))))))))))))
  refine Zs (Zby (G := G) false) (vals := [.bool false]) (res' := Iv 60) rfl rfl rfl rfl rfl rfl ?_
  refine Zc (Iv 60) (Ze (Zf (Zq (Zp ?_))))
  rw [show Ze4 e = 60 from if_neg (fun q => by rcases (Zbt e).1 q with q | q | q <;> first | omega | (exact absurd (by first | exact q.2.2.2.2.2.2 | exact q.2.2.2.2 | exact q.2.2) (Bool.eq_false_iff.1 (by assumption))))]
  exact Zm (v := Iv 60) rfl rfl rfl (by kernel_rfl) rfl
end Go.Flat
