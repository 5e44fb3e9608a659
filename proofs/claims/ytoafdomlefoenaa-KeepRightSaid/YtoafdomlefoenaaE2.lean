/- Walks. -/
import Derived.Test.YtoafdomlefoenaaE1
set_option linter.unusedVariables false
set_option linter.unusedSimpArgs false
set_option maxRecDepth 20000
namespace Go.Flat
open Go.Proofs
variable {G : Glob}
theorem Zi3 (n : Nat) (a b : D) : Zem n a b = Zem n b a := by
  cases h : Zem n a b with
  | true => rw [Zif] at h; exact (Zif.2 h.symm).symm
  | false =>
    cases h' : Zem n b a with
    | true => rw [Zif] at h'; rw [Zif.2 h'.symm] at h; cases h
    | false => rfl
theorem Zo9 (a b : Head) : Zhl a b = Zhl b a := by
 unfold Zhl; rw [BEq.comm (a := a.region), BEq.comm (a := a.epoch), BEq.comm (a := a.size), BEq.comm (a := a.tick), Zi3]
theorem Zil (a b : Signed) : Zea a b = Zea b a := by
 unfold Zea; rw [Zo9, BEq.comm (a := a.node), Zi3]
theorem Zu (a b : Claim) : Zv a b = Zv b a := by
 unfold Zv; rw [BEq.comm (a := a.region), BEq.comm (a := a.epoch), BEq.comm (a := a.node), BEq.comm (a := a.size), Zi3]
def Zi2 (e : Entry) : Prop :=
  (e.kind = 1 ∧ 1 ≤ e.client ∧ e.client ≤ 3 ∧ 1 ≤ e.seq ∧ e.seq ≤ 1000000 ∧ e.text.size ≤ 200 ∧ Zea e.head ⟨⟨0, 0, 0, dz, 0⟩, 0, dz⟩ = true ∧ Zv e.claim ⟨0, 0, 0, 0, dz⟩ = true) ∨
  (e.kind = 2 ∧ e.client = 0 ∧ e.seq = 0 ∧ e.text = ⟨#[]⟩ ∧ Zwq e.head ∧ Zv e.claim ⟨0, 0, 0, 0, dz⟩ = true) ∨
  (e.kind = 3 ∧ e.client = 0 ∧ e.seq = 0 ∧ e.text = ⟨#[]⟩ ∧ Zea e.head ⟨⟨0, 0, 0, dz, 0⟩, 0, dz⟩ = true ∧ Zda e.claim)
instance (e : Entry) : Decidable (Zi2 e) := inferInstanceAs (Decidable (_ ∨ _))
def Ze2 (e : Entry) : Int := if Zi2 e then 0 else 60
theorem Zgm {e : Entry} (h : Ze2 e = 0) : Zi2 e := by
 unfold Ze2 at h
 split at h
 ·assumption
 ·omega
theorem Zaq {e : Entry} (h : ¬ Ze2 e = 0) : ¬ Zi2 e := fun q => h (if_pos q)
def Zb4 (x : Item) : Prop := 1 ≤ x.epoch ∧ x.epoch ≤ 900000000 ∧ Zi2 x.entry
instance (x : Item) : Decidable (Zb4 x) := inferInstanceAs (Decidable (_ ∧ _))
theorem Zoy {h : Head} : Zb0 h = 0 ↔ Zj9 h := by
 rw [Zsz]; split <;> simp [*]
theorem Zbq (e : Entry) : Zi2 e ↔ (
 (e.kind = 1 ∧ 1 ≤ e.client ∧ e.client ≤ 3 ∧ 1 ≤ e.seq ∧ e.seq ≤ 1000000 ∧ e.text.size ≤ 200 ∧ Zff ⟨e.kind, e.client, e.seq, e.text, ⟨⟨0, 0, 0, dz, 0⟩, 0, dz⟩, ⟨0, 0, 0, 0, dz⟩⟩ e = true) ∨
 (e.kind = 2 ∧ Zb0 e.head.head = 0 ∧ 1 ≤ e.head.node ∧ e.head.node ≤ 3 ∧ Zff ⟨e.kind, 0, 0, ⟨#[]⟩, e.head, ⟨0, 0, 0, 0, dz⟩⟩ e = true) ∨
 (e.kind = 3 ∧ Zd6 e.claim = 0 ∧ Zff ⟨e.kind, 0, 0, ⟨#[]⟩, ⟨⟨0, 0, 0, dz, 0⟩, 0, dz⟩, e.claim⟩ e = true)) := by
 have hc : Zd6 e.claim = 0 ↔ Zda e.claim := by unfold Zd6; split <;> simp [*]
 have hz : (⟨#[]⟩ : ByteArray) = e.text ↔ e.text = ⟨#[]⟩ := eq_comm
 have h1 : (0 : Int) = e.client ↔ e.client = 0 := eq_comm
 have h2 : (0 : Int) = e.seq ↔ e.seq = 0 := eq_comm
 have h3 : (1 : Int) = e.kind ↔ e.kind = 1 := eq_comm
 have h4 : (2 : Int) = e.kind ↔ e.kind = 2 := eq_comm
 have h5 : (3 : Int) = e.kind ↔ e.kind = 3 := eq_comm
 simp only [Zi2, Zff, hc, Zoy, Zwq, Zim, Zas, BEq.rfl, Bool.true_and, Bool.and_true, Bool.and_eq_true, beq_iff_eq, Zil ⟨⟨0, 0, 0, dz, 0⟩, 0, dz⟩, Zu ⟨0, 0, 0, 0, dz⟩, hz, h1, h2, h3, h4, h5, and_assoc, and_left_comm, and_comm]
theorem Zkd (e : Entry) : Zar Try.prog G 52 [Zc7 e] [] (Iv (Ze2 e)) [] := by
  refine Zcu (fn := Try.f52) (nt := 67) rfl rfl rfl rfl ?_
  refine Zbo 2 (H' := [hole, hole]) rfl ?_
  refine Zj (Zl (Zbx (v := Zc7 e) (b := bxB 109 (Zc6 e)) (nid := 0) (H' := [bxB 109 (Zc6 e), hole]) (Zc (Iv 0) (Zd (Zf (Zj (Zl (Ze (b := 0) (o := 0) (n := 0) (o' := 0) (Zk (p := pt 0 0) (v := Iv e.kind) ?_)))))))))
  refine Zbt (vs := [(0, Iv e.kind)]) (v := Zc7 (⟨e.kind, 0, 0, ⟨#[]⟩, (⟨(⟨0, 0, 0, dz, 0⟩ : Head), 0, dz⟩ : Signed), (⟨0, 0, 0, 0, dz⟩ : Claim)⟩ : Entry)) rfl rfl rfl (by kernel_rfl) ?_
  refine Zbg (b := bxB 109 (Zc6 (⟨0, 0, 0, ⟨#[]⟩, (⟨(⟨0, 0, 0, dz, 0⟩ : Head), 0, dz⟩ : Signed), (⟨0, 0, 0, 0, dz⟩ : Claim)⟩ : Entry))) (nid := 1) (H' := [bxB 109 (Zc6 e), bxB 109 (Zc6 (⟨0, 0, 0, ⟨#[]⟩, (⟨(⟨0, 0, 0, dz, 0⟩ : Head), 0, dz⟩ : Signed), (⟨0, 0, 0, 0, dz⟩ : Claim)⟩ : Entry))]) (Zz (p := pt 1 0) (v := Zc7 (⟨e.kind, 0, 0, ⟨#[]⟩, (⟨(⟨0, 0, 0, dz, 0⟩ : Head), 0, dz⟩ : Signed), (⟨0, 0, 0, 0, dz⟩ : Claim)⟩ : Entry)) (b := 1) (blk := bxB 109 (Zc6 (⟨e.kind, 0, 0, ⟨#[]⟩, (⟨(⟨0, 0, 0, dz, 0⟩ : Head), 0, dz⟩ : Signed), (⟨0, 0, 0, 0, dz⟩ : Claim)⟩ : Entry))) (H' := [bxB 109 (Zc6 e), bxB 109 (Zc6 (⟨e.kind, 0, 0, ⟨#[]⟩, (⟨(⟨0, 0, 0, dz, 0⟩ : Head), 0, dz⟩ : Signed), (⟨0, 0, 0, 0, dz⟩ : Claim)⟩ : Entry))]) (Zd (Zf (Zj (Zl (Zc (.bool false) (Zd (Zf (Zj (Zj (Zl (Ze (b := 0) (o := 0) (n := 0) (o' := 0) (Zk (p := pt 0 0) (v := Iv e.kind) (Zd (Zf (Zbk (Zj (Zl ?_))))))))))))))))))
  by_cases h1 : e.kind = 1
  refine Zn (vx := Iv e.kind) (vy := Iv 1) rfl rfl (.bool true) rfl rfl (Zaw (by omega)) ?_
  refine Zc (.bool true) (Zd (Zf (Z5 rfl (Zj ?_))))
  refine Zdg (by kernel_rfl) ?_
  refine Ze (b := 0) (o := 0) (n := 1) (o' := 1) (Zk (p := pt 0 1) (v := Iv e.client) (Ze (b := 0) (o := 0) (n := 2) (o' := 2) (Zk (p := pt 0 2) (v := Iv e.seq) (Ze (b := 0) (o := 0) (n := 3) (o' := 3) (Zk (p := pt 0 3) (v := .string e.text) (Ze (b := 1) (o := 0) (n := 1) (o' := 1) (Zz (p := pt 1 1) (v := Iv e.client) (b := 1) (blk := bxB 109 (Zc6 (⟨e.kind, e.client, 0, ⟨#[]⟩, (⟨(⟨0, 0, 0, dz, 0⟩ : Head), 0, dz⟩ : Signed), (⟨0, 0, 0, 0, dz⟩ : Claim)⟩ : Entry))) (H' := [bxB 109 (Zc6 e), bxB 109 (Zc6 (⟨e.kind, e.client, 0, ⟨#[]⟩, (⟨(⟨0, 0, 0, dz, 0⟩ : Head), 0, dz⟩ : Signed), (⟨0, 0, 0, 0, dz⟩ : Claim)⟩ : Entry))]) (Ze (b := 1) (o := 0) (n := 2) (o' := 2) (Zz (p := pt 1 2) (v := Iv e.seq) (b := 1) (blk := bxB 109 (Zc6 (⟨e.kind, e.client, e.seq, ⟨#[]⟩, (⟨(⟨0, 0, 0, dz, 0⟩ : Head), 0, dz⟩ : Signed), (⟨0, 0, 0, 0, dz⟩ : Claim)⟩ : Entry))) (H' := [bxB 109 (Zc6 e), bxB 109 (Zc6 (⟨e.kind, e.client, e.seq, ⟨#[]⟩, (⟨(⟨0, 0, 0, dz, 0⟩ : Head), 0, dz⟩ : Signed), (⟨0, 0, 0, 0, dz⟩ : Claim)⟩ : Entry))]) (Ze (b := 1) (o := 0) (n := 3) (o' := 3) (Zz (p := pt 1 3) (v := .string e.text) (b := 1) (blk := bxB 109 (Zc6 (⟨e.kind, e.client, e.seq, e.text, (⟨(⟨0, 0, 0, dz, 0⟩ : Head), 0, dz⟩ : Signed), (⟨0, 0, 0, 0, dz⟩ : Claim)⟩ : Entry))) (H' := [bxB 109 (Zc6 e), bxB 109 (Zc6 (⟨e.kind, e.client, e.seq, e.text, (⟨(⟨0, 0, 0, dz, 0⟩ : Head), 0, dz⟩ : Signed), (⟨0, 0, 0, 0, dz⟩ : Claim)⟩ : Entry))]) ?_)))))))))))
  refine Za9 (Zap [[], [0], [], [2], [], [4], [0, 1], [0, 1, 6], [0, 1, 2, 3, 6, 7], [0, 1, 2, 3, 6, 7, 8], [0, 1, 2, 3, 4, 5, 6, 7, 8, 9], [0, 1, 2, 3, 4, 5, 6, 7, 8, 9, 10]] (by kernel_rfl) (by kernel_rfl)) ?_
  refine Zf (Zl (Ze (b := 1) (o := 0) (n := 1) (o' := 1) (Zk (p := pt 1 1) (v := Iv e.client) ?_)))
  by_cases h2 : 1 ≤ e.client
  by_cases h3 : e.client ≤ 3
  refine Zt ((Zaz (G := G) e.client 1 3).res (congrArg Value.bool (Za2 (by omega) (by omega)))) (vals := [Iv e.client, Iv 1, Iv 3]) (res' := .bool true) rfl rfl rfl rfl rfl rfl ?_
  refine Zb (.bool true) (Ze (b := 1) (o := 0) (n := 2) (o' := 2) (Zk (p := pt 1 2) (v := Iv e.seq) ?_))
  by_cases h4 : 1 ≤ e.seq
  by_cases h5 : e.seq ≤ 1000000
  refine Zt ((Zaz (G := G) e.seq 1 1000000).res (congrArg Value.bool (Za2 (by omega) (by omega)))) (vals := [Iv e.seq, Iv 1, Iv 1000000]) (res' := .bool true) rfl rfl rfl rfl rfl rfl ?_
  refine Zh (.bool true) (Zb (.bool true) (Ze (b := 1) (o := 0) (n := 3) (o' := 3) (Zk (p := pt 1 3) (v := .string e.text) (Zbd (p := .string e.text) (v := Iv (e.text.size : Nat)) ?_))))
  by_cases h6 : (e.text.size : Nat) ≤ 200
  refine Zn (vx := Iv (e.text.size : Nat)) (vy := Iv 200) rfl rfl (.bool true) rfl rfl (Zna (by omega)) ?_
  refine Zh (.bool true) (Zc (.bool true) (Zd (Z1 (Zf (Zj (Zl (Zb (.bool true) (Zb (.bool true) (Zk (p := pt 1 0) (v := Zc7 (⟨e.kind, e.client, e.seq, e.text, (⟨(⟨0, 0, 0, dz, 0⟩ : Head), 0, dz⟩ : Signed), (⟨0, 0, 0, 0, dz⟩ : Claim)⟩ : Entry)) (Zk (p := pt 0 0) (v := Zc7 e) ?_))))))))))
  rcases Bool.eq_false_or_eq_true (Zff (⟨e.kind, e.client, e.seq, e.text, (⟨(⟨0, 0, 0, dz, 0⟩ : Head), 0, dz⟩ : Signed), (⟨0, 0, 0, 0, dz⟩ : Claim)⟩ : Entry) e) with h7 | h7
  refine Zn (vx := Zc7 (⟨e.kind, e.client, e.seq, e.text, (⟨(⟨0, 0, 0, dz, 0⟩ : Head), 0, dz⟩ : Signed), (⟨0, 0, 0, 0, dz⟩ : Claim)⟩ : Entry)) (vy := Zc7 e) rfl rfl (.bool true) rfl rfl (Eq.trans (Zfu (⟨e.kind, e.client, e.seq, e.text, (⟨(⟨0, 0, 0, dz, 0⟩ : Head), 0, dz⟩ : Signed), (⟨0, 0, 0, 0, dz⟩ : Claim)⟩ : Entry) e) (by rw [h7] <;> rfl)) ?_
  refine Zh (.bool true) ?_
  refine Zt (Zbu (G := G) true) (vals := [.bool true]) (res' := Iv 0) rfl rfl rfl rfl rfl rfl ?_
  refine Zc (Iv 0) (Zd (Zf (Zq (Zp ?_))))
  rw [show Ze2 e = 0 from if_pos ((Zbq e).2 (by first | exact .inl ⟨by omega, by omega, by omega, by omega, by omega, by omega, by assumption⟩ | exact .inr (.inl ⟨by omega, by omega, by omega, by omega, by assumption⟩) | exact .inr (.inr ⟨by omega, by omega, by assumption⟩)))]
  exact Zm (v := Iv 0) rfl rfl rfl (by kernel_rfl) rfl
  refine Zn (vx := Zc7 (⟨e.kind, e.client, e.seq, e.text, (⟨(⟨0, 0, 0, dz, 0⟩ : Head), 0, dz⟩ : Signed), (⟨0, 0, 0, 0, dz⟩ : Claim)⟩ : Entry)) (vy := Zc7 e) rfl rfl (.bool false) rfl rfl (Eq.trans (Zfu (⟨e.kind, e.client, e.seq, e.text, (⟨(⟨0, 0, 0, dz, 0⟩ : Head), 0, dz⟩ : Signed), (⟨0, 0, 0, 0, dz⟩ : Claim)⟩ : Entry) e) (by rw [h7] <;> rfl)) ?_
  refine Zh (.bool false) ?_
  refine Zt (Zbu (G := G) false) (vals := [.bool false]) (res' := Iv 60) rfl rfl rfl rfl rfl rfl ?_
  refine Zc (Iv 60) (Zd (Zf (Zq (Zp ?_))))
  rw [show Ze2 e = 60 from if_neg (fun q => by rcases (Zbq e).1 q with q | q | q <;> first | omega | (exact absurd (by first | exact q.2.2.2.2.2.2 | exact q.2.2.2.2 | exact q.2.2) (Bool.eq_false_iff.1 (by assumption))))]
  exact Zm (v := Iv 60) rfl rfl rfl (by kernel_rfl) rfl
  refine Zn (vx := Iv (e.text.size : Nat)) (vy := Iv 200) rfl rfl (.bool false) rfl rfl (Zm9 (by omega)) ?_
  refine Zh (.bool false) (Zc (.bool false) (Zd (Z1 (Zf (Zj (Zl (Zb (.bool false) (Zb (.bool false) (Za (Za (Za (Zh (.bool false) ?_))))))))))))
  refine Zt (Zbu (G := G) false) (vals := [.bool false]) (res' := Iv 60) rfl rfl rfl rfl rfl rfl ?_
  refine Zc (Iv 60) (Zd (Zf (Zq (Zp ?_))))
  rw [show Ze2 e = 60 from if_neg (fun q => by rcases (Zbq e).1 q with q | q | q <;> first | omega | (exact absurd (by first | exact q.2.2.2.2.2.2 | exact q.2.2.2.2 | exact q.2.2) (Bool.eq_false_iff.1 (by assumption))))]
  exact Zm (v := Iv 60) rfl rfl rfl (by kernel_rfl) rfl
  refine Zt ((Zaz (G := G) e.seq 1 1000000).res (congrArg Value.bool (Z4 (by omega)))) (vals := [Iv e.seq, Iv 1, Iv 1000000]) (res' := .bool false) rfl rfl rfl rfl rfl rfl ?_
  refine Zh (.bool false) (Zb (.bool false) (Za (Za (Za (Za (Zh (.bool false) (Zc (.bool false) (Zd (Z1 (Zf (Zj (Zl (Zb (.bool false) (Zb (.bool false) (Za (Za (Za (Zh (.bool false) ?_))))))))))))))))))
  refine Zt (Zbu (G := G) false) (vals := [.bool false]) (res' := Iv 60) rfl rfl rfl rfl rfl rfl ?_
  refine Zc (Iv 60) (Zd (Zf (Zq (Zp ?_))))
  rw [show Ze2 e = 60 from if_neg (fun q => by rcases (Zbq e).1 q with q | q | q <;> first | omega | (exact absurd (by first | exact q.2.2.2.2.2.2 | exact q.2.2.2.2 | exact q.2.2) (Bool.eq_false_iff.1 (by assumption))))]
  exact Zm (v := Iv 60) rfl rfl rfl (by kernel_rfl) rfl
  refine Zt ((Zaz (G := G) e.seq 1 1000000).res (congrArg Value.bool (Z4 (by omega)))) (vals := [Iv e.seq, Iv 1, Iv 1000000]) (res' := .bool false) rfl rfl rfl rfl rfl rfl ?_
  refine Zh (.bool false) (Zb (.bool false) (Za (Za (Za (Za (Zh (.bool false) (Zc (.bool false) (Zd (Z1 (Zf (Zj (Zl (Zb (.bool false) (Zb (.bool false) (Za (Za (Za (Zh (.bool false) ?_))))))))))))))))))
  refine Zt (Zbu (G := G) false) (vals := [.bool false]) (res' := Iv 60) rfl rfl rfl rfl rfl rfl ?_
  refine Zc (Iv 60) (Zd (Zf (Zq (Zp ?_))))
  rw [show Ze2 e = 60 from if_neg (fun q => by rcases (Zbq e).1 q with q | q | q <;> first | omega | (exact absurd (by first | exact q.2.2.2.2.2.2 | exact q.2.2.2.2 | exact q.2.2) (Bool.eq_false_iff.1 (by assumption))))]
  exact Zm (v := Iv 60) rfl rfl rfl (by kernel_rfl) rfl
  refine Zt ((Zaz (G := G) e.client 1 3).res (congrArg Value.bool (Z4 (by omega)))) (vals := [Iv e.client, Iv 1, Iv 3]) (res' := .bool false) rfl rfl rfl rfl rfl rfl ?_
  refine Zb (.bool false) (Za (Za (Za (Zh (.bool false) (Zb (.bool false) (Za (Za (Za (Za (Zh (.bool false) (Zc (.bool false) (Zd (Z1 (Zf (Zj (Zl (Zb (.bool false) (Zb (.bool false) (Za (Za (Za (Zh (.bool false) ?_))))))))))))))))))))))
  refine Zt (Zbu (G := G) false) (vals := [.bool false]) (res' := Iv 60) rfl rfl rfl rfl rfl rfl ?_
  refine Zc (Iv 60) (Zd (Zf (Zq (Zp ?_))))
  rw [show Ze2 e = 60 from if_neg (fun q => by rcases (Zbq e).1 q with q | q | q <;> first | omega | (exact absurd (by first | exact q.2.2.2.2.2.2 | exact q.2.2.2.2 | exact q.2.2) (Bool.eq_false_iff.1 (by assumption))))]
  exact Zm (v := Iv 60) rfl rfl rfl (by kernel_rfl) rfl
  refine Zt ((Zaz (G := G) e.client 1 3).res (congrArg Value.bool (Z4 (by omega)))) (vals := [Iv e.client, Iv 1, Iv 3]) (res' := .bool false) rfl rfl rfl rfl rfl rfl ?_
  refine Zb (.bool false) (Za (Za (Za (Zh (.bool false) (Zb (.bool false) (Za (Za (Za (Za (Zh (.bool false) (Zc (.bool false) (Zd (Z1 (Zf (Zj (Zl (Zb (.bool false) (Zb (.bool false) (Za (Za (Za (Zh (.bool false) ?_))))))))))))))))))))))
  refine Zt (Zbu (G := G) false) (vals := [.bool false]) (res' := Iv 60) rfl rfl rfl rfl rfl rfl ?_
  refine Zc (Iv 60) (Zd (Zf (Zq (Zp ?_))))
  rw [show Ze2 e = 60 from if_neg (fun q => by rcases (Zbq e).1 q with q | q | q <;> first | omega | (exact absurd (by first | exact q.2.2.2.2.2.2 | exact q.2.2.2.2 | exact q.2.2) (Bool.eq_false_iff.1 (by assumption))))]
  exact Zm (v := Iv 60) rfl rfl rfl (by kernel_rfl) rfl
  refine Zn (vx := Iv e.kind) (vy := Iv 1) rfl rfl (.bool false) rfl rfl (Zbj (by omega)) ?_
  refine Zc (.bool false) (Zd (Zf (Zw rfl (Zj (Zl ?_)))))
  by_cases h8 : e.kind = 2
  refine Zn (vx := Iv e.kind) (vy := Iv 2) rfl rfl (.bool true) rfl rfl (Zaw (by omega)) ?_
  refine Zc (.bool true) (Zd (Zf (Z5 rfl (Zj (Zl (Ze (b := 0) (o := 0) (n := 4) (o' := 4) (Zk (p := pt 0 4) (v := Zig e.head) (Ze (b := 1) (o := 0) (n := 4) (o' := 4) (Zz (p := pt 1 4) (v := Zig e.head) (b := 1) (blk := bxB 109 (Zc6 (⟨e.kind, 0, 0, ⟨#[]⟩, e.head, (⟨0, 0, 0, 0, dz⟩ : Claim)⟩ : Entry))) (H' := [bxB 109 (Zc6 e), bxB 109 (Zc6 (⟨e.kind, 0, 0, ⟨#[]⟩, e.head, (⟨0, 0, 0, 0, dz⟩ : Claim)⟩ : Entry))]) (Zd (Zf (Zl (Ze (b := 1) (o := 0) (n := 4) (o' := 4) (Ze (b := 1) (o := 4) (n := 0) (o' := 4) (Zk (p := pt 1 4) (v := Zkj e.head.head) ?_)))))))))))))))
  refine Zt (Ztx (G := G) e.head.head) (vals := [Zkj e.head.head]) (res' := Iv (Zb0 e.head.head)) rfl rfl rfl rfl rfl rfl ?_
  by_cases h9 : (Zb0 e.head.head) = 0
  refine Zn (vx := Iv (Zb0 e.head.head)) (vy := Iv 0) rfl rfl (.bool true) rfl rfl (Zaw (by omega)) ?_
  refine Zb (.bool true) (Ze (b := 1) (o := 0) (n := 4) (o' := 4) (Ze (b := 1) (o := 4) (n := 36) (o' := 40) (Zk (p := pt 1 40) (v := Iv e.head.node) ?_)))
  by_cases h10 : 1 ≤ e.head.node
  by_cases h11 : e.head.node ≤ 3
  refine Zt ((Zaz (G := G) e.head.node 1 3).res (congrArg Value.bool (Za2 (by omega) (by omega)))) (vals := [Iv e.head.node, Iv 1, Iv 3]) (res' := .bool true) rfl rfl rfl rfl rfl rfl ?_
  refine Zh (.bool true) (Zc (.bool true) (Zd (Z1 (Zf (Zj (Zl (Zb (.bool true) (Zb (.bool true) (Zk (p := pt 1 0) (v := Zc7 (⟨e.kind, 0, 0, ⟨#[]⟩, e.head, (⟨0, 0, 0, 0, dz⟩ : Claim)⟩ : Entry)) (Zk (p := pt 0 0) (v := Zc7 e) ?_))))))))))
  rcases Bool.eq_false_or_eq_true (Zff (⟨e.kind, 0, 0, ⟨#[]⟩, e.head, (⟨0, 0, 0, 0, dz⟩ : Claim)⟩ : Entry) e) with h12 | h12
  refine Zn (vx := Zc7 (⟨e.kind, 0, 0, ⟨#[]⟩, e.head, (⟨0, 0, 0, 0, dz⟩ : Claim)⟩ : Entry)) (vy := Zc7 e) rfl rfl (.bool true) rfl rfl (Eq.trans (Zfu (⟨e.kind, 0, 0, ⟨#[]⟩, e.head, (⟨0, 0, 0, 0, dz⟩ : Claim)⟩ : Entry) e) (by rw [h12] <;> rfl)) ?_
  refine Zh (.bool true) ?_
  refine Zt (Zbu (G := G) true) (vals := [.bool true]) (res' := Iv 0) rfl rfl rfl rfl rfl rfl ?_
  refine Zc (Iv 0) (Zd (Zf (Zq (Zp ?_))))
  rw [show Ze2 e = 0 from if_pos ((Zbq e).2 (by first | exact .inl ⟨by omega, by omega, by omega, by omega, by omega, by omega, by assumption⟩ | exact .inr (.inl ⟨by omega, by omega, by omega, by omega, by assumption⟩) | exact .inr (.inr ⟨by omega, by omega, by assumption⟩)))]
  exact Zm (v := Iv 0) rfl rfl rfl (by kernel_rfl) rfl
  refine Zn (vx := Zc7 (⟨e.kind, 0, 0, ⟨#[]⟩, e.head, (⟨0, 0, 0, 0, dz⟩ : Claim)⟩ : Entry)) (vy := Zc7 e) rfl rfl (.bool false) rfl rfl (Eq.trans (Zfu (⟨e.kind, 0, 0, ⟨#[]⟩, e.head, (⟨0, 0, 0, 0, dz⟩ : Claim)⟩ : Entry) e) (by rw [h12] <;> rfl)) ?_
  refine Zh (.bool false) ?_
  refine Zt (Zbu (G := G) false) (vals := [.bool false]) (res' := Iv 60) rfl rfl rfl rfl rfl rfl ?_
  refine Zc (Iv 60) (Zd (Zf (Zq (Zp ?_))))
  rw [show Ze2 e = 60 from if_neg (fun q => by rcases (Zbq e).1 q with q | q | q <;> first | omega | (exact absurd (by first | exact q.2.2.2.2.2.2 | exact q.2.2.2.2 | exact q.2.2) (Bool.eq_false_iff.1 (by assumption))))]
  exact Zm (v := Iv 60) rfl rfl rfl (by kernel_rfl) rfl
  refine Zt ((Zaz (G := G) e.head.node 1 3).res (congrArg Value.bool (Z4 (by omega)))) (vals := [Iv e.head.node, Iv 1, Iv 3]) (res' := .bool false) rfl rfl rfl rfl rfl rfl ?_
  refine Zh (.bool false) (Zc (.bool false) (Zd (Z1 (Zf (Zj (Zl (Zb (.bool false) (Zb (.bool false) (Za (Za (Za (Zh (.bool false) ?_))))))))))))
  refine Zt (Zbu (G := G) false) (vals := [.bool false]) (res' := Iv 60) rfl rfl rfl rfl rfl rfl ?_
  refine Zc (Iv 60) (Zd (Zf (Zq (Zp ?_))))
  rw [show Ze2 e = 60 from if_neg (fun q => by rcases (Zbq e).1 q with q | q | q <;> first | omega | (exact absurd (by first | exact q.2.2.2.2.2.2 | exact q.2.2.2.2 | exact q.2.2) (Bool.eq_false_iff.1 (by assumption))))]
  exact Zm (v := Iv 60) rfl rfl rfl (by kernel_rfl) rfl
  refine Zt ((Zaz (G := G) e.head.node 1 3).res (congrArg Value.bool (Z4 (by omega)))) (vals := [Iv e.head.node, Iv 1, Iv 3]) (res' := .bool false) rfl rfl rfl rfl rfl rfl ?_
  refine Zh (.bool false) (Zc (.bool false) (Zd (Z1 (Zf (Zj (Zl (Zb (.bool false) (Zb (.bool false) (Za (Za (Za (Zh (.bool false) ?_))))))))))))
  refine Zt (Zbu (G := G) false) (vals := [.bool false]) (res' := Iv 60) rfl rfl rfl rfl rfl rfl ?_
  refine Zc (Iv 60) (Zd (Zf (Zq (Zp ?_))))
  rw [show Ze2 e = 60 from if_neg (fun q => by rcases (Zbq e).1 q with q | q | q <;> first | omega | (exact absurd (by first | exact q.2.2.2.2.2.2 | exact q.2.2.2.2 | exact q.2.2) (Bool.eq_false_iff.1 (by assumption))))]
  exact Zm (v := Iv 60) rfl rfl rfl (by kernel_rfl) rfl
  refine Zn (vx := Iv (Zb0 e.head.head)) (vy := Iv 0) rfl rfl (.bool false) rfl rfl (Zbj (by omega)) ?_
  refine Zb (.bool false) (Za (Za (Za (Za (Zh (.bool false) (Zc (.bool false) (Zd (Z1 (Zf (Zj (Zl (Zb (.bool false) (Zb (.bool false) (Za (Za (Za (Zh (.bool false) ?_)))))))))))))))))
  refine Zt (Zbu (G := G) false) (vals := [.bool false]) (res' := Iv 60) rfl rfl rfl rfl rfl rfl ?_
  refine Zc (Iv 60) (Zd (Zf (Zq (Zp ?_))))
  rw [show Ze2 e = 60 from if_neg (fun q => by rcases (Zbq e).1 q with q | q | q <;> first | omega | (exact absurd (by first | exact q.2.2.2.2.2.2 | exact q.2.2.2.2 | exact q.2.2) (Bool.eq_false_iff.1 (by assumption))))]
  exact Zm (v := Iv 60) rfl rfl rfl (by kernel_rfl) rfl
  refine Zn (vx := Iv e.kind) (vy := Iv 2) rfl rfl (.bool false) rfl rfl (Zbj (by omega)) ?_
  refine Zc (.bool false) (Zd (Zf (Zw rfl (Zj (Zl ?_)))))
  by_cases h13 : e.kind = 3
  refine Zn (vx := Iv e.kind) (vy := Iv 3) rfl rfl (.bool true) rfl rfl (Zaw (by omega)) ?_
  refine Zc (.bool true) (Zd (Zf (Z5 rfl (Zj (Zl (Ze (b := 0) (o := 0) (n := 73) (o' := 73) (Zk (p := pt 0 73) (v := Zy e.claim) (Ze (b := 1) (o := 0) (n := 73) (o' := 73) (Zz (p := pt 1 73) (v := Zy e.claim) (b := 1) (blk := bxB 109 (Zc6 (⟨e.kind, 0, 0, ⟨#[]⟩, (⟨(⟨0, 0, 0, dz, 0⟩ : Head), 0, dz⟩ : Signed), e.claim⟩ : Entry))) (H' := [bxB 109 (Zc6 e), bxB 109 (Zc6 (⟨e.kind, 0, 0, ⟨#[]⟩, (⟨(⟨0, 0, 0, dz, 0⟩ : Head), 0, dz⟩ : Signed), e.claim⟩ : Entry))]) (Zd (Zf (Zl (Ze (b := 1) (o := 0) (n := 73) (o' := 73) (Zk (p := pt 1 73) (v := Zy e.claim) ?_))))))))))))))
  refine Zt (Zgd (G := G) e.claim) (vals := [Zy e.claim]) (res' := Iv (Zd6 e.claim)) rfl rfl rfl rfl rfl rfl ?_
  by_cases h14 : (Zd6 e.claim) = 0
  refine Zn (vx := Iv (Zd6 e.claim)) (vy := Iv 0) rfl rfl (.bool true) rfl rfl (Zaw (by omega)) ?_
  refine Zc (.bool true) (Zd (Z1 (Zf (Zj (Zl (Zb (.bool true) (Zb (.bool true) (Zk (p := pt 1 0) (v := Zc7 (⟨e.kind, 0, 0, ⟨#[]⟩, (⟨(⟨0, 0, 0, dz, 0⟩ : Head), 0, dz⟩ : Signed), e.claim⟩ : Entry)) (Zk (p := pt 0 0) (v := Zc7 e) ?_)))))))))
  rcases Bool.eq_false_or_eq_true (Zff (⟨e.kind, 0, 0, ⟨#[]⟩, (⟨(⟨0, 0, 0, dz, 0⟩ : Head), 0, dz⟩ : Signed), e.claim⟩ : Entry) e) with h15 | h15
  refine Zn (vx := Zc7 (⟨e.kind, 0, 0, ⟨#[]⟩, (⟨(⟨0, 0, 0, dz, 0⟩ : Head), 0, dz⟩ : Signed), e.claim⟩ : Entry)) (vy := Zc7 e) rfl rfl (.bool true) rfl rfl (Eq.trans (Zfu (⟨e.kind, 0, 0, ⟨#[]⟩, (⟨(⟨0, 0, 0, dz, 0⟩ : Head), 0, dz⟩ : Signed), e.claim⟩ : Entry) e) (by rw [h15] <;> rfl)) ?_
  refine Zh (.bool true) ?_
  refine Zt (Zbu (G := G) true) (vals := [.bool true]) (res' := Iv 0) rfl rfl rfl rfl rfl rfl ?_
  refine Zc (Iv 0) (Zd (Zf (Zq (Zp ?_))))
  rw [show Ze2 e = 0 from if_pos ((Zbq e).2 (by first | exact .inl ⟨by omega, by omega, by omega, by omega, by omega, by omega, by assumption⟩ | exact .inr (.inl ⟨by omega, by omega, by omega, by omega, by assumption⟩) | exact .inr (.inr ⟨by omega, by omega, by assumption⟩)))]
  exact Zm (v := Iv 0) rfl rfl rfl (by kernel_rfl) rfl
  refine Zn (vx := Zc7 (⟨e.kind, 0, 0, ⟨#[]⟩, (⟨(⟨0, 0, 0, dz, 0⟩ : Head), 0, dz⟩ : Signed), e.claim⟩ : Entry)) (vy := Zc7 e) rfl rfl (.bool false) rfl rfl (Eq.trans (Zfu (⟨e.kind, 0, 0, ⟨#[]⟩, (⟨(⟨0, 0, 0, dz, 0⟩ : Head), 0, dz⟩ : Signed), e.claim⟩ : Entry) e) (by rw [h15] <;> rfl)) ?_
  refine Zh (.bool false) ?_
  refine Zt (Zbu (G := G) false) (vals := [.bool false]) (res' := Iv 60) rfl rfl rfl rfl rfl rfl ?_
  refine Zc (Iv 60) (Zd (Zf (Zq (Zp ?_))))
  rw [show Ze2 e = 60 from if_neg (fun q => by rcases (Zbq e).1 q with q | q | q <;> first | omega | (exact absurd (by first | exact q.2.2.2.2.2.2 | exact q.2.2.2.2 | exact q.2.2) (Bool.eq_false_iff.1 (by assumption))))]
  exact Zm (v := Iv 60) rfl rfl rfl (by kernel_rfl) rfl
  refine Zn (vx := Iv (Zd6 e.claim)) (vy := Iv 0) rfl rfl (.bool false) rfl rfl (Zbj (by omega)) ?_
  refine Zc (.bool false) (Zd (Z1 (Zf (Zj (Zl (Zb (.bool false) (Zb (.bool false) (Za (Za (Za (Zh (.bool false) ?_)))))))))))
  refine Zt (Zbu (G := G) false) (vals := [.bool false]) (res' := Iv 60) rfl rfl rfl rfl rfl rfl ?_
  refine Zc (Iv 60) (Zd (Zf (Zq (Zp ?_))))
  rw [show Ze2 e = 60 from if_neg (fun q => by rcases (Zbq e).1 q with q | q | q <;> first | omega | (exact absurd (by first | exact q.2.2.2.2.2.2 | exact q.2.2.2.2 | exact q.2.2) (Bool.eq_false_iff.1 (by assumption))))]
  exact Zm (v := Iv 60) rfl rfl rfl (by kernel_rfl) rfl
  refine Zn (vx := Iv e.kind) (vy := Iv 3) rfl rfl (.bool false) rfl rfl (Zbj (by omega)) ?_
  refine Zc (.bool false) (Zd (Zf (Zw rfl (Z8 (Z1 (Zf (Zj (Zl (Zb (.bool false) (Zb (.bool false) (Za (Za (Za (Zh (.bool false) ?_))))))))))))))
  refine Zt (Zbu (G := G) false) (vals := [.bool false]) (res' := Iv 60) rfl rfl rfl rfl rfl rfl ?_
  refine Zc (Iv 60) (Zd (Zf (Zq (Zp ?_))))
  rw [show Ze2 e = 60 from if_neg (fun q => by rcases (Zbq e).1 q with q | q | q <;> first | omega | (exact absurd (by first | exact q.2.2.2.2.2.2 | exact q.2.2.2.2 | exact q.2.2) (Bool.eq_false_iff.1 (by assumption))))]
  exact Zm (v := Iv 60) rfl rfl rfl (by kernel_rfl) rfl
end Go.Flat
