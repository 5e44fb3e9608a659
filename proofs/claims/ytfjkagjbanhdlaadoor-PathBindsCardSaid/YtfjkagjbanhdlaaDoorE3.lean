/- Walks. -/
import Derived.Test.YtfjkagjbanhdlaaDoorE1
set_option linter.unusedVariables false
set_option linter.unusedSimpArgs false
set_option maxRecDepth 20000
namespace Go.Flat
open Go.Proofs
variable {G : Glob}
theorem Zld (n : Nat) (a b : D) : Za6 n a b = Za6 n b a := by
  cases h : Za6 n a b with
  | true => rw [Zcy] at h; exact (Zcy.2 h.symm).symm
  | false =>
    cases h' : Za6 n b a with
    | true => rw [Zcy] at h'; rw [Zcy.2 h'.symm] at h; cases h
    | false => rfl
theorem Zt1 (a b : Head) : Zg1 a b = Zg1 b a := by
 unfold Zg1; rw [BEq.comm (a := a.region), BEq.comm (a := a.epoch), BEq.comm (a := a.size), BEq.comm (a := a.tick), Zld]
theorem Zqs (a b : Signed) : Zc9 a b = Zc9 b a := by
 unfold Zc9; rw [Zt1, BEq.comm (a := a.node), Zld]
theorem Zsa (a b : Claim) : Zf8 a b = Zf8 b a := by
 unfold Zf8; rw [BEq.comm (a := a.region), BEq.comm (a := a.epoch), BEq.comm (a := a.node), BEq.comm (a := a.size), Zld]
def Zfq (e : Entry) : Prop :=
  (e.kind = 1 ∧ 1 ≤ e.client ∧ e.client ≤ 3 ∧ 1 ≤ e.seq ∧ e.seq ≤ 1000000 ∧ e.text.size ≤ 200 ∧ Zc9 e.head ⟨⟨0, 0, 0, dz, 0⟩, 0, dz⟩ = true ∧ Zf8 e.claim ⟨0, 0, 0, 0, dz⟩ = true) ∨
  (e.kind = 2 ∧ e.client = 0 ∧ e.seq = 0 ∧ e.text = ⟨#[]⟩ ∧ Zj3 e.head ∧ Zf8 e.claim ⟨0, 0, 0, 0, dz⟩ = true) ∨
  (e.kind = 3 ∧ e.client = 0 ∧ e.seq = 0 ∧ e.text = ⟨#[]⟩ ∧ Zc9 e.head ⟨⟨0, 0, 0, dz, 0⟩, 0, dz⟩ = true ∧ Ze3 e.claim)
instance (e : Entry) : Decidable (Zfq e) := inferInstanceAs (Decidable (_ ∨ _))
def Ze1 (e : Entry) : Int := if Zfq e then 0 else 60
theorem Zut {e : Entry} (h : Ze1 e = 0) : Zfq e := by
 unfold Ze1 at h
 split at h
 ·assumption
 ·omega
theorem Zjv {e : Entry} (h : ¬ Ze1 e = 0) : ¬ Zfq e := fun q => h (if_pos q)
def Zdy (x : Item) : Prop := 1 ≤ x.epoch ∧ x.epoch ≤ 900000000 ∧ Zfq x.entry
instance (x : Item) : Decidable (Zdy x) := inferInstanceAs (Decidable (_ ∧ _))
theorem Zuy {h : Head} : Za5 h = 0 ↔ Zf3 h := by
 rw [Zf1]; split <;> simp [*]
theorem Zb5 (e : Entry) : Zfq e ↔ (
 (e.kind = 1 ∧ 1 ≤ e.client ∧ e.client ≤ 3 ∧ 1 ≤ e.seq ∧ e.seq ≤ 1000000 ∧ e.text.size ≤ 200 ∧ Zec ⟨e.kind, e.client, e.seq, e.text, ⟨⟨0, 0, 0, dz, 0⟩, 0, dz⟩, ⟨0, 0, 0, 0, dz⟩⟩ e = true) ∨
 (e.kind = 2 ∧ Za5 e.head.head = 0 ∧ 1 ≤ e.head.node ∧ e.head.node ≤ 3 ∧ Zec ⟨e.kind, 0, 0, ⟨#[]⟩, e.head, ⟨0, 0, 0, 0, dz⟩⟩ e = true) ∨
 (e.kind = 3 ∧ Ze4 e.claim = 0 ∧ Zec ⟨e.kind, 0, 0, ⟨#[]⟩, ⟨⟨0, 0, 0, dz, 0⟩, 0, dz⟩, e.claim⟩ e = true)) := by
 have hc : Ze4 e.claim = 0 ↔ Ze3 e.claim := by unfold Ze4; split <;> simp [*]
 have hz : (⟨#[]⟩ : ByteArray) = e.text ↔ e.text = ⟨#[]⟩ := eq_comm
 have h1 : (0 : Int) = e.client ↔ e.client = 0 := eq_comm
 have h2 : (0 : Int) = e.seq ↔ e.seq = 0 := eq_comm
 have h3 : (1 : Int) = e.kind ↔ e.kind = 1 := eq_comm
 have h4 : (2 : Int) = e.kind ↔ e.kind = 2 := eq_comm
 have h5 : (3 : Int) = e.kind ↔ e.kind = 3 := eq_comm
 simp only [Zfq, Zec, hc, Zuy, Zj3, Zh1, Zmw, BEq.rfl, Bool.true_and, Bool.and_true, Bool.and_eq_true, beq_iff_eq, Zqs ⟨⟨0, 0, 0, dz, 0⟩, 0, dz⟩, Zsa ⟨0, 0, 0, 0, dz⟩, hz, h1, h2, h3, h4, h5, and_assoc, and_left_comm, and_comm]
theorem Znw (e : Entry) : Zae Tryd.prog G 49 [Zc7 e] [] (Iv (Ze1 e)) [] := by
  refine Zbj (fn := Tryd.f49) (nt := 67) rfl rfl rfl rfl ?_
  refine Zaj 2 (H' := [hole, hole]) rfl ?_
  refine Zf (Zg ?_)
  refine Zbr (v := Zc7 e) (b := bxB 109 (Zc2 e)) (nid := 0) (H' := [bxB 109 (Zc2 e), hole]) rfl rfl rfl (by kernel_rfl) (by kernel_rfl) ?_
  refine Zc rfl rfl (Iv 0) rfl (Za (Zb (Zf (Zg ?_))))
  refine Zi (b := 0) (o := 0) (n := 0) (o' := 0) rfl rfl rfl rfl rfl ?_
  refine Zl (p := pt 0 0) (v := Iv e.kind) rfl rfl rfl (by kernel_rfl) ?_
  refine Zbn (vs := [(0, Iv e.kind)]) (v := Zc7 (⟨e.kind, 0, 0, ⟨#[]⟩, (⟨(⟨0, 0, 0, dz, 0⟩ : Head), 0, dz⟩ : Signed), (⟨0, 0, 0, 0, dz⟩ : Claim)⟩ : Entry)) rfl rfl rfl (by kernel_rfl) ?_
  refine Z7 (b := bxB 109 (Zc2 (⟨0, 0, 0, ⟨#[]⟩, (⟨(⟨0, 0, 0, dz, 0⟩ : Head), 0, dz⟩ : Signed), (⟨0, 0, 0, 0, dz⟩ : Claim)⟩ : Entry))) (nid := 1) (H' := [bxB 109 (Zc2 e), bxB 109 (Zc2 (⟨0, 0, 0, ⟨#[]⟩, (⟨(⟨0, 0, 0, dz, 0⟩ : Head), 0, dz⟩ : Signed), (⟨0, 0, 0, 0, dz⟩ : Claim)⟩ : Entry))]) rfl rfl (by kernel_rfl) (by kernel_rfl) ?_
  refine Zx (p := pt 1 0) (v := Zc7 (⟨e.kind, 0, 0, ⟨#[]⟩, (⟨(⟨0, 0, 0, dz, 0⟩ : Head), 0, dz⟩ : Signed), (⟨0, 0, 0, 0, dz⟩ : Claim)⟩ : Entry)) (b := 1) (blk := bxB 109 (Zc2 (⟨e.kind, 0, 0, ⟨#[]⟩, (⟨(⟨0, 0, 0, dz, 0⟩ : Head), 0, dz⟩ : Signed), (⟨0, 0, 0, 0, dz⟩ : Claim)⟩ : Entry))) (H' := [bxB 109 (Zc2 e), bxB 109 (Zc2 (⟨e.kind, 0, 0, ⟨#[]⟩, (⟨(⟨0, 0, 0, dz, 0⟩ : Head), 0, dz⟩ : Signed), (⟨0, 0, 0, 0, dz⟩ : Claim)⟩ : Entry))]) rfl rfl rfl (by kernel_rfl) (by kernel_rfl) ?_
  refine Za (Zb (Zf (Zg (Zc rfl rfl (.bool false) rfl (Za (Zb (Zf (Zf (Zg ?_)))))))))
  refine Zi (b := 0) (o := 0) (n := 0) (o' := 0) rfl rfl rfl rfl rfl ?_
  refine Zl (p := pt 0 0) (v := Iv e.kind) rfl rfl rfl (by kernel_rfl) ?_
  refine Za (Zb (Z9 (Zf (Zg ?_))))
  by_cases h1 : e.kind = 1
  refine Zk (vx := Iv e.kind) (vy := Iv 1) rfl rfl (.bool true) rfl rfl (Zdl (by omega)) ?_
  refine Zc rfl rfl (.bool true) rfl (Za (Zb (Zz rfl (Zf ?_))))
  refine Zdu (by kernel_rfl) ?_
  refine Zi (b := 0) (o := 0) (n := 1) (o' := 1) rfl rfl rfl rfl rfl ?_
  refine Zl (p := pt 0 1) (v := Iv e.client) rfl rfl rfl (by kernel_rfl) ?_
  refine Zi (b := 0) (o := 0) (n := 2) (o' := 2) rfl rfl rfl rfl rfl ?_
  refine Zl (p := pt 0 2) (v := Iv e.seq) rfl rfl rfl (by kernel_rfl) ?_
  refine Zi (b := 0) (o := 0) (n := 3) (o' := 3) rfl rfl rfl rfl rfl ?_
  refine Zl (p := pt 0 3) (v := .string e.text) rfl rfl rfl (by kernel_rfl) ?_
  refine Zi (b := 1) (o := 0) (n := 1) (o' := 1) rfl rfl rfl rfl rfl ?_
  refine Zx (p := pt 1 1) (v := Iv e.client) (b := 1) (blk := bxB 109 (Zc2 (⟨e.kind, e.client, 0, ⟨#[]⟩, (⟨(⟨0, 0, 0, dz, 0⟩ : Head), 0, dz⟩ : Signed), (⟨0, 0, 0, 0, dz⟩ : Claim)⟩ : Entry))) (H' := [bxB 109 (Zc2 e), bxB 109 (Zc2 (⟨e.kind, e.client, 0, ⟨#[]⟩, (⟨(⟨0, 0, 0, dz, 0⟩ : Head), 0, dz⟩ : Signed), (⟨0, 0, 0, 0, dz⟩ : Claim)⟩ : Entry))]) rfl rfl rfl (by kernel_rfl) (by kernel_rfl) ?_
  refine Zi (b := 1) (o := 0) (n := 2) (o' := 2) rfl rfl rfl rfl rfl ?_
  refine Zx (p := pt 1 2) (v := Iv e.seq) (b := 1) (blk := bxB 109 (Zc2 (⟨e.kind, e.client, e.seq, ⟨#[]⟩, (⟨(⟨0, 0, 0, dz, 0⟩ : Head), 0, dz⟩ : Signed), (⟨0, 0, 0, 0, dz⟩ : Claim)⟩ : Entry))) (H' := [bxB 109 (Zc2 e), bxB 109 (Zc2 (⟨e.kind, e.client, e.seq, ⟨#[]⟩, (⟨(⟨0, 0, 0, dz, 0⟩ : Head), 0, dz⟩ : Signed), (⟨0, 0, 0, 0, dz⟩ : Claim)⟩ : Entry))]) rfl rfl rfl (by kernel_rfl) (by kernel_rfl) ?_
  refine Zi (b := 1) (o := 0) (n := 3) (o' := 3) rfl rfl rfl rfl rfl ?_
  refine Zx (p := pt 1 3) (v := .string e.text) (b := 1) (blk := bxB 109 (Zc2 (⟨e.kind, e.client, e.seq, e.text, (⟨(⟨0, 0, 0, dz, 0⟩ : Head), 0, dz⟩ : Signed), (⟨0, 0, 0, 0, dz⟩ : Claim)⟩ : Entry))) (H' := [bxB 109 (Zc2 e), bxB 109 (Zc2 (⟨e.kind, e.client, e.seq, e.text, (⟨(⟨0, 0, 0, dz, 0⟩ : Head), 0, dz⟩ : Signed), (⟨0, 0, 0, 0, dz⟩ : Claim)⟩ : Entry))]) rfl rfl rfl (by kernel_rfl) (by kernel_rfl) ?_
  refine Zcu (Zgw [[], [0], [], [2], [], [4], [0, 1], [0, 1, 6], [0, 1, 2, 3, 6, 7], [0, 1, 2, 3, 6, 7, 8], [0, 1, 2, 3, 4, 5, 6, 7, 8, 9], [0, 1, 2, 3, 4, 5, 6, 7, 8, 9, 10]] (by kernel_rfl) (by kernel_rfl)) ?_
  refine Zb (Zg ?_)
  refine Zi (b := 1) (o := 0) (n := 1) (o' := 1) rfl rfl rfl rfl rfl ?_
  refine Zl (p := pt 1 1) (v := Iv e.client) rfl rfl rfl (by kernel_rfl) ?_
  by_cases h2 : 1 ≤ e.client
  by_cases h3 : e.client ≤ 3
  refine Zq ((Za3 (G := G) e.client 1 3).res (congrArg Value.bool (Zb9 (by omega) (by omega)))) (vals := [Iv e.client, Iv 1, Iv 3]) (res' := .bool true) rfl rfl rfl rfl rfl rfl ?_
  refine Ze rfl rfl (.bool true) rfl ?_
  refine Zi (b := 1) (o := 0) (n := 2) (o' := 2) rfl rfl rfl rfl rfl ?_
  refine Zl (p := pt 1 2) (v := Iv e.seq) rfl rfl rfl (by kernel_rfl) ?_
  by_cases h4 : 1 ≤ e.seq
  by_cases h5 : e.seq ≤ 1000000
  refine Zq ((Za3 (G := G) e.seq 1 1000000).res (congrArg Value.bool (Zb9 (by omega) (by omega)))) (vals := [Iv e.seq, Iv 1, Iv 1000000]) (res' := .bool true) rfl rfl rfl rfl rfl rfl ?_
  refine Zo rfl rfl (.bool true) rfl (Ze rfl rfl (.bool true) rfl ?_)
  refine Zi (b := 1) (o := 0) (n := 3) (o' := 3) rfl rfl rfl rfl rfl ?_
  refine Zl (p := pt 1 3) (v := .string e.text) rfl rfl rfl (by kernel_rfl) ?_
  refine Zbl (p := .string e.text) (v := Iv (e.text.size : Nat)) rfl rfl rfl rfl ?_
  by_cases h6 : (e.text.size : Nat) ≤ 200
  refine Zk (vx := Iv (e.text.size : Nat)) (vy := Iv 200) rfl rfl (.bool true) rfl rfl (Zt2 (by omega)) ?_
  refine Zo rfl rfl (.bool true) rfl (Zc rfl rfl (.bool true) rfl (Za (Zab (Zb (Zf (Zg (Ze rfl rfl (.bool true) rfl (Ze rfl rfl (.bool true) rfl ?_))))))))
  refine Zl (p := pt 1 0) (v := Zc7 (⟨e.kind, e.client, e.seq, e.text, (⟨(⟨0, 0, 0, dz, 0⟩ : Head), 0, dz⟩ : Signed), (⟨0, 0, 0, 0, dz⟩ : Claim)⟩ : Entry)) rfl rfl rfl (by kernel_rfl) ?_
  refine Zl (p := pt 0 0) (v := Zc7 e) rfl rfl rfl (by kernel_rfl) ?_
  rcases Bool.eq_false_or_eq_true (Zec (⟨e.kind, e.client, e.seq, e.text, (⟨(⟨0, 0, 0, dz, 0⟩ : Head), 0, dz⟩ : Signed), (⟨0, 0, 0, 0, dz⟩ : Claim)⟩ : Entry) e) with h7 | h7
  refine Zk (vx := Zc7 (⟨e.kind, e.client, e.seq, e.text, (⟨(⟨0, 0, 0, dz, 0⟩ : Head), 0, dz⟩ : Signed), (⟨0, 0, 0, 0, dz⟩ : Claim)⟩ : Entry)) (vy := Zc7 e) rfl rfl (.bool true) rfl rfl (Eq.trans (Zgx (⟨e.kind, e.client, e.seq, e.text, (⟨(⟨0, 0, 0, dz, 0⟩ : Head), 0, dz⟩ : Signed), (⟨0, 0, 0, 0, dz⟩ : Claim)⟩ : Entry) e) (by rw [h7] <;> rfl)) ?_
  refine Zo rfl rfl (.bool true) rfl ?_
  refine Zq (Zcb (G := G) true) (vals := [.bool true]) (res' := Iv 0) rfl rfl rfl rfl rfl rfl ?_
  refine Zc rfl rfl (Iv 0) rfl (Za (Zb (Zt (Zu ?_))))
  rw [show Ze1 e = 0 from if_pos ((Zb5 e).2 (by first | exact .inl ⟨by omega, by omega, by omega, by omega, by omega, by omega, by assumption⟩ | exact .inr (.inl ⟨by omega, by omega, by omega, by omega, by assumption⟩) | exact .inr (.inr ⟨by omega, by omega, by assumption⟩)))]
  exact Zm (v := Iv 0) rfl rfl rfl (by kernel_rfl) rfl
  refine Zk (vx := Zc7 (⟨e.kind, e.client, e.seq, e.text, (⟨(⟨0, 0, 0, dz, 0⟩ : Head), 0, dz⟩ : Signed), (⟨0, 0, 0, 0, dz⟩ : Claim)⟩ : Entry)) (vy := Zc7 e) rfl rfl (.bool false) rfl rfl (Eq.trans (Zgx (⟨e.kind, e.client, e.seq, e.text, (⟨(⟨0, 0, 0, dz, 0⟩ : Head), 0, dz⟩ : Signed), (⟨0, 0, 0, 0, dz⟩ : Claim)⟩ : Entry) e) (by rw [h7] <;> rfl)) ?_
  refine Zo rfl rfl (.bool false) rfl ?_
  refine Zq (Zcb (G := G) false) (vals := [.bool false]) (res' := Iv 60) rfl rfl rfl rfl rfl rfl ?_
  refine Zc rfl rfl (Iv 60) rfl (Za (Zb (Zt (Zu ?_))))
  rw [show Ze1 e = 60 from if_neg (fun q => by rcases (Zb5 e).1 q with q | q | q <;> first | omega | (exact absurd (by first | exact q.2.2.2.2.2.2 | exact q.2.2.2.2 | exact q.2.2) (Bool.eq_false_iff.1 (by assumption))))]
  exact Zm (v := Iv 60) rfl rfl rfl (by kernel_rfl) rfl
  refine Zk (vx := Iv (e.text.size : Nat)) (vy := Iv 200) rfl rfl (.bool false) rfl rfl (Zva (by omega)) ?_
  refine Zo rfl rfl (.bool false) rfl (Zc rfl rfl (.bool false) rfl (Za (Zab (Zb (Zf (Zg (Ze rfl rfl (.bool false) rfl (Ze rfl rfl (.bool false) rfl (Zj rfl rfl (Zj rfl rfl (Zj rfl rfl (Zo rfl rfl (.bool false) rfl ?_))))))))))))
  refine Zq (Zcb (G := G) false) (vals := [.bool false]) (res' := Iv 60) rfl rfl rfl rfl rfl rfl ?_
  refine Zc rfl rfl (Iv 60) rfl (Za (Zb (Zt (Zu ?_))))
  rw [show Ze1 e = 60 from if_neg (fun q => by rcases (Zb5 e).1 q with q | q | q <;> first | omega | (exact absurd (by first | exact q.2.2.2.2.2.2 | exact q.2.2.2.2 | exact q.2.2) (Bool.eq_false_iff.1 (by assumption))))]
  exact Zm (v := Iv 60) rfl rfl rfl (by kernel_rfl) rfl
  refine Zq ((Za3 (G := G) e.seq 1 1000000).res (congrArg Value.bool (Zap (by omega)))) (vals := [Iv e.seq, Iv 1, Iv 1000000]) (res' := .bool false) rfl rfl rfl rfl rfl rfl ?_
  refine Zo rfl rfl (.bool false) rfl (Ze rfl rfl (.bool false) rfl (Zj rfl rfl (Zj rfl rfl (Zj rfl rfl (Zj rfl rfl (Zo rfl rfl (.bool false) rfl (Zc rfl rfl (.bool false) rfl (Za (Zab (Zb (Zf (Zg (Ze rfl rfl (.bool false) rfl (Ze rfl rfl (.bool false) rfl (Zj rfl rfl (Zj rfl rfl (Zj rfl rfl (Zo rfl rfl (.bool false) rfl ?_))))))))))))))))))
  refine Zq (Zcb (G := G) false) (vals := [.bool false]) (res' := Iv 60) rfl rfl rfl rfl rfl rfl ?_
  refine Zc rfl rfl (Iv 60) rfl (Za (Zb (Zt (Zu ?_))))
  rw [show Ze1 e = 60 from if_neg (fun q => by rcases (Zb5 e).1 q with q | q | q <;> first | omega | (exact absurd (by first | exact q.2.2.2.2.2.2 | exact q.2.2.2.2 | exact q.2.2) (Bool.eq_false_iff.1 (by assumption))))]
  exact Zm (v := Iv 60) rfl rfl rfl (by kernel_rfl) rfl
  refine Zq ((Za3 (G := G) e.seq 1 1000000).res (congrArg Value.bool (Zap (by omega)))) (vals := [Iv e.seq, Iv 1, Iv 1000000]) (res' := .bool false) rfl rfl rfl rfl rfl rfl ?_
  refine Zo rfl rfl (.bool false) rfl (Ze rfl rfl (.bool false) rfl (Zj rfl rfl (Zj rfl rfl (Zj rfl rfl (Zj rfl rfl (Zo rfl rfl (.bool false) rfl (Zc rfl rfl (.bool false) rfl (Za (Zab (Zb (Zf (Zg (Ze rfl rfl (.bool false) rfl (Ze rfl rfl (.bool false) rfl (Zj rfl rfl (Zj rfl rfl (Zj rfl rfl (Zo rfl rfl (.bool false) rfl ?_))))))))))))))))))
  refine Zq (Zcb (G := G) false) (vals := [.bool false]) (res' := Iv 60) rfl rfl rfl rfl rfl rfl ?_
  refine Zc rfl rfl (Iv 60) rfl (Za (Zb (Zt (Zu ?_))))
  rw [show Ze1 e = 60 from if_neg (fun q => by rcases (Zb5 e).1 q with q | q | q <;> first | omega | (exact absurd (by first | exact q.2.2.2.2.2.2 | exact q.2.2.2.2 | exact q.2.2) (Bool.eq_false_iff.1 (by assumption))))]
  exact Zm (v := Iv 60) rfl rfl rfl (by kernel_rfl) rfl
  refine Zq ((Za3 (G := G) e.client 1 3).res (congrArg Value.bool (Zap (by omega)))) (vals := [Iv e.client, Iv 1, Iv 3]) (res' := .bool false) rfl rfl rfl rfl rfl rfl ?_
  refine Ze rfl rfl (.bool false) rfl (Zj rfl rfl (Zj rfl rfl (Zj rfl rfl (Zo rfl rfl (.bool false) rfl (Ze rfl rfl (.bool false) rfl (Zj rfl rfl (Zj rfl rfl (Zj rfl rfl (Zj rfl rfl (Zo rfl rfl (.bool false) rfl (Zc rfl rfl (.bool false) rfl (Za (Zab (Zb (Zf (Zg (Ze rfl rfl (.bool false) rfl (Ze rfl rfl (.bool false) rfl (Zj rfl rfl (Zj rfl rfl (Zj rfl rfl (Zo rfl rfl (.bool false) rfl ?_))))))))))))))))))))))
  refine Zq (Zcb (G := G) false) (vals := [.bool false]) (res' := Iv 60) rfl rfl rfl rfl rfl rfl ?_
  refine Zc rfl rfl (Iv 60) rfl (Za (Zb (Zt (Zu ?_))))
  rw [show Ze1 e = 60 from if_neg (fun q => by rcases (Zb5 e).1 q with q | q | q <;> first | omega | (exact absurd (by first | exact q.2.2.2.2.2.2 | exact q.2.2.2.2 | exact q.2.2) (Bool.eq_false_iff.1 (by assumption))))]
  exact Zm (v := Iv 60) rfl rfl rfl (by kernel_rfl) rfl
  refine Zq ((Za3 (G := G) e.client 1 3).res (congrArg Value.bool (Zap (by omega)))) (vals := [Iv e.client, Iv 1, Iv 3]) (res' := .bool false) rfl rfl rfl rfl rfl rfl ?_
  refine Ze rfl rfl (.bool false) rfl (Zj rfl rfl (Zj rfl rfl (Zj rfl rfl (Zo rfl rfl (.bool false) rfl (Ze rfl rfl (.bool false) rfl (Zj rfl rfl (Zj rfl rfl (Zj rfl rfl (Zj rfl rfl (Zo rfl rfl (.bool false) rfl (Zc rfl rfl (.bool false) rfl (Za (Zab (Zb (Zf (Zg (Ze rfl rfl (.bool false) rfl (Ze rfl rfl (.bool false) rfl (Zj rfl rfl (Zj rfl rfl (Zj rfl rfl (Zo rfl rfl (.bool false) rfl ?_))))))))))))))))))))))
  refine Zq (Zcb (G := G) false) (vals := [.bool false]) (res' := Iv 60) rfl rfl rfl rfl rfl rfl ?_
  refine Zc rfl rfl (Iv 60) rfl (Za (Zb (Zt (Zu ?_))))
  rw [show Ze1 e = 60 from if_neg (fun q => by rcases (Zb5 e).1 q with q | q | q <;> first | omega | (exact absurd (by first | exact q.2.2.2.2.2.2 | exact q.2.2.2.2 | exact q.2.2) (Bool.eq_false_iff.1 (by assumption))))]
  exact Zm (v := Iv 60) rfl rfl rfl (by kernel_rfl) rfl
  refine Zk (vx := Iv e.kind) (vy := Iv 1) rfl rfl (.bool false) rfl rfl (Zge (by omega)) ?_
  refine Zc rfl rfl (.bool false) rfl (Za (Zb (Zv rfl (Zf (Zg ?_)))))
  by_cases h8 : e.kind = 2
  refine Zk (vx := Iv e.kind) (vy := Iv 2) rfl rfl (.bool true) rfl rfl (Zdl (by omega)) ?_
  refine Zc rfl rfl (.bool true) rfl (Za (Zb (Zz rfl (Zf (Zg ?_)))))
  refine Zi (b := 0) (o := 0) (n := 4) (o' := 4) rfl rfl rfl rfl rfl ?_
  refine Zl (p := pt 0 4) (v := Z0 e.head) rfl rfl rfl (by kernel_rfl) ?_
  refine Zi (b := 1) (o := 0) (n := 4) (o' := 4) rfl rfl rfl rfl rfl ?_
  refine Zx (p := pt 1 4) (v := Z0 e.head) (b := 1) (blk := bxB 109 (Zc2 (⟨e.kind, 0, 0, ⟨#[]⟩, e.head, (⟨0, 0, 0, 0, dz⟩ : Claim)⟩ : Entry))) (H' := [bxB 109 (Zc2 e), bxB 109 (Zc2 (⟨e.kind, 0, 0, ⟨#[]⟩, e.head, (⟨0, 0, 0, 0, dz⟩ : Claim)⟩ : Entry))]) rfl rfl rfl (by kernel_rfl) (by kernel_rfl) ?_
  refine Za (Zb (Zg ?_))
  refine Zi (b := 1) (o := 0) (n := 4) (o' := 4) rfl rfl rfl rfl rfl ?_
  refine Zi (b := 1) (o := 4) (n := 0) (o' := 4) rfl rfl rfl rfl rfl ?_
  refine Zl (p := pt 1 4) (v := Zbp e.head.head) rfl rfl rfl (by kernel_rfl) ?_
  refine Zq (Zp2 (G := G) e.head.head) (vals := [Zbp e.head.head]) (res' := Iv (Za5 e.head.head)) rfl rfl rfl rfl rfl rfl ?_
  by_cases h9 : (Za5 e.head.head) = 0
  refine Zk (vx := Iv (Za5 e.head.head)) (vy := Iv 0) rfl rfl (.bool true) rfl rfl (Zdl (by omega)) ?_
  refine Ze rfl rfl (.bool true) rfl ?_
  refine Zi (b := 1) (o := 0) (n := 4) (o' := 4) rfl rfl rfl rfl rfl ?_
  refine Zi (b := 1) (o := 4) (n := 36) (o' := 40) rfl rfl rfl rfl rfl ?_
  refine Zl (p := pt 1 40) (v := Iv e.head.node) rfl rfl rfl (by kernel_rfl) ?_
  by_cases h10 : 1 ≤ e.head.node
  by_cases h11 : e.head.node ≤ 3
  refine Zq ((Za3 (G := G) e.head.node 1 3).res (congrArg Value.bool (Zb9 (by omega) (by omega)))) (vals := [Iv e.head.node, Iv 1, Iv 3]) (res' := .bool true) rfl rfl rfl rfl rfl rfl ?_
  refine Zo rfl rfl (.bool true) rfl (Zc rfl rfl (.bool true) rfl (Za (Zab (Zb (Zf (Zg (Ze rfl rfl (.bool true) rfl (Ze rfl rfl (.bool true) rfl ?_))))))))
  refine Zl (p := pt 1 0) (v := Zc7 (⟨e.kind, 0, 0, ⟨#[]⟩, e.head, (⟨0, 0, 0, 0, dz⟩ : Claim)⟩ : Entry)) rfl rfl rfl (by kernel_rfl) ?_
  refine Zl (p := pt 0 0) (v := Zc7 e) rfl rfl rfl (by kernel_rfl) ?_
  rcases Bool.eq_false_or_eq_true (Zec (⟨e.kind, 0, 0, ⟨#[]⟩, e.head, (⟨0, 0, 0, 0, dz⟩ : Claim)⟩ : Entry) e) with h12 | h12
  refine Zk (vx := Zc7 (⟨e.kind, 0, 0, ⟨#[]⟩, e.head, (⟨0, 0, 0, 0, dz⟩ : Claim)⟩ : Entry)) (vy := Zc7 e) rfl rfl (.bool true) rfl rfl (Eq.trans (Zgx (⟨e.kind, 0, 0, ⟨#[]⟩, e.head, (⟨0, 0, 0, 0, dz⟩ : Claim)⟩ : Entry) e) (by rw [h12] <;> rfl)) ?_
  refine Zo rfl rfl (.bool true) rfl ?_
  refine Zq (Zcb (G := G) true) (vals := [.bool true]) (res' := Iv 0) rfl rfl rfl rfl rfl rfl ?_
  refine Zc rfl rfl (Iv 0) rfl (Za (Zb (Zt (Zu ?_))))
  rw [show Ze1 e = 0 from if_pos ((Zb5 e).2 (by first | exact .inl ⟨by omega, by omega, by omega, by omega, by omega, by omega, by assumption⟩ | exact .inr (.inl ⟨by omega, by omega, by omega, by omega, by assumption⟩) | exact .inr (.inr ⟨by omega, by omega, by assumption⟩)))]
  exact Zm (v := Iv 0) rfl rfl rfl (by kernel_rfl) rfl
  refine Zk (vx := Zc7 (⟨e.kind, 0, 0, ⟨#[]⟩, e.head, (⟨0, 0, 0, 0, dz⟩ : Claim)⟩ : Entry)) (vy := Zc7 e) rfl rfl (.bool false) rfl rfl (Eq.trans (Zgx (⟨e.kind, 0, 0, ⟨#[]⟩, e.head, (⟨0, 0, 0, 0, dz⟩ : Claim)⟩ : Entry) e) (by rw [h12] <;> rfl)) ?_
  refine Zo rfl rfl (.bool false) rfl ?_
  refine Zq (Zcb (G := G) false) (vals := [.bool false]) (res' := Iv 60) rfl rfl rfl rfl rfl rfl ?_
  refine Zc rfl rfl (Iv 60) rfl (Za (Zb (Zt (Zu ?_))))
  rw [show Ze1 e = 60 from if_neg (fun q => by rcases (Zb5 e).1 q with q | q | q <;> first | omega | (exact absurd (by first | exact q.2.2.2.2.2.2 | exact q.2.2.2.2 | exact q.2.2) (Bool.eq_false_iff.1 (by assumption))))]
  exact Zm (v := Iv 60) rfl rfl rfl (by kernel_rfl) rfl
  refine Zq ((Za3 (G := G) e.head.node 1 3).res (congrArg Value.bool (Zap (by omega)))) (vals := [Iv e.head.node, Iv 1, Iv 3]) (res' := .bool false) rfl rfl rfl rfl rfl rfl ?_
  refine Zo rfl rfl (.bool false) rfl (Zc rfl rfl (.bool false) rfl (Za (Zab (Zb (Zf (Zg (Ze rfl rfl (.bool false) rfl (Ze rfl rfl (.bool false) rfl (Zj rfl rfl (Zj rfl rfl (Zj rfl rfl (Zo rfl rfl (.bool false) rfl ?_))))))))))))
  refine Zq (Zcb (G := G) false) (vals := [.bool false]) (res' := Iv 60) rfl rfl rfl rfl rfl rfl ?_
  refine Zc rfl rfl (Iv 60) rfl (Za (Zb (Zt (Zu ?_))))
  rw [show Ze1 e = 60 from if_neg (fun q => by rcases (Zb5 e).1 q with q | q | q <;> first | omega | (exact absurd (by first | exact q.2.2.2.2.2.2 | exact q.2.2.2.2 | exact q.2.2) (Bool.eq_false_iff.1 (by assumption))))]
  exact Zm (v := Iv 60) rfl rfl rfl (by kernel_rfl) rfl
  refine Zq ((Za3 (G := G) e.head.node 1 3).res (congrArg Value.bool (Zap (by omega)))) (vals := [Iv e.head.node, Iv 1, Iv 3]) (res' := .bool false) rfl rfl rfl rfl rfl rfl ?_
  refine Zo rfl rfl (.bool false) rfl (Zc rfl rfl (.bool false) rfl (Za (Zab (Zb (Zf (Zg (Ze rfl rfl (.bool false) rfl (Ze rfl rfl (.bool false) rfl (Zj rfl rfl (Zj rfl rfl (Zj rfl rfl (Zo rfl rfl (.bool false) rfl ?_))))))))))))
  refine Zq (Zcb (G := G) false) (vals := [.bool false]) (res' := Iv 60) rfl rfl rfl rfl rfl rfl ?_
  refine Zc rfl rfl (Iv 60) rfl (Za (Zb (Zt (Zu ?_))))
  rw [show Ze1 e = 60 from if_neg (fun q => by rcases (Zb5 e).1 q with q | q | q <;> first | omega | (exact absurd (by first | exact q.2.2.2.2.2.2 | exact q.2.2.2.2 | exact q.2.2) (Bool.eq_false_iff.1 (by assumption))))]
  exact Zm (v := Iv 60) rfl rfl rfl (by kernel_rfl) rfl
  refine Zk (vx := Iv (Za5 e.head.head)) (vy := Iv 0) rfl rfl (.bool false) rfl rfl (Zge (by omega)) ?_
  refine Ze rfl rfl (.bool false) rfl (Zj rfl rfl (Zj rfl rfl (Zj rfl rfl (Zj rfl rfl (Zo rfl rfl (.bool false) rfl (Zc rfl rfl (.bool false) rfl (Za (Zab (Zb (Zf (Zg (Ze rfl rfl (.bool false) rfl (Ze rfl rfl (.bool false) rfl (Zj rfl rfl (Zj rfl rfl (Zj rfl rfl (Zo rfl rfl (.bool false) rfl ?_)))))))))))))))))
  refine Zq (Zcb (G := G) false) (vals := [.bool false]) (res' := Iv 60) rfl rfl rfl rfl rfl rfl ?_
  refine Zc rfl rfl (Iv 60) rfl (Za (Zb (Zt (Zu ?_))))
  rw [show Ze1 e = 60 from if_neg (fun q => by rcases (Zb5 e).1 q with q | q | q <;> first | omega | (exact absurd (by first | exact q.2.2.2.2.2.2 | exact q.2.2.2.2 | exact q.2.2) (Bool.eq_false_iff.1 (by assumption))))]
  exact Zm (v := Iv 60) rfl rfl rfl (by kernel_rfl) rfl
  refine Zk (vx := Iv e.kind) (vy := Iv 2) rfl rfl (.bool false) rfl rfl (Zge (by omega)) ?_
  refine Zc rfl rfl (.bool false) rfl (Za (Zb (Zv rfl (Zf (Zg ?_)))))
  by_cases h13 : e.kind = 3
  refine Zk (vx := Iv e.kind) (vy := Iv 3) rfl rfl (.bool true) rfl rfl (Zdl (by omega)) ?_
  refine Zc rfl rfl (.bool true) rfl (Za (Zb (Zz rfl (Zf (Zg ?_)))))
  refine Zi (b := 0) (o := 0) (n := 73) (o' := 73) rfl rfl rfl rfl rfl ?_
  refine Zl (p := pt 0 73) (v := Zeo e.claim) rfl rfl rfl (by kernel_rfl) ?_
  refine Zi (b := 1) (o := 0) (n := 73) (o' := 73) rfl rfl rfl rfl rfl ?_
  refine Zx (p := pt 1 73) (v := Zeo e.claim) (b := 1) (blk := bxB 109 (Zc2 (⟨e.kind, 0, 0, ⟨#[]⟩, (⟨(⟨0, 0, 0, dz, 0⟩ : Head), 0, dz⟩ : Signed), e.claim⟩ : Entry))) (H' := [bxB 109 (Zc2 e), bxB 109 (Zc2 (⟨e.kind, 0, 0, ⟨#[]⟩, (⟨(⟨0, 0, 0, dz, 0⟩ : Head), 0, dz⟩ : Signed), e.claim⟩ : Entry))]) rfl rfl rfl (by kernel_rfl) (by kernel_rfl) ?_
  refine Za (Zb (Zg ?_))
  refine Zi (b := 1) (o := 0) (n := 73) (o' := 73) rfl rfl rfl rfl rfl ?_
  refine Zl (p := pt 1 73) (v := Zeo e.claim) rfl rfl rfl (by kernel_rfl) ?_
  refine Zq (Zkz (G := G) e.claim) (vals := [Zeo e.claim]) (res' := Iv (Ze4 e.claim)) rfl rfl rfl rfl rfl rfl ?_
  by_cases h14 : (Ze4 e.claim) = 0
  refine Zk (vx := Iv (Ze4 e.claim)) (vy := Iv 0) rfl rfl (.bool true) rfl rfl (Zdl (by omega)) ?_
  refine Zc rfl rfl (.bool true) rfl (Za (Zab (Zb (Zf (Zg (Ze rfl rfl (.bool true) rfl (Ze rfl rfl (.bool true) rfl ?_)))))))
  refine Zl (p := pt 1 0) (v := Zc7 (⟨e.kind, 0, 0, ⟨#[]⟩, (⟨(⟨0, 0, 0, dz, 0⟩ : Head), 0, dz⟩ : Signed), e.claim⟩ : Entry)) rfl rfl rfl (by kernel_rfl) ?_
  refine Zl (p := pt 0 0) (v := Zc7 e) rfl rfl rfl (by kernel_rfl) ?_
  rcases Bool.eq_false_or_eq_true (Zec (⟨e.kind, 0, 0, ⟨#[]⟩, (⟨(⟨0, 0, 0, dz, 0⟩ : Head), 0, dz⟩ : Signed), e.claim⟩ : Entry) e) with h15 | h15
  refine Zk (vx := Zc7 (⟨e.kind, 0, 0, ⟨#[]⟩, (⟨(⟨0, 0, 0, dz, 0⟩ : Head), 0, dz⟩ : Signed), e.claim⟩ : Entry)) (vy := Zc7 e) rfl rfl (.bool true) rfl rfl (Eq.trans (Zgx (⟨e.kind, 0, 0, ⟨#[]⟩, (⟨(⟨0, 0, 0, dz, 0⟩ : Head), 0, dz⟩ : Signed), e.claim⟩ : Entry) e) (by rw [h15] <;> rfl)) ?_
  refine Zo rfl rfl (.bool true) rfl ?_
  refine Zq (Zcb (G := G) true) (vals := [.bool true]) (res' := Iv 0) rfl rfl rfl rfl rfl rfl ?_
  refine Zc rfl rfl (Iv 0) rfl (Za (Zb (Zt (Zu ?_))))
  rw [show Ze1 e = 0 from if_pos ((Zb5 e).2 (by first | exact .inl ⟨by omega, by omega, by omega, by omega, by omega, by omega, by assumption⟩ | exact .inr (.inl ⟨by omega, by omega, by omega, by omega, by assumption⟩) | exact .inr (.inr ⟨by omega, by omega, by assumption⟩)))]
  exact Zm (v := Iv 0) rfl rfl rfl (by kernel_rfl) rfl
  refine Zk (vx := Zc7 (⟨e.kind, 0, 0, ⟨#[]⟩, (⟨(⟨0, 0, 0, dz, 0⟩ : Head), 0, dz⟩ : Signed), e.claim⟩ : Entry)) (vy := Zc7 e) rfl rfl (.bool false) rfl rfl (Eq.trans (Zgx (⟨e.kind, 0, 0, ⟨#[]⟩, (⟨(⟨0, 0, 0, dz, 0⟩ : Head), 0, dz⟩ : Signed), e.claim⟩ : Entry) e) (by rw [h15] <;> rfl)) ?_
  refine Zo rfl rfl (.bool false) rfl ?_
  refine Zq (Zcb (G := G) false) (vals := [.bool false]) (res' := Iv 60) rfl rfl rfl rfl rfl rfl ?_
  refine Zc rfl rfl (Iv 60) rfl (Za (Zb (Zt (Zu ?_))))
  rw [show Ze1 e = 60 from if_neg (fun q => by rcases (Zb5 e).1 q with q | q | q <;> first | omega | (exact absurd (by first | exact q.2.2.2.2.2.2 | exact q.2.2.2.2 | exact q.2.2) (Bool.eq_false_iff.1 (by assumption))))]
  exact Zm (v := Iv 60) rfl rfl rfl (by kernel_rfl) rfl
  refine Zk (vx := Iv (Ze4 e.claim)) (vy := Iv 0) rfl rfl (.bool false) rfl rfl (Zge (by omega)) ?_
  refine Zc rfl rfl (.bool false) rfl (Za (Zab (Zb (Zf (Zg (Ze rfl rfl (.bool false) rfl (Ze rfl rfl (.bool false) rfl (Zj rfl rfl (Zj rfl rfl (Zj rfl rfl (Zo rfl rfl (.bool false) rfl ?_)))))))))))
  refine Zq (Zcb (G := G) false) (vals := [.bool false]) (res' := Iv 60) rfl rfl rfl rfl rfl rfl ?_
  refine Zc rfl rfl (Iv 60) rfl (Za (Zb (Zt (Zu ?_))))
  rw [show Ze1 e = 60 from if_neg (fun q => by rcases (Zb5 e).1 q with q | q | q <;> first | omega | (exact absurd (by first | exact q.2.2.2.2.2.2 | exact q.2.2.2.2 | exact q.2.2) (Bool.eq_false_iff.1 (by assumption))))]
  exact Zm (v := Iv 60) rfl rfl rfl (by kernel_rfl) rfl
  refine Zk (vx := Iv e.kind) (vy := Iv 3) rfl rfl (.bool false) rfl rfl (Zge (by omega)) ?_
  refine Zc rfl rfl (.bool false) rfl (Za (Zb (Zv rfl (Z2 (Zab (Zb (Zf (Zg (Ze rfl rfl (.bool false) rfl (Ze rfl rfl (.bool false) rfl (Zj rfl rfl (Zj rfl rfl (Zj rfl rfl (Zo rfl rfl (.bool false) rfl ?_))))))))))))))
  refine Zq (Zcb (G := G) false) (vals := [.bool false]) (res' := Iv 60) rfl rfl rfl rfl rfl rfl ?_
  refine Zc rfl rfl (Iv 60) rfl (Za (Zb (Zt (Zu ?_))))
  rw [show Ze1 e = 60 from if_neg (fun q => by rcases (Zb5 e).1 q with q | q | q <;> first | omega | (exact absurd (by first | exact q.2.2.2.2.2.2 | exact q.2.2.2.2 | exact q.2.2) (Bool.eq_false_iff.1 (by assumption))))]
  exact Zm (v := Iv 60) rfl rfl rfl (by kernel_rfl) rfl
end Go.Flat
namespace Go.Flat
open Go.Proofs
variable {G : Glob}
theorem Zot (l : List Item) (i : Nat) (h : i < l.length) : l.drop i = l.getD i default :: l.drop (i + 1) := by
 rw [List.drop_eq_getElem_cons h, List.getD_eq_getElem?_getD, List.getElem?_eq_getElem h]; rfl
def Zjh : Int → List Item → Bool
  | _, [] => true
  | ep, x :: l => decide (Zdy x) && decide (ep ≤ x.epoch) && Zjh x.epoch l
def Zhz (l : List Item) : Prop := l.length ≤ 2000 ∧ Zjh 0 l = true
instance (l : List Item) : Decidable (Zhz l) := inferInstanceAs (Decidable (_ ∧ _))
def Zob (l : List Item) : Int := if Zhz l then 0 else 100
theorem Zqf {l : List Item} (h : Zob l = 0) : Zhz l := by
 unfold Zob at h
 split at h
 ·assumption
 ·omega
theorem Z0h {l : List Item} (h : ¬ Zob l = 0) : ¬ Zhz l := fun q => h (if_pos q)
theorem Zwt {ep : Int} {l : List Item} {i : Nat} {R : Bool} (hR : Zjh ep (l.drop i) = R) (hi : i < l.length) (h1 : Zdy (l.getD i default)) (h2 : ep ≤ (l.getD i default).epoch) : Zjh (l.getD i default).epoch (l.drop (i + 1)) = R := by
 rw [Zot l i hi, Zjh, decide_eq_true h1, decide_eq_true h2] at hR; simpa using hR
theorem Znm {ep : Int} {l : List Item} {i : Nat} {R : Bool} (hR : Zjh ep (l.drop i) = R) (hi : i < l.length) (h : ¬ (Zdy (l.getD i default) ∧ ep ≤ (l.getD i default).epoch)) : R = false := by
 rw [Zot l i hi, Zjh] at hR
 rw [← hR]
 by_cases h1 : Zdy (l.getD i default)
 ·rw [decide_eq_false (fun q => h ⟨h1, q⟩ : ¬ ep ≤ (l.getD i default).epoch)]; simp
 ·rw [decide_eq_false h1]; simp
def Z60 (l : List Item) (i : Nat) : Int := if i = 0 then 0 else (l.getD (i - 1) default).epoch
def Z4o (x : Item) : Bool := decide (1000 < x.entry.text.size)
def Zox (l : List Item) : Bool := decide (60 < l.length) || l.any Z4o
theorem Z0j {l : List Item} {i : Nat} {p : Item → Bool} {R : Bool} (hR : (l.drop i).any p = R) (hi : i < l.length) (h : p (l.getD i default) = false) : (l.drop (i + 1)).any p = R := by
 rw [Zot l i hi, List.any_cons, h, Bool.false_or] at hR; exact hR
theorem Zxu {l : List Item} {i : Nat} {p : Item → Bool} {R : Bool} (hR : (l.drop i).any p = R) (hi : i < l.length) (h : p (l.getD i default) = true) : R = true := by
 rw [Zot l i hi, List.any_cons, h, Bool.true_or] at hR; exact hR.symm
def Z6x (l m : List Item) : Bool := decide (l.length = m.length) && (List.range l.length).all fun i => Zk7 (l.getD i default) (m.getD i default)
theorem Zf6 (n low high : Int) : Zae Tryd.prog G 48 [Iv n, Iv low, Iv high] [] (.bool (Zc4 n low high)) [] := by
 refine Zbj (fn := Tryd.f48) (nt := 15) rfl rfl rfl rfl ?_
 refine Zf (Zg (Zc rfl rfl (.bool false) rfl (Za (Zb (Zf (Zg (Ze rfl rfl (Iv n) rfl (Ze rfl rfl (Iv low) rfl ?_))))))))
 by_cases h1 : low ≤ n
 refine Zk (vx := Iv n) (vy := Iv low) rfl rfl (.bool true) rfl rfl (Zgm (by omega)) ?_
 refine Ze rfl rfl (.bool true) rfl (Ze rfl rfl (Iv n) rfl (Ze rfl rfl (Iv high) rfl ?_))
 by_cases h2 : n ≤ high
 refine Zk (vx := Iv n) (vy := Iv high) rfl rfl (.bool true) rfl rfl (Zt2 (by omega)) ?_
 refine Zo rfl rfl (.bool true) rfl (Zc rfl rfl (.bool true) rfl (Za (Zb (Zt (Zu ?_)))))
 rw [show Zc4 n low high = true from Zb9 (by omega) (by omega)]
 exact Zm (v := .bool true) rfl rfl rfl (by kernel_rfl) rfl
 refine Zk (vx := Iv n) (vy := Iv high) rfl rfl (.bool false) rfl rfl (Zva (by omega)) ?_
 refine Zo rfl rfl (.bool false) rfl (Zc rfl rfl (.bool false) rfl (Za (Zb (Zt (Zu ?_)))))
 rw [show Zc4 n low high = false from Zap (by omega)]
 exact Zm (v := .bool false) rfl rfl rfl (by kernel_rfl) rfl
 refine Zk (vx := Iv n) (vy := Iv low) rfl rfl (.bool false) rfl rfl (Zgl (by omega)) ?_
 refine Ze rfl rfl (.bool false) rfl (Zj rfl rfl (Zj rfl rfl (Zj rfl rfl (Zo rfl rfl (.bool false) rfl (Zc rfl rfl (.bool false) rfl (Za (Zb (Zt (Zu ?_)))))))))
 rw [show Zc4 n low high = false from Zap (by omega)]
 exact Zm (v := .bool false) rfl rfl rfl (by kernel_rfl) rfl
theorem Z0k (x : Item) : Zae Tryd.prog G 31 [Za1 x] [] (.bool (decide (Zdy x))) [] := by
  refine Zbj (fn := Tryd.f31) (nt := 12) rfl rfl rfl rfl ?_
  refine Zaj 1 (H' := [hole]) rfl ?_
  refine Zf (Zg ?_)
  refine Zbr (v := Za1 x) (b := bxB 110 (Zh x)) (nid := 0) (H' := [bxB 110 (Zh x)]) rfl rfl rfl (by kernel_rfl) (by kernel_rfl) ?_
  refine Zc rfl rfl (.bool false) rfl (Za (Zb (Zf (Zg ?_))))
  refine Zi (b := 0) (o := 0) (n := 0) (o' := 0) rfl rfl rfl rfl rfl ?_
  refine Zl (p := pt 0 0) (v := Iv x.epoch) rfl rfl rfl (by kernel_rfl) ?_
  by_cases h1 : 1 ≤ x.epoch
  by_cases h2 : x.epoch ≤ 900000000
  refine Zq ((Zf6 (G := G) x.epoch 1 900000000).res (congrArg Value.bool (Zb9 (by omega) (by omega)))) (vals := [Iv x.epoch, Iv 1, Iv 900000000]) (res' := .bool true) rfl rfl rfl rfl rfl rfl ?_
  refine Ze rfl rfl (.bool true) rfl ?_
  refine Zi (b := 0) (o := 0) (n := 1) (o' := 1) rfl rfl rfl rfl rfl ?_
  refine Zl (p := pt 0 1) (v := Zc7 x.entry) rfl rfl rfl (by kernel_rfl) ?_
  refine Zq (Znw (G := G) x.entry) (vals := [Zc7 x.entry]) (res' := Iv (Ze1 x.entry)) rfl rfl rfl rfl rfl rfl ?_
  by_cases h3 : (Ze1 x.entry) = 0
  refine Zk (vx := Iv (Ze1 x.entry)) (vy := Iv 0) rfl rfl (.bool true) rfl rfl (Zdl (by omega)) ?_
  refine Zo rfl rfl (.bool true) rfl (Zc rfl rfl (.bool true) rfl (Za (Zb (Zt (Zu ?_)))))
  rw [show decide (Zdy x) = true from decide_eq_true ⟨by omega, by omega, Zut (by omega)⟩]
  exact Zm (v := .bool true) rfl rfl rfl (by kernel_rfl) rfl
  refine Zk (vx := Iv (Ze1 x.entry)) (vy := Iv 0) rfl rfl (.bool false) rfl rfl (Zge (by omega)) ?_
  refine Zo rfl rfl (.bool false) rfl (Zc rfl rfl (.bool false) rfl (Za (Zb (Zt (Zu ?_)))))
  rw [show decide (Zdy x) = false from decide_eq_false (fun q => by first | (have := q.1; have := q.2.1; omega) | (exact Zjv (by omega) q.2.2))]
  exact Zm (v := .bool false) rfl rfl rfl (by kernel_rfl) rfl
  refine Zq ((Zf6 (G := G) x.epoch 1 900000000).res (congrArg Value.bool (Zap (by omega)))) (vals := [Iv x.epoch, Iv 1, Iv 900000000]) (res' := .bool false) rfl rfl rfl rfl rfl rfl ?_
  refine Ze rfl rfl (.bool false) rfl (Zj rfl rfl (Zj rfl rfl (Zj rfl rfl (Zj rfl rfl (Zo rfl rfl (.bool false) rfl (Zc rfl rfl (.bool false) rfl (Za (Zb (Zt (Zu ?_))))))))))
  rw [show decide (Zdy x) = false from decide_eq_false (fun q => by first | (have := q.1; have := q.2.1; omega) | (exact Zjv (by omega) q.2.2))]
  exact Zm (v := .bool false) rfl rfl rfl (by kernel_rfl) rfl
  refine Zq ((Zf6 (G := G) x.epoch 1 900000000).res (congrArg Value.bool (Zap (by omega)))) (vals := [Iv x.epoch, Iv 1, Iv 900000000]) (res' := .bool false) rfl rfl rfl rfl rfl rfl ?_
  refine Ze rfl rfl (.bool false) rfl (Zj rfl rfl (Zj rfl rfl (Zj rfl rfl (Zj rfl rfl (Zo rfl rfl (.bool false) rfl (Zc rfl rfl (.bool false) rfl (Za (Zb (Zt (Zu ?_))))))))))
  rw [show decide (Zdy x) = false from decide_eq_false (fun q => by first | (have := q.1; have := q.2.1; omega) | (exact Zjv (by omega) q.2.2))]
  exact Zm (v := .bool false) rfl rfl rfl (by kernel_rfl) rfl
theorem Zx6 (l : List Item) (n c : Nat) (hn : l.length = n) (hc : n ≤ c) (hb : n ≤ 1048576) : Zae Tryd.prog G 13 [slv 0 0 n c] [rwR Zy l] (Iv (Zob l)) [rwR Zy l] := by
  refine Zbj (fn := Tryd.f13) (nt := 27) rfl rfl rfl rfl ?_
  refine Zf (Zg (Zc rfl rfl (Iv 0) rfl (Za (Zb (Zf (Zg (Zc rfl rfl (Iv 0) rfl (Za (Zb (Zf (Zf (Zg (Ze rfl rfl (slv 0 0 n c) rfl ?_)))))))))))))
  refine Zbl (p := slv 0 0 n c) (v := Iv (n : Nat)) rfl rfl rfl rfl ?_
  refine Ze rfl rfl (Iv 0) rfl (Za (Zb (Z9 ?_)))
  refine Zch (fun x : Nat × Int => match x with | (i, ep) => [slv 0 0 n c, dead, dead, Iv ep, dead, dead, slv 0 0 n c, Iv (n : Nat), Iv (i : Nat)]) (fun x : Nat × Int => match x with | (i, ep) => [rwR Zy l]) (fun x : Nat × Int => match x with | (i, ep) => Zjh ep (l.drop i) = Zjh 0 l ∧ i ≤ n) (fun x : Nat × Int => match x with | (i, ep) => n - i) (0, 0) ⟨rfl, by omega⟩ ?_ ?_
  · refine Zal (n := 1) rfl ?_ (by kernel_rfl) (by kernel_rfl)
    repeat (first | exact trivial | refine ⟨.inl rfl, ?_⟩ | refine ⟨.inr ⟨rfl, rfl⟩, ?_⟩ | refine ⟨.inr ⟨congrArg (Value.int .i64) (by first | omega | (dsimp only; omega)), rfl⟩, ?_⟩)
  rintro ⟨i, ep⟩ ⟨hR, hi⟩
  dsimp only at *
  refine Zaj 2 (H' := [rwR Zy l, hole, hole]) rfl ?_
  refine Zf (Zg ?_)
  by_cases h1 : (i : Nat) < (n : Nat)
  refine Zk (vx := Iv (i : Nat)) (vy := Iv (n : Nat)) rfl rfl (.bool true) rfl rfl (Zcq (by omega)) ?_
  refine Za (Zb (Zf (Zz rfl (Z2 (Zb (Zf (Z9 (Zf (Zg ?_)))))))))
  refine Zbf (b := 0) (o := 0) (j := i * 110) (m := n) (c := c) (sz := 110) (i := (i : Nat)) (k := .i64) rfl rfl rfl rfl rfl (by omega) (by omega) (by omega) ?_
  refine Zl (p := pt 0 (i * 110)) (v := Za1 (l.getD i default)) rfl rfl rfl (Zkt (n := 0) (m := 110) Zy rfl rfl rfl rfl (by have := hn; omega) (by omega)) ?_
  refine Z7 (b := bxB 110 (Zh (⟨0, (⟨0, 0, 0, ⟨#[]⟩, (⟨(⟨0, 0, 0, dz, 0⟩ : Head), 0, dz⟩ : Signed), (⟨0, 0, 0, 0, dz⟩ : Claim)⟩ : Entry)⟩ : Item))) (nid := 1) (H' := [rwR Zy l, bxB 110 (Zh (⟨0, (⟨0, 0, 0, ⟨#[]⟩, (⟨(⟨0, 0, 0, dz, 0⟩ : Head), 0, dz⟩ : Signed), (⟨0, 0, 0, 0, dz⟩ : Claim)⟩ : Entry)⟩ : Item)), hole]) rfl rfl (by kernel_rfl) (by kernel_rfl) ?_
  refine Zx (p := pt 1 0) (v := Za1 (l.getD i default)) (b := 1) (blk := bxB 110 (Zh (l.getD i default))) (H' := [rwR Zy l, bxB 110 (Zh (l.getD i default)), hole]) rfl rfl rfl (by kernel_rfl) (by kernel_rfl) ?_
  refine Za (Zb (Zf (Zf (Zg ?_))))
  refine Zl (p := pt 1 0) (v := Za1 (l.getD i default)) rfl rfl rfl (by kernel_rfl) ?_
  refine Zq (Z0k (G := G) (l.getD i default)) (vals := [Za1 (l.getD i default)]) (res' := .bool (decide (Zdy (l.getD i default)))) rfl rfl rfl rfl rfl rfl ?_
  rcases Bool.eq_false_or_eq_true (decide (Zdy (l.getD i default))) with h2 | h2
  refine Zha (vx := .bool (decide (Zdy (l.getD i default)))) rfl rfl (.bool false) rfl (Eq.trans Zd0 (congrArg (fun b => some (Value.bool !b)) h2)) ?_
  refine Ze rfl rfl (.bool false) rfl ?_
  refine Zi (b := 1) (o := 0) (n := 0) (o' := 0) rfl rfl rfl rfl rfl ?_
  refine Zl (p := pt 1 0) (v := Iv ((l.getD i default).epoch)) rfl rfl rfl (by kernel_rfl) ?_
  refine Ze rfl rfl (Iv ep) rfl ?_
  by_cases h3 : ((l.getD i default).epoch) < ep
  refine Zk (vx := Iv ((l.getD i default).epoch)) (vy := Iv ep) rfl rfl (.bool true) rfl rfl (Zcq (by omega)) ?_
  refine Zo rfl rfl (.bool true) rfl (Za (Zb (Zz rfl (Zf (Zg (Zc rfl rfl (Iv 100) rfl (Za (Zb (Zt (Z3 (Zbq (Z3 (Zc3 (Zbq (Z3 (Zu ?_))))))))))))))))
  rw [show Zob l = 100 from if_neg (fun q => by have q1 := q.1; have q2 := q.2; first | omega | (rw [Znm hR (by omega) (fun r => by first | (have := r.2; omega) | exact absurd r.1 (of_decide_eq_false (by assumption)))] at q2; cases q2))]
  exact Zm (v := Iv 100) rfl rfl rfl (by kernel_rfl) rfl
  refine Zk (vx := Iv ((l.getD i default).epoch)) (vy := Iv ep) rfl rfl (.bool false) rfl rfl (Zcj (by omega)) ?_
  refine Zo rfl rfl (.bool false) rfl (Za (Zb (Zv rfl (Z2 (Zb (Zg ?_))))))
  refine Zi (b := 1) (o := 0) (n := 0) (o' := 0) rfl rfl rfl rfl rfl ?_
  refine Zl (p := pt 1 0) (v := Iv ((l.getD i default).epoch)) rfl rfl rfl (by kernel_rfl) ?_
  refine Zc rfl rfl (Iv ((l.getD i default).epoch)) rfl (Za (Zab (Zb (Zg ?_))))
  refine Zk (vx := Iv (i : Nat)) (vy := Iv 1) rfl rfl (Iv ((i : Nat) + 1)) rfl rfl (Zaz (by omega) (by omega) (by omega)) ?_
  refine Ze rfl rfl (Iv ((i : Nat) + 1)) rfl (Za ?_)
  refine Zas ⟨((i + 1), ((l.getD i default).epoch)), ⟨Zwt hR (by omega) (of_decide_eq_true (by assumption)) (by omega), by omega⟩, by show n - (i + 1) < n - i; omega, ?_⟩
  refine Zal (n := 1) rfl ?_ (by kernel_rfl) (by kernel_rfl)
  repeat (first | exact trivial | refine ⟨.inl rfl, ?_⟩ | refine ⟨.inr ⟨rfl, rfl⟩, ?_⟩ | refine ⟨.inr ⟨congrArg (Value.int .i64) (by first | omega | (dsimp only; omega)), rfl⟩, ?_⟩)
  refine Zha (vx := .bool (decide (Zdy (l.getD i default)))) rfl rfl (.bool true) rfl (Eq.trans Zd0 (congrArg (fun b => some (Value.bool !b)) h2)) ?_
  refine Ze rfl rfl (.bool true) rfl (Zj rfl rfl (Zj rfl rfl (Zj rfl rfl (Zj rfl rfl (Zo rfl rfl (.bool true) rfl (Za (Zb (Zz rfl (Zf (Zg (Zc rfl rfl (Iv 100) rfl (Za (Zb (Zt (Z3 (Zbq (Z3 (Zc3 (Zbq (Z3 (Zu ?_)))))))))))))))))))))
  rw [show Zob l = 100 from if_neg (fun q => by have q1 := q.1; have q2 := q.2; first | omega | (rw [Znm hR (by omega) (fun r => by first | (have := r.2; omega) | exact absurd r.1 (of_decide_eq_false (by assumption)))] at q2; cases q2))]
  exact Zm (v := Iv 100) rfl rfl rfl (by kernel_rfl) rfl
  refine Zk (vx := Iv (i : Nat)) (vy := Iv (n : Nat)) rfl rfl (.bool false) rfl rfl (Zcj (by omega)) ?_
  refine Za (Zb (Zf (Zv rfl (Zbh (Zar (Za0 (Zaw rfl (Zb (Zf (Zf (Zg (Ze rfl rfl (slv 0 0 n c) rfl ?_))))))))))))
  refine Zbl (p := slv 0 0 n c) (v := Iv (n : Nat)) rfl rfl rfl rfl ?_
  by_cases h4 : 2000 < (n : Nat)
  refine Zk (vx := Iv (n : Nat)) (vy := Iv 2000) rfl rfl (.bool true) rfl rfl (Zet (by omega)) ?_
  refine Za (Zb (Zz rfl (Zf (Zg (Zc rfl rfl (Iv 100) rfl (Za (Zb (Zt (Z3 (Zu ?_))))))))))
  rw [show Zob l = 100 from if_neg (fun q => by have q1 := q.1; have q2 := q.2; first | omega | (rw [Znm hR (by omega) (fun r => by first | (have := r.2; omega) | exact absurd r.1 (of_decide_eq_false (by assumption)))] at q2; cases q2))]
  exact Zm (v := Iv 100) rfl rfl rfl (by kernel_rfl) rfl
  refine Zk (vx := Iv (n : Nat)) (vy := Iv 2000) rfl rfl (.bool false) rfl rfl (Zej (by omega)) ?_
  refine Za (Zb (Zv rfl (Z2 (Zb (Zf (Zg (Zc rfl rfl (Iv 0) rfl (Za (Zb (Zt (Zu ?_)))))))))))
  rw [show Zob l = 0 from if_pos ⟨by omega, by rw [← hR, List.drop_of_length_le (by omega)]; rfl⟩]
  exact Zm (v := Iv 0) rfl rfl rfl (by kernel_rfl) rfl
theorem Zys (l : List Item) (n c : Nat) (hn : l.length = n) (hc : n ≤ c) (hb : n ≤ 9223372036854775807) : Zae Tryd.prog G 7 [slv 0 0 n c] [rwR Zy l] (.bool (Zox l)) [rwR Zy l] := by
  refine Zbj (fn := Tryd.f7) (nt := 21) rfl rfl rfl rfl ?_
  refine Zf (Zg (Zc rfl rfl (.bool false) rfl (Za (Zb (Zf (Zf (Zg (Ze rfl rfl (slv 0 0 n c) rfl ?_))))))))
  refine Zbl (p := slv 0 0 n c) (v := Iv (n : Nat)) rfl rfl rfl rfl ?_
  by_cases h1 : 60 < (n : Nat)
  refine Zk (vx := Iv (n : Nat)) (vy := Iv 60) rfl rfl (.bool true) rfl rfl (Zet (by omega)) ?_
  refine Za (Zb (Zz rfl (Zf (Zg (Zc rfl rfl (.bool true) rfl (Za (Zb (Zt (Z3 (Zu ?_))))))))))
  rw [show Zox l = true from by unfold Zox; first | (rw [decide_eq_true (by omega : 60 < l.length)]; rfl) | (rw [Zxu hR (by omega) (decide_eq_true (by omega)), Bool.or_true])]
  exact Zm (v := .bool true) rfl rfl rfl (by kernel_rfl) rfl
  refine Zk (vx := Iv (n : Nat)) (vy := Iv 60) rfl rfl (.bool false) rfl rfl (Zej (by omega)) ?_
  refine Za (Zb (Zv rfl (Z2 (Zb (Zf (Zf (Zg (Zc rfl rfl (Iv 0) rfl (Za (Zb (Z9 ?_)))))))))))
  refine Zch (fun i : Nat => [slv 0 0 n c, dead, dead, Iv (i : Nat), slv 0 0 n c, Iv (n : Nat), .bool false]) (fun i : Nat => [rwR Zy l]) (fun i : Nat => (l.drop i).any Z4o = l.any Z4o ∧ i ≤ n) (fun i : Nat => n - i) 0 ⟨rfl, by omega⟩ ?_ ?_
  · refine Zal (n := 1) rfl ?_ (by kernel_rfl) (by kernel_rfl)
    repeat (first | exact trivial | refine ⟨.inl rfl, ?_⟩ | refine ⟨.inr ⟨rfl, rfl⟩, ?_⟩ | refine ⟨.inr ⟨congrArg (Value.int .i64) (by first | omega | (dsimp only; omega)), rfl⟩, ?_⟩)
  rintro i ⟨hR, hi⟩
  refine Zaj 1 (H' := [rwR Zy l, hole]) rfl ?_
  refine Zf (Zf (Zg (Ze rfl rfl (Iv (i : Nat)) rfl (Ze rfl rfl (slv 0 0 n c) rfl ?_))))
  refine Zbl (p := slv 0 0 n c) (v := Iv (n : Nat)) rfl rfl rfl rfl ?_
  by_cases h2 : (i : Nat) < (n : Nat)
  refine Zk (vx := Iv (i : Nat)) (vy := Iv (n : Nat)) rfl rfl (.bool true) rfl rfl (Zcq (by omega)) ?_
  refine Za (Zb (Zz rfl (Z2 (Zb (Zf (Z9 (Zf (Zg (Ze rfl rfl (slv 0 0 n c) rfl (Ze rfl rfl (Iv (i : Nat)) rfl ?_))))))))))
  refine Zbf (b := 0) (o := 0) (j := i * 110) (m := n) (c := c) (sz := 110) (i := (i : Nat)) (k := .i64) rfl rfl rfl rfl rfl (by omega) (by omega) (by omega) ?_
  refine Zi (b := 0) (o := i * 110) (n := 1) (o' := i * 110 + 1) rfl rfl rfl rfl (by omega) ?_
  refine Zi (b := 0) (o := i * 110 + 1) (n := 3) (o' := i * 110 + 4) rfl rfl rfl rfl (by omega) ?_
  refine Zl (p := pt 0 (i * 110 + 4)) (v := .string (((l.getD i default).entry).text)) rfl rfl rfl (Zyb Zy (l := l) (i := i) (k := 4) (m := 110) rfl rfl rfl rfl (by have := hn; omega) (by omega) (by kernel_rfl) rfl) ?_
  refine Zbl (p := .string (((l.getD i default).entry).text)) (v := Iv ((((((l.getD i default).entry).text).size) : Nat) : Int)) rfl rfl rfl rfl ?_
  by_cases h3 : 1000 < ((((((l.getD i default).entry).text).size) : Nat) : Int)
  refine Zk (vx := Iv ((((((l.getD i default).entry).text).size) : Nat) : Int)) (vy := Iv 1000) rfl rfl (.bool true) rfl rfl (Zet (by omega)) ?_
  refine Za (Zb (Zz rfl (Zf (Zg (Zc rfl rfl (.bool true) rfl (Za (Zb (Zt (Zbq (Z3 (Zc3 (Zbq (Z3 (Zu ?_))))))))))))))
  rw [show Zox l = true from by unfold Zox; first | (rw [decide_eq_true (by omega : 60 < l.length)]; rfl) | (rw [Zxu hR (by omega) (decide_eq_true (by omega)), Bool.or_true])]
  exact Zm (v := .bool true) rfl rfl rfl (by kernel_rfl) rfl
  refine Zk (vx := Iv ((((((l.getD i default).entry).text).size) : Nat) : Int)) (vy := Iv 1000) rfl rfl (.bool false) rfl rfl (Zej (by omega)) ?_
  refine Za (Zb (Zv rfl (Z2 (Zab (Zb (Zg (Ze rfl rfl (Iv (i : Nat)) rfl ?_)))))))
  refine Zk (vx := Iv (i : Nat)) (vy := Iv 1) rfl rfl (Iv ((i : Nat) + 1)) rfl rfl (Zaz (by omega) (by omega) (by omega)) ?_
  refine Zc rfl rfl (Iv ((i : Nat) + 1)) rfl (Za ?_)
  refine Zas ⟨(i + 1), ⟨Z0j hR (by omega) (decide_eq_false (by omega)), by omega⟩, by show n - (i + 1) < n - i; omega, ?_⟩
  refine Zal (n := 1) rfl ?_ (by kernel_rfl) (by kernel_rfl)
  repeat (first | exact trivial | refine ⟨.inl rfl, ?_⟩ | refine ⟨.inr ⟨rfl, rfl⟩, ?_⟩ | refine ⟨.inr ⟨congrArg (Value.int .i64) (by first | omega | (dsimp only; omega)), rfl⟩, ?_⟩)
  refine Zk (vx := Iv (i : Nat)) (vy := Iv (n : Nat)) rfl rfl (.bool false) rfl rfl (Zcj (by omega)) ?_
  refine Za (Zb (Zv rfl (Zbh (Zar (Za0 (Zaw rfl (Zb (Zf (Zg (Zc rfl rfl (.bool false) rfl (Za (Zb (Zt (Zu ?_))))))))))))))
  rw [show Zox l = false from by unfold Zox; rw [decide_eq_false (by omega : ¬ 60 < l.length), Bool.false_or, ← hR, List.drop_of_length_le (by omega)]; rfl]
  exact Zm (v := .bool false) rfl rfl rfl (by kernel_rfl) rfl
end Go.Flat
