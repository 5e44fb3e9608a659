/- Walks. -/
import Derived.Test.YtfjkagjbanhdlaaGreatDoorE1
set_option linter.unusedVariables false
set_option linter.unusedSimpArgs false
set_option maxRecDepth 20000
namespace Go.Flat
open Go.Proofs
variable {G : Glob}
theorem Zmk (n : Nat) (a b : D) : Zcv n a b = Zcv n b a := by
  cases h : Zcv n a b with
  | true => rw [Zls] at h; exact (Zls.2 h.symm).symm
  | false =>
    cases h' : Zcv n b a with
    | true => rw [Zls] at h'; rw [Zls.2 h'.symm] at h; cases h
    | false => rfl
theorem Zv4 (a b : Head) : Zkw a b = Zkw b a := by
 unfold Zkw; rw [BEq.comm (a := a.region), BEq.comm (a := a.epoch), BEq.comm (a := a.size), BEq.comm (a := a.tick), Zmk]
theorem Zr4 (a b : Signed) : Zex a b = Zex b a := by
 unfold Zex; rw [Zv4, BEq.comm (a := a.node), Zmk]
theorem Ztm (a b : Claim) : Zf1 a b = Zf1 b a := by
 unfold Zf1; rw [BEq.comm (a := a.region), BEq.comm (a := a.epoch), BEq.comm (a := a.node), BEq.comm (a := a.size), Zmk]
def Zbz (e : Entry) : Prop :=
  (e.kind = 1 ∧ 1 ≤ e.client ∧ e.client ≤ 3 ∧ 1 ≤ e.seq ∧ e.seq ≤ 1000000 ∧ e.text.size ≤ 200 ∧ Zex e.head ⟨⟨0, 0, 0, dz, 0⟩, 0, dz⟩ = true ∧ Zf1 e.claim ⟨0, 0, 0, 0, dz⟩ = true) ∨
  (e.kind = 2 ∧ e.client = 0 ∧ e.seq = 0 ∧ e.text = ⟨#[]⟩ ∧ Zf4 e.head ∧ Zf1 e.claim ⟨0, 0, 0, 0, dz⟩ = true) ∨
  (e.kind = 3 ∧ e.client = 0 ∧ e.seq = 0 ∧ e.text = ⟨#[]⟩ ∧ Zex e.head ⟨⟨0, 0, 0, dz, 0⟩, 0, dz⟩ = true ∧ Zb0 e.claim)
instance (e : Entry) : Decidable (Zbz e) := inferInstanceAs (Decidable (_ ∨ _))
def Zfq (e : Entry) : Int := if Zbz e then 0 else 60
theorem Zwh {e : Entry} (h : Zfq e = 0) : Zbz e := by
 unfold Zfq at h
 split at h
 ·assumption
 ·omega
theorem Zk5 {e : Entry} (h : ¬ Zfq e = 0) : ¬ Zbz e := fun q => h (if_pos q)
def Zcw (x : Item) : Prop := 1 ≤ x.epoch ∧ x.epoch ≤ 900000000 ∧ Zbz x.entry
instance (x : Item) : Decidable (Zcw x) := inferInstanceAs (Decidable (_ ∧ _))
theorem Zwx {h : Head} : Zbn h = 0 ↔ Zcj h := by
 rw [Zg3]; split <;> simp [*]
theorem Zc2 (e : Entry) : Zbz e ↔ (
 (e.kind = 1 ∧ 1 ≤ e.client ∧ e.client ≤ 3 ∧ 1 ≤ e.seq ∧ e.seq ≤ 1000000 ∧ e.text.size ≤ 200 ∧ Ze3 ⟨e.kind, e.client, e.seq, e.text, ⟨⟨0, 0, 0, dz, 0⟩, 0, dz⟩, ⟨0, 0, 0, 0, dz⟩⟩ e = true) ∨
 (e.kind = 2 ∧ Zbn e.head.head = 0 ∧ 1 ≤ e.head.node ∧ e.head.node ≤ 3 ∧ Ze3 ⟨e.kind, 0, 0, ⟨#[]⟩, e.head, ⟨0, 0, 0, 0, dz⟩⟩ e = true) ∨
 (e.kind = 3 ∧ Zf0 e.claim = 0 ∧ Ze3 ⟨e.kind, 0, 0, ⟨#[]⟩, ⟨⟨0, 0, 0, dz, 0⟩, 0, dz⟩, e.claim⟩ e = true)) := by
 have hc : Zf0 e.claim = 0 ↔ Zb0 e.claim := by unfold Zf0; split <;> simp [*]
 have hz : (⟨#[]⟩ : ByteArray) = e.text ↔ e.text = ⟨#[]⟩ := eq_comm
 have h1 : (0 : Int) = e.client ↔ e.client = 0 := eq_comm
 have h2 : (0 : Int) = e.seq ↔ e.seq = 0 := eq_comm
 have h3 : (1 : Int) = e.kind ↔ e.kind = 1 := eq_comm
 have h4 : (2 : Int) = e.kind ↔ e.kind = 2 := eq_comm
 have h5 : (3 : Int) = e.kind ↔ e.kind = 3 := eq_comm
 simp only [Zbz, Ze3, hc, Zwx, Zf4, Zhe, Znj, BEq.rfl, Bool.true_and, Bool.and_true, Bool.and_eq_true, beq_iff_eq, Zr4 ⟨⟨0, 0, 0, dz, 0⟩, 0, dz⟩, Ztm ⟨0, 0, 0, 0, dz⟩, hz, h1, h2, h3, h4, h5, and_assoc, and_left_comm, and_comm]
theorem Zpa (e : Entry) : Z6 Tryz.prog G 112 [Zdf e] [] (Iv (Zfq e)) [] := by
  refine Za8 (fn := Tryz.f112) (nt := 67) rfl rfl rfl rfl ?_
  refine Zaa 2 (H' := [hole, hole]) rfl ?_
  refine Zf (Zg (Zbq (v := Zdf e) (b := bxB 109 (Zcs e)) (nid := 0) (H' := [bxB 109 (Zcs e), hole]) (Zb (Iv 0) (Za (Zc (Zf (Zg (Zh (b := 0) (o := 0) (n := 0) (o' := 0) (Zp (p := pt 0 0) (v := Iv e.kind) ?_)))))))))
  refine Za5 (vs := [(0, Iv e.kind)]) (v := Zdf (⟨e.kind, 0, 0, ⟨#[]⟩, (⟨(⟨0, 0, 0, dz, 0⟩ : Head), 0, dz⟩ : Signed), (⟨0, 0, 0, 0, dz⟩ : Claim)⟩ : Entry)) rfl rfl rfl (by kernel_rfl) ?_
  refine Zam (b := bxB 109 (Zcs (⟨0, 0, 0, ⟨#[]⟩, (⟨(⟨0, 0, 0, dz, 0⟩ : Head), 0, dz⟩ : Signed), (⟨0, 0, 0, 0, dz⟩ : Claim)⟩ : Entry))) (nid := 1) (H' := [bxB 109 (Zcs e), bxB 109 (Zcs (⟨0, 0, 0, ⟨#[]⟩, (⟨(⟨0, 0, 0, dz, 0⟩ : Head), 0, dz⟩ : Signed), (⟨0, 0, 0, 0, dz⟩ : Claim)⟩ : Entry))]) (Z7 (p := pt 1 0) (v := Zdf (⟨e.kind, 0, 0, ⟨#[]⟩, (⟨(⟨0, 0, 0, dz, 0⟩ : Head), 0, dz⟩ : Signed), (⟨0, 0, 0, 0, dz⟩ : Claim)⟩ : Entry)) (b := 1) (blk := bxB 109 (Zcs (⟨e.kind, 0, 0, ⟨#[]⟩, (⟨(⟨0, 0, 0, dz, 0⟩ : Head), 0, dz⟩ : Signed), (⟨0, 0, 0, 0, dz⟩ : Claim)⟩ : Entry))) (H' := [bxB 109 (Zcs e), bxB 109 (Zcs (⟨e.kind, 0, 0, ⟨#[]⟩, (⟨(⟨0, 0, 0, dz, 0⟩ : Head), 0, dz⟩ : Signed), (⟨0, 0, 0, 0, dz⟩ : Claim)⟩ : Entry))]) (Za (Zc (Zf (Zg (Zb (.bool false) (Za (Zc (Zf (Zf (Zg (Zh (b := 0) (o := 0) (n := 0) (o' := 0) (Zp (p := pt 0 0) (v := Iv e.kind) (Za (Zc (Z1 (Zf (Zg ?_))))))))))))))))))
  by_cases h1 : e.kind = 1
  refine Zl (vx := Iv e.kind) (vy := Iv 1) rfl rfl (.bool true) rfl rfl (Zdn (by omega)) ?_
  refine Zb (.bool true) (Za (Zc (Zx rfl (Zf ?_))))
  refine Zc1 (by kernel_rfl) ?_
  refine Zh (b := 0) (o := 0) (n := 1) (o' := 1) (Zp (p := pt 0 1) (v := Iv e.client) (Zh (b := 0) (o := 0) (n := 2) (o' := 2) (Zp (p := pt 0 2) (v := Iv e.seq) (Zh (b := 0) (o := 0) (n := 3) (o' := 3) (Zp (p := pt 0 3) (v := .string e.text) (Zh (b := 1) (o := 0) (n := 1) (o' := 1) (Z7 (p := pt 1 1) (v := Iv e.client) (b := 1) (blk := bxB 109 (Zcs (⟨e.kind, e.client, 0, ⟨#[]⟩, (⟨(⟨0, 0, 0, dz, 0⟩ : Head), 0, dz⟩ : Signed), (⟨0, 0, 0, 0, dz⟩ : Claim)⟩ : Entry))) (H' := [bxB 109 (Zcs e), bxB 109 (Zcs (⟨e.kind, e.client, 0, ⟨#[]⟩, (⟨(⟨0, 0, 0, dz, 0⟩ : Head), 0, dz⟩ : Signed), (⟨0, 0, 0, 0, dz⟩ : Claim)⟩ : Entry))]) (Zh (b := 1) (o := 0) (n := 2) (o' := 2) (Z7 (p := pt 1 2) (v := Iv e.seq) (b := 1) (blk := bxB 109 (Zcs (⟨e.kind, e.client, e.seq, ⟨#[]⟩, (⟨(⟨0, 0, 0, dz, 0⟩ : Head), 0, dz⟩ : Signed), (⟨0, 0, 0, 0, dz⟩ : Claim)⟩ : Entry))) (H' := [bxB 109 (Zcs e), bxB 109 (Zcs (⟨e.kind, e.client, e.seq, ⟨#[]⟩, (⟨(⟨0, 0, 0, dz, 0⟩ : Head), 0, dz⟩ : Signed), (⟨0, 0, 0, 0, dz⟩ : Claim)⟩ : Entry))]) (Zh (b := 1) (o := 0) (n := 3) (o' := 3) (Z7 (p := pt 1 3) (v := .string e.text) (b := 1) (blk := bxB 109 (Zcs (⟨e.kind, e.client, e.seq, e.text, (⟨(⟨0, 0, 0, dz, 0⟩ : Head), 0, dz⟩ : Signed), (⟨0, 0, 0, 0, dz⟩ : Claim)⟩ : Entry))) (H' := [bxB 109 (Zcs e), bxB 109 (Zcs (⟨e.kind, e.client, e.seq, e.text, (⟨(⟨0, 0, 0, dz, 0⟩ : Head), 0, dz⟩ : Signed), (⟨0, 0, 0, 0, dz⟩ : Claim)⟩ : Entry))]) ?_)))))))))))
  refine Zb3 (Zgj [[], [0], [], [2], [], [4], [0, 1], [0, 1, 6], [0, 1, 2, 3, 6, 7], [0, 1, 2, 3, 6, 7, 8], [0, 1, 2, 3, 4, 5, 6, 7, 8, 9], [0, 1, 2, 3, 4, 5, 6, 7, 8, 9, 10]] (by kernel_rfl) (by kernel_rfl)) ?_
  refine Zc (Zg (Zh (b := 1) (o := 0) (n := 1) (o' := 1) (Zp (p := pt 1 1) (v := Iv e.client) ?_)))
  by_cases h2 : 1 ≤ e.client
  by_cases h3 : e.client ≤ 3
  refine Zo ((Zbk (G := G) e.client 1 3).res (congrArg Value.bool (Zbc (by omega) (by omega)))) (vals := [Iv e.client, Iv 1, Iv 3]) (res' := .bool true) rfl rfl rfl rfl rfl rfl ?_
  refine Zd (.bool true) (Zh (b := 1) (o := 0) (n := 2) (o' := 2) (Zp (p := pt 1 2) (v := Iv e.seq) ?_))
  by_cases h4 : 1 ≤ e.seq
  by_cases h5 : e.seq ≤ 1000000
  refine Zo ((Zbk (G := G) e.seq 1 1000000).res (congrArg Value.bool (Zbc (by omega) (by omega)))) (vals := [Iv e.seq, Iv 1, Iv 1000000]) (res' := .bool true) rfl rfl rfl rfl rfl rfl ?_
  refine Zi (.bool true) (Zd (.bool true) (Zh (b := 1) (o := 0) (n := 3) (o' := 3) (Zp (p := pt 1 3) (v := .string e.text) (Zcu (p := .string e.text) (v := Iv (e.text.size : Nat)) ?_))))
  by_cases h6 : (e.text.size : Nat) ≤ 200
  refine Zl (vx := Iv (e.text.size : Nat)) (vy := Iv 200) rfl rfl (.bool true) rfl rfl (Zo5 (by omega)) ?_
  refine Zi (.bool true) (Zb (.bool true) (Za (Z4 (Zc (Zf (Zg (Zd (.bool true) (Zd (.bool true) (Zp (p := pt 1 0) (v := Zdf (⟨e.kind, e.client, e.seq, e.text, (⟨(⟨0, 0, 0, dz, 0⟩ : Head), 0, dz⟩ : Signed), (⟨0, 0, 0, 0, dz⟩ : Claim)⟩ : Entry)) (Zp (p := pt 0 0) (v := Zdf e) ?_))))))))))
  rcases Bool.eq_false_or_eq_true (Ze3 (⟨e.kind, e.client, e.seq, e.text, (⟨(⟨0, 0, 0, dz, 0⟩ : Head), 0, dz⟩ : Signed), (⟨0, 0, 0, 0, dz⟩ : Claim)⟩ : Entry) e) with h7 | h7
  refine Zl (vx := Zdf (⟨e.kind, e.client, e.seq, e.text, (⟨(⟨0, 0, 0, dz, 0⟩ : Head), 0, dz⟩ : Signed), (⟨0, 0, 0, 0, dz⟩ : Claim)⟩ : Entry)) (vy := Zdf e) rfl rfl (.bool true) rfl rfl (Eq.trans (Zh5 (⟨e.kind, e.client, e.seq, e.text, (⟨(⟨0, 0, 0, dz, 0⟩ : Head), 0, dz⟩ : Signed), (⟨0, 0, 0, 0, dz⟩ : Claim)⟩ : Entry) e) (by rw [h7] <;> rfl)) ?_
  refine Zi (.bool true) ?_
  refine Zo (Zc8 (G := G) true) (vals := [.bool true]) (res' := Iv 0) rfl rfl rfl rfl rfl rfl ?_
  refine Zb (Iv 0) (Za (Zc (Zq (Zr ?_))))
  rw [show Zfq e = 0 from if_pos ((Zc2 e).2 (by first | exact .inl ⟨by omega, by omega, by omega, by omega, by omega, by omega, by assumption⟩ | exact .inr (.inl ⟨by omega, by omega, by omega, by omega, by assumption⟩) | exact .inr (.inr ⟨by omega, by omega, by assumption⟩)))]
  exact Zk (v := Iv 0) rfl rfl rfl (by kernel_rfl) rfl
  refine Zl (vx := Zdf (⟨e.kind, e.client, e.seq, e.text, (⟨(⟨0, 0, 0, dz, 0⟩ : Head), 0, dz⟩ : Signed), (⟨0, 0, 0, 0, dz⟩ : Claim)⟩ : Entry)) (vy := Zdf e) rfl rfl (.bool false) rfl rfl (Eq.trans (Zh5 (⟨e.kind, e.client, e.seq, e.text, (⟨(⟨0, 0, 0, dz, 0⟩ : Head), 0, dz⟩ : Signed), (⟨0, 0, 0, 0, dz⟩ : Claim)⟩ : Entry) e) (by rw [h7] <;> rfl)) ?_
  refine Zi (.bool false) ?_
  refine Zo (Zc8 (G := G) false) (vals := [.bool false]) (res' := Iv 60) rfl rfl rfl rfl rfl rfl ?_
  refine Zb (Iv 60) (Za (Zc (Zq (Zr ?_))))
  rw [show Zfq e = 60 from if_neg (fun q => by rcases (Zc2 e).1 q with q | q | q <;> first | omega | (exact absurd (by first | exact q.2.2.2.2.2.2 | exact q.2.2.2.2 | exact q.2.2) (Bool.eq_false_iff.1 (by assumption))))]
  exact Zk (v := Iv 60) rfl rfl rfl (by kernel_rfl) rfl
  refine Zl (vx := Iv (e.text.size : Nat)) (vy := Iv 200) rfl rfl (.bool false) rfl rfl (Znp (by omega)) ?_
  refine Zi (.bool false) (Zb (.bool false) (Za (Z4 (Zc (Zf (Zg (Zd (.bool false) (Zd (.bool false) (Ze (Ze (Ze (Zi (.bool false) ?_))))))))))))
  refine Zo (Zc8 (G := G) false) (vals := [.bool false]) (res' := Iv 60) rfl rfl rfl rfl rfl rfl ?_
  refine Zb (Iv 60) (Za (Zc (Zq (Zr ?_))))
  rw [show Zfq e = 60 from if_neg (fun q => by rcases (Zc2 e).1 q with q | q | q <;> first | omega | (exact absurd (by first | exact q.2.2.2.2.2.2 | exact q.2.2.2.2 | exact q.2.2) (Bool.eq_false_iff.1 (by assumption))))]
  exact Zk (v := Iv 60) rfl rfl rfl (by kernel_rfl) rfl
  refine Zo ((Zbk (G := G) e.seq 1 1000000).res (congrArg Value.bool (Z8 (by omega)))) (vals := [Iv e.seq, Iv 1, Iv 1000000]) (res' := .bool false) rfl rfl rfl rfl rfl rfl ?_
  refine Zi (.bool false) (Zd (.bool false) (Ze (Ze (Ze (Ze (Zi (.bool false) (Zb (.bool false) (Za (Z4 (Zc (Zf (Zg (Zd (.bool false) (Zd (.bool false) (Ze (Ze (Ze (Zi (.bool false) ?_))))))))))))))))))
  refine Zo (Zc8 (G := G) false) (vals := [.bool false]) (res' := Iv 60) rfl rfl rfl rfl rfl rfl ?_
  refine Zb (Iv 60) (Za (Zc (Zq (Zr ?_))))
  rw [show Zfq e = 60 from if_neg (fun q => by rcases (Zc2 e).1 q with q | q | q <;> first | omega | (exact absurd (by first | exact q.2.2.2.2.2.2 | exact q.2.2.2.2 | exact q.2.2) (Bool.eq_false_iff.1 (by assumption))))]
  exact Zk (v := Iv 60) rfl rfl rfl (by kernel_rfl) rfl
  refine Zo ((Zbk (G := G) e.seq 1 1000000).res (congrArg Value.bool (Z8 (by omega)))) (vals := [Iv e.seq, Iv 1, Iv 1000000]) (res' := .bool false) rfl rfl rfl rfl rfl rfl ?_
  refine Zi (.bool false) (Zd (.bool false) (Ze (Ze (Ze (Ze (Zi (.bool false) (Zb (.bool false) (Za (Z4 (Zc (Zf (Zg (Zd (.bool false) (Zd (.bool false) (Ze (Ze (Ze (Zi (.bool false) ?_))))))))))))))))))
  refine Zo (Zc8 (G := G) false) (vals := [.bool false]) (res' := Iv 60) rfl rfl rfl rfl rfl rfl ?_
  refine Zb (Iv 60) (Za (Zc (Zq (Zr ?_))))
  rw [show Zfq e = 60 from if_neg (fun q => by rcases (Zc2 e).1 q with q | q | q <;> first | omega | (exact absurd (by first | exact q.2.2.2.2.2.2 | exact q.2.2.2.2 | exact q.2.2) (Bool.eq_false_iff.1 (by assumption))))]
  exact Zk (v := Iv 60) rfl rfl rfl (by kernel_rfl) rfl
  refine Zo ((Zbk (G := G) e.client 1 3).res (congrArg Value.bool (Z8 (by omega)))) (vals := [Iv e.client, Iv 1, Iv 3]) (res' := .bool false) rfl rfl rfl rfl rfl rfl ?_
  refine Zd (.bool false) (Ze (Ze (Ze (Zi (.bool false) (Zd (.bool false) (Ze (Ze (Ze (Ze (Zi (.bool false) (Zb (.bool false) (Za (Z4 (Zc (Zf (Zg (Zd (.bool false) (Zd (.bool false) (Ze (Ze (Ze (Zi (.bool false) ?_))))))))))))))))))))))
  refine Zo (Zc8 (G := G) false) (vals := [.bool false]) (res' := Iv 60) rfl rfl rfl rfl rfl rfl ?_
  refine Zb (Iv 60) (Za (Zc (Zq (Zr ?_))))
  rw [show Zfq e = 60 from if_neg (fun q => by rcases (Zc2 e).1 q with q | q | q <;> first | omega | (exact absurd (by first | exact q.2.2.2.2.2.2 | exact q.2.2.2.2 | exact q.2.2) (Bool.eq_false_iff.1 (by assumption))))]
  exact Zk (v := Iv 60) rfl rfl rfl (by kernel_rfl) rfl
  refine Zo ((Zbk (G := G) e.client 1 3).res (congrArg Value.bool (Z8 (by omega)))) (vals := [Iv e.client, Iv 1, Iv 3]) (res' := .bool false) rfl rfl rfl rfl rfl rfl ?_
  refine Zd (.bool false) (Ze (Ze (Ze (Zi (.bool false) (Zd (.bool false) (Ze (Ze (Ze (Ze (Zi (.bool false) (Zb (.bool false) (Za (Z4 (Zc (Zf (Zg (Zd (.bool false) (Zd (.bool false) (Ze (Ze (Ze (Zi (.bool false) ?_))))))))))))))))))))))
  refine Zo (Zc8 (G := G) false) (vals := [.bool false]) (res' := Iv 60) rfl rfl rfl rfl rfl rfl ?_
  refine Zb (Iv 60) (Za (Zc (Zq (Zr ?_))))
  rw [show Zfq e = 60 from if_neg (fun q => by rcases (Zc2 e).1 q with q | q | q <;> first | omega | (exact absurd (by first | exact q.2.2.2.2.2.2 | exact q.2.2.2.2 | exact q.2.2) (Bool.eq_false_iff.1 (by assumption))))]
  exact Zk (v := Iv 60) rfl rfl rfl (by kernel_rfl) rfl
  refine Zl (vx := Iv e.kind) (vy := Iv 1) rfl rfl (.bool false) rfl rfl (Zer (by omega)) ?_
  refine Zb (.bool false) (Za (Zc (Zu rfl (Zf (Zg ?_)))))
  by_cases h8 : e.kind = 2
  refine Zl (vx := Iv e.kind) (vy := Iv 2) rfl rfl (.bool true) rfl rfl (Zdn (by omega)) ?_
  refine Zb (.bool true) (Za (Zc (Zx rfl (Zf (Zg (Zh (b := 0) (o := 0) (n := 4) (o' := 4) (Zp (p := pt 0 4) (v := Zy e.head) (Zh (b := 1) (o := 0) (n := 4) (o' := 4) (Z7 (p := pt 1 4) (v := Zy e.head) (b := 1) (blk := bxB 109 (Zcs (⟨e.kind, 0, 0, ⟨#[]⟩, e.head, (⟨0, 0, 0, 0, dz⟩ : Claim)⟩ : Entry))) (H' := [bxB 109 (Zcs e), bxB 109 (Zcs (⟨e.kind, 0, 0, ⟨#[]⟩, e.head, (⟨0, 0, 0, 0, dz⟩ : Claim)⟩ : Entry))]) (Za (Zc (Zg (Zh (b := 1) (o := 0) (n := 4) (o' := 4) (Zh (b := 1) (o := 4) (n := 0) (o' := 4) (Zp (p := pt 1 4) (v := Zcd e.head.head) ?_)))))))))))))))
  refine Zo (Zqw (G := G) e.head.head) (vals := [Zcd e.head.head]) (res' := Iv (Zbn e.head.head)) rfl rfl rfl rfl rfl rfl ?_
  by_cases h9 : (Zbn e.head.head) = 0
  refine Zl (vx := Iv (Zbn e.head.head)) (vy := Iv 0) rfl rfl (.bool true) rfl rfl (Zdn (by omega)) ?_
  refine Zd (.bool true) (Zh (b := 1) (o := 0) (n := 4) (o' := 4) (Zh (b := 1) (o := 4) (n := 36) (o' := 40) (Zp (p := pt 1 40) (v := Iv e.head.node) ?_)))
  by_cases h10 : 1 ≤ e.head.node
  by_cases h11 : e.head.node ≤ 3
  refine Zo ((Zbk (G := G) e.head.node 1 3).res (congrArg Value.bool (Zbc (by omega) (by omega)))) (vals := [Iv e.head.node, Iv 1, Iv 3]) (res' := .bool true) rfl rfl rfl rfl rfl rfl ?_
  refine Zi (.bool true) (Zb (.bool true) (Za (Z4 (Zc (Zf (Zg (Zd (.bool true) (Zd (.bool true) (Zp (p := pt 1 0) (v := Zdf (⟨e.kind, 0, 0, ⟨#[]⟩, e.head, (⟨0, 0, 0, 0, dz⟩ : Claim)⟩ : Entry)) (Zp (p := pt 0 0) (v := Zdf e) ?_))))))))))
  rcases Bool.eq_false_or_eq_true (Ze3 (⟨e.kind, 0, 0, ⟨#[]⟩, e.head, (⟨0, 0, 0, 0, dz⟩ : Claim)⟩ : Entry) e) with h12 | h12
  refine Zl (vx := Zdf (⟨e.kind, 0, 0, ⟨#[]⟩, e.head, (⟨0, 0, 0, 0, dz⟩ : Claim)⟩ : Entry)) (vy := Zdf e) rfl rfl (.bool true) rfl rfl (Eq.trans (Zh5 (⟨e.kind, 0, 0, ⟨#[]⟩, e.head, (⟨0, 0, 0, 0, dz⟩ : Claim)⟩ : Entry) e) (by rw [h12] <;> rfl)) ?_
  refine Zi (.bool true) ?_
  refine Zo (Zc8 (G := G) true) (vals := [.bool true]) (res' := Iv 0) rfl rfl rfl rfl rfl rfl ?_
  refine Zb (Iv 0) (Za (Zc (Zq (Zr ?_))))
  rw [show Zfq e = 0 from if_pos ((Zc2 e).2 (by first | exact .inl ⟨by omega, by omega, by omega, by omega, by omega, by omega, by assumption⟩ | exact .inr (.inl ⟨by omega, by omega, by omega, by omega, by assumption⟩) | exact .inr (.inr ⟨by omega, by omega, by assumption⟩)))]
  exact Zk (v := Iv 0) rfl rfl rfl (by kernel_rfl) rfl
  refine Zl (vx := Zdf (⟨e.kind, 0, 0, ⟨#[]⟩, e.head, (⟨0, 0, 0, 0, dz⟩ : Claim)⟩ : Entry)) (vy := Zdf e) rfl rfl (.bool false) rfl rfl (Eq.trans (Zh5 (⟨e.kind, 0, 0, ⟨#[]⟩, e.head, (⟨0, 0, 0, 0, dz⟩ : Claim)⟩ : Entry) e) (by rw [h12] <;> rfl)) ?_
  refine Zi (.bool false) ?_
  refine Zo (Zc8 (G := G) false) (vals := [.bool false]) (res' := Iv 60) rfl rfl rfl rfl rfl rfl ?_
  refine Zb (Iv 60) (Za (Zc (Zq (Zr ?_))))
  rw [show Zfq e = 60 from if_neg (fun q => by rcases (Zc2 e).1 q with q | q | q <;> first | omega | (exact absurd (by first | exact q.2.2.2.2.2.2 | exact q.2.2.2.2 | exact q.2.2) (Bool.eq_false_iff.1 (by assumption))))]
  exact Zk (v := Iv 60) rfl rfl rfl (by kernel_rfl) rfl
  refine Zo ((Zbk (G := G) e.head.node 1 3).res (congrArg Value.bool (Z8 (by omega)))) (vals := [Iv e.head.node, Iv 1, Iv 3]) (res' := .bool false) rfl rfl rfl rfl rfl rfl ?_
  refine Zi (.bool false) (Zb (.bool false) (Za (Z4 (Zc (Zf (Zg (Zd (.bool false) (Zd (.bool false) (Ze (Ze (Ze (Zi (.bool false) ?_))))))))))))
  refine Zo (Zc8 (G := G) false) (vals := [.bool false]) (res' := Iv 60) rfl rfl rfl rfl rfl rfl ?_
  refine Zb (Iv 60) (Za (Zc (Zq (Zr ?_))))
  rw [show Zfq e = 60 from if_neg (fun q => by rcases (Zc2 e).1 q with q | q | q <;> first | omega | (exact absurd (by first | exact q.2.2.2.2.2.2 | exact q.2.2.2.2 | exact q.2.2) (Bool.eq_false_iff.1 (by assumption))))]
  exact Zk (v := Iv 60) rfl rfl rfl (by kernel_rfl) rfl
  refine Zo ((Zbk (G := G) e.head.node 1 3).res (congrArg Value.bool (Z8 (by omega)))) (vals := [Iv e.head.node, Iv 1, Iv 3]) (res' := .bool false) rfl rfl rfl rfl rfl rfl ?_
  refine Zi (.bool false) (Zb (.bool false) (Za (Z4 (Zc (Zf (Zg (Zd (.bool false) (Zd (.bool false) (Ze (Ze (Ze (Zi (.bool false) ?_))))))))))))
  refine Zo (Zc8 (G := G) false) (vals := [.bool false]) (res' := Iv 60) rfl rfl rfl rfl rfl rfl ?_
  refine Zb (Iv 60) (Za (Zc (Zq (Zr ?_))))
  rw [show Zfq e = 60 from if_neg (fun q => by rcases (Zc2 e).1 q with q | q | q <;> first | omega | (exact absurd (by first | exact q.2.2.2.2.2.2 | exact q.2.2.2.2 | exact q.2.2) (Bool.eq_false_iff.1 (by assumption))))]
  exact Zk (v := Iv 60) rfl rfl rfl (by kernel_rfl) rfl
  refine Zl (vx := Iv (Zbn e.head.head)) (vy := Iv 0) rfl rfl (.bool false) rfl rfl (Zer (by omega)) ?_
  refine Zd (.bool false) (Ze (Ze (Ze (Ze (Zi (.bool false) (Zb (.bool false) (Za (Z4 (Zc (Zf (Zg (Zd (.bool false) (Zd (.bool false) (Ze (Ze (Ze (Zi (.bool false) ?_)))))))))))))))))
  refine Zo (Zc8 (G := G) false) (vals := [.bool false]) (res' := Iv 60) rfl rfl rfl rfl rfl rfl ?_
  refine Zb (Iv 60) (Za (Zc (Zq (Zr ?_))))
  rw [show Zfq e = 60 from if_neg (fun q => by rcases (Zc2 e).1 q with q | q | q <;> first | omega | (exact absurd (by first | exact q.2.2.2.2.2.2 | exact q.2.2.2.2 | exact q.2.2) (Bool.eq_false_iff.1 (by assumption))))]
  exact Zk (v := Iv 60) rfl rfl rfl (by kernel_rfl) rfl
  refine Zl (vx := Iv e.kind) (vy := Iv 2) rfl rfl (.bool false) rfl rfl (Zer (by omega)) ?_
  refine Zb (.bool false) (Za (Zc (Zu rfl (Zf (Zg ?_)))))
  by_cases h13 : e.kind = 3
  refine Zl (vx := Iv e.kind) (vy := Iv 3) rfl rfl (.bool true) rfl rfl (Zdn (by omega)) ?_
  refine Zb (.bool true) (Za (Zc (Zx rfl (Zf (Zg (Zh (b := 0) (o := 0) (n := 73) (o' := 73) (Zp (p := pt 0 73) (v := Zcb e.claim) (Zh (b := 1) (o := 0) (n := 73) (o' := 73) (Z7 (p := pt 1 73) (v := Zcb e.claim) (b := 1) (blk := bxB 109 (Zcs (⟨e.kind, 0, 0, ⟨#[]⟩, (⟨(⟨0, 0, 0, dz, 0⟩ : Head), 0, dz⟩ : Signed), e.claim⟩ : Entry))) (H' := [bxB 109 (Zcs e), bxB 109 (Zcs (⟨e.kind, 0, 0, ⟨#[]⟩, (⟨(⟨0, 0, 0, dz, 0⟩ : Head), 0, dz⟩ : Signed), e.claim⟩ : Entry))]) (Za (Zc (Zg (Zh (b := 1) (o := 0) (n := 73) (o' := 73) (Zp (p := pt 1 73) (v := Zcb e.claim) ?_))))))))))))))
  refine Zo (Zl7 (G := G) e.claim) (vals := [Zcb e.claim]) (res' := Iv (Zf0 e.claim)) rfl rfl rfl rfl rfl rfl ?_
  by_cases h14 : (Zf0 e.claim) = 0
  refine Zl (vx := Iv (Zf0 e.claim)) (vy := Iv 0) rfl rfl (.bool true) rfl rfl (Zdn (by omega)) ?_
  refine Zb (.bool true) (Za (Z4 (Zc (Zf (Zg (Zd (.bool true) (Zd (.bool true) (Zp (p := pt 1 0) (v := Zdf (⟨e.kind, 0, 0, ⟨#[]⟩, (⟨(⟨0, 0, 0, dz, 0⟩ : Head), 0, dz⟩ : Signed), e.claim⟩ : Entry)) (Zp (p := pt 0 0) (v := Zdf e) ?_)))))))))
  rcases Bool.eq_false_or_eq_true (Ze3 (⟨e.kind, 0, 0, ⟨#[]⟩, (⟨(⟨0, 0, 0, dz, 0⟩ : Head), 0, dz⟩ : Signed), e.claim⟩ : Entry) e) with h15 | h15
  refine Zl (vx := Zdf (⟨e.kind, 0, 0, ⟨#[]⟩, (⟨(⟨0, 0, 0, dz, 0⟩ : Head), 0, dz⟩ : Signed), e.claim⟩ : Entry)) (vy := Zdf e) rfl rfl (.bool true) rfl rfl (Eq.trans (Zh5 (⟨e.kind, 0, 0, ⟨#[]⟩, (⟨(⟨0, 0, 0, dz, 0⟩ : Head), 0, dz⟩ : Signed), e.claim⟩ : Entry) e) (by rw [h15] <;> rfl)) ?_
  refine Zi (.bool true) ?_
  refine Zo (Zc8 (G := G) true) (vals := [.bool true]) (res' := Iv 0) rfl rfl rfl rfl rfl rfl ?_
  refine Zb (Iv 0) (Za (Zc (Zq (Zr ?_))))
  rw [show Zfq e = 0 from if_pos ((Zc2 e).2 (by first | exact .inl ⟨by omega, by omega, by omega, by omega, by omega, by omega, by assumption⟩ | exact .inr (.inl ⟨by omega, by omega, by omega, by omega, by assumption⟩) | exact .inr (.inr ⟨by omega, by omega, by assumption⟩)))]
  exact Zk (v := Iv 0) rfl rfl rfl (by kernel_rfl) rfl
  refine Zl (vx := Zdf (⟨e.kind, 0, 0, ⟨#[]⟩, (⟨(⟨0, 0, 0, dz, 0⟩ : Head), 0, dz⟩ : Signed), e.claim⟩ : Entry)) (vy := Zdf e) rfl rfl (.bool false) rfl rfl (Eq.trans (Zh5 (⟨e.kind, 0, 0, ⟨#[]⟩, (⟨(⟨0, 0, 0, dz, 0⟩ : Head), 0, dz⟩ : Signed), e.claim⟩ : Entry) e) (by rw [h15] <;> rfl)) ?_
  refine Zi (.bool false) ?_
  refine Zo (Zc8 (G := G) false) (vals := [.bool false]) (res' := Iv 60) rfl rfl rfl rfl rfl rfl ?_
  refine Zb (Iv 60) (Za (Zc (Zq (Zr ?_))))
  rw [show Zfq e = 60 from if_neg (fun q => by rcases (Zc2 e).1 q with q | q | q <;> first | omega | (exact absurd (by first | exact q.2.2.2.2.2.2 | exact q.2.2.2.2 | exact q.2.2) (Bool.eq_false_iff.1 (by assumption))))]
  exact Zk (v := Iv 60) rfl rfl rfl (by kernel_rfl) rfl
  refine Zl (vx := Iv (Zf0 e.claim)) (vy := Iv 0) rfl rfl (.bool false) rfl rfl (Zer (by omega)) ?_
  refine Zb (.bool false) (Za (Z4 (Zc (Zf (Zg (Zd (.bool false) (Zd (.bool false) (Ze (Ze (Ze (Zi (.bool false) ?_)))))))))))
  refine Zo (Zc8 (G := G) false) (vals := [.bool false]) (res' := Iv 60) rfl rfl rfl rfl rfl rfl ?_
  refine Zb (Iv 60) (Za (Zc (Zq (Zr ?_))))
  rw [show Zfq e = 60 from if_neg (fun q => by rcases (Zc2 e).1 q with q | q | q <;> first | omega | (exact absurd (by first | exact q.2.2.2.2.2.2 | exact q.2.2.2.2 | exact q.2.2) (Bool.eq_false_iff.1 (by assumption))))]
  exact Zk (v := Iv 60) rfl rfl rfl (by kernel_rfl) rfl
  refine Zl (vx := Iv e.kind) (vy := Iv 3) rfl rfl (.bool false) rfl rfl (Zer (by omega)) ?_
  refine Zb (.bool false) (Za (Zc (Zu rfl (Z0 (Z4 (Zc (Zf (Zg (Zd (.bool false) (Zd (.bool false) (Ze (Ze (Ze (Zi (.bool false) ?_))))))))))))))
  refine Zo (Zc8 (G := G) false) (vals := [.bool false]) (res' := Iv 60) rfl rfl rfl rfl rfl rfl ?_
  refine Zb (Iv 60) (Za (Zc (Zq (Zr ?_))))
  rw [show Zfq e = 60 from if_neg (fun q => by rcases (Zc2 e).1 q with q | q | q <;> first | omega | (exact absurd (by first | exact q.2.2.2.2.2.2 | exact q.2.2.2.2 | exact q.2.2) (Bool.eq_false_iff.1 (by assumption))))]
  exact Zk (v := Iv 60) rfl rfl rfl (by kernel_rfl) rfl
theorem Zt1 (e : Entry) : Z6 Tryz.prog G 81 [Zdf e] [] (.bool (decide (Zbz e))) [] := by
  refine Za8 (fn := Tryz.f81) (nt := 85) rfl rfl rfl rfl ?_
  refine Zaa 1 (H' := [hole]) rfl ?_
  refine Zf (Zg (Zbq (v := Zdf e) (b := bxB 109 (Zcs e)) (nid := 0) (H' := [bxB 109 (Zcs e)]) (Zb (.bool false) (Za (Zc (Zf (Zf (Zg (Zh (b := 0) (o := 0) (n := 0) (o' := 0) (Zp (p := pt 0 0) (v := Iv e.kind) (Za (Zc (Z1 (Zf (Zg ?_)))))))))))))))
  by_cases h1 : e.kind = 1
  refine Zl (vx := Iv e.kind) (vy := Iv 1) rfl rfl (.bool true) rfl rfl (Zdn (by omega)) ?_
  refine Zb (.bool true) (Za (Zc (Zx rfl (Zf (Zg (Zh (b := 0) (o := 0) (n := 1) (o' := 1) (Zp (p := pt 0 1) (v := Iv e.client) ?_)))))))
  by_cases h2 : 1 ≤ e.client
  by_cases h3 : e.client ≤ 3
  refine Zo ((Zbl (G := G) e.client 1 3).res (congrArg Value.bool (Zbc (by omega) (by omega)))) (vals := [Iv e.client, Iv 1, Iv 3]) (res' := .bool true) rfl rfl rfl rfl rfl rfl ?_
  refine Zd (.bool true) (Zh (b := 0) (o := 0) (n := 2) (o' := 2) (Zp (p := pt 0 2) (v := Iv e.seq) ?_))
  by_cases h4 : 1 ≤ e.seq
  by_cases h5 : e.seq ≤ 1000000
  refine Zo ((Zbl (G := G) e.seq 1 1000000).res (congrArg Value.bool (Zbc (by omega) (by omega)))) (vals := [Iv e.seq, Iv 1, Iv 1000000]) (res' := .bool true) rfl rfl rfl rfl rfl rfl ?_
  refine Zi (.bool true) (Zd (.bool true) (Zh (b := 0) (o := 0) (n := 3) (o' := 3) (Zp (p := pt 0 3) (v := .string e.text) (Zcu (p := .string e.text) (v := Iv (e.text.size : Nat)) ?_))))
  by_cases h6 : (e.text.size : Nat) ≤ 200
  refine Zl (vx := Iv (e.text.size : Nat)) (vy := Iv 200) rfl rfl (.bool true) rfl rfl (Zo5 (by omega)) ?_
  refine Zi (.bool true) (Zd (.bool true) (Zh (b := 0) (o := 0) (n := 4) (o' := 4) (Zp (p := pt 0 4) (v := Zy e.head) ?_)))
  refine Za5 (vs := []) (v := Zy (⟨(⟨0, 0, 0, dz, 0⟩ : Head), 0, dz⟩ : Signed)) rfl rfl rfl (by kernel_rfl) ?_
  rcases Bool.eq_false_or_eq_true (Zex e.head (⟨(⟨0, 0, 0, dz, 0⟩ : Head), 0, dz⟩ : Signed)) with h7 | h7
  refine Zl (vx := Zy e.head) (vy := Zy (⟨(⟨0, 0, 0, dz, 0⟩ : Head), 0, dz⟩ : Signed)) rfl rfl (.bool true) rfl rfl (Eq.trans (Zg2 e.head (⟨(⟨0, 0, 0, dz, 0⟩ : Head), 0, dz⟩ : Signed)) (by rw [h7] <;> rfl)) ?_
  refine Zi (.bool true) (Zd (.bool true) (Zh (b := 0) (o := 0) (n := 73) (o' := 73) (Zp (p := pt 0 73) (v := Zcb e.claim) ?_)))
  refine Za5 (vs := []) (v := Zcb (⟨0, 0, 0, 0, dz⟩ : Claim)) rfl rfl rfl (by kernel_rfl) ?_
  rcases Bool.eq_false_or_eq_true (Zf1 e.claim (⟨0, 0, 0, 0, dz⟩ : Claim)) with h8 | h8
  refine Zl (vx := Zcb e.claim) (vy := Zcb (⟨0, 0, 0, 0, dz⟩ : Claim)) rfl rfl (.bool true) rfl rfl (Eq.trans (Zlt e.claim (⟨0, 0, 0, 0, dz⟩ : Claim)) (by rw [h8] <;> rfl)) ?_
  refine Zi (.bool true) (Zb (.bool true) (Za (Zc (Zq (Za4 (Zz (Zr ?_)))))))
  rw [show decide (Zbz e) = true from decide_eq_true (by first | exact .inl ⟨by omega, by omega, by omega, by omega, by omega, by omega, by assumption, by assumption⟩ | exact .inr (.inl ⟨by omega, by omega, by omega, (Zb4 _ _).1 (by assumption), of_decide_eq_true (by assumption), by assumption⟩) | exact .inr (.inr ⟨by omega, by omega, by omega, (Zb4 _ _).1 (by assumption), by assumption, of_decide_eq_true (by assumption)⟩))]
  exact Zk (v := .bool true) rfl rfl rfl (by kernel_rfl) rfl
  refine Zl (vx := Zcb e.claim) (vy := Zcb (⟨0, 0, 0, 0, dz⟩ : Claim)) rfl rfl (.bool false) rfl rfl (Eq.trans (Zlt e.claim (⟨0, 0, 0, 0, dz⟩ : Claim)) (by rw [h8] <;> rfl)) ?_
  refine Zi (.bool false) (Zb (.bool false) (Za (Zc (Zq (Za4 (Zz (Zr ?_)))))))
  rw [show decide (Zbz e) = false from decide_eq_false (fun q => by rcases q with ⟨q1, q2, q3, q4, q5, q6, q7, q8⟩ | ⟨q1, q2, q3, q4, q5, q6⟩ | ⟨q1, q2, q3, q4, q5, q6⟩ <;> first | omega | (exact absurd ((Zb4 _ _).2 q4) (by rw [‹Zfm _ _ = false›]; decide)) | (simp [*] at *; done) | (simp_all; done))]
  exact Zk (v := .bool false) rfl rfl rfl (by kernel_rfl) rfl
  refine Zl (vx := Zy e.head) (vy := Zy (⟨(⟨0, 0, 0, dz, 0⟩ : Head), 0, dz⟩ : Signed)) rfl rfl (.bool false) rfl rfl (Eq.trans (Zg2 e.head (⟨(⟨0, 0, 0, dz, 0⟩ : Head), 0, dz⟩ : Signed)) (by rw [h7] <;> rfl)) ?_
  refine Zi (.bool false) (Zd (.bool false) (Ze (Ze (Ze (Ze (Zi (.bool false) (Zb (.bool false) (Za (Zc (Zq (Za4 (Zz (Zr ?_)))))))))))))
  rw [show decide (Zbz e) = false from decide_eq_false (fun q => by rcases q with ⟨q1, q2, q3, q4, q5, q6, q7, q8⟩ | ⟨q1, q2, q3, q4, q5, q6⟩ | ⟨q1, q2, q3, q4, q5, q6⟩ <;> first | omega | (exact absurd ((Zb4 _ _).2 q4) (by rw [‹Zfm _ _ = false›]; decide)) | (simp [*] at *; done) | (simp_all; done))]
  exact Zk (v := .bool false) rfl rfl rfl (by kernel_rfl) rfl
  refine Zl (vx := Iv (e.text.size : Nat)) (vy := Iv 200) rfl rfl (.bool false) rfl rfl (Znp (by omega)) ?_
  refine Zi (.bool false) (Zd (.bool false) (Ze (Ze (Ze (Ze (Zi (.bool false) (Zd (.bool false) (Ze (Ze (Ze (Ze (Zi (.bool false) (Zb (.bool false) (Za (Zc (Zq (Za4 (Zz (Zr ?_)))))))))))))))))))
  rw [show decide (Zbz e) = false from decide_eq_false (fun q => by rcases q with ⟨q1, q2, q3, q4, q5, q6, q7, q8⟩ | ⟨q1, q2, q3, q4, q5, q6⟩ | ⟨q1, q2, q3, q4, q5, q6⟩ <;> first | omega | (exact absurd ((Zb4 _ _).2 q4) (by rw [‹Zfm _ _ = false›]; decide)) | (simp [*] at *; done) | (simp_all; done))]
  exact Zk (v := .bool false) rfl rfl rfl (by kernel_rfl) rfl
  refine Zo ((Zbl (G := G) e.seq 1 1000000).res (congrArg Value.bool (Z8 (by omega)))) (vals := [Iv e.seq, Iv 1, Iv 1000000]) (res' := .bool false) rfl rfl rfl rfl rfl rfl ?_
  refine Zi (.bool false) (Zd (.bool false) (Ze (Ze (Ze (Ze (Zi (.bool false) (Zd (.bool false) (Ze (Ze (Ze (Ze (Zi (.bool false) (Zd (.bool false) (Ze (Ze (Ze (Ze (Zi (.bool false) (Zb (.bool false) (Za (Zc (Zq (Za4 (Zz (Zr ?_)))))))))))))))))))))))))
  rw [show decide (Zbz e) = false from decide_eq_false (fun q => by rcases q with ⟨q1, q2, q3, q4, q5, q6, q7, q8⟩ | ⟨q1, q2, q3, q4, q5, q6⟩ | ⟨q1, q2, q3, q4, q5, q6⟩ <;> first | omega | (exact absurd ((Zb4 _ _).2 q4) (by rw [‹Zfm _ _ = false›]; decide)) | (simp [*] at *; done) | (simp_all; done))]
  exact Zk (v := .bool false) rfl rfl rfl (by kernel_rfl) rfl
  refine Zo ((Zbl (G := G) e.seq 1 1000000).res (congrArg Value.bool (Z8 (by omega)))) (vals := [Iv e.seq, Iv 1, Iv 1000000]) (res' := .bool false) rfl rfl rfl rfl rfl rfl ?_
  refine Zi (.bool false) (Zd (.bool false) (Ze (Ze (Ze (Ze (Zi (.bool false) (Zd (.bool false) (Ze (Ze (Ze (Ze (Zi (.bool false) (Zd (.bool false) (Ze (Ze (Ze (Ze (Zi (.bool false) (Zb (.bool false) (Za (Zc (Zq (Za4 (Zz (Zr ?_)))))))))))))))))))))))))
  rw [show decide (Zbz e) = false from decide_eq_false (fun q => by rcases q with ⟨q1, q2, q3, q4, q5, q6, q7, q8⟩ | ⟨q1, q2, q3, q4, q5, q6⟩ | ⟨q1, q2, q3, q4, q5, q6⟩ <;> first | omega | (exact absurd ((Zb4 _ _).2 q4) (by rw [‹Zfm _ _ = false›]; decide)) | (simp [*] at *; done) | (simp_all; done))]
  exact Zk (v := .bool false) rfl rfl rfl (by kernel_rfl) rfl
  refine Zo ((Zbl (G := G) e.client 1 3).res (congrArg Value.bool (Z8 (by omega)))) (vals := [Iv e.client, Iv 1, Iv 3]) (res' := .bool false) rfl rfl rfl rfl rfl rfl ?_
  refine Zd (.bool false) (Ze (Ze (Ze (Zi (.bool false) (Zd (.bool false) (Ze (Ze (Ze (Ze (Zi (.bool false) (Zd (.bool false) (Ze (Ze (Ze (Ze (Zi (.bool false) (Zd (.bool false) (Ze (Ze (Ze (Ze (Zi (.bool false) ?_))))))))))))))))))))))
  refine Zb (.bool false) (Za (Zc (Zq (Za4 (Zz (Zr ?_))))))
  rw [show decide (Zbz e) = false from decide_eq_false (fun q => by rcases q with ⟨q1, q2, q3, q4, q5, q6, q7, q8⟩ | ⟨q1, q2, q3, q4, q5, q6⟩ | ⟨q1, q2, q3, q4, q5, q6⟩ <;> first | omega | (exact absurd ((Zb4 _ _).2 q4) (by rw [‹Zfm _ _ = false›]; decide)) | (simp [*] at *; done) | (simp_all; done))]
  exact Zk (v := .bool false) rfl rfl rfl (by kernel_rfl) rfl
  refine Zo ((Zbl (G := G) e.client 1 3).res (congrArg Value.bool (Z8 (by omega)))) (vals := [Iv e.client, Iv 1, Iv 3]) (res' := .bool false) rfl rfl rfl rfl rfl rfl ?_
  refine Zd (.bool false) (Ze (Ze (Ze (Zi (.bool false) (Zd (.bool false) (Ze (Ze (Ze (Ze (Zi (.bool false) (Zd (.bool false) (Ze (Ze (Ze (Ze (Zi (.bool false) (Zd (.bool false) (Ze (Ze (Ze (Ze (Zi (.bool false) ?_))))))))))))))))))))))
  refine Zb (.bool false) (Za (Zc (Zq (Za4 (Zz (Zr ?_))))))
  rw [show decide (Zbz e) = false from decide_eq_false (fun q => by rcases q with ⟨q1, q2, q3, q4, q5, q6, q7, q8⟩ | ⟨q1, q2, q3, q4, q5, q6⟩ | ⟨q1, q2, q3, q4, q5, q6⟩ <;> first | omega | (exact absurd ((Zb4 _ _).2 q4) (by rw [‹Zfm _ _ = false›]; decide)) | (simp [*] at *; done) | (simp_all; done))]
  exact Zk (v := .bool false) rfl rfl rfl (by kernel_rfl) rfl
  refine Zl (vx := Iv e.kind) (vy := Iv 1) rfl rfl (.bool false) rfl rfl (Zer (by omega)) ?_
  refine Zb (.bool false) (Za (Zc (Zu rfl (Zf (Zg ?_)))))
  by_cases h9 : e.kind = 2
  refine Zl (vx := Iv e.kind) (vy := Iv 2) rfl rfl (.bool true) rfl rfl (Zdn (by omega)) ?_
  refine Zb (.bool true) (Za (Zc (Zx rfl (Zf (Zg (Zh (b := 0) (o := 0) (n := 1) (o' := 1) (Zp (p := pt 0 1) (v := Iv e.client) ?_)))))))
  by_cases h10 : e.client = 0
  refine Zl (vx := Iv e.client) (vy := Iv 0) rfl rfl (.bool true) rfl rfl (Zdn (by omega)) ?_
  refine Zd (.bool true) (Zh (b := 0) (o := 0) (n := 2) (o' := 2) (Zp (p := pt 0 2) (v := Iv e.seq) ?_))
  by_cases h11 : e.seq = 0
  refine Zl (vx := Iv e.seq) (vy := Iv 0) rfl rfl (.bool true) rfl rfl (Zdn (by omega)) ?_
  refine Zi (.bool true) (Zd (.bool true) (Zh (b := 0) (o := 0) (n := 3) (o' := 3) (Zp (p := pt 0 3) (v := .string e.text) ?_)))
  rcases Bool.eq_false_or_eq_true (Zfm e.text ⟨#[]⟩) with h12 | h12
  · have hzh12 := Zo6 h12
    refine Zl (vx := .string e.text) (vy := .string ⟨#[]⟩) rfl rfl (.bool true) rfl rfl (Eq.trans (Zp7 _ _) (by rw [h12] <;> rfl)) ?_
    refine Zi (.bool true) (Zd (.bool true) (Zh (b := 0) (o := 0) (n := 4) (o' := 4) (Zp (p := pt 0 4) (v := Zy e.head) ?_)))
    refine Zo (Zsy (G := G) e.head) (vals := [Zy e.head]) (res' := .bool (decide (Zf4 e.head))) rfl rfl rfl rfl rfl rfl ?_
    refine Zi (.bool (decide (Zf4 e.head))) (Zd (.bool (decide (Zf4 e.head))) ?_)
    rcases Bool.eq_false_or_eq_true (decide (Zf4 e.head)) with h13 | h13
    refine Za2 (b := 0) (o := 0) (n := 73) (o' := 73) (by exact congrArg (fun b => some (b == true)) h13) rfl rfl rfl rfl ?_
    refine Zad (p := pt 0 73) (v := Zcb e.claim) (by exact congrArg (fun b => some (b == true)) h13) rfl rfl (by kernel_rfl) ?_
    refine Za5 (vs := []) (v := Zcb (⟨0, 0, 0, 0, dz⟩ : Claim)) (by exact congrArg (fun b => some (b == true)) h13) rfl rfl (by kernel_rfl) ?_
    rcases Bool.eq_false_or_eq_true (Zf1 e.claim (⟨0, 0, 0, 0, dz⟩ : Claim)) with h14 | h14
    refine Zl (vx := Zcb e.claim) (vy := Zcb (⟨0, 0, 0, 0, dz⟩ : Claim)) (by exact congrArg (fun b => some (b == true)) h13) rfl (.bool true) rfl rfl (Eq.trans (Zlt e.claim (⟨0, 0, 0, 0, dz⟩ : Claim)) (by rw [h14] <;> rfl)) ?_
    refine Zf3 rfl rfl (.bool true) (by show some (if _ then _ else _) = _; rw [h13] <;> rfl) ?_
    refine Zb (.bool true) (Za (Zc (Zq (Za4 (Zz (Zr ?_))))))
    rw [show decide (Zbz e) = true from decide_eq_true (by first | exact .inl ⟨by omega, by omega, by omega, by omega, by omega, by omega, by assumption, by assumption⟩ | exact .inr (.inl ⟨by omega, by omega, by omega, (Zb4 _ _).1 (by assumption), of_decide_eq_true (by assumption), by assumption⟩) | exact .inr (.inr ⟨by omega, by omega, by omega, (Zb4 _ _).1 (by assumption), by assumption, of_decide_eq_true (by assumption)⟩))]
    exact Zk (v := .bool true) rfl rfl rfl (by kernel_rfl) rfl
    refine Zl (vx := Zcb e.claim) (vy := Zcb (⟨0, 0, 0, 0, dz⟩ : Claim)) (by exact congrArg (fun b => some (b == true)) h13) rfl (.bool false) rfl rfl (Eq.trans (Zlt e.claim (⟨0, 0, 0, 0, dz⟩ : Claim)) (by rw [h14] <;> rfl)) ?_
    refine Zf3 rfl rfl (.bool false) (by show some (if _ then _ else _) = _; rw [h13] <;> rfl) ?_
    refine Zb (.bool false) (Za (Zc (Zq (Za4 (Zz (Zr ?_))))))
    rw [show decide (Zbz e) = false from decide_eq_false (fun q => by rcases q with ⟨q1, q2, q3, q4, q5, q6, q7, q8⟩ | ⟨q1, q2, q3, q4, q5, q6⟩ | ⟨q1, q2, q3, q4, q5, q6⟩ <;> first | omega | (exact absurd ((Zb4 _ _).2 q4) (by rw [‹Zfm _ _ = false›]; decide)) | (simp [*] at *; done) | (simp_all; done))]
    exact Zk (v := .bool false) rfl rfl rfl (by kernel_rfl) rfl
    refine Zhs (by exact congrArg (fun b => some (b == true)) h13) rfl ?_
    refine Zhs (by exact congrArg (fun b => some (b == true)) h13) rfl ?_
    refine Zhs (by exact congrArg (fun b => some (b == true)) h13) rfl ?_
    refine Zhs (by exact congrArg (fun b => some (b == true)) h13) rfl ?_
    refine Zf3 rfl rfl (.bool false) (by show some (if _ then _ else _) = _; rw [h13] <;> rfl) ?_
    refine Zb (.bool false) (Za (Zc (Zq (Za4 (Zz (Zr ?_))))))
    rw [show decide (Zbz e) = false from decide_eq_false (fun q => by rcases q with ⟨q1, q2, q3, q4, q5, q6, q7, q8⟩ | ⟨q1, q2, q3, q4, q5, q6⟩ | ⟨q1, q2, q3, q4, q5, q6⟩ <;> first | omega | (exact absurd ((Zb4 _ _).2 q4) (by rw [‹Zfm _ _ = false›]; decide)) | (simp [*] at *; done) | (simp_all; done))]
    exact Zk (v := .bool false) rfl rfl rfl (by kernel_rfl) rfl
  have hzh12 := Zo7 h12
  refine Zl (vx := .string e.text) (vy := .string ⟨#[]⟩) rfl rfl (.bool false) rfl rfl (Eq.trans (Zp7 _ _) (by rw [h12] <;> rfl)) ?_
  refine Zi (.bool false) (Zd (.bool false) (Ze (Ze (Ze (Zi (.bool false) (Zd (.bool false) (Ze (Ze (Ze (Ze (Zi (.bool false) (Zb (.bool false) (Za (Zc (Zq (Za4 (Zz (Zr ?_))))))))))))))))))
  rw [show decide (Zbz e) = false from decide_eq_false (fun q => by rcases q with ⟨q1, q2, q3, q4, q5, q6, q7, q8⟩ | ⟨q1, q2, q3, q4, q5, q6⟩ | ⟨q1, q2, q3, q4, q5, q6⟩ <;> first | omega | (exact absurd ((Zb4 _ _).2 q4) (by rw [‹Zfm _ _ = false›]; decide)) | (simp [*] at *; done) | (simp_all; done))]
  exact Zk (v := .bool false) rfl rfl rfl (by kernel_rfl) rfl
  refine Zl (vx := Iv e.seq) (vy := Iv 0) rfl rfl (.bool false) rfl rfl (Zer (by omega)) ?_
  refine Zi (.bool false) (Zd (.bool false) (Ze (Ze (Ze (Zi (.bool false) (Zd (.bool false) (Ze (Ze (Ze (Zi (.bool false) (Zd (.bool false) (Ze (Ze (Ze (Ze (Zi (.bool false) (Zb (.bool false) (Za (Zc (Zq (Za4 (Zz (Zr ?_)))))))))))))))))))))))
  rw [show decide (Zbz e) = false from decide_eq_false (fun q => by rcases q with ⟨q1, q2, q3, q4, q5, q6, q7, q8⟩ | ⟨q1, q2, q3, q4, q5, q6⟩ | ⟨q1, q2, q3, q4, q5, q6⟩ <;> first | omega | (exact absurd ((Zb4 _ _).2 q4) (by rw [‹Zfm _ _ = false›]; decide)) | (simp [*] at *; done) | (simp_all; done))]
  exact Zk (v := .bool false) rfl rfl rfl (by kernel_rfl) rfl
  refine Zl (vx := Iv e.client) (vy := Iv 0) rfl rfl (.bool false) rfl rfl (Zer (by omega)) ?_
  refine Zd (.bool false) (Ze (Ze (Ze (Zi (.bool false) (Zd (.bool false) (Ze (Ze (Ze (Zi (.bool false) (Zd (.bool false) (Ze (Ze (Ze (Zi (.bool false) (Zd (.bool false) (Ze (Ze (Ze (Ze (Zi (.bool false) ?_))))))))))))))))))))
  refine Zb (.bool false) (Za (Zc (Zq (Za4 (Zz (Zr ?_))))))
  rw [show decide (Zbz e) = false from decide_eq_false (fun q => by rcases q with ⟨q1, q2, q3, q4, q5, q6, q7, q8⟩ | ⟨q1, q2, q3, q4, q5, q6⟩ | ⟨q1, q2, q3, q4, q5, q6⟩ <;> first | omega | (exact absurd ((Zb4 _ _).2 q4) (by rw [‹Zfm _ _ = false›]; decide)) | (simp [*] at *; done) | (simp_all; done))]
  exact Zk (v := .bool false) rfl rfl rfl (by kernel_rfl) rfl
  refine Zl (vx := Iv e.kind) (vy := Iv 2) rfl rfl (.bool false) rfl rfl (Zer (by omega)) ?_
  refine Zb (.bool false) (Za (Zc (Zu rfl (Zf (Zg ?_)))))
  by_cases h15 : e.kind = 3
  refine Zl (vx := Iv e.kind) (vy := Iv 3) rfl rfl (.bool true) rfl rfl (Zdn (by omega)) ?_
  refine Zb (.bool true) (Za (Zc (Zx rfl (Zf (Zg (Zh (b := 0) (o := 0) (n := 1) (o' := 1) (Zp (p := pt 0 1) (v := Iv e.client) ?_)))))))
  by_cases h16 : e.client = 0
  refine Zl (vx := Iv e.client) (vy := Iv 0) rfl rfl (.bool true) rfl rfl (Zdn (by omega)) ?_
  refine Zd (.bool true) (Zh (b := 0) (o := 0) (n := 2) (o' := 2) (Zp (p := pt 0 2) (v := Iv e.seq) ?_))
  by_cases h17 : e.seq = 0
  refine Zl (vx := Iv e.seq) (vy := Iv 0) rfl rfl (.bool true) rfl rfl (Zdn (by omega)) ?_
  refine Zi (.bool true) (Zd (.bool true) (Zh (b := 0) (o := 0) (n := 3) (o' := 3) (Zp (p := pt 0 3) (v := .string e.text) ?_)))
  rcases Bool.eq_false_or_eq_true (Zfm e.text ⟨#[]⟩) with h18 | h18
  · have hzh18 := Zo6 h18
    refine Zl (vx := .string e.text) (vy := .string ⟨#[]⟩) rfl rfl (.bool true) rfl rfl (Eq.trans (Zp7 _ _) (by rw [h18] <;> rfl)) ?_
    refine Zi (.bool true) (Zd (.bool true) (Zh (b := 0) (o := 0) (n := 4) (o' := 4) (Zp (p := pt 0 4) (v := Zy e.head) ?_)))
    refine Za5 (vs := []) (v := Zy (⟨(⟨0, 0, 0, dz, 0⟩ : Head), 0, dz⟩ : Signed)) rfl rfl rfl (by kernel_rfl) ?_
    rcases Bool.eq_false_or_eq_true (Zex e.head (⟨(⟨0, 0, 0, dz, 0⟩ : Head), 0, dz⟩ : Signed)) with h19 | h19
    refine Zl (vx := Zy e.head) (vy := Zy (⟨(⟨0, 0, 0, dz, 0⟩ : Head), 0, dz⟩ : Signed)) rfl rfl (.bool true) rfl rfl (Eq.trans (Zg2 e.head (⟨(⟨0, 0, 0, dz, 0⟩ : Head), 0, dz⟩ : Signed)) (by rw [h19] <;> rfl)) ?_
    refine Zi (.bool true) (Zd (.bool true) (Zh (b := 0) (o := 0) (n := 73) (o' := 73) (Zp (p := pt 0 73) (v := Zcb e.claim) ?_)))
    refine Zo (Zuh (G := G) e.claim) (vals := [Zcb e.claim]) (res' := .bool (decide (Zb0 e.claim))) rfl rfl rfl rfl rfl rfl ?_
    refine Zi (.bool (decide (Zb0 e.claim))) (Zb (.bool (decide (Zb0 e.claim))) (Za (Zc (Zq (Za4 (Zz (Zr ?_)))))))
    rw [show decide (Zbz e) = decide (Zb0 e.claim) from decide_eq_decide.2 ⟨fun q => by rcases q with q | q | q <;> first | omega | exact q.2.2.2.2.2, fun q => .inr (.inr ⟨by omega, by omega, by omega, (Zb4 _ _).1 (by assumption), by assumption, q⟩)⟩]
    exact Zk (v := .bool (decide (Zb0 e.claim))) rfl rfl rfl (by kernel_rfl) rfl
    refine Zl (vx := Zy e.head) (vy := Zy (⟨(⟨0, 0, 0, dz, 0⟩ : Head), 0, dz⟩ : Signed)) rfl rfl (.bool false) rfl rfl (Eq.trans (Zg2 e.head (⟨(⟨0, 0, 0, dz, 0⟩ : Head), 0, dz⟩ : Signed)) (by rw [h19] <;> rfl)) ?_
    refine Zi (.bool false) (Zd (.bool false) (Ze (Ze (Ze (Zi (.bool false) (Zb (.bool false) (Za (Zc (Zq (Za4 (Zz (Zr ?_))))))))))))
    rw [show decide (Zbz e) = false from decide_eq_false (fun q => by rcases q with ⟨q1, q2, q3, q4, q5, q6, q7, q8⟩ | ⟨q1, q2, q3, q4, q5, q6⟩ | ⟨q1, q2, q3, q4, q5, q6⟩ <;> first | omega | (exact absurd ((Zb4 _ _).2 q4) (by rw [‹Zfm _ _ = false›]; decide)) | (simp [*] at *; done) | (simp_all; done))]
    exact Zk (v := .bool false) rfl rfl rfl (by kernel_rfl) rfl
  have hzh18 := Zo7 h18
  refine Zl (vx := .string e.text) (vy := .string ⟨#[]⟩) rfl rfl (.bool false) rfl rfl (Eq.trans (Zp7 _ _) (by rw [h18] <;> rfl)) ?_
  refine Zi (.bool false) (Zd (.bool false) (Ze (Ze (Ze (Ze (Zi (.bool false) (Zd (.bool false) (Ze (Ze (Ze (Zi (.bool false) (Zb (.bool false) (Za (Zc (Zq (Za4 (Zz (Zr ?_))))))))))))))))))
  rw [show decide (Zbz e) = false from decide_eq_false (fun q => by rcases q with ⟨q1, q2, q3, q4, q5, q6, q7, q8⟩ | ⟨q1, q2, q3, q4, q5, q6⟩ | ⟨q1, q2, q3, q4, q5, q6⟩ <;> first | omega | (exact absurd ((Zb4 _ _).2 q4) (by rw [‹Zfm _ _ = false›]; decide)) | (simp [*] at *; done) | (simp_all; done))]
  exact Zk (v := .bool false) rfl rfl rfl (by kernel_rfl) rfl
  refine Zl (vx := Iv e.seq) (vy := Iv 0) rfl rfl (.bool false) rfl rfl (Zer (by omega)) ?_
  refine Zi (.bool false) (Zd (.bool false) (Ze (Ze (Ze (Zi (.bool false) (Zd (.bool false) (Ze (Ze (Ze (Ze (Zi (.bool false) (Zd (.bool false) (Ze (Ze (Ze (Zi (.bool false) (Zb (.bool false) (Za (Zc (Zq (Za4 (Zz (Zr ?_)))))))))))))))))))))))
  rw [show decide (Zbz e) = false from decide_eq_false (fun q => by rcases q with ⟨q1, q2, q3, q4, q5, q6, q7, q8⟩ | ⟨q1, q2, q3, q4, q5, q6⟩ | ⟨q1, q2, q3, q4, q5, q6⟩ <;> first | omega | (exact absurd ((Zb4 _ _).2 q4) (by rw [‹Zfm _ _ = false›]; decide)) | (simp [*] at *; done) | (simp_all; done))]
  exact Zk (v := .bool false) rfl rfl rfl (by kernel_rfl) rfl
  refine Zl (vx := Iv e.client) (vy := Iv 0) rfl rfl (.bool false) rfl rfl (Zer (by omega)) ?_
  refine Zd (.bool false) (Ze (Ze (Ze (Zi (.bool false) (Zd (.bool false) (Ze (Ze (Ze (Zi (.bool false) (Zd (.bool false) (Ze (Ze (Ze (Ze (Zi (.bool false) (Zd (.bool false) (Ze (Ze (Ze (Zi (.bool false) ?_))))))))))))))))))))
  refine Zb (.bool false) (Za (Zc (Zq (Za4 (Zz (Zr ?_))))))
  rw [show decide (Zbz e) = false from decide_eq_false (fun q => by rcases q with ⟨q1, q2, q3, q4, q5, q6, q7, q8⟩ | ⟨q1, q2, q3, q4, q5, q6⟩ | ⟨q1, q2, q3, q4, q5, q6⟩ <;> first | omega | (exact absurd ((Zb4 _ _).2 q4) (by rw [‹Zfm _ _ = false›]; decide)) | (simp [*] at *; done) | (simp_all; done))]
  exact Zk (v := .bool false) rfl rfl rfl (by kernel_rfl) rfl
  refine Zl (vx := Iv e.kind) (vy := Iv 3) rfl rfl (.bool false) rfl rfl (Zer (by omega)) ?_
  refine Zb (.bool false) (Za (Zc (Zu rfl (Z0 (Z4 (Zc (Zf (Zg (Zb (.bool false) (Za (Zc (Zq (Zr ?_)))))))))))))
  rw [show decide (Zbz e) = false from decide_eq_false (fun q => by rcases q with ⟨q1, q2, q3, q4, q5, q6, q7, q8⟩ | ⟨q1, q2, q3, q4, q5, q6⟩ | ⟨q1, q2, q3, q4, q5, q6⟩ <;> first | omega | (exact absurd ((Zb4 _ _).2 q4) (by rw [‹Zfm _ _ = false›]; decide)) | (simp [*] at *; done) | (simp_all; done))]
  exact Zk (v := .bool false) rfl rfl rfl (by kernel_rfl) rfl
theorem Zto (x : Item) : Z6 Tryz.prog G 50 [Za9 x] [] (.bool (decide (Zcw x))) [] := by
  refine Za8 (fn := Tryz.f50) (nt := 11) rfl rfl rfl rfl ?_
  refine Zaa 1 (H' := [hole]) rfl ?_
  refine Zf (Zg (Zbq (v := Za9 x) (b := bxB 110 (Zs x)) (nid := 0) (H' := [bxB 110 (Zs x)]) (Zb (.bool false) (Za (Zc (Zf (Zg (Zh (b := 0) (o := 0) (n := 0) (o' := 0) (Zp (p := pt 0 0) (v := Iv x.epoch) ?_)))))))))
  by_cases h1 : 1 ≤ x.epoch
  by_cases h2 : x.epoch ≤ 900000000
  refine Zo ((Zbl (G := G) x.epoch 1 900000000).res (congrArg Value.bool (Zbc (by omega) (by omega)))) (vals := [Iv x.epoch, Iv 1, Iv 900000000]) (res' := .bool true) rfl rfl rfl rfl rfl rfl ?_
  refine Zd (.bool true) (Zh (b := 0) (o := 0) (n := 1) (o' := 1) (Zp (p := pt 0 1) (v := Zdf x.entry) ?_))
  refine Zo (Zt1 (G := G) x.entry) (vals := [Zdf x.entry]) (res' := .bool (decide (Zbz x.entry))) rfl rfl rfl rfl rfl rfl ?_
  refine Zi (.bool (decide (Zbz x.entry))) (Zb (.bool (decide (Zbz x.entry))) (Za (Zc (Zq (Zr ?_)))))
  rw [show decide (Zcw x) = decide (Zbz x.entry) from decide_eq_decide.2 ⟨fun q => q.2.2, fun q => ⟨by omega, by omega, q⟩⟩]
  exact Zk (v := .bool (decide (Zbz x.entry))) rfl rfl rfl (by kernel_rfl) rfl
  refine Zo ((Zbl (G := G) x.epoch 1 900000000).res (congrArg Value.bool (Z8 (by omega)))) (vals := [Iv x.epoch, Iv 1, Iv 900000000]) (res' := .bool false) rfl rfl rfl rfl rfl rfl ?_
  refine Zd (.bool false) (Ze (Ze (Ze (Zi (.bool false) (Zb (.bool false) (Za (Zc (Zq (Zr ?_)))))))))
  rw [show decide (Zcw x) = false from decide_eq_false (fun q => by first | (have := q.1; have := q.2.1; omega) | (exact absurd q.2.2 (of_decide_eq_false (by assumption))))]
  exact Zk (v := .bool false) rfl rfl rfl (by kernel_rfl) rfl
  refine Zo ((Zbl (G := G) x.epoch 1 900000000).res (congrArg Value.bool (Z8 (by omega)))) (vals := [Iv x.epoch, Iv 1, Iv 900000000]) (res' := .bool false) rfl rfl rfl rfl rfl rfl ?_
  refine Zd (.bool false) (Ze (Ze (Ze (Zi (.bool false) (Zb (.bool false) (Za (Zc (Zq (Zr ?_)))))))))
  rw [show decide (Zcw x) = false from decide_eq_false (fun q => by first | (have := q.1; have := q.2.1; omega) | (exact absurd q.2.2 (of_decide_eq_false (by assumption))))]
  exact Zk (v := .bool false) rfl rfl rfl (by kernel_rfl) rfl
end Go.Flat
