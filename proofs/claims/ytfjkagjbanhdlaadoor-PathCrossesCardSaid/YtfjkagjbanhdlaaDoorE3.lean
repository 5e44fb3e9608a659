/- Walks. -/
import Derived.Test.YtfjkagjbanhdlaaDoorE1
set_option linter.unusedVariables false
set_option linter.unusedSimpArgs false
set_option maxRecDepth 20000
namespace Go.Flat
open Go.Proofs
variable {G : Glob}
theorem Zls (n : Nat) (a b : D) : Zcc n a b = Zcc n b a := by
  cases h : Zcc n a b with
  | true => rw [Zkl] at h; exact (Zkl.2 h.symm).symm
  | false =>
    cases h' : Zcc n b a with
    | true => rw [Zkl] at h'; rw [Zkl.2 h'.symm] at h; cases h
    | false => rfl
theorem Zti (a b : Head) : Zij a b = Zij b a := by
 unfold Zij; rw [BEq.comm (a := a.region), BEq.comm (a := a.epoch), BEq.comm (a := a.size), BEq.comm (a := a.tick), Zls]
theorem Zqe (a b : Signed) : Zd4 a b = Zd4 b a := by
 unfold Zd4; rw [Zti, BEq.comm (a := a.node), Zls]
theorem Zrt (a b : Claim) : Zgr a b = Zgr b a := by
 unfold Zgr; rw [BEq.comm (a := a.region), BEq.comm (a := a.epoch), BEq.comm (a := a.node), BEq.comm (a := a.size), Zls]
def Zfb (e : Entry) : Prop :=
  (e.kind = 1 ∧ 1 ≤ e.client ∧ e.client ≤ 3 ∧ 1 ≤ e.seq ∧ e.seq ≤ 1000000 ∧ e.text.size ≤ 200 ∧ Zd4 e.head ⟨⟨0, 0, 0, dz, 0⟩, 0, dz⟩ = true ∧ Zgr e.claim ⟨0, 0, 0, 0, dz⟩ = true) ∨
  (e.kind = 2 ∧ e.client = 0 ∧ e.seq = 0 ∧ e.text = ⟨#[]⟩ ∧ Zi8 e.head ∧ Zgr e.claim ⟨0, 0, 0, 0, dz⟩ = true) ∨
  (e.kind = 3 ∧ e.client = 0 ∧ e.seq = 0 ∧ e.text = ⟨#[]⟩ ∧ Zd4 e.head ⟨⟨0, 0, 0, dz, 0⟩, 0, dz⟩ = true ∧ Ze1 e.claim)
instance (e : Entry) : Decidable (Zfb e) := inferInstanceAs (Decidable (_ ∨ _))
def Ze3 (e : Entry) : Int := if Zfb e then 0 else 60
theorem Ztm {e : Entry} (h : Ze3 e = 0) : Zfb e := by
 unfold Ze3 at h
 split at h
 ·assumption
 ·omega
theorem Zke {e : Entry} (h : ¬ Ze3 e = 0) : ¬ Zfb e := fun q => h (if_pos q)
def Zc9 (x : Item) : Prop := 1 ≤ x.epoch ∧ x.epoch ≤ 900000000 ∧ Zfb x.entry
instance (x : Item) : Decidable (Zc9 x) := inferInstanceAs (Decidable (_ ∧ _))
theorem Ztx {h : Head} : Za4 h = 0 ↔ Zfl h := by
 rw [Zft]; split <;> simp [*]
theorem Zb4 (e : Entry) : Zfb e ↔ (
 (e.kind = 1 ∧ 1 ≤ e.client ∧ e.client ≤ 3 ∧ 1 ≤ e.seq ∧ e.seq ≤ 1000000 ∧ e.text.size ≤ 200 ∧ Zcw ⟨e.kind, e.client, e.seq, e.text, ⟨⟨0, 0, 0, dz, 0⟩, 0, dz⟩, ⟨0, 0, 0, 0, dz⟩⟩ e = true) ∨
 (e.kind = 2 ∧ Za4 e.head.head = 0 ∧ 1 ≤ e.head.node ∧ e.head.node ≤ 3 ∧ Zcw ⟨e.kind, 0, 0, ⟨#[]⟩, e.head, ⟨0, 0, 0, 0, dz⟩⟩ e = true) ∨
 (e.kind = 3 ∧ Ze8 e.claim = 0 ∧ Zcw ⟨e.kind, 0, 0, ⟨#[]⟩, ⟨⟨0, 0, 0, dz, 0⟩, 0, dz⟩, e.claim⟩ e = true)) := by
 have hc : Ze8 e.claim = 0 ↔ Ze1 e.claim := by unfold Ze8; split <;> simp [*]
 have hz : (⟨#[]⟩ : ByteArray) = e.text ↔ e.text = ⟨#[]⟩ := eq_comm
 have h1 : (0 : Int) = e.client ↔ e.client = 0 := eq_comm
 have h2 : (0 : Int) = e.seq ↔ e.seq = 0 := eq_comm
 have h3 : (1 : Int) = e.kind ↔ e.kind = 1 := eq_comm
 have h4 : (2 : Int) = e.kind ↔ e.kind = 2 := eq_comm
 have h5 : (3 : Int) = e.kind ↔ e.kind = 3 := eq_comm
 simp only [Zfb, Zcw, hc, Ztx, Zi8, Zgs, Zjk, BEq.rfl, Bool.true_and, Bool.and_true, Bool.and_eq_true, beq_iff_eq, Zqe ⟨⟨0, 0, 0, dz, 0⟩, 0, dz⟩, Zrt ⟨0, 0, 0, 0, dz⟩, hz, h1, h2, h3, h4, h5, and_assoc, and_left_comm, and_comm]
theorem Znu (e : Entry) : Zaf Tryd.prog G 49 [Zb0 e] [] (Iv (Ze3 e)) [] := by
  refine Zbj (fn := Tryd.f49) (nt := 67) rfl rfl rfl rfl ?_
  refine Zai 2 (H' := [hole, hole]) rfl ?_
  refine Zg (Zj ?_)
  refine Zcj (v := Zb0 e) (b := bxB 109 (Zb2 e)) (nid := 0) (H' := [bxB 109 (Zb2 e), hole]) rfl rfl rfl (by kernel_rfl) (by kernel_rfl) ?_
  refine Zd rfl rfl (Iv 0) rfl (Zb (Zc (Zg (Zj ?_))))
  refine Zn (b := 0) (o := 0) (n := 0) (o' := 0) rfl rfl rfl rfl rfl ?_
  refine Zp (p := pt 0 0) (v := Iv e.kind) rfl rfl rfl (by kernel_rfl) ?_
  refine Za1 (vs := [(0, Iv e.kind)]) (v := Zb0 (⟨e.kind, 0, 0, ⟨#[]⟩, (⟨(⟨0, 0, 0, dz, 0⟩ : Head), 0, dz⟩ : Signed), (⟨0, 0, 0, 0, dz⟩ : Claim)⟩ : Entry)) rfl rfl rfl (by kernel_rfl) ?_
  refine Z2 (b := bxB 109 (Zb2 (⟨0, 0, 0, ⟨#[]⟩, (⟨(⟨0, 0, 0, dz, 0⟩ : Head), 0, dz⟩ : Signed), (⟨0, 0, 0, 0, dz⟩ : Claim)⟩ : Entry))) (nid := 1) (H' := [bxB 109 (Zb2 e), bxB 109 (Zb2 (⟨0, 0, 0, ⟨#[]⟩, (⟨(⟨0, 0, 0, dz, 0⟩ : Head), 0, dz⟩ : Signed), (⟨0, 0, 0, 0, dz⟩ : Claim)⟩ : Entry))]) rfl rfl (by kernel_rfl) (by kernel_rfl) ?_
  refine Zw (p := pt 1 0) (v := Zb0 (⟨e.kind, 0, 0, ⟨#[]⟩, (⟨(⟨0, 0, 0, dz, 0⟩ : Head), 0, dz⟩ : Signed), (⟨0, 0, 0, 0, dz⟩ : Claim)⟩ : Entry)) (b := 1) (blk := bxB 109 (Zb2 (⟨e.kind, 0, 0, ⟨#[]⟩, (⟨(⟨0, 0, 0, dz, 0⟩ : Head), 0, dz⟩ : Signed), (⟨0, 0, 0, 0, dz⟩ : Claim)⟩ : Entry))) (H' := [bxB 109 (Zb2 e), bxB 109 (Zb2 (⟨e.kind, 0, 0, ⟨#[]⟩, (⟨(⟨0, 0, 0, dz, 0⟩ : Head), 0, dz⟩ : Signed), (⟨0, 0, 0, 0, dz⟩ : Claim)⟩ : Entry))]) rfl rfl rfl (by kernel_rfl) (by kernel_rfl) ?_
  refine Zb (Zc (Zg (Zj (Zd rfl rfl (.bool false) rfl (Zb (Zc (Zg (Zg (Zj ?_)))))))))
  refine Zn (b := 0) (o := 0) (n := 0) (o' := 0) rfl rfl rfl rfl rfl ?_
  refine Zp (p := pt 0 0) (v := Iv e.kind) rfl rfl rfl (by kernel_rfl) ?_
  refine Zb (Zc (Z7 (Zg (Zj ?_))))
  by_cases h1 : e.kind = 1
  refine Zo (vx := Iv e.kind) (vy := Iv 1) rfl rfl (.bool true) rfl rfl (Zdd (by omega)) ?_
  refine Zd rfl rfl (.bool true) rfl (Zb (Zc (Z0 rfl (Zg ?_))))
  refine Zd9 (by kernel_rfl) ?_
  refine Zn (b := 0) (o := 0) (n := 1) (o' := 1) rfl rfl rfl rfl rfl ?_
  refine Zp (p := pt 0 1) (v := Iv e.client) rfl rfl rfl (by kernel_rfl) ?_
  refine Zn (b := 0) (o := 0) (n := 2) (o' := 2) rfl rfl rfl rfl rfl ?_
  refine Zp (p := pt 0 2) (v := Iv e.seq) rfl rfl rfl (by kernel_rfl) ?_
  refine Zn (b := 0) (o := 0) (n := 3) (o' := 3) rfl rfl rfl rfl rfl ?_
  refine Zp (p := pt 0 3) (v := .string e.text) rfl rfl rfl (by kernel_rfl) ?_
  refine Zn (b := 1) (o := 0) (n := 1) (o' := 1) rfl rfl rfl rfl rfl ?_
  refine Zw (p := pt 1 1) (v := Iv e.client) (b := 1) (blk := bxB 109 (Zb2 (⟨e.kind, e.client, 0, ⟨#[]⟩, (⟨(⟨0, 0, 0, dz, 0⟩ : Head), 0, dz⟩ : Signed), (⟨0, 0, 0, 0, dz⟩ : Claim)⟩ : Entry))) (H' := [bxB 109 (Zb2 e), bxB 109 (Zb2 (⟨e.kind, e.client, 0, ⟨#[]⟩, (⟨(⟨0, 0, 0, dz, 0⟩ : Head), 0, dz⟩ : Signed), (⟨0, 0, 0, 0, dz⟩ : Claim)⟩ : Entry))]) rfl rfl rfl (by kernel_rfl) (by kernel_rfl) ?_
  refine Zn (b := 1) (o := 0) (n := 2) (o' := 2) rfl rfl rfl rfl rfl ?_
  refine Zw (p := pt 1 2) (v := Iv e.seq) (b := 1) (blk := bxB 109 (Zb2 (⟨e.kind, e.client, e.seq, ⟨#[]⟩, (⟨(⟨0, 0, 0, dz, 0⟩ : Head), 0, dz⟩ : Signed), (⟨0, 0, 0, 0, dz⟩ : Claim)⟩ : Entry))) (H' := [bxB 109 (Zb2 e), bxB 109 (Zb2 (⟨e.kind, e.client, e.seq, ⟨#[]⟩, (⟨(⟨0, 0, 0, dz, 0⟩ : Head), 0, dz⟩ : Signed), (⟨0, 0, 0, 0, dz⟩ : Claim)⟩ : Entry))]) rfl rfl rfl (by kernel_rfl) (by kernel_rfl) ?_
  refine Zn (b := 1) (o := 0) (n := 3) (o' := 3) rfl rfl rfl rfl rfl ?_
  refine Zw (p := pt 1 3) (v := .string e.text) (b := 1) (blk := bxB 109 (Zb2 (⟨e.kind, e.client, e.seq, e.text, (⟨(⟨0, 0, 0, dz, 0⟩ : Head), 0, dz⟩ : Signed), (⟨0, 0, 0, 0, dz⟩ : Claim)⟩ : Entry))) (H' := [bxB 109 (Zb2 e), bxB 109 (Zb2 (⟨e.kind, e.client, e.seq, e.text, (⟨(⟨0, 0, 0, dz, 0⟩ : Head), 0, dz⟩ : Signed), (⟨0, 0, 0, 0, dz⟩ : Claim)⟩ : Entry))]) rfl rfl rfl (by kernel_rfl) (by kernel_rfl) ?_
  refine Zc3 (Zgl [[], [0], [], [2], [], [4], [0, 1], [0, 1, 6], [0, 1, 2, 3, 6, 7], [0, 1, 2, 3, 6, 7, 8], [0, 1, 2, 3, 4, 5, 6, 7, 8, 9], [0, 1, 2, 3, 4, 5, 6, 7, 8, 9, 10]] (by kernel_rfl) (by kernel_rfl)) ?_
  refine Zc (Zj ?_)
  refine Zn (b := 1) (o := 0) (n := 1) (o' := 1) rfl rfl rfl rfl rfl ?_
  refine Zp (p := pt 1 1) (v := Iv e.client) rfl rfl rfl (by kernel_rfl) ?_
  by_cases h2 : 1 ≤ e.client
  by_cases h3 : e.client ≤ 3
  refine Zt ((Za5 (G := G) e.client 1 3).res (congrArg Value.bool (Zb7 (by omega) (by omega)))) (vals := [Iv e.client, Iv 1, Iv 3]) (res' := .bool true) rfl rfl rfl rfl rfl rfl ?_
  refine Zf rfl rfl (.bool true) rfl ?_
  refine Zn (b := 1) (o := 0) (n := 2) (o' := 2) rfl rfl rfl rfl rfl ?_
  refine Zp (p := pt 1 2) (v := Iv e.seq) rfl rfl rfl (by kernel_rfl) ?_
  by_cases h4 : 1 ≤ e.seq
  by_cases h5 : e.seq ≤ 1000000
  refine Zt ((Za5 (G := G) e.seq 1 1000000).res (congrArg Value.bool (Zb7 (by omega) (by omega)))) (vals := [Iv e.seq, Iv 1, Iv 1000000]) (res' := .bool true) rfl rfl rfl rfl rfl rfl ?_
  refine Zm rfl rfl (.bool true) rfl (Zf rfl rfl (.bool true) rfl ?_)
  refine Zn (b := 1) (o := 0) (n := 3) (o' := 3) rfl rfl rfl rfl rfl ?_
  refine Zp (p := pt 1 3) (v := .string e.text) rfl rfl rfl (by kernel_rfl) ?_
  refine Zbl (p := .string e.text) (v := Iv (e.text.size : Nat)) rfl rfl rfl rfl ?_
  by_cases h6 : (e.text.size : Nat) ≤ 200
  refine Zo (vx := Iv (e.text.size : Nat)) (vy := Iv 200) rfl rfl (.bool true) rfl rfl (Zuv (by omega)) ?_
  refine Zm rfl rfl (.bool true) rfl (Zd rfl rfl (.bool true) rfl (Zb (Z3 (Zc (Zg (Zj (Zf rfl rfl (.bool true) rfl (Zf rfl rfl (.bool true) rfl ?_))))))))
  refine Zp (p := pt 1 0) (v := Zb0 (⟨e.kind, e.client, e.seq, e.text, (⟨(⟨0, 0, 0, dz, 0⟩ : Head), 0, dz⟩ : Signed), (⟨0, 0, 0, 0, dz⟩ : Claim)⟩ : Entry)) rfl rfl rfl (by kernel_rfl) ?_
  refine Zp (p := pt 0 0) (v := Zb0 e) rfl rfl rfl (by kernel_rfl) ?_
  rcases Bool.eq_false_or_eq_true (Zcw (⟨e.kind, e.client, e.seq, e.text, (⟨(⟨0, 0, 0, dz, 0⟩ : Head), 0, dz⟩ : Signed), (⟨0, 0, 0, 0, dz⟩ : Claim)⟩ : Entry) e) with h7 | h7
  refine Zo (vx := Zb0 (⟨e.kind, e.client, e.seq, e.text, (⟨(⟨0, 0, 0, dz, 0⟩ : Head), 0, dz⟩ : Signed), (⟨0, 0, 0, 0, dz⟩ : Claim)⟩ : Entry)) (vy := Zb0 e) rfl rfl (.bool true) rfl rfl (Eq.trans (Zhe (⟨e.kind, e.client, e.seq, e.text, (⟨(⟨0, 0, 0, dz, 0⟩ : Head), 0, dz⟩ : Signed), (⟨0, 0, 0, 0, dz⟩ : Claim)⟩ : Entry) e) (by rw [h7] <;> rfl)) ?_
  refine Zm rfl rfl (.bool true) rfl ?_
  refine Zt (Zb9 (G := G) true) (vals := [.bool true]) (res' := Iv 0) rfl rfl rfl rfl rfl rfl ?_
  refine Zd rfl rfl (Iv 0) rfl (Zb (Zc (Zx (Zy ?_))))
  rw [show Ze3 e = 0 from if_pos ((Zb4 e).2 (by first | exact .inl ⟨by omega, by omega, by omega, by omega, by omega, by omega, by assumption⟩ | exact .inr (.inl ⟨by omega, by omega, by omega, by omega, by assumption⟩) | exact .inr (.inr ⟨by omega, by omega, by assumption⟩)))]
  exact Zq (v := Iv 0) rfl rfl rfl (by kernel_rfl) rfl
  refine Zo (vx := Zb0 (⟨e.kind, e.client, e.seq, e.text, (⟨(⟨0, 0, 0, dz, 0⟩ : Head), 0, dz⟩ : Signed), (⟨0, 0, 0, 0, dz⟩ : Claim)⟩ : Entry)) (vy := Zb0 e) rfl rfl (.bool false) rfl rfl (Eq.trans (Zhe (⟨e.kind, e.client, e.seq, e.text, (⟨(⟨0, 0, 0, dz, 0⟩ : Head), 0, dz⟩ : Signed), (⟨0, 0, 0, 0, dz⟩ : Claim)⟩ : Entry) e) (by rw [h7] <;> rfl)) ?_
  refine Zm rfl rfl (.bool false) rfl ?_
  refine Zt (Zb9 (G := G) false) (vals := [.bool false]) (res' := Iv 60) rfl rfl rfl rfl rfl rfl ?_
  refine Zd rfl rfl (Iv 60) rfl (Zb (Zc (Zx (Zy ?_))))
  rw [show Ze3 e = 60 from if_neg (fun q => by rcases (Zb4 e).1 q with q | q | q <;> first | omega | (exact absurd (by first | exact q.2.2.2.2.2.2 | exact q.2.2.2.2 | exact q.2.2) (Bool.eq_false_iff.1 (by assumption))))]
  exact Zq (v := Iv 60) rfl rfl rfl (by kernel_rfl) rfl
  refine Zo (vx := Iv (e.text.size : Nat)) (vy := Iv 200) rfl rfl (.bool false) rfl rfl (Ztv (by omega)) ?_
  refine Zm rfl rfl (.bool false) rfl (Zd rfl rfl (.bool false) rfl (Zb (Z3 (Zc (Zg (Zj (Zf rfl rfl (.bool false) rfl (Zf rfl rfl (.bool false) rfl (Zi rfl rfl (Zi rfl rfl (Zi rfl rfl (Zm rfl rfl (.bool false) rfl ?_))))))))))))
  refine Zt (Zb9 (G := G) false) (vals := [.bool false]) (res' := Iv 60) rfl rfl rfl rfl rfl rfl ?_
  refine Zd rfl rfl (Iv 60) rfl (Zb (Zc (Zx (Zy ?_))))
  rw [show Ze3 e = 60 from if_neg (fun q => by rcases (Zb4 e).1 q with q | q | q <;> first | omega | (exact absurd (by first | exact q.2.2.2.2.2.2 | exact q.2.2.2.2 | exact q.2.2) (Bool.eq_false_iff.1 (by assumption))))]
  exact Zq (v := Iv 60) rfl rfl rfl (by kernel_rfl) rfl
  refine Zt ((Za5 (G := G) e.seq 1 1000000).res (congrArg Value.bool (Zan (by omega)))) (vals := [Iv e.seq, Iv 1, Iv 1000000]) (res' := .bool false) rfl rfl rfl rfl rfl rfl ?_
  refine Zm rfl rfl (.bool false) rfl (Zf rfl rfl (.bool false) rfl (Zi rfl rfl (Zi rfl rfl (Zi rfl rfl (Zi rfl rfl (Zm rfl rfl (.bool false) rfl (Zd rfl rfl (.bool false) rfl (Zb (Z3 (Zc (Zg (Zj (Zf rfl rfl (.bool false) rfl (Zf rfl rfl (.bool false) rfl (Zi rfl rfl (Zi rfl rfl (Zi rfl rfl (Zm rfl rfl (.bool false) rfl ?_))))))))))))))))))
  refine Zt (Zb9 (G := G) false) (vals := [.bool false]) (res' := Iv 60) rfl rfl rfl rfl rfl rfl ?_
  refine Zd rfl rfl (Iv 60) rfl (Zb (Zc (Zx (Zy ?_))))
  rw [show Ze3 e = 60 from if_neg (fun q => by rcases (Zb4 e).1 q with q | q | q <;> first | omega | (exact absurd (by first | exact q.2.2.2.2.2.2 | exact q.2.2.2.2 | exact q.2.2) (Bool.eq_false_iff.1 (by assumption))))]
  exact Zq (v := Iv 60) rfl rfl rfl (by kernel_rfl) rfl
  refine Zt ((Za5 (G := G) e.seq 1 1000000).res (congrArg Value.bool (Zan (by omega)))) (vals := [Iv e.seq, Iv 1, Iv 1000000]) (res' := .bool false) rfl rfl rfl rfl rfl rfl ?_
  refine Zm rfl rfl (.bool false) rfl (Zf rfl rfl (.bool false) rfl (Zi rfl rfl (Zi rfl rfl (Zi rfl rfl (Zi rfl rfl (Zm rfl rfl (.bool false) rfl (Zd rfl rfl (.bool false) rfl (Zb (Z3 (Zc (Zg (Zj (Zf rfl rfl (.bool false) rfl (Zf rfl rfl (.bool false) rfl (Zi rfl rfl (Zi rfl rfl (Zi rfl rfl (Zm rfl rfl (.bool false) rfl ?_))))))))))))))))))
  refine Zt (Zb9 (G := G) false) (vals := [.bool false]) (res' := Iv 60) rfl rfl rfl rfl rfl rfl ?_
  refine Zd rfl rfl (Iv 60) rfl (Zb (Zc (Zx (Zy ?_))))
  rw [show Ze3 e = 60 from if_neg (fun q => by rcases (Zb4 e).1 q with q | q | q <;> first | omega | (exact absurd (by first | exact q.2.2.2.2.2.2 | exact q.2.2.2.2 | exact q.2.2) (Bool.eq_false_iff.1 (by assumption))))]
  exact Zq (v := Iv 60) rfl rfl rfl (by kernel_rfl) rfl
  refine Zt ((Za5 (G := G) e.client 1 3).res (congrArg Value.bool (Zan (by omega)))) (vals := [Iv e.client, Iv 1, Iv 3]) (res' := .bool false) rfl rfl rfl rfl rfl rfl ?_
  refine Zf rfl rfl (.bool false) rfl (Zi rfl rfl (Zi rfl rfl (Zi rfl rfl (Zm rfl rfl (.bool false) rfl (Zf rfl rfl (.bool false) rfl (Zi rfl rfl (Zi rfl rfl (Zi rfl rfl (Zi rfl rfl (Zm rfl rfl (.bool false) rfl (Zd rfl rfl (.bool false) rfl (Zb (Z3 (Zc (Zg (Zj (Zf rfl rfl (.bool false) rfl (Zf rfl rfl (.bool false) rfl (Zi rfl rfl (Zi rfl rfl (Zi rfl rfl (Zm rfl rfl (.bool false) rfl ?_))))))))))))))))))))))
  refine Zt (Zb9 (G := G) false) (vals := [.bool false]) (res' := Iv 60) rfl rfl rfl rfl rfl rfl ?_
  refine Zd rfl rfl (Iv 60) rfl (Zb (Zc (Zx (Zy ?_))))
  rw [show Ze3 e = 60 from if_neg (fun q => by rcases (Zb4 e).1 q with q | q | q <;> first | omega | (exact absurd (by first | exact q.2.2.2.2.2.2 | exact q.2.2.2.2 | exact q.2.2) (Bool.eq_false_iff.1 (by assumption))))]
  exact Zq (v := Iv 60) rfl rfl rfl (by kernel_rfl) rfl
  refine Zt ((Za5 (G := G) e.client 1 3).res (congrArg Value.bool (Zan (by omega)))) (vals := [Iv e.client, Iv 1, Iv 3]) (res' := .bool false) rfl rfl rfl rfl rfl rfl ?_
  refine Zf rfl rfl (.bool false) rfl (Zi rfl rfl (Zi rfl rfl (Zi rfl rfl (Zm rfl rfl (.bool false) rfl (Zf rfl rfl (.bool false) rfl (Zi rfl rfl (Zi rfl rfl (Zi rfl rfl (Zi rfl rfl (Zm rfl rfl (.bool false) rfl (Zd rfl rfl (.bool false) rfl (Zb (Z3 (Zc (Zg (Zj (Zf rfl rfl (.bool false) rfl (Zf rfl rfl (.bool false) rfl (Zi rfl rfl (Zi rfl rfl (Zi rfl rfl (Zm rfl rfl (.bool false) rfl ?_))))))))))))))))))))))
  refine Zt (Zb9 (G := G) false) (vals := [.bool false]) (res' := Iv 60) rfl rfl rfl rfl rfl rfl ?_
  refine Zd rfl rfl (Iv 60) rfl (Zb (Zc (Zx (Zy ?_))))
  rw [show Ze3 e = 60 from if_neg (fun q => by rcases (Zb4 e).1 q with q | q | q <;> first | omega | (exact absurd (by first | exact q.2.2.2.2.2.2 | exact q.2.2.2.2 | exact q.2.2) (Bool.eq_false_iff.1 (by assumption))))]
  exact Zq (v := Iv 60) rfl rfl rfl (by kernel_rfl) rfl
  refine Zo (vx := Iv e.kind) (vy := Iv 1) rfl rfl (.bool false) rfl rfl (Zf5 (by omega)) ?_
  refine Zd rfl rfl (.bool false) rfl (Zb (Zc (Zz rfl (Zg (Zj ?_)))))
  by_cases h8 : e.kind = 2
  refine Zo (vx := Iv e.kind) (vy := Iv 2) rfl rfl (.bool true) rfl rfl (Zdd (by omega)) ?_
  refine Zd rfl rfl (.bool true) rfl (Zb (Zc (Z0 rfl (Zg (Zj ?_)))))
  refine Zn (b := 0) (o := 0) (n := 4) (o' := 4) rfl rfl rfl rfl rfl ?_
  refine Zp (p := pt 0 4) (v := Zs e.head) rfl rfl rfl (by kernel_rfl) ?_
  refine Zn (b := 1) (o := 0) (n := 4) (o' := 4) rfl rfl rfl rfl rfl ?_
  refine Zw (p := pt 1 4) (v := Zs e.head) (b := 1) (blk := bxB 109 (Zb2 (⟨e.kind, 0, 0, ⟨#[]⟩, e.head, (⟨0, 0, 0, 0, dz⟩ : Claim)⟩ : Entry))) (H' := [bxB 109 (Zb2 e), bxB 109 (Zb2 (⟨e.kind, 0, 0, ⟨#[]⟩, e.head, (⟨0, 0, 0, 0, dz⟩ : Claim)⟩ : Entry))]) rfl rfl rfl (by kernel_rfl) (by kernel_rfl) ?_
  refine Zb (Zc (Zj ?_))
  refine Zn (b := 1) (o := 0) (n := 4) (o' := 4) rfl rfl rfl rfl rfl ?_
  refine Zn (b := 1) (o := 4) (n := 0) (o' := 4) rfl rfl rfl rfl rfl ?_
  refine Zp (p := pt 1 4) (v := Zbn e.head.head) rfl rfl rfl (by kernel_rfl) ?_
  refine Zt (Zo3 (G := G) e.head.head) (vals := [Zbn e.head.head]) (res' := Iv (Za4 e.head.head)) rfl rfl rfl rfl rfl rfl ?_
  by_cases h9 : (Za4 e.head.head) = 0
  refine Zo (vx := Iv (Za4 e.head.head)) (vy := Iv 0) rfl rfl (.bool true) rfl rfl (Zdd (by omega)) ?_
  refine Zf rfl rfl (.bool true) rfl ?_
  refine Zn (b := 1) (o := 0) (n := 4) (o' := 4) rfl rfl rfl rfl rfl ?_
  refine Zn (b := 1) (o := 4) (n := 36) (o' := 40) rfl rfl rfl rfl rfl ?_
  refine Zp (p := pt 1 40) (v := Iv e.head.node) rfl rfl rfl (by kernel_rfl) ?_
  by_cases h10 : 1 ≤ e.head.node
  by_cases h11 : e.head.node ≤ 3
  refine Zt ((Za5 (G := G) e.head.node 1 3).res (congrArg Value.bool (Zb7 (by omega) (by omega)))) (vals := [Iv e.head.node, Iv 1, Iv 3]) (res' := .bool true) rfl rfl rfl rfl rfl rfl ?_
  refine Zm rfl rfl (.bool true) rfl (Zd rfl rfl (.bool true) rfl (Zb (Z3 (Zc (Zg (Zj (Zf rfl rfl (.bool true) rfl (Zf rfl rfl (.bool true) rfl ?_))))))))
  refine Zp (p := pt 1 0) (v := Zb0 (⟨e.kind, 0, 0, ⟨#[]⟩, e.head, (⟨0, 0, 0, 0, dz⟩ : Claim)⟩ : Entry)) rfl rfl rfl (by kernel_rfl) ?_
  refine Zp (p := pt 0 0) (v := Zb0 e) rfl rfl rfl (by kernel_rfl) ?_
  rcases Bool.eq_false_or_eq_true (Zcw (⟨e.kind, 0, 0, ⟨#[]⟩, e.head, (⟨0, 0, 0, 0, dz⟩ : Claim)⟩ : Entry) e) with h12 | h12
  refine Zo (vx := Zb0 (⟨e.kind, 0, 0, ⟨#[]⟩, e.head, (⟨0, 0, 0, 0, dz⟩ : Claim)⟩ : Entry)) (vy := Zb0 e) rfl rfl (.bool true) rfl rfl (Eq.trans (Zhe (⟨e.kind, 0, 0, ⟨#[]⟩, e.head, (⟨0, 0, 0, 0, dz⟩ : Claim)⟩ : Entry) e) (by rw [h12] <;> rfl)) ?_
  refine Zm rfl rfl (.bool true) rfl ?_
  refine Zt (Zb9 (G := G) true) (vals := [.bool true]) (res' := Iv 0) rfl rfl rfl rfl rfl rfl ?_
  refine Zd rfl rfl (Iv 0) rfl (Zb (Zc (Zx (Zy ?_))))
  rw [show Ze3 e = 0 from if_pos ((Zb4 e).2 (by first | exact .inl ⟨by omega, by omega, by omega, by omega, by omega, by omega, by assumption⟩ | exact .inr (.inl ⟨by omega, by omega, by omega, by omega, by assumption⟩) | exact .inr (.inr ⟨by omega, by omega, by assumption⟩)))]
  exact Zq (v := Iv 0) rfl rfl rfl (by kernel_rfl) rfl
  refine Zo (vx := Zb0 (⟨e.kind, 0, 0, ⟨#[]⟩, e.head, (⟨0, 0, 0, 0, dz⟩ : Claim)⟩ : Entry)) (vy := Zb0 e) rfl rfl (.bool false) rfl rfl (Eq.trans (Zhe (⟨e.kind, 0, 0, ⟨#[]⟩, e.head, (⟨0, 0, 0, 0, dz⟩ : Claim)⟩ : Entry) e) (by rw [h12] <;> rfl)) ?_
  refine Zm rfl rfl (.bool false) rfl ?_
  refine Zt (Zb9 (G := G) false) (vals := [.bool false]) (res' := Iv 60) rfl rfl rfl rfl rfl rfl ?_
  refine Zd rfl rfl (Iv 60) rfl (Zb (Zc (Zx (Zy ?_))))
  rw [show Ze3 e = 60 from if_neg (fun q => by rcases (Zb4 e).1 q with q | q | q <;> first | omega | (exact absurd (by first | exact q.2.2.2.2.2.2 | exact q.2.2.2.2 | exact q.2.2) (Bool.eq_false_iff.1 (by assumption))))]
  exact Zq (v := Iv 60) rfl rfl rfl (by kernel_rfl) rfl
  refine Zt ((Za5 (G := G) e.head.node 1 3).res (congrArg Value.bool (Zan (by omega)))) (vals := [Iv e.head.node, Iv 1, Iv 3]) (res' := .bool false) rfl rfl rfl rfl rfl rfl ?_
  refine Zm rfl rfl (.bool false) rfl (Zd rfl rfl (.bool false) rfl (Zb (Z3 (Zc (Zg (Zj (Zf rfl rfl (.bool false) rfl (Zf rfl rfl (.bool false) rfl (Zi rfl rfl (Zi rfl rfl (Zi rfl rfl (Zm rfl rfl (.bool false) rfl ?_))))))))))))
  refine Zt (Zb9 (G := G) false) (vals := [.bool false]) (res' := Iv 60) rfl rfl rfl rfl rfl rfl ?_
  refine Zd rfl rfl (Iv 60) rfl (Zb (Zc (Zx (Zy ?_))))
  rw [show Ze3 e = 60 from if_neg (fun q => by rcases (Zb4 e).1 q with q | q | q <;> first | omega | (exact absurd (by first | exact q.2.2.2.2.2.2 | exact q.2.2.2.2 | exact q.2.2) (Bool.eq_false_iff.1 (by assumption))))]
  exact Zq (v := Iv 60) rfl rfl rfl (by kernel_rfl) rfl
  refine Zt ((Za5 (G := G) e.head.node 1 3).res (congrArg Value.bool (Zan (by omega)))) (vals := [Iv e.head.node, Iv 1, Iv 3]) (res' := .bool false) rfl rfl rfl rfl rfl rfl ?_
  refine Zm rfl rfl (.bool false) rfl (Zd rfl rfl (.bool false) rfl (Zb (Z3 (Zc (Zg (Zj (Zf rfl rfl (.bool false) rfl (Zf rfl rfl (.bool false) rfl (Zi rfl rfl (Zi rfl rfl (Zi rfl rfl (Zm rfl rfl (.bool false) rfl ?_))))))))))))
  refine Zt (Zb9 (G := G) false) (vals := [.bool false]) (res' := Iv 60) rfl rfl rfl rfl rfl rfl ?_
  refine Zd rfl rfl (Iv 60) rfl (Zb (Zc (Zx (Zy ?_))))
  rw [show Ze3 e = 60 from if_neg (fun q => by rcases (Zb4 e).1 q with q | q | q <;> first | omega | (exact absurd (by first | exact q.2.2.2.2.2.2 | exact q.2.2.2.2 | exact q.2.2) (Bool.eq_false_iff.1 (by assumption))))]
  exact Zq (v := Iv 60) rfl rfl rfl (by kernel_rfl) rfl
  refine Zo (vx := Iv (Za4 e.head.head)) (vy := Iv 0) rfl rfl (.bool false) rfl rfl (Zf5 (by omega)) ?_
  refine Zf rfl rfl (.bool false) rfl (Zi rfl rfl (Zi rfl rfl (Zi rfl rfl (Zi rfl rfl (Zm rfl rfl (.bool false) rfl (Zd rfl rfl (.bool false) rfl (Zb (Z3 (Zc (Zg (Zj (Zf rfl rfl (.bool false) rfl (Zf rfl rfl (.bool false) rfl (Zi rfl rfl (Zi rfl rfl (Zi rfl rfl (Zm rfl rfl (.bool false) rfl ?_)))))))))))))))))
  refine Zt (Zb9 (G := G) false) (vals := [.bool false]) (res' := Iv 60) rfl rfl rfl rfl rfl rfl ?_
  refine Zd rfl rfl (Iv 60) rfl (Zb (Zc (Zx (Zy ?_))))
  rw [show Ze3 e = 60 from if_neg (fun q => by rcases (Zb4 e).1 q with q | q | q <;> first | omega | (exact absurd (by first | exact q.2.2.2.2.2.2 | exact q.2.2.2.2 | exact q.2.2) (Bool.eq_false_iff.1 (by assumption))))]
  exact Zq (v := Iv 60) rfl rfl rfl (by kernel_rfl) rfl
  refine Zo (vx := Iv e.kind) (vy := Iv 2) rfl rfl (.bool false) rfl rfl (Zf5 (by omega)) ?_
  refine Zd rfl rfl (.bool false) rfl (Zb (Zc (Zz rfl (Zg (Zj ?_)))))
  by_cases h13 : e.kind = 3
  refine Zo (vx := Iv e.kind) (vy := Iv 3) rfl rfl (.bool true) rfl rfl (Zdd (by omega)) ?_
  refine Zd rfl rfl (.bool true) rfl (Zb (Zc (Z0 rfl (Zg (Zj ?_)))))
  refine Zn (b := 0) (o := 0) (n := 73) (o' := 73) rfl rfl rfl rfl rfl ?_
  refine Zp (p := pt 0 73) (v := Zet e.claim) rfl rfl rfl (by kernel_rfl) ?_
  refine Zn (b := 1) (o := 0) (n := 73) (o' := 73) rfl rfl rfl rfl rfl ?_
  refine Zw (p := pt 1 73) (v := Zet e.claim) (b := 1) (blk := bxB 109 (Zb2 (⟨e.kind, 0, 0, ⟨#[]⟩, (⟨(⟨0, 0, 0, dz, 0⟩ : Head), 0, dz⟩ : Signed), e.claim⟩ : Entry))) (H' := [bxB 109 (Zb2 e), bxB 109 (Zb2 (⟨e.kind, 0, 0, ⟨#[]⟩, (⟨(⟨0, 0, 0, dz, 0⟩ : Head), 0, dz⟩ : Signed), e.claim⟩ : Entry))]) rfl rfl rfl (by kernel_rfl) (by kernel_rfl) ?_
  refine Zb (Zc (Zj ?_))
  refine Zn (b := 1) (o := 0) (n := 73) (o' := 73) rfl rfl rfl rfl rfl ?_
  refine Zp (p := pt 1 73) (v := Zet e.claim) rfl rfl rfl (by kernel_rfl) ?_
  refine Zt (Zk7 (G := G) e.claim) (vals := [Zet e.claim]) (res' := Iv (Ze8 e.claim)) rfl rfl rfl rfl rfl rfl ?_
  by_cases h14 : (Ze8 e.claim) = 0
  refine Zo (vx := Iv (Ze8 e.claim)) (vy := Iv 0) rfl rfl (.bool true) rfl rfl (Zdd (by omega)) ?_
  refine Zd rfl rfl (.bool true) rfl (Zb (Z3 (Zc (Zg (Zj (Zf rfl rfl (.bool true) rfl (Zf rfl rfl (.bool true) rfl ?_)))))))
  refine Zp (p := pt 1 0) (v := Zb0 (⟨e.kind, 0, 0, ⟨#[]⟩, (⟨(⟨0, 0, 0, dz, 0⟩ : Head), 0, dz⟩ : Signed), e.claim⟩ : Entry)) rfl rfl rfl (by kernel_rfl) ?_
  refine Zp (p := pt 0 0) (v := Zb0 e) rfl rfl rfl (by kernel_rfl) ?_
  rcases Bool.eq_false_or_eq_true (Zcw (⟨e.kind, 0, 0, ⟨#[]⟩, (⟨(⟨0, 0, 0, dz, 0⟩ : Head), 0, dz⟩ : Signed), e.claim⟩ : Entry) e) with h15 | h15
  refine Zo (vx := Zb0 (⟨e.kind, 0, 0, ⟨#[]⟩, (⟨(⟨0, 0, 0, dz, 0⟩ : Head), 0, dz⟩ : Signed), e.claim⟩ : Entry)) (vy := Zb0 e) rfl rfl (.bool true) rfl rfl (Eq.trans (Zhe (⟨e.kind, 0, 0, ⟨#[]⟩, (⟨(⟨0, 0, 0, dz, 0⟩ : Head), 0, dz⟩ : Signed), e.claim⟩ : Entry) e) (by rw [h15] <;> rfl)) ?_
  refine Zm rfl rfl (.bool true) rfl ?_
  refine Zt (Zb9 (G := G) true) (vals := [.bool true]) (res' := Iv 0) rfl rfl rfl rfl rfl rfl ?_
  refine Zd rfl rfl (Iv 0) rfl (Zb (Zc (Zx (Zy ?_))))
  rw [show Ze3 e = 0 from if_pos ((Zb4 e).2 (by first | exact .inl ⟨by omega, by omega, by omega, by omega, by omega, by omega, by assumption⟩ | exact .inr (.inl ⟨by omega, by omega, by omega, by omega, by assumption⟩) | exact .inr (.inr ⟨by omega, by omega, by assumption⟩)))]
  exact Zq (v := Iv 0) rfl rfl rfl (by kernel_rfl) rfl
  refine Zo (vx := Zb0 (⟨e.kind, 0, 0, ⟨#[]⟩, (⟨(⟨0, 0, 0, dz, 0⟩ : Head), 0, dz⟩ : Signed), e.claim⟩ : Entry)) (vy := Zb0 e) rfl rfl (.bool false) rfl rfl (Eq.trans (Zhe (⟨e.kind, 0, 0, ⟨#[]⟩, (⟨(⟨0, 0, 0, dz, 0⟩ : Head), 0, dz⟩ : Signed), e.claim⟩ : Entry) e) (by rw [h15] <;> rfl)) ?_
  refine Zm rfl rfl (.bool false) rfl ?_
  refine Zt (Zb9 (G := G) false) (vals := [.bool false]) (res' := Iv 60) rfl rfl rfl rfl rfl rfl ?_
  refine Zd rfl rfl (Iv 60) rfl (Zb (Zc (Zx (Zy ?_))))
  rw [show Ze3 e = 60 from if_neg (fun q => by rcases (Zb4 e).1 q with q | q | q <;> first | omega | (exact absurd (by first | exact q.2.2.2.2.2.2 | exact q.2.2.2.2 | exact q.2.2) (Bool.eq_false_iff.1 (by assumption))))]
  exact Zq (v := Iv 60) rfl rfl rfl (by kernel_rfl) rfl
  refine Zo (vx := Iv (Ze8 e.claim)) (vy := Iv 0) rfl rfl (.bool false) rfl rfl (Zf5 (by omega)) ?_
  refine Zd rfl rfl (.bool false) rfl (Zb (Z3 (Zc (Zg (Zj (Zf rfl rfl (.bool false) rfl (Zf rfl rfl (.bool false) rfl (Zi rfl rfl (Zi rfl rfl (Zi rfl rfl (Zm rfl rfl (.bool false) rfl ?_)))))))))))
  refine Zt (Zb9 (G := G) false) (vals := [.bool false]) (res' := Iv 60) rfl rfl rfl rfl rfl rfl ?_
  refine Zd rfl rfl (Iv 60) rfl (Zb (Zc (Zx (Zy ?_))))
  rw [show Ze3 e = 60 from if_neg (fun q => by rcases (Zb4 e).1 q with q | q | q <;> first | omega | (exact absurd (by first | exact q.2.2.2.2.2.2 | exact q.2.2.2.2 | exact q.2.2) (Bool.eq_false_iff.1 (by assumption))))]
  exact Zq (v := Iv 60) rfl rfl rfl (by kernel_rfl) rfl
  refine Zo (vx := Iv e.kind) (vy := Iv 3) rfl rfl (.bool false) rfl rfl (Zf5 (by omega)) ?_
  refine Zd rfl rfl (.bool false) rfl (Zb (Zc (Zz rfl (Z5 (Z3 (Zc (Zg (Zj (Zf rfl rfl (.bool false) rfl (Zf rfl rfl (.bool false) rfl (Zi rfl rfl (Zi rfl rfl (Zi rfl rfl (Zm rfl rfl (.bool false) rfl ?_))))))))))))))
  refine Zt (Zb9 (G := G) false) (vals := [.bool false]) (res' := Iv 60) rfl rfl rfl rfl rfl rfl ?_
  refine Zd rfl rfl (Iv 60) rfl (Zb (Zc (Zx (Zy ?_))))
  rw [show Ze3 e = 60 from if_neg (fun q => by rcases (Zb4 e).1 q with q | q | q <;> first | omega | (exact absurd (by first | exact q.2.2.2.2.2.2 | exact q.2.2.2.2 | exact q.2.2) (Bool.eq_false_iff.1 (by assumption))))]
  exact Zq (v := Iv 60) rfl rfl rfl (by kernel_rfl) rfl
end Go.Flat
namespace Go.Flat
open Go.Proofs
variable {G : Glob}
theorem Zol (l : List Item) (i : Nat) (h : i < l.length) : l.drop i = l.getD i default :: l.drop (i + 1) := by
 rw [List.drop_eq_getElem_cons h, List.getD_eq_getElem?_getD, List.getElem?_eq_getElem h]; rfl
def Zdi : Int → List Item → Bool
  | _, [] => true
  | ep, x :: l => decide (Zc9 x) && decide (ep ≤ x.epoch) && Zdi x.epoch l
def Zdj (l : List Item) : Prop := l.length ≤ 2000 ∧ Zdi 0 l = true
instance (l : List Item) : Decidable (Zdj l) := inferInstanceAs (Decidable (_ ∧ _))
def Zgn (l : List Item) : Int := if Zdj l then 0 else 100
theorem Zi3 {l : List Item} (h : Zgn l = 0) : Zdj l := by
 unfold Zgn at h
 split at h
 ·assumption
 ·omega
theorem Zz5 {l : List Item} (h : ¬ Zgn l = 0) : ¬ Zdj l := fun q => h (if_pos q)
theorem Zwb {ep : Int} {l : List Item} {i : Nat} {R : Bool} (hR : Zdi ep (l.drop i) = R) (hi : i < l.length) (h1 : Zc9 (l.getD i default)) (h2 : ep ≤ (l.getD i default).epoch) : Zdi (l.getD i default).epoch (l.drop (i + 1)) = R := by
 rw [Zol l i hi, Zdi, decide_eq_true h1, decide_eq_true h2] at hR; simpa using hR
theorem Zm9 {ep : Int} {l : List Item} {i : Nat} {R : Bool} (hR : Zdi ep (l.drop i) = R) (hi : i < l.length) (h : ¬ (Zc9 (l.getD i default) ∧ ep ≤ (l.getD i default).epoch)) : R = false := by
 rw [Zol l i hi, Zdi] at hR
 rw [← hR]
 by_cases h1 : Zc9 (l.getD i default)
 ·rw [decide_eq_false (fun q => h ⟨h1, q⟩ : ¬ ep ≤ (l.getD i default).epoch)]; simp
 ·rw [decide_eq_false h1]; simp
def Z6x (l : List Item) (i : Nat) : Int := if i = 0 then 0 else (l.getD (i - 1) default).epoch
def Z4r (x : Item) : Bool := decide (1000 < x.entry.text.size)
def Zg2 (l : List Item) : Bool := decide (60 < l.length) || l.any Z4r
theorem Zzn {l : List Item} {i : Nat} {p : Item → Bool} {R : Bool} (hR : (l.drop i).any p = R) (hi : i < l.length) (h : p (l.getD i default) = false) : (l.drop (i + 1)).any p = R := by
 rw [Zol l i hi, List.any_cons, h, Bool.false_or] at hR; exact hR
theorem Zxh {l : List Item} {i : Nat} {p : Item → Bool} {R : Bool} (hR : (l.drop i).any p = R) (hi : i < l.length) (h : p (l.getD i default) = true) : R = true := by
 rw [Zol l i hi, List.any_cons, h, Bool.true_or] at hR; exact hR.symm
def Z6v (l m : List Item) : Bool := decide (l.length = m.length) && (List.range l.length).all fun i => Znk (l.getD i default) (m.getD i default)
theorem Zgm (n low high : Int) : Zaf Tryd.prog G 48 [Iv n, Iv low, Iv high] [] (.bool (Zda n low high)) [] := by
 refine Zbj (fn := Tryd.f48) (nt := 15) rfl rfl rfl rfl ?_
 refine Zg (Zj (Zd rfl rfl (.bool false) rfl (Zb (Zc (Zg (Zj (Zf rfl rfl (Iv n) rfl (Zf rfl rfl (Iv low) rfl ?_))))))))
 by_cases h1 : low ≤ n
 refine Zo (vx := Iv n) (vy := Iv low) rfl rfl (.bool true) rfl rfl (Zg5 (by omega)) ?_
 refine Zf rfl rfl (.bool true) rfl (Zf rfl rfl (Iv n) rfl (Zf rfl rfl (Iv high) rfl ?_))
 by_cases h2 : n ≤ high
 refine Zo (vx := Iv n) (vy := Iv high) rfl rfl (.bool true) rfl rfl (Zuv (by omega)) ?_
 refine Zm rfl rfl (.bool true) rfl (Zd rfl rfl (.bool true) rfl (Zb (Zc (Zx (Zy ?_)))))
 rw [show Zda n low high = true from Zb7 (by omega) (by omega)]
 exact Zq (v := .bool true) rfl rfl rfl (by kernel_rfl) rfl
 refine Zo (vx := Iv n) (vy := Iv high) rfl rfl (.bool false) rfl rfl (Ztv (by omega)) ?_
 refine Zm rfl rfl (.bool false) rfl (Zd rfl rfl (.bool false) rfl (Zb (Zc (Zx (Zy ?_)))))
 rw [show Zda n low high = false from Zan (by omega)]
 exact Zq (v := .bool false) rfl rfl rfl (by kernel_rfl) rfl
 refine Zo (vx := Iv n) (vy := Iv low) rfl rfl (.bool false) rfl rfl (Zhv (by omega)) ?_
 refine Zf rfl rfl (.bool false) rfl (Zi rfl rfl (Zi rfl rfl (Zi rfl rfl (Zm rfl rfl (.bool false) rfl (Zd rfl rfl (.bool false) rfl (Zb (Zc (Zx (Zy ?_)))))))))
 rw [show Zda n low high = false from Zan (by omega)]
 exact Zq (v := .bool false) rfl rfl rfl (by kernel_rfl) rfl
theorem Z1i (x : Item) : Zaf Tryd.prog G 31 [Zay x] [] (.bool (decide (Zc9 x))) [] := by
  refine Zbj (fn := Tryd.f31) (nt := 12) rfl rfl rfl rfl ?_
  refine Zai 1 (H' := [hole]) rfl ?_
  refine Zg (Zj ?_)
  refine Zcj (v := Zay x) (b := bxB 110 (Zh x)) (nid := 0) (H' := [bxB 110 (Zh x)]) rfl rfl rfl (by kernel_rfl) (by kernel_rfl) ?_
  refine Zd rfl rfl (.bool false) rfl (Zb (Zc (Zg (Zj ?_))))
  refine Zn (b := 0) (o := 0) (n := 0) (o' := 0) rfl rfl rfl rfl rfl ?_
  refine Zp (p := pt 0 0) (v := Iv x.epoch) rfl rfl rfl (by kernel_rfl) ?_
  by_cases h1 : 1 ≤ x.epoch
  by_cases h2 : x.epoch ≤ 900000000
  refine Zt ((Zgm (G := G) x.epoch 1 900000000).res (congrArg Value.bool (Zb7 (by omega) (by omega)))) (vals := [Iv x.epoch, Iv 1, Iv 900000000]) (res' := .bool true) rfl rfl rfl rfl rfl rfl ?_
  refine Zf rfl rfl (.bool true) rfl ?_
  refine Zn (b := 0) (o := 0) (n := 1) (o' := 1) rfl rfl rfl rfl rfl ?_
  refine Zp (p := pt 0 1) (v := Zb0 x.entry) rfl rfl rfl (by kernel_rfl) ?_
  refine Zt (Znu (G := G) x.entry) (vals := [Zb0 x.entry]) (res' := Iv (Ze3 x.entry)) rfl rfl rfl rfl rfl rfl ?_
  by_cases h3 : (Ze3 x.entry) = 0
  refine Zo (vx := Iv (Ze3 x.entry)) (vy := Iv 0) rfl rfl (.bool true) rfl rfl (Zdd (by omega)) ?_
  refine Zm rfl rfl (.bool true) rfl (Zd rfl rfl (.bool true) rfl (Zb (Zc (Zx (Zy ?_)))))
  rw [show decide (Zc9 x) = true from decide_eq_true ⟨by omega, by omega, Ztm (by omega)⟩]
  exact Zq (v := .bool true) rfl rfl rfl (by kernel_rfl) rfl
  refine Zo (vx := Iv (Ze3 x.entry)) (vy := Iv 0) rfl rfl (.bool false) rfl rfl (Zf5 (by omega)) ?_
  refine Zm rfl rfl (.bool false) rfl (Zd rfl rfl (.bool false) rfl (Zb (Zc (Zx (Zy ?_)))))
  rw [show decide (Zc9 x) = false from decide_eq_false (fun q => by first | (have := q.1; have := q.2.1; omega) | (exact Zke (by omega) q.2.2))]
  exact Zq (v := .bool false) rfl rfl rfl (by kernel_rfl) rfl
  refine Zt ((Zgm (G := G) x.epoch 1 900000000).res (congrArg Value.bool (Zan (by omega)))) (vals := [Iv x.epoch, Iv 1, Iv 900000000]) (res' := .bool false) rfl rfl rfl rfl rfl rfl ?_
  refine Zf rfl rfl (.bool false) rfl (Zi rfl rfl (Zi rfl rfl (Zi rfl rfl (Zi rfl rfl (Zm rfl rfl (.bool false) rfl (Zd rfl rfl (.bool false) rfl (Zb (Zc (Zx (Zy ?_))))))))))
  rw [show decide (Zc9 x) = false from decide_eq_false (fun q => by first | (have := q.1; have := q.2.1; omega) | (exact Zke (by omega) q.2.2))]
  exact Zq (v := .bool false) rfl rfl rfl (by kernel_rfl) rfl
  refine Zt ((Zgm (G := G) x.epoch 1 900000000).res (congrArg Value.bool (Zan (by omega)))) (vals := [Iv x.epoch, Iv 1, Iv 900000000]) (res' := .bool false) rfl rfl rfl rfl rfl rfl ?_
  refine Zf rfl rfl (.bool false) rfl (Zi rfl rfl (Zi rfl rfl (Zi rfl rfl (Zi rfl rfl (Zm rfl rfl (.bool false) rfl (Zd rfl rfl (.bool false) rfl (Zb (Zc (Zx (Zy ?_))))))))))
  rw [show decide (Zc9 x) = false from decide_eq_false (fun q => by first | (have := q.1; have := q.2.1; omega) | (exact Zke (by omega) q.2.2))]
  exact Zq (v := .bool false) rfl rfl rfl (by kernel_rfl) rfl
theorem Zkt (l : List Item) (n c : Nat) (hn : l.length = n) (hc : n ≤ c) (hb : n ≤ 1048576) : Zaf Tryd.prog G 13 [slv 0 0 n c] [rwR Zk l] (Iv (Zgn l)) [rwR Zk l] := by
  refine Zbj (fn := Tryd.f13) (nt := 27) rfl rfl rfl rfl ?_
  refine Zg (Zj (Zd rfl rfl (Iv 0) rfl (Zb (Zc (Zg (Zj (Zd rfl rfl (Iv 0) rfl (Zb (Zc (Zg (Zg (Zj (Zf rfl rfl (slv 0 0 n c) rfl ?_)))))))))))))
  refine Zbl (p := slv 0 0 n c) (v := Iv (n : Nat)) rfl rfl rfl rfl ?_
  refine Zf rfl rfl (Iv 0) rfl (Zb (Zc (Z7 ?_)))
  refine Zcm (fun x : Nat × Int => match x with | (i, ep) => [slv 0 0 n c, dead, dead, Iv ep, dead, dead, slv 0 0 n c, Iv (n : Nat), Iv (i : Nat)]) (fun x : Nat × Int => match x with | (i, ep) => [rwR Zk l]) (fun x : Nat × Int => match x with | (i, ep) => Zdi ep (l.drop i) = Zdi 0 l ∧ i ≤ n) (fun x : Nat × Int => match x with | (i, ep) => n - i) (0, 0) ⟨rfl, by omega⟩ ?_ ?_
  · refine Zal (n := 1) rfl ?_ (by kernel_rfl) (by kernel_rfl)
    repeat (first | exact trivial | refine ⟨.inl rfl, ?_⟩ | refine ⟨.inr ⟨rfl, rfl⟩, ?_⟩ | refine ⟨.inr ⟨congrArg (Value.int .i64) (by first | omega | (dsimp only; omega)), rfl⟩, ?_⟩)
  rintro ⟨i, ep⟩ ⟨hR, hi⟩
  dsimp only at *
  refine Zai 2 (H' := [rwR Zk l, hole, hole]) rfl ?_
  refine Zg (Zj ?_)
  by_cases h1 : (i : Nat) < (n : Nat)
  refine Zo (vx := Iv (i : Nat)) (vy := Iv (n : Nat)) rfl rfl (.bool true) rfl rfl (Zco (by omega)) ?_
  refine Zb (Zc (Zg (Z0 rfl (Z5 (Zc (Zg (Z7 (Zg (Zj ?_)))))))))
  refine Zba (b := 0) (o := 0) (j := i * 110) (m := n) (c := c) (sz := 110) (i := (i : Nat)) (k := .i64) rfl rfl rfl rfl rfl (by omega) (by omega) (by omega) ?_
  refine Zp (p := pt 0 (i * 110)) (v := Zay (l.getD i default)) rfl rfl rfl (Zkw (n := 0) (m := 110) Zk rfl rfl rfl rfl (by have := hn; omega) (by omega)) ?_
  refine Z2 (b := bxB 110 (Zh (⟨0, (⟨0, 0, 0, ⟨#[]⟩, (⟨(⟨0, 0, 0, dz, 0⟩ : Head), 0, dz⟩ : Signed), (⟨0, 0, 0, 0, dz⟩ : Claim)⟩ : Entry)⟩ : Item))) (nid := 1) (H' := [rwR Zk l, bxB 110 (Zh (⟨0, (⟨0, 0, 0, ⟨#[]⟩, (⟨(⟨0, 0, 0, dz, 0⟩ : Head), 0, dz⟩ : Signed), (⟨0, 0, 0, 0, dz⟩ : Claim)⟩ : Entry)⟩ : Item)), hole]) rfl rfl (by kernel_rfl) (by kernel_rfl) ?_
  refine Zw (p := pt 1 0) (v := Zay (l.getD i default)) (b := 1) (blk := bxB 110 (Zh (l.getD i default))) (H' := [rwR Zk l, bxB 110 (Zh (l.getD i default)), hole]) rfl rfl rfl (by kernel_rfl) (by kernel_rfl) ?_
  refine Zb (Zc (Zg (Zg (Zj ?_))))
  refine Zp (p := pt 1 0) (v := Zay (l.getD i default)) rfl rfl rfl (by kernel_rfl) ?_
  refine Zt (Z1i (G := G) (l.getD i default)) (vals := [Zay (l.getD i default)]) (res' := .bool (decide (Zc9 (l.getD i default)))) rfl rfl rfl rfl rfl rfl ?_
  rcases Bool.eq_false_or_eq_true (decide (Zc9 (l.getD i default))) with h2 | h2
  refine Ziy (vx := .bool (decide (Zc9 (l.getD i default)))) rfl rfl (.bool false) rfl (Eq.trans Zer (congrArg (fun b => some (Value.bool !b)) h2)) ?_
  refine Zf rfl rfl (.bool false) rfl ?_
  refine Zn (b := 1) (o := 0) (n := 0) (o' := 0) rfl rfl rfl rfl rfl ?_
  refine Zp (p := pt 1 0) (v := Iv ((l.getD i default).epoch)) rfl rfl rfl (by kernel_rfl) ?_
  refine Zf rfl rfl (Iv ep) rfl ?_
  by_cases h3 : ((l.getD i default).epoch) < ep
  refine Zo (vx := Iv ((l.getD i default).epoch)) (vy := Iv ep) rfl rfl (.bool true) rfl rfl (Zco (by omega)) ?_
  refine Zm rfl rfl (.bool true) rfl (Zb (Zc (Z0 rfl (Zg (Zj (Zd rfl rfl (Iv 100) rfl (Zb (Zc (Zx (Zaa (Zc1 (Zaa (Zez (Zc1 (Zaa (Zy ?_))))))))))))))))
  rw [show Zgn l = 100 from if_neg (fun q => by have q1 := q.1; have q2 := q.2; first | omega | (rw [Zm9 hR (by omega) (fun r => by first | (have := r.2; omega) | exact absurd r.1 (of_decide_eq_false (by assumption)))] at q2; cases q2))]
  exact Zq (v := Iv 100) rfl rfl rfl (by kernel_rfl) rfl
  refine Zo (vx := Iv ((l.getD i default).epoch)) (vy := Iv ep) rfl rfl (.bool false) rfl rfl (Zce (by omega)) ?_
  refine Zm rfl rfl (.bool false) rfl (Zb (Zc (Zz rfl (Z5 (Zc (Zj ?_))))))
  refine Zn (b := 1) (o := 0) (n := 0) (o' := 0) rfl rfl rfl rfl rfl ?_
  refine Zp (p := pt 1 0) (v := Iv ((l.getD i default).epoch)) rfl rfl rfl (by kernel_rfl) ?_
  refine Zd rfl rfl (Iv ((l.getD i default).epoch)) rfl (Zb (Z3 (Zc (Zj ?_))))
  refine Zo (vx := Iv (i : Nat)) (vy := Iv 1) rfl rfl (Iv ((i : Nat) + 1)) rfl rfl (Zav (by omega) (by omega) (by omega)) ?_
  refine Zf rfl rfl (Iv ((i : Nat) + 1)) rfl (Zb ?_)
  refine Zaw ⟨((i + 1), ((l.getD i default).epoch)), ⟨Zwb hR (by omega) (of_decide_eq_true (by assumption)) (by omega), by omega⟩, by show n - (i + 1) < n - i; omega, ?_⟩
  refine Zal (n := 1) rfl ?_ (by kernel_rfl) (by kernel_rfl)
  repeat (first | exact trivial | refine ⟨.inl rfl, ?_⟩ | refine ⟨.inr ⟨rfl, rfl⟩, ?_⟩ | refine ⟨.inr ⟨congrArg (Value.int .i64) (by first | omega | (dsimp only; omega)), rfl⟩, ?_⟩)
  refine Ziy (vx := .bool (decide (Zc9 (l.getD i default)))) rfl rfl (.bool true) rfl (Eq.trans Zer (congrArg (fun b => some (Value.bool !b)) h2)) ?_
  refine Zf rfl rfl (.bool true) rfl (Zi rfl rfl (Zi rfl rfl (Zi rfl rfl (Zi rfl rfl (Zm rfl rfl (.bool true) rfl (Zb (Zc (Z0 rfl (Zg (Zj (Zd rfl rfl (Iv 100) rfl (Zb (Zc (Zx (Zaa (Zc1 (Zaa (Zez (Zc1 (Zaa (Zy ?_)))))))))))))))))))))
  rw [show Zgn l = 100 from if_neg (fun q => by have q1 := q.1; have q2 := q.2; first | omega | (rw [Zm9 hR (by omega) (fun r => by first | (have := r.2; omega) | exact absurd r.1 (of_decide_eq_false (by assumption)))] at q2; cases q2))]
  exact Zq (v := Iv 100) rfl rfl rfl (by kernel_rfl) rfl
  refine Zo (vx := Iv (i : Nat)) (vy := Iv (n : Nat)) rfl rfl (.bool false) rfl rfl (Zce (by omega)) ?_
  refine Zb (Zc (Zg (Zz rfl (Zbe (Zam (Zau (Zas rfl (Zc (Zg (Zg (Zj (Zf rfl rfl (slv 0 0 n c) rfl ?_))))))))))))
  refine Zbl (p := slv 0 0 n c) (v := Iv (n : Nat)) rfl rfl rfl rfl ?_
  by_cases h4 : 2000 < (n : Nat)
  refine Zo (vx := Iv (n : Nat)) (vy := Iv 2000) rfl rfl (.bool true) rfl rfl (Zeh (by omega)) ?_
  refine Zb (Zc (Z0 rfl (Zg (Zj (Zd rfl rfl (Iv 100) rfl (Zb (Zc (Zx (Zaa (Zy ?_))))))))))
  rw [show Zgn l = 100 from if_neg (fun q => by have q1 := q.1; have q2 := q.2; first | omega | (rw [Zm9 hR (by omega) (fun r => by first | (have := r.2; omega) | exact absurd r.1 (of_decide_eq_false (by assumption)))] at q2; cases q2))]
  exact Zq (v := Iv 100) rfl rfl rfl (by kernel_rfl) rfl
  refine Zo (vx := Iv (n : Nat)) (vy := Iv 2000) rfl rfl (.bool false) rfl rfl (Zek (by omega)) ?_
  refine Zb (Zc (Zz rfl (Z5 (Zc (Zg (Zj (Zd rfl rfl (Iv 0) rfl (Zb (Zc (Zx (Zy ?_)))))))))))
  rw [show Zgn l = 0 from if_pos ⟨by omega, by rw [← hR, List.drop_of_length_le (by omega)]; rfl⟩]
  exact Zq (v := Iv 0) rfl rfl rfl (by kernel_rfl) rfl
theorem Znb (l : List Item) (n c : Nat) (hn : l.length = n) (hc : n ≤ c) (hb : n ≤ 9223372036854775807) : Zaf Tryd.prog G 7 [slv 0 0 n c] [rwR Zk l] (.bool (Zg2 l)) [rwR Zk l] := by
  refine Zbj (fn := Tryd.f7) (nt := 21) rfl rfl rfl rfl ?_
  refine Zg (Zj (Zd rfl rfl (.bool false) rfl (Zb (Zc (Zg (Zg (Zj (Zf rfl rfl (slv 0 0 n c) rfl ?_))))))))
  refine Zbl (p := slv 0 0 n c) (v := Iv (n : Nat)) rfl rfl rfl rfl ?_
  by_cases h1 : 60 < (n : Nat)
  refine Zo (vx := Iv (n : Nat)) (vy := Iv 60) rfl rfl (.bool true) rfl rfl (Zeh (by omega)) ?_
  refine Zb (Zc (Z0 rfl (Zg (Zj (Zd rfl rfl (.bool true) rfl (Zb (Zc (Zx (Zaa (Zy ?_))))))))))
  rw [show Zg2 l = true from by unfold Zg2; first | (rw [decide_eq_true (by omega : 60 < l.length)]; rfl) | (rw [Zxh hR (by omega) (decide_eq_true (by omega)), Bool.or_true])]
  exact Zq (v := .bool true) rfl rfl rfl (by kernel_rfl) rfl
  refine Zo (vx := Iv (n : Nat)) (vy := Iv 60) rfl rfl (.bool false) rfl rfl (Zek (by omega)) ?_
  refine Zb (Zc (Zz rfl (Z5 (Zc (Zg (Zg (Zj (Zd rfl rfl (Iv 0) rfl (Zb (Zc (Z7 ?_)))))))))))
  refine Zcm (fun i : Nat => [slv 0 0 n c, dead, dead, Iv (i : Nat), slv 0 0 n c, Iv (n : Nat), .bool false]) (fun i : Nat => [rwR Zk l]) (fun i : Nat => (l.drop i).any Z4r = l.any Z4r ∧ i ≤ n) (fun i : Nat => n - i) 0 ⟨rfl, by omega⟩ ?_ ?_
  · refine Zal (n := 1) rfl ?_ (by kernel_rfl) (by kernel_rfl)
    repeat (first | exact trivial | refine ⟨.inl rfl, ?_⟩ | refine ⟨.inr ⟨rfl, rfl⟩, ?_⟩ | refine ⟨.inr ⟨congrArg (Value.int .i64) (by first | omega | (dsimp only; omega)), rfl⟩, ?_⟩)
  rintro i ⟨hR, hi⟩
  refine Zai 1 (H' := [rwR Zk l, hole]) rfl ?_
  refine Zg (Zg (Zj (Zf rfl rfl (Iv (i : Nat)) rfl (Zf rfl rfl (slv 0 0 n c) rfl ?_))))
  refine Zbl (p := slv 0 0 n c) (v := Iv (n : Nat)) rfl rfl rfl rfl ?_
  by_cases h2 : (i : Nat) < (n : Nat)
  refine Zo (vx := Iv (i : Nat)) (vy := Iv (n : Nat)) rfl rfl (.bool true) rfl rfl (Zco (by omega)) ?_
  refine Zb (Zc (Z0 rfl (Z5 (Zc (Zg (Z7 (Zg (Zj (Zf rfl rfl (slv 0 0 n c) rfl (Zf rfl rfl (Iv (i : Nat)) rfl ?_))))))))))
  refine Zba (b := 0) (o := 0) (j := i * 110) (m := n) (c := c) (sz := 110) (i := (i : Nat)) (k := .i64) rfl rfl rfl rfl rfl (by omega) (by omega) (by omega) ?_
  refine Zn (b := 0) (o := i * 110) (n := 1) (o' := i * 110 + 1) rfl rfl rfl rfl (by omega) ?_
  refine Zn (b := 0) (o := i * 110 + 1) (n := 3) (o' := i * 110 + 4) rfl rfl rfl rfl (by omega) ?_
  refine Zp (p := pt 0 (i * 110 + 4)) (v := .string (((l.getD i default).entry).text)) rfl rfl rfl (Zm8 Zk (l := l) (i := i) (k := 4) (m := 110) rfl rfl rfl rfl (by have := hn; omega) (by omega) (by kernel_rfl) rfl) ?_
  refine Zbl (p := .string (((l.getD i default).entry).text)) (v := Iv ((((((l.getD i default).entry).text).size) : Nat) : Int)) rfl rfl rfl rfl ?_
  by_cases h3 : 1000 < ((((((l.getD i default).entry).text).size) : Nat) : Int)
  refine Zo (vx := Iv ((((((l.getD i default).entry).text).size) : Nat) : Int)) (vy := Iv 1000) rfl rfl (.bool true) rfl rfl (Zeh (by omega)) ?_
  refine Zb (Zc (Z0 rfl (Zg (Zj (Zd rfl rfl (.bool true) rfl (Zb (Zc (Zx (Zc1 (Zaa (Zez (Zc1 (Zaa (Zy ?_))))))))))))))
  rw [show Zg2 l = true from by unfold Zg2; first | (rw [decide_eq_true (by omega : 60 < l.length)]; rfl) | (rw [Zxh hR (by omega) (decide_eq_true (by omega)), Bool.or_true])]
  exact Zq (v := .bool true) rfl rfl rfl (by kernel_rfl) rfl
  refine Zo (vx := Iv ((((((l.getD i default).entry).text).size) : Nat) : Int)) (vy := Iv 1000) rfl rfl (.bool false) rfl rfl (Zek (by omega)) ?_
  refine Zb (Zc (Zz rfl (Z5 (Z3 (Zc (Zj (Zf rfl rfl (Iv (i : Nat)) rfl ?_)))))))
  refine Zo (vx := Iv (i : Nat)) (vy := Iv 1) rfl rfl (Iv ((i : Nat) + 1)) rfl rfl (Zav (by omega) (by omega) (by omega)) ?_
  refine Zd rfl rfl (Iv ((i : Nat) + 1)) rfl (Zb ?_)
  refine Zaw ⟨(i + 1), ⟨Zzn hR (by omega) (decide_eq_false (by omega)), by omega⟩, by show n - (i + 1) < n - i; omega, ?_⟩
  refine Zal (n := 1) rfl ?_ (by kernel_rfl) (by kernel_rfl)
  repeat (first | exact trivial | refine ⟨.inl rfl, ?_⟩ | refine ⟨.inr ⟨rfl, rfl⟩, ?_⟩ | refine ⟨.inr ⟨congrArg (Value.int .i64) (by first | omega | (dsimp only; omega)), rfl⟩, ?_⟩)
  refine Zo (vx := Iv (i : Nat)) (vy := Iv (n : Nat)) rfl rfl (.bool false) rfl rfl (Zce (by omega)) ?_
  refine Zb (Zc (Zz rfl (Zbe (Zam (Zau (Zas rfl (Zc (Zg (Zj (Zd rfl rfl (.bool false) rfl (Zb (Zc (Zx (Zy ?_))))))))))))))
  rw [show Zg2 l = false from by unfold Zg2; rw [decide_eq_false (by omega : ¬ 60 < l.length), Bool.false_or, ← hR, List.drop_of_length_le (by omega)]; rfl]
  exact Zq (v := .bool false) rfl rfl rfl (by kernel_rfl) rfl
end Go.Flat
