/- Walks. -/
import Derived.Test.YtlnggiomppkjmaaDoorE1
set_option linter.unusedVariables false
set_option linter.unusedSimpArgs false
set_option maxRecDepth 20000
namespace Go.Flat
open Go.Proofs
variable {G : Glob}
theorem Zkm (n : Nat) (a b : D) : Zfo n a b = Zfo n b a := by
  cases h : Zfo n a b with
  | true => rw [Zjt] at h; exact (Zjt.2 h.symm).symm
  | false =>
    cases h' : Zfo n b a with
    | true => rw [Zjt] at h'; rw [Zjt.2 h'.symm] at h; cases h
    | false => rfl
theorem Zr3 (a b : Head) : Zi6 a b = Zi6 b a := by
 unfold Zi6; rw [BEq.comm (a := a.region), BEq.comm (a := a.epoch), BEq.comm (a := a.size), BEq.comm (a := a.tick), Zkm]
theorem Zo2 (a b : Signed) : Zev a b = Zev b a := by
 unfold Zev; rw [Zr3, BEq.comm (a := a.node), Zkm]
theorem Zqo (a b : Claim) : Zdm a b = Zdm b a := by
 unfold Zdm; rw [BEq.comm (a := a.region), BEq.comm (a := a.epoch), BEq.comm (a := a.node), BEq.comm (a := a.size), Zkm]
def Zff (e : Entry) : Prop :=
  (e.kind = 1 ∧ 1 ≤ e.client ∧ e.client ≤ 3 ∧ 1 ≤ e.seq ∧ e.seq ≤ 1000000 ∧ e.text.size ≤ 200 ∧ Zev e.head ⟨⟨0, 0, 0, dz, 0⟩, 0, dz⟩ = true ∧ Zdm e.claim ⟨0, 0, 0, 0, dz⟩ = true) ∨
  (e.kind = 2 ∧ e.client = 0 ∧ e.seq = 0 ∧ e.text = ⟨#[]⟩ ∧ Zt9 e.head ∧ Zdm e.claim ⟨0, 0, 0, 0, dz⟩ = true) ∨
  (e.kind = 3 ∧ e.client = 0 ∧ e.seq = 0 ∧ e.text = ⟨#[]⟩ ∧ Zev e.head ⟨⟨0, 0, 0, dz, 0⟩, 0, dz⟩ = true ∧ Zdb e.claim)
instance (e : Entry) : Decidable (Zff e) := inferInstanceAs (Decidable (_ ∨ _))
def Zej (e : Entry) : Int := if Zff e then 0 else 60
theorem Zrq {e : Entry} (h : Zej e = 0) : Zff e := by
 unfold Zej at h
 split at h
 ·assumption
 ·omega
theorem Zi2 {e : Entry} (h : ¬ Zej e = 0) : ¬ Zff e := fun q => h (if_pos q)
def Zcr (x : Item) : Prop := 1 ≤ x.epoch ∧ x.epoch ≤ 900000000 ∧ Zff x.entry
instance (x : Item) : Decidable (Zcr x) := inferInstanceAs (Decidable (_ ∧ _))
theorem Zrp {h : Head} : Za3 h = 0 ↔ Zkj h := by
 rw [Zht]; split <;> simp [*]
theorem Zby (e : Entry) : Zff e ↔ (
 (e.kind = 1 ∧ 1 ≤ e.client ∧ e.client ≤ 3 ∧ 1 ≤ e.seq ∧ e.seq ≤ 1000000 ∧ e.text.size ≤ 200 ∧ Zi5 ⟨e.kind, e.client, e.seq, e.text, ⟨⟨0, 0, 0, dz, 0⟩, 0, dz⟩, ⟨0, 0, 0, 0, dz⟩⟩ e = true) ∨
 (e.kind = 2 ∧ Za3 e.head.head = 0 ∧ 1 ≤ e.head.node ∧ e.head.node ≤ 3 ∧ Zi5 ⟨e.kind, 0, 0, ⟨#[]⟩, e.head, ⟨0, 0, 0, 0, dz⟩⟩ e = true) ∨
 (e.kind = 3 ∧ Zc9 e.claim = 0 ∧ Zi5 ⟨e.kind, 0, 0, ⟨#[]⟩, ⟨⟨0, 0, 0, dz, 0⟩, 0, dz⟩, e.claim⟩ e = true)) := by
 have hc : Zc9 e.claim = 0 ↔ Zdb e.claim := by unfold Zc9; split <;> simp [*]
 have hz : (⟨#[]⟩ : ByteArray) = e.text ↔ e.text = ⟨#[]⟩ := eq_comm
 have h1 : (0 : Int) = e.client ↔ e.client = 0 := eq_comm
 have h2 : (0 : Int) = e.seq ↔ e.seq = 0 := eq_comm
 have h3 : (1 : Int) = e.kind ↔ e.kind = 1 := eq_comm
 have h4 : (2 : Int) = e.kind ↔ e.kind = 2 := eq_comm
 have h5 : (3 : Int) = e.kind ↔ e.kind = 3 := eq_comm
 simp only [Zff, Zi5, hc, Zrp, Zt9, Zo3, Zkw, BEq.rfl, Bool.true_and, Bool.and_true, Bool.and_eq_true, beq_iff_eq, Zo2 ⟨⟨0, 0, 0, dz, 0⟩, 0, dz⟩, Zqo ⟨0, 0, 0, 0, dz⟩, hz, h1, h2, h3, h4, h5, and_assoc, and_left_comm, and_comm]
theorem Zmi (e : Entry) : Z4 Tryd.prog G 68 [Zdv e] [] (Iv (Zej e)) [] := by
  refine Zbd (fn := Tryd.f68) (nt := 67) rfl rfl rfl rfl ?_
  refine Zae 2 (H' := [hole, hole]) rfl ?_
  refine Ze (Zg (Zbs (v := Zdv e) (b := bxB 109 (Zda e)) (nid := 0) (H' := [bxB 109 (Zda e), hole]) (Zc (Iv 0) (Za (Zb (Ze (Zg (Zi (b := 0) (o := 0) (n := 0) (o' := 0) (Zm (p := pt 0 0) (v := Iv e.kind) ?_)))))))))
  refine Zcz (vs := [(0, Iv e.kind)]) (v := Zdv (⟨e.kind, 0, 0, ⟨#[]⟩, (⟨(⟨0, 0, 0, dz, 0⟩ : Head), 0, dz⟩ : Signed), (⟨0, 0, 0, 0, dz⟩ : Claim)⟩ : Entry)) rfl rfl rfl (by kernel_rfl) ?_
  refine Zaw (b := bxB 109 (Zda (⟨0, 0, 0, ⟨#[]⟩, (⟨(⟨0, 0, 0, dz, 0⟩ : Head), 0, dz⟩ : Signed), (⟨0, 0, 0, 0, dz⟩ : Claim)⟩ : Entry))) (nid := 1) (H' := [bxB 109 (Zda e), bxB 109 (Zda (⟨0, 0, 0, ⟨#[]⟩, (⟨(⟨0, 0, 0, dz, 0⟩ : Head), 0, dz⟩ : Signed), (⟨0, 0, 0, 0, dz⟩ : Claim)⟩ : Entry))]) (Zaa (p := pt 1 0) (v := Zdv (⟨e.kind, 0, 0, ⟨#[]⟩, (⟨(⟨0, 0, 0, dz, 0⟩ : Head), 0, dz⟩ : Signed), (⟨0, 0, 0, 0, dz⟩ : Claim)⟩ : Entry)) (b := 1) (blk := bxB 109 (Zda (⟨e.kind, 0, 0, ⟨#[]⟩, (⟨(⟨0, 0, 0, dz, 0⟩ : Head), 0, dz⟩ : Signed), (⟨0, 0, 0, 0, dz⟩ : Claim)⟩ : Entry))) (H' := [bxB 109 (Zda e), bxB 109 (Zda (⟨e.kind, 0, 0, ⟨#[]⟩, (⟨(⟨0, 0, 0, dz, 0⟩ : Head), 0, dz⟩ : Signed), (⟨0, 0, 0, 0, dz⟩ : Claim)⟩ : Entry))]) (Za (Zb (Ze (Zg (Zc (.bool false) (Za (Zb (Ze (Ze (Zg (Zi (b := 0) (o := 0) (n := 0) (o' := 0) (Zm (p := pt 0 0) (v := Iv e.kind) (Za (Zb (Z7 (Ze (Zg ?_))))))))))))))))))
  by_cases h1 : e.kind = 1
  refine Zl (vx := Iv e.kind) (vy := Iv 1) rfl rfl (.bool true) rfl rfl (Zc2 (by omega)) ?_
  refine Zc (.bool true) (Za (Zb (Zy rfl (Ze ?_))))
  refine Zgo (by kernel_rfl) ?_
  refine Zi (b := 0) (o := 0) (n := 1) (o' := 1) (Zm (p := pt 0 1) (v := Iv e.client) (Zi (b := 0) (o := 0) (n := 2) (o' := 2) (Zm (p := pt 0 2) (v := Iv e.seq) (Zi (b := 0) (o := 0) (n := 3) (o' := 3) (Zm (p := pt 0 3) (v := .string e.text) (Zi (b := 1) (o := 0) (n := 1) (o' := 1) (Zaa (p := pt 1 1) (v := Iv e.client) (b := 1) (blk := bxB 109 (Zda (⟨e.kind, e.client, 0, ⟨#[]⟩, (⟨(⟨0, 0, 0, dz, 0⟩ : Head), 0, dz⟩ : Signed), (⟨0, 0, 0, 0, dz⟩ : Claim)⟩ : Entry))) (H' := [bxB 109 (Zda e), bxB 109 (Zda (⟨e.kind, e.client, 0, ⟨#[]⟩, (⟨(⟨0, 0, 0, dz, 0⟩ : Head), 0, dz⟩ : Signed), (⟨0, 0, 0, 0, dz⟩ : Claim)⟩ : Entry))]) (Zi (b := 1) (o := 0) (n := 2) (o' := 2) (Zaa (p := pt 1 2) (v := Iv e.seq) (b := 1) (blk := bxB 109 (Zda (⟨e.kind, e.client, e.seq, ⟨#[]⟩, (⟨(⟨0, 0, 0, dz, 0⟩ : Head), 0, dz⟩ : Signed), (⟨0, 0, 0, 0, dz⟩ : Claim)⟩ : Entry))) (H' := [bxB 109 (Zda e), bxB 109 (Zda (⟨e.kind, e.client, e.seq, ⟨#[]⟩, (⟨(⟨0, 0, 0, dz, 0⟩ : Head), 0, dz⟩ : Signed), (⟨0, 0, 0, 0, dz⟩ : Claim)⟩ : Entry))]) (Zi (b := 1) (o := 0) (n := 3) (o' := 3) (Zaa (p := pt 1 3) (v := .string e.text) (b := 1) (blk := bxB 109 (Zda (⟨e.kind, e.client, e.seq, e.text, (⟨(⟨0, 0, 0, dz, 0⟩ : Head), 0, dz⟩ : Signed), (⟨0, 0, 0, 0, dz⟩ : Claim)⟩ : Entry))) (H' := [bxB 109 (Zda e), bxB 109 (Zda (⟨e.kind, e.client, e.seq, e.text, (⟨(⟨0, 0, 0, dz, 0⟩ : Head), 0, dz⟩ : Signed), (⟨0, 0, 0, 0, dz⟩ : Claim)⟩ : Entry))]) ?_)))))))))))
  refine Zef (Zd8 [[], [0], [], [2], [], [4], [0, 1], [0, 1, 6], [0, 1, 2, 3, 6, 7], [0, 1, 2, 3, 6, 7, 8], [0, 1, 2, 3, 4, 5, 6, 7, 8, 9], [0, 1, 2, 3, 4, 5, 6, 7, 8, 9, 10]] (by kernel_rfl) (by kernel_rfl)) ?_
  refine Zb (Zg (Zi (b := 1) (o := 0) (n := 1) (o' := 1) (Zm (p := pt 1 1) (v := Iv e.client) ?_)))
  by_cases h2 : 1 ≤ e.client
  by_cases h3 : e.client ≤ 3
  refine Zq ((Zar (G := G) e.client 1 3).res (congrArg Value.bool (Zbn (by omega) (by omega)))) (vals := [Iv e.client, Iv 1, Iv 3]) (res' := .bool true) rfl rfl rfl rfl rfl rfl ?_
  refine Zd (.bool true) (Zi (b := 1) (o := 0) (n := 2) (o' := 2) (Zm (p := pt 1 2) (v := Iv e.seq) ?_))
  by_cases h4 : 1 ≤ e.seq
  by_cases h5 : e.seq ≤ 1000000
  refine Zq ((Zar (G := G) e.seq 1 1000000).res (congrArg Value.bool (Zbn (by omega) (by omega)))) (vals := [Iv e.seq, Iv 1, Iv 1000000]) (res' := .bool true) rfl rfl rfl rfl rfl rfl ?_
  refine Zj (.bool true) (Zd (.bool true) (Zi (b := 1) (o := 0) (n := 3) (o' := 3) (Zm (p := pt 1 3) (v := .string e.text) (Zba (p := .string e.text) (v := Iv (e.text.size : Nat)) ?_))))
  by_cases h6 : (e.text.size : Nat) ≤ 200
  refine Zl (vx := Iv (e.text.size : Nat)) (vy := Iv 200) rfl rfl (.bool true) rfl rfl (Zj3 (by omega)) ?_
  refine Zj (.bool true) (Zc (.bool true) (Za (Z8 (Zb (Ze (Zg (Zd (.bool true) (Zd (.bool true) (Zm (p := pt 1 0) (v := Zdv (⟨e.kind, e.client, e.seq, e.text, (⟨(⟨0, 0, 0, dz, 0⟩ : Head), 0, dz⟩ : Signed), (⟨0, 0, 0, 0, dz⟩ : Claim)⟩ : Entry)) (Zm (p := pt 0 0) (v := Zdv e) ?_))))))))))
  rcases Bool.eq_false_or_eq_true (Zi5 (⟨e.kind, e.client, e.seq, e.text, (⟨(⟨0, 0, 0, dz, 0⟩ : Head), 0, dz⟩ : Signed), (⟨0, 0, 0, 0, dz⟩ : Claim)⟩ : Entry) e) with h7 | h7
  refine Zl (vx := Zdv (⟨e.kind, e.client, e.seq, e.text, (⟨(⟨0, 0, 0, dz, 0⟩ : Head), 0, dz⟩ : Signed), (⟨0, 0, 0, 0, dz⟩ : Claim)⟩ : Entry)) (vy := Zdv e) rfl rfl (.bool true) rfl rfl (Eq.trans (Zgj (⟨e.kind, e.client, e.seq, e.text, (⟨(⟨0, 0, 0, dz, 0⟩ : Head), 0, dz⟩ : Signed), (⟨0, 0, 0, 0, dz⟩ : Claim)⟩ : Entry) e) (by rw [h7] <;> rfl)) ?_
  refine Zj (.bool true) ?_
  refine Zq (Zb3 (G := G) true) (vals := [.bool true]) (res' := Iv 0) rfl rfl rfl rfl rfl rfl ?_
  refine Zc (Iv 0) (Za (Zb (Zr (Zs ?_))))
  rw [show Zej e = 0 from if_pos ((Zby e).2 (by first | exact .inl ⟨by omega, by omega, by omega, by omega, by omega, by omega, by assumption⟩ | exact .inr (.inl ⟨by omega, by omega, by omega, by omega, by assumption⟩) | exact .inr (.inr ⟨by omega, by omega, by assumption⟩)))]
  exact Zk (v := Iv 0) rfl rfl rfl (by kernel_rfl) rfl
  refine Zl (vx := Zdv (⟨e.kind, e.client, e.seq, e.text, (⟨(⟨0, 0, 0, dz, 0⟩ : Head), 0, dz⟩ : Signed), (⟨0, 0, 0, 0, dz⟩ : Claim)⟩ : Entry)) (vy := Zdv e) rfl rfl (.bool false) rfl rfl (Eq.trans (Zgj (⟨e.kind, e.client, e.seq, e.text, (⟨(⟨0, 0, 0, dz, 0⟩ : Head), 0, dz⟩ : Signed), (⟨0, 0, 0, 0, dz⟩ : Claim)⟩ : Entry) e) (by rw [h7] <;> rfl)) ?_
  refine Zj (.bool false) ?_
  refine Zq (Zb3 (G := G) false) (vals := [.bool false]) (res' := Iv 60) rfl rfl rfl rfl rfl rfl ?_
  refine Zc (Iv 60) (Za (Zb (Zr (Zs ?_))))
  rw [show Zej e = 60 from if_neg (fun q => by rcases (Zby e).1 q with q | q | q <;> first | omega | (exact absurd (by first | exact q.2.2.2.2.2.2 | exact q.2.2.2.2 | exact q.2.2) (Bool.eq_false_iff.1 (by assumption))))]
  exact Zk (v := Iv 60) rfl rfl rfl (by kernel_rfl) rfl
  refine Zl (vx := Iv (e.text.size : Nat)) (vy := Iv 200) rfl rfl (.bool false) rfl rfl (Zj2 (by omega)) ?_
  refine Zj (.bool false) (Zc (.bool false) (Za (Z8 (Zb (Ze (Zg (Zd (.bool false) (Zd (.bool false) (Zf (Zf (Zf (Zj (.bool false) ?_))))))))))))
  refine Zq (Zb3 (G := G) false) (vals := [.bool false]) (res' := Iv 60) rfl rfl rfl rfl rfl rfl ?_
  refine Zc (Iv 60) (Za (Zb (Zr (Zs ?_))))
  rw [show Zej e = 60 from if_neg (fun q => by rcases (Zby e).1 q with q | q | q <;> first | omega | (exact absurd (by first | exact q.2.2.2.2.2.2 | exact q.2.2.2.2 | exact q.2.2) (Bool.eq_false_iff.1 (by assumption))))]
  exact Zk (v := Iv 60) rfl rfl rfl (by kernel_rfl) rfl
  refine Zq ((Zar (G := G) e.seq 1 1000000).res (congrArg Value.bool (Zab (by omega)))) (vals := [Iv e.seq, Iv 1, Iv 1000000]) (res' := .bool false) rfl rfl rfl rfl rfl rfl ?_
  refine Zj (.bool false) (Zd (.bool false) (Zf (Zf (Zf (Zf (Zj (.bool false) (Zc (.bool false) (Za (Z8 (Zb (Ze (Zg (Zd (.bool false) (Zd (.bool false) (Zf (Zf (Zf (Zj (.bool false) ?_))))))))))))))))))
  refine Zq (Zb3 (G := G) false) (vals := [.bool false]) (res' := Iv 60) rfl rfl rfl rfl rfl rfl ?_
  refine Zc (Iv 60) (Za (Zb (Zr (Zs ?_))))
  rw [show Zej e = 60 from if_neg (fun q => by rcases (Zby e).1 q with q | q | q <;> first | omega | (exact absurd (by first | exact q.2.2.2.2.2.2 | exact q.2.2.2.2 | exact q.2.2) (Bool.eq_false_iff.1 (by assumption))))]
  exact Zk (v := Iv 60) rfl rfl rfl (by kernel_rfl) rfl
  refine Zq ((Zar (G := G) e.seq 1 1000000).res (congrArg Value.bool (Zab (by omega)))) (vals := [Iv e.seq, Iv 1, Iv 1000000]) (res' := .bool false) rfl rfl rfl rfl rfl rfl ?_
  refine Zj (.bool false) (Zd (.bool false) (Zf (Zf (Zf (Zf (Zj (.bool false) (Zc (.bool false) (Za (Z8 (Zb (Ze (Zg (Zd (.bool false) (Zd (.bool false) (Zf (Zf (Zf (Zj (.bool false) ?_))))))))))))))))))
  refine Zq (Zb3 (G := G) false) (vals := [.bool false]) (res' := Iv 60) rfl rfl rfl rfl rfl rfl ?_
  refine Zc (Iv 60) (Za (Zb (Zr (Zs ?_))))
  rw [show Zej e = 60 from if_neg (fun q => by rcases (Zby e).1 q with q | q | q <;> first | omega | (exact absurd (by first | exact q.2.2.2.2.2.2 | exact q.2.2.2.2 | exact q.2.2) (Bool.eq_false_iff.1 (by assumption))))]
  exact Zk (v := Iv 60) rfl rfl rfl (by kernel_rfl) rfl
  refine Zq ((Zar (G := G) e.client 1 3).res (congrArg Value.bool (Zab (by omega)))) (vals := [Iv e.client, Iv 1, Iv 3]) (res' := .bool false) rfl rfl rfl rfl rfl rfl ?_
  refine Zd (.bool false) (Zf (Zf (Zf (Zj (.bool false) (Zd (.bool false) (Zf (Zf (Zf (Zf (Zj (.bool false) (Zc (.bool false) (Za (Z8 (Zb (Ze (Zg (Zd (.bool false) (Zd (.bool false) (Zf (Zf (Zf (Zj (.bool false) ?_))))))))))))))))))))))
  refine Zq (Zb3 (G := G) false) (vals := [.bool false]) (res' := Iv 60) rfl rfl rfl rfl rfl rfl ?_
  refine Zc (Iv 60) (Za (Zb (Zr (Zs ?_))))
  rw [show Zej e = 60 from if_neg (fun q => by rcases (Zby e).1 q with q | q | q <;> first | omega | (exact absurd (by first | exact q.2.2.2.2.2.2 | exact q.2.2.2.2 | exact q.2.2) (Bool.eq_false_iff.1 (by assumption))))]
  exact Zk (v := Iv 60) rfl rfl rfl (by kernel_rfl) rfl
  refine Zq ((Zar (G := G) e.client 1 3).res (congrArg Value.bool (Zab (by omega)))) (vals := [Iv e.client, Iv 1, Iv 3]) (res' := .bool false) rfl rfl rfl rfl rfl rfl ?_
  refine Zd (.bool false) (Zf (Zf (Zf (Zj (.bool false) (Zd (.bool false) (Zf (Zf (Zf (Zf (Zj (.bool false) (Zc (.bool false) (Za (Z8 (Zb (Ze (Zg (Zd (.bool false) (Zd (.bool false) (Zf (Zf (Zf (Zj (.bool false) ?_))))))))))))))))))))))
  refine Zq (Zb3 (G := G) false) (vals := [.bool false]) (res' := Iv 60) rfl rfl rfl rfl rfl rfl ?_
  refine Zc (Iv 60) (Za (Zb (Zr (Zs ?_))))
  rw [show Zej e = 60 from if_neg (fun q => by rcases (Zby e).1 q with q | q | q <;> first | omega | (exact absurd (by first | exact q.2.2.2.2.2.2 | exact q.2.2.2.2 | exact q.2.2) (Bool.eq_false_iff.1 (by assumption))))]
  exact Zk (v := Iv 60) rfl rfl rfl (by kernel_rfl) rfl
  refine Zl (vx := Iv e.kind) (vy := Iv 1) rfl rfl (.bool false) rfl rfl (Zed (by omega)) ?_
  refine Zc (.bool false) (Za (Zb (Zt rfl (Ze (Zg ?_)))))
  by_cases h8 : e.kind = 2
  refine Zl (vx := Iv e.kind) (vy := Iv 2) rfl rfl (.bool true) rfl rfl (Zc2 (by omega)) ?_
  refine Zc (.bool true) (Za (Zb (Zy rfl (Ze (Zg (Zi (b := 0) (o := 0) (n := 4) (o' := 4) (Zm (p := pt 0 4) (v := Zf0 e.head) (Zi (b := 1) (o := 0) (n := 4) (o' := 4) (Zaa (p := pt 1 4) (v := Zf0 e.head) (b := 1) (blk := bxB 109 (Zda (⟨e.kind, 0, 0, ⟨#[]⟩, e.head, (⟨0, 0, 0, 0, dz⟩ : Claim)⟩ : Entry))) (H' := [bxB 109 (Zda e), bxB 109 (Zda (⟨e.kind, 0, 0, ⟨#[]⟩, e.head, (⟨0, 0, 0, 0, dz⟩ : Claim)⟩ : Entry))]) (Za (Zb (Zg (Zi (b := 1) (o := 0) (n := 4) (o' := 4) (Zi (b := 1) (o := 4) (n := 0) (o' := 4) (Zm (p := pt 1 4) (v := Zhd e.head.head) ?_)))))))))))))))
  refine Zq (Zrb (G := G) e.head.head) (vals := [Zhd e.head.head]) (res' := Iv (Za3 e.head.head)) rfl rfl rfl rfl rfl rfl ?_
  by_cases h9 : (Za3 e.head.head) = 0
  refine Zl (vx := Iv (Za3 e.head.head)) (vy := Iv 0) rfl rfl (.bool true) rfl rfl (Zc2 (by omega)) ?_
  refine Zd (.bool true) (Zi (b := 1) (o := 0) (n := 4) (o' := 4) (Zi (b := 1) (o := 4) (n := 36) (o' := 40) (Zm (p := pt 1 40) (v := Iv e.head.node) ?_)))
  by_cases h10 : 1 ≤ e.head.node
  by_cases h11 : e.head.node ≤ 3
  refine Zq ((Zar (G := G) e.head.node 1 3).res (congrArg Value.bool (Zbn (by omega) (by omega)))) (vals := [Iv e.head.node, Iv 1, Iv 3]) (res' := .bool true) rfl rfl rfl rfl rfl rfl ?_
  refine Zj (.bool true) (Zc (.bool true) (Za (Z8 (Zb (Ze (Zg (Zd (.bool true) (Zd (.bool true) (Zm (p := pt 1 0) (v := Zdv (⟨e.kind, 0, 0, ⟨#[]⟩, e.head, (⟨0, 0, 0, 0, dz⟩ : Claim)⟩ : Entry)) (Zm (p := pt 0 0) (v := Zdv e) ?_))))))))))
  rcases Bool.eq_false_or_eq_true (Zi5 (⟨e.kind, 0, 0, ⟨#[]⟩, e.head, (⟨0, 0, 0, 0, dz⟩ : Claim)⟩ : Entry) e) with h12 | h12
  refine Zl (vx := Zdv (⟨e.kind, 0, 0, ⟨#[]⟩, e.head, (⟨0, 0, 0, 0, dz⟩ : Claim)⟩ : Entry)) (vy := Zdv e) rfl rfl (.bool true) rfl rfl (Eq.trans (Zgj (⟨e.kind, 0, 0, ⟨#[]⟩, e.head, (⟨0, 0, 0, 0, dz⟩ : Claim)⟩ : Entry) e) (by rw [h12] <;> rfl)) ?_
  refine Zj (.bool true) ?_
  refine Zq (Zb3 (G := G) true) (vals := [.bool true]) (res' := Iv 0) rfl rfl rfl rfl rfl rfl ?_
  refine Zc (Iv 0) (Za (Zb (Zr (Zs ?_))))
  rw [show Zej e = 0 from if_pos ((Zby e).2 (by first | exact .inl ⟨by omega, by omega, by omega, by omega, by omega, by omega, by assumption⟩ | exact .inr (.inl ⟨by omega, by omega, by omega, by omega, by assumption⟩) | exact .inr (.inr ⟨by omega, by omega, by assumption⟩)))]
  exact Zk (v := Iv 0) rfl rfl rfl (by kernel_rfl) rfl
  refine Zl (vx := Zdv (⟨e.kind, 0, 0, ⟨#[]⟩, e.head, (⟨0, 0, 0, 0, dz⟩ : Claim)⟩ : Entry)) (vy := Zdv e) rfl rfl (.bool false) rfl rfl (Eq.trans (Zgj (⟨e.kind, 0, 0, ⟨#[]⟩, e.head, (⟨0, 0, 0, 0, dz⟩ : Claim)⟩ : Entry) e) (by rw [h12] <;> rfl)) ?_
  refine Zj (.bool false) ?_
  refine Zq (Zb3 (G := G) false) (vals := [.bool false]) (res' := Iv 60) rfl rfl rfl rfl rfl rfl ?_
  refine Zc (Iv 60) (Za (Zb (Zr (Zs ?_))))
  rw [show Zej e = 60 from if_neg (fun q => by rcases (Zby e).1 q with q | q | q <;> first | omega | (exact absurd (by first | exact q.2.2.2.2.2.2 | exact q.2.2.2.2 | exact q.2.2) (Bool.eq_false_iff.1 (by assumption))))]
  exact Zk (v := Iv 60) rfl rfl rfl (by kernel_rfl) rfl
  refine Zq ((Zar (G := G) e.head.node 1 3).res (congrArg Value.bool (Zab (by omega)))) (vals := [Iv e.head.node, Iv 1, Iv 3]) (res' := .bool false) rfl rfl rfl rfl rfl rfl ?_
  refine Zj (.bool false) (Zc (.bool false) (Za (Z8 (Zb (Ze (Zg (Zd (.bool false) (Zd (.bool false) (Zf (Zf (Zf (Zj (.bool false) ?_))))))))))))
  refine Zq (Zb3 (G := G) false) (vals := [.bool false]) (res' := Iv 60) rfl rfl rfl rfl rfl rfl ?_
  refine Zc (Iv 60) (Za (Zb (Zr (Zs ?_))))
  rw [show Zej e = 60 from if_neg (fun q => by rcases (Zby e).1 q with q | q | q <;> first | omega | (exact absurd (by first | exact q.2.2.2.2.2.2 | exact q.2.2.2.2 | exact q.2.2) (Bool.eq_false_iff.1 (by assumption))))]
  exact Zk (v := Iv 60) rfl rfl rfl (by kernel_rfl) rfl
  refine Zq ((Zar (G := G) e.head.node 1 3).res (congrArg Value.bool (Zab (by omega)))) (vals := [Iv e.head.node, Iv 1, Iv 3]) (res' := .bool false) rfl rfl rfl rfl rfl rfl ?_
  refine Zj (.bool false) (Zc (.bool false) (Za (Z8 (Zb (Ze (Zg (Zd (.bool false) (Zd (.bool false) (Zf (Zf (Zf (Zj (.bool false) ?_))))))))))))
  refine Zq (Zb3 (G := G) false) (vals := [.bool false]) (res' := Iv 60) rfl rfl rfl rfl rfl rfl ?_
  refine Zc (Iv 60) (Za (Zb (Zr (Zs ?_))))
  rw [show Zej e = 60 from if_neg (fun q => by rcases (Zby e).1 q with q | q | q <;> first | omega | (exact absurd (by first | exact q.2.2.2.2.2.2 | exact q.2.2.2.2 | exact q.2.2) (Bool.eq_false_iff.1 (by assumption))))]
  exact Zk (v := Iv 60) rfl rfl rfl (by kernel_rfl) rfl
  refine Zl (vx := Iv (Za3 e.head.head)) (vy := Iv 0) rfl rfl (.bool false) rfl rfl (Zed (by omega)) ?_
  refine Zd (.bool false) (Zf (Zf (Zf (Zf (Zj (.bool false) (Zc (.bool false) (Za (Z8 (Zb (Ze (Zg (Zd (.bool false) (Zd (.bool false) (Zf (Zf (Zf (Zj (.bool false) ?_)))))))))))))))))
  refine Zq (Zb3 (G := G) false) (vals := [.bool false]) (res' := Iv 60) rfl rfl rfl rfl rfl rfl ?_
  refine Zc (Iv 60) (Za (Zb (Zr (Zs ?_))))
  rw [show Zej e = 60 from if_neg (fun q => by rcases (Zby e).1 q with q | q | q <;> first | omega | (exact absurd (by first | exact q.2.2.2.2.2.2 | exact q.2.2.2.2 | exact q.2.2) (Bool.eq_false_iff.1 (by assumption))))]
  exact Zk (v := Iv 60) rfl rfl rfl (by kernel_rfl) rfl
  refine Zl (vx := Iv e.kind) (vy := Iv 2) rfl rfl (.bool false) rfl rfl (Zed (by omega)) ?_
  refine Zc (.bool false) (Za (Zb (Zt rfl (Ze (Zg ?_)))))
  by_cases h13 : e.kind = 3
  refine Zl (vx := Iv e.kind) (vy := Iv 3) rfl rfl (.bool true) rfl rfl (Zc2 (by omega)) ?_
  refine Zc (.bool true) (Za (Zb (Zy rfl (Ze (Zg (Zi (b := 0) (o := 0) (n := 73) (o' := 73) (Zm (p := pt 0 73) (v := Zac e.claim) (Zi (b := 1) (o := 0) (n := 73) (o' := 73) (Zaa (p := pt 1 73) (v := Zac e.claim) (b := 1) (blk := bxB 109 (Zda (⟨e.kind, 0, 0, ⟨#[]⟩, (⟨(⟨0, 0, 0, dz, 0⟩ : Head), 0, dz⟩ : Signed), e.claim⟩ : Entry))) (H' := [bxB 109 (Zda e), bxB 109 (Zda (⟨e.kind, 0, 0, ⟨#[]⟩, (⟨(⟨0, 0, 0, dz, 0⟩ : Head), 0, dz⟩ : Signed), e.claim⟩ : Entry))]) (Za (Zb (Zg (Zi (b := 1) (o := 0) (n := 73) (o' := 73) (Zm (p := pt 1 73) (v := Zac e.claim) ?_))))))))))))))
  refine Zq (Zfv (G := G) e.claim) (vals := [Zac e.claim]) (res' := Iv (Zc9 e.claim)) rfl rfl rfl rfl rfl rfl ?_
  by_cases h14 : (Zc9 e.claim) = 0
  refine Zl (vx := Iv (Zc9 e.claim)) (vy := Iv 0) rfl rfl (.bool true) rfl rfl (Zc2 (by omega)) ?_
  refine Zc (.bool true) (Za (Z8 (Zb (Ze (Zg (Zd (.bool true) (Zd (.bool true) (Zm (p := pt 1 0) (v := Zdv (⟨e.kind, 0, 0, ⟨#[]⟩, (⟨(⟨0, 0, 0, dz, 0⟩ : Head), 0, dz⟩ : Signed), e.claim⟩ : Entry)) (Zm (p := pt 0 0) (v := Zdv e) ?_)))))))))
  rcases Bool.eq_false_or_eq_true (Zi5 (⟨e.kind, 0, 0, ⟨#[]⟩, (⟨(⟨0, 0, 0, dz, 0⟩ : Head), 0, dz⟩ : Signed), e.claim⟩ : Entry) e) with h15 | h15
  refine Zl (vx := Zdv (⟨e.kind, 0, 0, ⟨#[]⟩, (⟨(⟨0, 0, 0, dz, 0⟩ : Head), 0, dz⟩ : Signed), e.claim⟩ : Entry)) (vy := Zdv e) rfl rfl (.bool true) rfl rfl (Eq.trans (Zgj (⟨e.kind, 0, 0, ⟨#[]⟩, (⟨(⟨0, 0, 0, dz, 0⟩ : Head), 0, dz⟩ : Signed), e.claim⟩ : Entry) e) (by rw [h15] <;> rfl)) ?_
  refine Zj (.bool true) ?_
  refine Zq (Zb3 (G := G) true) (vals := [.bool true]) (res' := Iv 0) rfl rfl rfl rfl rfl rfl ?_
  refine Zc (Iv 0) (Za (Zb (Zr (Zs ?_))))
  rw [show Zej e = 0 from if_pos ((Zby e).2 (by first | exact .inl ⟨by omega, by omega, by omega, by omega, by omega, by omega, by assumption⟩ | exact .inr (.inl ⟨by omega, by omega, by omega, by omega, by assumption⟩) | exact .inr (.inr ⟨by omega, by omega, by assumption⟩)))]
  exact Zk (v := Iv 0) rfl rfl rfl (by kernel_rfl) rfl
  refine Zl (vx := Zdv (⟨e.kind, 0, 0, ⟨#[]⟩, (⟨(⟨0, 0, 0, dz, 0⟩ : Head), 0, dz⟩ : Signed), e.claim⟩ : Entry)) (vy := Zdv e) rfl rfl (.bool false) rfl rfl (Eq.trans (Zgj (⟨e.kind, 0, 0, ⟨#[]⟩, (⟨(⟨0, 0, 0, dz, 0⟩ : Head), 0, dz⟩ : Signed), e.claim⟩ : Entry) e) (by rw [h15] <;> rfl)) ?_
  refine Zj (.bool false) ?_
  refine Zq (Zb3 (G := G) false) (vals := [.bool false]) (res' := Iv 60) rfl rfl rfl rfl rfl rfl ?_
  refine Zc (Iv 60) (Za (Zb (Zr (Zs ?_))))
  rw [show Zej e = 60 from if_neg (fun q => by rcases (Zby e).1 q with q | q | q <;> first | omega | (exact absurd (by first | exact q.2.2.2.2.2.2 | exact q.2.2.2.2 | exact q.2.2) (Bool.eq_false_iff.1 (by assumption))))]
  exact Zk (v := Iv 60) rfl rfl rfl (by kernel_rfl) rfl
  refine Zl (vx := Iv (Zc9 e.claim)) (vy := Iv 0) rfl rfl (.bool false) rfl rfl (Zed (by omega)) ?_
  refine Zc (.bool false) (Za (Z8 (Zb (Ze (Zg (Zd (.bool false) (Zd (.bool false) (Zf (Zf (Zf (Zj (.bool false) ?_)))))))))))
  refine Zq (Zb3 (G := G) false) (vals := [.bool false]) (res' := Iv 60) rfl rfl rfl rfl rfl rfl ?_
  refine Zc (Iv 60) (Za (Zb (Zr (Zs ?_))))
  rw [show Zej e = 60 from if_neg (fun q => by rcases (Zby e).1 q with q | q | q <;> first | omega | (exact absurd (by first | exact q.2.2.2.2.2.2 | exact q.2.2.2.2 | exact q.2.2) (Bool.eq_false_iff.1 (by assumption))))]
  exact Zk (v := Iv 60) rfl rfl rfl (by kernel_rfl) rfl
  refine Zl (vx := Iv e.kind) (vy := Iv 3) rfl rfl (.bool false) rfl rfl (Zed (by omega)) ?_
  refine Zc (.bool false) (Za (Zb (Zt rfl (Zx (Z8 (Zb (Ze (Zg (Zd (.bool false) (Zd (.bool false) (Zf (Zf (Zf (Zj (.bool false) ?_))))))))))))))
  refine Zq (Zb3 (G := G) false) (vals := [.bool false]) (res' := Iv 60) rfl rfl rfl rfl rfl rfl ?_
  refine Zc (Iv 60) (Za (Zb (Zr (Zs ?_))))
  rw [show Zej e = 60 from if_neg (fun q => by rcases (Zby e).1 q with q | q | q <;> first | omega | (exact absurd (by first | exact q.2.2.2.2.2.2 | exact q.2.2.2.2 | exact q.2.2) (Bool.eq_false_iff.1 (by assumption))))]
  exact Zk (v := Iv 60) rfl rfl rfl (by kernel_rfl) rfl
end Go.Flat
