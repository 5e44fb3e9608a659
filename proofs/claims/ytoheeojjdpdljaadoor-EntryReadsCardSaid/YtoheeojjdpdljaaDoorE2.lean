/- Walks. -/
import Derived.Test.YtoheeojjdpdljaaDoorE1
set_option linter.unusedVariables false
set_option linter.unusedSimpArgs false
set_option maxRecDepth 20000
namespace Go.Flat
open Go.Proofs
variable {G : Glob}
theorem Zk9 (n : Nat) (a b : D) : Zdd n a b = Zdd n b a := by
  cases h : Zdd n a b with
  | true => rw [Zht] at h; exact (Zht.2 h.symm).symm
  | false =>
    cases h' : Zdd n b a with
    | true => rw [Zht] at h'; rw [Zht.2 h'.symm] at h; cases h
    | false => rfl
theorem Zua (a b : Head) : Zee a b = Zee b a := by
 unfold Zee; rw [BEq.comm (a := a.region), BEq.comm (a := a.epoch), BEq.comm (a := a.size), BEq.comm (a := a.tick), Zk9]
theorem Zii (a b : Signed) : Zcm a b = Zcm b a := by
 unfold Zcm; rw [Zua, BEq.comm (a := a.node), Zk9]
theorem Zjb (a b : Claim) : Zdl a b = Zdl b a := by
 unfold Zdl; rw [BEq.comm (a := a.region), BEq.comm (a := a.epoch), BEq.comm (a := a.node), BEq.comm (a := a.size), Zk9]
def Zba (e : Entry) : Prop :=
  (e.kind = 1 ∧ 1 ≤ e.client ∧ e.client ≤ 3 ∧ 1 ≤ e.seq ∧ e.seq ≤ 1000000 ∧ e.text.size ≤ 200 ∧ Zcm e.head ⟨⟨0, 0, 0, dz, 0⟩, 0, dz⟩ = true ∧ Zdl e.claim ⟨0, 0, 0, 0, dz⟩ = true) ∨
  (e.kind = 2 ∧ e.client = 0 ∧ e.seq = 0 ∧ e.text = ⟨#[]⟩ ∧ Zfy e.head ∧ Zdl e.claim ⟨0, 0, 0, 0, dz⟩ = true) ∨
  (e.kind = 3 ∧ e.client = 0 ∧ e.seq = 0 ∧ e.text = ⟨#[]⟩ ∧ Zcm e.head ⟨⟨0, 0, 0, dz, 0⟩, 0, dz⟩ = true ∧ Za8 e.claim)
instance (e : Entry) : Decidable (Zba e) := inferInstanceAs (Decidable (_ ∨ _))
def Zfl (e : Entry) : Int := if Zba e then 0 else 60
theorem Z1s {e : Entry} (h : Zfl e = 0) : Zba e := by
 unfold Zfl at h
 split at h
 ·assumption
 ·omega
theorem Zt4 {e : Entry} (h : ¬ Zfl e = 0) : ¬ Zba e := fun q => h (if_pos q)
def Zd9 (x : Item) : Prop := 1 ≤ x.epoch ∧ x.epoch ≤ 900000000 ∧ Zba x.entry
instance (x : Item) : Decidable (Zd9 x) := inferInstanceAs (Decidable (_ ∧ _))
theorem Zsw {h : Head} : Zbm h = 0 ↔ Zbt h := by
 rw [Zgo]; split <;> simp [*]
theorem Zco (e : Entry) : Zba e ↔ (
 (e.kind = 1 ∧ 1 ≤ e.client ∧ e.client ≤ 3 ∧ 1 ≤ e.seq ∧ e.seq ≤ 1000000 ∧ e.text.size ≤ 200 ∧ Zfp ⟨e.kind, e.client, e.seq, e.text, ⟨⟨0, 0, 0, dz, 0⟩, 0, dz⟩, ⟨0, 0, 0, 0, dz⟩⟩ e = true) ∨
 (e.kind = 2 ∧ Zbm e.head.head = 0 ∧ 1 ≤ e.head.node ∧ e.head.node ≤ 3 ∧ Zfp ⟨e.kind, 0, 0, ⟨#[]⟩, e.head, ⟨0, 0, 0, 0, dz⟩⟩ e = true) ∨
 (e.kind = 3 ∧ Ze4 e.claim = 0 ∧ Zfp ⟨e.kind, 0, 0, ⟨#[]⟩, ⟨⟨0, 0, 0, dz, 0⟩, 0, dz⟩, e.claim⟩ e = true)) := by
 have hc : Ze4 e.claim = 0 ↔ Za8 e.claim := by unfold Ze4; split <;> simp [*]
 have hz : (⟨#[]⟩ : ByteArray) = e.text ↔ e.text = ⟨#[]⟩ := eq_comm
 have h1 : (0 : Int) = e.client ↔ e.client = 0 := eq_comm
 have h2 : (0 : Int) = e.seq ↔ e.seq = 0 := eq_comm
 have h3 : (1 : Int) = e.kind ↔ e.kind = 1 := eq_comm
 have h4 : (2 : Int) = e.kind ↔ e.kind = 2 := eq_comm
 have h5 : (3 : Int) = e.kind ↔ e.kind = 3 := eq_comm
 simp only [Zba, Zfp, hc, Zsw, Zfy, Zgv, Zf4, BEq.rfl, Bool.true_and, Bool.and_true, Bool.and_eq_true, beq_iff_eq, Zii ⟨⟨0, 0, 0, dz, 0⟩, 0, dz⟩, Zjb ⟨0, 0, 0, 0, dz⟩, hz, h1, h2, h3, h4, h5, and_assoc, and_left_comm, and_comm]
theorem Zjs (e : Entry) : Zao Tryd.prog G 10 [Zaz e] [] (Iv (Zfl e)) [] := by
  refine Zbv (fn := Tryd.f10) (nt := 67) rfl rfl rfl rfl ?_
  refine Zat 2 (H' := [hole, hole]) rfl ?_
  refine Zg (Zi ?_)
  refine Zel (v := Zaz e) (b := bxB 109 (Z2 e)) (nid := 0) (H' := [bxB 109 (Z2 e), hole]) rfl rfl rfl (by kernel_rfl) (by kernel_rfl) ?_
  refine Zb rfl rfl (Iv 0) rfl (Za (Zc (Zg (Zi ?_))))
  refine Zj (b := 0) (o := 0) (n := 0) (o' := 0) rfl rfl rfl rfl rfl ?_
  refine Zo (p := pt 0 0) (v := Iv e.kind) rfl rfl rfl (by kernel_rfl) ?_
  refine Zaw (vs := [(0, Iv e.kind)]) (v := Zaz (⟨e.kind, 0, 0, ⟨#[]⟩, (⟨(⟨0, 0, 0, dz, 0⟩ : Head), 0, dz⟩ : Signed), (⟨0, 0, 0, 0, dz⟩ : Claim)⟩ : Entry)) rfl rfl rfl (by kernel_rfl) ?_
  refine Zae (b := bxB 109 (Z2 (⟨0, 0, 0, ⟨#[]⟩, (⟨(⟨0, 0, 0, dz, 0⟩ : Head), 0, dz⟩ : Signed), (⟨0, 0, 0, 0, dz⟩ : Claim)⟩ : Entry))) (nid := 1) (H' := [bxB 109 (Z2 e), bxB 109 (Z2 (⟨0, 0, 0, ⟨#[]⟩, (⟨(⟨0, 0, 0, dz, 0⟩ : Head), 0, dz⟩ : Signed), (⟨0, 0, 0, 0, dz⟩ : Claim)⟩ : Entry))]) rfl rfl (by kernel_rfl) (by kernel_rfl) ?_
  refine Zr (p := pt 1 0) (v := Zaz (⟨e.kind, 0, 0, ⟨#[]⟩, (⟨(⟨0, 0, 0, dz, 0⟩ : Head), 0, dz⟩ : Signed), (⟨0, 0, 0, 0, dz⟩ : Claim)⟩ : Entry)) (b := 1) (blk := bxB 109 (Z2 (⟨e.kind, 0, 0, ⟨#[]⟩, (⟨(⟨0, 0, 0, dz, 0⟩ : Head), 0, dz⟩ : Signed), (⟨0, 0, 0, 0, dz⟩ : Claim)⟩ : Entry))) (H' := [bxB 109 (Z2 e), bxB 109 (Z2 (⟨e.kind, 0, 0, ⟨#[]⟩, (⟨(⟨0, 0, 0, dz, 0⟩ : Head), 0, dz⟩ : Signed), (⟨0, 0, 0, 0, dz⟩ : Claim)⟩ : Entry))]) rfl rfl rfl (by kernel_rfl) (by kernel_rfl) ?_
  refine Za (Zc (Zg (Zi (Zb rfl rfl (.bool false) rfl (Za (Zc (Zg (Zg (Zi ?_)))))))))
  refine Zj (b := 0) (o := 0) (n := 0) (o' := 0) rfl rfl rfl rfl rfl ?_
  refine Zo (p := pt 0 0) (v := Iv e.kind) rfl rfl rfl (by kernel_rfl) ?_
  refine Za (Zc (Zap (Zg (Zi ?_))))
  by_cases h1 : e.kind = 1
  refine Zn (vx := Iv e.kind) (vy := Iv 1) rfl rfl (.bool true) rfl rfl (Zbs (by omega)) ?_
  refine Zb rfl rfl (.bool true) rfl (Za (Zc (Z0 rfl (Zg ?_))))
  refine Zj2 (by kernel_rfl) ?_
  refine Zj (b := 0) (o := 0) (n := 1) (o' := 1) rfl rfl rfl rfl rfl ?_
  refine Zo (p := pt 0 1) (v := Iv e.client) rfl rfl rfl (by kernel_rfl) ?_
  refine Zj (b := 0) (o := 0) (n := 2) (o' := 2) rfl rfl rfl rfl rfl ?_
  refine Zo (p := pt 0 2) (v := Iv e.seq) rfl rfl rfl (by kernel_rfl) ?_
  refine Zj (b := 0) (o := 0) (n := 3) (o' := 3) rfl rfl rfl rfl rfl ?_
  refine Zo (p := pt 0 3) (v := .string e.text) rfl rfl rfl (by kernel_rfl) ?_
  refine Zj (b := 1) (o := 0) (n := 1) (o' := 1) rfl rfl rfl rfl rfl ?_
  refine Zr (p := pt 1 1) (v := Iv e.client) (b := 1) (blk := bxB 109 (Z2 (⟨e.kind, e.client, 0, ⟨#[]⟩, (⟨(⟨0, 0, 0, dz, 0⟩ : Head), 0, dz⟩ : Signed), (⟨0, 0, 0, 0, dz⟩ : Claim)⟩ : Entry))) (H' := [bxB 109 (Z2 e), bxB 109 (Z2 (⟨e.kind, e.client, 0, ⟨#[]⟩, (⟨(⟨0, 0, 0, dz, 0⟩ : Head), 0, dz⟩ : Signed), (⟨0, 0, 0, 0, dz⟩ : Claim)⟩ : Entry))]) rfl rfl rfl (by kernel_rfl) (by kernel_rfl) ?_
  refine Zj (b := 1) (o := 0) (n := 2) (o' := 2) rfl rfl rfl rfl rfl ?_
  refine Zr (p := pt 1 2) (v := Iv e.seq) (b := 1) (blk := bxB 109 (Z2 (⟨e.kind, e.client, e.seq, ⟨#[]⟩, (⟨(⟨0, 0, 0, dz, 0⟩ : Head), 0, dz⟩ : Signed), (⟨0, 0, 0, 0, dz⟩ : Claim)⟩ : Entry))) (H' := [bxB 109 (Z2 e), bxB 109 (Z2 (⟨e.kind, e.client, e.seq, ⟨#[]⟩, (⟨(⟨0, 0, 0, dz, 0⟩ : Head), 0, dz⟩ : Signed), (⟨0, 0, 0, 0, dz⟩ : Claim)⟩ : Entry))]) rfl rfl rfl (by kernel_rfl) (by kernel_rfl) ?_
  refine Zj (b := 1) (o := 0) (n := 3) (o' := 3) rfl rfl rfl rfl rfl ?_
  refine Zr (p := pt 1 3) (v := .string e.text) (b := 1) (blk := bxB 109 (Z2 (⟨e.kind, e.client, e.seq, e.text, (⟨(⟨0, 0, 0, dz, 0⟩ : Head), 0, dz⟩ : Signed), (⟨0, 0, 0, 0, dz⟩ : Claim)⟩ : Entry))) (H' := [bxB 109 (Z2 e), bxB 109 (Z2 (⟨e.kind, e.client, e.seq, e.text, (⟨(⟨0, 0, 0, dz, 0⟩ : Head), 0, dz⟩ : Signed), (⟨0, 0, 0, 0, dz⟩ : Claim)⟩ : Entry))]) rfl rfl rfl (by kernel_rfl) (by kernel_rfl) ?_
  refine Zig (Zki [[], [0], [], [2], [], [4], [0, 1], [0, 1, 6], [0, 1, 2, 3, 6, 7], [0, 1, 2, 3, 6, 7, 8], [0, 1, 2, 3, 4, 5, 6, 7, 8, 9], [0, 1, 2, 3, 4, 5, 6, 7, 8, 9, 10]] (by kernel_rfl) (by kernel_rfl)) ?_
  refine Zc (Zi ?_)
  refine Zj (b := 1) (o := 0) (n := 1) (o' := 1) rfl rfl rfl rfl rfl ?_
  refine Zo (p := pt 1 1) (v := Iv e.client) rfl rfl rfl (by kernel_rfl) ?_
  by_cases h2 : 1 ≤ e.client
  by_cases h3 : e.client ≤ 3
  refine Zs ((Zbl (G := G) e.client 1 3).res (congrArg Value.bool (Zbg (by omega) (by omega)))) (vals := [Iv e.client, Iv 1, Iv 3]) (res' := .bool true) rfl rfl rfl rfl rfl rfl ?_
  refine Zd rfl rfl (.bool true) rfl ?_
  refine Zj (b := 1) (o := 0) (n := 2) (o' := 2) rfl rfl rfl rfl rfl ?_
  refine Zo (p := pt 1 2) (v := Iv e.seq) rfl rfl rfl (by kernel_rfl) ?_
  by_cases h4 : 1 ≤ e.seq
  by_cases h5 : e.seq ≤ 1000000
  refine Zs ((Zbl (G := G) e.seq 1 1000000).res (congrArg Value.bool (Zbg (by omega) (by omega)))) (vals := [Iv e.seq, Iv 1, Iv 1000000]) (res' := .bool true) rfl rfl rfl rfl rfl rfl ?_
  refine Zk rfl rfl (.bool true) rfl (Zd rfl rfl (.bool true) rfl ?_)
  refine Zj (b := 1) (o := 0) (n := 3) (o' := 3) rfl rfl rfl rfl rfl ?_
  refine Zo (p := pt 1 3) (v := .string e.text) rfl rfl rfl (by kernel_rfl) ?_
  refine Zb7 (p := .string e.text) (v := Iv (e.text.size : Nat)) rfl rfl rfl rfl ?_
  by_cases h6 : (e.text.size : Nat) ≤ 200
  refine Zn (vx := Iv (e.text.size : Nat)) (vy := Iv 200) rfl rfl (.bool true) rfl rfl (Zmf (by omega)) ?_
  refine Zk rfl rfl (.bool true) rfl (Zb rfl rfl (.bool true) rfl (Za (Z1 (Zc (Zg (Zi (Zd rfl rfl (.bool true) rfl (Zd rfl rfl (.bool true) rfl ?_))))))))
  refine Zo (p := pt 1 0) (v := Zaz (⟨e.kind, e.client, e.seq, e.text, (⟨(⟨0, 0, 0, dz, 0⟩ : Head), 0, dz⟩ : Signed), (⟨0, 0, 0, 0, dz⟩ : Claim)⟩ : Entry)) rfl rfl rfl (by kernel_rfl) ?_
  refine Zo (p := pt 0 0) (v := Zaz e) rfl rfl rfl (by kernel_rfl) ?_
  rcases Bool.eq_false_or_eq_true (Zfp (⟨e.kind, e.client, e.seq, e.text, (⟨(⟨0, 0, 0, dz, 0⟩ : Head), 0, dz⟩ : Signed), (⟨0, 0, 0, 0, dz⟩ : Claim)⟩ : Entry) e) with h7 | h7
  refine Zn (vx := Zaz (⟨e.kind, e.client, e.seq, e.text, (⟨(⟨0, 0, 0, dz, 0⟩ : Head), 0, dz⟩ : Signed), (⟨0, 0, 0, 0, dz⟩ : Claim)⟩ : Entry)) (vy := Zaz e) rfl rfl (.bool true) rfl rfl (Eq.trans (Zhn (⟨e.kind, e.client, e.seq, e.text, (⟨(⟨0, 0, 0, dz, 0⟩ : Head), 0, dz⟩ : Signed), (⟨0, 0, 0, 0, dz⟩ : Claim)⟩ : Entry) e) (by rw [h7] <;> rfl)) ?_
  refine Zk rfl rfl (.bool true) rfl ?_
  refine Zs (Zcu (G := G) true) (vals := [.bool true]) (res' := Iv 0) rfl rfl rfl rfl rfl rfl ?_
  refine Zb rfl rfl (Iv 0) rfl (Za (Zc (Zv (Zu ?_))))
  rw [show Zfl e = 0 from if_pos ((Zco e).2 (by first | exact .inl ⟨by omega, by omega, by omega, by omega, by omega, by omega, by assumption⟩ | exact .inr (.inl ⟨by omega, by omega, by omega, by omega, by assumption⟩) | exact .inr (.inr ⟨by omega, by omega, by assumption⟩)))]
  exact Zm (v := Iv 0) rfl rfl rfl (by kernel_rfl) rfl
  refine Zn (vx := Zaz (⟨e.kind, e.client, e.seq, e.text, (⟨(⟨0, 0, 0, dz, 0⟩ : Head), 0, dz⟩ : Signed), (⟨0, 0, 0, 0, dz⟩ : Claim)⟩ : Entry)) (vy := Zaz e) rfl rfl (.bool false) rfl rfl (Eq.trans (Zhn (⟨e.kind, e.client, e.seq, e.text, (⟨(⟨0, 0, 0, dz, 0⟩ : Head), 0, dz⟩ : Signed), (⟨0, 0, 0, 0, dz⟩ : Claim)⟩ : Entry) e) (by rw [h7] <;> rfl)) ?_
  refine Zk rfl rfl (.bool false) rfl ?_
  refine Zs (Zcu (G := G) false) (vals := [.bool false]) (res' := Iv 60) rfl rfl rfl rfl rfl rfl ?_
  refine Zb rfl rfl (Iv 60) rfl (Za (Zc (Zv (Zu ?_))))
  rw [show Zfl e = 60 from if_neg (fun q => by rcases (Zco e).1 q with q | q | q <;> first | omega | (exact absurd (by first | exact q.2.2.2.2.2.2 | exact q.2.2.2.2 | exact q.2.2) (Bool.eq_false_iff.1 (by assumption))))]
  exact Zm (v := Iv 60) rfl rfl rfl (by kernel_rfl) rfl
  refine Zn (vx := Iv (e.text.size : Nat)) (vy := Iv 200) rfl rfl (.bool false) rfl rfl (Zk8 (by omega)) ?_
  refine Zk rfl rfl (.bool false) rfl (Zb rfl rfl (.bool false) rfl (Za (Z1 (Zc (Zg (Zi (Zd rfl rfl (.bool false) rfl (Zd rfl rfl (.bool false) rfl (Zf rfl rfl (Zf rfl rfl (Zf rfl rfl (Zk rfl rfl (.bool false) rfl ?_))))))))))))
  refine Zs (Zcu (G := G) false) (vals := [.bool false]) (res' := Iv 60) rfl rfl rfl rfl rfl rfl ?_
  refine Zb rfl rfl (Iv 60) rfl (Za (Zc (Zv (Zu ?_))))
  rw [show Zfl e = 60 from if_neg (fun q => by rcases (Zco e).1 q with q | q | q <;> first | omega | (exact absurd (by first | exact q.2.2.2.2.2.2 | exact q.2.2.2.2 | exact q.2.2) (Bool.eq_false_iff.1 (by assumption))))]
  exact Zm (v := Iv 60) rfl rfl rfl (by kernel_rfl) rfl
  refine Zs ((Zbl (G := G) e.seq 1 1000000).res (congrArg Value.bool (Zah (by omega)))) (vals := [Iv e.seq, Iv 1, Iv 1000000]) (res' := .bool false) rfl rfl rfl rfl rfl rfl ?_
  refine Zk rfl rfl (.bool false) rfl (Zd rfl rfl (.bool false) rfl (Zf rfl rfl (Zf rfl rfl (Zf rfl rfl (Zf rfl rfl (Zk rfl rfl (.bool false) rfl (Zb rfl rfl (.bool false) rfl (Za (Z1 (Zc (Zg (Zi (Zd rfl rfl (.bool false) rfl (Zd rfl rfl (.bool false) rfl (Zf rfl rfl (Zf rfl rfl (Zf rfl rfl (Zk rfl rfl (.bool false) rfl ?_))))))))))))))))))
  refine Zs (Zcu (G := G) false) (vals := [.bool false]) (res' := Iv 60) rfl rfl rfl rfl rfl rfl ?_
  refine Zb rfl rfl (Iv 60) rfl (Za (Zc (Zv (Zu ?_))))
  rw [show Zfl e = 60 from if_neg (fun q => by rcases (Zco e).1 q with q | q | q <;> first | omega | (exact absurd (by first | exact q.2.2.2.2.2.2 | exact q.2.2.2.2 | exact q.2.2) (Bool.eq_false_iff.1 (by assumption))))]
  exact Zm (v := Iv 60) rfl rfl rfl (by kernel_rfl) rfl
  refine Zs ((Zbl (G := G) e.seq 1 1000000).res (congrArg Value.bool (Zah (by omega)))) (vals := [Iv e.seq, Iv 1, Iv 1000000]) (res' := .bool false) rfl rfl rfl rfl rfl rfl ?_
  refine Zk rfl rfl (.bool false) rfl (Zd rfl rfl (.bool false) rfl (Zf rfl rfl (Zf rfl rfl (Zf rfl rfl (Zf rfl rfl (Zk rfl rfl (.bool false) rfl (Zb rfl rfl (.bool false) rfl (Za (Z1 (Zc (Zg (Zi (Zd rfl rfl (.bool false) rfl (Zd rfl rfl (.bool false) rfl (Zf rfl rfl (Zf rfl rfl (Zf rfl rfl (Zk rfl rfl (.bool false) rfl ?_))))))))))))))))))
  refine Zs (Zcu (G := G) false) (vals := [.bool false]) (res' := Iv 60) rfl rfl rfl rfl rfl rfl ?_
  refine Zb rfl rfl (Iv 60) rfl (Za (Zc (Zv (Zu ?_))))
  rw [show Zfl e = 60 from if_neg (fun q => by rcases (Zco e).1 q with q | q | q <;> first | omega | (exact absurd (by first | exact q.2.2.2.2.2.2 | exact q.2.2.2.2 | exact q.2.2) (Bool.eq_false_iff.1 (by assumption))))]
  exact Zm (v := Iv 60) rfl rfl rfl (by kernel_rfl) rfl
  refine Zs ((Zbl (G := G) e.client 1 3).res (congrArg Value.bool (Zah (by omega)))) (vals := [Iv e.client, Iv 1, Iv 3]) (res' := .bool false) rfl rfl rfl rfl rfl rfl ?_
  refine Zd rfl rfl (.bool false) rfl (Zf rfl rfl (Zf rfl rfl (Zf rfl rfl (Zk rfl rfl (.bool false) rfl (Zd rfl rfl (.bool false) rfl (Zf rfl rfl (Zf rfl rfl (Zf rfl rfl (Zf rfl rfl (Zk rfl rfl (.bool false) rfl (Zb rfl rfl (.bool false) rfl (Za (Z1 (Zc (Zg (Zi (Zd rfl rfl (.bool false) rfl (Zd rfl rfl (.bool false) rfl (Zf rfl rfl (Zf rfl rfl (Zf rfl rfl (Zk rfl rfl (.bool false) rfl ?_))))))))))))))))))))))
  refine Zs (Zcu (G := G) false) (vals := [.bool false]) (res' := Iv 60) rfl rfl rfl rfl rfl rfl ?_
  refine Zb rfl rfl (Iv 60) rfl (Za (Zc (Zv (Zu ?_))))
  rw [show Zfl e = 60 from if_neg (fun q => by rcases (Zco e).1 q with q | q | q <;> first | omega | (exact absurd (by first | exact q.2.2.2.2.2.2 | exact q.2.2.2.2 | exact q.2.2) (Bool.eq_false_iff.1 (by assumption))))]
  exact Zm (v := Iv 60) rfl rfl rfl (by kernel_rfl) rfl
  refine Zs ((Zbl (G := G) e.client 1 3).res (congrArg Value.bool (Zah (by omega)))) (vals := [Iv e.client, Iv 1, Iv 3]) (res' := .bool false) rfl rfl rfl rfl rfl rfl ?_
  refine Zd rfl rfl (.bool false) rfl (Zf rfl rfl (Zf rfl rfl (Zf rfl rfl (Zk rfl rfl (.bool false) rfl (Zd rfl rfl (.bool false) rfl (Zf rfl rfl (Zf rfl rfl (Zf rfl rfl (Zf rfl rfl (Zk rfl rfl (.bool false) rfl (Zb rfl rfl (.bool false) rfl (Za (Z1 (Zc (Zg (Zi (Zd rfl rfl (.bool false) rfl (Zd rfl rfl (.bool false) rfl (Zf rfl rfl (Zf rfl rfl (Zf rfl rfl (Zk rfl rfl (.bool false) rfl ?_))))))))))))))))))))))
  refine Zs (Zcu (G := G) false) (vals := [.bool false]) (res' := Iv 60) rfl rfl rfl rfl rfl rfl ?_
  refine Zb rfl rfl (Iv 60) rfl (Za (Zc (Zv (Zu ?_))))
  rw [show Zfl e = 60 from if_neg (fun q => by rcases (Zco e).1 q with q | q | q <;> first | omega | (exact absurd (by first | exact q.2.2.2.2.2.2 | exact q.2.2.2.2 | exact q.2.2) (Bool.eq_false_iff.1 (by assumption))))]
  exact Zm (v := Iv 60) rfl rfl rfl (by kernel_rfl) rfl
  refine Zn (vx := Iv e.kind) (vy := Iv 1) rfl rfl (.bool false) rfl rfl (Zb6 (by omega)) ?_
  refine Zb rfl rfl (.bool false) rfl (Za (Zc (Zx rfl (Zg (Zi ?_)))))
  by_cases h8 : e.kind = 2
  refine Zn (vx := Iv e.kind) (vy := Iv 2) rfl rfl (.bool true) rfl rfl (Zbs (by omega)) ?_
  refine Zb rfl rfl (.bool true) rfl (Za (Zc (Z0 rfl (Zg (Zi ?_)))))
  refine Zj (b := 0) (o := 0) (n := 4) (o' := 4) rfl rfl rfl rfl rfl ?_
  refine Zo (p := pt 0 4) (v := Zaa e.head) rfl rfl rfl (by kernel_rfl) ?_
  refine Zj (b := 1) (o := 0) (n := 4) (o' := 4) rfl rfl rfl rfl rfl ?_
  refine Zr (p := pt 1 4) (v := Zaa e.head) (b := 1) (blk := bxB 109 (Z2 (⟨e.kind, 0, 0, ⟨#[]⟩, e.head, (⟨0, 0, 0, 0, dz⟩ : Claim)⟩ : Entry))) (H' := [bxB 109 (Z2 e), bxB 109 (Z2 (⟨e.kind, 0, 0, ⟨#[]⟩, e.head, (⟨0, 0, 0, 0, dz⟩ : Claim)⟩ : Entry))]) rfl rfl rfl (by kernel_rfl) (by kernel_rfl) ?_
  refine Za (Zc (Zi ?_))
  refine Zj (b := 1) (o := 0) (n := 4) (o' := 4) rfl rfl rfl rfl rfl ?_
  refine Zj (b := 1) (o := 4) (n := 0) (o' := 4) rfl rfl rfl rfl rfl ?_
  refine Zo (p := pt 1 4) (v := Zbf e.head.head) rfl rfl rfl (by kernel_rfl) ?_
  refine Zs (Zoj (G := G) e.head.head) (vals := [Zbf e.head.head]) (res' := Iv (Zbm e.head.head)) rfl rfl rfl rfl rfl rfl ?_
  by_cases h9 : (Zbm e.head.head) = 0
  refine Zn (vx := Iv (Zbm e.head.head)) (vy := Iv 0) rfl rfl (.bool true) rfl rfl (Zbs (by omega)) ?_
  refine Zd rfl rfl (.bool true) rfl ?_
  refine Zj (b := 1) (o := 0) (n := 4) (o' := 4) rfl rfl rfl rfl rfl ?_
  refine Zj (b := 1) (o := 4) (n := 36) (o' := 40) rfl rfl rfl rfl rfl ?_
  refine Zo (p := pt 1 40) (v := Iv e.head.node) rfl rfl rfl (by kernel_rfl) ?_
  by_cases h10 : 1 ≤ e.head.node
  by_cases h11 : e.head.node ≤ 3
  refine Zs ((Zbl (G := G) e.head.node 1 3).res (congrArg Value.bool (Zbg (by omega) (by omega)))) (vals := [Iv e.head.node, Iv 1, Iv 3]) (res' := .bool true) rfl rfl rfl rfl rfl rfl ?_
  refine Zk rfl rfl (.bool true) rfl (Zb rfl rfl (.bool true) rfl (Za (Z1 (Zc (Zg (Zi (Zd rfl rfl (.bool true) rfl (Zd rfl rfl (.bool true) rfl ?_))))))))
  refine Zo (p := pt 1 0) (v := Zaz (⟨e.kind, 0, 0, ⟨#[]⟩, e.head, (⟨0, 0, 0, 0, dz⟩ : Claim)⟩ : Entry)) rfl rfl rfl (by kernel_rfl) ?_
  refine Zo (p := pt 0 0) (v := Zaz e) rfl rfl rfl (by kernel_rfl) ?_
  rcases Bool.eq_false_or_eq_true (Zfp (⟨e.kind, 0, 0, ⟨#[]⟩, e.head, (⟨0, 0, 0, 0, dz⟩ : Claim)⟩ : Entry) e) with h12 | h12
  refine Zn (vx := Zaz (⟨e.kind, 0, 0, ⟨#[]⟩, e.head, (⟨0, 0, 0, 0, dz⟩ : Claim)⟩ : Entry)) (vy := Zaz e) rfl rfl (.bool true) rfl rfl (Eq.trans (Zhn (⟨e.kind, 0, 0, ⟨#[]⟩, e.head, (⟨0, 0, 0, 0, dz⟩ : Claim)⟩ : Entry) e) (by rw [h12] <;> rfl)) ?_
  refine Zk rfl rfl (.bool true) rfl ?_
  refine Zs (Zcu (G := G) true) (vals := [.bool true]) (res' := Iv 0) rfl rfl rfl rfl rfl rfl ?_
  refine Zb rfl rfl (Iv 0) rfl (Za (Zc (Zv (Zu ?_))))
  rw [show Zfl e = 0 from if_pos ((Zco e).2 (by first | exact .inl ⟨by omega, by omega, by omega, by omega, by omega, by omega, by assumption⟩ | exact .inr (.inl ⟨by omega, by omega, by omega, by omega, by assumption⟩) | exact .inr (.inr ⟨by omega, by omega, by assumption⟩)))]
  exact Zm (v := Iv 0) rfl rfl rfl (by kernel_rfl) rfl
  refine Zn (vx := Zaz (⟨e.kind, 0, 0, ⟨#[]⟩, e.head, (⟨0, 0, 0, 0, dz⟩ : Claim)⟩ : Entry)) (vy := Zaz e) rfl rfl (.bool false) rfl rfl (Eq.trans (Zhn (⟨e.kind, 0, 0, ⟨#[]⟩, e.head, (⟨0, 0, 0, 0, dz⟩ : Claim)⟩ : Entry) e) (by rw [h12] <;> rfl)) ?_
  refine Zk rfl rfl (.bool false) rfl ?_
  refine Zs (Zcu (G := G) false) (vals := [.bool false]) (res' := Iv 60) rfl rfl rfl rfl rfl rfl ?_
  refine Zb rfl rfl (Iv 60) rfl (Za (Zc (Zv (Zu ?_))))
  rw [show Zfl e = 60 from if_neg (fun q => by rcases (Zco e).1 q with q | q | q <;> first | omega | (exact absurd (by first | exact q.2.2.2.2.2.2 | exact q.2.2.2.2 | exact q.2.2) (Bool.eq_false_iff.1 (by assumption))))]
  exact Zm (v := Iv 60) rfl rfl rfl (by kernel_rfl) rfl
  refine Zs ((Zbl (G := G) e.head.node 1 3).res (congrArg Value.bool (Zah (by omega)))) (vals := [Iv e.head.node, Iv 1, Iv 3]) (res' := .bool false) rfl rfl rfl rfl rfl rfl ?_
  refine Zk rfl rfl (.bool false) rfl (Zb rfl rfl (.bool false) rfl (Za (Z1 (Zc (Zg (Zi (Zd rfl rfl (.bool false) rfl (Zd rfl rfl (.bool false) rfl (Zf rfl rfl (Zf rfl rfl (Zf rfl rfl (Zk rfl rfl (.bool false) rfl ?_))))))))))))
  refine Zs (Zcu (G := G) false) (vals := [.bool false]) (res' := Iv 60) rfl rfl rfl rfl rfl rfl ?_
  refine Zb rfl rfl (Iv 60) rfl (Za (Zc (Zv (Zu ?_))))
  rw [show Zfl e = 60 from if_neg (fun q => by rcases (Zco e).1 q with q | q | q <;> first | omega | (exact absurd (by first | exact q.2.2.2.2.2.2 | exact q.2.2.2.2 | exact q.2.2) (Bool.eq_false_iff.1 (by assumption))))]
  exact Zm (v := Iv 60) rfl rfl rfl (by kernel_rfl) rfl
  refine Zs ((Zbl (G := G) e.head.node 1 3).res (congrArg Value.bool (Zah (by omega)))) (vals := [Iv e.head.node, Iv 1, Iv 3]) (res' := .bool false) rfl rfl rfl rfl rfl rfl ?_
  refine Zk rfl rfl (.bool false) rfl (Zb rfl rfl (.bool false) rfl (Za (Z1 (Zc (Zg (Zi (Zd rfl rfl (.bool false) rfl (Zd rfl rfl (.bool false) rfl (Zf rfl rfl (Zf rfl rfl (Zf rfl rfl (Zk rfl rfl (.bool false) rfl ?_))))))))))))
  refine Zs (Zcu (G := G) false) (vals := [.bool false]) (res' := Iv 60) rfl rfl rfl rfl rfl rfl ?_
  refine Zb rfl rfl (Iv 60) rfl (Za (Zc (Zv (Zu ?_))))
  rw [show Zfl e = 60 from if_neg (fun q => by rcases (Zco e).1 q with q | q | q <;> first | omega | (exact absurd (by first | exact q.2.2.2.2.2.2 | exact q.2.2.2.2 | exact q.2.2) (Bool.eq_false_iff.1 (by assumption))))]
  exact Zm (v := Iv 60) rfl rfl rfl (by kernel_rfl) rfl
  refine Zn (vx := Iv (Zbm e.head.head)) (vy := Iv 0) rfl rfl (.bool false) rfl rfl (Zb6 (by omega)) ?_
  refine Zd rfl rfl (.bool false) rfl (Zf rfl rfl (Zf rfl rfl (Zf rfl rfl (Zf rfl rfl (Zk rfl rfl (.bool false) rfl (Zb rfl rfl (.bool false) rfl (Za (Z1 (Zc (Zg (Zi (Zd rfl rfl (.bool false) rfl (Zd rfl rfl (.bool false) rfl (Zf rfl rfl (Zf rfl rfl (Zf rfl rfl (Zk rfl rfl (.bool false) rfl ?_)))))))))))))))))
  refine Zs (Zcu (G := G) false) (vals := [.bool false]) (res' := Iv 60) rfl rfl rfl rfl rfl rfl ?_
  refine Zb rfl rfl (Iv 60) rfl (Za (Zc (Zv (Zu ?_))))
  rw [show Zfl e = 60 from if_neg (fun q => by rcases (Zco e).1 q with q | q | q <;> first | omega | (exact absurd (by first | exact q.2.2.2.2.2.2 | exact q.2.2.2.2 | exact q.2.2) (Bool.eq_false_iff.1 (by assumption))))]
  exact Zm (v := Iv 60) rfl rfl rfl (by kernel_rfl) rfl
  refine Zn (vx := Iv e.kind) (vy := Iv 2) rfl rfl (.bool false) rfl rfl (Zb6 (by omega)) ?_
  refine Zb rfl rfl (.bool false) rfl (Za (Zc (Zx rfl (Zg (Zi ?_)))))
  by_cases h13 : e.kind = 3
  refine Zn (vx := Iv e.kind) (vy := Iv 3) rfl rfl (.bool true) rfl rfl (Zbs (by omega)) ?_
  refine Zb rfl rfl (.bool true) rfl (Za (Zc (Z0 rfl (Zg (Zi ?_)))))
  refine Zj (b := 0) (o := 0) (n := 73) (o' := 73) rfl rfl rfl rfl rfl ?_
  refine Zo (p := pt 0 73) (v := Zz e.claim) rfl rfl rfl (by kernel_rfl) ?_
  refine Zj (b := 1) (o := 0) (n := 73) (o' := 73) rfl rfl rfl rfl rfl ?_
  refine Zr (p := pt 1 73) (v := Zz e.claim) (b := 1) (blk := bxB 109 (Z2 (⟨e.kind, 0, 0, ⟨#[]⟩, (⟨(⟨0, 0, 0, dz, 0⟩ : Head), 0, dz⟩ : Signed), e.claim⟩ : Entry))) (H' := [bxB 109 (Z2 e), bxB 109 (Z2 (⟨e.kind, 0, 0, ⟨#[]⟩, (⟨(⟨0, 0, 0, dz, 0⟩ : Head), 0, dz⟩ : Signed), e.claim⟩ : Entry))]) rfl rfl rfl (by kernel_rfl) (by kernel_rfl) ?_
  refine Za (Zc (Zi ?_))
  refine Zj (b := 1) (o := 0) (n := 73) (o' := 73) rfl rfl rfl rfl rfl ?_
  refine Zo (p := pt 1 73) (v := Zz e.claim) rfl rfl rfl (by kernel_rfl) ?_
  refine Zs (Zgw (G := G) e.claim) (vals := [Zz e.claim]) (res' := Iv (Ze4 e.claim)) rfl rfl rfl rfl rfl rfl ?_
  by_cases h14 : (Ze4 e.claim) = 0
  refine Zn (vx := Iv (Ze4 e.claim)) (vy := Iv 0) rfl rfl (.bool true) rfl rfl (Zbs (by omega)) ?_
  refine Zb rfl rfl (.bool true) rfl (Za (Z1 (Zc (Zg (Zi (Zd rfl rfl (.bool true) rfl (Zd rfl rfl (.bool true) rfl ?_)))))))
  refine Zo (p := pt 1 0) (v := Zaz (⟨e.kind, 0, 0, ⟨#[]⟩, (⟨(⟨0, 0, 0, dz, 0⟩ : Head), 0, dz⟩ : Signed), e.claim⟩ : Entry)) rfl rfl rfl (by kernel_rfl) ?_
  refine Zo (p := pt 0 0) (v := Zaz e) rfl rfl rfl (by kernel_rfl) ?_
  rcases Bool.eq_false_or_eq_true (Zfp (⟨e.kind, 0, 0, ⟨#[]⟩, (⟨(⟨0, 0, 0, dz, 0⟩ : Head), 0, dz⟩ : Signed), e.claim⟩ : Entry) e) with h15 | h15
  refine Zn (vx := Zaz (⟨e.kind, 0, 0, ⟨#[]⟩, (⟨(⟨0, 0, 0, dz, 0⟩ : Head), 0, dz⟩ : Signed), e.claim⟩ : Entry)) (vy := Zaz e) rfl rfl (.bool true) rfl rfl (Eq.trans (Zhn (⟨e.kind, 0, 0, ⟨#[]⟩, (⟨(⟨0, 0, 0, dz, 0⟩ : Head), 0, dz⟩ : Signed), e.claim⟩ : Entry) e) (by rw [h15] <;> rfl)) ?_
  refine Zk rfl rfl (.bool true) rfl ?_
  refine Zs (Zcu (G := G) true) (vals := [.bool true]) (res' := Iv 0) rfl rfl rfl rfl rfl rfl ?_
  refine Zb rfl rfl (Iv 0) rfl (Za (Zc (Zv (Zu ?_))))
  rw [show Zfl e = 0 from if_pos ((Zco e).2 (by first | exact .inl ⟨by omega, by omega, by omega, by omega, by omega, by omega, by assumption⟩ | exact .inr (.inl ⟨by omega, by omega, by omega, by omega, by assumption⟩) | exact .inr (.inr ⟨by omega, by omega, by assumption⟩)))]
  exact Zm (v := Iv 0) rfl rfl rfl (by kernel_rfl) rfl
  refine Zn (vx := Zaz (⟨e.kind, 0, 0, ⟨#[]⟩, (⟨(⟨0, 0, 0, dz, 0⟩ : Head), 0, dz⟩ : Signed), e.claim⟩ : Entry)) (vy := Zaz e) rfl rfl (.bool false) rfl rfl (Eq.trans (Zhn (⟨e.kind, 0, 0, ⟨#[]⟩, (⟨(⟨0, 0, 0, dz, 0⟩ : Head), 0, dz⟩ : Signed), e.claim⟩ : Entry) e) (by rw [h15] <;> rfl)) ?_
  refine Zk rfl rfl (.bool false) rfl ?_
  refine Zs (Zcu (G := G) false) (vals := [.bool false]) (res' := Iv 60) rfl rfl rfl rfl rfl rfl ?_
  refine Zb rfl rfl (Iv 60) rfl (Za (Zc (Zv (Zu ?_))))
  rw [show Zfl e = 60 from if_neg (fun q => by rcases (Zco e).1 q with q | q | q <;> first | omega | (exact absurd (by first | exact q.2.2.2.2.2.2 | exact q.2.2.2.2 | exact q.2.2) (Bool.eq_false_iff.1 (by assumption))))]
  exact Zm (v := Iv 60) rfl rfl rfl (by kernel_rfl) rfl
  refine Zn (vx := Iv (Ze4 e.claim)) (vy := Iv 0) rfl rfl (.bool false) rfl rfl (Zb6 (by omega)) ?_
  refine Zb rfl rfl (.bool false) rfl (Za (Z1 (Zc (Zg (Zi (Zd rfl rfl (.bool false) rfl (Zd rfl rfl (.bool false) rfl (Zf rfl rfl (Zf rfl rfl (Zf rfl rfl (Zk rfl rfl (.bool false) rfl ?_)))))))))))
  refine Zs (Zcu (G := G) false) (vals := [.bool false]) (res' := Iv 60) rfl rfl rfl rfl rfl rfl ?_
  refine Zb rfl rfl (Iv 60) rfl (Za (Zc (Zv (Zu ?_))))
  rw [show Zfl e = 60 from if_neg (fun q => by rcases (Zco e).1 q with q | q | q <;> first | omega | (exact absurd (by first | exact q.2.2.2.2.2.2 | exact q.2.2.2.2 | exact q.2.2) (Bool.eq_false_iff.1 (by assumption))))]
  exact Zm (v := Iv 60) rfl rfl rfl (by kernel_rfl) rfl
  refine Zn (vx := Iv e.kind) (vy := Iv 3) rfl rfl (.bool false) rfl rfl (Zb6 (by omega)) ?_
  refine Zb rfl rfl (.bool false) rfl (Za (Zc (Zx rfl (Zai (Z1 (Zc (Zg (Zi (Zd rfl rfl (.bool false) rfl (Zd rfl rfl (.bool false) rfl (Zf rfl rfl (Zf rfl rfl (Zf rfl rfl (Zk rfl rfl (.bool false) rfl ?_))))))))))))))
  refine Zs (Zcu (G := G) false) (vals := [.bool false]) (res' := Iv 60) rfl rfl rfl rfl rfl rfl ?_
  refine Zb rfl rfl (Iv 60) rfl (Za (Zc (Zv (Zu ?_))))
  rw [show Zfl e = 60 from if_neg (fun q => by rcases (Zco e).1 q with q | q | q <;> first | omega | (exact absurd (by first | exact q.2.2.2.2.2.2 | exact q.2.2.2.2 | exact q.2.2) (Bool.eq_false_iff.1 (by assumption))))]
  exact Zm (v := Iv 60) rfl rfl rfl (by kernel_rfl) rfl
theorem Zl2 (e : Entry) : Zao Tryd.prog G 31 [Zaz e] [] (.bool (decide (Zba e))) [] := by
  refine Zbv (fn := Tryd.f31) (nt := 85) rfl rfl rfl rfl ?_
  refine Zat 1 (H' := [hole]) rfl ?_
  refine Zg (Zi ?_)
  refine Zel (v := Zaz e) (b := bxB 109 (Z2 e)) (nid := 0) (H' := [bxB 109 (Z2 e)]) rfl rfl rfl (by kernel_rfl) (by kernel_rfl) ?_
  refine Zb rfl rfl (.bool false) rfl (Za (Zc (Zg (Zg (Zi ?_)))))
  refine Zj (b := 0) (o := 0) (n := 0) (o' := 0) rfl rfl rfl rfl rfl ?_
  refine Zo (p := pt 0 0) (v := Iv e.kind) rfl rfl rfl (by kernel_rfl) ?_
  refine Za (Zc (Zap (Zg (Zi ?_))))
  by_cases h1 : e.kind = 1
  refine Zn (vx := Iv e.kind) (vy := Iv 1) rfl rfl (.bool true) rfl rfl (Zbs (by omega)) ?_
  refine Zb rfl rfl (.bool true) rfl (Za (Zc (Z0 rfl (Zg (Zi ?_)))))
  refine Zj (b := 0) (o := 0) (n := 1) (o' := 1) rfl rfl rfl rfl rfl ?_
  refine Zo (p := pt 0 1) (v := Iv e.client) rfl rfl rfl (by kernel_rfl) ?_
  by_cases h2 : 1 ≤ e.client
  by_cases h3 : e.client ≤ 3
  refine Zs ((Zbn (G := G) e.client 1 3).res (congrArg Value.bool (Zbg (by omega) (by omega)))) (vals := [Iv e.client, Iv 1, Iv 3]) (res' := .bool true) rfl rfl rfl rfl rfl rfl ?_
  refine Zd rfl rfl (.bool true) rfl ?_
  refine Zj (b := 0) (o := 0) (n := 2) (o' := 2) rfl rfl rfl rfl rfl ?_
  refine Zo (p := pt 0 2) (v := Iv e.seq) rfl rfl rfl (by kernel_rfl) ?_
  by_cases h4 : 1 ≤ e.seq
  by_cases h5 : e.seq ≤ 1000000
  refine Zs ((Zbn (G := G) e.seq 1 1000000).res (congrArg Value.bool (Zbg (by omega) (by omega)))) (vals := [Iv e.seq, Iv 1, Iv 1000000]) (res' := .bool true) rfl rfl rfl rfl rfl rfl ?_
  refine Zk rfl rfl (.bool true) rfl (Zd rfl rfl (.bool true) rfl ?_)
  refine Zj (b := 0) (o := 0) (n := 3) (o' := 3) rfl rfl rfl rfl rfl ?_
  refine Zo (p := pt 0 3) (v := .string e.text) rfl rfl rfl (by kernel_rfl) ?_
  refine Zb7 (p := .string e.text) (v := Iv (e.text.size : Nat)) rfl rfl rfl rfl ?_
  by_cases h6 : (e.text.size : Nat) ≤ 200
  refine Zn (vx := Iv (e.text.size : Nat)) (vy := Iv 200) rfl rfl (.bool true) rfl rfl (Zmf (by omega)) ?_
  refine Zk rfl rfl (.bool true) rfl (Zd rfl rfl (.bool true) rfl ?_)
  refine Zj (b := 0) (o := 0) (n := 4) (o' := 4) rfl rfl rfl rfl rfl ?_
  refine Zo (p := pt 0 4) (v := Zaa e.head) rfl rfl rfl (by kernel_rfl) ?_
  refine Zaw (vs := []) (v := Zaa (⟨(⟨0, 0, 0, dz, 0⟩ : Head), 0, dz⟩ : Signed)) rfl rfl rfl (by kernel_rfl) ?_
  rcases Bool.eq_false_or_eq_true (Zcm e.head (⟨(⟨0, 0, 0, dz, 0⟩ : Head), 0, dz⟩ : Signed)) with h7 | h7
  refine Zn (vx := Zaa e.head) (vy := Zaa (⟨(⟨0, 0, 0, dz, 0⟩ : Head), 0, dz⟩ : Signed)) rfl rfl (.bool true) rfl rfl (Eq.trans (Zjc e.head (⟨(⟨0, 0, 0, dz, 0⟩ : Head), 0, dz⟩ : Signed)) (by rw [h7] <;> rfl)) ?_
  refine Zk rfl rfl (.bool true) rfl (Zd rfl rfl (.bool true) rfl ?_)
  refine Zj (b := 0) (o := 0) (n := 73) (o' := 73) rfl rfl rfl rfl rfl ?_
  refine Zo (p := pt 0 73) (v := Zz e.claim) rfl rfl rfl (by kernel_rfl) ?_
  refine Zaw (vs := []) (v := Zz (⟨0, 0, 0, 0, dz⟩ : Claim)) rfl rfl rfl (by kernel_rfl) ?_
  rcases Bool.eq_false_or_eq_true (Zdl e.claim (⟨0, 0, 0, 0, dz⟩ : Claim)) with h8 | h8
  refine Zn (vx := Zz e.claim) (vy := Zz (⟨0, 0, 0, 0, dz⟩ : Claim)) rfl rfl (.bool true) rfl rfl (Eq.trans (Zi5 e.claim (⟨0, 0, 0, 0, dz⟩ : Claim)) (by rw [h8] <;> rfl)) ?_
  refine Zk rfl rfl (.bool true) rfl (Zb rfl rfl (.bool true) rfl (Za (Zc (Zv (Zbb (Z5 (Zu ?_)))))))
  rw [show decide (Zba e) = true from decide_eq_true (by first | exact .inl ⟨by omega, by omega, by omega, by omega, by omega, by omega, by assumption, by assumption⟩ | exact .inr (.inl ⟨by omega, by omega, by omega, (Za9 _ _).1 (by assumption), of_decide_eq_true (by assumption), by assumption⟩) | exact .inr (.inr ⟨by omega, by omega, by omega, (Za9 _ _).1 (by assumption), by assumption, of_decide_eq_true (by assumption)⟩))]
  exact Zm (v := .bool true) rfl rfl rfl (by kernel_rfl) rfl
  refine Zn (vx := Zz e.claim) (vy := Zz (⟨0, 0, 0, 0, dz⟩ : Claim)) rfl rfl (.bool false) rfl rfl (Eq.trans (Zi5 e.claim (⟨0, 0, 0, 0, dz⟩ : Claim)) (by rw [h8] <;> rfl)) ?_
  refine Zk rfl rfl (.bool false) rfl (Zb rfl rfl (.bool false) rfl (Za (Zc (Zv (Zbb (Z5 (Zu ?_)))))))
  rw [show decide (Zba e) = false from decide_eq_false (fun q => by rcases q with ⟨q1, q2, q3, q4, q5, q6, q7, q8⟩ | ⟨q1, q2, q3, q4, q5, q6⟩ | ⟨q1, q2, q3, q4, q5, q6⟩ <;> first | omega | (exact absurd ((Za9 _ _).2 q4) (by rw [‹Zbq _ _ = false›]; decide)) | (simp [*] at *; done) | (simp_all; done))]
  exact Zm (v := .bool false) rfl rfl rfl (by kernel_rfl) rfl
  refine Zn (vx := Zaa e.head) (vy := Zaa (⟨(⟨0, 0, 0, dz, 0⟩ : Head), 0, dz⟩ : Signed)) rfl rfl (.bool false) rfl rfl (Eq.trans (Zjc e.head (⟨(⟨0, 0, 0, dz, 0⟩ : Head), 0, dz⟩ : Signed)) (by rw [h7] <;> rfl)) ?_
  refine Zk rfl rfl (.bool false) rfl (Zd rfl rfl (.bool false) rfl (Zf rfl rfl (Zf rfl rfl (Zf rfl rfl (Zf rfl rfl (Zk rfl rfl (.bool false) rfl (Zb rfl rfl (.bool false) rfl (Za (Zc (Zv (Zbb (Z5 (Zu ?_)))))))))))))
  rw [show decide (Zba e) = false from decide_eq_false (fun q => by rcases q with ⟨q1, q2, q3, q4, q5, q6, q7, q8⟩ | ⟨q1, q2, q3, q4, q5, q6⟩ | ⟨q1, q2, q3, q4, q5, q6⟩ <;> first | omega | (exact absurd ((Za9 _ _).2 q4) (by rw [‹Zbq _ _ = false›]; decide)) | (simp [*] at *; done) | (simp_all; done))]
  exact Zm (v := .bool false) rfl rfl rfl (by kernel_rfl) rfl
  refine Zn (vx := Iv (e.text.size : Nat)) (vy := Iv 200) rfl rfl (.bool false) rfl rfl (Zk8 (by omega)) ?_
  refine Zk rfl rfl (.bool false) rfl (Zd rfl rfl (.bool false) rfl (Zf rfl rfl (Zf rfl rfl (Zf rfl rfl (Zf rfl rfl (Zk rfl rfl (.bool false) rfl (Zd rfl rfl (.bool false) rfl (Zf rfl rfl (Zf rfl rfl (Zf rfl rfl (Zf rfl rfl (Zk rfl rfl (.bool false) rfl (Zb rfl rfl (.bool false) rfl (Za (Zc (Zv (Zbb (Z5 (Zu ?_)))))))))))))))))))
  rw [show decide (Zba e) = false from decide_eq_false (fun q => by rcases q with ⟨q1, q2, q3, q4, q5, q6, q7, q8⟩ | ⟨q1, q2, q3, q4, q5, q6⟩ | ⟨q1, q2, q3, q4, q5, q6⟩ <;> first | omega | (exact absurd ((Za9 _ _).2 q4) (by rw [‹Zbq _ _ = false›]; decide)) | (simp [*] at *; done) | (simp_all; done))]
  exact Zm (v := .bool false) rfl rfl rfl (by kernel_rfl) rfl
  refine Zs ((Zbn (G := G) e.seq 1 1000000).res (congrArg Value.bool (Zah (by omega)))) (vals := [Iv e.seq, Iv 1, Iv 1000000]) (res' := .bool false) rfl rfl rfl rfl rfl rfl ?_
  refine Zk rfl rfl (.bool false) rfl (Zd rfl rfl (.bool false) rfl (Zf rfl rfl (Zf rfl rfl (Zf rfl rfl (Zf rfl rfl (Zk rfl rfl (.bool false) rfl (Zd rfl rfl (.bool false) rfl (Zf rfl rfl (Zf rfl rfl (Zf rfl rfl (Zf rfl rfl (Zk rfl rfl (.bool false) rfl (Zd rfl rfl (.bool false) rfl (Zf rfl rfl (Zf rfl rfl (Zf rfl rfl (Zf rfl rfl (Zk rfl rfl (.bool false) rfl (Zb rfl rfl (.bool false) rfl (Za (Zc (Zv (Zbb (Z5 (Zu ?_)))))))))))))))))))))))))
  rw [show decide (Zba e) = false from decide_eq_false (fun q => by rcases q with ⟨q1, q2, q3, q4, q5, q6, q7, q8⟩ | ⟨q1, q2, q3, q4, q5, q6⟩ | ⟨q1, q2, q3, q4, q5, q6⟩ <;> first | omega | (exact absurd ((Za9 _ _).2 q4) (by rw [‹Zbq _ _ = false›]; decide)) | (simp [*] at *; done) | (simp_all; done))]
  exact Zm (v := .bool false) rfl rfl rfl (by kernel_rfl) rfl
  refine Zs ((Zbn (G := G) e.seq 1 1000000).res (congrArg Value.bool (Zah (by omega)))) (vals := [Iv e.seq, Iv 1, Iv 1000000]) (res' := .bool false) rfl rfl rfl rfl rfl rfl ?_
  refine Zk rfl rfl (.bool false) rfl (Zd rfl rfl (.bool false) rfl (Zf rfl rfl (Zf rfl rfl (Zf rfl rfl (Zf rfl rfl (Zk rfl rfl (.bool false) rfl (Zd rfl rfl (.bool false) rfl (Zf rfl rfl (Zf rfl rfl (Zf rfl rfl (Zf rfl rfl (Zk rfl rfl (.bool false) rfl (Zd rfl rfl (.bool false) rfl (Zf rfl rfl (Zf rfl rfl (Zf rfl rfl (Zf rfl rfl (Zk rfl rfl (.bool false) rfl (Zb rfl rfl (.bool false) rfl (Za (Zc (Zv (Zbb (Z5 (Zu ?_)))))))))))))))))))))))))
  rw [show decide (Zba e) = false from decide_eq_false (fun q => by rcases q with ⟨q1, q2, q3, q4, q5, q6, q7, q8⟩ | ⟨q1, q2, q3, q4, q5, q6⟩ | ⟨q1, q2, q3, q4, q5, q6⟩ <;> first | omega | (exact absurd ((Za9 _ _).2 q4) (by rw [‹Zbq _ _ = false›]; decide)) | (simp [*] at *; done) | (simp_all; done))]
  exact Zm (v := .bool false) rfl rfl rfl (by kernel_rfl) rfl
  refine Zs ((Zbn (G := G) e.client 1 3).res (congrArg Value.bool (Zah (by omega)))) (vals := [Iv e.client, Iv 1, Iv 3]) (res' := .bool false) rfl rfl rfl rfl rfl rfl ?_
  refine Zd rfl rfl (.bool false) rfl (Zf rfl rfl (Zf rfl rfl (Zf rfl rfl (Zk rfl rfl (.bool false) rfl (Zd rfl rfl (.bool false) rfl (Zf rfl rfl (Zf rfl rfl (Zf rfl rfl (Zf rfl rfl (Zk rfl rfl (.bool false) rfl (Zd rfl rfl (.bool false) rfl (Zf rfl rfl (Zf rfl rfl (Zf rfl rfl (Zf rfl rfl (Zk rfl rfl (.bool false) rfl (Zd rfl rfl (.bool false) rfl (Zf rfl rfl (Zf rfl rfl (Zf rfl rfl (Zf rfl rfl (Zk rfl rfl (.bool false) rfl ?_))))))))))))))))))))))
  refine Zb rfl rfl (.bool false) rfl (Za (Zc (Zv (Zbb (Z5 (Zu ?_))))))
  rw [show decide (Zba e) = false from decide_eq_false (fun q => by rcases q with ⟨q1, q2, q3, q4, q5, q6, q7, q8⟩ | ⟨q1, q2, q3, q4, q5, q6⟩ | ⟨q1, q2, q3, q4, q5, q6⟩ <;> first | omega | (exact absurd ((Za9 _ _).2 q4) (by rw [‹Zbq _ _ = false›]; decide)) | (simp [*] at *; done) | (simp_all; done))]
  exact Zm (v := .bool false) rfl rfl rfl (by kernel_rfl) rfl
  refine Zs ((Zbn (G := G) e.client 1 3).res (congrArg Value.bool (Zah (by omega)))) (vals := [Iv e.client, Iv 1, Iv 3]) (res' := .bool false) rfl rfl rfl rfl rfl rfl ?_
  refine Zd rfl rfl (.bool false) rfl (Zf rfl rfl (Zf rfl rfl (Zf rfl rfl (Zk rfl rfl (.bool false) rfl (Zd rfl rfl (.bool false) rfl (Zf rfl rfl (Zf rfl rfl (Zf rfl rfl (Zf rfl rfl (Zk rfl rfl (.bool false) rfl (Zd rfl rfl (.bool false) rfl (Zf rfl rfl (Zf rfl rfl (Zf rfl rfl (Zf rfl rfl (Zk rfl rfl (.bool false) rfl (Zd rfl rfl (.bool false) rfl (Zf rfl rfl (Zf rfl rfl (Zf rfl rfl (Zf rfl rfl (Zk rfl rfl (.bool false) rfl ?_))))))))))))))))))))))
  refine Zb rfl rfl (.bool false) rfl (Za (Zc (Zv (Zbb (Z5 (Zu ?_))))))
  rw [show decide (Zba e) = false from decide_eq_false (fun q => by rcases q with ⟨q1, q2, q3, q4, q5, q6, q7, q8⟩ | ⟨q1, q2, q3, q4, q5, q6⟩ | ⟨q1, q2, q3, q4, q5, q6⟩ <;> first | omega | (exact absurd ((Za9 _ _).2 q4) (by rw [‹Zbq _ _ = false›]; decide)) | (simp [*] at *; done) | (simp_all; done))]
  exact Zm (v := .bool false) rfl rfl rfl (by kernel_rfl) rfl
  refine Zn (vx := Iv e.kind) (vy := Iv 1) rfl rfl (.bool false) rfl rfl (Zb6 (by omega)) ?_
  refine Zb rfl rfl (.bool false) rfl (Za (Zc (Zx rfl (Zg (Zi ?_)))))
  by_cases h9 : e.kind = 2
  refine Zn (vx := Iv e.kind) (vy := Iv 2) rfl rfl (.bool true) rfl rfl (Zbs (by omega)) ?_
  refine Zb rfl rfl (.bool true) rfl (Za (Zc (Z0 rfl (Zg (Zi ?_)))))
  refine Zj (b := 0) (o := 0) (n := 1) (o' := 1) rfl rfl rfl rfl rfl ?_
  refine Zo (p := pt 0 1) (v := Iv e.client) rfl rfl rfl (by kernel_rfl) ?_
  by_cases h10 : e.client = 0
  refine Zn (vx := Iv e.client) (vy := Iv 0) rfl rfl (.bool true) rfl rfl (Zbs (by omega)) ?_
  refine Zd rfl rfl (.bool true) rfl ?_
  refine Zj (b := 0) (o := 0) (n := 2) (o' := 2) rfl rfl rfl rfl rfl ?_
  refine Zo (p := pt 0 2) (v := Iv e.seq) rfl rfl rfl (by kernel_rfl) ?_
  by_cases h11 : e.seq = 0
  refine Zn (vx := Iv e.seq) (vy := Iv 0) rfl rfl (.bool true) rfl rfl (Zbs (by omega)) ?_
  refine Zk rfl rfl (.bool true) rfl (Zd rfl rfl (.bool true) rfl ?_)
  refine Zj (b := 0) (o := 0) (n := 3) (o' := 3) rfl rfl rfl rfl rfl ?_
  refine Zo (p := pt 0 3) (v := .string e.text) rfl rfl rfl (by kernel_rfl) ?_
  rcases Bool.eq_false_or_eq_true (Zbq e.text ⟨#[]⟩) with h12 | h12
  · have hzh12 := Zj5 h12
    refine Zn (vx := .string e.text) (vy := .string ⟨#[]⟩) rfl rfl (.bool true) rfl rfl (Eq.trans (Zda _ _) (by rw [h12] <;> rfl)) ?_
    refine Zk rfl rfl (.bool true) rfl (Zd rfl rfl (.bool true) rfl ?_)
    refine Zj (b := 0) (o := 0) (n := 4) (o' := 4) rfl rfl rfl rfl rfl ?_
    refine Zo (p := pt 0 4) (v := Zaa e.head) rfl rfl rfl (by kernel_rfl) ?_
    refine Zs (Zqk (G := G) e.head) (vals := [Zaa e.head]) (res' := .bool (decide (Zfy e.head))) rfl rfl rfl rfl rfl rfl ?_
    refine Zk rfl rfl (.bool (decide (Zfy e.head))) rfl (Zd rfl rfl (.bool (decide (Zfy e.head))) rfl ?_)
    rcases Bool.eq_false_or_eq_true (decide (Zfy e.head)) with h13 | h13
    refine Zj (b := 0) (o := 0) (n := 73) (o' := 73) (by exact congrArg (fun b => some (b == true)) h13) rfl rfl rfl rfl ?_
    refine Zo (p := pt 0 73) (v := Zz e.claim) (by exact congrArg (fun b => some (b == true)) h13) rfl rfl (by kernel_rfl) ?_
    refine Zaw (vs := []) (v := Zz (⟨0, 0, 0, 0, dz⟩ : Claim)) (by exact congrArg (fun b => some (b == true)) h13) rfl rfl (by kernel_rfl) ?_
    rcases Bool.eq_false_or_eq_true (Zdl e.claim (⟨0, 0, 0, 0, dz⟩ : Claim)) with h14 | h14
    refine Zn (vx := Zz e.claim) (vy := Zz (⟨0, 0, 0, 0, dz⟩ : Claim)) (by exact congrArg (fun b => some (b == true)) h13) rfl (.bool true) rfl rfl (Eq.trans (Zi5 e.claim (⟨0, 0, 0, 0, dz⟩ : Claim)) (by rw [h14] <;> rfl)) ?_
    refine Zk rfl rfl (.bool true) (by show some (if _ then _ else _) = _; rw [h13] <;> rfl) ?_
    refine Zb rfl rfl (.bool true) rfl (Za (Zc (Zv (Zbb (Z5 (Zu ?_))))))
    rw [show decide (Zba e) = true from decide_eq_true (by first | exact .inl ⟨by omega, by omega, by omega, by omega, by omega, by omega, by assumption, by assumption⟩ | exact .inr (.inl ⟨by omega, by omega, by omega, (Za9 _ _).1 (by assumption), of_decide_eq_true (by assumption), by assumption⟩) | exact .inr (.inr ⟨by omega, by omega, by omega, (Za9 _ _).1 (by assumption), by assumption, of_decide_eq_true (by assumption)⟩))]
    exact Zm (v := .bool true) rfl rfl rfl (by kernel_rfl) rfl
    refine Zn (vx := Zz e.claim) (vy := Zz (⟨0, 0, 0, 0, dz⟩ : Claim)) (by exact congrArg (fun b => some (b == true)) h13) rfl (.bool false) rfl rfl (Eq.trans (Zi5 e.claim (⟨0, 0, 0, 0, dz⟩ : Claim)) (by rw [h14] <;> rfl)) ?_
    refine Zk rfl rfl (.bool false) (by show some (if _ then _ else _) = _; rw [h13] <;> rfl) ?_
    refine Zb rfl rfl (.bool false) rfl (Za (Zc (Zv (Zbb (Z5 (Zu ?_))))))
    rw [show decide (Zba e) = false from decide_eq_false (fun q => by rcases q with ⟨q1, q2, q3, q4, q5, q6, q7, q8⟩ | ⟨q1, q2, q3, q4, q5, q6⟩ | ⟨q1, q2, q3, q4, q5, q6⟩ <;> first | omega | (exact absurd ((Za9 _ _).2 q4) (by rw [‹Zbq _ _ = false›]; decide)) | (simp [*] at *; done) | (simp_all; done))]
    exact Zm (v := .bool false) rfl rfl rfl (by kernel_rfl) rfl
    refine Zf (by exact congrArg (fun b => some (b == true)) h13) rfl ?_
    refine Zf (by exact congrArg (fun b => some (b == true)) h13) rfl ?_
    refine Zf (by exact congrArg (fun b => some (b == true)) h13) rfl ?_
    refine Zf (by exact congrArg (fun b => some (b == true)) h13) rfl ?_
    refine Zk rfl rfl (.bool false) (by show some (if _ then _ else _) = _; rw [h13] <;> rfl) ?_
    refine Zb rfl rfl (.bool false) rfl (Za (Zc (Zv (Zbb (Z5 (Zu ?_))))))
    rw [show decide (Zba e) = false from decide_eq_false (fun q => by rcases q with ⟨q1, q2, q3, q4, q5, q6, q7, q8⟩ | ⟨q1, q2, q3, q4, q5, q6⟩ | ⟨q1, q2, q3, q4, q5, q6⟩ <;> first | omega | (exact absurd ((Za9 _ _).2 q4) (by rw [‹Zbq _ _ = false›]; decide)) | (simp [*] at *; done) | (simp_all; done))]
    exact Zm (v := .bool false) rfl rfl rfl (by kernel_rfl) rfl
  have hzh12 := Zjt h12
  refine Zn (vx := .string e.text) (vy := .string ⟨#[]⟩) rfl rfl (.bool false) rfl rfl (Eq.trans (Zda _ _) (by rw [h12] <;> rfl)) ?_
  refine Zk rfl rfl (.bool false) rfl (Zd rfl rfl (.bool false) rfl (Zf rfl rfl (Zf rfl rfl (Zf rfl rfl (Zk rfl rfl (.bool false) rfl (Zd rfl rfl (.bool false) rfl (Zf rfl rfl (Zf rfl rfl (Zf rfl rfl (Zf rfl rfl (Zk rfl rfl (.bool false) rfl (Zb rfl rfl (.bool false) rfl (Za (Zc (Zv (Zbb (Z5 (Zu ?_))))))))))))))))))
  rw [show decide (Zba e) = false from decide_eq_false (fun q => by rcases q with ⟨q1, q2, q3, q4, q5, q6, q7, q8⟩ | ⟨q1, q2, q3, q4, q5, q6⟩ | ⟨q1, q2, q3, q4, q5, q6⟩ <;> first | omega | (exact absurd ((Za9 _ _).2 q4) (by rw [‹Zbq _ _ = false›]; decide)) | (simp [*] at *; done) | (simp_all; done))]
  exact Zm (v := .bool false) rfl rfl rfl (by kernel_rfl) rfl
  refine Zn (vx := Iv e.seq) (vy := Iv 0) rfl rfl (.bool false) rfl rfl (Zb6 (by omega)) ?_
  refine Zk rfl rfl (.bool false) rfl (Zd rfl rfl (.bool false) rfl (Zf rfl rfl (Zf rfl rfl (Zf rfl rfl (Zk rfl rfl (.bool false) rfl (Zd rfl rfl (.bool false) rfl (Zf rfl rfl (Zf rfl rfl (Zf rfl rfl (Zk rfl rfl (.bool false) rfl (Zd rfl rfl (.bool false) rfl (Zf rfl rfl (Zf rfl rfl (Zf rfl rfl (Zf rfl rfl (Zk rfl rfl (.bool false) rfl (Zb rfl rfl (.bool false) rfl (Za (Zc (Zv (Zbb (Z5 (Zu ?_)))))))))))))))))))))))
  rw [show decide (Zba e) = false from decide_eq_false (fun q => by rcases q with ⟨q1, q2, q3, q4, q5, q6, q7, q8⟩ | ⟨q1, q2, q3, q4, q5, q6⟩ | ⟨q1, q2, q3, q4, q5, q6⟩ <;> first | omega | (exact absurd ((Za9 _ _).2 q4) (by rw [‹Zbq _ _ = false›]; decide)) | (simp [*] at *; done) | (simp_all; done))]
  exact Zm (v := .bool false) rfl rfl rfl (by kernel_rfl) rfl
  refine Zn (vx := Iv e.client) (vy := Iv 0) rfl rfl (.bool false) rfl rfl (Zb6 (by omega)) ?_
  refine Zd rfl rfl (.bool false) rfl (Zf rfl rfl (Zf rfl rfl (Zf rfl rfl (Zk rfl rfl (.bool false) rfl (Zd rfl rfl (.bool false) rfl (Zf rfl rfl (Zf rfl rfl (Zf rfl rfl (Zk rfl rfl (.bool false) rfl (Zd rfl rfl (.bool false) rfl (Zf rfl rfl (Zf rfl rfl (Zf rfl rfl (Zk rfl rfl (.bool false) rfl (Zd rfl rfl (.bool false) rfl (Zf rfl rfl (Zf rfl rfl (Zf rfl rfl (Zf rfl rfl (Zk rfl rfl (.bool false) rfl ?_))))))))))))))))))))
  refine Zb rfl rfl (.bool false) rfl (Za (Zc (Zv (Zbb (Z5 (Zu ?_))))))
  rw [show decide (Zba e) = false from decide_eq_false (fun q => by rcases q with ⟨q1, q2, q3, q4, q5, q6, q7, q8⟩ | ⟨q1, q2, q3, q4, q5, q6⟩ | ⟨q1, q2, q3, q4, q5, q6⟩ <;> first | omega | (exact absurd ((Za9 _ _).2 q4) (by rw [‹Zbq _ _ = false›]; decide)) | (simp [*] at *; done) | (simp_all; done))]
  exact Zm (v := .bool false) rfl rfl rfl (by kernel_rfl) rfl
  refine Zn (vx := Iv e.kind) (vy := Iv 2) rfl rfl (.bool false) rfl rfl (Zb6 (by omega)) ?_
  refine Zb rfl rfl (.bool false) rfl (Za (Zc (Zx rfl (Zg (Zi ?_)))))
  by_cases h15 : e.kind = 3
  refine Zn (vx := Iv e.kind) (vy := Iv 3) rfl rfl (.bool true) rfl rfl (Zbs (by omega)) ?_
  refine Zb rfl rfl (.bool true) rfl (Za (Zc (Z0 rfl (Zg (Zi ?_)))))
  refine Zj (b := 0) (o := 0) (n := 1) (o' := 1) rfl rfl rfl rfl rfl ?_
  refine Zo (p := pt 0 1) (v := Iv e.client) rfl rfl rfl (by kernel_rfl) ?_
  by_cases h16 : e.client = 0
  refine Zn (vx := Iv e.client) (vy := Iv 0) rfl rfl (.bool true) rfl rfl (Zbs (by omega)) ?_
  refine Zd rfl rfl (.bool true) rfl ?_
  refine Zj (b := 0) (o := 0) (n := 2) (o' := 2) rfl rfl rfl rfl rfl ?_
  refine Zo (p := pt 0 2) (v := Iv e.seq) rfl rfl rfl (by kernel_rfl) ?_
  by_cases h17 : e.seq = 0
  refine Zn (vx := Iv e.seq) (vy := Iv 0) rfl rfl (.bool true) rfl rfl (Zbs (by omega)) ?_
  refine Zk rfl rfl (.bool true) rfl (Zd rfl rfl (.bool true) rfl ?_)
  refine Zj (b := 0) (o := 0) (n := 3) (o' := 3) rfl rfl rfl rfl rfl ?_
  refine Zo (p := pt 0 3) (v := .string e.text) rfl rfl rfl (by kernel_rfl) ?_
  rcases Bool.eq_false_or_eq_true (Zbq e.text ⟨#[]⟩) with h18 | h18
  · have hzh18 := Zj5 h18
    refine Zn (vx := .string e.text) (vy := .string ⟨#[]⟩) rfl rfl (.bool true) rfl rfl (Eq.trans (Zda _ _) (by rw [h18] <;> rfl)) ?_
    refine Zk rfl rfl (.bool true) rfl (Zd rfl rfl (.bool true) rfl ?_)
    refine Zj (b := 0) (o := 0) (n := 4) (o' := 4) rfl rfl rfl rfl rfl ?_
    refine Zo (p := pt 0 4) (v := Zaa e.head) rfl rfl rfl (by kernel_rfl) ?_
    refine Zaw (vs := []) (v := Zaa (⟨(⟨0, 0, 0, dz, 0⟩ : Head), 0, dz⟩ : Signed)) rfl rfl rfl (by kernel_rfl) ?_
    rcases Bool.eq_false_or_eq_true (Zcm e.head (⟨(⟨0, 0, 0, dz, 0⟩ : Head), 0, dz⟩ : Signed)) with h19 | h19
    refine Zn (vx := Zaa e.head) (vy := Zaa (⟨(⟨0, 0, 0, dz, 0⟩ : Head), 0, dz⟩ : Signed)) rfl rfl (.bool true) rfl rfl (Eq.trans (Zjc e.head (⟨(⟨0, 0, 0, dz, 0⟩ : Head), 0, dz⟩ : Signed)) (by rw [h19] <;> rfl)) ?_
    refine Zk rfl rfl (.bool true) rfl (Zd rfl rfl (.bool true) rfl ?_)
    refine Zj (b := 0) (o := 0) (n := 73) (o' := 73) rfl rfl rfl rfl rfl ?_
    refine Zo (p := pt 0 73) (v := Zz e.claim) rfl rfl rfl (by kernel_rfl) ?_
    refine Zs (Zl4 (G := G) e.claim) (vals := [Zz e.claim]) (res' := .bool (decide (Za8 e.claim))) rfl rfl rfl rfl rfl rfl ?_
    refine Zk rfl rfl (.bool (decide (Za8 e.claim))) rfl (Zb rfl rfl (.bool (decide (Za8 e.claim))) rfl (Za (Zc (Zv (Zbb (Z5 (Zu ?_)))))))
    rw [show decide (Zba e) = decide (Za8 e.claim) from decide_eq_decide.2 ⟨fun q => by rcases q with q | q | q <;> first | omega | exact q.2.2.2.2.2, fun q => .inr (.inr ⟨by omega, by omega, by omega, (Za9 _ _).1 (by assumption), by assumption, q⟩)⟩]
    exact Zm (v := .bool (decide (Za8 e.claim))) rfl rfl rfl (by kernel_rfl) rfl
    refine Zn (vx := Zaa e.head) (vy := Zaa (⟨(⟨0, 0, 0, dz, 0⟩ : Head), 0, dz⟩ : Signed)) rfl rfl (.bool false) rfl rfl (Eq.trans (Zjc e.head (⟨(⟨0, 0, 0, dz, 0⟩ : Head), 0, dz⟩ : Signed)) (by rw [h19] <;> rfl)) ?_
    refine Zk rfl rfl (.bool false) rfl (Zd rfl rfl (.bool false) rfl (Zf rfl rfl (Zf rfl rfl (Zf rfl rfl (Zk rfl rfl (.bool false) rfl (Zb rfl rfl (.bool false) rfl (Za (Zc (Zv (Zbb (Z5 (Zu ?_))))))))))))
    rw [show decide (Zba e) = false from decide_eq_false (fun q => by rcases q with ⟨q1, q2, q3, q4, q5, q6, q7, q8⟩ | ⟨q1, q2, q3, q4, q5, q6⟩ | ⟨q1, q2, q3, q4, q5, q6⟩ <;> first | omega | (exact absurd ((Za9 _ _).2 q4) (by rw [‹Zbq _ _ = false›]; decide)) | (simp [*] at *; done) | (simp_all; done))]
    exact Zm (v := .bool false) rfl rfl rfl (by kernel_rfl) rfl
  have hzh18 := Zjt h18
  refine Zn (vx := .string e.text) (vy := .string ⟨#[]⟩) rfl rfl (.bool false) rfl rfl (Eq.trans (Zda _ _) (by rw [h18] <;> rfl)) ?_
  refine Zk rfl rfl (.bool false) rfl (Zd rfl rfl (.bool false) rfl (Zf rfl rfl (Zf rfl rfl (Zf rfl rfl (Zf rfl rfl (Zk rfl rfl (.bool false) rfl (Zd rfl rfl (.bool false) rfl (Zf rfl rfl (Zf rfl rfl (Zf rfl rfl (Zk rfl rfl (.bool false) rfl (Zb rfl rfl (.bool false) rfl (Za (Zc (Zv (Zbb (Z5 (Zu ?_))))))))))))))))))
  rw [show decide (Zba e) = false from decide_eq_false (fun q => by rcases q with ⟨q1, q2, q3, q4, q5, q6, q7, q8⟩ | ⟨q1, q2, q3, q4, q5, q6⟩ | ⟨q1, q2, q3, q4, q5, q6⟩ <;> first | omega | (exact absurd ((Za9 _ _).2 q4) (by rw [‹Zbq _ _ = false›]; decide)) | (simp [*] at *; done) | (simp_all; done))]
  exact Zm (v := .bool false) rfl rfl rfl (by kernel_rfl) rfl
  refine Zn (vx := Iv e.seq) (vy := Iv 0) rfl rfl (.bool false) rfl rfl (Zb6 (by omega)) ?_
  refine Zk rfl rfl (.bool false) rfl (Zd rfl rfl (.bool false) rfl (Zf rfl rfl (Zf rfl rfl (Zf rfl rfl (Zk rfl rfl (.bool false) rfl (Zd rfl rfl (.bool false) rfl (Zf rfl rfl (Zf rfl rfl (Zf rfl rfl (Zf rfl rfl (Zk rfl rfl (.bool false) rfl (Zd rfl rfl (.bool false) rfl (Zf rfl rfl (Zf rfl rfl (Zf rfl rfl (Zk rfl rfl (.bool false) rfl (Zb rfl rfl (.bool false) rfl (Za (Zc (Zv (Zbb (Z5 (Zu ?_)))))))))))))))))))))))
  rw [show decide (Zba e) = false from decide_eq_false (fun q => by rcases q with ⟨q1, q2, q3, q4, q5, q6, q7, q8⟩ | ⟨q1, q2, q3, q4, q5, q6⟩ | ⟨q1, q2, q3, q4, q5, q6⟩ <;> first | omega | (exact absurd ((Za9 _ _).2 q4) (by rw [‹Zbq _ _ = false›]; decide)) | (simp [*] at *; done) | (simp_all; done))]
  exact Zm (v := .bool false) rfl rfl rfl (by kernel_rfl) rfl
  refine Zn (vx := Iv e.client) (vy := Iv 0) rfl rfl (.bool false) rfl rfl (Zb6 (by omega)) ?_
  refine Zd rfl rfl (.bool false) rfl (Zf rfl rfl (Zf rfl rfl (Zf rfl rfl (Zk rfl rfl (.bool false) rfl (Zd rfl rfl (.bool false) rfl (Zf rfl rfl (Zf rfl rfl (Zf rfl rfl (Zk rfl rfl (.bool false) rfl (Zd rfl rfl (.bool false) rfl (Zf rfl rfl (Zf rfl rfl (Zf rfl rfl (Zf rfl rfl (Zk rfl rfl (.bool false) rfl (Zd rfl rfl (.bool false) rfl (Zf rfl rfl (Zf rfl rfl (Zf rfl rfl (Zk rfl rfl (.bool false) rfl ?_))))))))))))))))))))
  refine Zb rfl rfl (.bool false) rfl (Za (Zc (Zv (Zbb (Z5 (Zu ?_))))))
  rw [show decide (Zba e) = false from decide_eq_false (fun q => by rcases q with ⟨q1, q2, q3, q4, q5, q6, q7, q8⟩ | ⟨q1, q2, q3, q4, q5, q6⟩ | ⟨q1, q2, q3, q4, q5, q6⟩ <;> first | omega | (exact absurd ((Za9 _ _).2 q4) (by rw [‹Zbq _ _ = false›]; decide)) | (simp [*] at *; done) | (simp_all; done))]
  exact Zm (v := .bool false) rfl rfl rfl (by kernel_rfl) rfl
  refine Zn (vx := Iv e.kind) (vy := Iv 3) rfl rfl (.bool false) rfl rfl (Zb6 (by omega)) ?_
  refine Zb rfl rfl (.bool false) rfl (Za (Zc (Zx rfl (Zai (Z1 (Zc (Zg (Zi (Zb rfl rfl (.bool false) rfl (Za (Zc (Zv (Zu ?_)))))))))))))
  rw [show decide (Zba e) = false from decide_eq_false (fun q => by rcases q with ⟨q1, q2, q3, q4, q5, q6, q7, q8⟩ | ⟨q1, q2, q3, q4, q5, q6⟩ | ⟨q1, q2, q3, q4, q5, q6⟩ <;> first | omega | (exact absurd ((Za9 _ _).2 q4) (by rw [‹Zbq _ _ = false›]; decide)) | (simp [*] at *; done) | (simp_all; done))]
  exact Zm (v := .bool false) rfl rfl rfl (by kernel_rfl) rfl
theorem Zrk (x : Item) : Zao Tryd.prog G 42 [Za4 x] [] (.bool (decide (Zd9 x))) [] := by
  refine Zbv (fn := Tryd.f42) (nt := 11) rfl rfl rfl rfl ?_
  refine Zat 1 (H' := [hole]) rfl ?_
  refine Zg (Zi ?_)
  refine Zel (v := Za4 x) (b := bxB 110 (Zab x)) (nid := 0) (H' := [bxB 110 (Zab x)]) rfl rfl rfl (by kernel_rfl) (by kernel_rfl) ?_
  refine Zb rfl rfl (.bool false) rfl (Za (Zc (Zg (Zi ?_))))
  refine Zj (b := 0) (o := 0) (n := 0) (o' := 0) rfl rfl rfl rfl rfl ?_
  refine Zo (p := pt 0 0) (v := Iv x.epoch) rfl rfl rfl (by kernel_rfl) ?_
  by_cases h1 : 1 ≤ x.epoch
  by_cases h2 : x.epoch ≤ 900000000
  refine Zs ((Zbn (G := G) x.epoch 1 900000000).res (congrArg Value.bool (Zbg (by omega) (by omega)))) (vals := [Iv x.epoch, Iv 1, Iv 900000000]) (res' := .bool true) rfl rfl rfl rfl rfl rfl ?_
  refine Zd rfl rfl (.bool true) rfl ?_
  refine Zj (b := 0) (o := 0) (n := 1) (o' := 1) rfl rfl rfl rfl rfl ?_
  refine Zo (p := pt 0 1) (v := Zaz x.entry) rfl rfl rfl (by kernel_rfl) ?_
  refine Zs (Zl2 (G := G) x.entry) (vals := [Zaz x.entry]) (res' := .bool (decide (Zba x.entry))) rfl rfl rfl rfl rfl rfl ?_
  refine Zk rfl rfl (.bool (decide (Zba x.entry))) rfl (Zb rfl rfl (.bool (decide (Zba x.entry))) rfl (Za (Zc (Zv (Zu ?_)))))
  rw [show decide (Zd9 x) = decide (Zba x.entry) from decide_eq_decide.2 ⟨fun q => q.2.2, fun q => ⟨by omega, by omega, q⟩⟩]
  exact Zm (v := .bool (decide (Zba x.entry))) rfl rfl rfl (by kernel_rfl) rfl
  refine Zs ((Zbn (G := G) x.epoch 1 900000000).res (congrArg Value.bool (Zah (by omega)))) (vals := [Iv x.epoch, Iv 1, Iv 900000000]) (res' := .bool false) rfl rfl rfl rfl rfl rfl ?_
  refine Zd rfl rfl (.bool false) rfl (Zf rfl rfl (Zf rfl rfl (Zf rfl rfl (Zk rfl rfl (.bool false) rfl (Zb rfl rfl (.bool false) rfl (Za (Zc (Zv (Zu ?_)))))))))
  rw [show decide (Zd9 x) = false from decide_eq_false (fun q => by first | (have := q.1; have := q.2.1; omega) | (exact absurd q.2.2 (of_decide_eq_false (by assumption))))]
  exact Zm (v := .bool false) rfl rfl rfl (by kernel_rfl) rfl
  refine Zs ((Zbn (G := G) x.epoch 1 900000000).res (congrArg Value.bool (Zah (by omega)))) (vals := [Iv x.epoch, Iv 1, Iv 900000000]) (res' := .bool false) rfl rfl rfl rfl rfl rfl ?_
  refine Zd rfl rfl (.bool false) rfl (Zf rfl rfl (Zf rfl rfl (Zf rfl rfl (Zk rfl rfl (.bool false) rfl (Zb rfl rfl (.bool false) rfl (Za (Zc (Zv (Zu ?_)))))))))
  rw [show decide (Zd9 x) = false from decide_eq_false (fun q => by first | (have := q.1; have := q.2.1; omega) | (exact absurd q.2.2 (of_decide_eq_false (by assumption))))]
  exact Zm (v := .bool false) rfl rfl rfl (by kernel_rfl) rfl
end Go.Flat
