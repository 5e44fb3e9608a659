/- Walks. -/
import Derived.Test.YtoafdomlefoenaaN2
set_option linter.unusedVariables false
set_option linter.unusedSimpArgs false
set_option maxRecDepth 20000
namespace Go.Flat
open Go.Proofs
variable {G : Glob}
structure Rec where
  kind : Int
  epoch : Int
  from_ : Int
  item : Item
  items : List Item
  claim : Claim
theorem Zr9 {p : Prop} [Decidable p] {b : Bool} (h1 : b = true → p) (h2 : p → b = true) : decide p = b := by
 cases b with
 | true => exact decide_eq_true (h1 rfl)
 | false => exact decide_eq_false (fun q => absurd (h2 q) (by decide))
theorem Zsb (a b : Entry) : Zgi a b = Zgi b a := by
 unfold Zgi; rw [BEq.comm (a := a.kind), BEq.comm (a := a.client), BEq.comm (a := a.seq), BEq.comm (a := a.text), Zjk, Zp]
theorem Zt (a b : Item) : Z0 a b = Z0 b a := by
 unfold Z0; rw [BEq.comm (a := a.epoch), Zsb]
theorem Zed {c : Claim} (h : Zec [c] = 0) : Zaz c := (Zf8 h 0 (by simp)).1
theorem Z3 {c : Claim} (h : ¬ Zec [c] = 0) : ¬ Zaz c := fun q => Ze7 h (fun i hi => by
 obtain rfl : i = 0 := by simp at hi; omega
 exact ⟨q, fun r => absurd r (by omega)⟩)
def Zaw (r : Rec) : Prop :=
  (r.kind = 1 ∧ (1 ≤ r.epoch ∧ r.epoch ≤ 900000000) ∧ r.from_ = 0 ∧ Z0 r.item (⟨0, (⟨0, 0, 0, ⟨#[]⟩, (⟨(⟨0, 0, 0, dz, 0⟩ : Head), 0, dz⟩ : Signed), (⟨0, 0, 0, 0, dz⟩ : Claim)⟩ : Entry)⟩ : Item) = true ∧ Zu r.claim (⟨0, 0, 0, 0, dz⟩ : Claim) = true ∧ r.items.length = 0) ∨
  (r.kind = 2 ∧ r.epoch = 0 ∧ r.from_ = 0 ∧ Zbb r.item ∧ Zu r.claim (⟨0, 0, 0, 0, dz⟩ : Claim) = true ∧ r.items.length = 0) ∨
  (r.kind = 3 ∧ (1 ≤ r.epoch ∧ r.epoch ≤ 900000000) ∧ (0 ≤ r.from_ ∧ r.from_ ≤ 2000) ∧ Z0 r.item (⟨0, (⟨0, 0, 0, ⟨#[]⟩, (⟨(⟨0, 0, 0, dz, 0⟩ : Head), 0, dz⟩ : Signed), (⟨0, 0, 0, 0, dz⟩ : Claim)⟩ : Entry)⟩ : Item) = true ∧ Zu r.claim (⟨0, 0, 0, 0, dz⟩ : Claim) = true ∧ Zb2 r.items) ∨
  (r.kind = 4 ∧ r.epoch = 0 ∧ r.from_ = 0 ∧ Z0 r.item (⟨0, (⟨0, 0, 0, ⟨#[]⟩, (⟨(⟨0, 0, 0, dz, 0⟩ : Head), 0, dz⟩ : Signed), (⟨0, 0, 0, 0, dz⟩ : Claim)⟩ : Entry)⟩ : Item) = true ∧ Zaz r.claim ∧ r.items.length = 0)
instance (r : Rec) : Decidable (Zaw r) := inferInstanceAs (Decidable (_ ∨ _))
theorem Zla {r : Rec} (h : Zaw r) : (1 ≤ r.kind ∧ r.kind ≤ 4) ∧ (r.kind = 3 → 0 ≤ r.from_ ∧ r.from_ ≤ 2000) := by
 rcases h with q | q | q | q <;> (have := q.1; refine ⟨by omega, fun _ => ?_⟩)
 all_goals first | omega | exact q.2.2.1
def Zf7 (a b : Rec) : Bool := decide (a.kind = b.kind ∧ a.epoch = b.epoch ∧ a.from_ = b.from_) && (Z0 a.item b.item && (Zu a.claim b.claim && Zdv a.items b.items))
theorem Zyq {a b : Rec} (h1 : a.kind = b.kind) (h2 : a.epoch = b.epoch) (h3 : a.from_ = b.from_) (h4 : Z0 a.item b.item = true) (h5 : Zu a.claim b.claim = true) : Zf7 a b = Zdv a.items b.items := by
 unfold Zf7; rw [decide_eq_true ⟨h1, h2, h3⟩, h4, h5]; rfl
theorem Zkw {a b : Rec} (h : a.kind = b.kind → a.epoch = b.epoch → a.from_ = b.from_ → Z0 a.item b.item = true → Zu a.claim b.claim = true → False) : Zf7 a b = false := by
 cases hq : Zf7 a b with
 | false => rfl
 | true =>
  unfold Zf7 at hq
  rw [Bool.and_eq_true, Bool.and_eq_true, Bool.and_eq_true] at hq
  have h1 := of_decide_eq_true hq.1
  exact (h h1.1 h1.2.1 h1.2.2 hq.2.1 hq.2.2.1).elim
abbrev Y6 (r : Rec) (p : Nat) (q : Nat) : Blk := mxB 150 ([Iv r.kind, Iv r.epoch, Iv r.from_] ++ (Z1 r.item ++ ([slv 0 0 p q] ++ (Zr r.claim))))
theorem Zt5 (r : Rec) (p q : Nat) (hp : r.items.length = p) (hq : p ≤ q) (hpb : p ≤ 1048576) : Zat Try.prog G 36 [mxV ([Iv r.kind, Iv r.epoch, Iv r.from_] ++ (Z1 r.item ++ ([slv 0 0 p q] ++ (Zr r.claim))))] [rwR Zj r.items] (.bool (decide (Zaw r))) [rwR Zj r.items] := by
  refine Zcg (fn := Try.f36) (nt := 104) rfl rfl rfl rfl ?_
  refine Za8 3 (H' := [rwR Zj r.items, hole, hole, hole]) rfl ?_
  refine Zi (Zm (Zbn (v := mxV ([Iv r.kind, Iv r.epoch, Iv r.from_] ++ (Z1 r.item ++ ([slv 0 0 p q] ++ (Zr r.claim))))) (b := mxB 150 ([Iv r.kind, Iv r.epoch, Iv r.from_] ++ (Z1 r.item ++ ([slv 0 0 p q] ++ (Zr r.claim))))) (nid := 1) (H' := [rwR Zj r.items, Y6 r p q, hole, hole]) (Zc (.bool false) (Zd (Ze (Zi (Zi (Zm (Zf (b := 1) (o := 0) (n := 113) (o' := 113) (Zl (p := pt 1 113) (v := slv 0 0 p q) (Zbg (p := slv 0 0 p q) (v := Iv (p : Nat)) ?_)))))))))))
  by_cases h1 : 0 < (p : Nat)
  refine Zn (vx := Iv (p : Nat)) (vy := Iv 0) rfl rfl (.bool true) rfl rfl (Zfe (by omega)) ?_
  refine Zb (.bool true) (Zf (b := 1) (o := 0) (n := 0) (o' := 0) (Zl (p := pt 1 0) (v := Iv r.kind) ?_))
  by_cases h2 : r.kind ≠ 3
  refine Zn (vx := Iv r.kind) (vy := Iv 3) rfl rfl (.bool true) rfl rfl (Zd5 (by omega)) ?_
  refine Zg (.bool true) (Zd (Ze (Z4 rfl (Zi (Zm (Zc (.bool false) (Zd (Ze (Zs (Zv (Zq ?_)))))))))))
  rw [show decide (Zaw r) = false from decide_eq_false (fun q => by rcases q with ⟨q1, q2, q3, q4, q5, q6⟩ | ⟨q1, q2, q3, q4, q5, q6⟩ | ⟨q1, q2, q3, q4, q5, q6⟩ | ⟨q1, q2, q3, q4, q5, q6⟩ <;> first | omega | (have := q4.1; have := q4.2.1; omega) | exact Z8 (by omega) q4.2.2 | exact Z6 (by omega) q6 | exact Z3 (by omega) q5 | exact absurd q4 (of_decide_eq_false (by assumption)) | exact absurd q5 (of_decide_eq_false (by assumption)) | exact absurd q6 (of_decide_eq_false (by assumption)) | (rw [‹Z0 _ _ = false›] at q4; cases q4) | (rw [Zt, ‹Z0 _ _ = false›] at q4; cases q4) | (rw [‹Zu _ _ = false›] at q5; cases q5) | (rw [Zp, ‹Zu _ _ = false›] at q5; cases q5))]
  exact Zk (v := .bool false) rfl rfl rfl (by kernel_rfl) rfl
  refine Zn (vx := Iv r.kind) (vy := Iv 3) rfl rfl (.bool false) rfl rfl (Zd4 (by omega)) ?_
  refine Zg (.bool false) (Zd (Ze (Zz rfl (Z9 (Ze (Zi (Zm (Zf (b := 1) (o := 0) (n := 0) (o' := 0) (Zl (p := pt 1 0) (v := Iv r.kind) ?_)))))))))
  refine Za0 (vs := [(0, Iv r.kind)]) (v := mxV ([Iv r.kind, Iv 0, Iv 0] ++ (Z1 (⟨0, (⟨0, 0, 0, ⟨#[]⟩, (⟨(⟨0, 0, 0, dz, 0⟩ : Head), 0, dz⟩ : Signed), (⟨0, 0, 0, 0, dz⟩ : Claim)⟩ : Entry)⟩ : Item) ++ ([.slice none 0 0] ++ (Zr (⟨0, 0, 0, 0, dz⟩ : Claim)))))) rfl rfl rfl (by kernel_rfl) ?_
  refine Zbf (b := mxB 150 ([Iv 0, Iv 0, Iv 0] ++ (Z1 (⟨0, (⟨0, 0, 0, ⟨#[]⟩, (⟨(⟨0, 0, 0, dz, 0⟩ : Head), 0, dz⟩ : Signed), (⟨0, 0, 0, 0, dz⟩ : Claim)⟩ : Entry)⟩ : Item) ++ ([.slice none 0 0] ++ (Zr (⟨0, 0, 0, 0, dz⟩ : Claim)))))) (nid := 2) (H' := [rwR Zj r.items, Y6 r p q, mxB 150 ([Iv 0, Iv 0, Iv 0] ++ (Z1 (⟨0, (⟨0, 0, 0, ⟨#[]⟩, (⟨(⟨0, 0, 0, dz, 0⟩ : Head), 0, dz⟩ : Signed), (⟨0, 0, 0, 0, dz⟩ : Claim)⟩ : Entry)⟩ : Item) ++ ([.slice none 0 0] ++ (Zr (⟨0, 0, 0, 0, dz⟩ : Claim))))), hole]) (Z5 (p := pt 2 0) (v := mxV ([Iv r.kind, Iv 0, Iv 0] ++ (Z1 (⟨0, (⟨0, 0, 0, ⟨#[]⟩, (⟨(⟨0, 0, 0, dz, 0⟩ : Head), 0, dz⟩ : Signed), (⟨0, 0, 0, 0, dz⟩ : Claim)⟩ : Entry)⟩ : Item) ++ ([.slice none 0 0] ++ (Zr (⟨0, 0, 0, 0, dz⟩ : Claim)))))) (b := 2) (blk := mxB 150 ([Iv r.kind, Iv 0, Iv 0] ++ (Z1 (⟨0, (⟨0, 0, 0, ⟨#[]⟩, (⟨(⟨0, 0, 0, dz, 0⟩ : Head), 0, dz⟩ : Signed), (⟨0, 0, 0, 0, dz⟩ : Claim)⟩ : Entry)⟩ : Item) ++ ([.slice none 0 0] ++ (Zr (⟨0, 0, 0, 0, dz⟩ : Claim)))))) (H' := [rwR Zj r.items, Y6 r p q, mxB 150 ([Iv r.kind, Iv 0, Iv 0] ++ (Z1 (⟨0, (⟨0, 0, 0, ⟨#[]⟩, (⟨(⟨0, 0, 0, dz, 0⟩ : Head), 0, dz⟩ : Signed), (⟨0, 0, 0, 0, dz⟩ : Claim)⟩ : Entry)⟩ : Item) ++ ([.slice none 0 0] ++ (Zr (⟨0, 0, 0, 0, dz⟩ : Claim))))), hole]) (Zd (Ze (Zi (Zm (Zc (.bool false) (Zd (Ze (Zi (Zi (Zm (Zf (b := 1) (o := 0) (n := 0) (o' := 0) (Zl (p := pt 1 0) (v := Iv r.kind) (Zd (Ze (Zav (Zi (Zm ?_))))))))))))))))))
  refine Zn (vx := Iv r.kind) (vy := Iv 1) rfl rfl (.bool false) rfl rfl (Zaq (by omega)) ?_
  refine Zc (.bool false) (Zd (Ze (Zz rfl (Zi (Zm ?_)))))
  refine Zn (vx := Iv r.kind) (vy := Iv 2) rfl rfl (.bool false) rfl rfl (Zaq (by omega)) ?_
  refine Zc (.bool false) (Zd (Ze (Zz rfl (Zi (Zm ?_)))))
  refine Zn (vx := Iv r.kind) (vy := Iv 3) rfl rfl (.bool true) rfl rfl (Zaj (by omega)) ?_
  refine Zc (.bool true) (Zd (Ze (Z4 rfl (Zi ?_))))
  refine Zek (by kernel_rfl) ?_
  refine Zf (b := 1) (o := 0) (n := 1) (o' := 1) (Zl (p := pt 1 1) (v := Iv r.epoch) (Zf (b := 1) (o := 0) (n := 2) (o' := 2) (Zl (p := pt 1 2) (v := Iv r.from_) (Zf (b := 2) (o := 0) (n := 1) (o' := 1) (Z5 (p := pt 2 1) (v := Iv r.epoch) (b := 2) (blk := mxB 150 ([Iv r.kind, Iv r.epoch, Iv 0] ++ (Z1 (⟨0, (⟨0, 0, 0, ⟨#[]⟩, (⟨(⟨0, 0, 0, dz, 0⟩ : Head), 0, dz⟩ : Signed), (⟨0, 0, 0, 0, dz⟩ : Claim)⟩ : Entry)⟩ : Item) ++ ([.slice none 0 0] ++ (Zr (⟨0, 0, 0, 0, dz⟩ : Claim)))))) (H' := [rwR Zj r.items, Y6 r p q, mxB 150 ([Iv r.kind, Iv r.epoch, Iv 0] ++ (Z1 (⟨0, (⟨0, 0, 0, ⟨#[]⟩, (⟨(⟨0, 0, 0, dz, 0⟩ : Head), 0, dz⟩ : Signed), (⟨0, 0, 0, 0, dz⟩ : Claim)⟩ : Entry)⟩ : Item) ++ ([.slice none 0 0] ++ (Zr (⟨0, 0, 0, 0, dz⟩ : Claim))))), hole]) (Zf (b := 2) (o := 0) (n := 2) (o' := 2) (Z5 (p := pt 2 2) (v := Iv r.from_) (b := 2) (blk := mxB 150 ([Iv r.kind, Iv r.epoch, Iv r.from_] ++ (Z1 (⟨0, (⟨0, 0, 0, ⟨#[]⟩, (⟨(⟨0, 0, 0, dz, 0⟩ : Head), 0, dz⟩ : Signed), (⟨0, 0, 0, 0, dz⟩ : Claim)⟩ : Entry)⟩ : Item) ++ ([.slice none 0 0] ++ (Zr (⟨0, 0, 0, 0, dz⟩ : Claim)))))) (H' := [rwR Zj r.items, Y6 r p q, mxB 150 ([Iv r.kind, Iv r.epoch, Iv r.from_] ++ (Z1 (⟨0, (⟨0, 0, 0, ⟨#[]⟩, (⟨(⟨0, 0, 0, dz, 0⟩ : Head), 0, dz⟩ : Signed), (⟨0, 0, 0, 0, dz⟩ : Claim)⟩ : Entry)⟩ : Item) ++ ([.slice none 0 0] ++ (Zr (⟨0, 0, 0, 0, dz⟩ : Claim))))), hole]) ?_)))))))
  refine Zbv (Za4 [[], [0], [], [2], [0, 1], [0, 1, 4], [0, 1, 2, 3, 4, 5], [0, 1, 2, 3, 4, 5, 6]] (by kernel_rfl) (by kernel_rfl)) ?_
  refine Ze (Zm (Zf (b := 1) (o := 0) (n := 1) (o' := 1) (Zl (p := pt 1 1) (v := Iv r.epoch) ?_)))
  by_cases h3 : 1 ≤ r.epoch
  by_cases h4 : r.epoch ≤ 900000000
  refine Zw ((Zbj (G := G) r.epoch 1 900000000).res (congrArg Value.bool (Zak (by omega) (by omega)))) (vals := [Iv r.epoch, Iv 1, Iv 900000000]) (res' := .bool true) rfl rfl rfl rfl rfl rfl ?_
  refine Zb (.bool true) (Zf (b := 1) (o := 0) (n := 2) (o' := 2) (Zl (p := pt 1 2) (v := Iv r.from_) ?_))
  by_cases h5 : 0 ≤ r.from_
  by_cases h6 : r.from_ ≤ 2000
  refine Zw ((Zbj (G := G) r.from_ 0 2000).res (congrArg Value.bool (Zak (by omega) (by omega)))) (vals := [Iv r.from_, Iv 0, Iv 2000]) (res' := .bool true) rfl rfl rfl rfl rfl rfl ?_
  refine Zg (.bool true) (Zb (.bool true) (Zf (b := 1) (o := 0) (n := 113) (o' := 113) (Zl (p := pt 1 113) (v := slv 0 0 p q) ?_)))
  refine Zab (e := [some (0, 0)]) (nid := 0) (Zi5 (G := G) r.items p q hp (by omega) (by omega)) (vals := [slv 0 0 p q]) (v := Iv (Zgm r.items)) (H' := [rwR Zj r.items, Y6 r p q, mxB 150 ([Iv r.kind, Iv r.epoch, Iv r.from_] ++ (Z1 (⟨0, (⟨0, 0, 0, ⟨#[]⟩, (⟨(⟨0, 0, 0, dz, 0⟩ : Head), 0, dz⟩ : Signed), (⟨0, 0, 0, 0, dz⟩ : Claim)⟩ : Entry)⟩ : Item) ++ ([.slice none 0 0] ++ (Zr (⟨0, 0, 0, 0, dz⟩ : Claim))))), hole]) rfl rfl rfl rfl rfl rfl rfl ⟨⟨⟨rfl, rfl, rfl, by first | omega | exact Nat.le_refl _, by first | omega | exact Nat.le_refl _⟩, trivial⟩, ⟨(Zaf rfl), trivial⟩, rfl, rfl, rfl⟩ rfl (by kernel_rfl) ?_
  by_cases h7 : (Zgm r.items) = 0
  refine Zn (vx := Iv (Zgm r.items)) (vy := Iv 0) rfl rfl (.bool true) rfl rfl (Zaj (by omega)) ?_
  refine Zg (.bool true) (Zc (.bool true) (Zd (Z7 (Ze (Zi (Zm (Zb (.bool true) (Zb (.bool true) (Zf (b := 2) (o := 0) (n := 1) (o' := 1) (Zl (p := pt 2 1) (v := Iv r.epoch) (Zf (b := 1) (o := 0) (n := 1) (o' := 1) (Zl (p := pt 1 1) (v := Iv r.epoch) ?_))))))))))))
  refine Zn (vx := Iv r.epoch) (vy := Iv r.epoch) rfl rfl (.bool true) rfl rfl (Zaj (by omega)) ?_
  refine Zg (.bool true) (Zb (.bool true) (Zf (b := 2) (o := 0) (n := 2) (o' := 2) (Zl (p := pt 2 2) (v := Iv r.from_) (Zf (b := 1) (o := 0) (n := 2) (o' := 2) (Zl (p := pt 1 2) (v := Iv r.from_) ?_)))))
  refine Zn (vx := Iv r.from_) (vy := Iv r.from_) rfl rfl (.bool true) rfl rfl (Zaj (by omega)) ?_
  refine Zg (.bool true) (Zb (.bool true) (Zf (b := 2) (o := 0) (n := 3) (o' := 3) (Zl (p := pt 2 3) (v := Zal (⟨0, (⟨0, 0, 0, ⟨#[]⟩, (⟨(⟨0, 0, 0, dz, 0⟩ : Head), 0, dz⟩ : Signed), (⟨0, 0, 0, 0, dz⟩ : Claim)⟩ : Entry)⟩ : Item)) (Zf (b := 1) (o := 0) (n := 3) (o' := 3) (Zl (p := pt 1 3) (v := Zal r.item) ?_)))))
  rcases Bool.eq_false_or_eq_true (Z0 (⟨0, (⟨0, 0, 0, ⟨#[]⟩, (⟨(⟨0, 0, 0, dz, 0⟩ : Head), 0, dz⟩ : Signed), (⟨0, 0, 0, 0, dz⟩ : Claim)⟩ : Entry)⟩ : Item) r.item) with h8 | h8
  refine Zn (vx := Zal (⟨0, (⟨0, 0, 0, ⟨#[]⟩, (⟨(⟨0, 0, 0, dz, 0⟩ : Head), 0, dz⟩ : Signed), (⟨0, 0, 0, 0, dz⟩ : Claim)⟩ : Entry)⟩ : Item)) (vy := Zal r.item) rfl rfl (.bool true) rfl rfl (Eq.trans (Zde (⟨0, (⟨0, 0, 0, ⟨#[]⟩, (⟨(⟨0, 0, 0, dz, 0⟩ : Head), 0, dz⟩ : Signed), (⟨0, 0, 0, 0, dz⟩ : Claim)⟩ : Entry)⟩ : Item) r.item) (by rw [h8] <;> rfl)) ?_
  refine Zg (.bool true) (Zb (.bool true) (Zf (b := 2) (o := 0) (n := 114) (o' := 114) (Zl (p := pt 2 114) (v := Zx (⟨0, 0, 0, 0, dz⟩ : Claim)) (Zf (b := 1) (o := 0) (n := 114) (o' := 114) (Zl (p := pt 1 114) (v := Zx r.claim) ?_)))))
  rcases Bool.eq_false_or_eq_true (Zu (⟨0, 0, 0, 0, dz⟩ : Claim) r.claim) with h9 | h9
  refine Zn (vx := Zx (⟨0, 0, 0, 0, dz⟩ : Claim)) (vy := Zx r.claim) rfl rfl (.bool true) rfl rfl (Eq.trans (Zb8 (⟨0, 0, 0, 0, dz⟩ : Claim) r.claim) (by rw [h9] <;> rfl)) ?_
  refine Zg (.bool true) (Zc (.bool true) (Zd (Ze (Zs (Zq ?_)))))
  rw [show decide (Zaw r) = true from decide_eq_true (by first | exact .inl ⟨by omega, by omega, by omega, (by first | assumption | exact Zan _ | (rw [Zt]; assumption)), (by first | assumption | exact Zag _ | (rw [Zp]; assumption)), by omega⟩ | exact .inr (.inl ⟨by omega, by omega, by omega, (by first | exact of_decide_eq_true (by assumption) | exact ⟨by omega, by omega, Zeo (by omega)⟩), (by first | assumption | exact Zag _ | (rw [Zp]; assumption)), by omega⟩) | exact .inr (.inr (.inl ⟨by omega, by omega, by omega, (by first | assumption | exact Zan _ | (rw [Zt]; assumption)), (by first | assumption | exact Zag _ | (rw [Zp]; assumption)), (by first | exact of_decide_eq_true (by assumption) | exact Za5 (by omega))⟩)) | exact .inr (.inr (.inr ⟨by omega, by omega, by omega, (by first | assumption | exact Zan _ | (rw [Zt]; assumption)), (by first | exact of_decide_eq_true (by assumption) | exact Zed (by omega)), by omega⟩)))]
  exact Zk (v := .bool true) rfl rfl rfl (by kernel_rfl) rfl
  refine Zn (vx := Zx (⟨0, 0, 0, 0, dz⟩ : Claim)) (vy := Zx r.claim) rfl rfl (.bool false) rfl rfl (Eq.trans (Zb8 (⟨0, 0, 0, 0, dz⟩ : Claim) r.claim) (by rw [h9] <;> rfl)) ?_
  refine Zg (.bool false) (Zc (.bool false) (Zd (Ze (Zs (Zq ?_)))))
  rw [show decide (Zaw r) = false from decide_eq_false (fun q => by rcases q with ⟨q1, q2, q3, q4, q5, q6⟩ | ⟨q1, q2, q3, q4, q5, q6⟩ | ⟨q1, q2, q3, q4, q5, q6⟩ | ⟨q1, q2, q3, q4, q5, q6⟩ <;> first | omega | (have := q4.1; have := q4.2.1; omega) | exact Z8 (by omega) q4.2.2 | exact Z6 (by omega) q6 | exact Z3 (by omega) q5 | exact absurd q4 (of_decide_eq_false (by assumption)) | exact absurd q5 (of_decide_eq_false (by assumption)) | exact absurd q6 (of_decide_eq_false (by assumption)) | (rw [‹Z0 _ _ = false›] at q4; cases q4) | (rw [Zt, ‹Z0 _ _ = false›] at q4; cases q4) | (rw [‹Zu _ _ = false›] at q5; cases q5) | (rw [Zp, ‹Zu _ _ = false›] at q5; cases q5))]
  exact Zk (v := .bool false) rfl rfl rfl (by kernel_rfl) rfl
  refine Zn (vx := Zal (⟨0, (⟨0, 0, 0, ⟨#[]⟩, (⟨(⟨0, 0, 0, dz, 0⟩ : Head), 0, dz⟩ : Signed), (⟨0, 0, 0, 0, dz⟩ : Claim)⟩ : Entry)⟩ : Item)) (vy := Zal r.item) rfl rfl (.bool false) rfl rfl (Eq.trans (Zde (⟨0, (⟨0, 0, 0, ⟨#[]⟩, (⟨(⟨0, 0, 0, dz, 0⟩ : Head), 0, dz⟩ : Signed), (⟨0, 0, 0, 0, dz⟩ : Claim)⟩ : Entry)⟩ : Item) r.item) (by rw [h8] <;> rfl)) ?_
  refine Zg (.bool false) (Zb (.bool false) (Za (Za (Za (Za (Za (Zg (.bool false) (Zc (.bool false) (Zd (Ze (Zs (Zq ?_))))))))))))
  rw [show decide (Zaw r) = false from decide_eq_false (fun q => by rcases q with ⟨q1, q2, q3, q4, q5, q6⟩ | ⟨q1, q2, q3, q4, q5, q6⟩ | ⟨q1, q2, q3, q4, q5, q6⟩ | ⟨q1, q2, q3, q4, q5, q6⟩ <;> first | omega | (have := q4.1; have := q4.2.1; omega) | exact Z8 (by omega) q4.2.2 | exact Z6 (by omega) q6 | exact Z3 (by omega) q5 | exact absurd q4 (of_decide_eq_false (by assumption)) | exact absurd q5 (of_decide_eq_false (by assumption)) | exact absurd q6 (of_decide_eq_false (by assumption)) | (rw [‹Z0 _ _ = false›] at q4; cases q4) | (rw [Zt, ‹Z0 _ _ = false›] at q4; cases q4) | (rw [‹Zu _ _ = false›] at q5; cases q5) | (rw [Zp, ‹Zu _ _ = false›] at q5; cases q5))]
  exact Zk (v := .bool false) rfl rfl rfl (by kernel_rfl) rfl
  refine Zn (vx := Iv (Zgm r.items)) (vy := Iv 0) rfl rfl (.bool false) rfl rfl (Zaq (by omega)) ?_
  refine Zg (.bool false) (Zc (.bool false) (Zd (Z7 (Ze (Zi (Zm (Zb (.bool false) (Zb (.bool false) (Za (Za (Za (Za (Za (Zg (.bool false) (Zb (.bool false) (Za (Za (Za (Za (Za (Zg (.bool false) (Zb (.bool false) (Za (Za (Za (Za (Za ?_)))))))))))))))))))))))))))
  refine Zg (.bool false) (Zb (.bool false) (Za (Za (Za (Za (Za (Zg (.bool false) (Zc (.bool false) (Zd (Ze (Zs (Zq ?_))))))))))))
  rw [show decide (Zaw r) = false from decide_eq_false (fun q => by rcases q with ⟨q1, q2, q3, q4, q5, q6⟩ | ⟨q1, q2, q3, q4, q5, q6⟩ | ⟨q1, q2, q3, q4, q5, q6⟩ | ⟨q1, q2, q3, q4, q5, q6⟩ <;> first | omega | (have := q4.1; have := q4.2.1; omega) | exact Z8 (by omega) q4.2.2 | exact Z6 (by omega) q6 | exact Z3 (by omega) q5 | exact absurd q4 (of_decide_eq_false (by assumption)) | exact absurd q5 (of_decide_eq_false (by assumption)) | exact absurd q6 (of_decide_eq_false (by assumption)) | (rw [‹Z0 _ _ = false›] at q4; cases q4) | (rw [Zt, ‹Z0 _ _ = false›] at q4; cases q4) | (rw [‹Zu _ _ = false›] at q5; cases q5) | (rw [Zp, ‹Zu _ _ = false›] at q5; cases q5))]
  exact Zk (v := .bool false) rfl rfl rfl (by kernel_rfl) rfl
  refine Zw ((Zbj (G := G) r.from_ 0 2000).res (congrArg Value.bool (Z2 (by omega)))) (vals := [Iv r.from_, Iv 0, Iv 2000]) (res' := .bool false) rfl rfl rfl rfl rfl rfl ?_
  refine Zg (.bool false) (Zb (.bool false) (Za (Za (Za (Za (Zg (.bool false) (Zc (.bool false) (Zd (Z7 (Ze (Zi (Zm (Zb (.bool false) (Zb (.bool false) (Za (Za (Za (Za (Za (Zg (.bool false) (Zb (.bool false) (Za (Za (Za (Za (Za ?_))))))))))))))))))))))))))
  refine Zg (.bool false) (Zb (.bool false) (Za (Za (Za (Za (Za (Zg (.bool false) (Zb (.bool false) (Za (Za (Za (Za (Za (Zg (.bool false) (Zc (.bool false) (Zd (Ze (Zs (Zq ?_)))))))))))))))))))
  rw [show decide (Zaw r) = false from decide_eq_false (fun q => by rcases q with ⟨q1, q2, q3, q4, q5, q6⟩ | ⟨q1, q2, q3, q4, q5, q6⟩ | ⟨q1, q2, q3, q4, q5, q6⟩ | ⟨q1, q2, q3, q4, q5, q6⟩ <;> first | omega | (have := q4.1; have := q4.2.1; omega) | exact Z8 (by omega) q4.2.2 | exact Z6 (by omega) q6 | exact Z3 (by omega) q5 | exact absurd q4 (of_decide_eq_false (by assumption)) | exact absurd q5 (of_decide_eq_false (by assumption)) | exact absurd q6 (of_decide_eq_false (by assumption)) | (rw [‹Z0 _ _ = false›] at q4; cases q4) | (rw [Zt, ‹Z0 _ _ = false›] at q4; cases q4) | (rw [‹Zu _ _ = false›] at q5; cases q5) | (rw [Zp, ‹Zu _ _ = false›] at q5; cases q5))]
  exact Zk (v := .bool false) rfl rfl rfl (by kernel_rfl) rfl
  refine Zw ((Zbj (G := G) r.from_ 0 2000).res (congrArg Value.bool (Z2 (by omega)))) (vals := [Iv r.from_, Iv 0, Iv 2000]) (res' := .bool false) rfl rfl rfl rfl rfl rfl ?_
  refine Zg (.bool false) (Zb (.bool false) (Za (Za (Za (Za (Zg (.bool false) (Zc (.bool false) (Zd (Z7 (Ze (Zi (Zm (Zb (.bool false) (Zb (.bool false) (Za (Za (Za (Za (Za (Zg (.bool false) (Zb (.bool false) (Za (Za (Za (Za (Za ?_))))))))))))))))))))))))))
  refine Zg (.bool false) (Zb (.bool false) (Za (Za (Za (Za (Za (Zg (.bool false) (Zb (.bool false) (Za (Za (Za (Za (Za (Zg (.bool false) (Zc (.bool false) (Zd (Ze (Zs (Zq ?_)))))))))))))))))))
  rw [show decide (Zaw r) = false from decide_eq_false (fun q => by rcases q with ⟨q1, q2, q3, q4, q5, q6⟩ | ⟨q1, q2, q3, q4, q5, q6⟩ | ⟨q1, q2, q3, q4, q5, q6⟩ | ⟨q1, q2, q3, q4, q5, q6⟩ <;> first | omega | (have := q4.1; have := q4.2.1; omega) | exact Z8 (by omega) q4.2.2 | exact Z6 (by omega) q6 | exact Z3 (by omega) q5 | exact absurd q4 (of_decide_eq_false (by assumption)) | exact absurd q5 (of_decide_eq_false (by assumption)) | exact absurd q6 (of_decide_eq_false (by assumption)) | (rw [‹Z0 _ _ = false›] at q4; cases q4) | (rw [Zt, ‹Z0 _ _ = false›] at q4; cases q4) | (rw [‹Zu _ _ = false›] at q5; cases q5) | (rw [Zp, ‹Zu _ _ = false›] at q5; cases q5))]
  exact Zk (v := .bool false) rfl rfl rfl (by kernel_rfl) rfl
  refine Zw ((Zbj (G := G) r.epoch 1 900000000).res (congrArg Value.bool (Z2 (by omega)))) (vals := [Iv r.epoch, Iv 1, Iv 900000000]) (res' := .bool false) rfl rfl rfl rfl rfl rfl ?_
  refine Zb (.bool false) (Za (Za (Za (Zg (.bool false) (Zb (.bool false) (Za (Za (Za (Za (Zg (.bool false) (Zc (.bool false) (Zd (Z7 (Ze (Zi (Zm (Zb (.bool false) (Zb (.bool false) (Za (Za (Za (Za (Za (Zg (.bool false) ?_))))))))))))))))))))))))
  refine Zb (.bool false) (Za (Za (Za (Za (Za (Zg (.bool false) (Zb (.bool false) (Za (Za (Za (Za (Za (Zg (.bool false) (Zb (.bool false) (Za (Za (Za (Za (Za (Zg (.bool false) (Zc (.bool false) (Zd (Ze (Zs (Zq ?_)))))))))))))))))))))))))
  rw [show decide (Zaw r) = false from decide_eq_false (fun q => by rcases q with ⟨q1, q2, q3, q4, q5, q6⟩ | ⟨q1, q2, q3, q4, q5, q6⟩ | ⟨q1, q2, q3, q4, q5, q6⟩ | ⟨q1, q2, q3, q4, q5, q6⟩ <;> first | omega | (have := q4.1; have := q4.2.1; omega) | exact Z8 (by omega) q4.2.2 | exact Z6 (by omega) q6 | exact Z3 (by omega) q5 | exact absurd q4 (of_decide_eq_false (by assumption)) | exact absurd q5 (of_decide_eq_false (by assumption)) | exact absurd q6 (of_decide_eq_false (by assumption)) | (rw [‹Z0 _ _ = false›] at q4; cases q4) | (rw [Zt, ‹Z0 _ _ = false›] at q4; cases q4) | (rw [‹Zu _ _ = false›] at q5; cases q5) | (rw [Zp, ‹Zu _ _ = false›] at q5; cases q5))]
  exact Zk (v := .bool false) rfl rfl rfl (by kernel_rfl) rfl
  refine Zw ((Zbj (G := G) r.epoch 1 900000000).res (congrArg Value.bool (Z2 (by omega)))) (vals := [Iv r.epoch, Iv 1, Iv 900000000]) (res' := .bool false) rfl rfl rfl rfl rfl rfl ?_
  refine Zb (.bool false) (Za (Za (Za (Zg (.bool false) (Zb (.bool false) (Za (Za (Za (Za (Zg (.bool false) (Zc (.bool false) (Zd (Z7 (Ze (Zi (Zm (Zb (.bool false) (Zb (.bool false) (Za (Za (Za (Za (Za (Zg (.bool false) ?_))))))))))))))))))))))))
  refine Zb (.bool false) (Za (Za (Za (Za (Za (Zg (.bool false) (Zb (.bool false) (Za (Za (Za (Za (Za (Zg (.bool false) (Zb (.bool false) (Za (Za (Za (Za (Za (Zg (.bool false) (Zc (.bool false) (Zd (Ze (Zs (Zq ?_)))))))))))))))))))))))))
  rw [show decide (Zaw r) = false from decide_eq_false (fun q => by rcases q with ⟨q1, q2, q3, q4, q5, q6⟩ | ⟨q1, q2, q3, q4, q5, q6⟩ | ⟨q1, q2, q3, q4, q5, q6⟩ | ⟨q1, q2, q3, q4, q5, q6⟩ <;> first | omega | (have := q4.1; have := q4.2.1; omega) | exact Z8 (by omega) q4.2.2 | exact Z6 (by omega) q6 | exact Z3 (by omega) q5 | exact absurd q4 (of_decide_eq_false (by assumption)) | exact absurd q5 (of_decide_eq_false (by assumption)) | exact absurd q6 (of_decide_eq_false (by assumption)) | (rw [‹Z0 _ _ = false›] at q4; cases q4) | (rw [Zt, ‹Z0 _ _ = false›] at q4; cases q4) | (rw [‹Zu _ _ = false›] at q5; cases q5) | (rw [Zp, ‹Zu _ _ = false›] at q5; cases q5))]
  exact Zk (v := .bool false) rfl rfl rfl (by kernel_rfl) rfl
  refine Zn (vx := Iv (p : Nat)) (vy := Iv 0) rfl rfl (.bool false) rfl rfl (Zfd (by omega)) ?_
  refine Zb (.bool false) (Za (Za (Za (Zg (.bool false) (Zd (Ze (Zz rfl (Z9 (Ze (Zi (Zm (Zf (b := 1) (o := 0) (n := 0) (o' := 0) (Zl (p := pt 1 0) (v := Iv r.kind) ?_)))))))))))))
  refine Za0 (vs := [(0, Iv r.kind)]) (v := mxV ([Iv r.kind, Iv 0, Iv 0] ++ (Z1 (⟨0, (⟨0, 0, 0, ⟨#[]⟩, (⟨(⟨0, 0, 0, dz, 0⟩ : Head), 0, dz⟩ : Signed), (⟨0, 0, 0, 0, dz⟩ : Claim)⟩ : Entry)⟩ : Item) ++ ([.slice none 0 0] ++ (Zr (⟨0, 0, 0, 0, dz⟩ : Claim)))))) rfl rfl rfl (by kernel_rfl) ?_
  refine Zbf (b := mxB 150 ([Iv 0, Iv 0, Iv 0] ++ (Z1 (⟨0, (⟨0, 0, 0, ⟨#[]⟩, (⟨(⟨0, 0, 0, dz, 0⟩ : Head), 0, dz⟩ : Signed), (⟨0, 0, 0, 0, dz⟩ : Claim)⟩ : Entry)⟩ : Item) ++ ([.slice none 0 0] ++ (Zr (⟨0, 0, 0, 0, dz⟩ : Claim)))))) (nid := 2) (H' := [rwR Zj r.items, Y6 r p q, mxB 150 ([Iv 0, Iv 0, Iv 0] ++ (Z1 (⟨0, (⟨0, 0, 0, ⟨#[]⟩, (⟨(⟨0, 0, 0, dz, 0⟩ : Head), 0, dz⟩ : Signed), (⟨0, 0, 0, 0, dz⟩ : Claim)⟩ : Entry)⟩ : Item) ++ ([.slice none 0 0] ++ (Zr (⟨0, 0, 0, 0, dz⟩ : Claim))))), hole]) (Z5 (p := pt 2 0) (v := mxV ([Iv r.kind, Iv 0, Iv 0] ++ (Z1 (⟨0, (⟨0, 0, 0, ⟨#[]⟩, (⟨(⟨0, 0, 0, dz, 0⟩ : Head), 0, dz⟩ : Signed), (⟨0, 0, 0, 0, dz⟩ : Claim)⟩ : Entry)⟩ : Item) ++ ([.slice none 0 0] ++ (Zr (⟨0, 0, 0, 0, dz⟩ : Claim)))))) (b := 2) (blk := mxB 150 ([Iv r.kind, Iv 0, Iv 0] ++ (Z1 (⟨0, (⟨0, 0, 0, ⟨#[]⟩, (⟨(⟨0, 0, 0, dz, 0⟩ : Head), 0, dz⟩ : Signed), (⟨0, 0, 0, 0, dz⟩ : Claim)⟩ : Entry)⟩ : Item) ++ ([.slice none 0 0] ++ (Zr (⟨0, 0, 0, 0, dz⟩ : Claim)))))) (H' := [rwR Zj r.items, Y6 r p q, mxB 150 ([Iv r.kind, Iv 0, Iv 0] ++ (Z1 (⟨0, (⟨0, 0, 0, ⟨#[]⟩, (⟨(⟨0, 0, 0, dz, 0⟩ : Head), 0, dz⟩ : Signed), (⟨0, 0, 0, 0, dz⟩ : Claim)⟩ : Entry)⟩ : Item) ++ ([.slice none 0 0] ++ (Zr (⟨0, 0, 0, 0, dz⟩ : Claim))))), hole]) (Zd (Ze (Zi (Zm (Zc (.bool false) (Zd (Ze (Zi (Zi (Zm (Zf (b := 1) (o := 0) (n := 0) (o' := 0) (Zl (p := pt 1 0) (v := Iv r.kind) (Zd (Ze (Zav (Zi (Zm ?_))))))))))))))))))
  by_cases h10 : r.kind = 1
  refine Zn (vx := Iv r.kind) (vy := Iv 1) rfl rfl (.bool true) rfl rfl (Zaj (by omega)) ?_
  refine Zc (.bool true) (Zd (Ze (Z4 rfl (Zi (Zm (Zf (b := 1) (o := 0) (n := 1) (o' := 1) (Zl (p := pt 1 1) (v := Iv r.epoch) (Zf (b := 2) (o := 0) (n := 1) (o' := 1) (Z5 (p := pt 2 1) (v := Iv r.epoch) (b := 2) (blk := mxB 150 ([Iv r.kind, Iv r.epoch, Iv 0] ++ (Z1 (⟨0, (⟨0, 0, 0, ⟨#[]⟩, (⟨(⟨0, 0, 0, dz, 0⟩ : Head), 0, dz⟩ : Signed), (⟨0, 0, 0, 0, dz⟩ : Claim)⟩ : Entry)⟩ : Item) ++ ([.slice none 0 0] ++ (Zr (⟨0, 0, 0, 0, dz⟩ : Claim)))))) (H' := [rwR Zj r.items, Y6 r p q, mxB 150 ([Iv r.kind, Iv r.epoch, Iv 0] ++ (Z1 (⟨0, (⟨0, 0, 0, ⟨#[]⟩, (⟨(⟨0, 0, 0, dz, 0⟩ : Head), 0, dz⟩ : Signed), (⟨0, 0, 0, 0, dz⟩ : Claim)⟩ : Entry)⟩ : Item) ++ ([.slice none 0 0] ++ (Zr (⟨0, 0, 0, 0, dz⟩ : Claim))))), hole]) (Zd (Ze (Zm (Zf (b := 1) (o := 0) (n := 1) (o' := 1) (Zl (p := pt 1 1) (v := Iv r.epoch) ?_))))))))))))))
  by_cases h11 : 1 ≤ r.epoch
  by_cases h12 : r.epoch ≤ 900000000
  refine Zw ((Zbj (G := G) r.epoch 1 900000000).res (congrArg Value.bool (Zak (by omega) (by omega)))) (vals := [Iv r.epoch, Iv 1, Iv 900000000]) (res' := .bool true) rfl rfl rfl rfl rfl rfl ?_
  refine Zc (.bool true) (Zd (Z7 (Ze (Zi (Zm (Zb (.bool true) (Zb (.bool true) (Zf (b := 2) (o := 0) (n := 1) (o' := 1) (Zl (p := pt 2 1) (v := Iv r.epoch) (Zf (b := 1) (o := 0) (n := 1) (o' := 1) (Zl (p := pt 1 1) (v := Iv r.epoch) ?_)))))))))))
  refine Zn (vx := Iv r.epoch) (vy := Iv r.epoch) rfl rfl (.bool true) rfl rfl (Zaj (by omega)) ?_
  refine Zg (.bool true) (Zb (.bool true) (Zf (b := 2) (o := 0) (n := 2) (o' := 2) (Zl (p := pt 2 2) (v := Iv 0) (Zf (b := 1) (o := 0) (n := 2) (o' := 2) (Zl (p := pt 1 2) (v := Iv r.from_) ?_)))))
  by_cases h13 : 0 = r.from_
  refine Zn (vx := Iv 0) (vy := Iv r.from_) rfl rfl (.bool true) rfl rfl (Zaj (by omega)) ?_
  refine Zg (.bool true) (Zb (.bool true) (Zf (b := 2) (o := 0) (n := 3) (o' := 3) (Zl (p := pt 2 3) (v := Zal (⟨0, (⟨0, 0, 0, ⟨#[]⟩, (⟨(⟨0, 0, 0, dz, 0⟩ : Head), 0, dz⟩ : Signed), (⟨0, 0, 0, 0, dz⟩ : Claim)⟩ : Entry)⟩ : Item)) (Zf (b := 1) (o := 0) (n := 3) (o' := 3) (Zl (p := pt 1 3) (v := Zal r.item) ?_)))))
  rcases Bool.eq_false_or_eq_true (Z0 (⟨0, (⟨0, 0, 0, ⟨#[]⟩, (⟨(⟨0, 0, 0, dz, 0⟩ : Head), 0, dz⟩ : Signed), (⟨0, 0, 0, 0, dz⟩ : Claim)⟩ : Entry)⟩ : Item) r.item) with h14 | h14
  refine Zn (vx := Zal (⟨0, (⟨0, 0, 0, ⟨#[]⟩, (⟨(⟨0, 0, 0, dz, 0⟩ : Head), 0, dz⟩ : Signed), (⟨0, 0, 0, 0, dz⟩ : Claim)⟩ : Entry)⟩ : Item)) (vy := Zal r.item) rfl rfl (.bool true) rfl rfl (Eq.trans (Zde (⟨0, (⟨0, 0, 0, ⟨#[]⟩, (⟨(⟨0, 0, 0, dz, 0⟩ : Head), 0, dz⟩ : Signed), (⟨0, 0, 0, 0, dz⟩ : Claim)⟩ : Entry)⟩ : Item) r.item) (by rw [h14] <;> rfl)) ?_
  refine Zg (.bool true) (Zb (.bool true) (Zf (b := 2) (o := 0) (n := 114) (o' := 114) (Zl (p := pt 2 114) (v := Zx (⟨0, 0, 0, 0, dz⟩ : Claim)) (Zf (b := 1) (o := 0) (n := 114) (o' := 114) (Zl (p := pt 1 114) (v := Zx r.claim) ?_)))))
  rcases Bool.eq_false_or_eq_true (Zu (⟨0, 0, 0, 0, dz⟩ : Claim) r.claim) with h15 | h15
  refine Zn (vx := Zx (⟨0, 0, 0, 0, dz⟩ : Claim)) (vy := Zx r.claim) rfl rfl (.bool true) rfl rfl (Eq.trans (Zb8 (⟨0, 0, 0, 0, dz⟩ : Claim) r.claim) (by rw [h15] <;> rfl)) ?_
  refine Zg (.bool true) (Zc (.bool true) (Zd (Ze (Zs (Zq ?_)))))
  rw [show decide (Zaw r) = true from decide_eq_true (by first | exact .inl ⟨by omega, by omega, by omega, (by first | assumption | exact Zan _ | (rw [Zt]; assumption)), (by first | assumption | exact Zag _ | (rw [Zp]; assumption)), by omega⟩ | exact .inr (.inl ⟨by omega, by omega, by omega, (by first | exact of_decide_eq_true (by assumption) | exact ⟨by omega, by omega, Zeo (by omega)⟩), (by first | assumption | exact Zag _ | (rw [Zp]; assumption)), by omega⟩) | exact .inr (.inr (.inl ⟨by omega, by omega, by omega, (by first | assumption | exact Zan _ | (rw [Zt]; assumption)), (by first | assumption | exact Zag _ | (rw [Zp]; assumption)), (by first | exact of_decide_eq_true (by assumption) | exact Za5 (by omega))⟩)) | exact .inr (.inr (.inr ⟨by omega, by omega, by omega, (by first | assumption | exact Zan _ | (rw [Zt]; assumption)), (by first | exact of_decide_eq_true (by assumption) | exact Zed (by omega)), by omega⟩)))]
  exact Zk (v := .bool true) rfl rfl rfl (by kernel_rfl) rfl
  refine Zn (vx := Zx (⟨0, 0, 0, 0, dz⟩ : Claim)) (vy := Zx r.claim) rfl rfl (.bool false) rfl rfl (Eq.trans (Zb8 (⟨0, 0, 0, 0, dz⟩ : Claim) r.claim) (by rw [h15] <;> rfl)) ?_
  refine Zg (.bool false) (Zc (.bool false) (Zd (Ze (Zs (Zq ?_)))))
  rw [show decide (Zaw r) = false from decide_eq_false (fun q => by rcases q with ⟨q1, q2, q3, q4, q5, q6⟩ | ⟨q1, q2, q3, q4, q5, q6⟩ | ⟨q1, q2, q3, q4, q5, q6⟩ | ⟨q1, q2, q3, q4, q5, q6⟩ <;> first | omega | (have := q4.1; have := q4.2.1; omega) | exact Z8 (by omega) q4.2.2 | exact Z6 (by omega) q6 | exact Z3 (by omega) q5 | exact absurd q4 (of_decide_eq_false (by assumption)) | exact absurd q5 (of_decide_eq_false (by assumption)) | exact absurd q6 (of_decide_eq_false (by assumption)) | (rw [‹Z0 _ _ = false›] at q4; cases q4) | (rw [Zt, ‹Z0 _ _ = false›] at q4; cases q4) | (rw [‹Zu _ _ = false›] at q5; cases q5) | (rw [Zp, ‹Zu _ _ = false›] at q5; cases q5))]
  exact Zk (v := .bool false) rfl rfl rfl (by kernel_rfl) rfl
  refine Zn (vx := Zal (⟨0, (⟨0, 0, 0, ⟨#[]⟩, (⟨(⟨0, 0, 0, dz, 0⟩ : Head), 0, dz⟩ : Signed), (⟨0, 0, 0, 0, dz⟩ : Claim)⟩ : Entry)⟩ : Item)) (vy := Zal r.item) rfl rfl (.bool false) rfl rfl (Eq.trans (Zde (⟨0, (⟨0, 0, 0, ⟨#[]⟩, (⟨(⟨0, 0, 0, dz, 0⟩ : Head), 0, dz⟩ : Signed), (⟨0, 0, 0, 0, dz⟩ : Claim)⟩ : Entry)⟩ : Item) r.item) (by rw [h14] <;> rfl)) ?_
  refine Zg (.bool false) (Zb (.bool false) (Za (Za (Za (Za (Za (Zg (.bool false) (Zc (.bool false) (Zd (Ze (Zs (Zq ?_))))))))))))
  rw [show decide (Zaw r) = false from decide_eq_false (fun q => by rcases q with ⟨q1, q2, q3, q4, q5, q6⟩ | ⟨q1, q2, q3, q4, q5, q6⟩ | ⟨q1, q2, q3, q4, q5, q6⟩ | ⟨q1, q2, q3, q4, q5, q6⟩ <;> first | omega | (have := q4.1; have := q4.2.1; omega) | exact Z8 (by omega) q4.2.2 | exact Z6 (by omega) q6 | exact Z3 (by omega) q5 | exact absurd q4 (of_decide_eq_false (by assumption)) | exact absurd q5 (of_decide_eq_false (by assumption)) | exact absurd q6 (of_decide_eq_false (by assumption)) | (rw [‹Z0 _ _ = false›] at q4; cases q4) | (rw [Zt, ‹Z0 _ _ = false›] at q4; cases q4) | (rw [‹Zu _ _ = false›] at q5; cases q5) | (rw [Zp, ‹Zu _ _ = false›] at q5; cases q5))]
  exact Zk (v := .bool false) rfl rfl rfl (by kernel_rfl) rfl
  refine Zn (vx := Iv 0) (vy := Iv r.from_) rfl rfl (.bool false) rfl rfl (Zaq (by omega)) ?_
  refine Zg (.bool false) (Zb (.bool false) (Za (Za (Za (Za (Za (Zg (.bool false) (Zb (.bool false) (Za (Za (Za (Za (Za (Zg (.bool false) (Zc (.bool false) (Zd (Ze (Zs (Zq ?_)))))))))))))))))))
  rw [show decide (Zaw r) = false from decide_eq_false (fun q => by rcases q with ⟨q1, q2, q3, q4, q5, q6⟩ | ⟨q1, q2, q3, q4, q5, q6⟩ | ⟨q1, q2, q3, q4, q5, q6⟩ | ⟨q1, q2, q3, q4, q5, q6⟩ <;> first | omega | (have := q4.1; have := q4.2.1; omega) | exact Z8 (by omega) q4.2.2 | exact Z6 (by omega) q6 | exact Z3 (by omega) q5 | exact absurd q4 (of_decide_eq_false (by assumption)) | exact absurd q5 (of_decide_eq_false (by assumption)) | exact absurd q6 (of_decide_eq_false (by assumption)) | (rw [‹Z0 _ _ = false›] at q4; cases q4) | (rw [Zt, ‹Z0 _ _ = false›] at q4; cases q4) | (rw [‹Zu _ _ = false›] at q5; cases q5) | (rw [Zp, ‹Zu _ _ = false›] at q5; cases q5))]
  exact Zk (v := .bool false) rfl rfl rfl (by kernel_rfl) rfl
  refine Zw ((Zbj (G := G) r.epoch 1 900000000).res (congrArg Value.bool (Z2 (by omega)))) (vals := [Iv r.epoch, Iv 1, Iv 900000000]) (res' := .bool false) rfl rfl rfl rfl rfl rfl ?_
  refine Zc (.bool false) (Zd (Z7 (Ze (Zi (Zm (Zb (.bool false) (Zb (.bool false) (Za (Za (Za (Za (Za (Zg (.bool false) (Zb (.bool false) (Za (Za (Za (Za (Za (Zg (.bool false) (Zb (.bool false) (Za (Za (Za (Za (Za (Zg (.bool false) ?_)))))))))))))))))))))))))))
  refine Zb (.bool false) (Za (Za (Za (Za (Za (Zg (.bool false) (Zc (.bool false) (Zd (Ze (Zs (Zq ?_)))))))))))
  rw [show decide (Zaw r) = false from decide_eq_false (fun q => by rcases q with ⟨q1, q2, q3, q4, q5, q6⟩ | ⟨q1, q2, q3, q4, q5, q6⟩ | ⟨q1, q2, q3, q4, q5, q6⟩ | ⟨q1, q2, q3, q4, q5, q6⟩ <;> first | omega | (have := q4.1; have := q4.2.1; omega) | exact Z8 (by omega) q4.2.2 | exact Z6 (by omega) q6 | exact Z3 (by omega) q5 | exact absurd q4 (of_decide_eq_false (by assumption)) | exact absurd q5 (of_decide_eq_false (by assumption)) | exact absurd q6 (of_decide_eq_false (by assumption)) | (rw [‹Z0 _ _ = false›] at q4; cases q4) | (rw [Zt, ‹Z0 _ _ = false›] at q4; cases q4) | (rw [‹Zu _ _ = false›] at q5; cases q5) | (rw [Zp, ‹Zu _ _ = false›] at q5; cases q5))]
  exact Zk (v := .bool false) rfl rfl rfl (by kernel_rfl) rfl
  refine Zw ((Zbj (G := G) r.epoch 1 900000000).res (congrArg Value.bool (Z2 (by omega)))) (vals := [Iv r.epoch, Iv 1, Iv 900000000]) (res' := .bool false) rfl rfl rfl rfl rfl rfl ?_
  refine Zc (.bool false) (Zd (Z7 (Ze (Zi (Zm (Zb (.bool false) (Zb (.bool false) (Za (Za (Za (Za (Za (Zg (.bool false) (Zb (.bool false) (Za (Za (Za (Za (Za (Zg (.bool false) (Zb (.bool false) (Za (Za (Za (Za (Za (Zg (.bool false) ?_)))))))))))))))))))))))))))
  refine Zb (.bool false) (Za (Za (Za (Za (Za (Zg (.bool false) (Zc (.bool false) (Zd (Ze (Zs (Zq ?_)))))))))))
  rw [show decide (Zaw r) = false from decide_eq_false (fun q => by rcases q with ⟨q1, q2, q3, q4, q5, q6⟩ | ⟨q1, q2, q3, q4, q5, q6⟩ | ⟨q1, q2, q3, q4, q5, q6⟩ | ⟨q1, q2, q3, q4, q5, q6⟩ <;> first | omega | (have := q4.1; have := q4.2.1; omega) | exact Z8 (by omega) q4.2.2 | exact Z6 (by omega) q6 | exact Z3 (by omega) q5 | exact absurd q4 (of_decide_eq_false (by assumption)) | exact absurd q5 (of_decide_eq_false (by assumption)) | exact absurd q6 (of_decide_eq_false (by assumption)) | (rw [‹Z0 _ _ = false›] at q4; cases q4) | (rw [Zt, ‹Z0 _ _ = false›] at q4; cases q4) | (rw [‹Zu _ _ = false›] at q5; cases q5) | (rw [Zp, ‹Zu _ _ = false›] at q5; cases q5))]
  exact Zk (v := .bool false) rfl rfl rfl (by kernel_rfl) rfl
  refine Zn (vx := Iv r.kind) (vy := Iv 1) rfl rfl (.bool false) rfl rfl (Zaq (by omega)) ?_
  refine Zc (.bool false) (Zd (Ze (Zz rfl (Zi (Zm ?_)))))
  by_cases h16 : r.kind = 2
  refine Zn (vx := Iv r.kind) (vy := Iv 2) rfl rfl (.bool true) rfl rfl (Zaj (by omega)) ?_
  refine Zc (.bool true) (Zd (Ze (Z4 rfl (Zi (Zm (Zf (b := 1) (o := 0) (n := 3) (o' := 3) (Zl (p := pt 1 3) (v := Zal r.item) (Zf (b := 2) (o := 0) (n := 3) (o' := 3) (Z5 (p := pt 2 3) (v := Zal r.item) (b := 2) (blk := mxB 150 ([Iv r.kind, Iv 0, Iv 0] ++ (Z1 r.item ++ ([.slice none 0 0] ++ (Zr (⟨0, 0, 0, 0, dz⟩ : Claim)))))) (H' := [rwR Zj r.items, Y6 r p q, mxB 150 ([Iv r.kind, Iv 0, Iv 0] ++ (Z1 r.item ++ ([.slice none 0 0] ++ (Zr (⟨0, 0, 0, 0, dz⟩ : Claim))))), hole]) (Zd (Ze (Zm (Zf (b := 1) (o := 0) (n := 3) (o' := 3) (Zf (b := 1) (o := 3) (n := 0) (o' := 3) (Zl (p := pt 1 3) (v := Iv r.item.epoch) ?_)))))))))))))))
  by_cases h17 : 1 ≤ r.item.epoch
  by_cases h18 : r.item.epoch ≤ 900000000
  refine Zw ((Zbj (G := G) r.item.epoch 1 900000000).res (congrArg Value.bool (Zak (by omega) (by omega)))) (vals := [Iv r.item.epoch, Iv 1, Iv 900000000]) (res' := .bool true) rfl rfl rfl rfl rfl rfl ?_
  refine Zb (.bool true) (Zf (b := 1) (o := 0) (n := 3) (o' := 3) (Zf (b := 1) (o := 3) (n := 1) (o' := 4) (Zl (p := pt 1 4) (v := Zdg r.item.entry) ?_)))
  refine Zw (Zlh (G := G) r.item.entry) (vals := [Zdg r.item.entry]) (res' := Iv (Zf4 r.item.entry)) rfl rfl rfl rfl rfl rfl ?_
  by_cases h19 : (Zf4 r.item.entry) = 0
  refine Zn (vx := Iv (Zf4 r.item.entry)) (vy := Iv 0) rfl rfl (.bool true) rfl rfl (Zaj (by omega)) ?_
  refine Zg (.bool true) (Zc (.bool true) (Zd (Z7 (Ze (Zi (Zm (Zb (.bool true) (Zb (.bool true) (Zf (b := 2) (o := 0) (n := 1) (o' := 1) (Zl (p := pt 2 1) (v := Iv 0) (Zf (b := 1) (o := 0) (n := 1) (o' := 1) (Zl (p := pt 1 1) (v := Iv r.epoch) ?_))))))))))))
  by_cases h20 : 0 = r.epoch
  refine Zn (vx := Iv 0) (vy := Iv r.epoch) rfl rfl (.bool true) rfl rfl (Zaj (by omega)) ?_
  refine Zg (.bool true) (Zb (.bool true) (Zf (b := 2) (o := 0) (n := 2) (o' := 2) (Zl (p := pt 2 2) (v := Iv 0) (Zf (b := 1) (o := 0) (n := 2) (o' := 2) (Zl (p := pt 1 2) (v := Iv r.from_) ?_)))))
  by_cases h21 : 0 = r.from_
  refine Zn (vx := Iv 0) (vy := Iv r.from_) rfl rfl (.bool true) rfl rfl (Zaj (by omega)) ?_
  refine Zg (.bool true) (Zb (.bool true) (Zf (b := 2) (o := 0) (n := 3) (o' := 3) (Zl (p := pt 2 3) (v := Zal r.item) (Zf (b := 1) (o := 0) (n := 3) (o' := 3) (Zl (p := pt 1 3) (v := Zal r.item) ?_)))))
  refine Zn (vx := Zal r.item) (vy := Zal r.item) rfl rfl (.bool true) rfl rfl (Eq.trans (Zde r.item r.item) (by rw [(Zan _)] <;> rfl)) ?_
  refine Zg (.bool true) (Zb (.bool true) (Zf (b := 2) (o := 0) (n := 114) (o' := 114) (Zl (p := pt 2 114) (v := Zx (⟨0, 0, 0, 0, dz⟩ : Claim)) (Zf (b := 1) (o := 0) (n := 114) (o' := 114) (Zl (p := pt 1 114) (v := Zx r.claim) ?_)))))
  rcases Bool.eq_false_or_eq_true (Zu (⟨0, 0, 0, 0, dz⟩ : Claim) r.claim) with h22 | h22
  refine Zn (vx := Zx (⟨0, 0, 0, 0, dz⟩ : Claim)) (vy := Zx r.claim) rfl rfl (.bool true) rfl rfl (Eq.trans (Zb8 (⟨0, 0, 0, 0, dz⟩ : Claim) r.claim) (by rw [h22] <;> rfl)) ?_
  refine Zg (.bool true) (Zc (.bool true) (Zd (Ze (Zs (Zq ?_)))))
  rw [show decide (Zaw r) = true from decide_eq_true (by first | exact .inl ⟨by omega, by omega, by omega, (by first | assumption | exact Zan _ | (rw [Zt]; assumption)), (by first | assumption | exact Zag _ | (rw [Zp]; assumption)), by omega⟩ | exact .inr (.inl ⟨by omega, by omega, by omega, (by first | exact of_decide_eq_true (by assumption) | exact ⟨by omega, by omega, Zeo (by omega)⟩), (by first | assumption | exact Zag _ | (rw [Zp]; assumption)), by omega⟩) | exact .inr (.inr (.inl ⟨by omega, by omega, by omega, (by first | assumption | exact Zan _ | (rw [Zt]; assumption)), (by first | assumption | exact Zag _ | (rw [Zp]; assumption)), (by first | exact of_decide_eq_true (by assumption) | exact Za5 (by omega))⟩)) | exact .inr (.inr (.inr ⟨by omega, by omega, by omega, (by first | assumption | exact Zan _ | (rw [Zt]; assumption)), (by first | exact of_decide_eq_true (by assumption) | exact Zed (by omega)), by omega⟩)))]
  exact Zk (v := .bool true) rfl rfl rfl (by kernel_rfl) rfl
  refine Zn (vx := Zx (⟨0, 0, 0, 0, dz⟩ : Claim)) (vy := Zx r.claim) rfl rfl (.bool false) rfl rfl (Eq.trans (Zb8 (⟨0, 0, 0, 0, dz⟩ : Claim) r.claim) (by rw [h22] <;> rfl)) ?_
  refine Zg (.bool false) (Zc (.bool false) (Zd (Ze (Zs (Zq ?_)))))
  rw [show decide (Zaw r) = false from decide_eq_false (fun q => by rcases q with ⟨q1, q2, q3, q4, q5, q6⟩ | ⟨q1, q2, q3, q4, q5, q6⟩ | ⟨q1, q2, q3, q4, q5, q6⟩ | ⟨q1, q2, q3, q4, q5, q6⟩ <;> first | omega | (have := q4.1; have := q4.2.1; omega) | exact Z8 (by omega) q4.2.2 | exact Z6 (by omega) q6 | exact Z3 (by omega) q5 | exact absurd q4 (of_decide_eq_false (by assumption)) | exact absurd q5 (of_decide_eq_false (by assumption)) | exact absurd q6 (of_decide_eq_false (by assumption)) | (rw [‹Z0 _ _ = false›] at q4; cases q4) | (rw [Zt, ‹Z0 _ _ = false›] at q4; cases q4) | (rw [‹Zu _ _ = false›] at q5; cases q5) | (rw [Zp, ‹Zu _ _ = false›] at q5; cases q5))]
  exact Zk (v := .bool false) rfl rfl rfl (by kernel_rfl) rfl
  refine Zn (vx := Iv 0) (vy := Iv r.from_) rfl rfl (.bool false) rfl rfl (Zaq (by omega)) ?_
  refine Zg (.bool false) (Zb (.bool false) (Za (Za (Za (Za (Za (Zg (.bool false) (Zb (.bool false) (Za (Za (Za (Za (Za (Zg (.bool false) (Zc (.bool false) (Zd (Ze (Zs (Zq ?_)))))))))))))))))))
  rw [show decide (Zaw r) = false from decide_eq_false (fun q => by rcases q with ⟨q1, q2, q3, q4, q5, q6⟩ | ⟨q1, q2, q3, q4, q5, q6⟩ | ⟨q1, q2, q3, q4, q5, q6⟩ | ⟨q1, q2, q3, q4, q5, q6⟩ <;> first | omega | (have := q4.1; have := q4.2.1; omega) | exact Z8 (by omega) q4.2.2 | exact Z6 (by omega) q6 | exact Z3 (by omega) q5 | exact absurd q4 (of_decide_eq_false (by assumption)) | exact absurd q5 (of_decide_eq_false (by assumption)) | exact absurd q6 (of_decide_eq_false (by assumption)) | (rw [‹Z0 _ _ = false›] at q4; cases q4) | (rw [Zt, ‹Z0 _ _ = false›] at q4; cases q4) | (rw [‹Zu _ _ = false›] at q5; cases q5) | (rw [Zp, ‹Zu _ _ = false›] at q5; cases q5))]
  exact Zk (v := .bool false) rfl rfl rfl (by kernel_rfl) rfl
  refine Zn (vx := Iv 0) (vy := Iv r.epoch) rfl rfl (.bool false) rfl rfl (Zaq (by omega)) ?_
  refine Zg (.bool false) (Zb (.bool false) (Za (Za (Za (Za (Za (Zg (.bool false) (Zb (.bool false) (Za (Za (Za (Za (Za (Zg (.bool false) (Zb (.bool false) (Za (Za (Za (Za (Za (Zg (.bool false) (Zc (.bool false) (Zd (Ze (Zs (Zq ?_))))))))))))))))))))))))))
  rw [show decide (Zaw r) = false from decide_eq_false (fun q => by rcases q with ⟨q1, q2, q3, q4, q5, q6⟩ | ⟨q1, q2, q3, q4, q5, q6⟩ | ⟨q1, q2, q3, q4, q5, q6⟩ | ⟨q1, q2, q3, q4, q5, q6⟩ <;> first | omega | (have := q4.1; have := q4.2.1; omega) | exact Z8 (by omega) q4.2.2 | exact Z6 (by omega) q6 | exact Z3 (by omega) q5 | exact absurd q4 (of_decide_eq_false (by assumption)) | exact absurd q5 (of_decide_eq_false (by assumption)) | exact absurd q6 (of_decide_eq_false (by assumption)) | (rw [‹Z0 _ _ = false›] at q4; cases q4) | (rw [Zt, ‹Z0 _ _ = false›] at q4; cases q4) | (rw [‹Zu _ _ = false›] at q5; cases q5) | (rw [Zp, ‹Zu _ _ = false›] at q5; cases q5))]
  exact Zk (v := .bool false) rfl rfl rfl (by kernel_rfl) rfl
  refine Zn (vx := Iv (Zf4 r.item.entry)) (vy := Iv 0) rfl rfl (.bool false) rfl rfl (Zaq (by omega)) ?_
  refine Zg (.bool false) (Zc (.bool false) (Zd (Z7 (Ze (Zi (Zm (Zb (.bool false) (Zb (.bool false) (Za (Za (Za (Za (Za (Zg (.bool false) (Zb (.bool false) (Za (Za (Za (Za (Za (Zg (.bool false) (Zb (.bool false) (Za (Za (Za (Za (Za ?_)))))))))))))))))))))))))))
  refine Zg (.bool false) (Zb (.bool false) (Za (Za (Za (Za (Za (Zg (.bool false) (Zc (.bool false) (Zd (Ze (Zs (Zq ?_))))))))))))
  rw [show decide (Zaw r) = false from decide_eq_false (fun q => by rcases q with ⟨q1, q2, q3, q4, q5, q6⟩ | ⟨q1, q2, q3, q4, q5, q6⟩ | ⟨q1, q2, q3, q4, q5, q6⟩ | ⟨q1, q2, q3, q4, q5, q6⟩ <;> first | omega | (have := q4.1; have := q4.2.1; omega) | exact Z8 (by omega) q4.2.2 | exact Z6 (by omega) q6 | exact Z3 (by omega) q5 | exact absurd q4 (of_decide_eq_false (by assumption)) | exact absurd q5 (of_decide_eq_false (by assumption)) | exact absurd q6 (of_decide_eq_false (by assumption)) | (rw [‹Z0 _ _ = false›] at q4; cases q4) | (rw [Zt, ‹Z0 _ _ = false›] at q4; cases q4) | (rw [‹Zu _ _ = false›] at q5; cases q5) | (rw [Zp, ‹Zu _ _ = false›] at q5; cases q5))]
  exact Zk (v := .bool false) rfl rfl rfl (by kernel_rfl) rfl
  refine Zw ((Zbj (G := G) r.item.epoch 1 900000000).res (congrArg Value.bool (Z2 (by omega)))) (vals := [Iv r.item.epoch, Iv 1, Iv 900000000]) (res' := .bool false) rfl rfl rfl rfl rfl rfl ?_
  refine Zb (.bool false) (Za (Za (Za (Za (Za (Zg (.bool false) (Zc (.bool false) (Zd (Z7 (Ze (Zi (Zm (Zb (.bool false) (Zb (.bool false) (Za (Za (Za (Za (Za (Zg (.bool false) (Zb (.bool false) (Za (Za (Za (Za (Za (Zg (.bool false) ?_)))))))))))))))))))))))))))
  refine Zb (.bool false) (Za (Za (Za (Za (Za (Zg (.bool false) (Zb (.bool false) (Za (Za (Za (Za (Za (Zg (.bool false) (Zc (.bool false) (Zd (Ze (Zs (Zq ?_))))))))))))))))))
  rw [show decide (Zaw r) = false from decide_eq_false (fun q => by rcases q with ⟨q1, q2, q3, q4, q5, q6⟩ | ⟨q1, q2, q3, q4, q5, q6⟩ | ⟨q1, q2, q3, q4, q5, q6⟩ | ⟨q1, q2, q3, q4, q5, q6⟩ <;> first | omega | (have := q4.1; have := q4.2.1; omega) | exact Z8 (by omega) q4.2.2 | exact Z6 (by omega) q6 | exact Z3 (by omega) q5 | exact absurd q4 (of_decide_eq_false (by assumption)) | exact absurd q5 (of_decide_eq_false (by assumption)) | exact absurd q6 (of_decide_eq_false (by assumption)) | (rw [‹Z0 _ _ = false›] at q4; cases q4) | (rw [Zt, ‹Z0 _ _ = false›] at q4; cases q4) | (rw [‹Zu _ _ = false›] at q5; cases q5) | (rw [Zp, ‹Zu _ _ = false›] at q5; cases q5))]
  exact Zk (v := .bool false) rfl rfl rfl (by kernel_rfl) rfl
  refine Zw ((Zbj (G := G) r.item.epoch 1 900000000).res (congrArg Value.bool (Z2 (by omega)))) (vals := [Iv r.item.epoch, Iv 1, Iv 900000000]) (res' := .bool false) rfl rfl rfl rfl rfl rfl ?_
  refine Zb (.bool false) (Za (Za (Za (Za (Za (Zg (.bool false) (Zc (.bool false) (Zd (Z7 (Ze (Zi (Zm (Zb (.bool false) (Zb (.bool false) (Za (Za (Za (Za (Za (Zg (.bool false) (Zb (.bool false) (Za (Za (Za (Za (Za (Zg (.bool false) ?_)))))))))))))))))))))))))))
  refine Zb (.bool false) (Za (Za (Za (Za (Za (Zg (.bool false) (Zb (.bool false) (Za (Za (Za (Za (Za (Zg (.bool false) (Zc (.bool false) (Zd (Ze (Zs (Zq ?_))))))))))))))))))
  rw [show decide (Zaw r) = false from decide_eq_false (fun q => by rcases q with ⟨q1, q2, q3, q4, q5, q6⟩ | ⟨q1, q2, q3, q4, q5, q6⟩ | ⟨q1, q2, q3, q4, q5, q6⟩ | ⟨q1, q2, q3, q4, q5, q6⟩ <;> first | omega | (have := q4.1; have := q4.2.1; omega) | exact Z8 (by omega) q4.2.2 | exact Z6 (by omega) q6 | exact Z3 (by omega) q5 | exact absurd q4 (of_decide_eq_false (by assumption)) | exact absurd q5 (of_decide_eq_false (by assumption)) | exact absurd q6 (of_decide_eq_false (by assumption)) | (rw [‹Z0 _ _ = false›] at q4; cases q4) | (rw [Zt, ‹Z0 _ _ = false›] at q4; cases q4) | (rw [‹Zu _ _ = false›] at q5; cases q5) | (rw [Zp, ‹Zu _ _ = false›] at q5; cases q5))]
  exact Zk (v := .bool false) rfl rfl rfl (by kernel_rfl) rfl
  refine Zn (vx := Iv r.kind) (vy := Iv 2) rfl rfl (.bool false) rfl rfl (Zaq (by omega)) ?_
  refine Zc (.bool false) (Zd (Ze (Zz rfl (Zi (Zm ?_)))))
  by_cases h23 : r.kind = 3
  refine Zn (vx := Iv r.kind) (vy := Iv 3) rfl rfl (.bool true) rfl rfl (Zaj (by omega)) ?_
  refine Zc (.bool true) (Zd (Ze (Z4 rfl (Zi ?_))))
  refine Zek (by kernel_rfl) ?_
  refine Zf (b := 1) (o := 0) (n := 1) (o' := 1) (Zl (p := pt 1 1) (v := Iv r.epoch) (Zf (b := 1) (o := 0) (n := 2) (o' := 2) (Zl (p := pt 1 2) (v := Iv r.from_) (Zf (b := 2) (o := 0) (n := 1) (o' := 1) (Z5 (p := pt 2 1) (v := Iv r.epoch) (b := 2) (blk := mxB 150 ([Iv r.kind, Iv r.epoch, Iv 0] ++ (Z1 (⟨0, (⟨0, 0, 0, ⟨#[]⟩, (⟨(⟨0, 0, 0, dz, 0⟩ : Head), 0, dz⟩ : Signed), (⟨0, 0, 0, 0, dz⟩ : Claim)⟩ : Entry)⟩ : Item) ++ ([.slice none 0 0] ++ (Zr (⟨0, 0, 0, 0, dz⟩ : Claim)))))) (H' := [rwR Zj r.items, Y6 r p q, mxB 150 ([Iv r.kind, Iv r.epoch, Iv 0] ++ (Z1 (⟨0, (⟨0, 0, 0, ⟨#[]⟩, (⟨(⟨0, 0, 0, dz, 0⟩ : Head), 0, dz⟩ : Signed), (⟨0, 0, 0, 0, dz⟩ : Claim)⟩ : Entry)⟩ : Item) ++ ([.slice none 0 0] ++ (Zr (⟨0, 0, 0, 0, dz⟩ : Claim))))), hole]) (Zf (b := 2) (o := 0) (n := 2) (o' := 2) (Z5 (p := pt 2 2) (v := Iv r.from_) (b := 2) (blk := mxB 150 ([Iv r.kind, Iv r.epoch, Iv r.from_] ++ (Z1 (⟨0, (⟨0, 0, 0, ⟨#[]⟩, (⟨(⟨0, 0, 0, dz, 0⟩ : Head), 0, dz⟩ : Signed), (⟨0, 0, 0, 0, dz⟩ : Claim)⟩ : Entry)⟩ : Item) ++ ([.slice none 0 0] ++ (Zr (⟨0, 0, 0, 0, dz⟩ : Claim)))))) (H' := [rwR Zj r.items, Y6 r p q, mxB 150 ([Iv r.kind, Iv r.epoch, Iv r.from_] ++ (Z1 (⟨0, (⟨0, 0, 0, ⟨#[]⟩, (⟨(⟨0, 0, 0, dz, 0⟩ : Head), 0, dz⟩ : Signed), (⟨0, 0, 0, 0, dz⟩ : Claim)⟩ : Entry)⟩ : Item) ++ ([.slice none 0 0] ++ (Zr (⟨0, 0, 0, 0, dz⟩ : Claim))))), hole]) ?_)))))))
  refine Zbv (Za4 [[], [0], [], [2], [0, 1], [0, 1, 4], [0, 1, 2, 3, 4, 5], [0, 1, 2, 3, 4, 5, 6]] (by kernel_rfl) (by kernel_rfl)) ?_
  refine Ze (Zm (Zf (b := 1) (o := 0) (n := 1) (o' := 1) (Zl (p := pt 1 1) (v := Iv r.epoch) ?_)))
  by_cases h24 : 1 ≤ r.epoch
  by_cases h25 : r.epoch ≤ 900000000
  refine Zw ((Zbj (G := G) r.epoch 1 900000000).res (congrArg Value.bool (Zak (by omega) (by omega)))) (vals := [Iv r.epoch, Iv 1, Iv 900000000]) (res' := .bool true) rfl rfl rfl rfl rfl rfl ?_
  refine Zb (.bool true) (Zf (b := 1) (o := 0) (n := 2) (o' := 2) (Zl (p := pt 1 2) (v := Iv r.from_) ?_))
  by_cases h26 : 0 ≤ r.from_
  by_cases h27 : r.from_ ≤ 2000
  refine Zw ((Zbj (G := G) r.from_ 0 2000).res (congrArg Value.bool (Zak (by omega) (by omega)))) (vals := [Iv r.from_, Iv 0, Iv 2000]) (res' := .bool true) rfl rfl rfl rfl rfl rfl ?_
  refine Zg (.bool true) (Zb (.bool true) (Zf (b := 1) (o := 0) (n := 113) (o' := 113) (Zl (p := pt 1 113) (v := slv 0 0 p q) ?_)))
  refine Zab (e := [some (0, 0)]) (nid := 0) (Zi5 (G := G) r.items p q hp (by omega) (by omega)) (vals := [slv 0 0 p q]) (v := Iv (Zgm r.items)) (H' := [rwR Zj r.items, Y6 r p q, mxB 150 ([Iv r.kind, Iv r.epoch, Iv r.from_] ++ (Z1 (⟨0, (⟨0, 0, 0, ⟨#[]⟩, (⟨(⟨0, 0, 0, dz, 0⟩ : Head), 0, dz⟩ : Signed), (⟨0, 0, 0, 0, dz⟩ : Claim)⟩ : Entry)⟩ : Item) ++ ([.slice none 0 0] ++ (Zr (⟨0, 0, 0, 0, dz⟩ : Claim))))), hole]) rfl rfl rfl rfl rfl rfl rfl ⟨⟨⟨rfl, rfl, rfl, by first | omega | exact Nat.le_refl _, by first | omega | exact Nat.le_refl _⟩, trivial⟩, ⟨(Zaf rfl), trivial⟩, rfl, rfl, rfl⟩ rfl (by kernel_rfl) ?_
  by_cases h28 : (Zgm r.items) = 0
  refine Zn (vx := Iv (Zgm r.items)) (vy := Iv 0) rfl rfl (.bool true) rfl rfl (Zaj (by omega)) ?_
  refine Zg (.bool true) (Zc (.bool true) (Zd (Z7 (Ze (Zi (Zm (Zb (.bool true) (Zb (.bool true) (Zf (b := 2) (o := 0) (n := 1) (o' := 1) (Zl (p := pt 2 1) (v := Iv r.epoch) (Zf (b := 1) (o := 0) (n := 1) (o' := 1) (Zl (p := pt 1 1) (v := Iv r.epoch) ?_))))))))))))
  refine Zn (vx := Iv r.epoch) (vy := Iv r.epoch) rfl rfl (.bool true) rfl rfl (Zaj (by omega)) ?_
  refine Zg (.bool true) (Zb (.bool true) (Zf (b := 2) (o := 0) (n := 2) (o' := 2) (Zl (p := pt 2 2) (v := Iv r.from_) (Zf (b := 1) (o := 0) (n := 2) (o' := 2) (Zl (p := pt 1 2) (v := Iv r.from_) ?_)))))
  refine Zn (vx := Iv r.from_) (vy := Iv r.from_) rfl rfl (.bool true) rfl rfl (Zaj (by omega)) ?_
  refine Zg (.bool true) (Zb (.bool true) (Zf (b := 2) (o := 0) (n := 3) (o' := 3) (Zl (p := pt 2 3) (v := Zal (⟨0, (⟨0, 0, 0, ⟨#[]⟩, (⟨(⟨0, 0, 0, dz, 0⟩ : Head), 0, dz⟩ : Signed), (⟨0, 0, 0, 0, dz⟩ : Claim)⟩ : Entry)⟩ : Item)) (Zf (b := 1) (o := 0) (n := 3) (o' := 3) (Zl (p := pt 1 3) (v := Zal r.item) ?_)))))
  rcases Bool.eq_false_or_eq_true (Z0 (⟨0, (⟨0, 0, 0, ⟨#[]⟩, (⟨(⟨0, 0, 0, dz, 0⟩ : Head), 0, dz⟩ : Signed), (⟨0, 0, 0, 0, dz⟩ : Claim)⟩ : Entry)⟩ : Item) r.item) with h29 | h29
  refine Zn (vx := Zal (⟨0, (⟨0, 0, 0, ⟨#[]⟩, (⟨(⟨0, 0, 0, dz, 0⟩ : Head), 0, dz⟩ : Signed), (⟨0, 0, 0, 0, dz⟩ : Claim)⟩ : Entry)⟩ : Item)) (vy := Zal r.item) rfl rfl (.bool true) rfl rfl (Eq.trans (Zde (⟨0, (⟨0, 0, 0, ⟨#[]⟩, (⟨(⟨0, 0, 0, dz, 0⟩ : Head), 0, dz⟩ : Signed), (⟨0, 0, 0, 0, dz⟩ : Claim)⟩ : Entry)⟩ : Item) r.item) (by rw [h29] <;> rfl)) ?_
  refine Zg (.bool true) (Zb (.bool true) (Zf (b := 2) (o := 0) (n := 114) (o' := 114) (Zl (p := pt 2 114) (v := Zx (⟨0, 0, 0, 0, dz⟩ : Claim)) (Zf (b := 1) (o := 0) (n := 114) (o' := 114) (Zl (p := pt 1 114) (v := Zx r.claim) ?_)))))
  rcases Bool.eq_false_or_eq_true (Zu (⟨0, 0, 0, 0, dz⟩ : Claim) r.claim) with h30 | h30
  refine Zn (vx := Zx (⟨0, 0, 0, 0, dz⟩ : Claim)) (vy := Zx r.claim) rfl rfl (.bool true) rfl rfl (Eq.trans (Zb8 (⟨0, 0, 0, 0, dz⟩ : Claim) r.claim) (by rw [h30] <;> rfl)) ?_
  refine Zg (.bool true) (Zc (.bool true) (Zd (Ze (Zs (Zq ?_)))))
  rw [show decide (Zaw r) = true from decide_eq_true (by first | exact .inl ⟨by omega, by omega, by omega, (by first | assumption | exact Zan _ | (rw [Zt]; assumption)), (by first | assumption | exact Zag _ | (rw [Zp]; assumption)), by omega⟩ | exact .inr (.inl ⟨by omega, by omega, by omega, (by first | exact of_decide_eq_true (by assumption) | exact ⟨by omega, by omega, Zeo (by omega)⟩), (by first | assumption | exact Zag _ | (rw [Zp]; assumption)), by omega⟩) | exact .inr (.inr (.inl ⟨by omega, by omega, by omega, (by first | assumption | exact Zan _ | (rw [Zt]; assumption)), (by first | assumption | exact Zag _ | (rw [Zp]; assumption)), (by first | exact of_decide_eq_true (by assumption) | exact Za5 (by omega))⟩)) | exact .inr (.inr (.inr ⟨by omega, by omega, by omega, (by first | assumption | exact Zan _ | (rw [Zt]; assumption)), (by first | exact of_decide_eq_true (by assumption) | exact Zed (by omega)), by omega⟩)))]
  exact Zk (v := .bool true) rfl rfl rfl (by kernel_rfl) rfl
  refine Zn (vx := Zx (⟨0, 0, 0, 0, dz⟩ : Claim)) (vy := Zx r.claim) rfl rfl (.bool false) rfl rfl (Eq.trans (Zb8 (⟨0, 0, 0, 0, dz⟩ : Claim) r.claim) (by rw [h30] <;> rfl)) ?_
  refine Zg (.bool false) (Zc (.bool false) (Zd (Ze (Zs (Zq ?_)))))
  rw [show decide (Zaw r) = false from decide_eq_false (fun q => by rcases q with ⟨q1, q2, q3, q4, q5, q6⟩ | ⟨q1, q2, q3, q4, q5, q6⟩ | ⟨q1, q2, q3, q4, q5, q6⟩ | ⟨q1, q2, q3, q4, q5, q6⟩ <;> first | omega | (have := q4.1; have := q4.2.1; omega) | exact Z8 (by omega) q4.2.2 | exact Z6 (by omega) q6 | exact Z3 (by omega) q5 | exact absurd q4 (of_decide_eq_false (by assumption)) | exact absurd q5 (of_decide_eq_false (by assumption)) | exact absurd q6 (of_decide_eq_false (by assumption)) | (rw [‹Z0 _ _ = false›] at q4; cases q4) | (rw [Zt, ‹Z0 _ _ = false›] at q4; cases q4) | (rw [‹Zu _ _ = false›] at q5; cases q5) | (rw [Zp, ‹Zu _ _ = false›] at q5; cases q5))]
  exact Zk (v := .bool false) rfl rfl rfl (by kernel_rfl) rfl
  refine Zn (vx := Zal (⟨0, (⟨0, 0, 0, ⟨#[]⟩, (⟨(⟨0, 0, 0, dz, 0⟩ : Head), 0, dz⟩ : Signed), (⟨0, 0, 0, 0, dz⟩ : Claim)⟩ : Entry)⟩ : Item)) (vy := Zal r.item) rfl rfl (.bool false) rfl rfl (Eq.trans (Zde (⟨0, (⟨0, 0, 0, ⟨#[]⟩, (⟨(⟨0, 0, 0, dz, 0⟩ : Head), 0, dz⟩ : Signed), (⟨0, 0, 0, 0, dz⟩ : Claim)⟩ : Entry)⟩ : Item) r.item) (by rw [h29] <;> rfl)) ?_
  refine Zg (.bool false) (Zb (.bool false) (Za (Za (Za (Za (Za (Zg (.bool false) (Zc (.bool false) (Zd (Ze (Zs (Zq ?_))))))))))))
  rw [show decide (Zaw r) = false from decide_eq_false (fun q => by rcases q with ⟨q1, q2, q3, q4, q5, q6⟩ | ⟨q1, q2, q3, q4, q5, q6⟩ | ⟨q1, q2, q3, q4, q5, q6⟩ | ⟨q1, q2, q3, q4, q5, q6⟩ <;> first | omega | (have := q4.1; have := q4.2.1; omega) | exact Z8 (by omega) q4.2.2 | exact Z6 (by omega) q6 | exact Z3 (by omega) q5 | exact absurd q4 (of_decide_eq_false (by assumption)) | exact absurd q5 (of_decide_eq_false (by assumption)) | exact absurd q6 (of_decide_eq_false (by assumption)) | (rw [‹Z0 _ _ = false›] at q4; cases q4) | (rw [Zt, ‹Z0 _ _ = false›] at q4; cases q4) | (rw [‹Zu _ _ = false›] at q5; cases q5) | (rw [Zp, ‹Zu _ _ = false›] at q5; cases q5))]
  exact Zk (v := .bool false) rfl rfl rfl (by kernel_rfl) rfl
  refine Zn (vx := Iv (Zgm r.items)) (vy := Iv 0) rfl rfl (.bool false) rfl rfl (Zaq (by omega)) ?_
  refine Zg (.bool false) (Zc (.bool false) (Zd (Z7 (Ze (Zi (Zm (Zb (.bool false) (Zb (.bool false) (Za (Za (Za (Za (Za (Zg (.bool false) (Zb (.bool false) (Za (Za (Za (Za (Za (Zg (.bool false) (Zb (.bool false) (Za (Za (Za (Za (Za ?_)))))))))))))))))))))))))))
  refine Zg (.bool false) (Zb (.bool false) (Za (Za (Za (Za (Za (Zg (.bool false) (Zc (.bool false) (Zd (Ze (Zs (Zq ?_))))))))))))
  rw [show decide (Zaw r) = false from decide_eq_false (fun q => by rcases q with ⟨q1, q2, q3, q4, q5, q6⟩ | ⟨q1, q2, q3, q4, q5, q6⟩ | ⟨q1, q2, q3, q4, q5, q6⟩ | ⟨q1, q2, q3, q4, q5, q6⟩ <;> first | omega | (have := q4.1; have := q4.2.1; omega) | exact Z8 (by omega) q4.2.2 | exact Z6 (by omega) q6 | exact Z3 (by omega) q5 | exact absurd q4 (of_decide_eq_false (by assumption)) | exact absurd q5 (of_decide_eq_false (by assumption)) | exact absurd q6 (of_decide_eq_false (by assumption)) | (rw [‹Z0 _ _ = false›] at q4; cases q4) | (rw [Zt, ‹Z0 _ _ = false›] at q4; cases q4) | (rw [‹Zu _ _ = false›] at q5; cases q5) | (rw [Zp, ‹Zu _ _ = false›] at q5; cases q5))]
  exact Zk (v := .bool false) rfl rfl rfl (by kernel_rfl) rfl
  refine Zw ((Zbj (G := G) r.from_ 0 2000).res (congrArg Value.bool (Z2 (by omega)))) (vals := [Iv r.from_, Iv 0, Iv 2000]) (res' := .bool false) rfl rfl rfl rfl rfl rfl ?_
  refine Zg (.bool false) (Zb (.bool false) (Za (Za (Za (Za (Zg (.bool false) (Zc (.bool false) (Zd (Z7 (Ze (Zi (Zm (Zb (.bool false) (Zb (.bool false) (Za (Za (Za (Za (Za (Zg (.bool false) (Zb (.bool false) (Za (Za (Za (Za (Za ?_))))))))))))))))))))))))))
  refine Zg (.bool false) (Zb (.bool false) (Za (Za (Za (Za (Za (Zg (.bool false) (Zb (.bool false) (Za (Za (Za (Za (Za (Zg (.bool false) (Zc (.bool false) (Zd (Ze (Zs (Zq ?_)))))))))))))))))))
  rw [show decide (Zaw r) = false from decide_eq_false (fun q => by rcases q with ⟨q1, q2, q3, q4, q5, q6⟩ | ⟨q1, q2, q3, q4, q5, q6⟩ | ⟨q1, q2, q3, q4, q5, q6⟩ | ⟨q1, q2, q3, q4, q5, q6⟩ <;> first | omega | (have := q4.1; have := q4.2.1; omega) | exact Z8 (by omega) q4.2.2 | exact Z6 (by omega) q6 | exact Z3 (by omega) q5 | exact absurd q4 (of_decide_eq_false (by assumption)) | exact absurd q5 (of_decide_eq_false (by assumption)) | exact absurd q6 (of_decide_eq_false (by assumption)) | (rw [‹Z0 _ _ = false›] at q4; cases q4) | (rw [Zt, ‹Z0 _ _ = false›] at q4; cases q4) | (rw [‹Zu _ _ = false›] at q5; cases q5) | (rw [Zp, ‹Zu _ _ = false›] at q5; cases q5))]
  exact Zk (v := .bool false) rfl rfl rfl (by kernel_rfl) rfl
  refine Zw ((Zbj (G := G) r.from_ 0 2000).res (congrArg Value.bool (Z2 (by omega)))) (vals := [Iv r.from_, Iv 0, Iv 2000]) (res' := .bool false) rfl rfl rfl rfl rfl rfl ?_
  refine Zg (.bool false) (Zb (.bool false) (Za (Za (Za (Za (Zg (.bool false) (Zc (.bool false) (Zd (Z7 (Ze (Zi (Zm (Zb (.bool false) (Zb (.bool false) (Za (Za (Za (Za (Za (Zg (.bool false) (Zb (.bool false) (Za (Za (Za (Za (Za ?_))))))))))))))))))))))))))
  refine Zg (.bool false) (Zb (.bool false) (Za (Za (Za (Za (Za (Zg (.bool false) (Zb (.bool false) (Za (Za (Za (Za (Za (Zg (.bool false) (Zc (.bool false) (Zd (Ze (Zs (Zq ?_)))))))))))))))))))
  rw [show decide (Zaw r) = false from decide_eq_false (fun q => by rcases q with ⟨q1, q2, q3, q4, q5, q6⟩ | ⟨q1, q2, q3, q4, q5, q6⟩ | ⟨q1, q2, q3, q4, q5, q6⟩ | ⟨q1, q2, q3, q4, q5, q6⟩ <;> first | omega | (have := q4.1; have := q4.2.1; omega) | exact Z8 (by omega) q4.2.2 | exact Z6 (by omega) q6 | exact Z3 (by omega) q5 | exact absurd q4 (of_decide_eq_false (by assumption)) | exact absurd q5 (of_decide_eq_false (by assumption)) | exact absurd q6 (of_decide_eq_false (by assumption)) | (rw [‹Z0 _ _ = false›] at q4; cases q4) | (rw [Zt, ‹Z0 _ _ = false›] at q4; cases q4) | (rw [‹Zu _ _ = false›] at q5; cases q5) | (rw [Zp, ‹Zu _ _ = false›] at q5; cases q5))]
  exact Zk (v := .bool false) rfl rfl rfl (by kernel_rfl) rfl
  refine Zw ((Zbj (G := G) r.epoch 1 900000000).res (congrArg Value.bool (Z2 (by omega)))) (vals := [Iv r.epoch, Iv 1, Iv 900000000]) (res' := .bool false) rfl rfl rfl rfl rfl rfl ?_
  refine Zb (.bool false) (Za (Za (Za (Zg (.bool false) (Zb (.bool false) (Za (Za (Za (Za (Zg (.bool false) (Zc (.bool false) (Zd (Z7 (Ze (Zi (Zm (Zb (.bool false) (Zb (.bool false) (Za (Za (Za (Za (Za (Zg (.bool false) ?_))))))))))))))))))))))))
  refine Zb (.bool false) (Za (Za (Za (Za (Za (Zg (.bool false) (Zb (.bool false) (Za (Za (Za (Za (Za (Zg (.bool false) (Zb (.bool false) (Za (Za (Za (Za (Za (Zg (.bool false) (Zc (.bool false) (Zd (Ze (Zs (Zq ?_)))))))))))))))))))))))))
  rw [show decide (Zaw r) = false from decide_eq_false (fun q => by rcases q with ⟨q1, q2, q3, q4, q5, q6⟩ | ⟨q1, q2, q3, q4, q5, q6⟩ | ⟨q1, q2, q3, q4, q5, q6⟩ | ⟨q1, q2, q3, q4, q5, q6⟩ <;> first | omega | (have := q4.1; have := q4.2.1; omega) | exact Z8 (by omega) q4.2.2 | exact Z6 (by omega) q6 | exact Z3 (by omega) q5 | exact absurd q4 (of_decide_eq_false (by assumption)) | exact absurd q5 (of_decide_eq_false (by assumption)) | exact absurd q6 (of_decide_eq_false (by assumption)) | (rw [‹Z0 _ _ = false›] at q4; cases q4) | (rw [Zt, ‹Z0 _ _ = false›] at q4; cases q4) | (rw [‹Zu _ _ = false›] at q5; cases q5) | (rw [Zp, ‹Zu _ _ = false›] at q5; cases q5))]
  exact Zk (v := .bool false) rfl rfl rfl (by kernel_rfl) rfl
  refine Zw ((Zbj (G := G) r.epoch 1 900000000).res (congrArg Value.bool (Z2 (by omega)))) (vals := [Iv r.epoch, Iv 1, Iv 900000000]) (res' := .bool false) rfl rfl rfl rfl rfl rfl ?_
  refine Zb (.bool false) (Za (Za (Za (Zg (.bool false) (Zb (.bool false) (Za (Za (Za (Za (Zg (.bool false) (Zc (.bool false) (Zd (Z7 (Ze (Zi (Zm (Zb (.bool false) (Zb (.bool false) (Za (Za (Za (Za (Za (Zg (.bool false) ?_))))))))))))))))))))))))
  refine Zb (.bool false) (Za (Za (Za (Za (Za (Zg (.bool false) (Zb (.bool false) (Za (Za (Za (Za (Za (Zg (.bool false) (Zb (.bool false) (Za (Za (Za (Za (Za (Zg (.bool false) (Zc (.bool false) (Zd (Ze (Zs (Zq ?_)))))))))))))))))))))))))
  rw [show decide (Zaw r) = false from decide_eq_false (fun q => by rcases q with ⟨q1, q2, q3, q4, q5, q6⟩ | ⟨q1, q2, q3, q4, q5, q6⟩ | ⟨q1, q2, q3, q4, q5, q6⟩ | ⟨q1, q2, q3, q4, q5, q6⟩ <;> first | omega | (have := q4.1; have := q4.2.1; omega) | exact Z8 (by omega) q4.2.2 | exact Z6 (by omega) q6 | exact Z3 (by omega) q5 | exact absurd q4 (of_decide_eq_false (by assumption)) | exact absurd q5 (of_decide_eq_false (by assumption)) | exact absurd q6 (of_decide_eq_false (by assumption)) | (rw [‹Z0 _ _ = false›] at q4; cases q4) | (rw [Zt, ‹Z0 _ _ = false›] at q4; cases q4) | (rw [‹Zu _ _ = false›] at q5; cases q5) | (rw [Zp, ‹Zu _ _ = false›] at q5; cases q5))]
  exact Zk (v := .bool false) rfl rfl rfl (by kernel_rfl) rfl
  refine Zn (vx := Iv r.kind) (vy := Iv 3) rfl rfl (.bool false) rfl rfl (Zaq (by omega)) ?_
  refine Zc (.bool false) (Zd (Ze (Zz rfl (Zi (Zm ?_)))))
  by_cases h31 : r.kind = 4
  refine Zn (vx := Iv r.kind) (vy := Iv 4) rfl rfl (.bool true) rfl rfl (Zaj (by omega)) ?_
  refine Zc (.bool true) (Zd (Ze (Z4 rfl (Zi (Zm (Zf (b := 1) (o := 0) (n := 114) (o' := 114) (Zl (p := pt 1 114) (v := Zx r.claim) (Zf (b := 2) (o := 0) (n := 114) (o' := 114) (Z5 (p := pt 2 114) (v := Zx r.claim) (b := 2) (blk := mxB 150 ([Iv r.kind, Iv 0, Iv 0] ++ (Z1 (⟨0, (⟨0, 0, 0, ⟨#[]⟩, (⟨(⟨0, 0, 0, dz, 0⟩ : Head), 0, dz⟩ : Signed), (⟨0, 0, 0, 0, dz⟩ : Claim)⟩ : Entry)⟩ : Item) ++ ([.slice none 0 0] ++ (Zr r.claim))))) (H' := [rwR Zj r.items, Y6 r p q, mxB 150 ([Iv r.kind, Iv 0, Iv 0] ++ (Z1 (⟨0, (⟨0, 0, 0, ⟨#[]⟩, (⟨(⟨0, 0, 0, dz, 0⟩ : Head), 0, dz⟩ : Signed), (⟨0, 0, 0, 0, dz⟩ : Claim)⟩ : Entry)⟩ : Item) ++ ([.slice none 0 0] ++ (Zr r.claim)))), hole]) (Zd (Ze (Zm (Zf (b := 1) (o := 0) (n := 114) (o' := 114) (Zl (p := pt 1 114) (v := Zx r.claim) ?_))))))))))))))
  refine Zgl (vs := [(0, Zx r.claim)]) (v := slv 3 0 1 1) (blk := rwB Zh [r.claim]) (nid := 3) (H' := [rwR Zj r.items, Y6 r p q, mxB 150 ([Iv r.kind, Iv 0, Iv 0] ++ (Z1 (⟨0, (⟨0, 0, 0, ⟨#[]⟩, (⟨(⟨0, 0, 0, dz, 0⟩ : Head), 0, dz⟩ : Signed), (⟨0, 0, 0, 0, dz⟩ : Claim)⟩ : Entry)⟩ : Item) ++ ([.slice none 0 0] ++ (Zr r.claim)))), rwB Zh [r.claim]]) rfl rfl rfl (by kernel_rfl) (by kernel_rfl) ?_
  refine Zab (e := [some (3, 0)]) (nid := 0) (Zk1 (G := G) [r.claim] 1 1 (rfl : _ = 1) (by omega) (by omega)) (vals := [slv 3 0 1 1]) (v := Iv (Zec [r.claim])) (H' := [rwR Zj r.items, Y6 r p q, mxB 150 ([Iv r.kind, Iv 0, Iv 0] ++ (Z1 (⟨0, (⟨0, 0, 0, ⟨#[]⟩, (⟨(⟨0, 0, 0, dz, 0⟩ : Head), 0, dz⟩ : Signed), (⟨0, 0, 0, 0, dz⟩ : Claim)⟩ : Entry)⟩ : Item) ++ ([.slice none 0 0] ++ (Zr r.claim)))), rwB Zh [r.claim]]) rfl rfl rfl rfl rfl rfl rfl ⟨⟨⟨rfl, rfl, rfl, by first | omega | exact Nat.le_refl _, by first | omega | exact Nat.le_refl _⟩, trivial⟩, ⟨(Zbd rfl), trivial⟩, rfl, rfl, rfl⟩ rfl (by kernel_rfl) ?_
  by_cases h32 : (Zec [r.claim]) = 0
  refine Zn (vx := Iv (Zec [r.claim])) (vy := Iv 0) rfl rfl (.bool true) rfl rfl (Zaj (by omega)) ?_
  refine Zc (.bool true) (Zd (Z7 (Ze (Zi (Zm (Zb (.bool true) (Zb (.bool true) (Zf (b := 2) (o := 0) (n := 1) (o' := 1) (Zl (p := pt 2 1) (v := Iv 0) (Zf (b := 1) (o := 0) (n := 1) (o' := 1) (Zl (p := pt 1 1) (v := Iv r.epoch) ?_)))))))))))
  by_cases h33 : 0 = r.epoch
  refine Zn (vx := Iv 0) (vy := Iv r.epoch) rfl rfl (.bool true) rfl rfl (Zaj (by omega)) ?_
  refine Zg (.bool true) (Zb (.bool true) (Zf (b := 2) (o := 0) (n := 2) (o' := 2) (Zl (p := pt 2 2) (v := Iv 0) (Zf (b := 1) (o := 0) (n := 2) (o' := 2) (Zl (p := pt 1 2) (v := Iv r.from_) ?_)))))
  by_cases h34 : 0 = r.from_
  refine Zn (vx := Iv 0) (vy := Iv r.from_) rfl rfl (.bool true) rfl rfl (Zaj (by omega)) ?_
  refine Zg (.bool true) (Zb (.bool true) (Zf (b := 2) (o := 0) (n := 3) (o' := 3) (Zl (p := pt 2 3) (v := Zal (⟨0, (⟨0, 0, 0, ⟨#[]⟩, (⟨(⟨0, 0, 0, dz, 0⟩ : Head), 0, dz⟩ : Signed), (⟨0, 0, 0, 0, dz⟩ : Claim)⟩ : Entry)⟩ : Item)) (Zf (b := 1) (o := 0) (n := 3) (o' := 3) (Zl (p := pt 1 3) (v := Zal r.item) ?_)))))
  rcases Bool.eq_false_or_eq_true (Z0 (⟨0, (⟨0, 0, 0, ⟨#[]⟩, (⟨(⟨0, 0, 0, dz, 0⟩ : Head), 0, dz⟩ : Signed), (⟨0, 0, 0, 0, dz⟩ : Claim)⟩ : Entry)⟩ : Item) r.item) with h35 | h35
  refine Zn (vx := Zal (⟨0, (⟨0, 0, 0, ⟨#[]⟩, (⟨(⟨0, 0, 0, dz, 0⟩ : Head), 0, dz⟩ : Signed), (⟨0, 0, 0, 0, dz⟩ : Claim)⟩ : Entry)⟩ : Item)) (vy := Zal r.item) rfl rfl (.bool true) rfl rfl (Eq.trans (Zde (⟨0, (⟨0, 0, 0, ⟨#[]⟩, (⟨(⟨0, 0, 0, dz, 0⟩ : Head), 0, dz⟩ : Signed), (⟨0, 0, 0, 0, dz⟩ : Claim)⟩ : Entry)⟩ : Item) r.item) (by rw [h35] <;> rfl)) ?_
  refine Zg (.bool true) (Zb (.bool true) (Zf (b := 2) (o := 0) (n := 114) (o' := 114) (Zl (p := pt 2 114) (v := Zx r.claim) (Zf (b := 1) (o := 0) (n := 114) (o' := 114) (Zl (p := pt 1 114) (v := Zx r.claim) ?_)))))
  refine Zn (vx := Zx r.claim) (vy := Zx r.claim) rfl rfl (.bool true) rfl rfl (Eq.trans (Zb8 r.claim r.claim) (by rw [(Zag _)] <;> rfl)) ?_
  refine Zg (.bool true) (Zc (.bool true) (Zd (Ze (Zs (Zq ?_)))))
  rw [show decide (Zaw r) = true from decide_eq_true (by first | exact .inl ⟨by omega, by omega, by omega, (by first | assumption | exact Zan _ | (rw [Zt]; assumption)), (by first | assumption | exact Zag _ | (rw [Zp]; assumption)), by omega⟩ | exact .inr (.inl ⟨by omega, by omega, by omega, (by first | exact of_decide_eq_true (by assumption) | exact ⟨by omega, by omega, Zeo (by omega)⟩), (by first | assumption | exact Zag _ | (rw [Zp]; assumption)), by omega⟩) | exact .inr (.inr (.inl ⟨by omega, by omega, by omega, (by first | assumption | exact Zan _ | (rw [Zt]; assumption)), (by first | assumption | exact Zag _ | (rw [Zp]; assumption)), (by first | exact of_decide_eq_true (by assumption) | exact Za5 (by omega))⟩)) | exact .inr (.inr (.inr ⟨by omega, by omega, by omega, (by first | assumption | exact Zan _ | (rw [Zt]; assumption)), (by first | exact of_decide_eq_true (by assumption) | exact Zed (by omega)), by omega⟩)))]
  exact Zk (v := .bool true) rfl rfl rfl (by kernel_rfl) rfl
  refine Zn (vx := Zal (⟨0, (⟨0, 0, 0, ⟨#[]⟩, (⟨(⟨0, 0, 0, dz, 0⟩ : Head), 0, dz⟩ : Signed), (⟨0, 0, 0, 0, dz⟩ : Claim)⟩ : Entry)⟩ : Item)) (vy := Zal r.item) rfl rfl (.bool false) rfl rfl (Eq.trans (Zde (⟨0, (⟨0, 0, 0, ⟨#[]⟩, (⟨(⟨0, 0, 0, dz, 0⟩ : Head), 0, dz⟩ : Signed), (⟨0, 0, 0, 0, dz⟩ : Claim)⟩ : Entry)⟩ : Item) r.item) (by rw [h35] <;> rfl)) ?_
  refine Zg (.bool false) (Zb (.bool false) (Za (Za (Za (Za (Za (Zg (.bool false) (Zc (.bool false) (Zd (Ze (Zs (Zq ?_))))))))))))
  rw [show decide (Zaw r) = false from decide_eq_false (fun q => by rcases q with ⟨q1, q2, q3, q4, q5, q6⟩ | ⟨q1, q2, q3, q4, q5, q6⟩ | ⟨q1, q2, q3, q4, q5, q6⟩ | ⟨q1, q2, q3, q4, q5, q6⟩ <;> first | omega | (have := q4.1; have := q4.2.1; omega) | exact Z8 (by omega) q4.2.2 | exact Z6 (by omega) q6 | exact Z3 (by omega) q5 | exact absurd q4 (of_decide_eq_false (by assumption)) | exact absurd q5 (of_decide_eq_false (by assumption)) | exact absurd q6 (of_decide_eq_false (by assumption)) | (rw [‹Z0 _ _ = false›] at q4; cases q4) | (rw [Zt, ‹Z0 _ _ = false›] at q4; cases q4) | (rw [‹Zu _ _ = false›] at q5; cases q5) | (rw [Zp, ‹Zu _ _ = false›] at q5; cases q5))]
  exact Zk (v := .bool false) rfl rfl rfl (by kernel_rfl) rfl
  refine Zn (vx := Iv 0) (vy := Iv r.from_) rfl rfl (.bool false) rfl rfl (Zaq (by omega)) ?_
  refine Zg (.bool false) (Zb (.bool false) (Za (Za (Za (Za (Za (Zg (.bool false) (Zb (.bool false) (Za (Za (Za (Za (Za (Zg (.bool false) (Zc (.bool false) (Zd (Ze (Zs (Zq ?_)))))))))))))))))))
  rw [show decide (Zaw r) = false from decide_eq_false (fun q => by rcases q with ⟨q1, q2, q3, q4, q5, q6⟩ | ⟨q1, q2, q3, q4, q5, q6⟩ | ⟨q1, q2, q3, q4, q5, q6⟩ | ⟨q1, q2, q3, q4, q5, q6⟩ <;> first | omega | (have := q4.1; have := q4.2.1; omega) | exact Z8 (by omega) q4.2.2 | exact Z6 (by omega) q6 | exact Z3 (by omega) q5 | exact absurd q4 (of_decide_eq_false (by assumption)) | exact absurd q5 (of_decide_eq_false (by assumption)) | exact absurd q6 (of_decide_eq_false (by assumption)) | (rw [‹Z0 _ _ = false›] at q4; cases q4) | (rw [Zt, ‹Z0 _ _ = false›] at q4; cases q4) | (rw [‹Zu _ _ = false›] at q5; cases q5) | (rw [Zp, ‹Zu _ _ = false›] at q5; cases q5))]
  exact Zk (v := .bool false) rfl rfl rfl (by kernel_rfl) rfl
  refine Zn (vx := Iv 0) (vy := Iv r.epoch) rfl rfl (.bool false) rfl rfl (Zaq (by omega)) ?_
  refine Zg (.bool false) (Zb (.bool false) (Za (Za (Za (Za (Za (Zg (.bool false) (Zb (.bool false) (Za (Za (Za (Za (Za (Zg (.bool false) (Zb (.bool false) (Za (Za (Za (Za (Za (Zg (.bool false) (Zc (.bool false) (Zd (Ze (Zs (Zq ?_))))))))))))))))))))))))))
  rw [show decide (Zaw r) = false from decide_eq_false (fun q => by rcases q with ⟨q1, q2, q3, q4, q5, q6⟩ | ⟨q1, q2, q3, q4, q5, q6⟩ | ⟨q1, q2, q3, q4, q5, q6⟩ | ⟨q1, q2, q3, q4, q5, q6⟩ <;> first | omega | (have := q4.1; have := q4.2.1; omega) | exact Z8 (by omega) q4.2.2 | exact Z6 (by omega) q6 | exact Z3 (by omega) q5 | exact absurd q4 (of_decide_eq_false (by assumption)) | exact absurd q5 (of_decide_eq_false (by assumption)) | exact absurd q6 (of_decide_eq_false (by assumption)) | (rw [‹Z0 _ _ = false›] at q4; cases q4) | (rw [Zt, ‹Z0 _ _ = false›] at q4; cases q4) | (rw [‹Zu _ _ = false›] at q5; cases q5) | (rw [Zp, ‹Zu _ _ = false›] at q5; cases q5))]
  exact Zk (v := .bool false) rfl rfl rfl (by kernel_rfl) rfl
  refine Zn (vx := Iv (Zec [r.claim])) (vy := Iv 0) rfl rfl (.bool false) rfl rfl (Zaq (by omega)) ?_
  refine Zc (.bool false) (Zd (Z7 (Ze (Zi (Zm (Zb (.bool false) (Zb (.bool false) (Za (Za (Za (Za (Za (Zg (.bool false) (Zb (.bool false) (Za (Za (Za (Za (Za (Zg (.bool false) (Zb (.bool false) (Za (Za (Za (Za (Za (Zg (.bool false) ?_)))))))))))))))))))))))))))
  refine Zb (.bool false) (Za (Za (Za (Za (Za (Zg (.bool false) (Zc (.bool false) (Zd (Ze (Zs (Zq ?_)))))))))))
  rw [show decide (Zaw r) = false from decide_eq_false (fun q => by rcases q with ⟨q1, q2, q3, q4, q5, q6⟩ | ⟨q1, q2, q3, q4, q5, q6⟩ | ⟨q1, q2, q3, q4, q5, q6⟩ | ⟨q1, q2, q3, q4, q5, q6⟩ <;> first | omega | (have := q4.1; have := q4.2.1; omega) | exact Z8 (by omega) q4.2.2 | exact Z6 (by omega) q6 | exact Z3 (by omega) q5 | exact absurd q4 (of_decide_eq_false (by assumption)) | exact absurd q5 (of_decide_eq_false (by assumption)) | exact absurd q6 (of_decide_eq_false (by assumption)) | (rw [‹Z0 _ _ = false›] at q4; cases q4) | (rw [Zt, ‹Z0 _ _ = false›] at q4; cases q4) | (rw [‹Zu _ _ = false›] at q5; cases q5) | (rw [Zp, ‹Zu _ _ = false›] at q5; cases q5))]
  exact Zk (v := .bool false) rfl rfl rfl (by kernel_rfl) rfl
  refine Zn (vx := Iv r.kind) (vy := Iv 4) rfl rfl (.bool false) rfl rfl (Zaq (by omega)) ?_
  refine Zc (.bool false) (Zd (Ze (Zz rfl (Z9 (Z7 (Ze (Zi (Zm (Zb (.bool false) (Zb (.bool false) (Za (Za (Za (Za (Za (Zg (.bool false) (Zb (.bool false) (Za (Za (Za (Za (Za (Zg (.bool false) (Zb (.bool false) (Za (Za (Za (Za (Za (Zg (.bool false) ?_))))))))))))))))))))))))))))))
  refine Zb (.bool false) (Za (Za (Za (Za (Za (Zg (.bool false) (Zc (.bool false) (Zd (Ze (Zs (Zq ?_)))))))))))
  rw [show decide (Zaw r) = false from decide_eq_false (fun q => by rcases q with ⟨q1, q2, q3, q4, q5, q6⟩ | ⟨q1, q2, q3, q4, q5, q6⟩ | ⟨q1, q2, q3, q4, q5, q6⟩ | ⟨q1, q2, q3, q4, q5, q6⟩ <;> first | omega | (have := q4.1; have := q4.2.1; omega) | exact Z8 (by omega) q4.2.2 | exact Z6 (by omega) q6 | exact Z3 (by omega) q5 | exact absurd q4 (of_decide_eq_false (by assumption)) | exact absurd q5 (of_decide_eq_false (by assumption)) | exact absurd q6 (of_decide_eq_false (by assumption)) | (rw [‹Z0 _ _ = false›] at q4; cases q4) | (rw [Zt, ‹Z0 _ _ = false›] at q4; cases q4) | (rw [‹Zu _ _ = false›] at q5; cases q5) | (rw [Zp, ‹Zu _ _ = false›] at q5; cases q5))]
  exact Zk (v := .bool false) rfl rfl rfl (by kernel_rfl) rfl
theorem Zsv (r : Rec) (p q : Nat) (hp : r.items.length = p) (hq : p ≤ q) (hpb : p ≤ 1048576) : Zat Try.prog G 40 [mxV ([Iv r.kind, Iv r.epoch, Iv r.from_] ++ (Z1 r.item ++ ([slv 0 0 p q] ++ (Zr r.claim))))] [rwR Zj r.items] (.bool (decide (Zaw r))) [rwR Zj r.items] := by
  refine Zcg (fn := Try.f40) (nt := 107) rfl rfl rfl rfl ?_
  refine Za8 1 (H' := [rwR Zj r.items, hole]) rfl ?_
  refine Zi (Zm (Zbn (v := mxV ([Iv r.kind, Iv r.epoch, Iv r.from_] ++ (Z1 r.item ++ ([slv 0 0 p q] ++ (Zr r.claim))))) (b := mxB 150 ([Iv r.kind, Iv r.epoch, Iv r.from_] ++ (Z1 r.item ++ ([slv 0 0 p q] ++ (Zr r.claim))))) (nid := 1) (H' := [rwR Zj r.items, mxB 150 ([Iv r.kind, Iv r.epoch, Iv r.from_] ++ (Z1 r.item ++ ([slv 0 0 p q] ++ (Zr r.claim))))]) (Zc (.bool false) (Zd (Ze (Zi (Zm (Zf (b := 1) (o := 0) (n := 3) (o' := 3) (Zl (p := pt 1 3) (v := Zal r.item) ?_)))))))))
  refine Za0 (vs := []) (v := Zal (⟨0, (⟨0, 0, 0, ⟨#[]⟩, (⟨(⟨0, 0, 0, dz, 0⟩ : Head), 0, dz⟩ : Signed), (⟨0, 0, 0, 0, dz⟩ : Claim)⟩ : Entry)⟩ : Item)) rfl rfl rfl (by kernel_rfl) ?_
  rcases Bool.eq_false_or_eq_true (Z0 r.item (⟨0, (⟨0, 0, 0, ⟨#[]⟩, (⟨(⟨0, 0, 0, dz, 0⟩ : Head), 0, dz⟩ : Signed), (⟨0, 0, 0, 0, dz⟩ : Claim)⟩ : Entry)⟩ : Item)) with h1 | h1
  refine Zn (vx := Zal r.item) (vy := Zal (⟨0, (⟨0, 0, 0, ⟨#[]⟩, (⟨(⟨0, 0, 0, dz, 0⟩ : Head), 0, dz⟩ : Signed), (⟨0, 0, 0, 0, dz⟩ : Claim)⟩ : Entry)⟩ : Item)) rfl rfl (.bool true) rfl rfl (Eq.trans (Zde r.item (⟨0, (⟨0, 0, 0, ⟨#[]⟩, (⟨(⟨0, 0, 0, dz, 0⟩ : Head), 0, dz⟩ : Signed), (⟨0, 0, 0, 0, dz⟩ : Claim)⟩ : Entry)⟩ : Item)) (by rw [h1] <;> rfl)) ?_
  refine Zb (.bool true) (Zf (b := 1) (o := 0) (n := 114) (o' := 114) (Zl (p := pt 1 114) (v := Zx r.claim) ?_))
  refine Za0 (vs := []) (v := Zx (⟨0, 0, 0, 0, dz⟩ : Claim)) rfl rfl rfl (by kernel_rfl) ?_
  rcases Bool.eq_false_or_eq_true (Zu r.claim (⟨0, 0, 0, 0, dz⟩ : Claim)) with h2 | h2
  refine Zn (vx := Zx r.claim) (vy := Zx (⟨0, 0, 0, 0, dz⟩ : Claim)) rfl rfl (.bool true) rfl rfl (Eq.trans (Zb8 r.claim (⟨0, 0, 0, 0, dz⟩ : Claim)) (by rw [h2] <;> rfl)) ?_
  refine Zg (.bool true) (Zc (.bool true) (Zd (Ze (Zi (Zi (Zm (Zf (b := 1) (o := 0) (n := 0) (o' := 0) (Zl (p := pt 1 0) (v := Iv r.kind) (Zd (Ze (Zav (Zi (Zm ?_)))))))))))))
  by_cases h3 : r.kind = 1
  refine Zn (vx := Iv r.kind) (vy := Iv 1) rfl rfl (.bool true) rfl rfl (Zaj (by omega)) ?_
  refine Zc (.bool true) (Zd (Ze (Z4 rfl (Zi (Zm (Zf (b := 1) (o := 0) (n := 1) (o' := 1) (Zl (p := pt 1 1) (v := Iv r.epoch) ?_)))))))
  by_cases h4 : 1 ≤ r.epoch
  by_cases h5 : r.epoch ≤ 900000000
  refine Zw ((Zam (G := G) r.epoch 1 900000000).res (congrArg Value.bool (Zak (by omega) (by omega)))) (vals := [Iv r.epoch, Iv 1, Iv 900000000]) (res' := .bool true) rfl rfl rfl rfl rfl rfl ?_
  refine Zb (.bool true) (Zf (b := 1) (o := 0) (n := 2) (o' := 2) (Zl (p := pt 1 2) (v := Iv r.from_) ?_))
  by_cases h6 : r.from_ = 0
  refine Zn (vx := Iv r.from_) (vy := Iv 0) rfl rfl (.bool true) rfl rfl (Zaj (by omega)) ?_
  refine Zg (.bool true) (Zb (.bool true) (Zb (.bool true) (Zg (.bool true) (Zb (.bool true) (Zf (b := 1) (o := 0) (n := 113) (o' := 113) (Zl (p := pt 1 113) (v := slv 0 0 p q) (Zbg (p := slv 0 0 p q) (v := Iv (p : Nat)) ?_)))))))
  by_cases h7 : (p : Nat) = 0
  refine Zn (vx := Iv (p : Nat)) (vy := Iv 0) rfl rfl (.bool true) rfl rfl (Zaj (by omega)) ?_
  refine Zg (.bool true) (Zc (.bool true) (Zd (Ze (Zs (Zy (Zv (Zq ?_)))))))
  rw [show decide (Zaw r) = true from decide_eq_true (by first | exact .inl ⟨by omega, by omega, by omega, (by first | assumption | exact Zan _ | (rw [Zt]; assumption)), (by first | assumption | exact Zag _ | (rw [Zp]; assumption)), by omega⟩ | exact .inr (.inl ⟨by omega, by omega, by omega, (by first | exact of_decide_eq_true (by assumption) | exact ⟨by omega, by omega, Zeo (by omega)⟩), (by first | assumption | exact Zag _ | (rw [Zp]; assumption)), by omega⟩) | exact .inr (.inr (.inl ⟨by omega, by omega, by omega, (by first | assumption | exact Zan _ | (rw [Zt]; assumption)), (by first | assumption | exact Zag _ | (rw [Zp]; assumption)), (by first | exact of_decide_eq_true (by assumption) | exact Za5 (by omega))⟩)) | exact .inr (.inr (.inr ⟨by omega, by omega, by omega, (by first | assumption | exact Zan _ | (rw [Zt]; assumption)), (by first | exact of_decide_eq_true (by assumption) | exact Zed (by omega)), by omega⟩)))]
  exact Zk (v := .bool true) rfl rfl rfl (by kernel_rfl) rfl
  refine Zn (vx := Iv (p : Nat)) (vy := Iv 0) rfl rfl (.bool false) rfl rfl (Zaq (by omega)) ?_
  refine Zg (.bool false) (Zc (.bool false) (Zd (Ze (Zs (Zy (Zv (Zq ?_)))))))
  rw [show decide (Zaw r) = false from decide_eq_false (fun q => by rcases q with ⟨q1, q2, q3, q4, q5, q6⟩ | ⟨q1, q2, q3, q4, q5, q6⟩ | ⟨q1, q2, q3, q4, q5, q6⟩ | ⟨q1, q2, q3, q4, q5, q6⟩ <;> first | omega | (have := q4.1; have := q4.2.1; omega) | exact Z8 (by omega) q4.2.2 | exact Z6 (by omega) q6 | exact Z3 (by omega) q5 | exact absurd q4 (of_decide_eq_false (by assumption)) | exact absurd q5 (of_decide_eq_false (by assumption)) | exact absurd q6 (of_decide_eq_false (by assumption)) | (rw [‹Z0 _ _ = false›] at q4; cases q4) | (rw [Zt, ‹Z0 _ _ = false›] at q4; cases q4) | (rw [‹Zu _ _ = false›] at q5; cases q5) | (rw [Zp, ‹Zu _ _ = false›] at q5; cases q5))]
  exact Zk (v := .bool false) rfl rfl rfl (by kernel_rfl) rfl
  refine Zn (vx := Iv r.from_) (vy := Iv 0) rfl rfl (.bool false) rfl rfl (Zaq (by omega)) ?_
  refine Zg (.bool false) (Zb (.bool false) (Za (Zg (.bool false) (Zb (.bool false) (Za (Za (Za (Za (Zg (.bool false) (Zc (.bool false) (Zd (Ze (Zs (Zy (Zv (Zq ?_))))))))))))))))
  rw [show decide (Zaw r) = false from decide_eq_false (fun q => by rcases q with ⟨q1, q2, q3, q4, q5, q6⟩ | ⟨q1, q2, q3, q4, q5, q6⟩ | ⟨q1, q2, q3, q4, q5, q6⟩ | ⟨q1, q2, q3, q4, q5, q6⟩ <;> first | omega | (have := q4.1; have := q4.2.1; omega) | exact Z8 (by omega) q4.2.2 | exact Z6 (by omega) q6 | exact Z3 (by omega) q5 | exact absurd q4 (of_decide_eq_false (by assumption)) | exact absurd q5 (of_decide_eq_false (by assumption)) | exact absurd q6 (of_decide_eq_false (by assumption)) | (rw [‹Z0 _ _ = false›] at q4; cases q4) | (rw [Zt, ‹Z0 _ _ = false›] at q4; cases q4) | (rw [‹Zu _ _ = false›] at q5; cases q5) | (rw [Zp, ‹Zu _ _ = false›] at q5; cases q5))]
  exact Zk (v := .bool false) rfl rfl rfl (by kernel_rfl) rfl
  refine Zw ((Zam (G := G) r.epoch 1 900000000).res (congrArg Value.bool (Z2 (by omega)))) (vals := [Iv r.epoch, Iv 1, Iv 900000000]) (res' := .bool false) rfl rfl rfl rfl rfl rfl ?_
  refine Zb (.bool false) (Za (Za (Za (Zg (.bool false) (Zb (.bool false) (Za (Zg (.bool false) (Zb (.bool false) (Za (Za (Za (Za (Zg (.bool false) (Zc (.bool false) (Zd (Ze (Zs (Zy (Zv (Zq ?_))))))))))))))))))))
  rw [show decide (Zaw r) = false from decide_eq_false (fun q => by rcases q with ⟨q1, q2, q3, q4, q5, q6⟩ | ⟨q1, q2, q3, q4, q5, q6⟩ | ⟨q1, q2, q3, q4, q5, q6⟩ | ⟨q1, q2, q3, q4, q5, q6⟩ <;> first | omega | (have := q4.1; have := q4.2.1; omega) | exact Z8 (by omega) q4.2.2 | exact Z6 (by omega) q6 | exact Z3 (by omega) q5 | exact absurd q4 (of_decide_eq_false (by assumption)) | exact absurd q5 (of_decide_eq_false (by assumption)) | exact absurd q6 (of_decide_eq_false (by assumption)) | (rw [‹Z0 _ _ = false›] at q4; cases q4) | (rw [Zt, ‹Z0 _ _ = false›] at q4; cases q4) | (rw [‹Zu _ _ = false›] at q5; cases q5) | (rw [Zp, ‹Zu _ _ = false›] at q5; cases q5))]
  exact Zk (v := .bool false) rfl rfl rfl (by kernel_rfl) rfl
  refine Zw ((Zam (G := G) r.epoch 1 900000000).res (congrArg Value.bool (Z2 (by omega)))) (vals := [Iv r.epoch, Iv 1, Iv 900000000]) (res' := .bool false) rfl rfl rfl rfl rfl rfl ?_
  refine Zb (.bool false) (Za (Za (Za (Zg (.bool false) (Zb (.bool false) (Za (Zg (.bool false) (Zb (.bool false) (Za (Za (Za (Za (Zg (.bool false) (Zc (.bool false) (Zd (Ze (Zs (Zy (Zv (Zq ?_))))))))))))))))))))
  rw [show decide (Zaw r) = false from decide_eq_false (fun q => by rcases q with ⟨q1, q2, q3, q4, q5, q6⟩ | ⟨q1, q2, q3, q4, q5, q6⟩ | ⟨q1, q2, q3, q4, q5, q6⟩ | ⟨q1, q2, q3, q4, q5, q6⟩ <;> first | omega | (have := q4.1; have := q4.2.1; omega) | exact Z8 (by omega) q4.2.2 | exact Z6 (by omega) q6 | exact Z3 (by omega) q5 | exact absurd q4 (of_decide_eq_false (by assumption)) | exact absurd q5 (of_decide_eq_false (by assumption)) | exact absurd q6 (of_decide_eq_false (by assumption)) | (rw [‹Z0 _ _ = false›] at q4; cases q4) | (rw [Zt, ‹Z0 _ _ = false›] at q4; cases q4) | (rw [‹Zu _ _ = false›] at q5; cases q5) | (rw [Zp, ‹Zu _ _ = false›] at q5; cases q5))]
  exact Zk (v := .bool false) rfl rfl rfl (by kernel_rfl) rfl
  refine Zn (vx := Iv r.kind) (vy := Iv 1) rfl rfl (.bool false) rfl rfl (Zaq (by omega)) ?_
  refine Zc (.bool false) (Zd (Ze (Zz rfl (Zi (Zm ?_)))))
  by_cases h8 : r.kind = 2
  refine Zn (vx := Iv r.kind) (vy := Iv 2) rfl rfl (.bool true) rfl rfl (Zaj (by omega)) ?_
  refine Zc (.bool true) (Zd (Ze (Z4 rfl (Zi (Zm (Zf (b := 1) (o := 0) (n := 1) (o' := 1) (Zl (p := pt 1 1) (v := Iv r.epoch) ?_)))))))
  by_cases h9 : r.epoch = 0
  refine Zn (vx := Iv r.epoch) (vy := Iv 0) rfl rfl (.bool true) rfl rfl (Zaj (by omega)) ?_
  refine Zb (.bool true) (Zf (b := 1) (o := 0) (n := 2) (o' := 2) (Zl (p := pt 1 2) (v := Iv r.from_) ?_))
  by_cases h10 : r.from_ = 0
  refine Zn (vx := Iv r.from_) (vy := Iv 0) rfl rfl (.bool true) rfl rfl (Zaj (by omega)) ?_
  refine Zg (.bool true) (Zb (.bool true) (Zf (b := 1) (o := 0) (n := 3) (o' := 3) (Zl (p := pt 1 3) (v := Zal r.item) ?_)))
  refine Zw (Zfx (G := G) r.item) (vals := [Zal r.item]) (res' := .bool (decide (Zbb r.item))) rfl rfl rfl rfl rfl rfl ?_
  refine Zg (.bool (decide (Zbb r.item))) (Zb (.bool (decide (Zbb r.item))) ?_)
  rcases Bool.eq_false_or_eq_true (decide (Zbb r.item)) with h11 | h11
  refine Zas (b := 1) (o := 0) (n := 113) (o' := 113) (by exact congrArg (fun b => some (b == true)) h11) rfl rfl rfl rfl ?_
  refine Zba (p := pt 1 113) (v := slv 0 0 p q) (by exact congrArg (fun b => some (b == true)) h11) rfl rfl (by kernel_rfl) ?_
  refine Zov (p := slv 0 0 p q) (v := Iv (p : Nat)) (by exact congrArg (fun b => some (b == true)) h11) rfl rfl rfl ?_
  by_cases h12 : (p : Nat) = 0
  refine Zn (vx := Iv (p : Nat)) (vy := Iv 0) (by exact congrArg (fun b => some (b == true)) h11) rfl (.bool true) rfl rfl (Zaj (by omega)) ?_
  refine Zcw rfl rfl (.bool true) (by show some (if _ then _ else _) = _; rw [h11] <;> rfl) ?_
  refine Zb (.bool true) (Zf (b := 1) (o := 0) (n := 114) (o' := 114) (Zl (p := pt 1 114) (v := Zx r.claim) ?_))
  refine Za0 (vs := []) (v := Zx (⟨0, 0, 0, 0, dz⟩ : Claim)) rfl rfl rfl (by kernel_rfl) ?_
  refine Zn (vx := Zx r.claim) (vy := Zx (⟨0, 0, 0, 0, dz⟩ : Claim)) rfl rfl (.bool true) rfl rfl (Eq.trans (Zb8 r.claim (⟨0, 0, 0, 0, dz⟩ : Claim)) (by rw [h2] <;> rfl)) ?_
  refine Zg (.bool true) (Zc (.bool true) (Zd (Ze (Zs (Zy (Zv (Zq ?_)))))))
  rw [show decide (Zaw r) = true from decide_eq_true (by first | exact .inl ⟨by omega, by omega, by omega, (by first | assumption | exact Zan _ | (rw [Zt]; assumption)), (by first | assumption | exact Zag _ | (rw [Zp]; assumption)), by omega⟩ | exact .inr (.inl ⟨by omega, by omega, by omega, (by first | exact of_decide_eq_true (by assumption) | exact ⟨by omega, by omega, Zeo (by omega)⟩), (by first | assumption | exact Zag _ | (rw [Zp]; assumption)), by omega⟩) | exact .inr (.inr (.inl ⟨by omega, by omega, by omega, (by first | assumption | exact Zan _ | (rw [Zt]; assumption)), (by first | assumption | exact Zag _ | (rw [Zp]; assumption)), (by first | exact of_decide_eq_true (by assumption) | exact Za5 (by omega))⟩)) | exact .inr (.inr (.inr ⟨by omega, by omega, by omega, (by first | assumption | exact Zan _ | (rw [Zt]; assumption)), (by first | exact of_decide_eq_true (by assumption) | exact Zed (by omega)), by omega⟩)))]
  exact Zk (v := .bool true) rfl rfl rfl (by kernel_rfl) rfl
  refine Zn (vx := Iv (p : Nat)) (vy := Iv 0) (by exact congrArg (fun b => some (b == true)) h11) rfl (.bool false) rfl rfl (Zaq (by omega)) ?_
  refine Zcw rfl rfl (.bool false) (by show some (if _ then _ else _) = _; rw [h11] <;> rfl) ?_
  refine Zb (.bool false) (Za (Za (Za (Za (Zg (.bool false) (Zc (.bool false) (Zd (Ze (Zs (Zy (Zv (Zq ?_))))))))))))
  rw [show decide (Zaw r) = false from decide_eq_false (fun q => by rcases q with ⟨q1, q2, q3, q4, q5, q6⟩ | ⟨q1, q2, q3, q4, q5, q6⟩ | ⟨q1, q2, q3, q4, q5, q6⟩ | ⟨q1, q2, q3, q4, q5, q6⟩ <;> first | omega | (have := q4.1; have := q4.2.1; omega) | exact Z8 (by omega) q4.2.2 | exact Z6 (by omega) q6 | exact Z3 (by omega) q5 | exact absurd q4 (of_decide_eq_false (by assumption)) | exact absurd q5 (of_decide_eq_false (by assumption)) | exact absurd q6 (of_decide_eq_false (by assumption)) | (rw [‹Z0 _ _ = false›] at q4; cases q4) | (rw [Zt, ‹Z0 _ _ = false›] at q4; cases q4) | (rw [‹Zu _ _ = false›] at q5; cases q5) | (rw [Zp, ‹Zu _ _ = false›] at q5; cases q5))]
  exact Zk (v := .bool false) rfl rfl rfl (by kernel_rfl) rfl
  refine Zb1 (by exact congrArg (fun b => some (b == true)) h11) rfl ?_
  refine Zb1 (by exact congrArg (fun b => some (b == true)) h11) rfl ?_
  refine Zb1 (by exact congrArg (fun b => some (b == true)) h11) rfl ?_
  refine Zb1 (by exact congrArg (fun b => some (b == true)) h11) rfl ?_
  refine Zcw rfl rfl (.bool false) (by show some (if _ then _ else _) = _; rw [h11] <;> rfl) ?_
  refine Zb (.bool false) (Za (Za (Za (Za (Zg (.bool false) (Zc (.bool false) (Zd (Ze (Zs (Zy (Zv (Zq ?_))))))))))))
  rw [show decide (Zaw r) = false from decide_eq_false (fun q => by rcases q with ⟨q1, q2, q3, q4, q5, q6⟩ | ⟨q1, q2, q3, q4, q5, q6⟩ | ⟨q1, q2, q3, q4, q5, q6⟩ | ⟨q1, q2, q3, q4, q5, q6⟩ <;> first | omega | (have := q4.1; have := q4.2.1; omega) | exact Z8 (by omega) q4.2.2 | exact Z6 (by omega) q6 | exact Z3 (by omega) q5 | exact absurd q4 (of_decide_eq_false (by assumption)) | exact absurd q5 (of_decide_eq_false (by assumption)) | exact absurd q6 (of_decide_eq_false (by assumption)) | (rw [‹Z0 _ _ = false›] at q4; cases q4) | (rw [Zt, ‹Z0 _ _ = false›] at q4; cases q4) | (rw [‹Zu _ _ = false›] at q5; cases q5) | (rw [Zp, ‹Zu _ _ = false›] at q5; cases q5))]
  exact Zk (v := .bool false) rfl rfl rfl (by kernel_rfl) rfl
  refine Zn (vx := Iv r.from_) (vy := Iv 0) rfl rfl (.bool false) rfl rfl (Zaq (by omega)) ?_
  refine Zg (.bool false) (Zb (.bool false) (Za (Za (Za (Zg (.bool false) (Zb (.bool false) (Za (Za (Za (Za (Zg (.bool false) (Zb (.bool false) (Za (Za (Za (Za (Zg (.bool false) (Zc (.bool false) (Zd (Ze (Zs (Zy (Zv (Zq ?_))))))))))))))))))))))))
  rw [show decide (Zaw r) = false from decide_eq_false (fun q => by rcases q with ⟨q1, q2, q3, q4, q5, q6⟩ | ⟨q1, q2, q3, q4, q5, q6⟩ | ⟨q1, q2, q3, q4, q5, q6⟩ | ⟨q1, q2, q3, q4, q5, q6⟩ <;> first | omega | (have := q4.1; have := q4.2.1; omega) | exact Z8 (by omega) q4.2.2 | exact Z6 (by omega) q6 | exact Z3 (by omega) q5 | exact absurd q4 (of_decide_eq_false (by assumption)) | exact absurd q5 (of_decide_eq_false (by assumption)) | exact absurd q6 (of_decide_eq_false (by assumption)) | (rw [‹Z0 _ _ = false›] at q4; cases q4) | (rw [Zt, ‹Z0 _ _ = false›] at q4; cases q4) | (rw [‹Zu _ _ = false›] at q5; cases q5) | (rw [Zp, ‹Zu _ _ = false›] at q5; cases q5))]
  exact Zk (v := .bool false) rfl rfl rfl (by kernel_rfl) rfl
  refine Zn (vx := Iv r.epoch) (vy := Iv 0) rfl rfl (.bool false) rfl rfl (Zaq (by omega)) ?_
  refine Zb (.bool false) (Za (Za (Za (Zg (.bool false) (Zb (.bool false) (Za (Za (Za (Zg (.bool false) (Zb (.bool false) (Za (Za (Za (Za (Zg (.bool false) (Zb (.bool false) (Za (Za (Za (Za (Zg (.bool false) ?_)))))))))))))))))))))
  refine Zc (.bool false) (Zd (Ze (Zs (Zy (Zv (Zq ?_))))))
  rw [show decide (Zaw r) = false from decide_eq_false (fun q => by rcases q with ⟨q1, q2, q3, q4, q5, q6⟩ | ⟨q1, q2, q3, q4, q5, q6⟩ | ⟨q1, q2, q3, q4, q5, q6⟩ | ⟨q1, q2, q3, q4, q5, q6⟩ <;> first | omega | (have := q4.1; have := q4.2.1; omega) | exact Z8 (by omega) q4.2.2 | exact Z6 (by omega) q6 | exact Z3 (by omega) q5 | exact absurd q4 (of_decide_eq_false (by assumption)) | exact absurd q5 (of_decide_eq_false (by assumption)) | exact absurd q6 (of_decide_eq_false (by assumption)) | (rw [‹Z0 _ _ = false›] at q4; cases q4) | (rw [Zt, ‹Z0 _ _ = false›] at q4; cases q4) | (rw [‹Zu _ _ = false›] at q5; cases q5) | (rw [Zp, ‹Zu _ _ = false›] at q5; cases q5))]
  exact Zk (v := .bool false) rfl rfl rfl (by kernel_rfl) rfl
  refine Zn (vx := Iv r.kind) (vy := Iv 2) rfl rfl (.bool false) rfl rfl (Zaq (by omega)) ?_
  refine Zc (.bool false) (Zd (Ze (Zz rfl (Zi (Zm ?_)))))
  by_cases h13 : r.kind = 3
  refine Zn (vx := Iv r.kind) (vy := Iv 3) rfl rfl (.bool true) rfl rfl (Zaj (by omega)) ?_
  refine Zc (.bool true) (Zd (Ze (Z4 rfl (Zi (Zm (Zf (b := 1) (o := 0) (n := 1) (o' := 1) (Zl (p := pt 1 1) (v := Iv r.epoch) ?_)))))))
  by_cases h14 : 1 ≤ r.epoch
  by_cases h15 : r.epoch ≤ 900000000
  refine Zw ((Zam (G := G) r.epoch 1 900000000).res (congrArg Value.bool (Zak (by omega) (by omega)))) (vals := [Iv r.epoch, Iv 1, Iv 900000000]) (res' := .bool true) rfl rfl rfl rfl rfl rfl ?_
  refine Zb (.bool true) (Zf (b := 1) (o := 0) (n := 2) (o' := 2) (Zl (p := pt 1 2) (v := Iv r.from_) ?_))
  by_cases h16 : 0 ≤ r.from_
  by_cases h17 : r.from_ ≤ 2000
  refine Zw ((Zam (G := G) r.from_ 0 2000).res (congrArg Value.bool (Zak (by omega) (by omega)))) (vals := [Iv r.from_, Iv 0, Iv 2000]) (res' := .bool true) rfl rfl rfl rfl rfl rfl ?_
  refine Zg (.bool true) (Zb (.bool true) (Zb (.bool true) (Zg (.bool true) (Zb (.bool true) (Zf (b := 1) (o := 0) (n := 113) (o' := 113) (Zl (p := pt 1 113) (v := slv 0 0 p q) ?_))))))
  refine Zab (e := [some (0, 0)]) (nid := 0) (Zh6 (G := G) r.items p q hp (by omega) (by omega)) (vals := [slv 0 0 p q]) (v := .bool (decide (Zb2 r.items))) (H' := [rwR Zj r.items, mxB 150 ([Iv r.kind, Iv r.epoch, Iv r.from_] ++ (Z1 r.item ++ ([slv 0 0 p q] ++ (Zr r.claim))))]) rfl rfl rfl rfl rfl rfl rfl ⟨⟨⟨rfl, rfl, rfl, by first | omega | exact Nat.le_refl _, by first | omega | exact Nat.le_refl _⟩, trivial⟩, ⟨(Zaf rfl), trivial⟩, rfl, rfl, rfl⟩ rfl (by kernel_rfl) ?_
  refine Zg (.bool (decide (Zb2 r.items))) (Zc (.bool (decide (Zb2 r.items))) (Zd (Ze (Zs (Zy (Zv (Zq ?_)))))))
  rw [show decide (Zaw r) = decide (Zb2 r.items) from Zr9 (fun hb => (by first | exact .inl ⟨by omega, by omega, by omega, (by first | assumption | exact Zan _ | (rw [Zt]; assumption)), (by first | assumption | exact Zag _ | (rw [Zp]; assumption)), by omega⟩ | exact .inr (.inl ⟨by omega, by omega, by omega, (by first | exact of_decide_eq_true (by assumption) | exact ⟨by omega, by omega, Zeo (by omega)⟩), (by first | assumption | exact Zag _ | (rw [Zp]; assumption)), by omega⟩) | exact .inr (.inr (.inl ⟨by omega, by omega, by omega, (by first | assumption | exact Zan _ | (rw [Zt]; assumption)), (by first | assumption | exact Zag _ | (rw [Zp]; assumption)), (by first | exact of_decide_eq_true (by assumption) | exact Za5 (by omega))⟩)) | exact .inr (.inr (.inr ⟨by omega, by omega, by omega, (by first | assumption | exact Zan _ | (rw [Zt]; assumption)), (by first | exact of_decide_eq_true (by assumption) | exact Zed (by omega)), by omega⟩)))) (fun q => by rcases q with ⟨q1, q2, q3, q4, q5, q6⟩ | ⟨q1, q2, q3, q4, q5, q6⟩ | ⟨q1, q2, q3, q4, q5, q6⟩ | ⟨q1, q2, q3, q4, q5, q6⟩ <;> first | omega | exact q5 | exact decide_eq_true q6 | exact decide_eq_true q5 | exact decide_eq_true q4 | exact decide_eq_true (by omega))]
  exact Zk (v := .bool (decide (Zb2 r.items))) rfl rfl rfl (by kernel_rfl) rfl
  refine Zw ((Zam (G := G) r.from_ 0 2000).res (congrArg Value.bool (Z2 (by omega)))) (vals := [Iv r.from_, Iv 0, Iv 2000]) (res' := .bool false) rfl rfl rfl rfl rfl rfl ?_
  refine Zg (.bool false) (Zb (.bool false) (Za (Zg (.bool false) (Zb (.bool false) (Za (Za (Za (Zg (.bool false) (Zc (.bool false) (Zd (Ze (Zs (Zy (Zv (Zq ?_)))))))))))))))
  rw [show decide (Zaw r) = false from decide_eq_false (fun q => by rcases q with ⟨q1, q2, q3, q4, q5, q6⟩ | ⟨q1, q2, q3, q4, q5, q6⟩ | ⟨q1, q2, q3, q4, q5, q6⟩ | ⟨q1, q2, q3, q4, q5, q6⟩ <;> first | omega | (have := q4.1; have := q4.2.1; omega) | exact Z8 (by omega) q4.2.2 | exact Z6 (by omega) q6 | exact Z3 (by omega) q5 | exact absurd q4 (of_decide_eq_false (by assumption)) | exact absurd q5 (of_decide_eq_false (by assumption)) | exact absurd q6 (of_decide_eq_false (by assumption)) | (rw [‹Z0 _ _ = false›] at q4; cases q4) | (rw [Zt, ‹Z0 _ _ = false›] at q4; cases q4) | (rw [‹Zu _ _ = false›] at q5; cases q5) | (rw [Zp, ‹Zu _ _ = false›] at q5; cases q5))]
  exact Zk (v := .bool false) rfl rfl rfl (by kernel_rfl) rfl
  refine Zw ((Zam (G := G) r.from_ 0 2000).res (congrArg Value.bool (Z2 (by omega)))) (vals := [Iv r.from_, Iv 0, Iv 2000]) (res' := .bool false) rfl rfl rfl rfl rfl rfl ?_
  refine Zg (.bool false) (Zb (.bool false) (Za (Zg (.bool false) (Zb (.bool false) (Za (Za (Za (Zg (.bool false) (Zc (.bool false) (Zd (Ze (Zs (Zy (Zv (Zq ?_)))))))))))))))
  rw [show decide (Zaw r) = false from decide_eq_false (fun q => by rcases q with ⟨q1, q2, q3, q4, q5, q6⟩ | ⟨q1, q2, q3, q4, q5, q6⟩ | ⟨q1, q2, q3, q4, q5, q6⟩ | ⟨q1, q2, q3, q4, q5, q6⟩ <;> first | omega | (have := q4.1; have := q4.2.1; omega) | exact Z8 (by omega) q4.2.2 | exact Z6 (by omega) q6 | exact Z3 (by omega) q5 | exact absurd q4 (of_decide_eq_false (by assumption)) | exact absurd q5 (of_decide_eq_false (by assumption)) | exact absurd q6 (of_decide_eq_false (by assumption)) | (rw [‹Z0 _ _ = false›] at q4; cases q4) | (rw [Zt, ‹Z0 _ _ = false›] at q4; cases q4) | (rw [‹Zu _ _ = false›] at q5; cases q5) | (rw [Zp, ‹Zu _ _ = false›] at q5; cases q5))]
  exact Zk (v := .bool false) rfl rfl rfl (by kernel_rfl) rfl
  refine Zw ((Zam (G := G) r.epoch 1 900000000).res (congrArg Value.bool (Z2 (by omega)))) (vals := [Iv r.epoch, Iv 1, Iv 900000000]) (res' := .bool false) rfl rfl rfl rfl rfl rfl ?_
  refine Zb (.bool false) (Za (Za (Za (Zg (.bool false) (Zb (.bool false) (Za (Zg (.bool false) (Zb (.bool false) (Za (Za (Za (Zg (.bool false) (Zc (.bool false) (Zd (Ze (Zs (Zy (Zv (Zq ?_)))))))))))))))))))
  rw [show decide (Zaw r) = false from decide_eq_false (fun q => by rcases q with ⟨q1, q2, q3, q4, q5, q6⟩ | ⟨q1, q2, q3, q4, q5, q6⟩ | ⟨q1, q2, q3, q4, q5, q6⟩ | ⟨q1, q2, q3, q4, q5, q6⟩ <;> first | omega | (have := q4.1; have := q4.2.1; omega) | exact Z8 (by omega) q4.2.2 | exact Z6 (by omega) q6 | exact Z3 (by omega) q5 | exact absurd q4 (of_decide_eq_false (by assumption)) | exact absurd q5 (of_decide_eq_false (by assumption)) | exact absurd q6 (of_decide_eq_false (by assumption)) | (rw [‹Z0 _ _ = false›] at q4; cases q4) | (rw [Zt, ‹Z0 _ _ = false›] at q4; cases q4) | (rw [‹Zu _ _ = false›] at q5; cases q5) | (rw [Zp, ‹Zu _ _ = false›] at q5; cases q5))]
  exact Zk (v := .bool false) rfl rfl rfl (by kernel_rfl) rfl
  refine Zw ((Zam (G := G) r.epoch 1 900000000).res (congrArg Value.bool (Z2 (by omega)))) (vals := [Iv r.epoch, Iv 1, Iv 900000000]) (res' := .bool false) rfl rfl rfl rfl rfl rfl ?_
  refine Zb (.bool false) (Za (Za (Za (Zg (.bool false) (Zb (.bool false) (Za (Zg (.bool false) (Zb (.bool false) (Za (Za (Za (Zg (.bool false) (Zc (.bool false) (Zd (Ze (Zs (Zy (Zv (Zq ?_)))))))))))))))))))
  rw [show decide (Zaw r) = false from decide_eq_false (fun q => by rcases q with ⟨q1, q2, q3, q4, q5, q6⟩ | ⟨q1, q2, q3, q4, q5, q6⟩ | ⟨q1, q2, q3, q4, q5, q6⟩ | ⟨q1, q2, q3, q4, q5, q6⟩ <;> first | omega | (have := q4.1; have := q4.2.1; omega) | exact Z8 (by omega) q4.2.2 | exact Z6 (by omega) q6 | exact Z3 (by omega) q5 | exact absurd q4 (of_decide_eq_false (by assumption)) | exact absurd q5 (of_decide_eq_false (by assumption)) | exact absurd q6 (of_decide_eq_false (by assumption)) | (rw [‹Z0 _ _ = false›] at q4; cases q4) | (rw [Zt, ‹Z0 _ _ = false›] at q4; cases q4) | (rw [‹Zu _ _ = false›] at q5; cases q5) | (rw [Zp, ‹Zu _ _ = false›] at q5; cases q5))]
  exact Zk (v := .bool false) rfl rfl rfl (by kernel_rfl) rfl
  refine Zn (vx := Iv r.kind) (vy := Iv 3) rfl rfl (.bool false) rfl rfl (Zaq (by omega)) ?_
  refine Zc (.bool false) (Zd (Ze (Zz rfl (Zi (Zm ?_)))))
  by_cases h18 : r.kind = 4
  refine Zn (vx := Iv r.kind) (vy := Iv 4) rfl rfl (.bool true) rfl rfl (Zaj (by omega)) ?_
  refine Zc (.bool true) (Zd (Ze (Z4 rfl (Zi (Zm (Zf (b := 1) (o := 0) (n := 1) (o' := 1) (Zl (p := pt 1 1) (v := Iv r.epoch) ?_)))))))
  by_cases h19 : r.epoch = 0
  refine Zn (vx := Iv r.epoch) (vy := Iv 0) rfl rfl (.bool true) rfl rfl (Zaj (by omega)) ?_
  refine Zb (.bool true) (Zf (b := 1) (o := 0) (n := 2) (o' := 2) (Zl (p := pt 1 2) (v := Iv r.from_) ?_))
  by_cases h20 : r.from_ = 0
  refine Zn (vx := Iv r.from_) (vy := Iv 0) rfl rfl (.bool true) rfl rfl (Zaj (by omega)) ?_
  refine Zg (.bool true) (Zb (.bool true) (Zf (b := 1) (o := 0) (n := 3) (o' := 3) (Zl (p := pt 1 3) (v := Zal r.item) ?_)))
  refine Za0 (vs := []) (v := Zal (⟨0, (⟨0, 0, 0, ⟨#[]⟩, (⟨(⟨0, 0, 0, dz, 0⟩ : Head), 0, dz⟩ : Signed), (⟨0, 0, 0, 0, dz⟩ : Claim)⟩ : Entry)⟩ : Item)) rfl rfl rfl (by kernel_rfl) ?_
  refine Zn (vx := Zal r.item) (vy := Zal (⟨0, (⟨0, 0, 0, ⟨#[]⟩, (⟨(⟨0, 0, 0, dz, 0⟩ : Head), 0, dz⟩ : Signed), (⟨0, 0, 0, 0, dz⟩ : Claim)⟩ : Entry)⟩ : Item)) rfl rfl (.bool true) rfl rfl (Eq.trans (Zde r.item (⟨0, (⟨0, 0, 0, ⟨#[]⟩, (⟨(⟨0, 0, 0, dz, 0⟩ : Head), 0, dz⟩ : Signed), (⟨0, 0, 0, 0, dz⟩ : Claim)⟩ : Entry)⟩ : Item)) (by rw [h1] <;> rfl)) ?_
  refine Zg (.bool true) (Zb (.bool true) (Zf (b := 1) (o := 0) (n := 113) (o' := 113) (Zl (p := pt 1 113) (v := slv 0 0 p q) (Zbg (p := slv 0 0 p q) (v := Iv (p : Nat)) ?_))))
  by_cases h21 : (p : Nat) = 0
  refine Zn (vx := Iv (p : Nat)) (vy := Iv 0) rfl rfl (.bool true) rfl rfl (Zaj (by omega)) ?_
  refine Zg (.bool true) (Zb (.bool true) (Zf (b := 1) (o := 0) (n := 114) (o' := 114) (Zl (p := pt 1 114) (v := Zx r.claim) ?_)))
  refine Zw (Zfw (G := G) r.claim) (vals := [Zx r.claim]) (res' := .bool (decide (Zaz r.claim))) rfl rfl rfl rfl rfl rfl ?_
  refine Zg (.bool (decide (Zaz r.claim))) (Zc (.bool (decide (Zaz r.claim))) (Zd (Ze (Zs (Zy (Zv (Zq ?_)))))))
  rw [show decide (Zaw r) = decide (Zaz r.claim) from Zr9 (fun hb => (by first | exact .inl ⟨by omega, by omega, by omega, (by first | assumption | exact Zan _ | (rw [Zt]; assumption)), (by first | assumption | exact Zag _ | (rw [Zp]; assumption)), by omega⟩ | exact .inr (.inl ⟨by omega, by omega, by omega, (by first | exact of_decide_eq_true (by assumption) | exact ⟨by omega, by omega, Zeo (by omega)⟩), (by first | assumption | exact Zag _ | (rw [Zp]; assumption)), by omega⟩) | exact .inr (.inr (.inl ⟨by omega, by omega, by omega, (by first | assumption | exact Zan _ | (rw [Zt]; assumption)), (by first | assumption | exact Zag _ | (rw [Zp]; assumption)), (by first | exact of_decide_eq_true (by assumption) | exact Za5 (by omega))⟩)) | exact .inr (.inr (.inr ⟨by omega, by omega, by omega, (by first | assumption | exact Zan _ | (rw [Zt]; assumption)), (by first | exact of_decide_eq_true (by assumption) | exact Zed (by omega)), by omega⟩)))) (fun q => by rcases q with ⟨q1, q2, q3, q4, q5, q6⟩ | ⟨q1, q2, q3, q4, q5, q6⟩ | ⟨q1, q2, q3, q4, q5, q6⟩ | ⟨q1, q2, q3, q4, q5, q6⟩ <;> first | omega | exact q5 | exact decide_eq_true q6 | exact decide_eq_true q5 | exact decide_eq_true q4 | exact decide_eq_true (by omega))]
  exact Zk (v := .bool (decide (Zaz r.claim))) rfl rfl rfl (by kernel_rfl) rfl
  refine Zn (vx := Iv (p : Nat)) (vy := Iv 0) rfl rfl (.bool false) rfl rfl (Zaq (by omega)) ?_
  refine Zg (.bool false) (Zb (.bool false) (Za (Za (Za (Zg (.bool false) (Zc (.bool false) (Zd (Ze (Zs (Zy (Zv (Zq ?_))))))))))))
  rw [show decide (Zaw r) = false from decide_eq_false (fun q => by rcases q with ⟨q1, q2, q3, q4, q5, q6⟩ | ⟨q1, q2, q3, q4, q5, q6⟩ | ⟨q1, q2, q3, q4, q5, q6⟩ | ⟨q1, q2, q3, q4, q5, q6⟩ <;> first | omega | (have := q4.1; have := q4.2.1; omega) | exact Z8 (by omega) q4.2.2 | exact Z6 (by omega) q6 | exact Z3 (by omega) q5 | exact absurd q4 (of_decide_eq_false (by assumption)) | exact absurd q5 (of_decide_eq_false (by assumption)) | exact absurd q6 (of_decide_eq_false (by assumption)) | (rw [‹Z0 _ _ = false›] at q4; cases q4) | (rw [Zt, ‹Z0 _ _ = false›] at q4; cases q4) | (rw [‹Zu _ _ = false›] at q5; cases q5) | (rw [Zp, ‹Zu _ _ = false›] at q5; cases q5))]
  exact Zk (v := .bool false) rfl rfl rfl (by kernel_rfl) rfl
  refine Zn (vx := Iv r.from_) (vy := Iv 0) rfl rfl (.bool false) rfl rfl (Zaq (by omega)) ?_
  refine Zg (.bool false) (Zb (.bool false) (Za (Za (Za (Za (Zg (.bool false) (Zb (.bool false) (Za (Za (Za (Za (Zg (.bool false) (Zb (.bool false) (Za (Za (Za (Zg (.bool false) (Zc (.bool false) (Zd (Ze (Zs (Zy (Zv (Zq ?_))))))))))))))))))))))))
  rw [show decide (Zaw r) = false from decide_eq_false (fun q => by rcases q with ⟨q1, q2, q3, q4, q5, q6⟩ | ⟨q1, q2, q3, q4, q5, q6⟩ | ⟨q1, q2, q3, q4, q5, q6⟩ | ⟨q1, q2, q3, q4, q5, q6⟩ <;> first | omega | (have := q4.1; have := q4.2.1; omega) | exact Z8 (by omega) q4.2.2 | exact Z6 (by omega) q6 | exact Z3 (by omega) q5 | exact absurd q4 (of_decide_eq_false (by assumption)) | exact absurd q5 (of_decide_eq_false (by assumption)) | exact absurd q6 (of_decide_eq_false (by assumption)) | (rw [‹Z0 _ _ = false›] at q4; cases q4) | (rw [Zt, ‹Z0 _ _ = false›] at q4; cases q4) | (rw [‹Zu _ _ = false›] at q5; cases q5) | (rw [Zp, ‹Zu _ _ = false›] at q5; cases q5))]
  exact Zk (v := .bool false) rfl rfl rfl (by kernel_rfl) rfl
  refine Zn (vx := Iv r.epoch) (vy := Iv 0) rfl rfl (.bool false) rfl rfl (Zaq (by omega)) ?_
  refine Zb (.bool false) (Za (Za (Za (Zg (.bool false) (Zb (.bool false) (Za (Za (Za (Za (Zg (.bool false) (Zb (.bool false) (Za (Za (Za (Za (Zg (.bool false) (Zb (.bool false) (Za (Za (Za (Zg (.bool false) ?_)))))))))))))))))))))
  refine Zc (.bool false) (Zd (Ze (Zs (Zy (Zv (Zq ?_))))))
  rw [show decide (Zaw r) = false from decide_eq_false (fun q => by rcases q with ⟨q1, q2, q3, q4, q5, q6⟩ | ⟨q1, q2, q3, q4, q5, q6⟩ | ⟨q1, q2, q3, q4, q5, q6⟩ | ⟨q1, q2, q3, q4, q5, q6⟩ <;> first | omega | (have := q4.1; have := q4.2.1; omega) | exact Z8 (by omega) q4.2.2 | exact Z6 (by omega) q6 | exact Z3 (by omega) q5 | exact absurd q4 (of_decide_eq_false (by assumption)) | exact absurd q5 (of_decide_eq_false (by assumption)) | exact absurd q6 (of_decide_eq_false (by assumption)) | (rw [‹Z0 _ _ = false›] at q4; cases q4) | (rw [Zt, ‹Z0 _ _ = false›] at q4; cases q4) | (rw [‹Zu _ _ = false›] at q5; cases q5) | (rw [Zp, ‹Zu _ _ = false›] at q5; cases q5))]
  exact Zk (v := .bool false) rfl rfl rfl (by kernel_rfl) rfl
  refine Zn (vx := Iv r.kind) (vy := Iv 4) rfl rfl (.bool false) rfl rfl (Zaq (by omega)) ?_
  refine Zc (.bool false) (Zd (Ze (Zz rfl (Z9 (Z7 (Ze (Zi (Zm (Zc (.bool false) (Zd (Ze (Zs (Zq ?_)))))))))))))
  rw [show decide (Zaw r) = false from decide_eq_false (fun q => by rcases q with ⟨q1, q2, q3, q4, q5, q6⟩ | ⟨q1, q2, q3, q4, q5, q6⟩ | ⟨q1, q2, q3, q4, q5, q6⟩ | ⟨q1, q2, q3, q4, q5, q6⟩ <;> first | omega | (have := q4.1; have := q4.2.1; omega) | exact Z8 (by omega) q4.2.2 | exact Z6 (by omega) q6 | exact Z3 (by omega) q5 | exact absurd q4 (of_decide_eq_false (by assumption)) | exact absurd q5 (of_decide_eq_false (by assumption)) | exact absurd q6 (of_decide_eq_false (by assumption)) | (rw [‹Z0 _ _ = false›] at q4; cases q4) | (rw [Zt, ‹Z0 _ _ = false›] at q4; cases q4) | (rw [‹Zu _ _ = false›] at q5; cases q5) | (rw [Zp, ‹Zu _ _ = false›] at q5; cases q5))]
  exact Zk (v := .bool false) rfl rfl rfl (by kernel_rfl) rfl
  refine Zn (vx := Zx r.claim) (vy := Zx (⟨0, 0, 0, 0, dz⟩ : Claim)) rfl rfl (.bool false) rfl rfl (Eq.trans (Zb8 r.claim (⟨0, 0, 0, 0, dz⟩ : Claim)) (by rw [h2] <;> rfl)) ?_
  refine Zg (.bool false) (Zc (.bool false) (Zd (Ze (Zi (Zi (Zm (Zf (b := 1) (o := 0) (n := 0) (o' := 0) (Zl (p := pt 1 0) (v := Iv r.kind) (Zd (Ze (Zav (Zi (Zm ?_)))))))))))))
  by_cases h22 : r.kind = 1
  refine Zn (vx := Iv r.kind) (vy := Iv 1) rfl rfl (.bool true) rfl rfl (Zaj (by omega)) ?_
  refine Zc (.bool true) (Zd (Ze (Z4 rfl (Zi (Zm (Zf (b := 1) (o := 0) (n := 1) (o' := 1) (Zl (p := pt 1 1) (v := Iv r.epoch) ?_)))))))
  by_cases h23 : 1 ≤ r.epoch
  by_cases h24 : r.epoch ≤ 900000000
  refine Zw ((Zam (G := G) r.epoch 1 900000000).res (congrArg Value.bool (Zak (by omega) (by omega)))) (vals := [Iv r.epoch, Iv 1, Iv 900000000]) (res' := .bool true) rfl rfl rfl rfl rfl rfl ?_
  refine Zb (.bool true) (Zf (b := 1) (o := 0) (n := 2) (o' := 2) (Zl (p := pt 1 2) (v := Iv r.from_) ?_))
  by_cases h25 : r.from_ = 0
  refine Zn (vx := Iv r.from_) (vy := Iv 0) rfl rfl (.bool true) rfl rfl (Zaj (by omega)) ?_
  refine Zg (.bool true) (Zb (.bool true) (Zb (.bool false) (Zg (.bool false) (Zb (.bool false) (Za (Za (Za (Za (Zg (.bool false) (Zc (.bool false) (Zd (Ze (Zs (Zy (Zv (Zq ?_))))))))))))))))
  rw [show decide (Zaw r) = false from decide_eq_false (fun q => by rcases q with ⟨q1, q2, q3, q4, q5, q6⟩ | ⟨q1, q2, q3, q4, q5, q6⟩ | ⟨q1, q2, q3, q4, q5, q6⟩ | ⟨q1, q2, q3, q4, q5, q6⟩ <;> first | omega | (have := q4.1; have := q4.2.1; omega) | exact Z8 (by omega) q4.2.2 | exact Z6 (by omega) q6 | exact Z3 (by omega) q5 | exact absurd q4 (of_decide_eq_false (by assumption)) | exact absurd q5 (of_decide_eq_false (by assumption)) | exact absurd q6 (of_decide_eq_false (by assumption)) | (rw [‹Z0 _ _ = false›] at q4; cases q4) | (rw [Zt, ‹Z0 _ _ = false›] at q4; cases q4) | (rw [‹Zu _ _ = false›] at q5; cases q5) | (rw [Zp, ‹Zu _ _ = false›] at q5; cases q5))]
  exact Zk (v := .bool false) rfl rfl rfl (by kernel_rfl) rfl
  refine Zn (vx := Iv r.from_) (vy := Iv 0) rfl rfl (.bool false) rfl rfl (Zaq (by omega)) ?_
  refine Zg (.bool false) (Zb (.bool false) (Za (Zg (.bool false) (Zb (.bool false) (Za (Za (Za (Za (Zg (.bool false) (Zc (.bool false) (Zd (Ze (Zs (Zy (Zv (Zq ?_))))))))))))))))
  rw [show decide (Zaw r) = false from decide_eq_false (fun q => by rcases q with ⟨q1, q2, q3, q4, q5, q6⟩ | ⟨q1, q2, q3, q4, q5, q6⟩ | ⟨q1, q2, q3, q4, q5, q6⟩ | ⟨q1, q2, q3, q4, q5, q6⟩ <;> first | omega | (have := q4.1; have := q4.2.1; omega) | exact Z8 (by omega) q4.2.2 | exact Z6 (by omega) q6 | exact Z3 (by omega) q5 | exact absurd q4 (of_decide_eq_false (by assumption)) | exact absurd q5 (of_decide_eq_false (by assumption)) | exact absurd q6 (of_decide_eq_false (by assumption)) | (rw [‹Z0 _ _ = false›] at q4; cases q4) | (rw [Zt, ‹Z0 _ _ = false›] at q4; cases q4) | (rw [‹Zu _ _ = false›] at q5; cases q5) | (rw [Zp, ‹Zu _ _ = false›] at q5; cases q5))]
  exact Zk (v := .bool false) rfl rfl rfl (by kernel_rfl) rfl
  refine Zw ((Zam (G := G) r.epoch 1 900000000).res (congrArg Value.bool (Z2 (by omega)))) (vals := [Iv r.epoch, Iv 1, Iv 900000000]) (res' := .bool false) rfl rfl rfl rfl rfl rfl ?_
  refine Zb (.bool false) (Za (Za (Za (Zg (.bool false) (Zb (.bool false) (Za (Zg (.bool false) (Zb (.bool false) (Za (Za (Za (Za (Zg (.bool false) (Zc (.bool false) (Zd (Ze (Zs (Zy (Zv (Zq ?_))))))))))))))))))))
  rw [show decide (Zaw r) = false from decide_eq_false (fun q => by rcases q with ⟨q1, q2, q3, q4, q5, q6⟩ | ⟨q1, q2, q3, q4, q5, q6⟩ | ⟨q1, q2, q3, q4, q5, q6⟩ | ⟨q1, q2, q3, q4, q5, q6⟩ <;> first | omega | (have := q4.1; have := q4.2.1; omega) | exact Z8 (by omega) q4.2.2 | exact Z6 (by omega) q6 | exact Z3 (by omega) q5 | exact absurd q4 (of_decide_eq_false (by assumption)) | exact absurd q5 (of_decide_eq_false (by assumption)) | exact absurd q6 (of_decide_eq_false (by assumption)) | (rw [‹Z0 _ _ = false›] at q4; cases q4) | (rw [Zt, ‹Z0 _ _ = false›] at q4; cases q4) | (rw [‹Zu _ _ = false›] at q5; cases q5) | (rw [Zp, ‹Zu _ _ = false›] at q5; cases q5))]
  exact Zk (v := .bool false) rfl rfl rfl (by kernel_rfl) rfl
  refine Zw ((Zam (G := G) r.epoch 1 900000000).res (congrArg Value.bool (Z2 (by omega)))) (vals := [Iv r.epoch, Iv 1, Iv 900000000]) (res' := .bool false) rfl rfl rfl rfl rfl rfl ?_
  refine Zb (.bool false) (Za (Za (Za (Zg (.bool false) (Zb (.bool false) (Za (Zg (.bool false) (Zb (.bool false) (Za (Za (Za (Za (Zg (.bool false) (Zc (.bool false) (Zd (Ze (Zs (Zy (Zv (Zq ?_))))))))))))))))))))
  rw [show decide (Zaw r) = false from decide_eq_false (fun q => by rcases q with ⟨q1, q2, q3, q4, q5, q6⟩ | ⟨q1, q2, q3, q4, q5, q6⟩ | ⟨q1, q2, q3, q4, q5, q6⟩ | ⟨q1, q2, q3, q4, q5, q6⟩ <;> first | omega | (have := q4.1; have := q4.2.1; omega) | exact Z8 (by omega) q4.2.2 | exact Z6 (by omega) q6 | exact Z3 (by omega) q5 | exact absurd q4 (of_decide_eq_false (by assumption)) | exact absurd q5 (of_decide_eq_false (by assumption)) | exact absurd q6 (of_decide_eq_false (by assumption)) | (rw [‹Z0 _ _ = false›] at q4; cases q4) | (rw [Zt, ‹Z0 _ _ = false›] at q4; cases q4) | (rw [‹Zu _ _ = false›] at q5; cases q5) | (rw [Zp, ‹Zu _ _ = false›] at q5; cases q5))]
  exact Zk (v := .bool false) rfl rfl rfl (by kernel_rfl) rfl
  refine Zn (vx := Iv r.kind) (vy := Iv 1) rfl rfl (.bool false) rfl rfl (Zaq (by omega)) ?_
  refine Zc (.bool false) (Zd (Ze (Zz rfl (Zi (Zm ?_)))))
  by_cases h26 : r.kind = 2
  refine Zn (vx := Iv r.kind) (vy := Iv 2) rfl rfl (.bool true) rfl rfl (Zaj (by omega)) ?_
  refine Zc (.bool true) (Zd (Ze (Z4 rfl (Zi (Zm (Zf (b := 1) (o := 0) (n := 1) (o' := 1) (Zl (p := pt 1 1) (v := Iv r.epoch) ?_)))))))
  by_cases h27 : r.epoch = 0
  refine Zn (vx := Iv r.epoch) (vy := Iv 0) rfl rfl (.bool true) rfl rfl (Zaj (by omega)) ?_
  refine Zb (.bool true) (Zf (b := 1) (o := 0) (n := 2) (o' := 2) (Zl (p := pt 1 2) (v := Iv r.from_) ?_))
  by_cases h28 : r.from_ = 0
  refine Zn (vx := Iv r.from_) (vy := Iv 0) rfl rfl (.bool true) rfl rfl (Zaj (by omega)) ?_
  refine Zg (.bool true) (Zb (.bool true) (Zf (b := 1) (o := 0) (n := 3) (o' := 3) (Zl (p := pt 1 3) (v := Zal r.item) ?_)))
  refine Zw (Zfx (G := G) r.item) (vals := [Zal r.item]) (res' := .bool (decide (Zbb r.item))) rfl rfl rfl rfl rfl rfl ?_
  refine Zg (.bool (decide (Zbb r.item))) (Zb (.bool (decide (Zbb r.item))) ?_)
  rcases Bool.eq_false_or_eq_true (decide (Zbb r.item)) with h29 | h29
  refine Zas (b := 1) (o := 0) (n := 113) (o' := 113) (by exact congrArg (fun b => some (b == true)) h29) rfl rfl rfl rfl ?_
  refine Zba (p := pt 1 113) (v := slv 0 0 p q) (by exact congrArg (fun b => some (b == true)) h29) rfl rfl (by kernel_rfl) ?_
  refine Zov (p := slv 0 0 p q) (v := Iv (p : Nat)) (by exact congrArg (fun b => some (b == true)) h29) rfl rfl rfl ?_
  by_cases h30 : (p : Nat) = 0
  refine Zn (vx := Iv (p : Nat)) (vy := Iv 0) (by exact congrArg (fun b => some (b == true)) h29) rfl (.bool true) rfl rfl (Zaj (by omega)) ?_
  refine Zcw rfl rfl (.bool true) (by show some (if _ then _ else _) = _; rw [h29] <;> rfl) ?_
  refine Zb (.bool true) (Zf (b := 1) (o := 0) (n := 114) (o' := 114) (Zl (p := pt 1 114) (v := Zx r.claim) ?_))
  refine Za0 (vs := []) (v := Zx (⟨0, 0, 0, 0, dz⟩ : Claim)) rfl rfl rfl (by kernel_rfl) ?_
  refine Zn (vx := Zx r.claim) (vy := Zx (⟨0, 0, 0, 0, dz⟩ : Claim)) rfl rfl (.bool false) rfl rfl (Eq.trans (Zb8 r.claim (⟨0, 0, 0, 0, dz⟩ : Claim)) (by rw [h2] <;> rfl)) ?_
  refine Zg (.bool false) (Zc (.bool false) (Zd (Ze (Zs (Zy (Zv (Zq ?_)))))))
  rw [show decide (Zaw r) = false from decide_eq_false (fun q => by rcases q with ⟨q1, q2, q3, q4, q5, q6⟩ | ⟨q1, q2, q3, q4, q5, q6⟩ | ⟨q1, q2, q3, q4, q5, q6⟩ | ⟨q1, q2, q3, q4, q5, q6⟩ <;> first | omega | (have := q4.1; have := q4.2.1; omega) | exact Z8 (by omega) q4.2.2 | exact Z6 (by omega) q6 | exact Z3 (by omega) q5 | exact absurd q4 (of_decide_eq_false (by assumption)) | exact absurd q5 (of_decide_eq_false (by assumption)) | exact absurd q6 (of_decide_eq_false (by assumption)) | (rw [‹Z0 _ _ = false›] at q4; cases q4) | (rw [Zt, ‹Z0 _ _ = false›] at q4; cases q4) | (rw [‹Zu _ _ = false›] at q5; cases q5) | (rw [Zp, ‹Zu _ _ = false›] at q5; cases q5))]
  exact Zk (v := .bool false) rfl rfl rfl (by kernel_rfl) rfl
  refine Zn (vx := Iv (p : Nat)) (vy := Iv 0) (by exact congrArg (fun b => some (b == true)) h29) rfl (.bool false) rfl rfl (Zaq (by omega)) ?_
  refine Zcw rfl rfl (.bool false) (by show some (if _ then _ else _) = _; rw [h29] <;> rfl) ?_
  refine Zb (.bool false) (Za (Za (Za (Za (Zg (.bool false) (Zc (.bool false) (Zd (Ze (Zs (Zy (Zv (Zq ?_))))))))))))
  rw [show decide (Zaw r) = false from decide_eq_false (fun q => by rcases q with ⟨q1, q2, q3, q4, q5, q6⟩ | ⟨q1, q2, q3, q4, q5, q6⟩ | ⟨q1, q2, q3, q4, q5, q6⟩ | ⟨q1, q2, q3, q4, q5, q6⟩ <;> first | omega | (have := q4.1; have := q4.2.1; omega) | exact Z8 (by omega) q4.2.2 | exact Z6 (by omega) q6 | exact Z3 (by omega) q5 | exact absurd q4 (of_decide_eq_false (by assumption)) | exact absurd q5 (of_decide_eq_false (by assumption)) | exact absurd q6 (of_decide_eq_false (by assumption)) | (rw [‹Z0 _ _ = false›] at q4; cases q4) | (rw [Zt, ‹Z0 _ _ = false›] at q4; cases q4) | (rw [‹Zu _ _ = false›] at q5; cases q5) | (rw [Zp, ‹Zu _ _ = false›] at q5; cases q5))]
  exact Zk (v := .bool false) rfl rfl rfl (by kernel_rfl) rfl
  refine Zb1 (by exact congrArg (fun b => some (b == true)) h29) rfl ?_
  refine Zb1 (by exact congrArg (fun b => some (b == true)) h29) rfl ?_
  refine Zb1 (by exact congrArg (fun b => some (b == true)) h29) rfl ?_
  refine Zb1 (by exact congrArg (fun b => some (b == true)) h29) rfl ?_
  refine Zcw rfl rfl (.bool false) (by show some (if _ then _ else _) = _; rw [h29] <;> rfl) ?_
  refine Zb (.bool false) (Za (Za (Za (Za (Zg (.bool false) (Zc (.bool false) (Zd (Ze (Zs (Zy (Zv (Zq ?_))))))))))))
  rw [show decide (Zaw r) = false from decide_eq_false (fun q => by rcases q with ⟨q1, q2, q3, q4, q5, q6⟩ | ⟨q1, q2, q3, q4, q5, q6⟩ | ⟨q1, q2, q3, q4, q5, q6⟩ | ⟨q1, q2, q3, q4, q5, q6⟩ <;> first | omega | (have := q4.1; have := q4.2.1; omega) | exact Z8 (by omega) q4.2.2 | exact Z6 (by omega) q6 | exact Z3 (by omega) q5 | exact absurd q4 (of_decide_eq_false (by assumption)) | exact absurd q5 (of_decide_eq_false (by assumption)) | exact absurd q6 (of_decide_eq_false (by assumption)) | (rw [‹Z0 _ _ = false›] at q4; cases q4) | (rw [Zt, ‹Z0 _ _ = false›] at q4; cases q4) | (rw [‹Zu _ _ = false›] at q5; cases q5) | (rw [Zp, ‹Zu _ _ = false›] at q5; cases q5))]
  exact Zk (v := .bool false) rfl rfl rfl (by kernel_rfl) rfl
  refine Zn (vx := Iv r.from_) (vy := Iv 0) rfl rfl (.bool false) rfl rfl (Zaq (by omega)) ?_
  refine Zg (.bool false) (Zb (.bool false) (Za (Za (Za (Zg (.bool false) (Zb (.bool false) (Za (Za (Za (Za (Zg (.bool false) (Zb (.bool false) (Za (Za (Za (Za (Zg (.bool false) (Zc (.bool false) (Zd (Ze (Zs (Zy (Zv (Zq ?_))))))))))))))))))))))))
  rw [show decide (Zaw r) = false from decide_eq_false (fun q => by rcases q with ⟨q1, q2, q3, q4, q5, q6⟩ | ⟨q1, q2, q3, q4, q5, q6⟩ | ⟨q1, q2, q3, q4, q5, q6⟩ | ⟨q1, q2, q3, q4, q5, q6⟩ <;> first | omega | (have := q4.1; have := q4.2.1; omega) | exact Z8 (by omega) q4.2.2 | exact Z6 (by omega) q6 | exact Z3 (by omega) q5 | exact absurd q4 (of_decide_eq_false (by assumption)) | exact absurd q5 (of_decide_eq_false (by assumption)) | exact absurd q6 (of_decide_eq_false (by assumption)) | (rw [‹Z0 _ _ = false›] at q4; cases q4) | (rw [Zt, ‹Z0 _ _ = false›] at q4; cases q4) | (rw [‹Zu _ _ = false›] at q5; cases q5) | (rw [Zp, ‹Zu _ _ = false›] at q5; cases q5))]
  exact Zk (v := .bool false) rfl rfl rfl (by kernel_rfl) rfl
  refine Zn (vx := Iv r.epoch) (vy := Iv 0) rfl rfl (.bool false) rfl rfl (Zaq (by omega)) ?_
  refine Zb (.bool false) (Za (Za (Za (Zg (.bool false) (Zb (.bool false) (Za (Za (Za (Zg (.bool false) (Zb (.bool false) (Za (Za (Za (Za (Zg (.bool false) (Zb (.bool false) (Za (Za (Za (Za (Zg (.bool false) ?_)))))))))))))))))))))
  refine Zc (.bool false) (Zd (Ze (Zs (Zy (Zv (Zq ?_))))))
  rw [show decide (Zaw r) = false from decide_eq_false (fun q => by rcases q with ⟨q1, q2, q3, q4, q5, q6⟩ | ⟨q1, q2, q3, q4, q5, q6⟩ | ⟨q1, q2, q3, q4, q5, q6⟩ | ⟨q1, q2, q3, q4, q5, q6⟩ <;> first | omega | (have := q4.1; have := q4.2.1; omega) | exact Z8 (by omega) q4.2.2 | exact Z6 (by omega) q6 | exact Z3 (by omega) q5 | exact absurd q4 (of_decide_eq_false (by assumption)) | exact absurd q5 (of_decide_eq_false (by assumption)) | exact absurd q6 (of_decide_eq_false (by assumption)) | (rw [‹Z0 _ _ = false›] at q4; cases q4) | (rw [Zt, ‹Z0 _ _ = false›] at q4; cases q4) | (rw [‹Zu _ _ = false›] at q5; cases q5) | (rw [Zp, ‹Zu _ _ = false›] at q5; cases q5))]
  exact Zk (v := .bool false) rfl rfl rfl (by kernel_rfl) rfl
  refine Zn (vx := Iv r.kind) (vy := Iv 2) rfl rfl (.bool false) rfl rfl (Zaq (by omega)) ?_
  refine Zc (.bool false) (Zd (Ze (Zz rfl (Zi (Zm ?_)))))
  by_cases h31 : r.kind = 3
  refine Zn (vx := Iv r.kind) (vy := Iv 3) rfl rfl (.bool true) rfl rfl (Zaj (by omega)) ?_
  refine Zc (.bool true) (Zd (Ze (Z4 rfl (Zi (Zm (Zf (b := 1) (o := 0) (n := 1) (o' := 1) (Zl (p := pt 1 1) (v := Iv r.epoch) ?_)))))))
  by_cases h32 : 1 ≤ r.epoch
  by_cases h33 : r.epoch ≤ 900000000
  refine Zw ((Zam (G := G) r.epoch 1 900000000).res (congrArg Value.bool (Zak (by omega) (by omega)))) (vals := [Iv r.epoch, Iv 1, Iv 900000000]) (res' := .bool true) rfl rfl rfl rfl rfl rfl ?_
  refine Zb (.bool true) (Zf (b := 1) (o := 0) (n := 2) (o' := 2) (Zl (p := pt 1 2) (v := Iv r.from_) ?_))
  by_cases h34 : 0 ≤ r.from_
  by_cases h35 : r.from_ ≤ 2000
  refine Zw ((Zam (G := G) r.from_ 0 2000).res (congrArg Value.bool (Zak (by omega) (by omega)))) (vals := [Iv r.from_, Iv 0, Iv 2000]) (res' := .bool true) rfl rfl rfl rfl rfl rfl ?_
  refine Zg (.bool true) (Zb (.bool true) (Zb (.bool false) (Zg (.bool false) (Zb (.bool false) (Za (Za (Za (Zg (.bool false) (Zc (.bool false) (Zd (Ze (Zs (Zy (Zv (Zq ?_)))))))))))))))
  rw [show decide (Zaw r) = false from decide_eq_false (fun q => by rcases q with ⟨q1, q2, q3, q4, q5, q6⟩ | ⟨q1, q2, q3, q4, q5, q6⟩ | ⟨q1, q2, q3, q4, q5, q6⟩ | ⟨q1, q2, q3, q4, q5, q6⟩ <;> first | omega | (have := q4.1; have := q4.2.1; omega) | exact Z8 (by omega) q4.2.2 | exact Z6 (by omega) q6 | exact Z3 (by omega) q5 | exact absurd q4 (of_decide_eq_false (by assumption)) | exact absurd q5 (of_decide_eq_false (by assumption)) | exact absurd q6 (of_decide_eq_false (by assumption)) | (rw [‹Z0 _ _ = false›] at q4; cases q4) | (rw [Zt, ‹Z0 _ _ = false›] at q4; cases q4) | (rw [‹Zu _ _ = false›] at q5; cases q5) | (rw [Zp, ‹Zu _ _ = false›] at q5; cases q5))]
  exact Zk (v := .bool false) rfl rfl rfl (by kernel_rfl) rfl
  refine Zw ((Zam (G := G) r.from_ 0 2000).res (congrArg Value.bool (Z2 (by omega)))) (vals := [Iv r.from_, Iv 0, Iv 2000]) (res' := .bool false) rfl rfl rfl rfl rfl rfl ?_
  refine Zg (.bool false) (Zb (.bool false) (Za (Zg (.bool false) (Zb (.bool false) (Za (Za (Za (Zg (.bool false) (Zc (.bool false) (Zd (Ze (Zs (Zy (Zv (Zq ?_)))))))))))))))
  rw [show decide (Zaw r) = false from decide_eq_false (fun q => by rcases q with ⟨q1, q2, q3, q4, q5, q6⟩ | ⟨q1, q2, q3, q4, q5, q6⟩ | ⟨q1, q2, q3, q4, q5, q6⟩ | ⟨q1, q2, q3, q4, q5, q6⟩ <;> first | omega | (have := q4.1; have := q4.2.1; omega) | exact Z8 (by omega) q4.2.2 | exact Z6 (by omega) q6 | exact Z3 (by omega) q5 | exact absurd q4 (of_decide_eq_false (by assumption)) | exact absurd q5 (of_decide_eq_false (by assumption)) | exact absurd q6 (of_decide_eq_false (by assumption)) | (rw [‹Z0 _ _ = false›] at q4; cases q4) | (rw [Zt, ‹Z0 _ _ = false›] at q4; cases q4) | (rw [‹Zu _ _ = false›] at q5; cases q5) | (rw [Zp, ‹Zu _ _ = false›] at q5; cases q5))]
  exact Zk (v := .bool false) rfl rfl rfl (by kernel_rfl) rfl
  refine Zw ((Zam (G := G) r.from_ 0 2000).res (congrArg Value.bool (Z2 (by omega)))) (vals := [Iv r.from_, Iv 0, Iv 2000]) (res' := .bool false) rfl rfl rfl rfl rfl rfl ?_
  refine Zg (.bool false) (Zb (.bool false) (Za (Zg (.bool false) (Zb (.bool false) (Za (Za (Za (Zg (.bool false) (Zc (.bool false) (Zd (Ze (Zs (Zy (Zv (Zq ?_)))))))))))))))
  rw [show decide (Zaw r) = false from decide_eq_false (fun q => by rcases q with ⟨q1, q2, q3, q4, q5, q6⟩ | ⟨q1, q2, q3, q4, q5, q6⟩ | ⟨q1, q2, q3, q4, q5, q6⟩ | ⟨q1, q2, q3, q4, q5, q6⟩ <;> first | omega | (have := q4.1; have := q4.2.1; omega) | exact Z8 (by omega) q4.2.2 | exact Z6 (by omega) q6 | exact Z3 (by omega) q5 | exact absurd q4 (of_decide_eq_false (by assumption)) | exact absurd q5 (of_decide_eq_false (by assumption)) | exact absurd q6 (of_decide_eq_false (by assumption)) | (rw [‹Z0 _ _ = false›] at q4; cases q4) | (rw [Zt, ‹Z0 _ _ = false›] at q4; cases q4) | (rw [‹Zu _ _ = false›] at q5; cases q5) | (rw [Zp, ‹Zu _ _ = false›] at q5; cases q5))]
  exact Zk (v := .bool false) rfl rfl rfl (by kernel_rfl) rfl
  refine Zw ((Zam (G := G) r.epoch 1 900000000).res (congrArg Value.bool (Z2 (by omega)))) (vals := [Iv r.epoch, Iv 1, Iv 900000000]) (res' := .bool false) rfl rfl rfl rfl rfl rfl ?_
  refine Zb (.bool false) (Za (Za (Za (Zg (.bool false) (Zb (.bool false) (Za (Zg (.bool false) (Zb (.bool false) (Za (Za (Za (Zg (.bool false) (Zc (.bool false) (Zd (Ze (Zs (Zy (Zv (Zq ?_)))))))))))))))))))
  rw [show decide (Zaw r) = false from decide_eq_false (fun q => by rcases q with ⟨q1, q2, q3, q4, q5, q6⟩ | ⟨q1, q2, q3, q4, q5, q6⟩ | ⟨q1, q2, q3, q4, q5, q6⟩ | ⟨q1, q2, q3, q4, q5, q6⟩ <;> first | omega | (have := q4.1; have := q4.2.1; omega) | exact Z8 (by omega) q4.2.2 | exact Z6 (by omega) q6 | exact Z3 (by omega) q5 | exact absurd q4 (of_decide_eq_false (by assumption)) | exact absurd q5 (of_decide_eq_false (by assumption)) | exact absurd q6 (of_decide_eq_false (by assumption)) | (rw [‹Z0 _ _ = false›] at q4; cases q4) | (rw [Zt, ‹Z0 _ _ = false›] at q4; cases q4) | (rw [‹Zu _ _ = false›] at q5; cases q5) | (rw [Zp, ‹Zu _ _ = false›] at q5; cases q5))]
  exact Zk (v := .bool false) rfl rfl rfl (by kernel_rfl) rfl
  refine Zw ((Zam (G := G) r.epoch 1 900000000).res (congrArg Value.bool (Z2 (by omega)))) (vals := [Iv r.epoch, Iv 1, Iv 900000000]) (res' := .bool false) rfl rfl rfl rfl rfl rfl ?_
  refine Zb (.bool false) (Za (Za (Za (Zg (.bool false) (Zb (.bool false) (Za (Zg (.bool false) (Zb (.bool false) (Za (Za (Za (Zg (.bool false) (Zc (.bool false) (Zd (Ze (Zs (Zy (Zv (Zq ?_)))))))))))))))))))
  rw [show decide (Zaw r) = false from decide_eq_false (fun q => by rcases q with ⟨q1, q2, q3, q4, q5, q6⟩ | ⟨q1, q2, q3, q4, q5, q6⟩ | ⟨q1, q2, q3, q4, q5, q6⟩ | ⟨q1, q2, q3, q4, q5, q6⟩ <;> first | omega | (have := q4.1; have := q4.2.1; omega) | exact Z8 (by omega) q4.2.2 | exact Z6 (by omega) q6 | exact Z3 (by omega) q5 | exact absurd q4 (of_decide_eq_false (by assumption)) | exact absurd q5 (of_decide_eq_false (by assumption)) | exact absurd q6 (of_decide_eq_false (by assumption)) | (rw [‹Z0 _ _ = false›] at q4; cases q4) | (rw [Zt, ‹Z0 _ _ = false›] at q4; cases q4) | (rw [‹Zu _ _ = false›] at q5; cases q5) | (rw [Zp, ‹Zu _ _ = false›] at q5; cases q5))]
  exact Zk (v := .bool false) rfl rfl rfl (by kernel_rfl) rfl
  refine Zn (vx := Iv r.kind) (vy := Iv 3) rfl rfl (.bool false) rfl rfl (Zaq (by omega)) ?_
  refine Zc (.bool false) (Zd (Ze (Zz rfl (Zi (Zm ?_)))))
  by_cases h36 : r.kind = 4
  refine Zn (vx := Iv r.kind) (vy := Iv 4) rfl rfl (.bool true) rfl rfl (Zaj (by omega)) ?_
  refine Zc (.bool true) (Zd (Ze (Z4 rfl (Zi (Zm (Zf (b := 1) (o := 0) (n := 1) (o' := 1) (Zl (p := pt 1 1) (v := Iv r.epoch) ?_)))))))
  by_cases h37 : r.epoch = 0
  refine Zn (vx := Iv r.epoch) (vy := Iv 0) rfl rfl (.bool true) rfl rfl (Zaj (by omega)) ?_
  refine Zb (.bool true) (Zf (b := 1) (o := 0) (n := 2) (o' := 2) (Zl (p := pt 1 2) (v := Iv r.from_) ?_))
  by_cases h38 : r.from_ = 0
  refine Zn (vx := Iv r.from_) (vy := Iv 0) rfl rfl (.bool true) rfl rfl (Zaj (by omega)) ?_
  refine Zg (.bool true) (Zb (.bool true) (Zf (b := 1) (o := 0) (n := 3) (o' := 3) (Zl (p := pt 1 3) (v := Zal r.item) ?_)))
  refine Za0 (vs := []) (v := Zal (⟨0, (⟨0, 0, 0, ⟨#[]⟩, (⟨(⟨0, 0, 0, dz, 0⟩ : Head), 0, dz⟩ : Signed), (⟨0, 0, 0, 0, dz⟩ : Claim)⟩ : Entry)⟩ : Item)) rfl rfl rfl (by kernel_rfl) ?_
  refine Zn (vx := Zal r.item) (vy := Zal (⟨0, (⟨0, 0, 0, ⟨#[]⟩, (⟨(⟨0, 0, 0, dz, 0⟩ : Head), 0, dz⟩ : Signed), (⟨0, 0, 0, 0, dz⟩ : Claim)⟩ : Entry)⟩ : Item)) rfl rfl (.bool true) rfl rfl (Eq.trans (Zde r.item (⟨0, (⟨0, 0, 0, ⟨#[]⟩, (⟨(⟨0, 0, 0, dz, 0⟩ : Head), 0, dz⟩ : Signed), (⟨0, 0, 0, 0, dz⟩ : Claim)⟩ : Entry)⟩ : Item)) (by rw [h1] <;> rfl)) ?_
  refine Zg (.bool true) (Zb (.bool true) (Zf (b := 1) (o := 0) (n := 113) (o' := 113) (Zl (p := pt 1 113) (v := slv 0 0 p q) (Zbg (p := slv 0 0 p q) (v := Iv (p : Nat)) ?_))))
  by_cases h39 : (p : Nat) = 0
  refine Zn (vx := Iv (p : Nat)) (vy := Iv 0) rfl rfl (.bool true) rfl rfl (Zaj (by omega)) ?_
  refine Zg (.bool true) (Zb (.bool true) (Zf (b := 1) (o := 0) (n := 114) (o' := 114) (Zl (p := pt 1 114) (v := Zx r.claim) ?_)))
  refine Zw (Zfw (G := G) r.claim) (vals := [Zx r.claim]) (res' := .bool (decide (Zaz r.claim))) rfl rfl rfl rfl rfl rfl ?_
  refine Zg (.bool (decide (Zaz r.claim))) (Zc (.bool (decide (Zaz r.claim))) (Zd (Ze (Zs (Zy (Zv (Zq ?_)))))))
  rw [show decide (Zaw r) = decide (Zaz r.claim) from Zr9 (fun hb => (by first | exact .inl ⟨by omega, by omega, by omega, (by first | assumption | exact Zan _ | (rw [Zt]; assumption)), (by first | assumption | exact Zag _ | (rw [Zp]; assumption)), by omega⟩ | exact .inr (.inl ⟨by omega, by omega, by omega, (by first | exact of_decide_eq_true (by assumption) | exact ⟨by omega, by omega, Zeo (by omega)⟩), (by first | assumption | exact Zag _ | (rw [Zp]; assumption)), by omega⟩) | exact .inr (.inr (.inl ⟨by omega, by omega, by omega, (by first | assumption | exact Zan _ | (rw [Zt]; assumption)), (by first | assumption | exact Zag _ | (rw [Zp]; assumption)), (by first | exact of_decide_eq_true (by assumption) | exact Za5 (by omega))⟩)) | exact .inr (.inr (.inr ⟨by omega, by omega, by omega, (by first | assumption | exact Zan _ | (rw [Zt]; assumption)), (by first | exact of_decide_eq_true (by assumption) | exact Zed (by omega)), by omega⟩)))) (fun q => by rcases q with ⟨q1, q2, q3, q4, q5, q6⟩ | ⟨q1, q2, q3, q4, q5, q6⟩ | ⟨q1, q2, q3, q4, q5, q6⟩ | ⟨q1, q2, q3, q4, q5, q6⟩ <;> first | omega | exact q5 | exact decide_eq_true q6 | exact decide_eq_true q5 | exact decide_eq_true q4 | exact decide_eq_true (by omega))]
  exact Zk (v := .bool (decide (Zaz r.claim))) rfl rfl rfl (by kernel_rfl) rfl
  refine Zn (vx := Iv (p : Nat)) (vy := Iv 0) rfl rfl (.bool false) rfl rfl (Zaq (by omega)) ?_
  refine Zg (.bool false) (Zb (.bool false) (Za (Za (Za (Zg (.bool false) (Zc (.bool false) (Zd (Ze (Zs (Zy (Zv (Zq ?_))))))))))))
  rw [show decide (Zaw r) = false from decide_eq_false (fun q => by rcases q with ⟨q1, q2, q3, q4, q5, q6⟩ | ⟨q1, q2, q3, q4, q5, q6⟩ | ⟨q1, q2, q3, q4, q5, q6⟩ | ⟨q1, q2, q3, q4, q5, q6⟩ <;> first | omega | (have := q4.1; have := q4.2.1; omega) | exact Z8 (by omega) q4.2.2 | exact Z6 (by omega) q6 | exact Z3 (by omega) q5 | exact absurd q4 (of_decide_eq_false (by assumption)) | exact absurd q5 (of_decide_eq_false (by assumption)) | exact absurd q6 (of_decide_eq_false (by assumption)) | (rw [‹Z0 _ _ = false›] at q4; cases q4) | (rw [Zt, ‹Z0 _ _ = false›] at q4; cases q4) | (rw [‹Zu _ _ = false›] at q5; cases q5) | (rw [Zp, ‹Zu _ _ = false›] at q5; cases q5))]
  exact Zk (v := .bool false) rfl rfl rfl (by kernel_rfl) rfl
  refine Zn (vx := Iv r.from_) (vy := Iv 0) rfl rfl (.bool false) rfl rfl (Zaq (by omega)) ?_
  refine Zg (.bool false) (Zb (.bool false) (Za (Za (Za (Za (Zg (.bool false) (Zb (.bool false) (Za (Za (Za (Za (Zg (.bool false) (Zb (.bool false) (Za (Za (Za (Zg (.bool false) (Zc (.bool false) (Zd (Ze (Zs (Zy (Zv (Zq ?_))))))))))))))))))))))))
  rw [show decide (Zaw r) = false from decide_eq_false (fun q => by rcases q with ⟨q1, q2, q3, q4, q5, q6⟩ | ⟨q1, q2, q3, q4, q5, q6⟩ | ⟨q1, q2, q3, q4, q5, q6⟩ | ⟨q1, q2, q3, q4, q5, q6⟩ <;> first | omega | (have := q4.1; have := q4.2.1; omega) | exact Z8 (by omega) q4.2.2 | exact Z6 (by omega) q6 | exact Z3 (by omega) q5 | exact absurd q4 (of_decide_eq_false (by assumption)) | exact absurd q5 (of_decide_eq_false (by assumption)) | exact absurd q6 (of_decide_eq_false (by assumption)) | (rw [‹Z0 _ _ = false›] at q4; cases q4) | (rw [Zt, ‹Z0 _ _ = false›] at q4; cases q4) | (rw [‹Zu _ _ = false›] at q5; cases q5) | (rw [Zp, ‹Zu _ _ = false›] at q5; cases q5))]
  exact Zk (v := .bool false) rfl rfl rfl (by kernel_rfl) rfl
  refine Zn (vx := Iv r.epoch) (vy := Iv 0) rfl rfl (.bool false) rfl rfl (Zaq (by omega)) ?_
  refine Zb (.bool false) (Za (Za (Za (Zg (.bool false) (Zb (.bool false) (Za (Za (Za (Za (Zg (.bool false) (Zb (.bool false) (Za (Za (Za (Za (Zg (.bool false) (Zb (.bool false) (Za (Za (Za (Zg (.bool false) ?_)))))))))))))))))))))
  refine Zc (.bool false) (Zd (Ze (Zs (Zy (Zv (Zq ?_))))))
  rw [show decide (Zaw r) = false from decide_eq_false (fun q => by rcases q with ⟨q1, q2, q3, q4, q5, q6⟩ | ⟨q1, q2, q3, q4, q5, q6⟩ | ⟨q1, q2, q3, q4, q5, q6⟩ | ⟨q1, q2, q3, q4, q5, q6⟩ <;> first | omega | (have := q4.1; have := q4.2.1; omega) | exact Z8 (by omega) q4.2.2 | exact Z6 (by omega) q6 | exact Z3 (by omega) q5 | exact absurd q4 (of_decide_eq_false (by assumption)) | exact absurd q5 (of_decide_eq_false (by assumption)) | exact absurd q6 (of_decide_eq_false (by assumption)) | (rw [‹Z0 _ _ = false›] at q4; cases q4) | (rw [Zt, ‹Z0 _ _ = false›] at q4; cases q4) | (rw [‹Zu _ _ = false›] at q5; cases q5) | (rw [Zp, ‹Zu _ _ = false›] at q5; cases q5))]
  exact Zk (v := .bool false) rfl rfl rfl (by kernel_rfl) rfl
  refine Zn (vx := Iv r.kind) (vy := Iv 4) rfl rfl (.bool false) rfl rfl (Zaq (by omega)) ?_
  refine Zc (.bool false) (Zd (Ze (Zz rfl (Z9 (Z7 (Ze (Zi (Zm (Zc (.bool false) (Zd (Ze (Zs (Zq ?_)))))))))))))
  rw [show decide (Zaw r) = false from decide_eq_false (fun q => by rcases q with ⟨q1, q2, q3, q4, q5, q6⟩ | ⟨q1, q2, q3, q4, q5, q6⟩ | ⟨q1, q2, q3, q4, q5, q6⟩ | ⟨q1, q2, q3, q4, q5, q6⟩ <;> first | omega | (have := q4.1; have := q4.2.1; omega) | exact Z8 (by omega) q4.2.2 | exact Z6 (by omega) q6 | exact Z3 (by omega) q5 | exact absurd q4 (of_decide_eq_false (by assumption)) | exact absurd q5 (of_decide_eq_false (by assumption)) | exact absurd q6 (of_decide_eq_false (by assumption)) | (rw [‹Z0 _ _ = false›] at q4; cases q4) | (rw [Zt, ‹Z0 _ _ = false›] at q4; cases q4) | (rw [‹Zu _ _ = false›] at q5; cases q5) | (rw [Zp, ‹Zu _ _ = false›] at q5; cases q5))]
  exact Zk (v := .bool false) rfl rfl rfl (by kernel_rfl) rfl
  refine Zn (vx := Zal r.item) (vy := Zal (⟨0, (⟨0, 0, 0, ⟨#[]⟩, (⟨(⟨0, 0, 0, dz, 0⟩ : Head), 0, dz⟩ : Signed), (⟨0, 0, 0, 0, dz⟩ : Claim)⟩ : Entry)⟩ : Item)) rfl rfl (.bool false) rfl rfl (Eq.trans (Zde r.item (⟨0, (⟨0, 0, 0, ⟨#[]⟩, (⟨(⟨0, 0, 0, dz, 0⟩ : Head), 0, dz⟩ : Signed), (⟨0, 0, 0, 0, dz⟩ : Claim)⟩ : Entry)⟩ : Item)) (by rw [h1] <;> rfl)) ?_
  refine Zb (.bool false) (Za (Za (Za (Za (Zg (.bool false) (Zc (.bool false) (Zd (Ze (Zi (Zi (Zm (Zf (b := 1) (o := 0) (n := 0) (o' := 0) (Zl (p := pt 1 0) (v := Iv r.kind) (Zd (Ze (Zav (Zi (Zm ?_))))))))))))))))))
  by_cases h40 : r.kind = 1
  refine Zn (vx := Iv r.kind) (vy := Iv 1) rfl rfl (.bool true) rfl rfl (Zaj (by omega)) ?_
  refine Zc (.bool true) (Zd (Ze (Z4 rfl (Zi (Zm (Zf (b := 1) (o := 0) (n := 1) (o' := 1) (Zl (p := pt 1 1) (v := Iv r.epoch) ?_)))))))
  by_cases h41 : 1 ≤ r.epoch
  by_cases h42 : r.epoch ≤ 900000000
  refine Zw ((Zam (G := G) r.epoch 1 900000000).res (congrArg Value.bool (Zak (by omega) (by omega)))) (vals := [Iv r.epoch, Iv 1, Iv 900000000]) (res' := .bool true) rfl rfl rfl rfl rfl rfl ?_
  refine Zb (.bool true) (Zf (b := 1) (o := 0) (n := 2) (o' := 2) (Zl (p := pt 1 2) (v := Iv r.from_) ?_))
  by_cases h43 : r.from_ = 0
  refine Zn (vx := Iv r.from_) (vy := Iv 0) rfl rfl (.bool true) rfl rfl (Zaj (by omega)) ?_
  refine Zg (.bool true) (Zb (.bool true) (Zb (.bool false) (Zg (.bool false) (Zb (.bool false) (Za (Za (Za (Za (Zg (.bool false) (Zc (.bool false) (Zd (Ze (Zs (Zy (Zv (Zq ?_))))))))))))))))
  rw [show decide (Zaw r) = false from decide_eq_false (fun q => by rcases q with ⟨q1, q2, q3, q4, q5, q6⟩ | ⟨q1, q2, q3, q4, q5, q6⟩ | ⟨q1, q2, q3, q4, q5, q6⟩ | ⟨q1, q2, q3, q4, q5, q6⟩ <;> first | omega | (have := q4.1; have := q4.2.1; omega) | exact Z8 (by omega) q4.2.2 | exact Z6 (by omega) q6 | exact Z3 (by omega) q5 | exact absurd q4 (of_decide_eq_false (by assumption)) | exact absurd q5 (of_decide_eq_false (by assumption)) | exact absurd q6 (of_decide_eq_false (by assumption)) | (rw [‹Z0 _ _ = false›] at q4; cases q4) | (rw [Zt, ‹Z0 _ _ = false›] at q4; cases q4) | (rw [‹Zu _ _ = false›] at q5; cases q5) | (rw [Zp, ‹Zu _ _ = false›] at q5; cases q5))]
  exact Zk (v := .bool false) rfl rfl rfl (by kernel_rfl) rfl
  refine Zn (vx := Iv r.from_) (vy := Iv 0) rfl rfl (.bool false) rfl rfl (Zaq (by omega)) ?_
  refine Zg (.bool false) (Zb (.bool false) (Za (Zg (.bool false) (Zb (.bool false) (Za (Za (Za (Za (Zg (.bool false) (Zc (.bool false) (Zd (Ze (Zs (Zy (Zv (Zq ?_))))))))))))))))
  rw [show decide (Zaw r) = false from decide_eq_false (fun q => by rcases q with ⟨q1, q2, q3, q4, q5, q6⟩ | ⟨q1, q2, q3, q4, q5, q6⟩ | ⟨q1, q2, q3, q4, q5, q6⟩ | ⟨q1, q2, q3, q4, q5, q6⟩ <;> first | omega | (have := q4.1; have := q4.2.1; omega) | exact Z8 (by omega) q4.2.2 | exact Z6 (by omega) q6 | exact Z3 (by omega) q5 | exact absurd q4 (of_decide_eq_false (by assumption)) | exact absurd q5 (of_decide_eq_false (by assumption)) | exact absurd q6 (of_decide_eq_false (by assumption)) | (rw [‹Z0 _ _ = false›] at q4; cases q4) | (rw [Zt, ‹Z0 _ _ = false›] at q4; cases q4) | (rw [‹Zu _ _ = false›] at q5; cases q5) | (rw [Zp, ‹Zu _ _ = false›] at q5; cases q5))]
  exact Zk (v := .bool false) rfl rfl rfl (by kernel_rfl) rfl
  refine Zw ((Zam (G := G) r.epoch 1 900000000).res (congrArg Value.bool (Z2 (by omega)))) (vals := [Iv r.epoch, Iv 1, Iv 900000000]) (res' := .bool false) rfl rfl rfl rfl rfl rfl ?_
  refine Zb (.bool false) (Za (Za (Za (Zg (.bool false) (Zb (.bool false) (Za (Zg (.bool false) (Zb (.bool false) (Za (Za (Za (Za (Zg (.bool false) (Zc (.bool false) (Zd (Ze (Zs (Zy (Zv (Zq ?_))))))))))))))))))))
  rw [show decide (Zaw r) = false from decide_eq_false (fun q => by rcases q with ⟨q1, q2, q3, q4, q5, q6⟩ | ⟨q1, q2, q3, q4, q5, q6⟩ | ⟨q1, q2, q3, q4, q5, q6⟩ | ⟨q1, q2, q3, q4, q5, q6⟩ <;> first | omega | (have := q4.1; have := q4.2.1; omega) | exact Z8 (by omega) q4.2.2 | exact Z6 (by omega) q6 | exact Z3 (by omega) q5 | exact absurd q4 (of_decide_eq_false (by assumption)) | exact absurd q5 (of_decide_eq_false (by assumption)) | exact absurd q6 (of_decide_eq_false (by assumption)) | (rw [‹Z0 _ _ = false›] at q4; cases q4) | (rw [Zt, ‹Z0 _ _ = false›] at q4; cases q4) | (rw [‹Zu _ _ = false›] at q5; cases q5) | (rw [Zp, ‹Zu _ _ = false›] at q5; cases q5))]
  exact Zk (v := .bool false) rfl rfl rfl (by kernel_rfl) rfl
  refine Zw ((Zam (G := G) r.epoch 1 900000000).res (congrArg Value.bool (Z2 (by omega)))) (vals := [Iv r.epoch, Iv 1, Iv 900000000]) (res' := .bool false) rfl rfl rfl rfl rfl rfl ?_
  refine Zb (.bool false) (Za (Za (Za (Zg (.bool false) (Zb (.bool false) (Za (Zg (.bool false) (Zb (.bool false) (Za (Za (Za (Za (Zg (.bool false) (Zc (.bool false) (Zd (Ze (Zs (Zy (Zv (Zq ?_))))))))))))))))))))
  rw [show decide (Zaw r) = false from decide_eq_false (fun q => by rcases q with ⟨q1, q2, q3, q4, q5, q6⟩ | ⟨q1, q2, q3, q4, q5, q6⟩ | ⟨q1, q2, q3, q4, q5, q6⟩ | ⟨q1, q2, q3, q4, q5, q6⟩ <;> first | omega | (have := q4.1; have := q4.2.1; omega) | exact Z8 (by omega) q4.2.2 | exact Z6 (by omega) q6 | exact Z3 (by omega) q5 | exact absurd q4 (of_decide_eq_false (by assumption)) | exact absurd q5 (of_decide_eq_false (by assumption)) | exact absurd q6 (of_decide_eq_false (by assumption)) | (rw [‹Z0 _ _ = false›] at q4; cases q4) | (rw [Zt, ‹Z0 _ _ = false›] at q4; cases q4) | (rw [‹Zu _ _ = false›] at q5; cases q5) | (rw [Zp, ‹Zu _ _ = false›] at q5; cases q5))]
  exact Zk (v := .bool false) rfl rfl rfl (by kernel_rfl) rfl
  refine Zn (vx := Iv r.kind) (vy := Iv 1) rfl rfl (.bool false) rfl rfl (Zaq (by omega)) ?_
  refine Zc (.bool false) (Zd (Ze (Zz rfl (Zi (Zm ?_)))))
  by_cases h44 : r.kind = 2
  refine Zn (vx := Iv r.kind) (vy := Iv 2) rfl rfl (.bool true) rfl rfl (Zaj (by omega)) ?_
  refine Zc (.bool true) (Zd (Ze (Z4 rfl (Zi (Zm (Zf (b := 1) (o := 0) (n := 1) (o' := 1) (Zl (p := pt 1 1) (v := Iv r.epoch) ?_)))))))
  by_cases h45 : r.epoch = 0
  refine Zn (vx := Iv r.epoch) (vy := Iv 0) rfl rfl (.bool true) rfl rfl (Zaj (by omega)) ?_
  refine Zb (.bool true) (Zf (b := 1) (o := 0) (n := 2) (o' := 2) (Zl (p := pt 1 2) (v := Iv r.from_) ?_))
  by_cases h46 : r.from_ = 0
  refine Zn (vx := Iv r.from_) (vy := Iv 0) rfl rfl (.bool true) rfl rfl (Zaj (by omega)) ?_
  refine Zg (.bool true) (Zb (.bool true) (Zf (b := 1) (o := 0) (n := 3) (o' := 3) (Zl (p := pt 1 3) (v := Zal r.item) ?_)))
  refine Zw (Zfx (G := G) r.item) (vals := [Zal r.item]) (res' := .bool (decide (Zbb r.item))) rfl rfl rfl rfl rfl rfl ?_
  refine Zg (.bool (decide (Zbb r.item))) (Zb (.bool (decide (Zbb r.item))) ?_)
  rcases Bool.eq_false_or_eq_true (decide (Zbb r.item)) with h47 | h47
  refine Zas (b := 1) (o := 0) (n := 113) (o' := 113) (by exact congrArg (fun b => some (b == true)) h47) rfl rfl rfl rfl ?_
  refine Zba (p := pt 1 113) (v := slv 0 0 p q) (by exact congrArg (fun b => some (b == true)) h47) rfl rfl (by kernel_rfl) ?_
  refine Zov (p := slv 0 0 p q) (v := Iv (p : Nat)) (by exact congrArg (fun b => some (b == true)) h47) rfl rfl rfl ?_
  by_cases h48 : (p : Nat) = 0
  refine Zn (vx := Iv (p : Nat)) (vy := Iv 0) (by exact congrArg (fun b => some (b == true)) h47) rfl (.bool true) rfl rfl (Zaj (by omega)) ?_
  refine Zcw rfl rfl (.bool true) (by show some (if _ then _ else _) = _; rw [h47] <;> rfl) ?_
  refine Zb (.bool true) (Zf (b := 1) (o := 0) (n := 114) (o' := 114) (Zl (p := pt 1 114) (v := Zx r.claim) ?_))
  refine Za0 (vs := []) (v := Zx (⟨0, 0, 0, 0, dz⟩ : Claim)) rfl rfl rfl (by kernel_rfl) ?_
  rcases Bool.eq_false_or_eq_true (Zu r.claim (⟨0, 0, 0, 0, dz⟩ : Claim)) with h49 | h49
  refine Zn (vx := Zx r.claim) (vy := Zx (⟨0, 0, 0, 0, dz⟩ : Claim)) rfl rfl (.bool true) rfl rfl (Eq.trans (Zb8 r.claim (⟨0, 0, 0, 0, dz⟩ : Claim)) (by rw [h49] <;> rfl)) ?_
  refine Zg (.bool true) (Zc (.bool true) (Zd (Ze (Zs (Zy (Zv (Zq ?_)))))))
  rw [show decide (Zaw r) = true from decide_eq_true (by first | exact .inl ⟨by omega, by omega, by omega, (by first | assumption | exact Zan _ | (rw [Zt]; assumption)), (by first | assumption | exact Zag _ | (rw [Zp]; assumption)), by omega⟩ | exact .inr (.inl ⟨by omega, by omega, by omega, (by first | exact of_decide_eq_true (by assumption) | exact ⟨by omega, by omega, Zeo (by omega)⟩), (by first | assumption | exact Zag _ | (rw [Zp]; assumption)), by omega⟩) | exact .inr (.inr (.inl ⟨by omega, by omega, by omega, (by first | assumption | exact Zan _ | (rw [Zt]; assumption)), (by first | assumption | exact Zag _ | (rw [Zp]; assumption)), (by first | exact of_decide_eq_true (by assumption) | exact Za5 (by omega))⟩)) | exact .inr (.inr (.inr ⟨by omega, by omega, by omega, (by first | assumption | exact Zan _ | (rw [Zt]; assumption)), (by first | exact of_decide_eq_true (by assumption) | exact Zed (by omega)), by omega⟩)))]
  exact Zk (v := .bool true) rfl rfl rfl (by kernel_rfl) rfl
  refine Zn (vx := Zx r.claim) (vy := Zx (⟨0, 0, 0, 0, dz⟩ : Claim)) rfl rfl (.bool false) rfl rfl (Eq.trans (Zb8 r.claim (⟨0, 0, 0, 0, dz⟩ : Claim)) (by rw [h49] <;> rfl)) ?_
  refine Zg (.bool false) (Zc (.bool false) (Zd (Ze (Zs (Zy (Zv (Zq ?_)))))))
  rw [show decide (Zaw r) = false from decide_eq_false (fun q => by rcases q with ⟨q1, q2, q3, q4, q5, q6⟩ | ⟨q1, q2, q3, q4, q5, q6⟩ | ⟨q1, q2, q3, q4, q5, q6⟩ | ⟨q1, q2, q3, q4, q5, q6⟩ <;> first | omega | (have := q4.1; have := q4.2.1; omega) | exact Z8 (by omega) q4.2.2 | exact Z6 (by omega) q6 | exact Z3 (by omega) q5 | exact absurd q4 (of_decide_eq_false (by assumption)) | exact absurd q5 (of_decide_eq_false (by assumption)) | exact absurd q6 (of_decide_eq_false (by assumption)) | (rw [‹Z0 _ _ = false›] at q4; cases q4) | (rw [Zt, ‹Z0 _ _ = false›] at q4; cases q4) | (rw [‹Zu _ _ = false›] at q5; cases q5) | (rw [Zp, ‹Zu _ _ = false›] at q5; cases q5))]
  exact Zk (v := .bool false) rfl rfl rfl (by kernel_rfl) rfl
  refine Zn (vx := Iv (p : Nat)) (vy := Iv 0) (by exact congrArg (fun b => some (b == true)) h47) rfl (.bool false) rfl rfl (Zaq (by omega)) ?_
  refine Zcw rfl rfl (.bool false) (by show some (if _ then _ else _) = _; rw [h47] <;> rfl) ?_
  refine Zb (.bool false) (Za (Za (Za (Za (Zg (.bool false) (Zc (.bool false) (Zd (Ze (Zs (Zy (Zv (Zq ?_))))))))))))
  rw [show decide (Zaw r) = false from decide_eq_false (fun q => by rcases q with ⟨q1, q2, q3, q4, q5, q6⟩ | ⟨q1, q2, q3, q4, q5, q6⟩ | ⟨q1, q2, q3, q4, q5, q6⟩ | ⟨q1, q2, q3, q4, q5, q6⟩ <;> first | omega | (have := q4.1; have := q4.2.1; omega) | exact Z8 (by omega) q4.2.2 | exact Z6 (by omega) q6 | exact Z3 (by omega) q5 | exact absurd q4 (of_decide_eq_false (by assumption)) | exact absurd q5 (of_decide_eq_false (by assumption)) | exact absurd q6 (of_decide_eq_false (by assumption)) | (rw [‹Z0 _ _ = false›] at q4; cases q4) | (rw [Zt, ‹Z0 _ _ = false›] at q4; cases q4) | (rw [‹Zu _ _ = false›] at q5; cases q5) | (rw [Zp, ‹Zu _ _ = false›] at q5; cases q5))]
  exact Zk (v := .bool false) rfl rfl rfl (by kernel_rfl) rfl
  refine Zb1 (by exact congrArg (fun b => some (b == true)) h47) rfl ?_
  refine Zb1 (by exact congrArg (fun b => some (b == true)) h47) rfl ?_
  refine Zb1 (by exact congrArg (fun b => some (b == true)) h47) rfl ?_
  refine Zb1 (by exact congrArg (fun b => some (b == true)) h47) rfl ?_
  refine Zcw rfl rfl (.bool false) (by show some (if _ then _ else _) = _; rw [h47] <;> rfl) ?_
  refine Zb (.bool false) (Za (Za (Za (Za (Zg (.bool false) (Zc (.bool false) (Zd (Ze (Zs (Zy (Zv (Zq ?_))))))))))))
  rw [show decide (Zaw r) = false from decide_eq_false (fun q => by rcases q with ⟨q1, q2, q3, q4, q5, q6⟩ | ⟨q1, q2, q3, q4, q5, q6⟩ | ⟨q1, q2, q3, q4, q5, q6⟩ | ⟨q1, q2, q3, q4, q5, q6⟩ <;> first | omega | (have := q4.1; have := q4.2.1; omega) | exact Z8 (by omega) q4.2.2 | exact Z6 (by omega) q6 | exact Z3 (by omega) q5 | exact absurd q4 (of_decide_eq_false (by assumption)) | exact absurd q5 (of_decide_eq_false (by assumption)) | exact absurd q6 (of_decide_eq_false (by assumption)) | (rw [‹Z0 _ _ = false›] at q4; cases q4) | (rw [Zt, ‹Z0 _ _ = false›] at q4; cases q4) | (rw [‹Zu _ _ = false›] at q5; cases q5) | (rw [Zp, ‹Zu _ _ = false›] at q5; cases q5))]
  exact Zk (v := .bool false) rfl rfl rfl (by kernel_rfl) rfl
  refine Zn (vx := Iv r.from_) (vy := Iv 0) rfl rfl (.bool false) rfl rfl (Zaq (by omega)) ?_
  refine Zg (.bool false) (Zb (.bool false) (Za (Za (Za (Zg (.bool false) (Zb (.bool false) (Za (Za (Za (Za (Zg (.bool false) (Zb (.bool false) (Za (Za (Za (Za (Zg (.bool false) (Zc (.bool false) (Zd (Ze (Zs (Zy (Zv (Zq ?_))))))))))))))))))))))))
  rw [show decide (Zaw r) = false from decide_eq_false (fun q => by rcases q with ⟨q1, q2, q3, q4, q5, q6⟩ | ⟨q1, q2, q3, q4, q5, q6⟩ | ⟨q1, q2, q3, q4, q5, q6⟩ | ⟨q1, q2, q3, q4, q5, q6⟩ <;> first | omega | (have := q4.1; have := q4.2.1; omega) | exact Z8 (by omega) q4.2.2 | exact Z6 (by omega) q6 | exact Z3 (by omega) q5 | exact absurd q4 (of_decide_eq_false (by assumption)) | exact absurd q5 (of_decide_eq_false (by assumption)) | exact absurd q6 (of_decide_eq_false (by assumption)) | (rw [‹Z0 _ _ = false›] at q4; cases q4) | (rw [Zt, ‹Z0 _ _ = false›] at q4; cases q4) | (rw [‹Zu _ _ = false›] at q5; cases q5) | (rw [Zp, ‹Zu _ _ = false›] at q5; cases q5))]
  exact Zk (v := .bool false) rfl rfl rfl (by kernel_rfl) rfl
  refine Zn (vx := Iv r.epoch) (vy := Iv 0) rfl rfl (.bool false) rfl rfl (Zaq (by omega)) ?_
  refine Zb (.bool false) (Za (Za (Za (Zg (.bool false) (Zb (.bool false) (Za (Za (Za (Zg (.bool false) (Zb (.bool false) (Za (Za (Za (Za (Zg (.bool false) (Zb (.bool false) (Za (Za (Za (Za (Zg (.bool false) ?_)))))))))))))))))))))
  refine Zc (.bool false) (Zd (Ze (Zs (Zy (Zv (Zq ?_))))))
  rw [show decide (Zaw r) = false from decide_eq_false (fun q => by rcases q with ⟨q1, q2, q3, q4, q5, q6⟩ | ⟨q1, q2, q3, q4, q5, q6⟩ | ⟨q1, q2, q3, q4, q5, q6⟩ | ⟨q1, q2, q3, q4, q5, q6⟩ <;> first | omega | (have := q4.1; have := q4.2.1; omega) | exact Z8 (by omega) q4.2.2 | exact Z6 (by omega) q6 | exact Z3 (by omega) q5 | exact absurd q4 (of_decide_eq_false (by assumption)) | exact absurd q5 (of_decide_eq_false (by assumption)) | exact absurd q6 (of_decide_eq_false (by assumption)) | (rw [‹Z0 _ _ = false›] at q4; cases q4) | (rw [Zt, ‹Z0 _ _ = false›] at q4; cases q4) | (rw [‹Zu _ _ = false›] at q5; cases q5) | (rw [Zp, ‹Zu _ _ = false›] at q5; cases q5))]
  exact Zk (v := .bool false) rfl rfl rfl (by kernel_rfl) rfl
  refine Zn (vx := Iv r.kind) (vy := Iv 2) rfl rfl (.bool false) rfl rfl (Zaq (by omega)) ?_
  refine Zc (.bool false) (Zd (Ze (Zz rfl (Zi (Zm ?_)))))
  by_cases h50 : r.kind = 3
  refine Zn (vx := Iv r.kind) (vy := Iv 3) rfl rfl (.bool true) rfl rfl (Zaj (by omega)) ?_
  refine Zc (.bool true) (Zd (Ze (Z4 rfl (Zi (Zm (Zf (b := 1) (o := 0) (n := 1) (o' := 1) (Zl (p := pt 1 1) (v := Iv r.epoch) ?_)))))))
  by_cases h51 : 1 ≤ r.epoch
  by_cases h52 : r.epoch ≤ 900000000
  refine Zw ((Zam (G := G) r.epoch 1 900000000).res (congrArg Value.bool (Zak (by omega) (by omega)))) (vals := [Iv r.epoch, Iv 1, Iv 900000000]) (res' := .bool true) rfl rfl rfl rfl rfl rfl ?_
  refine Zb (.bool true) (Zf (b := 1) (o := 0) (n := 2) (o' := 2) (Zl (p := pt 1 2) (v := Iv r.from_) ?_))
  by_cases h53 : 0 ≤ r.from_
  by_cases h54 : r.from_ ≤ 2000
  refine Zw ((Zam (G := G) r.from_ 0 2000).res (congrArg Value.bool (Zak (by omega) (by omega)))) (vals := [Iv r.from_, Iv 0, Iv 2000]) (res' := .bool true) rfl rfl rfl rfl rfl rfl ?_
  refine Zg (.bool true) (Zb (.bool true) (Zb (.bool false) (Zg (.bool false) (Zb (.bool false) (Za (Za (Za (Zg (.bool false) (Zc (.bool false) (Zd (Ze (Zs (Zy (Zv (Zq ?_)))))))))))))))
  rw [show decide (Zaw r) = false from decide_eq_false (fun q => by rcases q with ⟨q1, q2, q3, q4, q5, q6⟩ | ⟨q1, q2, q3, q4, q5, q6⟩ | ⟨q1, q2, q3, q4, q5, q6⟩ | ⟨q1, q2, q3, q4, q5, q6⟩ <;> first | omega | (have := q4.1; have := q4.2.1; omega) | exact Z8 (by omega) q4.2.2 | exact Z6 (by omega) q6 | exact Z3 (by omega) q5 | exact absurd q4 (of_decide_eq_false (by assumption)) | exact absurd q5 (of_decide_eq_false (by assumption)) | exact absurd q6 (of_decide_eq_false (by assumption)) | (rw [‹Z0 _ _ = false›] at q4; cases q4) | (rw [Zt, ‹Z0 _ _ = false›] at q4; cases q4) | (rw [‹Zu _ _ = false›] at q5; cases q5) | (rw [Zp, ‹Zu _ _ = false›] at q5; cases q5))]
  exact Zk (v := .bool false) rfl rfl rfl (by kernel_rfl) rfl
  refine Zw ((Zam (G := G) r.from_ 0 2000).res (congrArg Value.bool (Z2 (by omega)))) (vals := [Iv r.from_, Iv 0, Iv 2000]) (res' := .bool false) rfl rfl rfl rfl rfl rfl ?_
  refine Zg (.bool false) (Zb (.bool false) (Za (Zg (.bool false) (Zb (.bool false) (Za (Za (Za (Zg (.bool false) (Zc (.bool false) (Zd (Ze (Zs (Zy (Zv (Zq ?_)))))))))))))))
  rw [show decide (Zaw r) = false from decide_eq_false (fun q => by rcases q with ⟨q1, q2, q3, q4, q5, q6⟩ | ⟨q1, q2, q3, q4, q5, q6⟩ | ⟨q1, q2, q3, q4, q5, q6⟩ | ⟨q1, q2, q3, q4, q5, q6⟩ <;> first | omega | (have := q4.1; have := q4.2.1; omega) | exact Z8 (by omega) q4.2.2 | exact Z6 (by omega) q6 | exact Z3 (by omega) q5 | exact absurd q4 (of_decide_eq_false (by assumption)) | exact absurd q5 (of_decide_eq_false (by assumption)) | exact absurd q6 (of_decide_eq_false (by assumption)) | (rw [‹Z0 _ _ = false›] at q4; cases q4) | (rw [Zt, ‹Z0 _ _ = false›] at q4; cases q4) | (rw [‹Zu _ _ = false›] at q5; cases q5) | (rw [Zp, ‹Zu _ _ = false›] at q5; cases q5))]
  exact Zk (v := .bool false) rfl rfl rfl (by kernel_rfl) rfl
  refine Zw ((Zam (G := G) r.from_ 0 2000).res (congrArg Value.bool (Z2 (by omega)))) (vals := [Iv r.from_, Iv 0, Iv 2000]) (res' := .bool false) rfl rfl rfl rfl rfl rfl ?_
  refine Zg (.bool false) (Zb (.bool false) (Za (Zg (.bool false) (Zb (.bool false) (Za (Za (Za (Zg (.bool false) (Zc (.bool false) (Zd (Ze (Zs (Zy (Zv (Zq ?_)))))))))))))))
  rw [show decide (Zaw r) = false from decide_eq_false (fun q => by rcases q with ⟨q1, q2, q3, q4, q5, q6⟩ | ⟨q1, q2, q3, q4, q5, q6⟩ | ⟨q1, q2, q3, q4, q5, q6⟩ | ⟨q1, q2, q3, q4, q5, q6⟩ <;> first | omega | (have := q4.1; have := q4.2.1; omega) | exact Z8 (by omega) q4.2.2 | exact Z6 (by omega) q6 | exact Z3 (by omega) q5 | exact absurd q4 (of_decide_eq_false (by assumption)) | exact absurd q5 (of_decide_eq_false (by assumption)) | exact absurd q6 (of_decide_eq_false (by assumption)) | (rw [‹Z0 _ _ = false›] at q4; cases q4) | (rw [Zt, ‹Z0 _ _ = false›] at q4; cases q4) | (rw [‹Zu _ _ = false›] at q5; cases q5) | (rw [Zp, ‹Zu _ _ = false›] at q5; cases q5))]
  exact Zk (v := .bool false) rfl rfl rfl (by kernel_rfl) rfl
  refine Zw ((Zam (G := G) r.epoch 1 900000000).res (congrArg Value.bool (Z2 (by omega)))) (vals := [Iv r.epoch, Iv 1, Iv 900000000]) (res' := .bool false) rfl rfl rfl rfl rfl rfl ?_
  refine Zb (.bool false) (Za (Za (Za (Zg (.bool false) (Zb (.bool false) (Za (Zg (.bool false) (Zb (.bool false) (Za (Za (Za (Zg (.bool false) (Zc (.bool false) (Zd (Ze (Zs (Zy (Zv (Zq ?_)))))))))))))))))))
  rw [show decide (Zaw r) = false from decide_eq_false (fun q => by rcases q with ⟨q1, q2, q3, q4, q5, q6⟩ | ⟨q1, q2, q3, q4, q5, q6⟩ | ⟨q1, q2, q3, q4, q5, q6⟩ | ⟨q1, q2, q3, q4, q5, q6⟩ <;> first | omega | (have := q4.1; have := q4.2.1; omega) | exact Z8 (by omega) q4.2.2 | exact Z6 (by omega) q6 | exact Z3 (by omega) q5 | exact absurd q4 (of_decide_eq_false (by assumption)) | exact absurd q5 (of_decide_eq_false (by assumption)) | exact absurd q6 (of_decide_eq_false (by assumption)) | (rw [‹Z0 _ _ = false›] at q4; cases q4) | (rw [Zt, ‹Z0 _ _ = false›] at q4; cases q4) | (rw [‹Zu _ _ = false›] at q5; cases q5) | (rw [Zp, ‹Zu _ _ = false›] at q5; cases q5))]
  exact Zk (v := .bool false) rfl rfl rfl (by kernel_rfl) rfl
  refine Zw ((Zam (G := G) r.epoch 1 900000000).res (congrArg Value.bool (Z2 (by omega)))) (vals := [Iv r.epoch, Iv 1, Iv 900000000]) (res' := .bool false) rfl rfl rfl rfl rfl rfl ?_
  refine Zb (.bool false) (Za (Za (Za (Zg (.bool false) (Zb (.bool false) (Za (Zg (.bool false) (Zb (.bool false) (Za (Za (Za (Zg (.bool false) (Zc (.bool false) (Zd (Ze (Zs (Zy (Zv (Zq ?_)))))))))))))))))))
  rw [show decide (Zaw r) = false from decide_eq_false (fun q => by rcases q with ⟨q1, q2, q3, q4, q5, q6⟩ | ⟨q1, q2, q3, q4, q5, q6⟩ | ⟨q1, q2, q3, q4, q5, q6⟩ | ⟨q1, q2, q3, q4, q5, q6⟩ <;> first | omega | (have := q4.1; have := q4.2.1; omega) | exact Z8 (by omega) q4.2.2 | exact Z6 (by omega) q6 | exact Z3 (by omega) q5 | exact absurd q4 (of_decide_eq_false (by assumption)) | exact absurd q5 (of_decide_eq_false (by assumption)) | exact absurd q6 (of_decide_eq_false (by assumption)) | (rw [‹Z0 _ _ = false›] at q4; cases q4) | (rw [Zt, ‹Z0 _ _ = false›] at q4; cases q4) | (rw [‹Zu _ _ = false›] at q5; cases q5) | (rw [Zp, ‹Zu _ _ = false›] at q5; cases q5))]
  exact Zk (v := .bool false) rfl rfl rfl (by kernel_rfl) rfl
  refine Zn (vx := Iv r.kind) (vy := Iv 3) rfl rfl (.bool false) rfl rfl (Zaq (by omega)) ?_
  refine Zc (.bool false) (Zd (Ze (Zz rfl (Zi (Zm ?_)))))
  by_cases h55 : r.kind = 4
  refine Zn (vx := Iv r.kind) (vy := Iv 4) rfl rfl (.bool true) rfl rfl (Zaj (by omega)) ?_
  refine Zc (.bool true) (Zd (Ze (Z4 rfl (Zi (Zm (Zf (b := 1) (o := 0) (n := 1) (o' := 1) (Zl (p := pt 1 1) (v := Iv r.epoch) ?_)))))))
  by_cases h56 : r.epoch = 0
  refine Zn (vx := Iv r.epoch) (vy := Iv 0) rfl rfl (.bool true) rfl rfl (Zaj (by omega)) ?_
  refine Zb (.bool true) (Zf (b := 1) (o := 0) (n := 2) (o' := 2) (Zl (p := pt 1 2) (v := Iv r.from_) ?_))
  by_cases h57 : r.from_ = 0
  refine Zn (vx := Iv r.from_) (vy := Iv 0) rfl rfl (.bool true) rfl rfl (Zaj (by omega)) ?_
  refine Zg (.bool true) (Zb (.bool true) (Zf (b := 1) (o := 0) (n := 3) (o' := 3) (Zl (p := pt 1 3) (v := Zal r.item) ?_)))
  refine Za0 (vs := []) (v := Zal (⟨0, (⟨0, 0, 0, ⟨#[]⟩, (⟨(⟨0, 0, 0, dz, 0⟩ : Head), 0, dz⟩ : Signed), (⟨0, 0, 0, 0, dz⟩ : Claim)⟩ : Entry)⟩ : Item)) rfl rfl rfl (by kernel_rfl) ?_
  refine Zn (vx := Zal r.item) (vy := Zal (⟨0, (⟨0, 0, 0, ⟨#[]⟩, (⟨(⟨0, 0, 0, dz, 0⟩ : Head), 0, dz⟩ : Signed), (⟨0, 0, 0, 0, dz⟩ : Claim)⟩ : Entry)⟩ : Item)) rfl rfl (.bool false) rfl rfl (Eq.trans (Zde r.item (⟨0, (⟨0, 0, 0, ⟨#[]⟩, (⟨(⟨0, 0, 0, dz, 0⟩ : Head), 0, dz⟩ : Signed), (⟨0, 0, 0, 0, dz⟩ : Claim)⟩ : Entry)⟩ : Item)) (by rw [h1] <;> rfl)) ?_
  refine Zg (.bool false) (Zb (.bool false) (Za (Za (Za (Za (Zg (.bool false) (Zb (.bool false) (Za (Za (Za (Zg (.bool false) (Zc (.bool false) (Zd (Ze (Zs (Zy (Zv (Zq ?_))))))))))))))))))
  rw [show decide (Zaw r) = false from decide_eq_false (fun q => by rcases q with ⟨q1, q2, q3, q4, q5, q6⟩ | ⟨q1, q2, q3, q4, q5, q6⟩ | ⟨q1, q2, q3, q4, q5, q6⟩ | ⟨q1, q2, q3, q4, q5, q6⟩ <;> first | omega | (have := q4.1; have := q4.2.1; omega) | exact Z8 (by omega) q4.2.2 | exact Z6 (by omega) q6 | exact Z3 (by omega) q5 | exact absurd q4 (of_decide_eq_false (by assumption)) | exact absurd q5 (of_decide_eq_false (by assumption)) | exact absurd q6 (of_decide_eq_false (by assumption)) | (rw [‹Z0 _ _ = false›] at q4; cases q4) | (rw [Zt, ‹Z0 _ _ = false›] at q4; cases q4) | (rw [‹Zu _ _ = false›] at q5; cases q5) | (rw [Zp, ‹Zu _ _ = false›] at q5; cases q5))]
  exact Zk (v := .bool false) rfl rfl rfl (by kernel_rfl) rfl
  refine Zn (vx := Iv r.from_) (vy := Iv 0) rfl rfl (.bool false) rfl rfl (Zaq (by omega)) ?_
  refine Zg (.bool false) (Zb (.bool false) (Za (Za (Za (Za (Zg (.bool false) (Zb (.bool false) (Za (Za (Za (Za (Zg (.bool false) (Zb (.bool false) (Za (Za (Za (Zg (.bool false) (Zc (.bool false) (Zd (Ze (Zs (Zy (Zv (Zq ?_))))))))))))))))))))))))
  rw [show decide (Zaw r) = false from decide_eq_false (fun q => by rcases q with ⟨q1, q2, q3, q4, q5, q6⟩ | ⟨q1, q2, q3, q4, q5, q6⟩ | ⟨q1, q2, q3, q4, q5, q6⟩ | ⟨q1, q2, q3, q4, q5, q6⟩ <;> first | omega | (have := q4.1; have := q4.2.1; omega) | exact Z8 (by omega) q4.2.2 | exact Z6 (by omega) q6 | exact Z3 (by omega) q5 | exact absurd q4 (of_decide_eq_false (by assumption)) | exact absurd q5 (of_decide_eq_false (by assumption)) | exact absurd q6 (of_decide_eq_false (by assumption)) | (rw [‹Z0 _ _ = false›] at q4; cases q4) | (rw [Zt, ‹Z0 _ _ = false›] at q4; cases q4) | (rw [‹Zu _ _ = false›] at q5; cases q5) | (rw [Zp, ‹Zu _ _ = false›] at q5; cases q5))]
  exact Zk (v := .bool false) rfl rfl rfl (by kernel_rfl) rfl
  refine Zn (vx := Iv r.epoch) (vy := Iv 0) rfl rfl (.bool false) rfl rfl (Zaq (by omega)) ?_
  refine Zb (.bool false) (Za (Za (Za (Zg (.bool false) (Zb (.bool false) (Za (Za (Za (Za (Zg (.bool false) (Zb (.bool false) (Za (Za (Za (Za (Zg (.bool false) (Zb (.bool false) (Za (Za (Za (Zg (.bool false) ?_)))))))))))))))))))))
  refine Zc (.bool false) (Zd (Ze (Zs (Zy (Zv (Zq ?_))))))
  rw [show decide (Zaw r) = false from decide_eq_false (fun q => by rcases q with ⟨q1, q2, q3, q4, q5, q6⟩ | ⟨q1, q2, q3, q4, q5, q6⟩ | ⟨q1, q2, q3, q4, q5, q6⟩ | ⟨q1, q2, q3, q4, q5, q6⟩ <;> first | omega | (have := q4.1; have := q4.2.1; omega) | exact Z8 (by omega) q4.2.2 | exact Z6 (by omega) q6 | exact Z3 (by omega) q5 | exact absurd q4 (of_decide_eq_false (by assumption)) | exact absurd q5 (of_decide_eq_false (by assumption)) | exact absurd q6 (of_decide_eq_false (by assumption)) | (rw [‹Z0 _ _ = false›] at q4; cases q4) | (rw [Zt, ‹Z0 _ _ = false›] at q4; cases q4) | (rw [‹Zu _ _ = false›] at q5; cases q5) | (rw [Zp, ‹Zu _ _ = false›] at q5; cases q5))]
  exact Zk (v := .bool false) rfl rfl rfl (by kernel_rfl) rfl
  refine Zn (vx := Iv r.kind) (vy := Iv 4) rfl rfl (.bool false) rfl rfl (Zaq (by omega)) ?_
  refine Zc (.bool false) (Zd (Ze (Zz rfl (Z9 (Z7 (Ze (Zi (Zm (Zc (.bool false) (Zd (Ze (Zs (Zq ?_)))))))))))))
  rw [show decide (Zaw r) = false from decide_eq_false (fun q => by rcases q with ⟨q1, q2, q3, q4, q5, q6⟩ | ⟨q1, q2, q3, q4, q5, q6⟩ | ⟨q1, q2, q3, q4, q5, q6⟩ | ⟨q1, q2, q3, q4, q5, q6⟩ <;> first | omega | (have := q4.1; have := q4.2.1; omega) | exact Z8 (by omega) q4.2.2 | exact Z6 (by omega) q6 | exact Z3 (by omega) q5 | exact absurd q4 (of_decide_eq_false (by assumption)) | exact absurd q5 (of_decide_eq_false (by assumption)) | exact absurd q6 (of_decide_eq_false (by assumption)) | (rw [‹Z0 _ _ = false›] at q4; cases q4) | (rw [Zt, ‹Z0 _ _ = false›] at q4; cases q4) | (rw [‹Zu _ _ = false›] at q5; cases q5) | (rw [Zp, ‹Zu _ _ = false›] at q5; cases q5))]
  exact Zk (v := .bool false) rfl rfl rfl (by kernel_rfl) rfl
theorem Zny (l : List Item) (n c : Nat) (hn : l.length = n) (hc : n ≤ c) (hb : n ≤ 1048576) : Zat Try.prog G 37 [slv 0 0 n c] [rwR Zj l] (slv 1 0 n n) [rwR Zj l, rwB Zj l] := by
  refine Zcg (fn := Try.f37) (nt := 8) rfl rfl rfl rfl ?_
  refine Za8 2 (H' := [rwR Zj l, hole, hole]) rfl ?_
  refine Zi (Zm (Zc (.slice none 0 0) (Zd (Ze (Zi ?_)))))
  refine Zn5 rfl rfl rfl rfl (fun hn0 => ?_) ?_
  · subst hn0
    obtain rfl : l = [] := List.eq_nil_of_length_eq_zero hn
    refine Zi (Zm (Zb (.slice none 0 0) ?_))
    refine Zn (vx := .slice none 0 0) (vy := .slice none 0 0) rfl rfl (.bool true) rfl rfl (by kernel_rfl) ?_
    refine Zd (Ze (Z4 rfl (Zi (Zm (Zc (.slice none 0 0) (Zd (Ze ?_)))))))
    refine Zbh (Zbz.nilTmp (i := 2) (b := 1) true 110 rfl (by decide) rfl) ?_
    refine Zs (Zv (Zq ?_))
    exact Zar [0, 1] (v := slv 1 0 0 0) rfl (by kernel_rfl) rfl rfl (by decide) (by simp [Zbr, rwB, rwR, Zj]) ⟨rfl, rfl, rfl, by first | omega | exact Nat.le_refl _ | exact Nat.zero_le _ | (dsimp only; omega), by first | omega | exact Nat.le_refl _ | exact Nat.zero_le _ | (dsimp only; omega)⟩
  refine Zz rfl (Z9 (Ze (Zi (Zm ?_))))
  refine Zw4 (v := slv 1 0 0 0) (blk := rwB Zj []) (nid := 1) (H' := [rwR Zj l, rwB Zj [], hole]) rfl rfl (by kernel_rfl) (by kernel_rfl) ?_
  refine Zb (slv 0 0 n c) ?_
  have hl1 : ([] ++ l).length = n := by have := hn; first | (rw [List.length_append]; omega) | (rw [List.length_append, List.length_take]; omega) | (simp; omega) | simp
  refine Zc1 (p := slv 1 0 0 0) (q := slv 0 0 n c) (v := slv 1 0 n n) (b := 1) (blk := rwB Zj ([] ++ l)) (H' := [rwR Zj l, rwB Zj ([] ++ l), hole]) rfl rfl rfl (.inl ⟨_, rfl⟩) rfl rfl (Zds Zj (by_ := 216) (k := n) (n' := n) (ms := l) (fun _ => rfl) rfl rfl (Zhu Zj rfl rfl (by have := hn; omega)) rfl rfl rfl (by omega) (by decide) (by omega)) rfl (by kernel_rfl) ?_
  refine Zc (slv 1 0 n n) (Zd (Ze (Zs (Zq ?_))))
  exact Zar [0, 1] (v := slv 1 0 n n) rfl (by kernel_rfl) rfl rfl (by decide) (by simp [Zbr, rwB, rwR, Zj]) ⟨rfl, rfl, rfl, by first | omega | exact Nat.le_refl _ | exact Nat.zero_le _ | (dsimp only; omega), by first | omega | exact Nat.le_refl _ | exact Nat.zero_le _ | (dsimp only; omega)⟩
theorem Zi3 (l : List Claim) (n c : Nat) (hn : l.length = n) (hc : n ≤ c) (hb : n ≤ 1048576) : Zat Try.prog G 38 [slv 0 0 n c] [rwR Zh l] (slv 1 0 n n) [rwR Zh l, rwB Zh l] := by
  refine Zcg (fn := Try.f38) (nt := 8) rfl rfl rfl rfl ?_
  refine Za8 2 (H' := [rwR Zh l, hole, hole]) rfl ?_
  refine Zi (Zm (Zc (.slice none 0 0) (Zd (Ze (Zi ?_)))))
  refine Zn5 rfl rfl rfl rfl (fun hn0 => ?_) ?_
  · subst hn0
    obtain rfl : l = [] := List.eq_nil_of_length_eq_zero hn
    refine Zi (Zm (Zb (.slice none 0 0) ?_))
    refine Zn (vx := .slice none 0 0) (vy := .slice none 0 0) rfl rfl (.bool true) rfl rfl (by kernel_rfl) ?_
    refine Zd (Ze (Z4 rfl (Zi (Zm (Zc (.slice none 0 0) (Zd (Ze ?_)))))))
    refine Zbh (Zbz.nilTmp (i := 2) (b := 1) true 36 rfl (by decide) rfl) ?_
    refine Zs (Zv (Zq ?_))
    exact Zar [0, 1] (v := slv 1 0 0 0) rfl (by kernel_rfl) rfl rfl (by decide) (by simp [Zbr, rwB, rwR, Zh]) ⟨rfl, rfl, rfl, by first | omega | exact Nat.le_refl _ | exact Nat.zero_le _ | (dsimp only; omega), by first | omega | exact Nat.le_refl _ | exact Nat.zero_le _ | (dsimp only; omega)⟩
  refine Zz rfl (Z9 (Ze (Zi (Zm ?_))))
  refine Zw4 (v := slv 1 0 0 0) (blk := rwB Zh []) (nid := 1) (H' := [rwR Zh l, rwB Zh [], hole]) rfl rfl (by kernel_rfl) (by kernel_rfl) ?_
  refine Zb (slv 0 0 n c) ?_
  have hl1 : ([] ++ l).length = n := by have := hn; first | (rw [List.length_append]; omega) | (rw [List.length_append, List.length_take]; omega) | (simp; omega) | simp
  refine Zc1 (p := slv 1 0 0 0) (q := slv 0 0 n c) (v := slv 1 0 n n) (b := 1) (blk := rwB Zh ([] ++ l)) (H' := [rwR Zh l, rwB Zh ([] ++ l), hole]) rfl rfl rfl (.inl ⟨_, rfl⟩) rfl rfl (Zds Zh (by_ := 64) (k := n) (n' := n) (ms := l) (fun _ => rfl) rfl rfl (Zhu Zh rfl rfl (by have := hn; omega)) rfl rfl rfl (by omega) (by decide) (by omega)) rfl (by kernel_rfl) ?_
  refine Zc (slv 1 0 n n) (Zd (Ze (Zs (Zq ?_))))
  exact Zar [0, 1] (v := slv 1 0 n n) rfl (by kernel_rfl) rfl rfl (by decide) (by simp [Zbr, rwB, rwR, Zh]) ⟨rfl, rfl, rfl, by first | omega | exact Nat.le_refl _ | exact Nat.zero_le _ | (dsimp only; omega), by first | omega | exact Nat.le_refl _ | exact Nat.zero_le _ | (dsimp only; omega)⟩
abbrev Y7 (r : Rec) (p : Nat) (q : Nat) : Blk := mxB 150 ([Iv r.kind, Iv r.epoch, Iv r.from_] ++ (Z1 r.item ++ ([slv 0 0 p q] ++ (Zr r.claim))))
abbrev Y8  : Blk := mxB 150 ([Iv 0, Iv 0, Iv 0] ++ (Z1 (⟨0, (⟨0, 0, 0, ⟨#[]⟩, (⟨(⟨0, 0, 0, dz, 0⟩ : Head), 0, dz⟩ : Signed), (⟨0, 0, 0, 0, dz⟩ : Claim)⟩ : Entry)⟩ : Item) ++ ([.slice none 0 0] ++ (Zr (⟨0, 0, 0, 0, dz⟩ : Claim)))))
abbrev Y9 (r : Rec) (p : Nat) : Blk := mxB 150 ([Iv r.kind, Iv r.epoch, Iv r.from_] ++ (Z1 r.item ++ ([slv 3 0 p p] ++ (Zr r.claim))))
theorem Zsx (r : Rec) (p q : Nat) (hp : r.items.length = p) (hq : p ≤ q) (hpb : p ≤ 1048576) : Zat Try.prog G 18 [mxV ([Iv r.kind, Iv r.epoch, Iv r.from_] ++ (Z1 r.item ++ ([slv 0 0 p q] ++ (Zr r.claim))))] [rwR Zj r.items] (mxV ([Iv r.kind, Iv r.epoch, Iv r.from_] ++ (Z1 r.item ++ ([slv 1 0 p p] ++ (Zr r.claim))))) [rwR Zj r.items, rwB Zj r.items] := by
  refine Zcg (fn := Try.f18) (nt := 8) rfl rfl rfl rfl ?_
  refine Za8 3 (H' := [rwR Zj r.items, hole, hole, hole]) rfl ?_
  refine Zi (Zm (Zbn (v := mxV ([Iv r.kind, Iv r.epoch, Iv r.from_] ++ (Z1 r.item ++ ([slv 0 0 p q] ++ (Zr r.claim))))) (b := mxB 150 ([Iv r.kind, Iv r.epoch, Iv r.from_] ++ (Z1 r.item ++ ([slv 0 0 p q] ++ (Zr r.claim))))) (nid := 1) (H' := [rwR Zj r.items, Y7 r p q, hole, hole]) (Zbf (b := mxB 150 ([Iv 0, Iv 0, Iv 0] ++ (Z1 (⟨0, (⟨0, 0, 0, ⟨#[]⟩, (⟨(⟨0, 0, 0, dz, 0⟩ : Head), 0, dz⟩ : Signed), (⟨0, 0, 0, 0, dz⟩ : Claim)⟩ : Entry)⟩ : Item) ++ ([.slice none 0 0] ++ (Zr (⟨0, 0, 0, 0, dz⟩ : Claim)))))) (nid := 2) (H' := [rwR Zj r.items, Y7 r p q, Y8, hole]) (Zd (Ze (Zi (Zm (Zf (b := 1) (o := 0) (n := 113) (o' := 113) (Zl (p := pt 1 113) (v := slv 0 0 p q) ?_)))))))))
  refine Zab (e := [some (0, 0)]) (nid := 3) (Zld (G := G) r.items p q hp (by omega) (by omega)) (vals := [slv 0 0 p q]) (v := slv 3 0 p p) (H' := [rwR Zj r.items, Y7 r p q, Y8, rwB Zj r.items]) rfl rfl rfl rfl rfl rfl rfl ⟨⟨⟨rfl, rfl, rfl, by first | omega | exact Nat.le_refl _, by first | omega | exact Nat.le_refl _⟩, trivial⟩, ⟨(Zaf rfl), trivial⟩, rfl, rfl, rfl⟩ (by kernel_rfl) (by kernel_rfl) ?_
  refine Zf (b := 1) (o := 0) (n := 113) (o' := 113) (Z5 (p := pt 1 113) (v := slv 3 0 p p) (b := 1) (blk := mxB 150 ([Iv r.kind, Iv r.epoch, Iv r.from_] ++ (Z1 r.item ++ ([slv 3 0 p p] ++ (Zr r.claim))))) (H' := [rwR Zj r.items, Y9 r p, Y8, rwB Zj r.items]) (Zd (Ze (Zi (Zm (Zl (p := pt 1 0) (v := mxV ([Iv r.kind, Iv r.epoch, Iv r.from_] ++ (Z1 r.item ++ ([slv 3 0 p p] ++ (Zr r.claim))))) (Z5 (p := pt 2 0) (v := mxV ([Iv r.kind, Iv r.epoch, Iv r.from_] ++ (Z1 r.item ++ ([slv 3 0 p p] ++ (Zr r.claim))))) (b := 2) (blk := mxB 150 ([Iv r.kind, Iv r.epoch, Iv r.from_] ++ (Z1 r.item ++ ([slv 3 0 p p] ++ (Zr r.claim))))) (H' := [rwR Zj r.items, Y9 r p, Y9 r p, rwB Zj r.items]) (Zd (Ze (Zs (Zq ?_)))))))))))
  exact Zar [0, 3] (v := mxV ([Iv r.kind, Iv r.epoch, Iv r.from_] ++ (Z1 r.item ++ ([slv 3 0 p p] ++ (Zr r.claim))))) rfl (by kernel_rfl) rfl rfl (by decide) (by simp [Zbr, rwB, rwR, Zj]) (Zah (by kernel_rfl) (Zac ⟨⟨rfl, rfl⟩, ⟨rfl, rfl⟩, ⟨rfl, rfl⟩, trivial⟩ (Zac (Zap (by kernel_rfl)) (Zac ⟨⟨rfl, rfl, rfl, by first | omega | exact Nat.le_refl _ | exact Nat.zero_le _ | (dsimp only; omega), by first | omega | exact Nat.le_refl _ | exact Nat.zero_le _ | (dsimp only; omega)⟩, trivial⟩ (Zap (by kernel_rfl))))))
abbrev Y10 (a : Rec) (p : Nat) (q : Nat) : Blk := mxB 150 ([Iv a.kind, Iv a.epoch, Iv a.from_] ++ (Z1 a.item ++ ([slv 0 0 p q] ++ (Zr a.claim))))
theorem Zrk (a : Rec) (p q : Nat) (hp : a.items.length = p) (hq : p ≤ q) (hpb : p ≤ 1048576) (b : Rec) (p' q' : Nat) (hp' : b.items.length = p') (hq' : p' ≤ q') (hpb' : p' ≤ 1048576) : Zat Try.prog G 21 [mxV ([Iv a.kind, Iv a.epoch, Iv a.from_] ++ (Z1 a.item ++ ([slv 0 0 p q] ++ (Zr a.claim)))), mxV ([Iv b.kind, Iv b.epoch, Iv b.from_] ++ (Z1 b.item ++ ([slv 1 0 p' q'] ++ (Zr b.claim))))] [rwR Zj a.items, rwR Zj b.items] (.bool (Zf7 a b)) [rwR Zj a.items, rwR Zj b.items] := by
  refine Zcg (fn := Try.f21) (nt := 45) rfl rfl rfl rfl ?_
  refine Za8 2 (H' := [rwR Zj a.items, rwR Zj b.items, hole, hole]) rfl ?_
  refine Zi (Zm (Zbn (v := mxV ([Iv a.kind, Iv a.epoch, Iv a.from_] ++ (Z1 a.item ++ ([slv 0 0 p q] ++ (Zr a.claim))))) (b := mxB 150 ([Iv a.kind, Iv a.epoch, Iv a.from_] ++ (Z1 a.item ++ ([slv 0 0 p q] ++ (Zr a.claim))))) (nid := 2) (H' := [rwR Zj a.items, rwR Zj b.items, Y10 a p q, hole]) (Zbn (v := mxV ([Iv b.kind, Iv b.epoch, Iv b.from_] ++ (Z1 b.item ++ ([slv 1 0 p' q'] ++ (Zr b.claim))))) (b := mxB 150 ([Iv b.kind, Iv b.epoch, Iv b.from_] ++ (Z1 b.item ++ ([slv 1 0 p' q'] ++ (Zr b.claim))))) (nid := 3) (H' := [rwR Zj a.items, rwR Zj b.items, Y10 a p q, mxB 150 ([Iv b.kind, Iv b.epoch, Iv b.from_] ++ (Z1 b.item ++ ([slv 1 0 p' q'] ++ (Zr b.claim))))]) (Zc (.bool false) (Zd (Ze (Zi (Zm (Zf (b := 2) (o := 0) (n := 0) (o' := 0) (Zl (p := pt 2 0) (v := Iv a.kind) (Zf (b := 3) (o := 0) (n := 0) (o' := 0) (Zl (p := pt 3 0) (v := Iv b.kind) ?_))))))))))))
  by_cases h1 : a.kind = b.kind
  refine Zn (vx := Iv a.kind) (vy := Iv b.kind) rfl rfl (.bool true) rfl rfl (Zaj (by omega)) ?_
  refine Zb (.bool true) (Zf (b := 2) (o := 0) (n := 1) (o' := 1) (Zl (p := pt 2 1) (v := Iv a.epoch) (Zf (b := 3) (o := 0) (n := 1) (o' := 1) (Zl (p := pt 3 1) (v := Iv b.epoch) ?_))))
  by_cases h2 : a.epoch = b.epoch
  refine Zn (vx := Iv a.epoch) (vy := Iv b.epoch) rfl rfl (.bool true) rfl rfl (Zaj (by omega)) ?_
  refine Zg (.bool true) (Zb (.bool true) (Zf (b := 2) (o := 0) (n := 2) (o' := 2) (Zl (p := pt 2 2) (v := Iv a.from_) (Zf (b := 3) (o := 0) (n := 2) (o' := 2) (Zl (p := pt 3 2) (v := Iv b.from_) ?_)))))
  by_cases h3 : a.from_ = b.from_
  refine Zn (vx := Iv a.from_) (vy := Iv b.from_) rfl rfl (.bool true) rfl rfl (Zaj (by omega)) ?_
  refine Zg (.bool true) (Zb (.bool true) (Zf (b := 2) (o := 0) (n := 3) (o' := 3) (Zl (p := pt 2 3) (v := Zal a.item) (Zf (b := 3) (o := 0) (n := 3) (o' := 3) (Zl (p := pt 3 3) (v := Zal b.item) ?_)))))
  rcases Bool.eq_false_or_eq_true (Z0 a.item b.item) with h4 | h4
  refine Zn (vx := Zal a.item) (vy := Zal b.item) rfl rfl (.bool true) rfl rfl (Eq.trans (Zde a.item b.item) (by rw [h4] <;> rfl)) ?_
  refine Zg (.bool true) (Zb (.bool true) (Zf (b := 2) (o := 0) (n := 114) (o' := 114) (Zl (p := pt 2 114) (v := Zx a.claim) (Zf (b := 3) (o := 0) (n := 114) (o' := 114) (Zl (p := pt 3 114) (v := Zx b.claim) ?_)))))
  rcases Bool.eq_false_or_eq_true (Zu a.claim b.claim) with h5 | h5
  refine Zn (vx := Zx a.claim) (vy := Zx b.claim) rfl rfl (.bool true) rfl rfl (Eq.trans (Zb8 a.claim b.claim) (by rw [h5] <;> rfl)) ?_
  refine Zg (.bool true) (Zb (.bool true) (Zf (b := 2) (o := 0) (n := 113) (o' := 113) (Zl (p := pt 2 113) (v := slv 0 0 p q) (Zf (b := 3) (o := 0) (n := 113) (o' := 113) (Zl (p := pt 3 113) (v := slv 1 0 p' q') ?_)))))
  refine Zab (e := [some (0, 0), some (1, 0)]) (nid := 0) (Zm7 (G := G) a.items b.items p q p' q' hp hp' (by omega) (by omega) (by omega) (by omega)) (vals := [slv 0 0 p q, slv 1 0 p' q']) (v := .bool (Zdv a.items b.items)) (H' := [rwR Zj a.items, rwR Zj b.items, Y10 a p q, mxB 150 ([Iv b.kind, Iv b.epoch, Iv b.from_] ++ (Z1 b.item ++ ([slv 1 0 p' q'] ++ (Zr b.claim))))]) rfl rfl rfl rfl rfl rfl rfl ⟨⟨⟨rfl, rfl, rfl, by first | omega | exact Nat.le_refl _, by first | omega | exact Nat.le_refl _⟩, ⟨rfl, rfl, rfl, by first | omega | exact Nat.le_refl _, by first | omega | exact Nat.le_refl _⟩, trivial⟩, ⟨(Zaf rfl), (Zaf rfl), trivial⟩, rfl, rfl, rfl⟩ rfl (by kernel_rfl) ?_
  refine Zg (.bool (Zdv a.items b.items)) (Zc (.bool (Zdv a.items b.items)) (Zd (Ze (Zs (Zq ?_)))))
  rw [show Zf7 a b = Zdv a.items b.items from Zyq (by omega) (by omega) (by omega) (by assumption) (by assumption)]
  exact Zk (v := .bool (Zdv a.items b.items)) rfl rfl rfl (by kernel_rfl) rfl
  refine Zn (vx := Zx a.claim) (vy := Zx b.claim) rfl rfl (.bool false) rfl rfl (Eq.trans (Zb8 a.claim b.claim) (by rw [h5] <;> rfl)) ?_
  refine Zg (.bool false) (Zb (.bool false) (Za (Za (Za (Za (Za (Zg (.bool false) (Zc (.bool false) (Zd (Ze (Zs (Zq ?_))))))))))))
  rw [show Zf7 a b = false from Zkw (fun q1 q2 q3 q4 q5 => by first | omega | exact absurd q4 (by rw [‹Z0 _ _ = false›]; decide) | exact absurd q5 (by rw [‹Zu _ _ = false›]; decide))]
  exact Zk (v := .bool false) rfl rfl rfl (by kernel_rfl) rfl
  refine Zn (vx := Zal a.item) (vy := Zal b.item) rfl rfl (.bool false) rfl rfl (Eq.trans (Zde a.item b.item) (by rw [h4] <;> rfl)) ?_
  refine Zg (.bool false) (Zb (.bool false) (Za (Za (Za (Za (Za (Zg (.bool false) (Zb (.bool false) (Za (Za (Za (Za (Za (Zg (.bool false) (Zc (.bool false) (Zd (Ze (Zs (Zq ?_)))))))))))))))))))
  rw [show Zf7 a b = false from Zkw (fun q1 q2 q3 q4 q5 => by first | omega | exact absurd q4 (by rw [‹Z0 _ _ = false›]; decide) | exact absurd q5 (by rw [‹Zu _ _ = false›]; decide))]
  exact Zk (v := .bool false) rfl rfl rfl (by kernel_rfl) rfl
  refine Zn (vx := Iv a.from_) (vy := Iv b.from_) rfl rfl (.bool false) rfl rfl (Zaq (by omega)) ?_
  refine Zg (.bool false) (Zb (.bool false) (Za (Za (Za (Za (Za (Zg (.bool false) (Zb (.bool false) (Za (Za (Za (Za (Za (Zg (.bool false) (Zb (.bool false) (Za (Za (Za (Za (Za (Zg (.bool false) (Zc (.bool false) (Zd (Ze (Zs (Zq ?_))))))))))))))))))))))))))
  rw [show Zf7 a b = false from Zkw (fun q1 q2 q3 q4 q5 => by first | omega | exact absurd q4 (by rw [‹Z0 _ _ = false›]; decide) | exact absurd q5 (by rw [‹Zu _ _ = false›]; decide))]
  exact Zk (v := .bool false) rfl rfl rfl (by kernel_rfl) rfl
  refine Zn (vx := Iv a.epoch) (vy := Iv b.epoch) rfl rfl (.bool false) rfl rfl (Zaq (by omega)) ?_
  refine Zg (.bool false) (Zb (.bool false) (Za (Za (Za (Za (Za (Zg (.bool false) (Zb (.bool false) (Za (Za (Za (Za (Za (Zg (.bool false) (Zb (.bool false) (Za (Za (Za (Za (Za (Zg (.bool false) (Zb (.bool false) (Za (Za (Za (Za (Za ?_)))))))))))))))))))))))))))
  refine Zg (.bool false) (Zc (.bool false) (Zd (Ze (Zs (Zq ?_)))))
  rw [show Zf7 a b = false from Zkw (fun q1 q2 q3 q4 q5 => by first | omega | exact absurd q4 (by rw [‹Z0 _ _ = false›]; decide) | exact absurd q5 (by rw [‹Zu _ _ = false›]; decide))]
  exact Zk (v := .bool false) rfl rfl rfl (by kernel_rfl) rfl
  refine Zn (vx := Iv a.kind) (vy := Iv b.kind) rfl rfl (.bool false) rfl rfl (Zaq (by omega)) ?_
  refine Zb (.bool false) (Za (Za (Za (Za (Za (Zg (.bool false) (Zb (.bool false) (Za (Za (Za (Za (Za (Zg (.bool false) (Zb (.bool false) (Za (Za (Za (Za (Za (Zg (.bool false) (Zb (.bool false) (Za (Za (Za (Za (Za (Zg (.bool false) ?_)))))))))))))))))))))))))))
  refine Zb (.bool false) (Za (Za (Za (Za (Za (Zg (.bool false) (Zc (.bool false) (Zd (Ze (Zs (Zq ?_)))))))))))
  rw [show Zf7 a b = false from Zkw (fun q1 q2 q3 q4 q5 => by first | omega | exact absurd q4 (by rw [‹Z0 _ _ = false›]; decide) | exact absurd q5 (by rw [‹Zu _ _ = false›]; decide))]
  exact Zk (v := .bool false) rfl rfl rfl (by kernel_rfl) rfl
end Go.Flat
