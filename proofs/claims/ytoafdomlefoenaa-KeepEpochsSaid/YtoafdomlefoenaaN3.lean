/- Walks. -/
import Derived.Test.YtoafdomlefoenaaN2
set_option linter.unusedVariables false
set_option linter.unusedSimpArgs false
set_option maxRecDepth 20000
namespace Go.Flat
open Go.Proofs
variable {G : Glob}
structure Rec where
  kind : Int
  epoch : Int
  from_ : Int
  item : Item
  items : List Item
  claim : Claim
theorem Zst {P : Program} {H : List Blk} {t : TypeId} {zc : List Value} {by_ b n c k n' : Nat} {α : Type} (cd : Cod α) {q : Value} {ls ms : List α} {cs : List Value} (hp : ∀ x, (cd.enc x).all Zb2 = true) (ht : Zdb P t = some (cd.n, zc, by_)) (hz : zc.length = cd.n) (hs : Zjs H cd.n q = some (k, cs)) (hcs : cs = cd.row ms) (hb : H[b]? = some (rwB cd ls)) (hn : n ≤ ls.length) (hk : n + k = n') (hby : 0 < by_) (hm : n' * by_ ≤ 140737488355328) :
  Zno P H t (slv b 0 n c) q = some (slv b 0 n' n', b, rwB cd (ls.take n ++ ms)) := by
 subst hcs
 have hc : (rwB cd ls).cells.length = ls.length * cd.n := by show (cd.row ls).length = _; rw [cd.row_len]
 have hpp : (cd.row ms).all Zb2 = true := by
  unfold Cod.row
  rw [List.all_eq_true]
  intro v hv
  obtain ⟨l, hl, hv⟩ := List.mem_flatten.1 hv
  obtain ⟨x, hx, rfl⟩ := List.mem_map.1 hl
  exact List.all_eq_true.1 (hp x) v hv
 rw [Zmo (n' := n') (p := (k, cd.row ms)) ht hs hb rfl rfl hz hpp (by rw [hc, Nat.zero_add]; exact Nat.mul_le_mul_right _ hn) hby hk hm]
 have : List.take (n * cd.n) (List.drop 0 (rwB cd ls).cells) ++ cd.row ms = cd.row (ls.take n ++ ms) := by
  rw [List.drop_zero, cd.row_app]
  show List.take (n * cd.n) (cd.row ls) ++ _ = _
  rw [cd.row_take]
 rw [this]; rfl
theorem Zqa (a b : Entry) : Zfa a b = Zfa b a := by
 unfold Zfa; rw [BEq.comm (a := a.kind), BEq.comm (a := a.client), BEq.comm (a := a.seq), BEq.comm (a := a.text), Zia, Zu]
theorem Zy (a b : Item) : Z5 a b = Z5 b a := by
 unfold Z5; rw [BEq.comm (a := a.epoch), Zqa]
theorem Zgo {c : Claim} (h : Ze1 [c] = 0) : Zaw c := (Zjr h 0 (by simp)).1
theorem Zah {c : Claim} (h : ¬ Ze1 [c] = 0) : ¬ Zaw c := fun q => Zdv h (fun i hi => by
 obtain rfl : i = 0 := by simp at hi; omega
 exact ⟨q, fun r => absurd r (by omega)⟩)
def Zce (r : Rec) : Prop :=
  (r.kind = 1 ∧ (1 ≤ r.epoch ∧ r.epoch ≤ 900000000) ∧ r.from_ = 0 ∧ Z5 r.item (⟨0, (⟨0, 0, 0, ⟨#[]⟩, (⟨(⟨0, 0, 0, dz, 0⟩ : Head), 0, dz⟩ : Signed), (⟨0, 0, 0, 0, dz⟩ : Claim)⟩ : Entry)⟩ : Item) = true ∧ Zw r.claim (⟨0, 0, 0, 0, dz⟩ : Claim) = true ∧ r.items.length = 0) ∨
  (r.kind = 2 ∧ r.epoch = 0 ∧ r.from_ = 0 ∧ Zbd r.item ∧ Zw r.claim (⟨0, 0, 0, 0, dz⟩ : Claim) = true ∧ r.items.length = 0) ∨
  (r.kind = 3 ∧ (1 ≤ r.epoch ∧ r.epoch ≤ 900000000) ∧ (0 ≤ r.from_ ∧ r.from_ ≤ 2000) ∧ Z5 r.item (⟨0, (⟨0, 0, 0, ⟨#[]⟩, (⟨(⟨0, 0, 0, dz, 0⟩ : Head), 0, dz⟩ : Signed), (⟨0, 0, 0, 0, dz⟩ : Claim)⟩ : Entry)⟩ : Item) = true ∧ Zw r.claim (⟨0, 0, 0, 0, dz⟩ : Claim) = true ∧ Zcj r.items) ∨
  (r.kind = 4 ∧ r.epoch = 0 ∧ r.from_ = 0 ∧ Z5 r.item (⟨0, (⟨0, 0, 0, ⟨#[]⟩, (⟨(⟨0, 0, 0, dz, 0⟩ : Head), 0, dz⟩ : Signed), (⟨0, 0, 0, 0, dz⟩ : Claim)⟩ : Entry)⟩ : Item) = true ∧ Zaw r.claim ∧ r.items.length = 0)
instance (r : Rec) : Decidable (Zce r) := inferInstanceAs (Decidable (_ ∨ _))
theorem Zsg {r : Rec} (h : Zce r) : (1 ≤ r.kind ∧ r.kind ≤ 4) ∧ (r.kind = 3 → 0 ≤ r.from_ ∧ r.from_ ≤ 2000) := by
 rcases h with q | q | q | q <;> (have := q.1; refine ⟨by omega, fun _ => ?_⟩)
 all_goals first | omega | exact q.2.2.1
def Zy2 (a b : Rec) : Bool := decide (a.kind = b.kind ∧ a.epoch = b.epoch ∧ a.from_ = b.from_) && (Z5 a.item b.item && (Zw a.claim b.claim && Zdj a.items b.items))
theorem Zu6 (r : Rec) (p q : Nat) (hp : r.items.length = p) (hq : p ≤ q) (hpb : p ≤ 1048576) : Zak Try.prog G 36 [mxV ([Iv r.kind, Iv r.epoch, Iv r.from_] ++ (Zr r.item ++ ([slv 0 0 p q] ++ (Zs r.claim))))] [rwR Zh r.items] (.bool (decide (Zce r))) [rwR Zh r.items] := by
  refine Zb5 (fn := Try.f36) (nt := 104) rfl rfl rfl rfl ?_
  refine Za5 3 (H' := [rwR Zh r.items, hole, hole, hole]) rfl ?_
  refine Zk (Zm ?_)
  refine Zch (v := mxV ([Iv r.kind, Iv r.epoch, Iv r.from_] ++ (Zr r.item ++ ([slv 0 0 p q] ++ (Zs r.claim))))) (b := mxB 150 ([Iv r.kind, Iv r.epoch, Iv r.from_] ++ (Zr r.item ++ ([slv 0 0 p q] ++ (Zs r.claim))))) (nid := 1) (H' := [rwR Zh r.items, mxB 150 ([Iv r.kind, Iv r.epoch, Iv r.from_] ++ (Zr r.item ++ ([slv 0 0 p q] ++ (Zs r.claim)))), hole, hole]) rfl rfl rfl (by kernel_rfl) (by kernel_rfl) ?_
  refine Zd rfl rfl (.bool false) rfl (Zb (Zc (Zk (Zk (Zm ?_)))))
  refine Ze (b := 1) (o := 0) (n := 113) (o' := 113) rfl rfl rfl rfl rfl ?_
  refine Zl (p := pt 1 113) (v := slv 0 0 p q) rfl rfl rfl (by kernel_rfl) ?_
  refine Zci (p := slv 0 0 p q) (v := Iv (p : Nat)) rfl rfl rfl rfl ?_
  by_cases h1 : 0 < (p : Nat)
  refine Zn (vx := Iv (p : Nat)) (vy := Iv 0) rfl rfl (.bool true) rfl rfl (Zeq (by omega)) ?_
  refine Zf rfl rfl (.bool true) rfl ?_
  refine Ze (b := 1) (o := 0) (n := 0) (o' := 0) rfl rfl rfl rfl rfl ?_
  refine Zl (p := pt 1 0) (v := Iv r.kind) rfl rfl rfl (by kernel_rfl) ?_
  by_cases h2 : r.kind ≠ 3
  refine Zn (vx := Iv r.kind) (vy := Iv 3) rfl rfl (.bool true) rfl rfl (Zed (by omega)) ?_
  refine Zg rfl rfl (.bool true) rfl (Zb (Zc (Z4 rfl (Zk (Zm (Zd rfl rfl (.bool false) rfl (Zb (Zc (Zq (Zv (Zo ?_)))))))))))
  rw [show decide (Zce r) = false from decide_eq_false (fun q => by rcases q with ⟨q1, q2, q3, q4, q5, q6⟩ | ⟨q1, q2, q3, q4, q5, q6⟩ | ⟨q1, q2, q3, q4, q5, q6⟩ | ⟨q1, q2, q3, q4, q5, q6⟩ <;> first | omega | (have := q4.1; have := q4.2.1; omega) | exact Zap (by omega) q4.2.2 | exact Zaj (by omega) q6 | exact Zah (by omega) q5 | exact absurd q4 (of_decide_eq_false (by assumption)) | exact absurd q5 (of_decide_eq_false (by assumption)) | exact absurd q6 (of_decide_eq_false (by assumption)) | (rw [‹Z5 _ _ = false›] at q4; cases q4) | (rw [Zy, ‹Z5 _ _ = false›] at q4; cases q4) | (rw [‹Zw _ _ = false›] at q5; cases q5) | (rw [Zu, ‹Zw _ _ = false›] at q5; cases q5))]
  exact Zi (v := .bool false) rfl rfl rfl (by kernel_rfl) rfl
  refine Zn (vx := Iv r.kind) (vy := Iv 3) rfl rfl (.bool false) rfl rfl (Zd4 (by omega)) ?_
  refine Zg rfl rfl (.bool false) rfl (Zb (Zc (Zx rfl (Z8 (Zc (Zk (Zm ?_)))))))
  refine Ze (b := 1) (o := 0) (n := 0) (o' := 0) rfl rfl rfl rfl rfl ?_
  refine Zl (p := pt 1 0) (v := Iv r.kind) rfl rfl rfl (by kernel_rfl) ?_
  refine Zbj (vs := [(0, Iv r.kind)]) (v := mxV ([Iv r.kind, Iv 0, Iv 0] ++ (Zr (⟨0, (⟨0, 0, 0, ⟨#[]⟩, (⟨(⟨0, 0, 0, dz, 0⟩ : Head), 0, dz⟩ : Signed), (⟨0, 0, 0, 0, dz⟩ : Claim)⟩ : Entry)⟩ : Item) ++ ([.slice none 0 0] ++ (Zs (⟨0, 0, 0, 0, dz⟩ : Claim)))))) rfl rfl rfl (by kernel_rfl) ?_
  refine Zbk (b := mxB 150 ([Iv 0, Iv 0, Iv 0] ++ (Zr (⟨0, (⟨0, 0, 0, ⟨#[]⟩, (⟨(⟨0, 0, 0, dz, 0⟩ : Head), 0, dz⟩ : Signed), (⟨0, 0, 0, 0, dz⟩ : Claim)⟩ : Entry)⟩ : Item) ++ ([.slice none 0 0] ++ (Zs (⟨0, 0, 0, 0, dz⟩ : Claim)))))) (nid := 2) (H' := [rwR Zh r.items, mxB 150 ([Iv r.kind, Iv r.epoch, Iv r.from_] ++ (Zr r.item ++ ([slv 0 0 p q] ++ (Zs r.claim)))), mxB 150 ([Iv 0, Iv 0, Iv 0] ++ (Zr (⟨0, (⟨0, 0, 0, ⟨#[]⟩, (⟨(⟨0, 0, 0, dz, 0⟩ : Head), 0, dz⟩ : Signed), (⟨0, 0, 0, 0, dz⟩ : Claim)⟩ : Entry)⟩ : Item) ++ ([.slice none 0 0] ++ (Zs (⟨0, 0, 0, 0, dz⟩ : Claim))))), hole]) rfl rfl (by kernel_rfl) (by kernel_rfl) ?_
  refine Zaa (p := pt 2 0) (v := mxV ([Iv r.kind, Iv 0, Iv 0] ++ (Zr (⟨0, (⟨0, 0, 0, ⟨#[]⟩, (⟨(⟨0, 0, 0, dz, 0⟩ : Head), 0, dz⟩ : Signed), (⟨0, 0, 0, 0, dz⟩ : Claim)⟩ : Entry)⟩ : Item) ++ ([.slice none 0 0] ++ (Zs (⟨0, 0, 0, 0, dz⟩ : Claim)))))) (b := 2) (blk := mxB 150 ([Iv r.kind, Iv 0, Iv 0] ++ (Zr (⟨0, (⟨0, 0, 0, ⟨#[]⟩, (⟨(⟨0, 0, 0, dz, 0⟩ : Head), 0, dz⟩ : Signed), (⟨0, 0, 0, 0, dz⟩ : Claim)⟩ : Entry)⟩ : Item) ++ ([.slice none 0 0] ++ (Zs (⟨0, 0, 0, 0, dz⟩ : Claim)))))) (H' := [rwR Zh r.items, mxB 150 ([Iv r.kind, Iv r.epoch, Iv r.from_] ++ (Zr r.item ++ ([slv 0 0 p q] ++ (Zs r.claim)))), mxB 150 ([Iv r.kind, Iv 0, Iv 0] ++ (Zr (⟨0, (⟨0, 0, 0, ⟨#[]⟩, (⟨(⟨0, 0, 0, dz, 0⟩ : Head), 0, dz⟩ : Signed), (⟨0, 0, 0, 0, dz⟩ : Claim)⟩ : Entry)⟩ : Item) ++ ([.slice none 0 0] ++ (Zs (⟨0, 0, 0, 0, dz⟩ : Claim))))), hole]) rfl rfl rfl (by kernel_rfl) (by kernel_rfl) ?_
  refine Zb (Zc (Zk (Zm (Zd rfl rfl (.bool false) rfl (Zb (Zc (Zk (Zk (Zm ?_)))))))))
  refine Ze (b := 1) (o := 0) (n := 0) (o' := 0) rfl rfl rfl rfl rfl ?_
  refine Zl (p := pt 1 0) (v := Iv r.kind) rfl rfl rfl (by kernel_rfl) ?_
  refine Zb (Zc (Zbm (Zk (Zm ?_))))
  refine Zn (vx := Iv r.kind) (vy := Iv 1) rfl rfl (.bool false) rfl rfl (Zbf (by omega)) ?_
  refine Zd rfl rfl (.bool false) rfl (Zb (Zc (Zx rfl (Zk (Zm ?_)))))
  refine Zn (vx := Iv r.kind) (vy := Iv 2) rfl rfl (.bool false) rfl rfl (Zbf (by omega)) ?_
  refine Zd rfl rfl (.bool false) rfl (Zb (Zc (Zx rfl (Zk (Zm ?_)))))
  refine Zn (vx := Iv r.kind) (vy := Iv 3) rfl rfl (.bool true) rfl rfl (Zao (by omega)) ?_
  refine Zd rfl rfl (.bool true) rfl (Zb (Zc (Z4 rfl (Zk ?_))))
  refine Zd6 (by kernel_rfl) ?_
  refine Ze (b := 1) (o := 0) (n := 1) (o' := 1) rfl rfl rfl rfl rfl ?_
  refine Zl (p := pt 1 1) (v := Iv r.epoch) rfl rfl rfl (by kernel_rfl) ?_
  refine Ze (b := 1) (o := 0) (n := 2) (o' := 2) rfl rfl rfl rfl rfl ?_
  refine Zl (p := pt 1 2) (v := Iv r.from_) rfl rfl rfl (by kernel_rfl) ?_
  refine Ze (b := 2) (o := 0) (n := 1) (o' := 1) rfl rfl rfl rfl rfl ?_
  refine Zaa (p := pt 2 1) (v := Iv r.epoch) (b := 2) (blk := mxB 150 ([Iv r.kind, Iv r.epoch, Iv 0] ++ (Zr (⟨0, (⟨0, 0, 0, ⟨#[]⟩, (⟨(⟨0, 0, 0, dz, 0⟩ : Head), 0, dz⟩ : Signed), (⟨0, 0, 0, 0, dz⟩ : Claim)⟩ : Entry)⟩ : Item) ++ ([.slice none 0 0] ++ (Zs (⟨0, 0, 0, 0, dz⟩ : Claim)))))) (H' := [rwR Zh r.items, mxB 150 ([Iv r.kind, Iv r.epoch, Iv r.from_] ++ (Zr r.item ++ ([slv 0 0 p q] ++ (Zs r.claim)))), mxB 150 ([Iv r.kind, Iv r.epoch, Iv 0] ++ (Zr (⟨0, (⟨0, 0, 0, ⟨#[]⟩, (⟨(⟨0, 0, 0, dz, 0⟩ : Head), 0, dz⟩ : Signed), (⟨0, 0, 0, 0, dz⟩ : Claim)⟩ : Entry)⟩ : Item) ++ ([.slice none 0 0] ++ (Zs (⟨0, 0, 0, 0, dz⟩ : Claim))))), hole]) rfl rfl rfl (by kernel_rfl) (by kernel_rfl) ?_
  refine Ze (b := 2) (o := 0) (n := 2) (o' := 2) rfl rfl rfl rfl rfl ?_
  refine Zaa (p := pt 2 2) (v := Iv r.from_) (b := 2) (blk := mxB 150 ([Iv r.kind, Iv r.epoch, Iv r.from_] ++ (Zr (⟨0, (⟨0, 0, 0, ⟨#[]⟩, (⟨(⟨0, 0, 0, dz, 0⟩ : Head), 0, dz⟩ : Signed), (⟨0, 0, 0, 0, dz⟩ : Claim)⟩ : Entry)⟩ : Item) ++ ([.slice none 0 0] ++ (Zs (⟨0, 0, 0, 0, dz⟩ : Claim)))))) (H' := [rwR Zh r.items, mxB 150 ([Iv r.kind, Iv r.epoch, Iv r.from_] ++ (Zr r.item ++ ([slv 0 0 p q] ++ (Zs r.claim)))), mxB 150 ([Iv r.kind, Iv r.epoch, Iv r.from_] ++ (Zr (⟨0, (⟨0, 0, 0, ⟨#[]⟩, (⟨(⟨0, 0, 0, dz, 0⟩ : Head), 0, dz⟩ : Signed), (⟨0, 0, 0, 0, dz⟩ : Claim)⟩ : Entry)⟩ : Item) ++ ([.slice none 0 0] ++ (Zs (⟨0, 0, 0, 0, dz⟩ : Claim))))), hole]) rfl rfl rfl (by kernel_rfl) (by kernel_rfl) ?_
  refine Zbe (Zan [[], [0], [], [2], [0, 1], [0, 1, 4], [0, 1, 2, 3, 4, 5], [0, 1, 2, 3, 4, 5, 6]] (by kernel_rfl) (by kernel_rfl)) ?_
  refine Zc (Zm ?_)
  refine Ze (b := 1) (o := 0) (n := 1) (o' := 1) rfl rfl rfl rfl rfl ?_
  refine Zl (p := pt 1 1) (v := Iv r.epoch) rfl rfl rfl (by kernel_rfl) ?_
  by_cases h3 : 1 ≤ r.epoch
  by_cases h4 : r.epoch ≤ 900000000
  refine Zp ((Zas (G := G) r.epoch 1 900000000).res (congrArg Value.bool (Zaf (by omega) (by omega)))) (vals := [Iv r.epoch, Iv 1, Iv 900000000]) (res' := .bool true) rfl rfl rfl rfl rfl rfl ?_
  refine Zf rfl rfl (.bool true) rfl ?_
  refine Ze (b := 1) (o := 0) (n := 2) (o' := 2) rfl rfl rfl rfl rfl ?_
  refine Zl (p := pt 1 2) (v := Iv r.from_) rfl rfl rfl (by kernel_rfl) ?_
  by_cases h5 : 0 ≤ r.from_
  by_cases h6 : r.from_ ≤ 2000
  refine Zp ((Zas (G := G) r.from_ 0 2000).res (congrArg Value.bool (Zaf (by omega) (by omega)))) (vals := [Iv r.from_, Iv 0, Iv 2000]) (res' := .bool true) rfl rfl rfl rfl rfl rfl ?_
  refine Zg rfl rfl (.bool true) rfl (Zf rfl rfl (.bool true) rfl ?_)
  refine Ze (b := 1) (o := 0) (n := 113) (o' := 113) rfl rfl rfl rfl rfl ?_
  refine Zl (p := pt 1 113) (v := slv 0 0 p q) rfl rfl rfl (by kernel_rfl) ?_
  refine Z9 (e := [some (0, 0)]) (nid := 0) (Zhu (G := G) r.items p q hp (by omega) (by omega)) (vals := [slv 0 0 p q]) (v := Iv (Zfc r.items)) (H' := [rwR Zh r.items, mxB 150 ([Iv r.kind, Iv r.epoch, Iv r.from_] ++ (Zr r.item ++ ([slv 0 0 p q] ++ (Zs r.claim)))), mxB 150 ([Iv r.kind, Iv r.epoch, Iv r.from_] ++ (Zr (⟨0, (⟨0, 0, 0, ⟨#[]⟩, (⟨(⟨0, 0, 0, dz, 0⟩ : Head), 0, dz⟩ : Signed), (⟨0, 0, 0, 0, dz⟩ : Claim)⟩ : Entry)⟩ : Item) ++ ([.slice none 0 0] ++ (Zs (⟨0, 0, 0, 0, dz⟩ : Claim))))), hole]) rfl rfl rfl rfl rfl rfl rfl ⟨⟨⟨rfl, rfl, rfl, by first | omega | exact Nat.le_refl _, by first | omega | exact Nat.le_refl _⟩, trivial⟩, ⟨(Zab rfl), trivial⟩, rfl, rfl, rfl⟩ rfl (by kernel_rfl) ?_
  by_cases h7 : (Zfc r.items) = 0
  refine Zn (vx := Iv (Zfc r.items)) (vy := Iv 0) rfl rfl (.bool true) rfl rfl (Zao (by omega)) ?_
  refine Zg rfl rfl (.bool true) rfl (Zd rfl rfl (.bool true) rfl (Zb (Z2 (Zc (Zk (Zm (Zf rfl rfl (.bool true) rfl (Zf rfl rfl (.bool true) rfl ?_))))))))
  refine Ze (b := 2) (o := 0) (n := 1) (o' := 1) rfl rfl rfl rfl rfl ?_
  refine Zl (p := pt 2 1) (v := Iv r.epoch) rfl rfl rfl (by kernel_rfl) ?_
  refine Ze (b := 1) (o := 0) (n := 1) (o' := 1) rfl rfl rfl rfl rfl ?_
  refine Zl (p := pt 1 1) (v := Iv r.epoch) rfl rfl rfl (by kernel_rfl) ?_
  refine Zn (vx := Iv r.epoch) (vy := Iv r.epoch) rfl rfl (.bool true) rfl rfl (Zao (by omega)) ?_
  refine Zg rfl rfl (.bool true) rfl (Zf rfl rfl (.bool true) rfl ?_)
  refine Ze (b := 2) (o := 0) (n := 2) (o' := 2) rfl rfl rfl rfl rfl ?_
  refine Zl (p := pt 2 2) (v := Iv r.from_) rfl rfl rfl (by kernel_rfl) ?_
  refine Ze (b := 1) (o := 0) (n := 2) (o' := 2) rfl rfl rfl rfl rfl ?_
  refine Zl (p := pt 1 2) (v := Iv r.from_) rfl rfl rfl (by kernel_rfl) ?_
  refine Zn (vx := Iv r.from_) (vy := Iv r.from_) rfl rfl (.bool true) rfl rfl (Zao (by omega)) ?_
  refine Zg rfl rfl (.bool true) rfl (Zf rfl rfl (.bool true) rfl ?_)
  refine Ze (b := 2) (o := 0) (n := 3) (o' := 3) rfl rfl rfl rfl rfl ?_
  refine Zl (p := pt 2 3) (v := Zai (⟨0, (⟨0, 0, 0, ⟨#[]⟩, (⟨(⟨0, 0, 0, dz, 0⟩ : Head), 0, dz⟩ : Signed), (⟨0, 0, 0, 0, dz⟩ : Claim)⟩ : Entry)⟩ : Item)) rfl rfl rfl (by kernel_rfl) ?_
  refine Ze (b := 1) (o := 0) (n := 3) (o' := 3) rfl rfl rfl rfl rfl ?_
  refine Zl (p := pt 1 3) (v := Zai r.item) rfl rfl rfl (by kernel_rfl) ?_
  rcases Bool.eq_false_or_eq_true (Z5 (⟨0, (⟨0, 0, 0, ⟨#[]⟩, (⟨(⟨0, 0, 0, dz, 0⟩ : Head), 0, dz⟩ : Signed), (⟨0, 0, 0, 0, dz⟩ : Claim)⟩ : Entry)⟩ : Item) r.item) with h8 | h8
  refine Zn (vx := Zai (⟨0, (⟨0, 0, 0, ⟨#[]⟩, (⟨(⟨0, 0, 0, dz, 0⟩ : Head), 0, dz⟩ : Signed), (⟨0, 0, 0, 0, dz⟩ : Claim)⟩ : Entry)⟩ : Item)) (vy := Zai r.item) rfl rfl (.bool true) rfl rfl (Eq.trans (Zes (⟨0, (⟨0, 0, 0, ⟨#[]⟩, (⟨(⟨0, 0, 0, dz, 0⟩ : Head), 0, dz⟩ : Signed), (⟨0, 0, 0, 0, dz⟩ : Claim)⟩ : Entry)⟩ : Item) r.item) (by rw [h8] <;> rfl)) ?_
  refine Zg rfl rfl (.bool true) rfl (Zf rfl rfl (.bool true) rfl ?_)
  refine Ze (b := 2) (o := 0) (n := 114) (o' := 114) rfl rfl rfl rfl rfl ?_
  refine Zl (p := pt 2 114) (v := Z3 (⟨0, 0, 0, 0, dz⟩ : Claim)) rfl rfl rfl (by kernel_rfl) ?_
  refine Ze (b := 1) (o := 0) (n := 114) (o' := 114) rfl rfl rfl rfl rfl ?_
  refine Zl (p := pt 1 114) (v := Z3 r.claim) rfl rfl rfl (by kernel_rfl) ?_
  rcases Bool.eq_false_or_eq_true (Zw (⟨0, 0, 0, 0, dz⟩ : Claim) r.claim) with h9 | h9
  refine Zn (vx := Z3 (⟨0, 0, 0, 0, dz⟩ : Claim)) (vy := Z3 r.claim) rfl rfl (.bool true) rfl rfl (Eq.trans (Zcm (⟨0, 0, 0, 0, dz⟩ : Claim) r.claim) (by rw [h9] <;> rfl)) ?_
  refine Zg rfl rfl (.bool true) rfl (Zd rfl rfl (.bool true) rfl (Zb (Zc (Zq (Zo ?_)))))
  rw [show decide (Zce r) = true from decide_eq_true (by first | exact .inl ⟨by omega, by omega, by omega, (by first | assumption | exact Za9 _ | (rw [Zy]; assumption)), (by first | assumption | exact Zaq _ | (rw [Zu]; assumption)), by omega⟩ | exact .inr (.inl ⟨by omega, by omega, by omega, (by first | exact of_decide_eq_true (by assumption) | exact ⟨by omega, by omega, Zgk (by omega)⟩), (by first | assumption | exact Zaq _ | (rw [Zu]; assumption)), by omega⟩) | exact .inr (.inr (.inl ⟨by omega, by omega, by omega, (by first | assumption | exact Za9 _ | (rw [Zy]; assumption)), (by first | assumption | exact Zaq _ | (rw [Zu]; assumption)), (by first | exact of_decide_eq_true (by assumption) | exact Zby (by omega))⟩)) | exact .inr (.inr (.inr ⟨by omega, by omega, by omega, (by first | assumption | exact Za9 _ | (rw [Zy]; assumption)), (by first | exact of_decide_eq_true (by assumption) | exact Zgo (by omega)), by omega⟩)))]
  exact Zi (v := .bool true) rfl rfl rfl (by kernel_rfl) rfl
  refine Zn (vx := Z3 (⟨0, 0, 0, 0, dz⟩ : Claim)) (vy := Z3 r.claim) rfl rfl (.bool false) rfl rfl (Eq.trans (Zcm (⟨0, 0, 0, 0, dz⟩ : Claim) r.claim) (by rw [h9] <;> rfl)) ?_
  refine Zg rfl rfl (.bool false) rfl (Zd rfl rfl (.bool false) rfl (Zb (Zc (Zq (Zo ?_)))))
  rw [show decide (Zce r) = false from decide_eq_false (fun q => by rcases q with ⟨q1, q2, q3, q4, q5, q6⟩ | ⟨q1, q2, q3, q4, q5, q6⟩ | ⟨q1, q2, q3, q4, q5, q6⟩ | ⟨q1, q2, q3, q4, q5, q6⟩ <;> first | omega | (have := q4.1; have := q4.2.1; omega) | exact Zap (by omega) q4.2.2 | exact Zaj (by omega) q6 | exact Zah (by omega) q5 | exact absurd q4 (of_decide_eq_false (by assumption)) | exact absurd q5 (of_decide_eq_false (by assumption)) | exact absurd q6 (of_decide_eq_false (by assumption)) | (rw [‹Z5 _ _ = false›] at q4; cases q4) | (rw [Zy, ‹Z5 _ _ = false›] at q4; cases q4) | (rw [‹Zw _ _ = false›] at q5; cases q5) | (rw [Zu, ‹Zw _ _ = false›] at q5; cases q5))]
  exact Zi (v := .bool false) rfl rfl rfl (by kernel_rfl) rfl
  refine Zn (vx := Zai (⟨0, (⟨0, 0, 0, ⟨#[]⟩, (⟨(⟨0, 0, 0, dz, 0⟩ : Head), 0, dz⟩ : Signed), (⟨0, 0, 0, 0, dz⟩ : Claim)⟩ : Entry)⟩ : Item)) (vy := Zai r.item) rfl rfl (.bool false) rfl rfl (Eq.trans (Zes (⟨0, (⟨0, 0, 0, ⟨#[]⟩, (⟨(⟨0, 0, 0, dz, 0⟩ : Head), 0, dz⟩ : Signed), (⟨0, 0, 0, 0, dz⟩ : Claim)⟩ : Entry)⟩ : Item) r.item) (by rw [h8] <;> rfl)) ?_
  refine Zg rfl rfl (.bool false) rfl (Zf rfl rfl (.bool false) rfl (Za rfl rfl (Za rfl rfl (Za rfl rfl (Za rfl rfl (Za rfl rfl (Zg rfl rfl (.bool false) rfl (Zd rfl rfl (.bool false) rfl (Zb (Zc (Zq (Zo ?_))))))))))))
  rw [show decide (Zce r) = false from decide_eq_false (fun q => by rcases q with ⟨q1, q2, q3, q4, q5, q6⟩ | ⟨q1, q2, q3, q4, q5, q6⟩ | ⟨q1, q2, q3, q4, q5, q6⟩ | ⟨q1, q2, q3, q4, q5, q6⟩ <;> first | omega | (have := q4.1; have := q4.2.1; omega) | exact Zap (by omega) q4.2.2 | exact Zaj (by omega) q6 | exact Zah (by omega) q5 | exact absurd q4 (of_decide_eq_false (by assumption)) | exact absurd q5 (of_decide_eq_false (by assumption)) | exact absurd q6 (of_decide_eq_false (by assumption)) | (rw [‹Z5 _ _ = false›] at q4; cases q4) | (rw [Zy, ‹Z5 _ _ = false›] at q4; cases q4) | (rw [‹Zw _ _ = false›] at q5; cases q5) | (rw [Zu, ‹Zw _ _ = false›] at q5; cases q5))]
  exact Zi (v := .bool false) rfl rfl rfl (by kernel_rfl) rfl
  refine Zn (vx := Iv (Zfc r.items)) (vy := Iv 0) rfl rfl (.bool false) rfl rfl (Zbf (by omega)) ?_
  refine Zg rfl rfl (.bool false) rfl (Zd rfl rfl (.bool false) rfl (Zb (Z2 (Zc (Zk (Zm (Zf rfl rfl (.bool false) rfl (Zf rfl rfl (.bool false) rfl (Za rfl rfl (Za rfl rfl (Za rfl rfl (Za rfl rfl (Za rfl rfl (Zg rfl rfl (.bool false) rfl (Zf rfl rfl (.bool false) rfl (Za rfl rfl (Za rfl rfl (Za rfl rfl (Za rfl rfl (Za rfl rfl (Zg rfl rfl (.bool false) rfl (Zf rfl rfl (.bool false) rfl (Za rfl rfl (Za rfl rfl (Za rfl rfl (Za rfl rfl (Za rfl rfl ?_)))))))))))))))))))))))))))
  refine Zg rfl rfl (.bool false) rfl (Zf rfl rfl (.bool false) rfl (Za rfl rfl (Za rfl rfl (Za rfl rfl (Za rfl rfl (Za rfl rfl (Zg rfl rfl (.bool false) rfl (Zd rfl rfl (.bool false) rfl (Zb (Zc (Zq (Zo ?_))))))))))))
  rw [show decide (Zce r) = false from decide_eq_false (fun q => by rcases q with ⟨q1, q2, q3, q4, q5, q6⟩ | ⟨q1, q2, q3, q4, q5, q6⟩ | ⟨q1, q2, q3, q4, q5, q6⟩ | ⟨q1, q2, q3, q4, q5, q6⟩ <;> first | omega | (have := q4.1; have := q4.2.1; omega) | exact Zap (by omega) q4.2.2 | exact Zaj (by omega) q6 | exact Zah (by omega) q5 | exact absurd q4 (of_decide_eq_false (by assumption)) | exact absurd q5 (of_decide_eq_false (by assumption)) | exact absurd q6 (of_decide_eq_false (by assumption)) | (rw [‹Z5 _ _ = false›] at q4; cases q4) | (rw [Zy, ‹Z5 _ _ = false›] at q4; cases q4) | (rw [‹Zw _ _ = false›] at q5; cases q5) | (rw [Zu, ‹Zw _ _ = false›] at q5; cases q5))]
  exact Zi (v := .bool false) rfl rfl rfl (by kernel_rfl) rfl
  refine Zp ((Zas (G := G) r.from_ 0 2000).res (congrArg Value.bool (Zt (by omega)))) (vals := [Iv r.from_, Iv 0, Iv 2000]) (res' := .bool false) rfl rfl rfl rfl rfl rfl ?_
  refine Zg rfl rfl (.bool false) rfl (Zf rfl rfl (.bool false) rfl (Za rfl rfl (Za rfl rfl (Za rfl rfl (Za rfl rfl (Zg rfl rfl (.bool false) rfl (Zd rfl rfl (.bool false) rfl (Zb (Z2 (Zc (Zk (Zm (Zf rfl rfl (.bool false) rfl (Zf rfl rfl (.bool false) rfl (Za rfl rfl (Za rfl rfl (Za rfl rfl (Za rfl rfl (Za rfl rfl (Zg rfl rfl (.bool false) rfl (Zf rfl rfl (.bool false) rfl (Za rfl rfl (Za rfl rfl (Za rfl rfl (Za rfl rfl (Za rfl rfl ?_))))))))))))))))))))))))))
  refine Zg rfl rfl (.bool false) rfl (Zf rfl rfl (.bool false) rfl (Za rfl rfl (Za rfl rfl (Za rfl rfl (Za rfl rfl (Za rfl rfl (Zg rfl rfl (.bool false) rfl (Zf rfl rfl (.bool false) rfl (Za rfl rfl (Za rfl rfl (Za rfl rfl (Za rfl rfl (Za rfl rfl (Zg rfl rfl (.bool false) rfl (Zd rfl rfl (.bool false) rfl (Zb (Zc (Zq (Zo ?_)))))))))))))))))))
  rw [show decide (Zce r) = false from decide_eq_false (fun q => by rcases q with ⟨q1, q2, q3, q4, q5, q6⟩ | ⟨q1, q2, q3, q4, q5, q6⟩ | ⟨q1, q2, q3, q4, q5, q6⟩ | ⟨q1, q2, q3, q4, q5, q6⟩ <;> first | omega | (have := q4.1; have := q4.2.1; omega) | exact Zap (by omega) q4.2.2 | exact Zaj (by omega) q6 | exact Zah (by omega) q5 | exact absurd q4 (of_decide_eq_false (by assumption)) | exact absurd q5 (of_decide_eq_false (by assumption)) | exact absurd q6 (of_decide_eq_false (by assumption)) | (rw [‹Z5 _ _ = false›] at q4; cases q4) | (rw [Zy, ‹Z5 _ _ = false›] at q4; cases q4) | (rw [‹Zw _ _ = false›] at q5; cases q5) | (rw [Zu, ‹Zw _ _ = false›] at q5; cases q5))]
  exact Zi (v := .bool false) rfl rfl rfl (by kernel_rfl) rfl
  refine Zp ((Zas (G := G) r.from_ 0 2000).res (congrArg Value.bool (Zt (by omega)))) (vals := [Iv r.from_, Iv 0, Iv 2000]) (res' := .bool false) rfl rfl rfl rfl rfl rfl ?_
  refine Zg rfl rfl (.bool false) rfl (Zf rfl rfl (.bool false) rfl (Za rfl rfl (Za rfl rfl (Za rfl rfl (Za rfl rfl (Zg rfl rfl (.bool false) rfl (Zd rfl rfl (.bool false) rfl (Zb (Z2 (Zc (Zk (Zm (Zf rfl rfl (.bool false) rfl (Zf rfl rfl (.bool false) rfl (Za rfl rfl (Za rfl rfl (Za rfl rfl (Za rfl rfl (Za rfl rfl (Zg rfl rfl (.bool false) rfl (Zf rfl rfl (.bool false) rfl (Za rfl rfl (Za rfl rfl (Za rfl rfl (Za rfl rfl (Za rfl rfl ?_))))))))))))))))))))))))))
  refine Zg rfl rfl (.bool false) rfl (Zf rfl rfl (.bool false) rfl (Za rfl rfl (Za rfl rfl (Za rfl rfl (Za rfl rfl (Za rfl rfl (Zg rfl rfl (.bool false) rfl (Zf rfl rfl (.bool false) rfl (Za rfl rfl (Za rfl rfl (Za rfl rfl (Za rfl rfl (Za rfl rfl (Zg rfl rfl (.bool false) rfl (Zd rfl rfl (.bool false) rfl (Zb (Zc (Zq (Zo ?_)))))))))))))))))))
  rw [show decide (Zce r) = false from decide_eq_false (fun q => by rcases q with ⟨q1, q2, q3, q4, q5, q6⟩ | ⟨q1, q2, q3, q4, q5, q6⟩ | ⟨q1, q2, q3, q4, q5, q6⟩ | ⟨q1, q2, q3, q4, q5, q6⟩ <;> first | omega | (have := q4.1; have := q4.2.1; omega) | exact Zap (by omega) q4.2.2 | exact Zaj (by omega) q6 | exact Zah (by omega) q5 | exact absurd q4 (of_decide_eq_false (by assumption)) | exact absurd q5 (of_decide_eq_false (by assumption)) | exact absurd q6 (of_decide_eq_false (by assumption)) | (rw [‹Z5 _ _ = false›] at q4; cases q4) | (rw [Zy, ‹Z5 _ _ = false›] at q4; cases q4) | (rw [‹Zw _ _ = false›] at q5; cases q5) | (rw [Zu, ‹Zw _ _ = false›] at q5; cases q5))]
  exact Zi (v := .bool false) rfl rfl rfl (by kernel_rfl) rfl
  refine Zp ((Zas (G := G) r.epoch 1 900000000).res (congrArg Value.bool (Zt (by omega)))) (vals := [Iv r.epoch, Iv 1, Iv 900000000]) (res' := .bool false) rfl rfl rfl rfl rfl rfl ?_
  refine Zf rfl rfl (.bool false) rfl (Za rfl rfl (Za rfl rfl (Za rfl rfl (Zg rfl rfl (.bool false) rfl (Zf rfl rfl (.bool false) rfl (Za rfl rfl (Za rfl rfl (Za rfl rfl (Za rfl rfl (Zg rfl rfl (.bool false) rfl (Zd rfl rfl (.bool false) rfl (Zb (Z2 (Zc (Zk (Zm (Zf rfl rfl (.bool false) rfl (Zf rfl rfl (.bool false) rfl (Za rfl rfl (Za rfl rfl (Za rfl rfl (Za rfl rfl (Za rfl rfl (Zg rfl rfl (.bool false) rfl ?_))))))))))))))))))))))))
  refine Zf rfl rfl (.bool false) rfl (Za rfl rfl (Za rfl rfl (Za rfl rfl (Za rfl rfl (Za rfl rfl (Zg rfl rfl (.bool false) rfl (Zf rfl rfl (.bool false) rfl (Za rfl rfl (Za rfl rfl (Za rfl rfl (Za rfl rfl (Za rfl rfl (Zg rfl rfl (.bool false) rfl (Zf rfl rfl (.bool false) rfl (Za rfl rfl (Za rfl rfl (Za rfl rfl (Za rfl rfl (Za rfl rfl (Zg rfl rfl (.bool false) rfl (Zd rfl rfl (.bool false) rfl (Zb (Zc (Zq (Zo ?_)))))))))))))))))))))))))
  rw [show decide (Zce r) = false from decide_eq_false (fun q => by rcases q with ⟨q1, q2, q3, q4, q5, q6⟩ | ⟨q1, q2, q3, q4, q5, q6⟩ | ⟨q1, q2, q3, q4, q5, q6⟩ | ⟨q1, q2, q3, q4, q5, q6⟩ <;> first | omega | (have := q4.1; have := q4.2.1; omega) | exact Zap (by omega) q4.2.2 | exact Zaj (by omega) q6 | exact Zah (by omega) q5 | exact absurd q4 (of_decide_eq_false (by assumption)) | exact absurd q5 (of_decide_eq_false (by assumption)) | exact absurd q6 (of_decide_eq_false (by assumption)) | (rw [‹Z5 _ _ = false›] at q4; cases q4) | (rw [Zy, ‹Z5 _ _ = false›] at q4; cases q4) | (rw [‹Zw _ _ = false›] at q5; cases q5) | (rw [Zu, ‹Zw _ _ = false›] at q5; cases q5))]
  exact Zi (v := .bool false) rfl rfl rfl (by kernel_rfl) rfl
  refine Zp ((Zas (G := G) r.epoch 1 900000000).res (congrArg Value.bool (Zt (by omega)))) (vals := [Iv r.epoch, Iv 1, Iv 900000000]) (res' := .bool false) rfl rfl rfl rfl rfl rfl ?_
  refine Zf rfl rfl (.bool false) rfl (Za rfl rfl (Za rfl rfl (Za rfl rfl (Zg rfl rfl (.bool false) rfl (Zf rfl rfl (.bool false) rfl (Za rfl rfl (Za rfl rfl (Za rfl rfl (Za rfl rfl (Zg rfl rfl (.bool false) rfl (Zd rfl rfl (.bool false) rfl (Zb (Z2 (Zc (Zk (Zm (Zf rfl rfl (.bool false) rfl (Zf rfl rfl (.bool false) rfl (Za rfl rfl (Za rfl rfl (Za rfl rfl (Za rfl rfl (Za rfl rfl (Zg rfl rfl (.bool false) rfl ?_))))))))))))))))))))))))
  refine Zf rfl rfl (.bool false) rfl (Za rfl rfl (Za rfl rfl (Za rfl rfl (Za rfl rfl (Za rfl rfl (Zg rfl rfl (.bool false) rfl (Zf rfl rfl (.bool false) rfl (Za rfl rfl (Za rfl rfl (Za rfl rfl (Za rfl rfl (Za rfl rfl (Zg rfl rfl (.bool false) rfl (Zf rfl rfl (.bool false) rfl (Za rfl rfl (Za rfl rfl (Za rfl rfl (Za rfl rfl (Za rfl rfl (Zg rfl rfl (.bool false) rfl (Zd rfl rfl (.bool false) rfl (Zb (Zc (Zq (Zo ?_)))))))))))))))))))))))))
  rw [show decide (Zce r) = false from decide_eq_false (fun q => by rcases q with ⟨q1, q2, q3, q4, q5, q6⟩ | ⟨q1, q2, q3, q4, q5, q6⟩ | ⟨q1, q2, q3, q4, q5, q6⟩ | ⟨q1, q2, q3, q4, q5, q6⟩ <;> first | omega | (have := q4.1; have := q4.2.1; omega) | exact Zap (by omega) q4.2.2 | exact Zaj (by omega) q6 | exact Zah (by omega) q5 | exact absurd q4 (of_decide_eq_false (by assumption)) | exact absurd q5 (of_decide_eq_false (by assumption)) | exact absurd q6 (of_decide_eq_false (by assumption)) | (rw [‹Z5 _ _ = false›] at q4; cases q4) | (rw [Zy, ‹Z5 _ _ = false›] at q4; cases q4) | (rw [‹Zw _ _ = false›] at q5; cases q5) | (rw [Zu, ‹Zw _ _ = false›] at q5; cases q5))]
  exact Zi (v := .bool false) rfl rfl rfl (by kernel_rfl) rfl
  refine Zn (vx := Iv (p : Nat)) (vy := Iv 0) rfl rfl (.bool false) rfl rfl (Zem (by omega)) ?_
  refine Zf rfl rfl (.bool false) rfl (Za rfl rfl (Za rfl rfl (Za rfl rfl (Zg rfl rfl (.bool false) rfl (Zb (Zc (Zx rfl (Z8 (Zc (Zk (Zm ?_)))))))))))
  refine Ze (b := 1) (o := 0) (n := 0) (o' := 0) rfl rfl rfl rfl rfl ?_
  refine Zl (p := pt 1 0) (v := Iv r.kind) rfl rfl rfl (by kernel_rfl) ?_
  refine Zbj (vs := [(0, Iv r.kind)]) (v := mxV ([Iv r.kind, Iv 0, Iv 0] ++ (Zr (⟨0, (⟨0, 0, 0, ⟨#[]⟩, (⟨(⟨0, 0, 0, dz, 0⟩ : Head), 0, dz⟩ : Signed), (⟨0, 0, 0, 0, dz⟩ : Claim)⟩ : Entry)⟩ : Item) ++ ([.slice none 0 0] ++ (Zs (⟨0, 0, 0, 0, dz⟩ : Claim)))))) rfl rfl rfl (by kernel_rfl) ?_
  refine Zbk (b := mxB 150 ([Iv 0, Iv 0, Iv 0] ++ (Zr (⟨0, (⟨0, 0, 0, ⟨#[]⟩, (⟨(⟨0, 0, 0, dz, 0⟩ : Head), 0, dz⟩ : Signed), (⟨0, 0, 0, 0, dz⟩ : Claim)⟩ : Entry)⟩ : Item) ++ ([.slice none 0 0] ++ (Zs (⟨0, 0, 0, 0, dz⟩ : Claim)))))) (nid := 2) (H' := [rwR Zh r.items, mxB 150 ([Iv r.kind, Iv r.epoch, Iv r.from_] ++ (Zr r.item ++ ([slv 0 0 p q] ++ (Zs r.claim)))), mxB 150 ([Iv 0, Iv 0, Iv 0] ++ (Zr (⟨0, (⟨0, 0, 0, ⟨#[]⟩, (⟨(⟨0, 0, 0, dz, 0⟩ : Head), 0, dz⟩ : Signed), (⟨0, 0, 0, 0, dz⟩ : Claim)⟩ : Entry)⟩ : Item) ++ ([.slice none 0 0] ++ (Zs (⟨0, 0, 0, 0, dz⟩ : Claim))))), hole]) rfl rfl (by kernel_rfl) (by kernel_rfl) ?_
  refine Zaa (p := pt 2 0) (v := mxV ([Iv r.kind, Iv 0, Iv 0] ++ (Zr (⟨0, (⟨0, 0, 0, ⟨#[]⟩, (⟨(⟨0, 0, 0, dz, 0⟩ : Head), 0, dz⟩ : Signed), (⟨0, 0, 0, 0, dz⟩ : Claim)⟩ : Entry)⟩ : Item) ++ ([.slice none 0 0] ++ (Zs (⟨0, 0, 0, 0, dz⟩ : Claim)))))) (b := 2) (blk := mxB 150 ([Iv r.kind, Iv 0, Iv 0] ++ (Zr (⟨0, (⟨0, 0, 0, ⟨#[]⟩, (⟨(⟨0, 0, 0, dz, 0⟩ : Head), 0, dz⟩ : Signed), (⟨0, 0, 0, 0, dz⟩ : Claim)⟩ : Entry)⟩ : Item) ++ ([.slice none 0 0] ++ (Zs (⟨0, 0, 0, 0, dz⟩ : Claim)))))) (H' := [rwR Zh r.items, mxB 150 ([Iv r.kind, Iv r.epoch, Iv r.from_] ++ (Zr r.item ++ ([slv 0 0 p q] ++ (Zs r.claim)))), mxB 150 ([Iv r.kind, Iv 0, Iv 0] ++ (Zr (⟨0, (⟨0, 0, 0, ⟨#[]⟩, (⟨(⟨0, 0, 0, dz, 0⟩ : Head), 0, dz⟩ : Signed), (⟨0, 0, 0, 0, dz⟩ : Claim)⟩ : Entry)⟩ : Item) ++ ([.slice none 0 0] ++ (Zs (⟨0, 0, 0, 0, dz⟩ : Claim))))), hole]) rfl rfl rfl (by kernel_rfl) (by kernel_rfl) ?_
  refine Zb (Zc (Zk (Zm (Zd rfl rfl (.bool false) rfl (Zb (Zc (Zk (Zk (Zm ?_)))))))))
  refine Ze (b := 1) (o := 0) (n := 0) (o' := 0) rfl rfl rfl rfl rfl ?_
  refine Zl (p := pt 1 0) (v := Iv r.kind) rfl rfl rfl (by kernel_rfl) ?_
  refine Zb (Zc (Zbm (Zk (Zm ?_))))
  by_cases h10 : r.kind = 1
  refine Zn (vx := Iv r.kind) (vy := Iv 1) rfl rfl (.bool true) rfl rfl (Zao (by omega)) ?_
  refine Zd rfl rfl (.bool true) rfl (Zb (Zc (Z4 rfl (Zk (Zm ?_)))))
  refine Ze (b := 1) (o := 0) (n := 1) (o' := 1) rfl rfl rfl rfl rfl ?_
  refine Zl (p := pt 1 1) (v := Iv r.epoch) rfl rfl rfl (by kernel_rfl) ?_
  refine Ze (b := 2) (o := 0) (n := 1) (o' := 1) rfl rfl rfl rfl rfl ?_
  refine Zaa (p := pt 2 1) (v := Iv r.epoch) (b := 2) (blk := mxB 150 ([Iv r.kind, Iv r.epoch, Iv 0] ++ (Zr (⟨0, (⟨0, 0, 0, ⟨#[]⟩, (⟨(⟨0, 0, 0, dz, 0⟩ : Head), 0, dz⟩ : Signed), (⟨0, 0, 0, 0, dz⟩ : Claim)⟩ : Entry)⟩ : Item) ++ ([.slice none 0 0] ++ (Zs (⟨0, 0, 0, 0, dz⟩ : Claim)))))) (H' := [rwR Zh r.items, mxB 150 ([Iv r.kind, Iv r.epoch, Iv r.from_] ++ (Zr r.item ++ ([slv 0 0 p q] ++ (Zs r.claim)))), mxB 150 ([Iv r.kind, Iv r.epoch, Iv 0] ++ (Zr (⟨0, (⟨0, 0, 0, ⟨#[]⟩, (⟨(⟨0, 0, 0, dz, 0⟩ : Head), 0, dz⟩ : Signed), (⟨0, 0, 0, 0, dz⟩ : Claim)⟩ : Entry)⟩ : Item) ++ ([.slice none 0 0] ++ (Zs (⟨0, 0, 0, 0, dz⟩ : Claim))))), hole]) rfl rfl rfl (by kernel_rfl) (by kernel_rfl) ?_
  refine Zb (Zc (Zm ?_))
  refine Ze (b := 1) (o := 0) (n := 1) (o' := 1) rfl rfl rfl rfl rfl ?_
  refine Zl (p := pt 1 1) (v := Iv r.epoch) rfl rfl rfl (by kernel_rfl) ?_
  by_cases h11 : 1 ≤ r.epoch
  by_cases h12 : r.epoch ≤ 900000000
  refine Zp ((Zas (G := G) r.epoch 1 900000000).res (congrArg Value.bool (Zaf (by omega) (by omega)))) (vals := [Iv r.epoch, Iv 1, Iv 900000000]) (res' := .bool true) rfl rfl rfl rfl rfl rfl ?_
  refine Zd rfl rfl (.bool true) rfl (Zb (Z2 (Zc (Zk (Zm (Zf rfl rfl (.bool true) rfl (Zf rfl rfl (.bool true) rfl ?_)))))))
  refine Ze (b := 2) (o := 0) (n := 1) (o' := 1) rfl rfl rfl rfl rfl ?_
  refine Zl (p := pt 2 1) (v := Iv r.epoch) rfl rfl rfl (by kernel_rfl) ?_
  refine Ze (b := 1) (o := 0) (n := 1) (o' := 1) rfl rfl rfl rfl rfl ?_
  refine Zl (p := pt 1 1) (v := Iv r.epoch) rfl rfl rfl (by kernel_rfl) ?_
  refine Zn (vx := Iv r.epoch) (vy := Iv r.epoch) rfl rfl (.bool true) rfl rfl (Zao (by omega)) ?_
  refine Zg rfl rfl (.bool true) rfl (Zf rfl rfl (.bool true) rfl ?_)
  refine Ze (b := 2) (o := 0) (n := 2) (o' := 2) rfl rfl rfl rfl rfl ?_
  refine Zl (p := pt 2 2) (v := Iv 0) rfl rfl rfl (by kernel_rfl) ?_
  refine Ze (b := 1) (o := 0) (n := 2) (o' := 2) rfl rfl rfl rfl rfl ?_
  refine Zl (p := pt 1 2) (v := Iv r.from_) rfl rfl rfl (by kernel_rfl) ?_
  by_cases h13 : 0 = r.from_
  refine Zn (vx := Iv 0) (vy := Iv r.from_) rfl rfl (.bool true) rfl rfl (Zao (by omega)) ?_
  refine Zg rfl rfl (.bool true) rfl (Zf rfl rfl (.bool true) rfl ?_)
  refine Ze (b := 2) (o := 0) (n := 3) (o' := 3) rfl rfl rfl rfl rfl ?_
  refine Zl (p := pt 2 3) (v := Zai (⟨0, (⟨0, 0, 0, ⟨#[]⟩, (⟨(⟨0, 0, 0, dz, 0⟩ : Head), 0, dz⟩ : Signed), (⟨0, 0, 0, 0, dz⟩ : Claim)⟩ : Entry)⟩ : Item)) rfl rfl rfl (by kernel_rfl) ?_
  refine Ze (b := 1) (o := 0) (n := 3) (o' := 3) rfl rfl rfl rfl rfl ?_
  refine Zl (p := pt 1 3) (v := Zai r.item) rfl rfl rfl (by kernel_rfl) ?_
  rcases Bool.eq_false_or_eq_true (Z5 (⟨0, (⟨0, 0, 0, ⟨#[]⟩, (⟨(⟨0, 0, 0, dz, 0⟩ : Head), 0, dz⟩ : Signed), (⟨0, 0, 0, 0, dz⟩ : Claim)⟩ : Entry)⟩ : Item) r.item) with h14 | h14
  refine Zn (vx := Zai (⟨0, (⟨0, 0, 0, ⟨#[]⟩, (⟨(⟨0, 0, 0, dz, 0⟩ : Head), 0, dz⟩ : Signed), (⟨0, 0, 0, 0, dz⟩ : Claim)⟩ : Entry)⟩ : Item)) (vy := Zai r.item) rfl rfl (.bool true) rfl rfl (Eq.trans (Zes (⟨0, (⟨0, 0, 0, ⟨#[]⟩, (⟨(⟨0, 0, 0, dz, 0⟩ : Head), 0, dz⟩ : Signed), (⟨0, 0, 0, 0, dz⟩ : Claim)⟩ : Entry)⟩ : Item) r.item) (by rw [h14] <;> rfl)) ?_
  refine Zg rfl rfl (.bool true) rfl (Zf rfl rfl (.bool true) rfl ?_)
  refine Ze (b := 2) (o := 0) (n := 114) (o' := 114) rfl rfl rfl rfl rfl ?_
  refine Zl (p := pt 2 114) (v := Z3 (⟨0, 0, 0, 0, dz⟩ : Claim)) rfl rfl rfl (by kernel_rfl) ?_
  refine Ze (b := 1) (o := 0) (n := 114) (o' := 114) rfl rfl rfl rfl rfl ?_
  refine Zl (p := pt 1 114) (v := Z3 r.claim) rfl rfl rfl (by kernel_rfl) ?_
  rcases Bool.eq_false_or_eq_true (Zw (⟨0, 0, 0, 0, dz⟩ : Claim) r.claim) with h15 | h15
  refine Zn (vx := Z3 (⟨0, 0, 0, 0, dz⟩ : Claim)) (vy := Z3 r.claim) rfl rfl (.bool true) rfl rfl (Eq.trans (Zcm (⟨0, 0, 0, 0, dz⟩ : Claim) r.claim) (by rw [h15] <;> rfl)) ?_
  refine Zg rfl rfl (.bool true) rfl (Zd rfl rfl (.bool true) rfl (Zb (Zc (Zq (Zo ?_)))))
  rw [show decide (Zce r) = true from decide_eq_true (by first | exact .inl ⟨by omega, by omega, by omega, (by first | assumption | exact Za9 _ | (rw [Zy]; assumption)), (by first | assumption | exact Zaq _ | (rw [Zu]; assumption)), by omega⟩ | exact .inr (.inl ⟨by omega, by omega, by omega, (by first | exact of_decide_eq_true (by assumption) | exact ⟨by omega, by omega, Zgk (by omega)⟩), (by first | assumption | exact Zaq _ | (rw [Zu]; assumption)), by omega⟩) | exact .inr (.inr (.inl ⟨by omega, by omega, by omega, (by first | assumption | exact Za9 _ | (rw [Zy]; assumption)), (by first | assumption | exact Zaq _ | (rw [Zu]; assumption)), (by first | exact of_decide_eq_true (by assumption) | exact Zby (by omega))⟩)) | exact .inr (.inr (.inr ⟨by omega, by omega, by omega, (by first | assumption | exact Za9 _ | (rw [Zy]; assumption)), (by first | exact of_decide_eq_true (by assumption) | exact Zgo (by omega)), by omega⟩)))]
  exact Zi (v := .bool true) rfl rfl rfl (by kernel_rfl) rfl
  refine Zn (vx := Z3 (⟨0, 0, 0, 0, dz⟩ : Claim)) (vy := Z3 r.claim) rfl rfl (.bool false) rfl rfl (Eq.trans (Zcm (⟨0, 0, 0, 0, dz⟩ : Claim) r.claim) (by rw [h15] <;> rfl)) ?_
  refine Zg rfl rfl (.bool false) rfl (Zd rfl rfl (.bool false) rfl (Zb (Zc (Zq (Zo ?_)))))
  rw [show decide (Zce r) = false from decide_eq_false (fun q => by rcases q with ⟨q1, q2, q3, q4, q5, q6⟩ | ⟨q1, q2, q3, q4, q5, q6⟩ | ⟨q1, q2, q3, q4, q5, q6⟩ | ⟨q1, q2, q3, q4, q5, q6⟩ <;> first | omega | (have := q4.1; have := q4.2.1; omega) | exact Zap (by omega) q4.2.2 | exact Zaj (by omega) q6 | exact Zah (by omega) q5 | exact absurd q4 (of_decide_eq_false (by assumption)) | exact absurd q5 (of_decide_eq_false (by assumption)) | exact absurd q6 (of_decide_eq_false (by assumption)) | (rw [‹Z5 _ _ = false›] at q4; cases q4) | (rw [Zy, ‹Z5 _ _ = false›] at q4; cases q4) | (rw [‹Zw _ _ = false›] at q5; cases q5) | (rw [Zu, ‹Zw _ _ = false›] at q5; cases q5))]
  exact Zi (v := .bool false) rfl rfl rfl (by kernel_rfl) rfl
  refine Zn (vx := Zai (⟨0, (⟨0, 0, 0, ⟨#[]⟩, (⟨(⟨0, 0, 0, dz, 0⟩ : Head), 0, dz⟩ : Signed), (⟨0, 0, 0, 0, dz⟩ : Claim)⟩ : Entry)⟩ : Item)) (vy := Zai r.item) rfl rfl (.bool false) rfl rfl (Eq.trans (Zes (⟨0, (⟨0, 0, 0, ⟨#[]⟩, (⟨(⟨0, 0, 0, dz, 0⟩ : Head), 0, dz⟩ : Signed), (⟨0, 0, 0, 0, dz⟩ : Claim)⟩ : Entry)⟩ : Item) r.item) (by rw [h14] <;> rfl)) ?_
  refine Zg rfl rfl (.bool false) rfl (Zf rfl rfl (.bool false) rfl (Za rfl rfl (Za rfl rfl (Za rfl rfl (Za rfl rfl (Za rfl rfl (Zg rfl rfl (.bool false) rfl (Zd rfl rfl (.bool false) rfl (Zb (Zc (Zq (Zo ?_))))))))))))
  rw [show decide (Zce r) = false from decide_eq_false (fun q => by rcases q with ⟨q1, q2, q3, q4, q5, q6⟩ | ⟨q1, q2, q3, q4, q5, q6⟩ | ⟨q1, q2, q3, q4, q5, q6⟩ | ⟨q1, q2, q3, q4, q5, q6⟩ <;> first | omega | (have := q4.1; have := q4.2.1; omega) | exact Zap (by omega) q4.2.2 | exact Zaj (by omega) q6 | exact Zah (by omega) q5 | exact absurd q4 (of_decide_eq_false (by assumption)) | exact absurd q5 (of_decide_eq_false (by assumption)) | exact absurd q6 (of_decide_eq_false (by assumption)) | (rw [‹Z5 _ _ = false›] at q4; cases q4) | (rw [Zy, ‹Z5 _ _ = false›] at q4; cases q4) | (rw [‹Zw _ _ = false›] at q5; cases q5) | (rw [Zu, ‹Zw _ _ = false›] at q5; cases q5))]
  exact Zi (v := .bool false) rfl rfl rfl (by kernel_rfl) rfl
  refine Zn (vx := Iv 0) (vy := Iv r.from_) rfl rfl (.bool false) rfl rfl (Zbf (by omega)) ?_
  refine Zg rfl rfl (.bool false) rfl (Zf rfl rfl (.bool false) rfl (Za rfl rfl (Za rfl rfl (Za rfl rfl (Za rfl rfl (Za rfl rfl (Zg rfl rfl (.bool false) rfl (Zf rfl rfl (.bool false) rfl (Za rfl rfl (Za rfl rfl (Za rfl rfl (Za rfl rfl (Za rfl rfl (Zg rfl rfl (.bool false) rfl (Zd rfl rfl (.bool false) rfl (Zb (Zc (Zq (Zo ?_)))))))))))))))))))
  rw [show decide (Zce r) = false from decide_eq_false (fun q => by rcases q with ⟨q1, q2, q3, q4, q5, q6⟩ | ⟨q1, q2, q3, q4, q5, q6⟩ | ⟨q1, q2, q3, q4, q5, q6⟩ | ⟨q1, q2, q3, q4, q5, q6⟩ <;> first | omega | (have := q4.1; have := q4.2.1; omega) | exact Zap (by omega) q4.2.2 | exact Zaj (by omega) q6 | exact Zah (by omega) q5 | exact absurd q4 (of_decide_eq_false (by assumption)) | exact absurd q5 (of_decide_eq_false (by assumption)) | exact absurd q6 (of_decide_eq_false (by assumption)) | (rw [‹Z5 _ _ = false›] at q4; cases q4) | (rw [Zy, ‹Z5 _ _ = false›] at q4; cases q4) | (rw [‹Zw _ _ = false›] at q5; cases q5) | (rw [Zu, ‹Zw _ _ = false›] at q5; cases q5))]
  exact Zi (v := .bool false) rfl rfl rfl (by kernel_rfl) rfl
  refine Zp ((Zas (G := G) r.epoch 1 900000000).res (congrArg Value.bool (Zt (by omega)))) (vals := [Iv r.epoch, Iv 1, Iv 900000000]) (res' := .bool false) rfl rfl rfl rfl rfl rfl ?_
  refine Zd rfl rfl (.bool false) rfl (Zb (Z2 (Zc (Zk (Zm (Zf rfl rfl (.bool false) rfl (Zf rfl rfl (.bool false) rfl (Za rfl rfl (Za rfl rfl (Za rfl rfl (Za rfl rfl (Za rfl rfl (Zg rfl rfl (.bool false) rfl (Zf rfl rfl (.bool false) rfl (Za rfl rfl (Za rfl rfl (Za rfl rfl (Za rfl rfl (Za rfl rfl (Zg rfl rfl (.bool false) rfl (Zf rfl rfl (.bool false) rfl (Za rfl rfl (Za rfl rfl (Za rfl rfl (Za rfl rfl (Za rfl rfl (Zg rfl rfl (.bool false) rfl ?_)))))))))))))))))))))))))))
  refine Zf rfl rfl (.bool false) rfl (Za rfl rfl (Za rfl rfl (Za rfl rfl (Za rfl rfl (Za rfl rfl (Zg rfl rfl (.bool false) rfl (Zd rfl rfl (.bool false) rfl (Zb (Zc (Zq (Zo ?_)))))))))))
  rw [show decide (Zce r) = false from decide_eq_false (fun q => by rcases q with ⟨q1, q2, q3, q4, q5, q6⟩ | ⟨q1, q2, q3, q4, q5, q6⟩ | ⟨q1, q2, q3, q4, q5, q6⟩ | ⟨q1, q2, q3, q4, q5, q6⟩ <;> first | omega | (have := q4.1; have := q4.2.1; omega) | exact Zap (by omega) q4.2.2 | exact Zaj (by omega) q6 | exact Zah (by omega) q5 | exact absurd q4 (of_decide_eq_false (by assumption)) | exact absurd q5 (of_decide_eq_false (by assumption)) | exact absurd q6 (of_decide_eq_false (by assumption)) | (rw [‹Z5 _ _ = false›] at q4; cases q4) | (rw [Zy, ‹Z5 _ _ = false›] at q4; cases q4) | (rw [‹Zw _ _ = false›] at q5; cases q5) | (rw [Zu, ‹Zw _ _ = false›] at q5; cases q5))]
  exact Zi (v := .bool false) rfl rfl rfl (by kernel_rfl) rfl
  refine Zp ((Zas (G := G) r.epoch 1 900000000).res (congrArg Value.bool (Zt (by omega)))) (vals := [Iv r.epoch, Iv 1, Iv 900000000]) (res' := .bool false) rfl rfl rfl rfl rfl rfl ?_
  refine Zd rfl rfl (.bool false) rfl (Zb (Z2 (Zc (Zk (Zm (Zf rfl rfl (.bool false) rfl (Zf rfl rfl (.bool false) rfl (Za rfl rfl (Za rfl rfl (Za rfl rfl (Za rfl rfl (Za rfl rfl (Zg rfl rfl (.bool false) rfl (Zf rfl rfl (.bool false) rfl (Za rfl rfl (Za rfl rfl (Za rfl rfl (Za rfl rfl (Za rfl rfl (Zg rfl rfl (.bool false) rfl (Zf rfl rfl (.bool false) rfl (Za rfl rfl (Za rfl rfl (Za rfl rfl (Za rfl rfl (Za rfl rfl (Zg rfl rfl (.bool false) rfl ?_)))))))))))))))))))))))))))
  refine Zf rfl rfl (.bool false) rfl (Za rfl rfl (Za rfl rfl (Za rfl rfl (Za rfl rfl (Za rfl rfl (Zg rfl rfl (.bool false) rfl (Zd rfl rfl (.bool false) rfl (Zb (Zc (Zq (Zo ?_)))))))))))
  rw [show decide (Zce r) = false from decide_eq_false (fun q => by rcases q with ⟨q1, q2, q3, q4, q5, q6⟩ | ⟨q1, q2, q3, q4, q5, q6⟩ | ⟨q1, q2, q3, q4, q5, q6⟩ | ⟨q1, q2, q3, q4, q5, q6⟩ <;> first | omega | (have := q4.1; have := q4.2.1; omega) | exact Zap (by omega) q4.2.2 | exact Zaj (by omega) q6 | exact Zah (by omega) q5 | exact absurd q4 (of_decide_eq_false (by assumption)) | exact absurd q5 (of_decide_eq_false (by assumption)) | exact absurd q6 (of_decide_eq_false (by assumption)) | (rw [‹Z5 _ _ = false›] at q4; cases q4) | (rw [Zy, ‹Z5 _ _ = false›] at q4; cases q4) | (rw [‹Zw _ _ = false›] at q5; cases q5) | (rw [Zu, ‹Zw _ _ = false›] at q5; cases q5))]
  exact Zi (v := .bool false) rfl rfl rfl (by kernel_rfl) rfl
  refine Zn (vx := Iv r.kind) (vy := Iv 1) rfl rfl (.bool false) rfl rfl (Zbf (by omega)) ?_
  refine Zd rfl rfl (.bool false) rfl (Zb (Zc (Zx rfl (Zk (Zm ?_)))))
  by_cases h16 : r.kind = 2
  refine Zn (vx := Iv r.kind) (vy := Iv 2) rfl rfl (.bool true) rfl rfl (Zao (by omega)) ?_
  refine Zd rfl rfl (.bool true) rfl (Zb (Zc (Z4 rfl (Zk (Zm ?_)))))
  refine Ze (b := 1) (o := 0) (n := 3) (o' := 3) rfl rfl rfl rfl rfl ?_
  refine Zl (p := pt 1 3) (v := Zai r.item) rfl rfl rfl (by kernel_rfl) ?_
  refine Ze (b := 2) (o := 0) (n := 3) (o' := 3) rfl rfl rfl rfl rfl ?_
  refine Zaa (p := pt 2 3) (v := Zai r.item) (b := 2) (blk := mxB 150 ([Iv r.kind, Iv 0, Iv 0] ++ (Zr r.item ++ ([.slice none 0 0] ++ (Zs (⟨0, 0, 0, 0, dz⟩ : Claim)))))) (H' := [rwR Zh r.items, mxB 150 ([Iv r.kind, Iv r.epoch, Iv r.from_] ++ (Zr r.item ++ ([slv 0 0 p q] ++ (Zs r.claim)))), mxB 150 ([Iv r.kind, Iv 0, Iv 0] ++ (Zr r.item ++ ([.slice none 0 0] ++ (Zs (⟨0, 0, 0, 0, dz⟩ : Claim))))), hole]) rfl rfl rfl (by kernel_rfl) (by kernel_rfl) ?_
  refine Zb (Zc (Zm ?_))
  refine Ze (b := 1) (o := 0) (n := 3) (o' := 3) rfl rfl rfl rfl rfl ?_
  refine Ze (b := 1) (o := 3) (n := 0) (o' := 3) rfl rfl rfl rfl rfl ?_
  refine Zl (p := pt 1 3) (v := Iv r.item.epoch) rfl rfl rfl (by kernel_rfl) ?_
  by_cases h17 : 1 ≤ r.item.epoch
  by_cases h18 : r.item.epoch ≤ 900000000
  refine Zp ((Zas (G := G) r.item.epoch 1 900000000).res (congrArg Value.bool (Zaf (by omega) (by omega)))) (vals := [Iv r.item.epoch, Iv 1, Iv 900000000]) (res' := .bool true) rfl rfl rfl rfl rfl rfl ?_
  refine Zf rfl rfl (.bool true) rfl ?_
  refine Ze (b := 1) (o := 0) (n := 3) (o' := 3) rfl rfl rfl rfl rfl ?_
  refine Ze (b := 1) (o := 3) (n := 1) (o' := 4) rfl rfl rfl rfl rfl ?_
  refine Zl (p := pt 1 4) (v := Zcn r.item.entry) rfl rfl rfl (by kernel_rfl) ?_
  refine Zp (Zj4 (G := G) r.item.entry) (vals := [Zcn r.item.entry]) (res' := Iv (Zet r.item.entry)) rfl rfl rfl rfl rfl rfl ?_
  by_cases h19 : (Zet r.item.entry) = 0
  refine Zn (vx := Iv (Zet r.item.entry)) (vy := Iv 0) rfl rfl (.bool true) rfl rfl (Zao (by omega)) ?_
  refine Zg rfl rfl (.bool true) rfl (Zd rfl rfl (.bool true) rfl (Zb (Z2 (Zc (Zk (Zm (Zf rfl rfl (.bool true) rfl (Zf rfl rfl (.bool true) rfl ?_))))))))
  refine Ze (b := 2) (o := 0) (n := 1) (o' := 1) rfl rfl rfl rfl rfl ?_
  refine Zl (p := pt 2 1) (v := Iv 0) rfl rfl rfl (by kernel_rfl) ?_
  refine Ze (b := 1) (o := 0) (n := 1) (o' := 1) rfl rfl rfl rfl rfl ?_
  refine Zl (p := pt 1 1) (v := Iv r.epoch) rfl rfl rfl (by kernel_rfl) ?_
  by_cases h20 : 0 = r.epoch
  refine Zn (vx := Iv 0) (vy := Iv r.epoch) rfl rfl (.bool true) rfl rfl (Zao (by omega)) ?_
  refine Zg rfl rfl (.bool true) rfl (Zf rfl rfl (.bool true) rfl ?_)
  refine Ze (b := 2) (o := 0) (n := 2) (o' := 2) rfl rfl rfl rfl rfl ?_
  refine Zl (p := pt 2 2) (v := Iv 0) rfl rfl rfl (by kernel_rfl) ?_
  refine Ze (b := 1) (o := 0) (n := 2) (o' := 2) rfl rfl rfl rfl rfl ?_
  refine Zl (p := pt 1 2) (v := Iv r.from_) rfl rfl rfl (by kernel_rfl) ?_
  by_cases h21 : 0 = r.from_
  refine Zn (vx := Iv 0) (vy := Iv r.from_) rfl rfl (.bool true) rfl rfl (Zao (by omega)) ?_
  refine Zg rfl rfl (.bool true) rfl (Zf rfl rfl (.bool true) rfl ?_)
  refine Ze (b := 2) (o := 0) (n := 3) (o' := 3) rfl rfl rfl rfl rfl ?_
  refine Zl (p := pt 2 3) (v := Zai r.item) rfl rfl rfl (by kernel_rfl) ?_
  refine Ze (b := 1) (o := 0) (n := 3) (o' := 3) rfl rfl rfl rfl rfl ?_
  refine Zl (p := pt 1 3) (v := Zai r.item) rfl rfl rfl (by kernel_rfl) ?_
  refine Zn (vx := Zai r.item) (vy := Zai r.item) rfl rfl (.bool true) rfl rfl (Eq.trans (Zes r.item r.item) (by rw [(Za9 _)] <;> rfl)) ?_
  refine Zg rfl rfl (.bool true) rfl (Zf rfl rfl (.bool true) rfl ?_)
  refine Ze (b := 2) (o := 0) (n := 114) (o' := 114) rfl rfl rfl rfl rfl ?_
  refine Zl (p := pt 2 114) (v := Z3 (⟨0, 0, 0, 0, dz⟩ : Claim)) rfl rfl rfl (by kernel_rfl) ?_
  refine Ze (b := 1) (o := 0) (n := 114) (o' := 114) rfl rfl rfl rfl rfl ?_
  refine Zl (p := pt 1 114) (v := Z3 r.claim) rfl rfl rfl (by kernel_rfl) ?_
  rcases Bool.eq_false_or_eq_true (Zw (⟨0, 0, 0, 0, dz⟩ : Claim) r.claim) with h22 | h22
  refine Zn (vx := Z3 (⟨0, 0, 0, 0, dz⟩ : Claim)) (vy := Z3 r.claim) rfl rfl (.bool true) rfl rfl (Eq.trans (Zcm (⟨0, 0, 0, 0, dz⟩ : Claim) r.claim) (by rw [h22] <;> rfl)) ?_
  refine Zg rfl rfl (.bool true) rfl (Zd rfl rfl (.bool true) rfl (Zb (Zc (Zq (Zo ?_)))))
  rw [show decide (Zce r) = true from decide_eq_true (by first | exact .inl ⟨by omega, by omega, by omega, (by first | assumption | exact Za9 _ | (rw [Zy]; assumption)), (by first | assumption | exact Zaq _ | (rw [Zu]; assumption)), by omega⟩ | exact .inr (.inl ⟨by omega, by omega, by omega, (by first | exact of_decide_eq_true (by assumption) | exact ⟨by omega, by omega, Zgk (by omega)⟩), (by first | assumption | exact Zaq _ | (rw [Zu]; assumption)), by omega⟩) | exact .inr (.inr (.inl ⟨by omega, by omega, by omega, (by first | assumption | exact Za9 _ | (rw [Zy]; assumption)), (by first | assumption | exact Zaq _ | (rw [Zu]; assumption)), (by first | exact of_decide_eq_true (by assumption) | exact Zby (by omega))⟩)) | exact .inr (.inr (.inr ⟨by omega, by omega, by omega, (by first | assumption | exact Za9 _ | (rw [Zy]; assumption)), (by first | exact of_decide_eq_true (by assumption) | exact Zgo (by omega)), by omega⟩)))]
  exact Zi (v := .bool true) rfl rfl rfl (by kernel_rfl) rfl
  refine Zn (vx := Z3 (⟨0, 0, 0, 0, dz⟩ : Claim)) (vy := Z3 r.claim) rfl rfl (.bool false) rfl rfl (Eq.trans (Zcm (⟨0, 0, 0, 0, dz⟩ : Claim) r.claim) (by rw [h22] <;> rfl)) ?_
  refine Zg rfl rfl (.bool false) rfl (Zd rfl rfl (.bool false) rfl (Zb (Zc (Zq (Zo ?_)))))
  rw [show decide (Zce r) = false from decide_eq_false (fun q => by rcases q with ⟨q1, q2, q3, q4, q5, q6⟩ | ⟨q1, q2, q3, q4, q5, q6⟩ | ⟨q1, q2, q3, q4, q5, q6⟩ | ⟨q1, q2, q3, q4, q5, q6⟩ <;> first | omega | (have := q4.1; have := q4.2.1; omega) | exact Zap (by omega) q4.2.2 | exact Zaj (by omega) q6 | exact Zah (by omega) q5 | exact absurd q4 (of_decide_eq_false (by assumption)) | exact absurd q5 (of_decide_eq_false (by assumption)) | exact absurd q6 (of_decide_eq_false (by assumption)) | (rw [‹Z5 _ _ = false›] at q4; cases q4) | (rw [Zy, ‹Z5 _ _ = false›] at q4; cases q4) | (rw [‹Zw _ _ = false›] at q5; cases q5) | (rw [Zu, ‹Zw _ _ = false›] at q5; cases q5))]
  exact Zi (v := .bool false) rfl rfl rfl (by kernel_rfl) rfl
  refine Zn (vx := Iv 0) (vy := Iv r.from_) rfl rfl (.bool false) rfl rfl (Zbf (by omega)) ?_
  refine Zg rfl rfl (.bool false) rfl (Zf rfl rfl (.bool false) rfl (Za rfl rfl (Za rfl rfl (Za rfl rfl (Za rfl rfl (Za rfl rfl (Zg rfl rfl (.bool false) rfl (Zf rfl rfl (.bool false) rfl (Za rfl rfl (Za rfl rfl (Za rfl rfl (Za rfl rfl (Za rfl rfl (Zg rfl rfl (.bool false) rfl (Zd rfl rfl (.bool false) rfl (Zb (Zc (Zq (Zo ?_)))))))))))))))))))
  rw [show decide (Zce r) = false from decide_eq_false (fun q => by rcases q with ⟨q1, q2, q3, q4, q5, q6⟩ | ⟨q1, q2, q3, q4, q5, q6⟩ | ⟨q1, q2, q3, q4, q5, q6⟩ | ⟨q1, q2, q3, q4, q5, q6⟩ <;> first | omega | (have := q4.1; have := q4.2.1; omega) | exact Zap (by omega) q4.2.2 | exact Zaj (by omega) q6 | exact Zah (by omega) q5 | exact absurd q4 (of_decide_eq_false (by assumption)) | exact absurd q5 (of_decide_eq_false (by assumption)) | exact absurd q6 (of_decide_eq_false (by assumption)) | (rw [‹Z5 _ _ = false›] at q4; cases q4) | (rw [Zy, ‹Z5 _ _ = false›] at q4; cases q4) | (rw [‹Zw _ _ = false›] at q5; cases q5) | (rw [Zu, ‹Zw _ _ = false›] at q5; cases q5))]
  exact Zi (v := .bool false) rfl rfl rfl (by kernel_rfl) rfl
  refine Zn (vx := Iv 0) (vy := Iv r.epoch) rfl rfl (.bool false) rfl rfl (Zbf (by omega)) ?_
  refine Zg rfl rfl (.bool false) rfl (Zf rfl rfl (.bool false) rfl (Za rfl rfl (Za rfl rfl (Za rfl rfl (Za rfl rfl (Za rfl rfl (Zg rfl rfl (.bool false) rfl (Zf rfl rfl (.bool false) rfl (Za rfl rfl (Za rfl rfl (Za rfl rfl (Za rfl rfl (Za rfl rfl (Zg rfl rfl (.bool false) rfl (Zf rfl rfl (.bool false) rfl (Za rfl rfl (Za rfl rfl (Za rfl rfl (Za rfl rfl (Za rfl rfl (Zg rfl rfl (.bool false) rfl (Zd rfl rfl (.bool false) rfl (Zb (Zc (Zq (Zo ?_))))))))))))))))))))))))))
  rw [show decide (Zce r) = false from decide_eq_false (fun q => by rcases q with ⟨q1, q2, q3, q4, q5, q6⟩ | ⟨q1, q2, q3, q4, q5, q6⟩ | ⟨q1, q2, q3, q4, q5, q6⟩ | ⟨q1, q2, q3, q4, q5, q6⟩ <;> first | omega | (have := q4.1; have := q4.2.1; omega) | exact Zap (by omega) q4.2.2 | exact Zaj (by omega) q6 | exact Zah (by omega) q5 | exact absurd q4 (of_decide_eq_false (by assumption)) | exact absurd q5 (of_decide_eq_false (by assumption)) | exact absurd q6 (of_decide_eq_false (by assumption)) | (rw [‹Z5 _ _ = false›] at q4; cases q4) | (rw [Zy, ‹Z5 _ _ = false›] at q4; cases q4) | (rw [‹Zw _ _ = false›] at q5; cases q5) | (rw [Zu, ‹Zw _ _ = false›] at q5; cases q5))]
  exact Zi (v := .bool false) rfl rfl rfl (by kernel_rfl) rfl
  refine Zn (vx := Iv (Zet r.item.entry)) (vy := Iv 0) rfl rfl (.bool false) rfl rfl (Zbf (by omega)) ?_
  refine Zg rfl rfl (.bool false) rfl (Zd rfl rfl (.bool false) rfl (Zb (Z2 (Zc (Zk (Zm (Zf rfl rfl (.bool false) rfl (Zf rfl rfl (.bool false) rfl (Za rfl rfl (Za rfl rfl (Za rfl rfl (Za rfl rfl (Za rfl rfl (Zg rfl rfl (.bool false) rfl (Zf rfl rfl (.bool false) rfl (Za rfl rfl (Za rfl rfl (Za rfl rfl (Za rfl rfl (Za rfl rfl (Zg rfl rfl (.bool false) rfl (Zf rfl rfl (.bool false) rfl (Za rfl rfl (Za rfl rfl (Za rfl rfl (Za rfl rfl (Za rfl rfl ?_)))))))))))))))))))))))))))
  refine Zg rfl rfl (.bool false) rfl (Zf rfl rfl (.bool false) rfl (Za rfl rfl (Za rfl rfl (Za rfl rfl (Za rfl rfl (Za rfl rfl (Zg rfl rfl (.bool false) rfl (Zd rfl rfl (.bool false) rfl (Zb (Zc (Zq (Zo ?_))))))))))))
  rw [show decide (Zce r) = false from decide_eq_false (fun q => by rcases q with ⟨q1, q2, q3, q4, q5, q6⟩ | ⟨q1, q2, q3, q4, q5, q6⟩ | ⟨q1, q2, q3, q4, q5, q6⟩ | ⟨q1, q2, q3, q4, q5, q6⟩ <;> first | omega | (have := q4.1; have := q4.2.1; omega) | exact Zap (by omega) q4.2.2 | exact Zaj (by omega) q6 | exact Zah (by omega) q5 | exact absurd q4 (of_decide_eq_false (by assumption)) | exact absurd q5 (of_decide_eq_false (by assumption)) | exact absurd q6 (of_decide_eq_false (by assumption)) | (rw [‹Z5 _ _ = false›] at q4; cases q4) | (rw [Zy, ‹Z5 _ _ = false›] at q4; cases q4) | (rw [‹Zw _ _ = false›] at q5; cases q5) | (rw [Zu, ‹Zw _ _ = false›] at q5; cases q5))]
  exact Zi (v := .bool false) rfl rfl rfl (by kernel_rfl) rfl
  refine Zp ((Zas (G := G) r.item.epoch 1 900000000).res (congrArg Value.bool (Zt (by omega)))) (vals := [Iv r.item.epoch, Iv 1, Iv 900000000]) (res' := .bool false) rfl rfl rfl rfl rfl rfl ?_
  refine Zf rfl rfl (.bool false) rfl (Za rfl rfl (Za rfl rfl (Za rfl rfl (Za rfl rfl (Za rfl rfl (Zg rfl rfl (.bool false) rfl (Zd rfl rfl (.bool false) rfl (Zb (Z2 (Zc (Zk (Zm (Zf rfl rfl (.bool false) rfl (Zf rfl rfl (.bool false) rfl (Za rfl rfl (Za rfl rfl (Za rfl rfl (Za rfl rfl (Za rfl rfl (Zg rfl rfl (.bool false) rfl (Zf rfl rfl (.bool false) rfl (Za rfl rfl (Za rfl rfl (Za rfl rfl (Za rfl rfl (Za rfl rfl (Zg rfl rfl (.bool false) rfl ?_)))))))))))))))))))))))))))
  refine Zf rfl rfl (.bool false) rfl (Za rfl rfl (Za rfl rfl (Za rfl rfl (Za rfl rfl (Za rfl rfl (Zg rfl rfl (.bool false) rfl (Zf rfl rfl (.bool false) rfl (Za rfl rfl (Za rfl rfl (Za rfl rfl (Za rfl rfl (Za rfl rfl (Zg rfl rfl (.bool false) rfl (Zd rfl rfl (.bool false) rfl (Zb (Zc (Zq (Zo ?_))))))))))))))))))
  rw [show decide (Zce r) = false from decide_eq_false (fun q => by rcases q with ⟨q1, q2, q3, q4, q5, q6⟩ | ⟨q1, q2, q3, q4, q5, q6⟩ | ⟨q1, q2, q3, q4, q5, q6⟩ | ⟨q1, q2, q3, q4, q5, q6⟩ <;> first | omega | (have := q4.1; have := q4.2.1; omega) | exact Zap (by omega) q4.2.2 | exact Zaj (by omega) q6 | exact Zah (by omega) q5 | exact absurd q4 (of_decide_eq_false (by assumption)) | exact absurd q5 (of_decide_eq_false (by assumption)) | exact absurd q6 (of_decide_eq_false (by assumption)) | (rw [‹Z5 _ _ = false›] at q4; cases q4) | (rw [Zy, ‹Z5 _ _ = false›] at q4; cases q4) | (rw [‹Zw _ _ = false›] at q5; cases q5) | (rw [Zu, ‹Zw _ _ = false›] at q5; cases q5))]
  exact Zi (v := .bool false) rfl rfl rfl (by kernel_rfl) rfl
  refine Zp ((Zas (G := G) r.item.epoch 1 900000000).res (congrArg Value.bool (Zt (by omega)))) (vals := [Iv r.item.epoch, Iv 1, Iv 900000000]) (res' := .bool false) rfl rfl rfl rfl rfl rfl ?_
  refine Zf rfl rfl (.bool false) rfl (Za rfl rfl (Za rfl rfl (Za rfl rfl (Za rfl rfl (Za rfl rfl (Zg rfl rfl (.bool false) rfl (Zd rfl rfl (.bool false) rfl (Zb (Z2 (Zc (Zk (Zm (Zf rfl rfl (.bool false) rfl (Zf rfl rfl (.bool false) rfl (Za rfl rfl (Za rfl rfl (Za rfl rfl (Za rfl rfl (Za rfl rfl (Zg rfl rfl (.bool false) rfl (Zf rfl rfl (.bool false) rfl (Za rfl rfl (Za rfl rfl (Za rfl rfl (Za rfl rfl (Za rfl rfl (Zg rfl rfl (.bool false) rfl ?_)))))))))))))))))))))))))))
  refine Zf rfl rfl (.bool false) rfl (Za rfl rfl (Za rfl rfl (Za rfl rfl (Za rfl rfl (Za rfl rfl (Zg rfl rfl (.bool false) rfl (Zf rfl rfl (.bool false) rfl (Za rfl rfl (Za rfl rfl (Za rfl rfl (Za rfl rfl (Za rfl rfl (Zg rfl rfl (.bool false) rfl (Zd rfl rfl (.bool false) rfl (Zb (Zc (Zq (Zo ?_))))))))))))))))))
  rw [show decide (Zce r) = false from decide_eq_false (fun q => by rcases q with ⟨q1, q2, q3, q4, q5, q6⟩ | ⟨q1, q2, q3, q4, q5, q6⟩ | ⟨q1, q2, q3, q4, q5, q6⟩ | ⟨q1, q2, q3, q4, q5, q6⟩ <;> first | omega | (have := q4.1; have := q4.2.1; omega) | exact Zap (by omega) q4.2.2 | exact Zaj (by omega) q6 | exact Zah (by omega) q5 | exact absurd q4 (of_decide_eq_false (by assumption)) | exact absurd q5 (of_decide_eq_false (by assumption)) | exact absurd q6 (of_decide_eq_false (by assumption)) | (rw [‹Z5 _ _ = false›] at q4; cases q4) | (rw [Zy, ‹Z5 _ _ = false›] at q4; cases q4) | (rw [‹Zw _ _ = false›] at q5; cases q5) | (rw [Zu, ‹Zw _ _ = false›] at q5; cases q5))]
  exact Zi (v := .bool false) rfl rfl rfl (by kernel_rfl) rfl
  refine Zn (vx := Iv r.kind) (vy := Iv 2) rfl rfl (.bool false) rfl rfl (Zbf (by omega)) ?_
  refine Zd rfl rfl (.bool false) rfl (Zb (Zc (Zx rfl (Zk (Zm ?_)))))
  by_cases h23 : r.kind = 3
  refine Zn (vx := Iv r.kind) (vy := Iv 3) rfl rfl (.bool true) rfl rfl (Zao (by omega)) ?_
  refine Zd rfl rfl (.bool true) rfl (Zb (Zc (Z4 rfl (Zk ?_))))
  refine Zd6 (by kernel_rfl) ?_
  refine Ze (b := 1) (o := 0) (n := 1) (o' := 1) rfl rfl rfl rfl rfl ?_
  refine Zl (p := pt 1 1) (v := Iv r.epoch) rfl rfl rfl (by kernel_rfl) ?_
  refine Ze (b := 1) (o := 0) (n := 2) (o' := 2) rfl rfl rfl rfl rfl ?_
  refine Zl (p := pt 1 2) (v := Iv r.from_) rfl rfl rfl (by kernel_rfl) ?_
  refine Ze (b := 2) (o := 0) (n := 1) (o' := 1) rfl rfl rfl rfl rfl ?_
  refine Zaa (p := pt 2 1) (v := Iv r.epoch) (b := 2) (blk := mxB 150 ([Iv r.kind, Iv r.epoch, Iv 0] ++ (Zr (⟨0, (⟨0, 0, 0, ⟨#[]⟩, (⟨(⟨0, 0, 0, dz, 0⟩ : Head), 0, dz⟩ : Signed), (⟨0, 0, 0, 0, dz⟩ : Claim)⟩ : Entry)⟩ : Item) ++ ([.slice none 0 0] ++ (Zs (⟨0, 0, 0, 0, dz⟩ : Claim)))))) (H' := [rwR Zh r.items, mxB 150 ([Iv r.kind, Iv r.epoch, Iv r.from_] ++ (Zr r.item ++ ([slv 0 0 p q] ++ (Zs r.claim)))), mxB 150 ([Iv r.kind, Iv r.epoch, Iv 0] ++ (Zr (⟨0, (⟨0, 0, 0, ⟨#[]⟩, (⟨(⟨0, 0, 0, dz, 0⟩ : Head), 0, dz⟩ : Signed), (⟨0, 0, 0, 0, dz⟩ : Claim)⟩ : Entry)⟩ : Item) ++ ([.slice none 0 0] ++ (Zs (⟨0, 0, 0, 0, dz⟩ : Claim))))), hole]) rfl rfl rfl (by kernel_rfl) (by kernel_rfl) ?_
  refine Ze (b := 2) (o := 0) (n := 2) (o' := 2) rfl rfl rfl rfl rfl ?_
  refine Zaa (p := pt 2 2) (v := Iv r.from_) (b := 2) (blk := mxB 150 ([Iv r.kind, Iv r.epoch, Iv r.from_] ++ (Zr (⟨0, (⟨0, 0, 0, ⟨#[]⟩, (⟨(⟨0, 0, 0, dz, 0⟩ : Head), 0, dz⟩ : Signed), (⟨0, 0, 0, 0, dz⟩ : Claim)⟩ : Entry)⟩ : Item) ++ ([.slice none 0 0] ++ (Zs (⟨0, 0, 0, 0, dz⟩ : Claim)))))) (H' := [rwR Zh r.items, mxB 150 ([Iv r.kind, Iv r.epoch, Iv r.from_] ++ (Zr r.item ++ ([slv 0 0 p q] ++ (Zs r.claim)))), mxB 150 ([Iv r.kind, Iv r.epoch, Iv r.from_] ++ (Zr (⟨0, (⟨0, 0, 0, ⟨#[]⟩, (⟨(⟨0, 0, 0, dz, 0⟩ : Head), 0, dz⟩ : Signed), (⟨0, 0, 0, 0, dz⟩ : Claim)⟩ : Entry)⟩ : Item) ++ ([.slice none 0 0] ++ (Zs (⟨0, 0, 0, 0, dz⟩ : Claim))))), hole]) rfl rfl rfl (by kernel_rfl) (by kernel_rfl) ?_
  refine Zbe (Zan [[], [0], [], [2], [0, 1], [0, 1, 4], [0, 1, 2, 3, 4, 5], [0, 1, 2, 3, 4, 5, 6]] (by kernel_rfl) (by kernel_rfl)) ?_
  refine Zc (Zm ?_)
  refine Ze (b := 1) (o := 0) (n := 1) (o' := 1) rfl rfl rfl rfl rfl ?_
  refine Zl (p := pt 1 1) (v := Iv r.epoch) rfl rfl rfl (by kernel_rfl) ?_
  by_cases h24 : 1 ≤ r.epoch
  by_cases h25 : r.epoch ≤ 900000000
  refine Zp ((Zas (G := G) r.epoch 1 900000000).res (congrArg Value.bool (Zaf (by omega) (by omega)))) (vals := [Iv r.epoch, Iv 1, Iv 900000000]) (res' := .bool true) rfl rfl rfl rfl rfl rfl ?_
  refine Zf rfl rfl (.bool true) rfl ?_
  refine Ze (b := 1) (o := 0) (n := 2) (o' := 2) rfl rfl rfl rfl rfl ?_
  refine Zl (p := pt 1 2) (v := Iv r.from_) rfl rfl rfl (by kernel_rfl) ?_
  by_cases h26 : 0 ≤ r.from_
  by_cases h27 : r.from_ ≤ 2000
  refine Zp ((Zas (G := G) r.from_ 0 2000).res (congrArg Value.bool (Zaf (by omega) (by omega)))) (vals := [Iv r.from_, Iv 0, Iv 2000]) (res' := .bool true) rfl rfl rfl rfl rfl rfl ?_
  refine Zg rfl rfl (.bool true) rfl (Zf rfl rfl (.bool true) rfl ?_)
  refine Ze (b := 1) (o := 0) (n := 113) (o' := 113) rfl rfl rfl rfl rfl ?_
  refine Zl (p := pt 1 113) (v := slv 0 0 p q) rfl rfl rfl (by kernel_rfl) ?_
  refine Z9 (e := [some (0, 0)]) (nid := 0) (Zhu (G := G) r.items p q hp (by omega) (by omega)) (vals := [slv 0 0 p q]) (v := Iv (Zfc r.items)) (H' := [rwR Zh r.items, mxB 150 ([Iv r.kind, Iv r.epoch, Iv r.from_] ++ (Zr r.item ++ ([slv 0 0 p q] ++ (Zs r.claim)))), mxB 150 ([Iv r.kind, Iv r.epoch, Iv r.from_] ++ (Zr (⟨0, (⟨0, 0, 0, ⟨#[]⟩, (⟨(⟨0, 0, 0, dz, 0⟩ : Head), 0, dz⟩ : Signed), (⟨0, 0, 0, 0, dz⟩ : Claim)⟩ : Entry)⟩ : Item) ++ ([.slice none 0 0] ++ (Zs (⟨0, 0, 0, 0, dz⟩ : Claim))))), hole]) rfl rfl rfl rfl rfl rfl rfl ⟨⟨⟨rfl, rfl, rfl, by first | omega | exact Nat.le_refl _, by first | omega | exact Nat.le_refl _⟩, trivial⟩, ⟨(Zab rfl), trivial⟩, rfl, rfl, rfl⟩ rfl (by kernel_rfl) ?_
  by_cases h28 : (Zfc r.items) = 0
  refine Zn (vx := Iv (Zfc r.items)) (vy := Iv 0) rfl rfl (.bool true) rfl rfl (Zao (by omega)) ?_
  refine Zg rfl rfl (.bool true) rfl (Zd rfl rfl (.bool true) rfl (Zb (Z2 (Zc (Zk (Zm (Zf rfl rfl (.bool true) rfl (Zf rfl rfl (.bool true) rfl ?_))))))))
  refine Ze (b := 2) (o := 0) (n := 1) (o' := 1) rfl rfl rfl rfl rfl ?_
  refine Zl (p := pt 2 1) (v := Iv r.epoch) rfl rfl rfl (by kernel_rfl) ?_
  refine Ze (b := 1) (o := 0) (n := 1) (o' := 1) rfl rfl rfl rfl rfl ?_
  refine Zl (p := pt 1 1) (v := Iv r.epoch) rfl rfl rfl (by kernel_rfl) ?_
  refine Zn (vx := Iv r.epoch) (vy := Iv r.epoch) rfl rfl (.bool true) rfl rfl (Zao (by omega)) ?_
  refine Zg rfl rfl (.bool true) rfl (Zf rfl rfl (.bool true) rfl ?_)
  refine Ze (b := 2) (o := 0) (n := 2) (o' := 2) rfl rfl rfl rfl rfl ?_
  refine Zl (p := pt 2 2) (v := Iv r.from_) rfl rfl rfl (by kernel_rfl) ?_
  refine Ze (b := 1) (o := 0) (n := 2) (o' := 2) rfl rfl rfl rfl rfl ?_
  refine Zl (p := pt 1 2) (v := Iv r.from_) rfl rfl rfl (by kernel_rfl) ?_
  refine Zn (vx := Iv r.from_) (vy := Iv r.from_) rfl rfl (.bool true) rfl rfl (Zao (by omega)) ?_
  refine Zg rfl rfl (.bool true) rfl (Zf rfl rfl (.bool true) rfl ?_)
  refine Ze (b := 2) (o := 0) (n := 3) (o' := 3) rfl rfl rfl rfl rfl ?_
  refine Zl (p := pt 2 3) (v := Zai (⟨0, (⟨0, 0, 0, ⟨#[]⟩, (⟨(⟨0, 0, 0, dz, 0⟩ : Head), 0, dz⟩ : Signed), (⟨0, 0, 0, 0, dz⟩ : Claim)⟩ : Entry)⟩ : Item)) rfl rfl rfl (by kernel_rfl) ?_
  refine Ze (b := 1) (o := 0) (n := 3) (o' := 3) rfl rfl rfl rfl rfl ?_
  refine Zl (p := pt 1 3) (v := Zai r.item) rfl rfl rfl (by kernel_rfl) ?_
  rcases Bool.eq_false_or_eq_true (Z5 (⟨0, (⟨0, 0, 0, ⟨#[]⟩, (⟨(⟨0, 0, 0, dz, 0⟩ : Head), 0, dz⟩ : Signed), (⟨0, 0, 0, 0, dz⟩ : Claim)⟩ : Entry)⟩ : Item) r.item) with h29 | h29
  refine Zn (vx := Zai (⟨0, (⟨0, 0, 0, ⟨#[]⟩, (⟨(⟨0, 0, 0, dz, 0⟩ : Head), 0, dz⟩ : Signed), (⟨0, 0, 0, 0, dz⟩ : Claim)⟩ : Entry)⟩ : Item)) (vy := Zai r.item) rfl rfl (.bool true) rfl rfl (Eq.trans (Zes (⟨0, (⟨0, 0, 0, ⟨#[]⟩, (⟨(⟨0, 0, 0, dz, 0⟩ : Head), 0, dz⟩ : Signed), (⟨0, 0, 0, 0, dz⟩ : Claim)⟩ : Entry)⟩ : Item) r.item) (by rw [h29] <;> rfl)) ?_
  refine Zg rfl rfl (.bool true) rfl (Zf rfl rfl (.bool true) rfl ?_)
  refine Ze (b := 2) (o := 0) (n := 114) (o' := 114) rfl rfl rfl rfl rfl ?_
  refine Zl (p := pt 2 114) (v := Z3 (⟨0, 0, 0, 0, dz⟩ : Claim)) rfl rfl rfl (by kernel_rfl) ?_
  refine Ze (b := 1) (o := 0) (n := 114) (o' := 114) rfl rfl rfl rfl rfl ?_
  refine Zl (p := pt 1 114) (v := Z3 r.claim) rfl rfl rfl (by kernel_rfl) ?_
  rcases Bool.eq_false_or_eq_true (Zw (⟨0, 0, 0, 0, dz⟩ : Claim) r.claim) with h30 | h30
  refine Zn (vx := Z3 (⟨0, 0, 0, 0, dz⟩ : Claim)) (vy := Z3 r.claim) rfl rfl (.bool true) rfl rfl (Eq.trans (Zcm (⟨0, 0, 0, 0, dz⟩ : Claim) r.claim) (by rw [h30] <;> rfl)) ?_
  refine Zg rfl rfl (.bool true) rfl (Zd rfl rfl (.bool true) rfl (Zb (Zc (Zq (Zo ?_)))))
  rw [show decide (Zce r) = true from decide_eq_true (by first | exact .inl ⟨by omega, by omega, by omega, (by first | assumption | exact Za9 _ | (rw [Zy]; assumption)), (by first | assumption | exact Zaq _ | (rw [Zu]; assumption)), by omega⟩ | exact .inr (.inl ⟨by omega, by omega, by omega, (by first | exact of_decide_eq_true (by assumption) | exact ⟨by omega, by omega, Zgk (by omega)⟩), (by first | assumption | exact Zaq _ | (rw [Zu]; assumption)), by omega⟩) | exact .inr (.inr (.inl ⟨by omega, by omega, by omega, (by first | assumption | exact Za9 _ | (rw [Zy]; assumption)), (by first | assumption | exact Zaq _ | (rw [Zu]; assumption)), (by first | exact of_decide_eq_true (by assumption) | exact Zby (by omega))⟩)) | exact .inr (.inr (.inr ⟨by omega, by omega, by omega, (by first | assumption | exact Za9 _ | (rw [Zy]; assumption)), (by first | exact of_decide_eq_true (by assumption) | exact Zgo (by omega)), by omega⟩)))]
  exact Zi (v := .bool true) rfl rfl rfl (by kernel_rfl) rfl
  refine Zn (vx := Z3 (⟨0, 0, 0, 0, dz⟩ : Claim)) (vy := Z3 r.claim) rfl rfl (.bool false) rfl rfl (Eq.trans (Zcm (⟨0, 0, 0, 0, dz⟩ : Claim) r.claim) (by rw [h30] <;> rfl)) ?_
  refine Zg rfl rfl (.bool false) rfl (Zd rfl rfl (.bool false) rfl (Zb (Zc (Zq (Zo ?_)))))
  rw [show decide (Zce r) = false from decide_eq_false (fun q => by rcases q with ⟨q1, q2, q3, q4, q5, q6⟩ | ⟨q1, q2, q3, q4, q5, q6⟩ | ⟨q1, q2, q3, q4, q5, q6⟩ | ⟨q1, q2, q3, q4, q5, q6⟩ <;> first | omega | (have := q4.1; have := q4.2.1; omega) | exact Zap (by omega) q4.2.2 | exact Zaj (by omega) q6 | exact Zah (by omega) q5 | exact absurd q4 (of_decide_eq_false (by assumption)) | exact absurd q5 (of_decide_eq_false (by assumption)) | exact absurd q6 (of_decide_eq_false (by assumption)) | (rw [‹Z5 _ _ = false›] at q4; cases q4) | (rw [Zy, ‹Z5 _ _ = false›] at q4; cases q4) | (rw [‹Zw _ _ = false›] at q5; cases q5) | (rw [Zu, ‹Zw _ _ = false›] at q5; cases q5))]
  exact Zi (v := .bool false) rfl rfl rfl (by kernel_rfl) rfl
  refine Zn (vx := Zai (⟨0, (⟨0, 0, 0, ⟨#[]⟩, (⟨(⟨0, 0, 0, dz, 0⟩ : Head), 0, dz⟩ : Signed), (⟨0, 0, 0, 0, dz⟩ : Claim)⟩ : Entry)⟩ : Item)) (vy := Zai r.item) rfl rfl (.bool false) rfl rfl (Eq.trans (Zes (⟨0, (⟨0, 0, 0, ⟨#[]⟩, (⟨(⟨0, 0, 0, dz, 0⟩ : Head), 0, dz⟩ : Signed), (⟨0, 0, 0, 0, dz⟩ : Claim)⟩ : Entry)⟩ : Item) r.item) (by rw [h29] <;> rfl)) ?_
  refine Zg rfl rfl (.bool false) rfl (Zf rfl rfl (.bool false) rfl (Za rfl rfl (Za rfl rfl (Za rfl rfl (Za rfl rfl (Za rfl rfl (Zg rfl rfl (.bool false) rfl (Zd rfl rfl (.bool false) rfl (Zb (Zc (Zq (Zo ?_))))))))))))
  rw [show decide (Zce r) = false from decide_eq_false (fun q => by rcases q with ⟨q1, q2, q3, q4, q5, q6⟩ | ⟨q1, q2, q3, q4, q5, q6⟩ | ⟨q1, q2, q3, q4, q5, q6⟩ | ⟨q1, q2, q3, q4, q5, q6⟩ <;> first | omega | (have := q4.1; have := q4.2.1; omega) | exact Zap (by omega) q4.2.2 | exact Zaj (by omega) q6 | exact Zah (by omega) q5 | exact absurd q4 (of_decide_eq_false (by assumption)) | exact absurd q5 (of_decide_eq_false (by assumption)) | exact absurd q6 (of_decide_eq_false (by assumption)) | (rw [‹Z5 _ _ = false›] at q4; cases q4) | (rw [Zy, ‹Z5 _ _ = false›] at q4; cases q4) | (rw [‹Zw _ _ = false›] at q5; cases q5) | (rw [Zu, ‹Zw _ _ = false›] at q5; cases q5))]
  exact Zi (v := .bool false) rfl rfl rfl (by kernel_rfl) rfl
  refine Zn (vx := Iv (Zfc r.items)) (vy := Iv 0) rfl rfl (.bool false) rfl rfl (Zbf (by omega)) ?_
  refine Zg rfl rfl (.bool false) rfl (Zd rfl rfl (.bool false) rfl (Zb (Z2 (Zc (Zk (Zm (Zf rfl rfl (.bool false) rfl (Zf rfl rfl (.bool false) rfl (Za rfl rfl (Za rfl rfl (Za rfl rfl (Za rfl rfl (Za rfl rfl (Zg rfl rfl (.bool false) rfl (Zf rfl rfl (.bool false) rfl (Za rfl rfl (Za rfl rfl (Za rfl rfl (Za rfl rfl (Za rfl rfl (Zg rfl rfl (.bool false) rfl (Zf rfl rfl (.bool false) rfl (Za rfl rfl (Za rfl rfl (Za rfl rfl (Za rfl rfl (Za rfl rfl ?_)))))))))))))))))))))))))))
  refine Zg rfl rfl (.bool false) rfl (Zf rfl rfl (.bool false) rfl (Za rfl rfl (Za rfl rfl (Za rfl rfl (Za rfl rfl (Za rfl rfl (Zg rfl rfl (.bool false) rfl (Zd rfl rfl (.bool false) rfl (Zb (Zc (Zq (Zo ?_))))))))))))
  rw [show decide (Zce r) = false from decide_eq_false (fun q => by rcases q with ⟨q1, q2, q3, q4, q5, q6⟩ | ⟨q1, q2, q3, q4, q5, q6⟩ | ⟨q1, q2, q3, q4, q5, q6⟩ | ⟨q1, q2, q3, q4, q5, q6⟩ <;> first | omega | (have := q4.1; have := q4.2.1; omega) | exact Zap (by omega) q4.2.2 | exact Zaj (by omega) q6 | exact Zah (by omega) q5 | exact absurd q4 (of_decide_eq_false (by assumption)) | exact absurd q5 (of_decide_eq_false (by assumption)) | exact absurd q6 (of_decide_eq_false (by assumption)) | (rw [‹Z5 _ _ = false›] at q4; cases q4) | (rw [Zy, ‹Z5 _ _ = false›] at q4; cases q4) | (rw [‹Zw _ _ = false›] at q5; cases q5) | (rw [Zu, ‹Zw _ _ = false›] at q5; cases q5))]
  exact Zi (v := .bool false) rfl rfl rfl (by kernel_rfl) rfl
  refine Zp ((Zas (G := G) r.from_ 0 2000).res (congrArg Value.bool (Zt (by omega)))) (vals := [Iv r.from_, Iv 0, Iv 2000]) (res' := .bool false) rfl rfl rfl rfl rfl rfl ?_
  refine Zg rfl rfl (.bool false) rfl (Zf rfl rfl (.bool false) rfl (Za rfl rfl (Za rfl rfl (Za rfl rfl (Za rfl rfl (Zg rfl rfl (.bool false) rfl (Zd rfl rfl (.bool false) rfl (Zb (Z2 (Zc (Zk (Zm (Zf rfl rfl (.bool false) rfl (Zf rfl rfl (.bool false) rfl (Za rfl rfl (Za rfl rfl (Za rfl rfl (Za rfl rfl (Za rfl rfl (Zg rfl rfl (.bool false) rfl (Zf rfl rfl (.bool false) rfl (Za rfl rfl (Za rfl rfl (Za rfl rfl (Za rfl rfl (Za rfl rfl ?_))))))))))))))))))))))))))
  refine Zg rfl rfl (.bool false) rfl (Zf rfl rfl (.bool false) rfl (Za rfl rfl (Za rfl rfl (Za rfl rfl (Za rfl rfl (Za rfl rfl (Zg rfl rfl (.bool false) rfl (Zf rfl rfl (.bool false) rfl (Za rfl rfl (Za rfl rfl (Za rfl rfl (Za rfl rfl (Za rfl rfl (Zg rfl rfl (.bool false) rfl (Zd rfl rfl (.bool false) rfl (Zb (Zc (Zq (Zo ?_)))))))))))))))))))
  rw [show decide (Zce r) = false from decide_eq_false (fun q => by rcases q with ⟨q1, q2, q3, q4, q5, q6⟩ | ⟨q1, q2, q3, q4, q5, q6⟩ | ⟨q1, q2, q3, q4, q5, q6⟩ | ⟨q1, q2, q3, q4, q5, q6⟩ <;> first | omega | (have := q4.1; have := q4.2.1; omega) | exact Zap (by omega) q4.2.2 | exact Zaj (by omega) q6 | exact Zah (by omega) q5 | exact absurd q4 (of_decide_eq_false (by assumption)) | exact absurd q5 (of_decide_eq_false (by assumption)) | exact absurd q6 (of_decide_eq_false (by assumption)) | (rw [‹Z5 _ _ = false›] at q4; cases q4) | (rw [Zy, ‹Z5 _ _ = false›] at q4; cases q4) | (rw [‹Zw _ _ = false›] at q5; cases q5) | (rw [Zu, ‹Zw _ _ = false›] at q5; cases q5))]
  exact Zi (v := .bool false) rfl rfl rfl (by kernel_rfl) rfl
  refine Zp ((Zas (G := G) r.from_ 0 2000).res (congrArg Value.bool (Zt (by omega)))) (vals := [Iv r.from_, Iv 0, Iv 2000]) (res' := .bool false) rfl rfl rfl rfl rfl rfl ?_
  refine Zg rfl rfl (.bool false) rfl (Zf rfl rfl (.bool false) rfl (Za rfl rfl (Za rfl rfl (Za rfl rfl (Za rfl rfl (Zg rfl rfl (.bool false) rfl (Zd rfl rfl (.bool false) rfl (Zb (Z2 (Zc (Zk (Zm (Zf rfl rfl (.bool false) rfl (Zf rfl rfl (.bool false) rfl (Za rfl rfl (Za rfl rfl (Za rfl rfl (Za rfl rfl (Za rfl rfl (Zg rfl rfl (.bool false) rfl (Zf rfl rfl (.bool false) rfl (Za rfl rfl (Za rfl rfl (Za rfl rfl (Za rfl rfl (Za rfl rfl ?_))))))))))))))))))))))))))
  refine Zg rfl rfl (.bool false) rfl (Zf rfl rfl (.bool false) rfl (Za rfl rfl (Za rfl rfl (Za rfl rfl (Za rfl rfl (Za rfl rfl (Zg rfl rfl (.bool false) rfl (Zf rfl rfl (.bool false) rfl (Za rfl rfl (Za rfl rfl (Za rfl rfl (Za rfl rfl (Za rfl rfl (Zg rfl rfl (.bool false) rfl (Zd rfl rfl (.bool false) rfl (Zb (Zc (Zq (Zo ?_)))))))))))))))))))
  rw [show decide (Zce r) = false from decide_eq_false (fun q => by rcases q with ⟨q1, q2, q3, q4, q5, q6⟩ | ⟨q1, q2, q3, q4, q5, q6⟩ | ⟨q1, q2, q3, q4, q5, q6⟩ | ⟨q1, q2, q3, q4, q5, q6⟩ <;> first | omega | (have := q4.1; have := q4.2.1; omega) | exact Zap (by omega) q4.2.2 | exact Zaj (by omega) q6 | exact Zah (by omega) q5 | exact absurd q4 (of_decide_eq_false (by assumption)) | exact absurd q5 (of_decide_eq_false (by assumption)) | exact absurd q6 (of_decide_eq_false (by assumption)) | (rw [‹Z5 _ _ = false›] at q4; cases q4) | (rw [Zy, ‹Z5 _ _ = false›] at q4; cases q4) | (rw [‹Zw _ _ = false›] at q5; cases q5) | (rw [Zu, ‹Zw _ _ = false›] at q5; cases q5))]
  exact Zi (v := .bool false) rfl rfl rfl (by kernel_rfl) rfl
  refine Zp ((Zas (G := G) r.epoch 1 900000000).res (congrArg Value.bool (Zt (by omega)))) (vals := [Iv r.epoch, Iv 1, Iv 900000000]) (res' := .bool false) rfl rfl rfl rfl rfl rfl ?_
  refine Zf rfl rfl (.bool false) rfl (Za rfl rfl (Za rfl rfl (Za rfl rfl (Zg rfl rfl (.bool false) rfl (Zf rfl rfl (.bool false) rfl (Za rfl rfl (Za rfl rfl (Za rfl rfl (Za rfl rfl (Zg rfl rfl (.bool false) rfl (Zd rfl rfl (.bool false) rfl (Zb (Z2 (Zc (Zk (Zm (Zf rfl rfl (.bool false) rfl (Zf rfl rfl (.bool false) rfl (Za rfl rfl (Za rfl rfl (Za rfl rfl (Za rfl rfl (Za rfl rfl (Zg rfl rfl (.bool false) rfl ?_))))))))))))))))))))))))
  refine Zf rfl rfl (.bool false) rfl (Za rfl rfl (Za rfl rfl (Za rfl rfl (Za rfl rfl (Za rfl rfl (Zg rfl rfl (.bool false) rfl (Zf rfl rfl (.bool false) rfl (Za rfl rfl (Za rfl rfl (Za rfl rfl (Za rfl rfl (Za rfl rfl (Zg rfl rfl (.bool false) rfl (Zf rfl rfl (.bool false) rfl (Za rfl rfl (Za rfl rfl (Za rfl rfl (Za rfl rfl (Za rfl rfl (Zg rfl rfl (.bool false) rfl (Zd rfl rfl (.bool false) rfl (Zb (Zc (Zq (Zo ?_)))))))))))))))))))))))))
  rw [show decide (Zce r) = false from decide_eq_false (fun q => by rcases q with ⟨q1, q2, q3, q4, q5, q6⟩ | ⟨q1, q2, q3, q4, q5, q6⟩ | ⟨q1, q2, q3, q4, q5, q6⟩ | ⟨q1, q2, q3, q4, q5, q6⟩ <;> first | omega | (have := q4.1; have := q4.2.1; omega) | exact Zap (by omega) q4.2.2 | exact Zaj (by omega) q6 | exact Zah (by omega) q5 | exact absurd q4 (of_decide_eq_false (by assumption)) | exact absurd q5 (of_decide_eq_false (by assumption)) | exact absurd q6 (of_decide_eq_false (by assumption)) | (rw [‹Z5 _ _ = false›] at q4; cases q4) | (rw [Zy, ‹Z5 _ _ = false›] at q4; cases q4) | (rw [‹Zw _ _ = false›] at q5; cases q5) | (rw [Zu, ‹Zw _ _ = false›] at q5; cases q5))]
  exact Zi (v := .bool false) rfl rfl rfl (by kernel_rfl) rfl
  refine Zp ((Zas (G := G) r.epoch 1 900000000).res (congrArg Value.bool (Zt (by omega)))) (vals := [Iv r.epoch, Iv 1, Iv 900000000]) (res' := .bool false) rfl rfl rfl rfl rfl rfl ?_
  refine Zf rfl rfl (.bool false) rfl (Za rfl rfl (Za rfl rfl (Za rfl rfl (Zg rfl rfl (.bool false) rfl (Zf rfl rfl (.bool false) rfl (Za rfl rfl (Za rfl rfl (Za rfl rfl (Za rfl rfl (Zg rfl rfl (.bool false) rfl (Zd rfl rfl (.bool false) rfl (Zb (Z2 (Zc (Zk (Zm (Zf rfl rfl (.bool false) rfl (Zf rfl rfl (.bool false) rfl (Za rfl rfl (Za rfl rfl (Za rfl rfl (Za rfl rfl (Za rfl rfl (Zg rfl rfl (.bool false) rfl ?_))))))))))))))))))))))))
  refine Zf rfl rfl (.bool false) rfl (Za rfl rfl (Za rfl rfl (Za rfl rfl (Za rfl rfl (Za rfl rfl (Zg rfl rfl (.bool false) rfl (Zf rfl rfl (.bool false) rfl (Za rfl rfl (Za rfl rfl (Za rfl rfl (Za rfl rfl (Za rfl rfl (Zg rfl rfl (.bool false) rfl (Zf rfl rfl (.bool false) rfl (Za rfl rfl (Za rfl rfl (Za rfl rfl (Za rfl rfl (Za rfl rfl (Zg rfl rfl (.bool false) rfl (Zd rfl rfl (.bool false) rfl (Zb (Zc (Zq (Zo ?_)))))))))))))))))))))))))
  rw [show decide (Zce r) = false from decide_eq_false (fun q => by rcases q with ⟨q1, q2, q3, q4, q5, q6⟩ | ⟨q1, q2, q3, q4, q5, q6⟩ | ⟨q1, q2, q3, q4, q5, q6⟩ | ⟨q1, q2, q3, q4, q5, q6⟩ <;> first | omega | (have := q4.1; have := q4.2.1; omega) | exact Zap (by omega) q4.2.2 | exact Zaj (by omega) q6 | exact Zah (by omega) q5 | exact absurd q4 (of_decide_eq_false (by assumption)) | exact absurd q5 (of_decide_eq_false (by assumption)) | exact absurd q6 (of_decide_eq_false (by assumption)) | (rw [‹Z5 _ _ = false›] at q4; cases q4) | (rw [Zy, ‹Z5 _ _ = false›] at q4; cases q4) | (rw [‹Zw _ _ = false›] at q5; cases q5) | (rw [Zu, ‹Zw _ _ = false›] at q5; cases q5))]
  exact Zi (v := .bool false) rfl rfl rfl (by kernel_rfl) rfl
  refine Zn (vx := Iv r.kind) (vy := Iv 3) rfl rfl (.bool false) rfl rfl (Zbf (by omega)) ?_
  refine Zd rfl rfl (.bool false) rfl (Zb (Zc (Zx rfl (Zk (Zm ?_)))))
  by_cases h31 : r.kind = 4
  refine Zn (vx := Iv r.kind) (vy := Iv 4) rfl rfl (.bool true) rfl rfl (Zao (by omega)) ?_
  refine Zd rfl rfl (.bool true) rfl (Zb (Zc (Z4 rfl (Zk (Zm ?_)))))
  refine Ze (b := 1) (o := 0) (n := 114) (o' := 114) rfl rfl rfl rfl rfl ?_
  refine Zl (p := pt 1 114) (v := Z3 r.claim) rfl rfl rfl (by kernel_rfl) ?_
  refine Ze (b := 2) (o := 0) (n := 114) (o' := 114) rfl rfl rfl rfl rfl ?_
  refine Zaa (p := pt 2 114) (v := Z3 r.claim) (b := 2) (blk := mxB 150 ([Iv r.kind, Iv 0, Iv 0] ++ (Zr (⟨0, (⟨0, 0, 0, ⟨#[]⟩, (⟨(⟨0, 0, 0, dz, 0⟩ : Head), 0, dz⟩ : Signed), (⟨0, 0, 0, 0, dz⟩ : Claim)⟩ : Entry)⟩ : Item) ++ ([.slice none 0 0] ++ (Zs r.claim))))) (H' := [rwR Zh r.items, mxB 150 ([Iv r.kind, Iv r.epoch, Iv r.from_] ++ (Zr r.item ++ ([slv 0 0 p q] ++ (Zs r.claim)))), mxB 150 ([Iv r.kind, Iv 0, Iv 0] ++ (Zr (⟨0, (⟨0, 0, 0, ⟨#[]⟩, (⟨(⟨0, 0, 0, dz, 0⟩ : Head), 0, dz⟩ : Signed), (⟨0, 0, 0, 0, dz⟩ : Claim)⟩ : Entry)⟩ : Item) ++ ([.slice none 0 0] ++ (Zs r.claim)))), hole]) rfl rfl rfl (by kernel_rfl) (by kernel_rfl) ?_
  refine Zb (Zc (Zm ?_))
  refine Ze (b := 1) (o := 0) (n := 114) (o' := 114) rfl rfl rfl rfl rfl ?_
  refine Zl (p := pt 1 114) (v := Z3 r.claim) rfl rfl rfl (by kernel_rfl) ?_
  refine Zrj (vs := [(0, Z3 r.claim)]) (v := slv 3 0 1 1) (blk := rwB Zj [r.claim]) (nid := 3) (H' := [rwR Zh r.items, mxB 150 ([Iv r.kind, Iv r.epoch, Iv r.from_] ++ (Zr r.item ++ ([slv 0 0 p q] ++ (Zs r.claim)))), mxB 150 ([Iv r.kind, Iv 0, Iv 0] ++ (Zr (⟨0, (⟨0, 0, 0, ⟨#[]⟩, (⟨(⟨0, 0, 0, dz, 0⟩ : Head), 0, dz⟩ : Signed), (⟨0, 0, 0, 0, dz⟩ : Claim)⟩ : Entry)⟩ : Item) ++ ([.slice none 0 0] ++ (Zs r.claim)))), rwB Zj [r.claim]]) rfl rfl rfl (by kernel_rfl) (by kernel_rfl) ?_
  refine Z9 (e := [some (3, 0)]) (nid := 0) (Zmk (G := G) [r.claim] 1 1 (rfl : _ = 1) (by omega) (by omega)) (vals := [slv 3 0 1 1]) (v := Iv (Ze1 [r.claim])) (H' := [rwR Zh r.items, mxB 150 ([Iv r.kind, Iv r.epoch, Iv r.from_] ++ (Zr r.item ++ ([slv 0 0 p q] ++ (Zs r.claim)))), mxB 150 ([Iv r.kind, Iv 0, Iv 0] ++ (Zr (⟨0, (⟨0, 0, 0, ⟨#[]⟩, (⟨(⟨0, 0, 0, dz, 0⟩ : Head), 0, dz⟩ : Signed), (⟨0, 0, 0, 0, dz⟩ : Claim)⟩ : Entry)⟩ : Item) ++ ([.slice none 0 0] ++ (Zs r.claim)))), rwB Zj [r.claim]]) rfl rfl rfl rfl rfl rfl rfl ⟨⟨⟨rfl, rfl, rfl, by first | omega | exact Nat.le_refl _, by first | omega | exact Nat.le_refl _⟩, trivial⟩, ⟨(Za1 rfl), trivial⟩, rfl, rfl, rfl⟩ rfl (by kernel_rfl) ?_
  by_cases h32 : (Ze1 [r.claim]) = 0
  refine Zn (vx := Iv (Ze1 [r.claim])) (vy := Iv 0) rfl rfl (.bool true) rfl rfl (Zao (by omega)) ?_
  refine Zd rfl rfl (.bool true) rfl (Zb (Z2 (Zc (Zk (Zm (Zf rfl rfl (.bool true) rfl (Zf rfl rfl (.bool true) rfl ?_)))))))
  refine Ze (b := 2) (o := 0) (n := 1) (o' := 1) rfl rfl rfl rfl rfl ?_
  refine Zl (p := pt 2 1) (v := Iv 0) rfl rfl rfl (by kernel_rfl) ?_
  refine Ze (b := 1) (o := 0) (n := 1) (o' := 1) rfl rfl rfl rfl rfl ?_
  refine Zl (p := pt 1 1) (v := Iv r.epoch) rfl rfl rfl (by kernel_rfl) ?_
  by_cases h33 : 0 = r.epoch
  refine Zn (vx := Iv 0) (vy := Iv r.epoch) rfl rfl (.bool true) rfl rfl (Zao (by omega)) ?_
  refine Zg rfl rfl (.bool true) rfl (Zf rfl rfl (.bool true) rfl ?_)
  refine Ze (b := 2) (o := 0) (n := 2) (o' := 2) rfl rfl rfl rfl rfl ?_
  refine Zl (p := pt 2 2) (v := Iv 0) rfl rfl rfl (by kernel_rfl) ?_
  refine Ze (b := 1) (o := 0) (n := 2) (o' := 2) rfl rfl rfl rfl rfl ?_
  refine Zl (p := pt 1 2) (v := Iv r.from_) rfl rfl rfl (by kernel_rfl) ?_
  by_cases h34 : 0 = r.from_
  refine Zn (vx := Iv 0) (vy := Iv r.from_) rfl rfl (.bool true) rfl rfl (Zao (by omega)) ?_
  refine Zg rfl rfl (.bool true) rfl (Zf rfl rfl (.bool true) rfl ?_)
  refine Ze (b := 2) (o := 0) (n := 3) (o' := 3) rfl rfl rfl rfl rfl ?_
  refine Zl (p := pt 2 3) (v := Zai (⟨0, (⟨0, 0, 0, ⟨#[]⟩, (⟨(⟨0, 0, 0, dz, 0⟩ : Head), 0, dz⟩ : Signed), (⟨0, 0, 0, 0, dz⟩ : Claim)⟩ : Entry)⟩ : Item)) rfl rfl rfl (by kernel_rfl) ?_
  refine Ze (b := 1) (o := 0) (n := 3) (o' := 3) rfl rfl rfl rfl rfl ?_
  refine Zl (p := pt 1 3) (v := Zai r.item) rfl rfl rfl (by kernel_rfl) ?_
  rcases Bool.eq_false_or_eq_true (Z5 (⟨0, (⟨0, 0, 0, ⟨#[]⟩, (⟨(⟨0, 0, 0, dz, 0⟩ : Head), 0, dz⟩ : Signed), (⟨0, 0, 0, 0, dz⟩ : Claim)⟩ : Entry)⟩ : Item) r.item) with h35 | h35
  refine Zn (vx := Zai (⟨0, (⟨0, 0, 0, ⟨#[]⟩, (⟨(⟨0, 0, 0, dz, 0⟩ : Head), 0, dz⟩ : Signed), (⟨0, 0, 0, 0, dz⟩ : Claim)⟩ : Entry)⟩ : Item)) (vy := Zai r.item) rfl rfl (.bool true) rfl rfl (Eq.trans (Zes (⟨0, (⟨0, 0, 0, ⟨#[]⟩, (⟨(⟨0, 0, 0, dz, 0⟩ : Head), 0, dz⟩ : Signed), (⟨0, 0, 0, 0, dz⟩ : Claim)⟩ : Entry)⟩ : Item) r.item) (by rw [h35] <;> rfl)) ?_
  refine Zg rfl rfl (.bool true) rfl (Zf rfl rfl (.bool true) rfl ?_)
  refine Ze (b := 2) (o := 0) (n := 114) (o' := 114) rfl rfl rfl rfl rfl ?_
  refine Zl (p := pt 2 114) (v := Z3 r.claim) rfl rfl rfl (by kernel_rfl) ?_
  refine Ze (b := 1) (o := 0) (n := 114) (o' := 114) rfl rfl rfl rfl rfl ?_
  refine Zl (p := pt 1 114) (v := Z3 r.claim) rfl rfl rfl (by kernel_rfl) ?_
  refine Zn (vx := Z3 r.claim) (vy := Z3 r.claim) rfl rfl (.bool true) rfl rfl (Eq.trans (Zcm r.claim r.claim) (by rw [(Zaq _)] <;> rfl)) ?_
  refine Zg rfl rfl (.bool true) rfl (Zd rfl rfl (.bool true) rfl (Zb (Zc (Zq (Zo ?_)))))
  rw [show decide (Zce r) = true from decide_eq_true (by first | exact .inl ⟨by omega, by omega, by omega, (by first | assumption | exact Za9 _ | (rw [Zy]; assumption)), (by first | assumption | exact Zaq _ | (rw [Zu]; assumption)), by omega⟩ | exact .inr (.inl ⟨by omega, by omega, by omega, (by first | exact of_decide_eq_true (by assumption) | exact ⟨by omega, by omega, Zgk (by omega)⟩), (by first | assumption | exact Zaq _ | (rw [Zu]; assumption)), by omega⟩) | exact .inr (.inr (.inl ⟨by omega, by omega, by omega, (by first | assumption | exact Za9 _ | (rw [Zy]; assumption)), (by first | assumption | exact Zaq _ | (rw [Zu]; assumption)), (by first | exact of_decide_eq_true (by assumption) | exact Zby (by omega))⟩)) | exact .inr (.inr (.inr ⟨by omega, by omega, by omega, (by first | assumption | exact Za9 _ | (rw [Zy]; assumption)), (by first | exact of_decide_eq_true (by assumption) | exact Zgo (by omega)), by omega⟩)))]
  exact Zi (v := .bool true) rfl rfl rfl (by kernel_rfl) rfl
  refine Zn (vx := Zai (⟨0, (⟨0, 0, 0, ⟨#[]⟩, (⟨(⟨0, 0, 0, dz, 0⟩ : Head), 0, dz⟩ : Signed), (⟨0, 0, 0, 0, dz⟩ : Claim)⟩ : Entry)⟩ : Item)) (vy := Zai r.item) rfl rfl (.bool false) rfl rfl (Eq.trans (Zes (⟨0, (⟨0, 0, 0, ⟨#[]⟩, (⟨(⟨0, 0, 0, dz, 0⟩ : Head), 0, dz⟩ : Signed), (⟨0, 0, 0, 0, dz⟩ : Claim)⟩ : Entry)⟩ : Item) r.item) (by rw [h35] <;> rfl)) ?_
  refine Zg rfl rfl (.bool false) rfl (Zf rfl rfl (.bool false) rfl (Za rfl rfl (Za rfl rfl (Za rfl rfl (Za rfl rfl (Za rfl rfl (Zg rfl rfl (.bool false) rfl (Zd rfl rfl (.bool false) rfl (Zb (Zc (Zq (Zo ?_))))))))))))
  rw [show decide (Zce r) = false from decide_eq_false (fun q => by rcases q with ⟨q1, q2, q3, q4, q5, q6⟩ | ⟨q1, q2, q3, q4, q5, q6⟩ | ⟨q1, q2, q3, q4, q5, q6⟩ | ⟨q1, q2, q3, q4, q5, q6⟩ <;> first | omega | (have := q4.1; have := q4.2.1; omega) | exact Zap (by omega) q4.2.2 | exact Zaj (by omega) q6 | exact Zah (by omega) q5 | exact absurd q4 (of_decide_eq_false (by assumption)) | exact absurd q5 (of_decide_eq_false (by assumption)) | exact absurd q6 (of_decide_eq_false (by assumption)) | (rw [‹Z5 _ _ = false›] at q4; cases q4) | (rw [Zy, ‹Z5 _ _ = false›] at q4; cases q4) | (rw [‹Zw _ _ = false›] at q5; cases q5) | (rw [Zu, ‹Zw _ _ = false›] at q5; cases q5))]
  exact Zi (v := .bool false) rfl rfl rfl (by kernel_rfl) rfl
  refine Zn (vx := Iv 0) (vy := Iv r.from_) rfl rfl (.bool false) rfl rfl (Zbf (by omega)) ?_
  refine Zg rfl rfl (.bool false) rfl (Zf rfl rfl (.bool false) rfl (Za rfl rfl (Za rfl rfl (Za rfl rfl (Za rfl rfl (Za rfl rfl (Zg rfl rfl (.bool false) rfl (Zf rfl rfl (.bool false) rfl (Za rfl rfl (Za rfl rfl (Za rfl rfl (Za rfl rfl (Za rfl rfl (Zg rfl rfl (.bool false) rfl (Zd rfl rfl (.bool false) rfl (Zb (Zc (Zq (Zo ?_)))))))))))))))))))
  rw [show decide (Zce r) = false from decide_eq_false (fun q => by rcases q with ⟨q1, q2, q3, q4, q5, q6⟩ | ⟨q1, q2, q3, q4, q5, q6⟩ | ⟨q1, q2, q3, q4, q5, q6⟩ | ⟨q1, q2, q3, q4, q5, q6⟩ <;> first | omega | (have := q4.1; have := q4.2.1; omega) | exact Zap (by omega) q4.2.2 | exact Zaj (by omega) q6 | exact Zah (by omega) q5 | exact absurd q4 (of_decide_eq_false (by assumption)) | exact absurd q5 (of_decide_eq_false (by assumption)) | exact absurd q6 (of_decide_eq_false (by assumption)) | (rw [‹Z5 _ _ = false›] at q4; cases q4) | (rw [Zy, ‹Z5 _ _ = false›] at q4; cases q4) | (rw [‹Zw _ _ = false›] at q5; cases q5) | (rw [Zu, ‹Zw _ _ = false›] at q5; cases q5))]
  exact Zi (v := .bool false) rfl rfl rfl (by kernel_rfl) rfl
  refine Zn (vx := Iv 0) (vy := Iv r.epoch) rfl rfl (.bool false) rfl rfl (Zbf (by omega)) ?_
  refine Zg rfl rfl (.bool false) rfl (Zf rfl rfl (.bool false) rfl (Za rfl rfl (Za rfl rfl (Za rfl rfl (Za rfl rfl (Za rfl rfl (Zg rfl rfl (.bool false) rfl (Zf rfl rfl (.bool false) rfl (Za rfl rfl (Za rfl rfl (Za rfl rfl (Za rfl rfl (Za rfl rfl (Zg rfl rfl (.bool false) rfl (Zf rfl rfl (.bool false) rfl (Za rfl rfl (Za rfl rfl (Za rfl rfl (Za rfl rfl (Za rfl rfl (Zg rfl rfl (.bool false) rfl (Zd rfl rfl (.bool false) rfl (Zb (Zc (Zq (Zo ?_))))))))))))))))))))))))))
  rw [show decide (Zce r) = false from decide_eq_false (fun q => by rcases q with ⟨q1, q2, q3, q4, q5, q6⟩ | ⟨q1, q2, q3, q4, q5, q6⟩ | ⟨q1, q2, q3, q4, q5, q6⟩ | ⟨q1, q2, q3, q4, q5, q6⟩ <;> first | omega | (have := q4.1; have := q4.2.1; omega) | exact Zap (by omega) q4.2.2 | exact Zaj (by omega) q6 | exact Zah (by omega) q5 | exact absurd q4 (of_decide_eq_false (by assumption)) | exact absurd q5 (of_decide_eq_false (by assumption)) | exact absurd q6 (of_decide_eq_false (by assumption)) | (rw [‹Z5 _ _ = false›] at q4; cases q4) | (rw [Zy, ‹Z5 _ _ = false›] at q4; cases q4) | (rw [‹Zw _ _ = false›] at q5; cases q5) | (rw [Zu, ‹Zw _ _ = false›] at q5; cases q5))]
  exact Zi (v := .bool false) rfl rfl rfl (by kernel_rfl) rfl
  refine Zn (vx := Iv (Ze1 [r.claim])) (vy := Iv 0) rfl rfl (.bool false) rfl rfl (Zbf (by omega)) ?_
  refine Zd rfl rfl (.bool false) rfl (Zb (Z2 (Zc (Zk (Zm (Zf rfl rfl (.bool false) rfl (Zf rfl rfl (.bool false) rfl (Za rfl rfl (Za rfl rfl (Za rfl rfl (Za rfl rfl (Za rfl rfl (Zg rfl rfl (.bool false) rfl (Zf rfl rfl (.bool false) rfl (Za rfl rfl (Za rfl rfl (Za rfl rfl (Za rfl rfl (Za rfl rfl (Zg rfl rfl (.bool false) rfl (Zf rfl rfl (.bool false) rfl (Za rfl rfl (Za rfl rfl (Za rfl rfl (Za rfl rfl (Za rfl rfl (Zg rfl rfl (.bool false) rfl ?_)))))))))))))))))))))))))))
  refine Zf rfl rfl (.bool false) rfl (Za rfl rfl (Za rfl rfl (Za rfl rfl (Za rfl rfl (Za rfl rfl (Zg rfl rfl (.bool false) rfl (Zd rfl rfl (.bool false) rfl (Zb (Zc (Zq (Zo ?_)))))))))))
  rw [show decide (Zce r) = false from decide_eq_false (fun q => by rcases q with ⟨q1, q2, q3, q4, q5, q6⟩ | ⟨q1, q2, q3, q4, q5, q6⟩ | ⟨q1, q2, q3, q4, q5, q6⟩ | ⟨q1, q2, q3, q4, q5, q6⟩ <;> first | omega | (have := q4.1; have := q4.2.1; omega) | exact Zap (by omega) q4.2.2 | exact Zaj (by omega) q6 | exact Zah (by omega) q5 | exact absurd q4 (of_decide_eq_false (by assumption)) | exact absurd q5 (of_decide_eq_false (by assumption)) | exact absurd q6 (of_decide_eq_false (by assumption)) | (rw [‹Z5 _ _ = false›] at q4; cases q4) | (rw [Zy, ‹Z5 _ _ = false›] at q4; cases q4) | (rw [‹Zw _ _ = false›] at q5; cases q5) | (rw [Zu, ‹Zw _ _ = false›] at q5; cases q5))]
  exact Zi (v := .bool false) rfl rfl rfl (by kernel_rfl) rfl
  refine Zn (vx := Iv r.kind) (vy := Iv 4) rfl rfl (.bool false) rfl rfl (Zbf (by omega)) ?_
  refine Zd rfl rfl (.bool false) rfl (Zb (Zc (Zx rfl (Z8 (Z2 (Zc (Zk (Zm (Zf rfl rfl (.bool false) rfl (Zf rfl rfl (.bool false) rfl (Za rfl rfl (Za rfl rfl (Za rfl rfl (Za rfl rfl (Za rfl rfl (Zg rfl rfl (.bool false) rfl (Zf rfl rfl (.bool false) rfl (Za rfl rfl (Za rfl rfl (Za rfl rfl (Za rfl rfl (Za rfl rfl (Zg rfl rfl (.bool false) rfl (Zf rfl rfl (.bool false) rfl (Za rfl rfl (Za rfl rfl (Za rfl rfl (Za rfl rfl (Za rfl rfl (Zg rfl rfl (.bool false) rfl ?_))))))))))))))))))))))))))))))
  refine Zf rfl rfl (.bool false) rfl (Za rfl rfl (Za rfl rfl (Za rfl rfl (Za rfl rfl (Za rfl rfl (Zg rfl rfl (.bool false) rfl (Zd rfl rfl (.bool false) rfl (Zb (Zc (Zq (Zo ?_)))))))))))
  rw [show decide (Zce r) = false from decide_eq_false (fun q => by rcases q with ⟨q1, q2, q3, q4, q5, q6⟩ | ⟨q1, q2, q3, q4, q5, q6⟩ | ⟨q1, q2, q3, q4, q5, q6⟩ | ⟨q1, q2, q3, q4, q5, q6⟩ <;> first | omega | (have := q4.1; have := q4.2.1; omega) | exact Zap (by omega) q4.2.2 | exact Zaj (by omega) q6 | exact Zah (by omega) q5 | exact absurd q4 (of_decide_eq_false (by assumption)) | exact absurd q5 (of_decide_eq_false (by assumption)) | exact absurd q6 (of_decide_eq_false (by assumption)) | (rw [‹Z5 _ _ = false›] at q4; cases q4) | (rw [Zy, ‹Z5 _ _ = false›] at q4; cases q4) | (rw [‹Zw _ _ = false›] at q5; cases q5) | (rw [Zu, ‹Zw _ _ = false›] at q5; cases q5))]
  exact Zi (v := .bool false) rfl rfl rfl (by kernel_rfl) rfl
theorem Zr7 (l : List Item) (n c : Nat) (hn : l.length = n) (hc : n ≤ c) (hb : n ≤ 1048576) : Zak Try.prog G 37 [slv 0 0 n c] [rwR Zh l] (slv 1 0 n n) [rwR Zh l, rwB Zh l] := by
  refine Zb5 (fn := Try.f37) (nt := 8) rfl rfl rfl rfl ?_
  refine Za5 2 (H' := [rwR Zh l, hole, hole]) rfl ?_
  refine Zk (Zm (Zd rfl rfl (.slice none 0 0) rfl (Zb (Zc (Zk ?_)))))
  refine Zmt rfl rfl rfl rfl (fun hn0 => ?_) ?_
  · subst hn0
    obtain rfl : l = [] := List.eq_nil_of_length_eq_zero hn
    refine Zk (Zm (Zf rfl rfl (.slice none 0 0) rfl ?_))
    refine Zn (vx := .slice none 0 0) (vy := .slice none 0 0) rfl rfl (.bool true) rfl rfl (by kernel_rfl) ?_
    refine Zb (Zc (Z4 rfl (Zk (Zm (Zd rfl rfl (.slice none 0 0) rfl (Zb (Zc ?_)))))))
    refine Zfq (Zcz.nilTmp (i := 2) (b := 1) true 110 rfl (by decide) rfl) ?_
    refine Zq (Zv (Zo ?_))
    exact Zcc [0, 1] (v := slv 1 0 0 0) rfl (by kernel_rfl) rfl rfl (by decide) (by simp [Zc6, rwB, rwR, Zh]) ⟨rfl, rfl, rfl, by first | omega | exact Nat.le_refl _ | exact Nat.zero_le _ | (dsimp only; omega), by first | omega | exact Nat.le_refl _ | exact Nat.zero_le _ | (dsimp only; omega)⟩
  refine Zx rfl (Z8 (Zc (Zk (Zm ?_))))
  refine Zua (v := slv 1 0 0 0) (blk := rwB Zh []) (nid := 1) (H' := [rwR Zh l, rwB Zh [], hole]) rfl rfl (by kernel_rfl) (by kernel_rfl) ?_
  refine Zf rfl rfl (slv 0 0 n c) rfl ?_
  have hl1 : ([] ++ l).length = n := by have := hn; first | (rw [List.length_append]; omega) | (rw [List.length_append, List.length_take]; omega) | (simp; omega) | simp
  refine Zgi (p := slv 1 0 0 0) (q := slv 0 0 n c) (v := slv 1 0 n n) (b := 1) (blk := rwB Zh ([] ++ l)) (H' := [rwR Zh l, rwB Zh ([] ++ l), hole]) rfl rfl rfl (.inl ⟨_, rfl⟩) rfl rfl (Zi4 Zh (by_ := 216) (k := n) (n' := n) (ms := l) (fun _ => rfl) rfl rfl (Zg8 Zh rfl rfl (by have := hn; omega)) rfl rfl rfl (by omega) (by decide) (by omega)) rfl (by kernel_rfl) ?_
  refine Zd rfl rfl (slv 1 0 n n) rfl (Zb (Zc (Zq (Zo ?_))))
  exact Zcc [0, 1] (v := slv 1 0 n n) rfl (by kernel_rfl) rfl rfl (by decide) (by simp [Zc6, rwB, rwR, Zh]) ⟨rfl, rfl, rfl, by first | omega | exact Nat.le_refl _ | exact Nat.zero_le _ | (dsimp only; omega), by first | omega | exact Nat.le_refl _ | exact Nat.zero_le _ | (dsimp only; omega)⟩
theorem Zsc (l : List Claim) (n c : Nat) (hn : l.length = n) (hc : n ≤ c) (hb : n ≤ 1048576) : Zak Try.prog G 38 [slv 0 0 n c] [rwR Zj l] (slv 1 0 n n) [rwR Zj l, rwB Zj l] := by
  refine Zb5 (fn := Try.f38) (nt := 8) rfl rfl rfl rfl ?_
  refine Za5 2 (H' := [rwR Zj l, hole, hole]) rfl ?_
  refine Zk (Zm (Zd rfl rfl (.slice none 0 0) rfl (Zb (Zc (Zk ?_)))))
  refine Zmt rfl rfl rfl rfl (fun hn0 => ?_) ?_
  · subst hn0
    obtain rfl : l = [] := List.eq_nil_of_length_eq_zero hn
    refine Zk (Zm (Zf rfl rfl (.slice none 0 0) rfl ?_))
    refine Zn (vx := .slice none 0 0) (vy := .slice none 0 0) rfl rfl (.bool true) rfl rfl (by kernel_rfl) ?_
    refine Zb (Zc (Z4 rfl (Zk (Zm (Zd rfl rfl (.slice none 0 0) rfl (Zb (Zc ?_)))))))
    refine Zfq (Zcz.nilTmp (i := 2) (b := 1) true 36 rfl (by decide) rfl) ?_
    refine Zq (Zv (Zo ?_))
    exact Zcc [0, 1] (v := slv 1 0 0 0) rfl (by kernel_rfl) rfl rfl (by decide) (by simp [Zc6, rwB, rwR, Zj]) ⟨rfl, rfl, rfl, by first | omega | exact Nat.le_refl _ | exact Nat.zero_le _ | (dsimp only; omega), by first | omega | exact Nat.le_refl _ | exact Nat.zero_le _ | (dsimp only; omega)⟩
  refine Zx rfl (Z8 (Zc (Zk (Zm ?_))))
  refine Zua (v := slv 1 0 0 0) (blk := rwB Zj []) (nid := 1) (H' := [rwR Zj l, rwB Zj [], hole]) rfl rfl (by kernel_rfl) (by kernel_rfl) ?_
  refine Zf rfl rfl (slv 0 0 n c) rfl ?_
  have hl1 : ([] ++ l).length = n := by have := hn; first | (rw [List.length_append]; omega) | (rw [List.length_append, List.length_take]; omega) | (simp; omega) | simp
  refine Zgi (p := slv 1 0 0 0) (q := slv 0 0 n c) (v := slv 1 0 n n) (b := 1) (blk := rwB Zj ([] ++ l)) (H' := [rwR Zj l, rwB Zj ([] ++ l), hole]) rfl rfl rfl (.inl ⟨_, rfl⟩) rfl rfl (Zi4 Zj (by_ := 64) (k := n) (n' := n) (ms := l) (fun _ => rfl) rfl rfl (Zg8 Zj rfl rfl (by have := hn; omega)) rfl rfl rfl (by omega) (by decide) (by omega)) rfl (by kernel_rfl) ?_
  refine Zd rfl rfl (slv 1 0 n n) rfl (Zb (Zc (Zq (Zo ?_))))
  exact Zcc [0, 1] (v := slv 1 0 n n) rfl (by kernel_rfl) rfl rfl (by decide) (by simp [Zc6, rwB, rwR, Zj]) ⟨rfl, rfl, rfl, by first | omega | exact Nat.le_refl _ | exact Nat.zero_le _ | (dsimp only; omega), by first | omega | exact Nat.le_refl _ | exact Nat.zero_le _ | (dsimp only; omega)⟩
end Go.Flat
