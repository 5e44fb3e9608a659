/- Walks. -/
import Derived.Test.YtoafdomlefoenaaN1
set_option linter.unusedVariables false
set_option linter.unusedSimpArgs false
set_option maxRecDepth 20000
namespace Go.Flat
open Go.Proofs
variable {G : Glob}
structure Kept where
  epoch : Int
  log : Int
  items : List Item
  claims : List Claim
def Ztr (ep : Int) (x : Item) : Prop := x.epoch = ep ∧ x.entry.kind = 3 ∧ x.entry.claim.epoch = ep
instance (ep : Int) (x : Item) : Decidable (Ztr ep x) := inferInstanceAs (Decidable (_ ∧ _))
def ldB (ep : Int) (x : Item) : Bool := decide (Ztr ep x)
def Zke (p : Item → Bool) (l : List Item) : Option Nat := (List.range l.length).find? fun i => p (l.getD i default)
def Zda (p : Item → Bool) (l : List Item) : Int := match Zke p l with | some i => (i : Int) | none => -1
theorem Zo7 {p : Item → Bool} {l : List Item} {i : Nat} (h : ∀ j, j < i → p (l.getD j default) = false) (hi : i < l.length) (hp : p (l.getD i default) = true) : Zke p l = some i := by
 unfold Zke
 rw [List.find?_range_eq_some]
 exact ⟨hp, List.mem_range.2 hi, fun j hj => by simp only [h j hj]; rfl⟩
theorem Zmq {p : Item → Bool} {l : List Item} (h : ∀ j, j < l.length → p (l.getD j default) = false) : Zke p l = none := by
 unfold Zke
 rw [List.find?_range_eq_none]
 exact fun j hj => by simp only [h j hj]; rfl
theorem Zs4 {p : Item → Bool} {l : List Item} {i : Nat} (h : ∀ j, j < i → p (l.getD j default) = false) (hi : i < l.length) (hp : p (l.getD i default) = true) : Zda p l = (i : Int) := by
 unfold Zda; rw [Zo7 h hi hp]
theorem Zr5 {p : Item → Bool} {l : List Item} (h : ∀ j, j < l.length → p (l.getD j default) = false) : Zda p l = -1 := by
 unfold Zda; rw [Zmq h]
theorem Zn2 (p : Item → Bool) (l : List Item) : -1 ≤ Zda p l ∧ Zda p l < l.length ∧ (0 ≤ Zda p l → Zke p l = some (Zda p l).toNat ∧ p (l.getD (Zda p l).toNat default) = true) ∧ (Zda p l < 0 → Zke p l = none) := by
 unfold Zda
 cases h : Zke p l with
 | none => exact ⟨by decide, by show (-1 : Int) < _; omega, fun q => absurd q (by decide), fun _ => rfl⟩
 | some i =>
  have h' := h
  unfold Zke at h'
  rw [List.find?_range_eq_some] at h'
  have := List.mem_range.1 h'.2.1
  exact ⟨by show (-1 : Int) ≤ (i : Int); omega, by show (i : Int) < _; omega, fun _ => ⟨rfl, h'.1⟩, fun q => absurd q (by show ¬ (i : Int) < 0; omega)⟩
def Zb1 (ep : Int) (l : List Item) : Int := if ep = 1 then 1 else match Zke (ldB ep) l with | some i => (l.getD i default).entry.claim.node | none => 0
theorem Zo0 {ep : Int} {l : List Item} (h : ep = 1) : Zb1 ep l = 1 := if_pos h
theorem Zsv {ep : Int} {l : List Item} {i : Nat} (h1 : ¬ ep = 1) (h : ∀ j, j < i → ldB ep (l.getD j default) = false) (hi : i < l.length) (hp : ldB ep (l.getD i default) = true) : Zb1 ep l = (l.getD i default).entry.claim.node := by
 unfold Zb1; rw [if_neg h1, Zo7 h hi hp]
theorem Zsq {ep : Int} {l : List Item} (h1 : ¬ ep = 1) (h : ∀ j, j < l.length → ldB ep (l.getD j default) = false) : Zb1 ep l = 0 := by
 unfold Zb1; rw [if_neg h1, Zmq h]
theorem Zs2 {ep : Int} {l : List Item} (h1 : ¬ ep = 1) (h : 0 ≤ Zda (ldB ep) l) : Zb1 ep l = (l.getD (Zda (ldB ep) l).toNat default).entry.claim.node := by
 unfold Zb1; rw [if_neg h1, ((Zn2 (ldB ep) l).2.2.1 h).1]
theorem Zrv {ep : Int} {l : List Item} (h1 : ¬ ep = 1) (h : Zda (ldB ep) l < 0) : Zb1 ep l = 0 := by
 unfold Zb1; rw [if_neg h1, (Zn2 (ldB ep) l).2.2.2 h]
theorem Zsk {l : List Item} : ∀ {ep : Int} {i : Nat}, Ze9 ep l = true → i < l.length → Zbd (l.getD i default) := by
 induction l with
 | nil => intro ep i _ h; simp at h
 | cons x l ih =>
  intro ep i h hi
  rw [Ze9, Bool.and_eq_true, Bool.and_eq_true] at h
  cases i with
  | zero => exact of_decide_eq_true h.1.1
  | succ i => exact ih h.2 (by simpa using hi)
theorem Zoc {ep : Int} {l : List Item} (hr : Zcj l) (h : ¬ Zb1 ep l = 0) : 0 < Zb1 ep l := by
 unfold Zb1 at h ⊢
 split at h
 ·rename_i h1; rw [if_pos h1]; decide
 ·rename_i h1
  rw [if_neg h1]
  cases ho : Zke (ldB ep) l with
  | none => rw [ho] at h; exact absurd rfl h
  | some i =>
   unfold Zke at ho
   rw [List.find?_range_eq_some] at ho
   have hi := List.mem_range.1 ho.2.1
   have hk : (l.getD i default).entry.kind = 3 := (of_decide_eq_true ho.1 : Ztr ep _).2.1
   have hg := (Zsk hr.2 hi).2.2
   have hc : Zaw (l.getD i default).entry.claim := by
    rcases hg with q | q | q
    ·omega
    ·omega
    ·exact q.2.2.2.2.2
   show 0 < (l.getD i default).entry.claim.node
   have := hc.2.2.1.1
   omega
def Zax (k : Kept) : Prop := (1 ≤ k.epoch ∧ k.epoch ≤ 900000000) ∧ (1 ≤ k.log ∧ k.log ≤ k.epoch) ∧ Zcj k.items ∧ Zdu k.claims ∧ 0 < Zb1 k.log k.items ∧ (k.items.length = 0 ∨ (k.items.getD (k.items.length - 1) default).epoch ≤ k.log)
instance (k : Kept) : Decidable (Zax k) := inferInstanceAs (Decidable (_ ∧ _))
def Zcb (k : Kept) : Int := if Zax k then 0 else 1
theorem Zbw {k : Kept} (h : Zcb k = 0) : Zax k := by
 unfold Zcb at h
 split at h
 ·assumption
 ·omega
theorem Za3 {k : Kept} (h : ¬ Zcb k = 0) : ¬ Zax k := fun q => h (if_pos q)
def Zfz (k : Kept) : Int := if Zax k then Zb1 k.log k.items else 0
def Zcu (a b : Kept) : Bool := decide (a.epoch = b.epoch ∧ a.log = b.log) && (Zdj a.items b.items && Zcr a.claims b.claims)
theorem Zui {a b : Kept} (h1 : a.epoch = b.epoch) (h2 : a.log = b.log) (h3 : Zdj a.items b.items = true) (h4 : Zcr a.claims b.claims = true) : Zcu a b = true := by
 unfold Zcu; rw [decide_eq_true ⟨h1, h2⟩, h3, h4]; rfl
theorem Zvf {a b : Kept} (h1 : a.epoch = b.epoch) (h2 : a.log = b.log) (h3 : Zdj a.items b.items = true) : Zcu a b = Zcr a.claims b.claims := by
 unfold Zcu; rw [decide_eq_true ⟨h1, h2⟩, h3]; rfl
theorem Znf {a b : Kept} (h : a.epoch = b.epoch → a.log = b.log → Zdj a.items b.items = true → Zcr a.claims b.claims = true → False) : Zcu a b = false := by
 cases hq : Zcu a b with
 | false => rfl
 | true =>
  unfold Zcu at hq
  rw [Bool.and_eq_true, Bool.and_eq_true] at hq
  have h1 := of_decide_eq_true hq.1
  exact (h h1.1 h1.2 hq.2.1 hq.2.2).elim
theorem Zps (ep : Int) (x : Item) : Zak Try.prog G 47 [Zai x, pt 0 0] [bxB 1 ([Iv ep])] (.bool (ldB ep x)) [bxB 1 ([Iv ep])] := by
 refine Zb5 (fn := Try.f47) (nt := 22) rfl rfl rfl rfl ?_
 refine Za5 1 (H' := [bxB 1 ([Iv ep]), hole]) rfl ?_
 refine Zk (Zm ?_)
 refine Zch (v := Zai x) (b := bxB 110 (Zr x)) (nid := 1) (H' := [bxB 1 ([Iv ep]), bxB 110 (Zr x)]) rfl rfl rfl (by kernel_rfl) (by kernel_rfl) ?_
 refine Zd rfl rfl (.bool false) rfl (Zb (Zc (Zk (Zm ?_))))
 refine Ze (b := 1) (o := 0) (n := 0) (o' := 0) rfl rfl rfl rfl rfl ?_
 refine Zl (p := pt 1 0) (v := Iv x.epoch) rfl rfl rfl (by kernel_rfl) ?_
 refine Zl (p := pt 0 0) (v := Iv ep) rfl rfl rfl (by kernel_rfl) ?_
 by_cases h1 : x.epoch = ep
 refine Zn (vx := Iv x.epoch) (vy := Iv ep) rfl rfl (.bool true) rfl rfl (Zao (by omega)) ?_
 refine Zf rfl rfl (.bool true) rfl ?_
 refine Ze (b := 1) (o := 0) (n := 1) (o' := 1) rfl rfl rfl rfl rfl ?_
 refine Ze (b := 1) (o := 1) (n := 0) (o' := 1) rfl rfl rfl rfl rfl ?_
 refine Zl (p := pt 1 1) (v := Iv x.entry.kind) rfl rfl rfl (by kernel_rfl) ?_
 by_cases h2 : x.entry.kind = 3
 refine Zn (vx := Iv x.entry.kind) (vy := Iv 3) rfl rfl (.bool true) rfl rfl (Zao (by omega)) ?_
 refine Zg rfl rfl (.bool true) rfl (Zf rfl rfl (.bool true) rfl ?_)
 refine Ze (b := 1) (o := 0) (n := 1) (o' := 1) rfl rfl rfl rfl rfl ?_
 refine Ze (b := 1) (o := 1) (n := 73) (o' := 74) rfl rfl rfl rfl rfl ?_
 refine Ze (b := 1) (o := 74) (n := 1) (o' := 75) rfl rfl rfl rfl rfl ?_
 refine Zl (p := pt 1 75) (v := Iv x.entry.claim.epoch) rfl rfl rfl (by kernel_rfl) ?_
 refine Zl (p := pt 0 0) (v := Iv ep) rfl rfl rfl (by kernel_rfl) ?_
 by_cases h3 : x.entry.claim.epoch = ep
 refine Zn (vx := Iv x.entry.claim.epoch) (vy := Iv ep) rfl rfl (.bool true) rfl rfl (Zao (by omega)) ?_
 refine Zg rfl rfl (.bool true) rfl (Zd rfl rfl (.bool true) rfl (Zb (Zc (Zq (Zo ?_)))))
 rw [show ldB ep x = true from decide_eq_true ⟨by omega, by omega, by omega⟩]
 exact Zi (v := .bool true) rfl rfl rfl (by kernel_rfl) rfl
 refine Zn (vx := Iv x.entry.claim.epoch) (vy := Iv ep) rfl rfl (.bool false) rfl rfl (Zbf (by omega)) ?_
 refine Zg rfl rfl (.bool false) rfl (Zd rfl rfl (.bool false) rfl (Zb (Zc (Zq (Zo ?_)))))
 rw [show ldB ep x = false from decide_eq_false (fun q => by have := q.1; have := q.2.1; have := q.2.2; omega)]
 exact Zi (v := .bool false) rfl rfl rfl (by kernel_rfl) rfl
 refine Zn (vx := Iv x.entry.kind) (vy := Iv 3) rfl rfl (.bool false) rfl rfl (Zbf (by omega)) ?_
 refine Zg rfl rfl (.bool false) rfl (Zf rfl rfl (.bool false) rfl (Za rfl rfl (Za rfl rfl (Za rfl rfl (Za rfl rfl (Za rfl rfl (Za rfl rfl (Zg rfl rfl (.bool false) rfl (Zd rfl rfl (.bool false) rfl (Zb (Zc (Zq (Zo ?_)))))))))))))
 rw [show ldB ep x = false from decide_eq_false (fun q => by have := q.1; have := q.2.1; have := q.2.2; omega)]
 exact Zi (v := .bool false) rfl rfl rfl (by kernel_rfl) rfl
 refine Zn (vx := Iv x.epoch) (vy := Iv ep) rfl rfl (.bool false) rfl rfl (Zbf (by omega)) ?_
 refine Zf rfl rfl (.bool false) rfl (Za rfl rfl (Za rfl rfl (Za rfl rfl (Za rfl rfl (Zg rfl rfl (.bool false) rfl (Zf rfl rfl (.bool false) rfl (Za rfl rfl (Za rfl rfl (Za rfl rfl (Za rfl rfl (Za rfl rfl (Za rfl rfl (Zg rfl rfl (.bool false) rfl (Zd rfl rfl (.bool false) rfl (Zb (Zc (Zq (Zo ?_))))))))))))))))))
 rw [show ldB ep x = false from decide_eq_false (fun q => by have := q.1; have := q.2.1; have := q.2.2; omega)]
 exact Zi (v := .bool false) rfl rfl rfl (by kernel_rfl) rfl
theorem Zns (l : List Item) (n c : Nat) (hn : l.length = n) (hc : n ≤ c) (hb : n ≤ 1048576) (ep : Int) : Zak Try.prog G 46 [slv 0 0 n c, .func (.func 47) #[] #[pt 1 0]] [rwR Zh l, bxB 1 ([Iv ep])] (Iv (Zda (ldB ep) l)) [rwR Zh l, bxB 1 ([Iv ep])] := by
  refine Zb5 (fn := Try.f46) (nt := 19) rfl rfl rfl rfl ?_
  refine Zk (Zm (Zd rfl rfl (Iv 0) rfl (Zb (Zc (Zk (Zk (Zm (Zf rfl rfl (slv 0 0 n c) rfl ?_))))))))
  refine Zci (p := slv 0 0 n c) (v := Iv (n : Nat)) rfl rfl rfl rfl ?_
  refine Zf rfl rfl (Iv 0) rfl (Zb (Zc (Zbm ?_)))
  refine Zex (fun i : Nat => [slv 0 0 n c, .func (.func 47) #[] #[pt 1 0], dead, dead, dead, dead, slv 0 0 n c, Iv (n : Nat), Iv (i : Nat)]) (fun i : Nat => [rwR Zh l, bxB 1 ([Iv ep])]) (fun i : Nat => (∀ j, j < i → ldB ep (l.getD j default) = false) ∧ i ≤ n) (fun i : Nat => n - i) 0 ⟨fun _ h => absurd h (by omega), by omega⟩ ?_ ?_
  · refine Zba (n := 2) rfl ?_ (by kernel_rfl) (by kernel_rfl)
    repeat (first | exact trivial | refine ⟨.inl rfl, ?_⟩ | refine ⟨.inr ⟨rfl, rfl⟩, ?_⟩ | refine ⟨.inr ⟨congrArg (Value.int .i64) (by first | omega | (dsimp only; omega)), rfl⟩, ?_⟩)
  rintro i ⟨hR, hi⟩
  refine Zk (Zm ?_)
  by_cases h1 : (i : Nat) < (n : Nat)
  refine Zn (vx := Iv (i : Nat)) (vy := Iv (n : Nat)) rfl rfl (.bool true) rfl rfl (Zea (by omega)) ?_
  refine Zb (Zc (Zk (Z4 rfl (Z8 (Zc (Zk (Zbm (Zk (Zm (Zf rfl rfl (Iv (i : Nat)) rfl (Zd rfl rfl (Iv (i : Nat)) rfl (Zb (Zc (Zk (Zm (Zf rfl rfl (.func (.func 47) #[] #[pt 1 0]) rfl (Zf rfl rfl (slv 0 0 n c) rfl (Zf rfl rfl (Iv (i : Nat)) rfl ?_))))))))))))))))))
  refine Zcq (b := 0) (o := 0) (j := i * 110) (m := n) (c := c) (sz := 110) (i := (i : Nat)) (k := .i64) rfl rfl rfl rfl rfl (by omega) (by omega) (by omega) ?_
  refine Zl (p := pt 0 (i * 110)) (v := Zai (l.getD i default)) rfl rfl rfl (Zdt (n := 0) (m := 110) Zh rfl rfl rfl rfl (by have := hn; omega) (by omega)) ?_
  refine Z9 (e := [some (1, 0)]) (nid := 0) (Zps (G := G) ep (l.getD i default)) (vals := [Zai (l.getD i default), pt 1 0]) (v := .bool (ldB ep (l.getD i default))) (H' := [rwR Zh l, bxB 1 ([Iv ep])]) rfl rfl rfl rfl rfl rfl rfl ⟨⟨rfl, ⟨rfl, rfl⟩, trivial⟩, ⟨(Znm rfl rfl rfl rfl), trivial⟩, rfl, rfl, rfl⟩ rfl (by kernel_rfl) ?_
  refine Zb (Zc ?_)
  rcases Bool.eq_false_or_eq_true (ldB ep (l.getD i default)) with h2 | h2
  refine Z4 (congrArg Value.bool h2) (Zk (Zm (Zf rfl rfl (Iv (i : Nat)) rfl (Zd rfl rfl (Iv (i : Nat)) rfl (Zb (Zc (Zq (Zz (Zv (Zbi (Zz (Zv (Zo ?_)))))))))))))
  rw [show Zda (ldB ep) l = (i : Int) from Zs4 hR (by omega) (by assumption)]
  exact Zi (v := Iv (i : Nat)) rfl rfl rfl (by kernel_rfl) rfl
  refine Zx (congrArg Value.bool h2) (Z8 (Z2 (Zc (Zm ?_))))
  refine Zn (vx := Iv (i : Nat)) (vy := Iv 1) rfl rfl (Iv ((i : Nat) + 1)) rfl rfl (Zcs (by omega) (by omega) (by omega)) ?_
  refine Zf rfl rfl (Iv ((i : Nat) + 1)) rfl (Zb ?_)
  refine Z7 ⟨(i + 1), ⟨fun j hj => by rcases Nat.lt_or_ge j i with h | h; exact hR j h; obtain rfl : j = i := (by omega); assumption, by omega⟩, by show n - (i + 1) < n - i; omega, ?_⟩
  refine Zba (n := 2) rfl ?_ (by kernel_rfl) (by kernel_rfl)
  repeat (first | exact trivial | refine ⟨.inl rfl, ?_⟩ | refine ⟨.inr ⟨rfl, rfl⟩, ?_⟩ | refine ⟨.inr ⟨congrArg (Value.int .i64) (by first | omega | (dsimp only; omega)), rfl⟩, ?_⟩)
  refine Zn (vx := Iv (i : Nat)) (vy := Iv (n : Nat)) rfl rfl (.bool false) rfl rfl (Zeb (by omega)) ?_
  refine Zb (Zc (Zk (Zx rfl (Zf9 (Zew (Zde (Zel rfl (Zc (Zk (Zm (Zd rfl rfl (Iv (-1)) rfl (Zb (Zc (Zq (Zo ?_)))))))))))))))
  rw [show Zda (ldB ep) l = -1 from Zr5 (fun j hj => hR j (by omega))]
  exact Zi (v := Iv (-1)) rfl rfl rfl (by kernel_rfl) rfl
theorem Zl5 (ep : Int) (l : List Item) (n c : Nat) (hn : l.length = n) (hc : n ≤ c) (hb : n ≤ 1048576) : Zak Try.prog G 29 [Iv ep, slv 0 0 n c] [rwR Zh l] (Iv (Zb1 ep l)) [rwR Zh l] := by
  refine Zb5 (fn := Try.f29) (nt := 20) rfl rfl rfl rfl ?_
  refine Za5 1 (H' := [rwR Zh l, hole]) rfl ?_
  refine Zk (Zm ?_)
  refine Zch (v := Iv ep) (b := bxB 1 ([Iv ep])) (nid := 1) (H' := [rwR Zh l, bxB 1 ([Iv ep])]) rfl rfl rfl (by kernel_rfl) (by kernel_rfl) ?_
  refine Zd rfl rfl (Iv 0) rfl (Zb (Zc (Zk (Zk (Zm ?_)))))
  refine Zl (p := pt 1 0) (v := Iv ep) rfl rfl rfl (by kernel_rfl) ?_
  by_cases h1 : ep = 1
  refine Zn (vx := Iv ep) (vy := Iv 1) rfl rfl (.bool true) rfl rfl (Zao (by omega)) ?_
  refine Zb (Zc (Z4 rfl (Zk (Zm (Zd rfl rfl (Iv 1) rfl (Zb (Zc (Zq (Zv (Zo ?_))))))))))
  rw [show Zb1 ep l = 1 from Zo0 (by omega)]
  exact Zi (v := Iv 1) rfl rfl rfl (by kernel_rfl) rfl
  refine Zn (vx := Iv ep) (vy := Iv 1) rfl rfl (.bool false) rfl rfl (Zbf (by omega)) ?_
  refine Zb (Zc (Zx rfl (Z8 (Zc (Zk (Zm (Zf rfl rfl (slv 0 0 n c) rfl ?_)))))))
  refine Zl6 (vs := []) (ws := [pt 1 0]) rfl rfl rfl rfl rfl ?_
  have hix2 := Zn2 (ldB ep) l
  refine Z9 (e := [some (0, 0), some (1, 0)]) (nid := 0) (Zns (G := G) l n c hn (by omega) (by omega) ep) (vals := [slv 0 0 n c, .func (.func 47) #[] #[pt 1 0]]) (v := Iv (Zda (ldB ep) l)) (H' := [rwR Zh l, bxB 1 ([Iv ep])]) rfl rfl rfl rfl rfl rfl rfl ⟨⟨⟨rfl, rfl, rfl, by first | omega | exact Nat.le_refl _, by first | omega | exact Nat.le_refl _⟩, ⟨by kernel_rfl, by kernel_rfl⟩, trivial⟩, ⟨(Zab rfl), (Znm rfl rfl rfl rfl), trivial⟩, rfl, rfl, rfl⟩ rfl (by kernel_rfl) ?_
  refine Zd rfl rfl (Iv (Zda (ldB ep) l)) rfl (Zb (Zc (Zk (Zk (Zm (Zf rfl rfl (Iv (Zda (ldB ep) l)) rfl ?_))))))
  by_cases h2 : (Zda (ldB ep) l) < 0
  refine Zn (vx := Iv (Zda (ldB ep) l)) (vy := Iv 0) rfl rfl (.bool true) rfl rfl (Zea (by omega)) ?_
  refine Zb (Zc (Z4 rfl (Zk (Zm (Zd rfl rfl (Iv 0) rfl (Zb (Zc (Zq (Zv (Zo ?_))))))))))
  rw [show Zb1 ep l = 0 from Zrv (by omega) (by omega)]
  exact Zi (v := Iv 0) rfl rfl rfl (by kernel_rfl) rfl
  refine Zn (vx := Iv (Zda (ldB ep) l)) (vy := Iv 0) rfl rfl (.bool false) rfl rfl (Zeb (by omega)) ?_
  refine Zb (Zc (Zx rfl (Z8 (Zc (Zk (Zm (Zf rfl rfl (slv 0 0 n c) rfl (Zf rfl rfl (Iv (Zda (ldB ep) l)) rfl ?_))))))))
  refine Zcq (b := 0) (o := 0) (j := ((Zda (ldB ep) l).toNat) * 110) (m := n) (c := c) (sz := 110) (i := (Zda (ldB ep) l)) (k := .i64) rfl rfl rfl rfl rfl (by omega) (by omega) (by omega) ?_
  refine Ze (b := 0) (o := ((Zda (ldB ep) l).toNat) * 110) (n := 1) (o' := ((Zda (ldB ep) l).toNat) * 110 + 1) rfl rfl rfl rfl (by omega) ?_
  refine Ze (b := 0) (o := ((Zda (ldB ep) l).toNat) * 110 + 1) (n := 73) (o' := ((Zda (ldB ep) l).toNat) * 110 + 74) rfl rfl rfl rfl (by omega) ?_
  refine Ze (b := 0) (o := ((Zda (ldB ep) l).toNat) * 110 + 74) (n := 2) (o' := ((Zda (ldB ep) l).toNat) * 110 + 76) rfl rfl rfl rfl (by omega) ?_
  refine Zl (p := pt 0 (((Zda (ldB ep) l).toNat) * 110 + 76)) (v := Iv ((((l.getD ((Zda (ldB ep) l).toNat) default).entry).claim).node)) rfl rfl rfl (Zec Zh (l := l) (i := ((Zda (ldB ep) l).toNat)) (k := 76) (m := 110) rfl rfl rfl rfl (by have := hn; omega) (by omega) (by kernel_rfl) rfl) ?_
  refine Zd rfl rfl (Iv ((((l.getD ((Zda (ldB ep) l).toNat) default).entry).claim).node)) rfl (Zb (Zc (Zq (Zo ?_))))
  rw [show Zb1 ep l = ((((l.getD ((Zda (ldB ep) l).toNat) default).entry).claim).node) from Zs2 (by omega) (by omega)]
  exact Zi (v := Iv ((((l.getD ((Zda (ldB ep) l).toNat) default).entry).claim).node)) rfl rfl rfl (by kernel_rfl) rfl
theorem Zio (ep : Int) (l : List Item) (n c : Nat) (hn : l.length = n) (hc : n ≤ c) (hb : n ≤ 1048576) : Zak Try.prog G 34 [Iv ep, slv 0 0 n c] [rwR Zh l] (Iv (Zb1 ep l)) [rwR Zh l] := by
  refine Zb5 (fn := Try.f34) (nt := 42) rfl rfl rfl rfl ?_
  refine Zk (Zm (Zd rfl rfl (Iv 0) rfl (Zb (Zc (Zk (Zk (Zm (Zf rfl rfl (Iv ep) rfl ?_))))))))
  by_cases h1 : ep = 1
  refine Zn (vx := Iv ep) (vy := Iv 1) rfl rfl (.bool true) rfl rfl (Zao (by omega)) ?_
  refine Zb (Zc (Z4 rfl (Zk (Zm (Zd rfl rfl (Iv 1) rfl (Zb (Zc (Zq (Zv (Zo ?_))))))))))
  rw [show Zb1 ep l = 1 from Zo0 (by omega)]
  exact Zi (v := Iv 1) rfl rfl rfl (by kernel_rfl) rfl
  refine Zn (vx := Iv ep) (vy := Iv 1) rfl rfl (.bool false) rfl rfl (Zbf (by omega)) ?_
  refine Zb (Zc (Zx rfl (Z8 (Zc (Zk (Zk (Zm (Zd rfl rfl (Iv 0) rfl (Zb (Zc (Zbm ?_)))))))))))
  refine Zex (fun i : Nat => [Iv ep, slv 0 0 n c, dead, dead, dead, Iv (i : Nat), dead, Iv ep, .bool false]) (fun i : Nat => [rwR Zh l]) (fun i : Nat => (∀ j, j < i → ldB ep (l.getD j default) = false) ∧ i ≤ n) (fun i : Nat => n - i) 0 ⟨fun _ h => absurd h (by omega), by omega⟩ ?_ ?_
  · refine Zba (n := 1) rfl ?_ (by kernel_rfl) (by kernel_rfl)
    repeat (first | exact trivial | refine ⟨.inl rfl, ?_⟩ | refine ⟨.inr ⟨rfl, rfl⟩, ?_⟩ | refine ⟨.inr ⟨congrArg (Value.int .i64) (by first | omega | (dsimp only; omega)), rfl⟩, ?_⟩)
  rintro i ⟨hR, hi⟩
  refine Za5 1 (H' := [rwR Zh l, hole]) rfl ?_
  refine Zk (Zk (Zm (Zf rfl rfl (Iv (i : Nat)) rfl (Zf rfl rfl (slv 0 0 n c) rfl ?_))))
  refine Zci (p := slv 0 0 n c) (v := Iv (n : Nat)) rfl rfl rfl rfl ?_
  by_cases h2 : (i : Nat) < (n : Nat)
  refine Zn (vx := Iv (i : Nat)) (vy := Iv (n : Nat)) rfl rfl (.bool true) rfl rfl (Zea (by omega)) ?_
  refine Zb (Zc (Z4 rfl (Z8 (Zc (Zk (Zbm (Zk (Zm (Zf rfl rfl (slv 0 0 n c) rfl (Zf rfl rfl (Iv (i : Nat)) rfl ?_))))))))))
  refine Zcq (b := 0) (o := 0) (j := i * 110) (m := n) (c := c) (sz := 110) (i := (i : Nat)) (k := .i64) rfl rfl rfl rfl rfl (by omega) (by omega) (by omega) ?_
  refine Ze (b := 0) (o := i * 110) (n := 1) (o' := i * 110 + 1) rfl rfl rfl rfl (by omega) ?_
  refine Zl (p := pt 0 (i * 110 + 1)) (v := Zcn ((l.getD i default).entry)) rfl rfl rfl (Zr0 Zh (l := l) (i := i) (k := 1) (m := 110) rfl rfl rfl rfl (by have := hn; omega) (by omega) (by decide) (by kernel_rfl)) ?_
  refine Zbk (b := bxB 109 (Zcp (⟨0, 0, 0, ⟨#[]⟩, (⟨(⟨0, 0, 0, dz, 0⟩ : Head), 0, dz⟩ : Signed), (⟨0, 0, 0, 0, dz⟩ : Claim)⟩ : Entry))) (nid := 1) (H' := [rwR Zh l, bxB 109 (Zcp (⟨0, 0, 0, ⟨#[]⟩, (⟨(⟨0, 0, 0, dz, 0⟩ : Head), 0, dz⟩ : Signed), (⟨0, 0, 0, 0, dz⟩ : Claim)⟩ : Entry))]) rfl rfl (by kernel_rfl) (by kernel_rfl) ?_
  refine Zaa (p := pt 1 0) (v := Zcn ((l.getD i default).entry)) (b := 1) (blk := bxB 109 (Zcp ((l.getD i default).entry))) (H' := [rwR Zh l, bxB 109 (Zcp ((l.getD i default).entry))]) rfl rfl rfl (by kernel_rfl) (by kernel_rfl) ?_
  refine Zb (Zc (Zk (Zm (Zf rfl rfl (slv 0 0 n c) rfl (Zf rfl rfl (Iv (i : Nat)) rfl ?_)))))
  refine Zcq (b := 0) (o := 0) (j := i * 110) (m := n) (c := c) (sz := 110) (i := (i : Nat)) (k := .i64) rfl rfl rfl rfl rfl (by omega) (by omega) (by omega) ?_
  refine Ze (b := 0) (o := i * 110) (n := 0) (o' := i * 110) rfl rfl rfl rfl (by omega) ?_
  refine Zl (p := pt 0 (i * 110)) (v := Iv ((l.getD i default).epoch)) rfl rfl rfl (Zec Zh (l := l) (i := i) (k := 0) (m := 110) rfl rfl rfl rfl (by have := hn; omega) (by omega) (by kernel_rfl) rfl) ?_
  refine Zf rfl rfl (Iv ep) rfl ?_
  by_cases h3 : ((l.getD i default).epoch) = ep
  refine Zn (vx := Iv ((l.getD i default).epoch)) (vy := Iv ep) rfl rfl (.bool true) rfl rfl (Zao (by omega)) ?_
  refine Zf rfl rfl (.bool true) rfl ?_
  refine Ze (b := 1) (o := 0) (n := 0) (o' := 0) rfl rfl rfl rfl rfl ?_
  refine Zl (p := pt 1 0) (v := Iv (((l.getD i default).entry).kind)) rfl rfl rfl (by kernel_rfl) ?_
  by_cases h4 : (((l.getD i default).entry).kind) = 3
  refine Zn (vx := Iv (((l.getD i default).entry).kind)) (vy := Iv 3) rfl rfl (.bool true) rfl rfl (Zao (by omega)) ?_
  refine Zg rfl rfl (.bool true) rfl (Zf rfl rfl (.bool true) rfl ?_)
  refine Ze (b := 1) (o := 0) (n := 73) (o' := 73) rfl rfl rfl rfl rfl ?_
  refine Ze (b := 1) (o := 73) (n := 1) (o' := 74) rfl rfl rfl rfl rfl ?_
  refine Zl (p := pt 1 74) (v := Iv ((((l.getD i default).entry).claim).epoch)) rfl rfl rfl (by kernel_rfl) ?_
  refine Zf rfl rfl (Iv ep) rfl ?_
  by_cases h5 : ((((l.getD i default).entry).claim).epoch) = ep
  refine Zn (vx := Iv ((((l.getD i default).entry).claim).epoch)) (vy := Iv ep) rfl rfl (.bool true) rfl rfl (Zao (by omega)) ?_
  refine Zg rfl rfl (.bool true) rfl (Zb (Zc (Z4 rfl (Zk (Zm ?_)))))
  refine Ze (b := 1) (o := 0) (n := 73) (o' := 73) rfl rfl rfl rfl rfl ?_
  refine Ze (b := 1) (o := 73) (n := 2) (o' := 75) rfl rfl rfl rfl rfl ?_
  refine Zl (p := pt 1 75) (v := Iv ((((l.getD i default).entry).claim).node)) rfl rfl rfl (by kernel_rfl) ?_
  refine Zd rfl rfl (Iv ((((l.getD i default).entry).claim).node)) rfl (Zb (Zc (Zq (Zz (Zv (Zbi (Zz (Zv (Zo ?_)))))))))
  rw [show Zb1 ep l = ((((l.getD i default).entry).claim).node) from Zsv (by omega) hR (by omega) (decide_eq_true ⟨by omega, by omega, by omega⟩)]
  exact Zi (v := Iv ((((l.getD i default).entry).claim).node)) rfl rfl rfl (by kernel_rfl) rfl
  refine Zn (vx := Iv ((((l.getD i default).entry).claim).epoch)) (vy := Iv ep) rfl rfl (.bool false) rfl rfl (Zbf (by omega)) ?_
  refine Zg rfl rfl (.bool false) rfl (Zb (Zc (Zx rfl (Z8 (Z2 (Zc (Zm (Zf rfl rfl (Iv (i : Nat)) rfl ?_))))))))
  refine Zn (vx := Iv (i : Nat)) (vy := Iv 1) rfl rfl (Iv ((i : Nat) + 1)) rfl rfl (Zcs (by omega) (by omega) (by omega)) ?_
  refine Zd rfl rfl (Iv ((i : Nat) + 1)) rfl (Zb ?_)
  refine Z7 ⟨(i + 1), ⟨fun j hj => by rcases Nat.lt_or_ge j i with h | h; exact hR j h; obtain rfl : j = i := (by omega); exact decide_eq_false (fun q => by have := q.1; have := q.2.1; have := q.2.2; omega), by omega⟩, by show n - (i + 1) < n - i; omega, ?_⟩
  refine Zba (n := 1) rfl ?_ (by kernel_rfl) (by kernel_rfl)
  repeat (first | exact trivial | refine ⟨.inl rfl, ?_⟩ | refine ⟨.inr ⟨rfl, rfl⟩, ?_⟩ | refine ⟨.inr ⟨congrArg (Value.int .i64) (by first | omega | (dsimp only; omega)), rfl⟩, ?_⟩)
  refine Zn (vx := Iv (((l.getD i default).entry).kind)) (vy := Iv 3) rfl rfl (.bool false) rfl rfl (Zbf (by omega)) ?_
  refine Zg rfl rfl (.bool false) rfl (Zf rfl rfl (.bool false) rfl (Za rfl rfl (Za rfl rfl (Za rfl rfl (Za rfl rfl (Za rfl rfl (Zg rfl rfl (.bool false) rfl (Zb (Zc (Zx rfl (Z8 (Z2 (Zc (Zm (Zf rfl rfl (Iv (i : Nat)) rfl ?_)))))))))))))))
  refine Zn (vx := Iv (i : Nat)) (vy := Iv 1) rfl rfl (Iv ((i : Nat) + 1)) rfl rfl (Zcs (by omega) (by omega) (by omega)) ?_
  refine Zd rfl rfl (Iv ((i : Nat) + 1)) rfl (Zb ?_)
  refine Z7 ⟨(i + 1), ⟨fun j hj => by rcases Nat.lt_or_ge j i with h | h; exact hR j h; obtain rfl : j = i := (by omega); exact decide_eq_false (fun q => by have := q.1; have := q.2.1; have := q.2.2; omega), by omega⟩, by show n - (i + 1) < n - i; omega, ?_⟩
  refine Zba (n := 1) rfl ?_ (by kernel_rfl) (by kernel_rfl)
  repeat (first | exact trivial | refine ⟨.inl rfl, ?_⟩ | refine ⟨.inr ⟨rfl, rfl⟩, ?_⟩ | refine ⟨.inr ⟨congrArg (Value.int .i64) (by first | omega | (dsimp only; omega)), rfl⟩, ?_⟩)
  refine Zn (vx := Iv ((l.getD i default).epoch)) (vy := Iv ep) rfl rfl (.bool false) rfl rfl (Zbf (by omega)) ?_
  refine Zf rfl rfl (.bool false) rfl (Za rfl rfl (Za rfl rfl (Za rfl rfl (Zg rfl rfl (.bool false) rfl (Zf rfl rfl (.bool false) rfl (Za rfl rfl (Za rfl rfl (Za rfl rfl (Za rfl rfl (Za rfl rfl (Zg rfl rfl (.bool false) rfl (Zb (Zc (Zx rfl (Z8 (Z2 (Zc (Zm (Zf rfl rfl (Iv (i : Nat)) rfl ?_)))))))))))))))))))
  refine Zn (vx := Iv (i : Nat)) (vy := Iv 1) rfl rfl (Iv ((i : Nat) + 1)) rfl rfl (Zcs (by omega) (by omega) (by omega)) ?_
  refine Zd rfl rfl (Iv ((i : Nat) + 1)) rfl (Zb ?_)
  refine Z7 ⟨(i + 1), ⟨fun j hj => by rcases Nat.lt_or_ge j i with h | h; exact hR j h; obtain rfl : j = i := (by omega); exact decide_eq_false (fun q => by have := q.1; have := q.2.1; have := q.2.2; omega), by omega⟩, by show n - (i + 1) < n - i; omega, ?_⟩
  refine Zba (n := 1) rfl ?_ (by kernel_rfl) (by kernel_rfl)
  repeat (first | exact trivial | refine ⟨.inl rfl, ?_⟩ | refine ⟨.inr ⟨rfl, rfl⟩, ?_⟩ | refine ⟨.inr ⟨congrArg (Value.int .i64) (by first | omega | (dsimp only; omega)), rfl⟩, ?_⟩)
  refine Zn (vx := Iv (i : Nat)) (vy := Iv (n : Nat)) rfl rfl (.bool false) rfl rfl (Zeb (by omega)) ?_
  refine Zb (Zc (Zx rfl (Zf9 (Zew (Zde (Zel rfl (Zc (Zk (Zm (Zd rfl rfl (Iv 0) rfl (Zb (Zc (Zq (Zo ?_))))))))))))))
  rw [show Zb1 ep l = 0 from Zsq (by omega) (fun j hj => hR j (by omega))]
  exact Zi (v := Iv 0) rfl rfl rfl (by kernel_rfl) rfl
theorem Zas (n low high : Int) : Zak Try.prog G 26 [Iv n, Iv low, Iv high] [] (.bool (Za4 n low high)) [] := by
 refine Zb5 (fn := Try.f26) (nt := 15) rfl rfl rfl rfl ?_
 refine Zk (Zm (Zd rfl rfl (.bool false) rfl (Zb (Zc (Zk (Zm (Zf rfl rfl (Iv n) rfl (Zf rfl rfl (Iv low) rfl ?_))))))))
 by_cases h1 : low ≤ n
 refine Zn (vx := Iv n) (vy := Iv low) rfl rfl (.bool true) rfl rfl (Zhr (by omega)) ?_
 refine Zf rfl rfl (.bool true) rfl (Zf rfl rfl (Iv n) rfl (Zf rfl rfl (Iv high) rfl ?_))
 by_cases h2 : n ≤ high
 refine Zn (vx := Iv n) (vy := Iv high) rfl rfl (.bool true) rfl rfl (Zh8 (by omega)) ?_
 refine Zg rfl rfl (.bool true) rfl (Zd rfl rfl (.bool true) rfl (Zb (Zc (Zq (Zo ?_)))))
 rw [show Za4 n low high = true from Zaf (by omega) (by omega)]
 exact Zi (v := .bool true) rfl rfl rfl (by kernel_rfl) rfl
 refine Zn (vx := Iv n) (vy := Iv high) rfl rfl (.bool false) rfl rfl (Zh7 (by omega)) ?_
 refine Zg rfl rfl (.bool false) rfl (Zd rfl rfl (.bool false) rfl (Zb (Zc (Zq (Zo ?_)))))
 rw [show Za4 n low high = false from Zt (by omega)]
 exact Zi (v := .bool false) rfl rfl rfl (by kernel_rfl) rfl
 refine Zn (vx := Iv n) (vy := Iv low) rfl rfl (.bool false) rfl rfl (Zg4 (by omega)) ?_
 refine Zf rfl rfl (.bool false) rfl (Za rfl rfl (Za rfl rfl (Za rfl rfl (Zg rfl rfl (.bool false) rfl (Zd rfl rfl (.bool false) rfl (Zb (Zc (Zq (Zo ?_)))))))))
 rw [show Za4 n low high = false from Zt (by omega)]
 exact Zi (v := .bool false) rfl rfl rfl (by kernel_rfl) rfl
theorem Zdy (n low high : Int) : Zak Try.prog G 31 [Iv n, Iv low, Iv high] [] (.bool (Za4 n low high)) [] := by
 refine Zb5 (fn := Try.f31) (nt := 15) rfl rfl rfl rfl ?_
 refine Zk (Zm (Zd rfl rfl (.bool false) rfl (Zb (Zc (Zk (Zm (Zf rfl rfl (Iv n) rfl (Zf rfl rfl (Iv low) rfl ?_))))))))
 by_cases h1 : low ≤ n
 refine Zn (vx := Iv n) (vy := Iv low) rfl rfl (.bool true) rfl rfl (Zhr (by omega)) ?_
 refine Zf rfl rfl (.bool true) rfl (Zf rfl rfl (Iv n) rfl (Zf rfl rfl (Iv high) rfl ?_))
 by_cases h2 : n ≤ high
 refine Zn (vx := Iv n) (vy := Iv high) rfl rfl (.bool true) rfl rfl (Zh8 (by omega)) ?_
 refine Zg rfl rfl (.bool true) rfl (Zd rfl rfl (.bool true) rfl (Zb (Zc (Zq (Zo ?_)))))
 rw [show Za4 n low high = true from Zaf (by omega) (by omega)]
 exact Zi (v := .bool true) rfl rfl rfl (by kernel_rfl) rfl
 refine Zn (vx := Iv n) (vy := Iv high) rfl rfl (.bool false) rfl rfl (Zh7 (by omega)) ?_
 refine Zg rfl rfl (.bool false) rfl (Zd rfl rfl (.bool false) rfl (Zb (Zc (Zq (Zo ?_)))))
 rw [show Za4 n low high = false from Zt (by omega)]
 exact Zi (v := .bool false) rfl rfl rfl (by kernel_rfl) rfl
 refine Zn (vx := Iv n) (vy := Iv low) rfl rfl (.bool false) rfl rfl (Zg4 (by omega)) ?_
 refine Zf rfl rfl (.bool false) rfl (Za rfl rfl (Za rfl rfl (Za rfl rfl (Zg rfl rfl (.bool false) rfl (Zd rfl rfl (.bool false) rfl (Zb (Zc (Zq (Zo ?_)))))))))
 rw [show Za4 n low high = false from Zt (by omega)]
 exact Zi (v := .bool false) rfl rfl rfl (by kernel_rfl) rfl
theorem Zdr (k : Kept) (n c m d : Nat) (hn : k.items.length = n) (hm : k.claims.length = m) (hc : n ≤ c) (hd : m ≤ d) (hb : n ≤ 1048576) (hb2 : m ≤ 1048576) : Zak Try.prog G 10 [mxV ([Iv k.epoch, Iv k.log, slv 0 0 n c, slv 1 0 m d])] [rwR Zh k.items, rwR Zj k.claims] (Iv (Zcb k)) [rwR Zh k.items, rwR Zj k.claims] := by
  refine Zb5 (fn := Try.f10) (nt := 51) rfl rfl rfl rfl ?_
  refine Za5 1 (H' := [rwR Zh k.items, rwR Zj k.claims, hole]) rfl ?_
  refine Zk (Zm ?_)
  refine Zch (v := mxV ([Iv k.epoch, Iv k.log, slv 0 0 n c, slv 1 0 m d])) (b := mxB 4 ([Iv k.epoch, Iv k.log, slv 0 0 n c, slv 1 0 m d])) (nid := 2) (H' := [rwR Zh k.items, rwR Zj k.claims, mxB 4 ([Iv k.epoch, Iv k.log, slv 0 0 n c, slv 1 0 m d])]) rfl rfl rfl (by kernel_rfl) (by kernel_rfl) ?_
  refine Zd rfl rfl (Iv 0) rfl (Zb (Zc ?_))
  refine Zut (l := 0) rfl ?_
  refine Zk (Zm ?_)
  refine Ze (b := 2) (o := 0) (n := 2) (o' := 2) rfl rfl rfl rfl rfl ?_
  refine Zl (p := pt 2 2) (v := slv 0 0 n c) rfl rfl rfl (by kernel_rfl) ?_
  refine Zci (p := slv 0 0 n c) (v := Iv (n : Nat)) rfl rfl rfl rfl ?_
  refine Zd rfl rfl (Iv (n : Nat)) rfl (Zb (Zc (Zk (Zk (Zm ?_)))))
  refine Ze (b := 2) (o := 0) (n := 0) (o' := 0) rfl rfl rfl rfl rfl ?_
  refine Zl (p := pt 2 0) (v := Iv k.epoch) rfl rfl rfl (by kernel_rfl) ?_
  by_cases h1 : 1 ≤ k.epoch
  by_cases h2 : k.epoch ≤ 900000000
  refine Zp ((Zas (G := G) k.epoch 1 900000000).res (congrArg Value.bool (Zaf (by omega) (by omega)))) (vals := [Iv k.epoch, Iv 1, Iv 900000000]) (res' := .bool true) rfl rfl rfl rfl rfl rfl ?_
  refine Zd3 (vx := .bool true) rfl rfl (.bool false) rfl Zbx ?_
  refine Zf rfl rfl (.bool false) rfl ?_
  refine Ze (b := 2) (o := 0) (n := 1) (o' := 1) rfl rfl rfl rfl rfl ?_
  refine Zl (p := pt 2 1) (v := Iv k.log) rfl rfl rfl (by kernel_rfl) ?_
  refine Ze (b := 2) (o := 0) (n := 0) (o' := 0) rfl rfl rfl rfl rfl ?_
  refine Zl (p := pt 2 0) (v := Iv k.epoch) rfl rfl rfl (by kernel_rfl) ?_
  by_cases h3 : 1 ≤ k.log
  by_cases h4 : k.log ≤ k.epoch
  refine Zp ((Zas (G := G) k.log 1 k.epoch).res (congrArg Value.bool (Zaf (by omega) (by omega)))) (vals := [Iv k.log, Iv 1, Iv k.epoch]) (res' := .bool true) rfl rfl rfl rfl rfl rfl ?_
  refine Zd3 (vx := .bool true) rfl rfl (.bool false) rfl Zbx ?_
  refine Zg rfl rfl (.bool false) rfl (Zb (Zc (Zx rfl (Z8 (Zc (Zk (Zk (Zm ?_))))))))
  refine Ze (b := 2) (o := 0) (n := 2) (o' := 2) rfl rfl rfl rfl rfl ?_
  refine Zl (p := pt 2 2) (v := slv 0 0 n c) rfl rfl rfl (by kernel_rfl) ?_
  refine Z9 (e := [some (0, 0)]) (nid := 0) (Zhu (G := G) k.items n c hn (by omega) (by omega)) (vals := [slv 0 0 n c]) (v := Iv (Zfc k.items)) (H' := [rwR Zh k.items, rwR Zj k.claims, mxB 4 ([Iv k.epoch, Iv k.log, slv 0 0 n c, slv 1 0 m d])]) rfl rfl rfl rfl rfl rfl rfl ⟨⟨⟨rfl, rfl, rfl, by first | omega | exact Nat.le_refl _, by first | omega | exact Nat.le_refl _⟩, trivial⟩, ⟨(Zab rfl), trivial⟩, rfl, rfl, rfl⟩ rfl (by kernel_rfl) ?_
  by_cases h5 : (Zfc k.items) ≠ 0
  refine Zn (vx := Iv (Zfc k.items)) (vy := Iv 0) rfl rfl (.bool true) rfl rfl (Zed (by omega)) ?_
  refine Zf rfl rfl (.bool true) rfl (Za rfl rfl (Za rfl rfl (Za rfl rfl (Za rfl rfl (Zg rfl rfl (.bool true) rfl (Zf rfl rfl (.bool true) rfl (Za rfl rfl (Za rfl rfl (Za rfl rfl (Za rfl rfl (Za rfl rfl (Za rfl rfl (Zg rfl rfl (.bool true) rfl (Zb (Zc (Z4 rfl (Zie (Zgv (Zfr (Zk (Z8 (Zc (Zk (Zm (Zd rfl rfl (Iv 1) rfl (Zb (Zc (Zq (Zkw (Zo ?_))))))))))))))))))))))))))))))
  rw [show Zcb k = 1 from if_neg (fun q => by obtain ⟨q1, q2, q3, q4, q5, q6⟩ := q; rw [hn] at q6; first | omega | exact Zaj (by omega) q3 | exact Zdv (by omega) q4)]
  exact Zi (v := Iv 1) rfl rfl rfl (by kernel_rfl) rfl
  refine Zn (vx := Iv (Zfc k.items)) (vy := Iv 0) rfl rfl (.bool false) rfl rfl (Zd4 (by omega)) ?_
  refine Zf rfl rfl (.bool false) rfl ?_
  refine Ze (b := 2) (o := 0) (n := 3) (o' := 3) rfl rfl rfl rfl rfl ?_
  refine Zl (p := pt 2 3) (v := slv 1 0 m d) rfl rfl rfl (by kernel_rfl) ?_
  refine Z9 (e := [some (1, 0)]) (nid := 0) (Zmk (G := G) k.claims m d hm (by omega) (by omega)) (vals := [slv 1 0 m d]) (v := Iv (Ze1 k.claims)) (H' := [rwR Zh k.items, rwR Zj k.claims, mxB 4 ([Iv k.epoch, Iv k.log, slv 0 0 n c, slv 1 0 m d])]) rfl rfl rfl rfl rfl rfl rfl ⟨⟨⟨rfl, rfl, rfl, by first | omega | exact Nat.le_refl _, by first | omega | exact Nat.le_refl _⟩, trivial⟩, ⟨(Zab rfl), trivial⟩, rfl, rfl, rfl⟩ rfl (by kernel_rfl) ?_
  by_cases h6 : (Ze1 k.claims) ≠ 0
  refine Zn (vx := Iv (Ze1 k.claims)) (vy := Iv 0) rfl rfl (.bool true) rfl rfl (Zed (by omega)) ?_
  refine Zg rfl rfl (.bool true) rfl (Zf rfl rfl (.bool true) rfl (Za rfl rfl (Za rfl rfl (Za rfl rfl (Za rfl rfl (Za rfl rfl (Za rfl rfl (Zg rfl rfl (.bool true) rfl (Zb (Zc (Z4 rfl (Zie (Zgv (Zfr (Zk (Z8 (Zc (Zk (Zm (Zd rfl rfl (Iv 1) rfl (Zb (Zc (Zq (Zkw (Zo ?_)))))))))))))))))))))))))
  rw [show Zcb k = 1 from if_neg (fun q => by obtain ⟨q1, q2, q3, q4, q5, q6⟩ := q; rw [hn] at q6; first | omega | exact Zaj (by omega) q3 | exact Zdv (by omega) q4)]
  exact Zi (v := Iv 1) rfl rfl rfl (by kernel_rfl) rfl
  refine Zn (vx := Iv (Ze1 k.claims)) (vy := Iv 0) rfl rfl (.bool false) rfl rfl (Zd4 (by omega)) ?_
  refine Zg rfl rfl (.bool false) rfl (Zf rfl rfl (.bool false) rfl ?_)
  refine Ze (b := 2) (o := 0) (n := 1) (o' := 1) rfl rfl rfl rfl rfl ?_
  refine Zl (p := pt 2 1) (v := Iv k.log) rfl rfl rfl (by kernel_rfl) ?_
  refine Ze (b := 2) (o := 0) (n := 2) (o' := 2) rfl rfl rfl rfl rfl ?_
  refine Zl (p := pt 2 2) (v := slv 0 0 n c) rfl rfl rfl (by kernel_rfl) ?_
  refine Z9 (e := [some (0, 0)]) (nid := 0) (Zl5 (G := G) k.log k.items n c hn (by omega) (by omega)) (vals := [Iv k.log, slv 0 0 n c]) (v := Iv (Zb1 k.log k.items)) (H' := [rwR Zh k.items, rwR Zj k.claims, mxB 4 ([Iv k.epoch, Iv k.log, slv 0 0 n c, slv 1 0 m d])]) rfl rfl rfl rfl rfl rfl rfl ⟨⟨rfl, ⟨rfl, rfl, rfl, by first | omega | exact Nat.le_refl _, by first | omega | exact Nat.le_refl _⟩, trivial⟩, ⟨(Zab rfl), trivial⟩, rfl, rfl, rfl⟩ rfl (by kernel_rfl) ?_
  by_cases h7 : (Zb1 k.log k.items) = 0
  refine Zn (vx := Iv (Zb1 k.log k.items)) (vy := Iv 0) rfl rfl (.bool true) rfl rfl (Zao (by omega)) ?_
  refine Zg rfl rfl (.bool true) rfl (Zb (Zc (Z4 rfl (Zie (Zgv (Zfr (Zk (Z8 (Zc (Zk (Zm (Zd rfl rfl (Iv 1) rfl (Zb (Zc (Zq (Zkw (Zo ?_)))))))))))))))))
  rw [show Zcb k = 1 from if_neg (fun q => by obtain ⟨q1, q2, q3, q4, q5, q6⟩ := q; rw [hn] at q6; first | omega | exact Zaj (by omega) q3 | exact Zdv (by omega) q4)]
  exact Zi (v := Iv 1) rfl rfl rfl (by kernel_rfl) rfl
  refine Zn (vx := Iv (Zb1 k.log k.items)) (vy := Iv 0) rfl rfl (.bool false) rfl rfl (Zbf (by omega)) ?_
  refine Zg rfl rfl (.bool false) rfl (Zb (Zc (Zx rfl (Z8 (Zc (Zk (Zk ?_)))))))
  refine Zd6 (by kernel_rfl) ?_
  refine Zf rfl rfl (Iv (n : Nat)) rfl ?_
  by_cases h8 : (n : Nat) = 0
  refine Zn (vx := Iv (n : Nat)) (vy := Iv 0) rfl rfl (.bool true) rfl rfl (Zao (by omega)) ?_
  refine Zf rfl rfl (.bool true) rfl (Za rfl rfl (Za rfl rfl (Za rfl rfl (Za rfl rfl (Za rfl rfl (Za rfl rfl (Za rfl rfl (Za rfl rfl (Za rfl rfl (Za rfl rfl (Zg rfl rfl (.bool true) rfl ?_)))))))))))
  refine Zbe (Zan [[], [0], [0, 1], [0, 1, 2], [0, 1, 2, 3], [0, 1, 2], [0, 1, 2, 5], [0, 1, 2, 3, 4, 5, 6], [0, 1, 2, 3, 4, 5, 6, 7], [0, 1, 2, 3, 4, 5, 6, 7, 8], [0, 1, 2], [0, 1, 2, 10], [0, 1, 2, 3, 4, 5, 6, 7, 8, 9, 10, 11], [0, 1, 2, 3, 4, 5, 6, 7, 8, 9, 10, 11, 12]] (by kernel_rfl) (by kernel_rfl)) ?_
  refine Zc (Z4 rfl (Zk (Zm (Zd rfl rfl (Iv 0) rfl (Zb (Zc (Zq (Zv (Zkz (Zo ?_))))))))))
  rw [show Zcb k = 0 from if_pos ⟨by omega, by omega, Zby (by omega), Zjr (by omega), Zoc (Zby (by omega)) (by omega), by rw [hn]; omega⟩]
  exact Zi (v := Iv 0) rfl rfl rfl (by kernel_rfl) rfl
  refine Zn (vx := Iv (n : Nat)) (vy := Iv 0) rfl rfl (.bool false) rfl rfl (Zbf (by omega)) ?_
  refine Zf rfl rfl (.bool false) rfl ?_
  refine Ze (b := 2) (o := 0) (n := 2) (o' := 2) rfl rfl rfl rfl rfl ?_
  refine Zl (p := pt 2 2) (v := slv 0 0 n c) rfl rfl rfl (by kernel_rfl) ?_
  refine Zf rfl rfl (Iv (n : Nat)) rfl ?_
  refine Zn (vx := Iv (n : Nat)) (vy := Iv 1) rfl rfl (Iv ((n : Nat) - 1)) rfl rfl (Zhz (by omega) (by omega) (by omega)) ?_
  refine Zcq (b := 0) (o := 0) (j := (n - 1) * 110) (m := n) (c := c) (sz := 110) (i := (n : Nat) - 1) (k := .i64) rfl rfl rfl rfl rfl (by omega) (by omega) (by omega) ?_
  refine Ze (b := 0) (o := (n - 1) * 110) (n := 0) (o' := (n - 1) * 110) rfl rfl rfl rfl (by omega) ?_
  refine Zl (p := pt 0 ((n - 1) * 110)) (v := Iv ((k.items.getD (n - 1) default).epoch)) rfl rfl rfl (Zec Zh (l := k.items) (i := n - 1) (k := 0) (m := 110) rfl rfl rfl rfl (by have := hn; omega) (by omega) (by kernel_rfl) rfl) ?_
  refine Ze (b := 2) (o := 0) (n := 1) (o' := 1) rfl rfl rfl rfl rfl ?_
  refine Zl (p := pt 2 1) (v := Iv k.log) rfl rfl rfl (by kernel_rfl) ?_
  by_cases h9 : ((k.items.getD (n - 1) default).epoch) ≤ k.log
  refine Zn (vx := Iv ((k.items.getD (n - 1) default).epoch)) (vy := Iv k.log) rfl rfl (.bool true) rfl rfl (Zh8 (by omega)) ?_
  refine Zg rfl rfl (.bool true) rfl ?_
  refine Zbe (Zan [[], [0], [0, 1], [0, 1, 2], [0, 1, 2, 3], [0, 1, 2], [0, 1, 2, 5], [0, 1, 2, 3, 4, 5, 6], [0, 1, 2, 3, 4, 5, 6, 7], [0, 1, 2, 3, 4, 5, 6, 7, 8], [0, 1, 2], [0, 1, 2, 10], [0, 1, 2, 3, 4, 5, 6, 7, 8, 9, 10, 11], [0, 1, 2, 3, 4, 5, 6, 7, 8, 9, 10, 11, 12]] (by kernel_rfl) (by kernel_rfl)) ?_
  refine Zc (Z4 rfl (Zk (Zm (Zd rfl rfl (Iv 0) rfl (Zb (Zc (Zq (Zv (Zkz (Zo ?_))))))))))
  rw [show Zcb k = 0 from if_pos ⟨by omega, by omega, Zby (by omega), Zjr (by omega), Zoc (Zby (by omega)) (by omega), by rw [hn]; omega⟩]
  exact Zi (v := Iv 0) rfl rfl rfl (by kernel_rfl) rfl
  refine Zn (vx := Iv ((k.items.getD (n - 1) default).epoch)) (vy := Iv k.log) rfl rfl (.bool false) rfl rfl (Zh7 (by omega)) ?_
  refine Zg rfl rfl (.bool false) rfl ?_
  refine Zbe (Zan [[], [0], [0, 1], [0, 1, 2], [0, 1, 2, 3], [0, 1, 2], [0, 1, 2, 5], [0, 1, 2, 3, 4, 5, 6], [0, 1, 2, 3, 4, 5, 6, 7], [0, 1, 2, 3, 4, 5, 6, 7, 8], [0, 1, 2], [0, 1, 2, 10], [0, 1, 2, 3, 4, 5, 6, 7, 8, 9, 10, 11], [0, 1, 2, 3, 4, 5, 6, 7, 8, 9, 10, 11, 12]] (by kernel_rfl) (by kernel_rfl)) ?_
  refine Zc (Zx rfl (Z8 (Zc (Zk (Zu2 (Zc (Zk (Zm (Zd rfl rfl (Iv 1) rfl (Zb (Zc (Zq (Zkz (Zo ?_))))))))))))))
  rw [show Zcb k = 1 from if_neg (fun q => by obtain ⟨q1, q2, q3, q4, q5, q6⟩ := q; rw [hn] at q6; first | omega | exact Zaj (by omega) q3 | exact Zdv (by omega) q4)]
  exact Zi (v := Iv 1) rfl rfl rfl (by kernel_rfl) rfl
  refine Zp ((Zas (G := G) k.log 1 k.epoch).res (congrArg Value.bool (Zt (by omega)))) (vals := [Iv k.log, Iv 1, Iv k.epoch]) (res' := .bool false) rfl rfl rfl rfl rfl rfl ?_
  refine Zd3 (vx := .bool false) rfl rfl (.bool true) rfl Zbx ?_
  refine Zg rfl rfl (.bool true) rfl (Zb (Zc (Z4 rfl (Zie (Zgv (Zfr (Zk (Z8 (Zc (Zk (Zm (Zd rfl rfl (Iv 1) rfl (Zb (Zc (Zq (Zkw (Zo ?_)))))))))))))))))
  rw [show Zcb k = 1 from if_neg (fun q => by obtain ⟨q1, q2, q3, q4, q5, q6⟩ := q; rw [hn] at q6; first | omega | exact Zaj (by omega) q3 | exact Zdv (by omega) q4)]
  exact Zi (v := Iv 1) rfl rfl rfl (by kernel_rfl) rfl
  refine Zp ((Zas (G := G) k.log 1 k.epoch).res (congrArg Value.bool (Zt (by omega)))) (vals := [Iv k.log, Iv 1, Iv k.epoch]) (res' := .bool false) rfl rfl rfl rfl rfl rfl ?_
  refine Zd3 (vx := .bool false) rfl rfl (.bool true) rfl Zbx ?_
  refine Zg rfl rfl (.bool true) rfl (Zb (Zc (Z4 rfl (Zie (Zgv (Zfr (Zk (Z8 (Zc (Zk (Zm (Zd rfl rfl (Iv 1) rfl (Zb (Zc (Zq (Zkw (Zo ?_)))))))))))))))))
  rw [show Zcb k = 1 from if_neg (fun q => by obtain ⟨q1, q2, q3, q4, q5, q6⟩ := q; rw [hn] at q6; first | omega | exact Zaj (by omega) q3 | exact Zdv (by omega) q4)]
  exact Zi (v := Iv 1) rfl rfl rfl (by kernel_rfl) rfl
  refine Zp ((Zas (G := G) k.epoch 1 900000000).res (congrArg Value.bool (Zt (by omega)))) (vals := [Iv k.epoch, Iv 1, Iv 900000000]) (res' := .bool false) rfl rfl rfl rfl rfl rfl ?_
  refine Zd3 (vx := .bool false) rfl rfl (.bool true) rfl Zbx ?_
  refine Zf rfl rfl (.bool true) rfl (Za rfl rfl (Za rfl rfl (Za rfl rfl (Za rfl rfl (Za rfl rfl (Za rfl rfl (Zg rfl rfl (.bool true) rfl (Zb (Zc (Z4 rfl (Zie (Zgv (Zfr (Zk (Z8 (Zc (Zk (Zm (Zd rfl rfl (Iv 1) rfl (Zb (Zc (Zq (Zkw (Zo ?_))))))))))))))))))))))))
  rw [show Zcb k = 1 from if_neg (fun q => by obtain ⟨q1, q2, q3, q4, q5, q6⟩ := q; rw [hn] at q6; first | omega | exact Zaj (by omega) q3 | exact Zdv (by omega) q4)]
  exact Zi (v := Iv 1) rfl rfl rfl (by kernel_rfl) rfl
  refine Zp ((Zas (G := G) k.epoch 1 900000000).res (congrArg Value.bool (Zt (by omega)))) (vals := [Iv k.epoch, Iv 1, Iv 900000000]) (res' := .bool false) rfl rfl rfl rfl rfl rfl ?_
  refine Zd3 (vx := .bool false) rfl rfl (.bool true) rfl Zbx ?_
  refine Zf rfl rfl (.bool true) rfl (Za rfl rfl (Za rfl rfl (Za rfl rfl (Za rfl rfl (Za rfl rfl (Za rfl rfl (Zg rfl rfl (.bool true) rfl (Zb (Zc (Z4 rfl (Zie (Zgv (Zfr (Zk (Z8 (Zc (Zk (Zm (Zd rfl rfl (Iv 1) rfl (Zb (Zc (Zq (Zkw (Zo ?_))))))))))))))))))))))))
  rw [show Zcb k = 1 from if_neg (fun q => by obtain ⟨q1, q2, q3, q4, q5, q6⟩ := q; rw [hn] at q6; first | omega | exact Zaj (by omega) q3 | exact Zdv (by omega) q4)]
  exact Zi (v := Iv 1) rfl rfl rfl (by kernel_rfl) rfl
theorem Zgz (k : Kept) (n c m d : Nat) (hn : k.items.length = n) (hm : k.claims.length = m) (hc : n ≤ c) (hd : m ≤ d) (hb : n ≤ 1048576) (hb2 : m ≤ 1048576) : Zak Try.prog G 12 [mxV ([Iv k.epoch, Iv k.log, slv 0 0 n c, slv 1 0 m d])] [rwR Zh k.items, rwR Zj k.claims] (.bool (decide (Zax k))) [rwR Zh k.items, rwR Zj k.claims] := by
  refine Zb5 (fn := Try.f12) (nt := 51) rfl rfl rfl rfl ?_
  refine Za5 1 (H' := [rwR Zh k.items, rwR Zj k.claims, hole]) rfl ?_
  refine Zk (Zm ?_)
  refine Zch (v := mxV ([Iv k.epoch, Iv k.log, slv 0 0 n c, slv 1 0 m d])) (b := mxB 4 ([Iv k.epoch, Iv k.log, slv 0 0 n c, slv 1 0 m d])) (nid := 2) (H' := [rwR Zh k.items, rwR Zj k.claims, mxB 4 ([Iv k.epoch, Iv k.log, slv 0 0 n c, slv 1 0 m d])]) rfl rfl rfl (by kernel_rfl) (by kernel_rfl) ?_
  refine Zd rfl rfl (.bool false) rfl (Zb (Zc (Zk (Zk (Zm ?_)))))
  refine Ze (b := 2) (o := 0) (n := 0) (o' := 0) rfl rfl rfl rfl rfl ?_
  refine Zl (p := pt 2 0) (v := Iv k.epoch) rfl rfl rfl (by kernel_rfl) ?_
  by_cases h1 : 1 ≤ k.epoch
  by_cases h2 : k.epoch ≤ 900000000
  refine Zp ((Zdy (G := G) k.epoch 1 900000000).res (congrArg Value.bool (Zaf (by omega) (by omega)))) (vals := [Iv k.epoch, Iv 1, Iv 900000000]) (res' := .bool true) rfl rfl rfl rfl rfl rfl ?_
  refine Zd3 (vx := .bool true) rfl rfl (.bool false) rfl Zbx ?_
  refine Zf rfl rfl (.bool false) rfl ?_
  refine Ze (b := 2) (o := 0) (n := 1) (o' := 1) rfl rfl rfl rfl rfl ?_
  refine Zl (p := pt 2 1) (v := Iv k.log) rfl rfl rfl (by kernel_rfl) ?_
  refine Ze (b := 2) (o := 0) (n := 0) (o' := 0) rfl rfl rfl rfl rfl ?_
  refine Zl (p := pt 2 0) (v := Iv k.epoch) rfl rfl rfl (by kernel_rfl) ?_
  by_cases h3 : 1 ≤ k.log
  by_cases h4 : k.log ≤ k.epoch
  refine Zp ((Zdy (G := G) k.log 1 k.epoch).res (congrArg Value.bool (Zaf (by omega) (by omega)))) (vals := [Iv k.log, Iv 1, Iv k.epoch]) (res' := .bool true) rfl rfl rfl rfl rfl rfl ?_
  refine Zd3 (vx := .bool true) rfl rfl (.bool false) rfl Zbx ?_
  refine Zg rfl rfl (.bool false) rfl (Zf rfl rfl (.bool false) rfl ?_)
  refine Ze (b := 2) (o := 0) (n := 2) (o' := 2) rfl rfl rfl rfl rfl ?_
  refine Zl (p := pt 2 2) (v := slv 0 0 n c) rfl rfl rfl (by kernel_rfl) ?_
  refine Z9 (e := [some (0, 0)]) (nid := 0) (Zne (G := G) k.items n c hn (by omega) (by omega)) (vals := [slv 0 0 n c]) (v := .bool (decide (Zcj k.items))) (H' := [rwR Zh k.items, rwR Zj k.claims, mxB 4 ([Iv k.epoch, Iv k.log, slv 0 0 n c, slv 1 0 m d])]) rfl rfl rfl rfl rfl rfl rfl ⟨⟨⟨rfl, rfl, rfl, by first | omega | exact Nat.le_refl _, by first | omega | exact Nat.le_refl _⟩, trivial⟩, ⟨(Zab rfl), trivial⟩, rfl, rfl, rfl⟩ rfl (by kernel_rfl) ?_
  rcases Bool.eq_false_or_eq_true (decide (Zcj k.items)) with h5 | h5
  refine Zd3 (vx := .bool (decide (Zcj k.items))) rfl rfl (.bool false) rfl (Eq.trans Zbx (congrArg (fun b => some (Value.bool !b)) h5)) ?_
  refine Zg rfl rfl (.bool false) rfl (Zf rfl rfl (.bool false) rfl ?_)
  refine Ze (b := 2) (o := 0) (n := 3) (o' := 3) rfl rfl rfl rfl rfl ?_
  refine Zl (p := pt 2 3) (v := slv 1 0 m d) rfl rfl rfl (by kernel_rfl) ?_
  refine Z9 (e := [some (1, 0)]) (nid := 0) (Zlu (G := G) k.claims m d hm (by omega) (by omega)) (vals := [slv 1 0 m d]) (v := .bool (decide (Zdu k.claims))) (H' := [rwR Zh k.items, rwR Zj k.claims, mxB 4 ([Iv k.epoch, Iv k.log, slv 0 0 n c, slv 1 0 m d])]) rfl rfl rfl rfl rfl rfl rfl ⟨⟨⟨rfl, rfl, rfl, by first | omega | exact Nat.le_refl _, by first | omega | exact Nat.le_refl _⟩, trivial⟩, ⟨(Zab rfl), trivial⟩, rfl, rfl, rfl⟩ rfl (by kernel_rfl) ?_
  rcases Bool.eq_false_or_eq_true (decide (Zdu k.claims)) with h6 | h6
  refine Zd3 (vx := .bool (decide (Zdu k.claims))) rfl rfl (.bool false) rfl (Eq.trans Zbx (congrArg (fun b => some (Value.bool !b)) h6)) ?_
  refine Zg rfl rfl (.bool false) rfl (Zb (Zc (Zx rfl (Z8 (Zc (Zk (Zk ?_)))))))
  refine Zd6 (by kernel_rfl) ?_
  refine Ze (b := 2) (o := 0) (n := 2) (o' := 2) rfl rfl rfl rfl rfl ?_
  refine Zl (p := pt 2 2) (v := slv 0 0 n c) rfl rfl rfl (by kernel_rfl) ?_
  refine Zci (p := slv 0 0 n c) (v := Iv (n : Nat)) rfl rfl rfl rfl ?_
  by_cases h7 : 0 < (n : Nat)
  refine Zn (vx := Iv (n : Nat)) (vy := Iv 0) rfl rfl (.bool true) rfl rfl (Zeq (by omega)) ?_
  refine Zf rfl rfl (.bool true) rfl ?_
  refine Ze (b := 2) (o := 0) (n := 2) (o' := 2) rfl rfl rfl rfl rfl ?_
  refine Zl (p := pt 2 2) (v := slv 0 0 n c) rfl rfl rfl (by kernel_rfl) ?_
  refine Ze (b := 2) (o := 0) (n := 2) (o' := 2) rfl rfl rfl rfl rfl ?_
  refine Zl (p := pt 2 2) (v := slv 0 0 n c) rfl rfl rfl (by kernel_rfl) ?_
  refine Zci (p := slv 0 0 n c) (v := Iv (n : Nat)) rfl rfl rfl rfl ?_
  refine Zn (vx := Iv (n : Nat)) (vy := Iv 1) rfl rfl (Iv ((n : Nat) - 1)) rfl rfl (Zhz (by omega) (by omega) (by omega)) ?_
  refine Zcq (b := 0) (o := 0) (j := (n - 1) * 110) (m := n) (c := c) (sz := 110) (i := (n : Nat) - 1) (k := .i64) rfl rfl rfl rfl rfl (by omega) (by omega) (by omega) ?_
  refine Ze (b := 0) (o := (n - 1) * 110) (n := 0) (o' := (n - 1) * 110) rfl rfl rfl rfl (by omega) ?_
  refine Zl (p := pt 0 ((n - 1) * 110)) (v := Iv ((k.items.getD (n - 1) default).epoch)) rfl rfl rfl (Zec Zh (l := k.items) (i := n - 1) (k := 0) (m := 110) rfl rfl rfl rfl (by have := hn; omega) (by omega) (by kernel_rfl) rfl) ?_
  refine Ze (b := 2) (o := 0) (n := 1) (o' := 1) rfl rfl rfl rfl rfl ?_
  refine Zl (p := pt 2 1) (v := Iv k.log) rfl rfl rfl (by kernel_rfl) ?_
  by_cases h8 : k.log < ((k.items.getD (n - 1) default).epoch)
  refine Zn (vx := Iv ((k.items.getD (n - 1) default).epoch)) (vy := Iv k.log) rfl rfl (.bool true) rfl rfl (Zeq (by omega)) ?_
  refine Zg rfl rfl (.bool true) rfl ?_
  refine Zbe (Zan [[], [0], [0, 1], [0, 1, 2], [0, 1, 2, 3], [0, 1, 2, 3, 4], [0, 1, 2, 3, 4, 5], [0, 1, 2, 3, 4], [0, 1, 2, 3, 4, 7], [0, 1, 2, 3, 4, 7, 8], [0, 1, 2, 3, 4, 7, 8, 9], [0, 1, 2, 3, 4, 5, 6, 7, 8, 9, 10], [0, 1, 2, 3, 4, 5, 6, 7, 8, 9, 10, 11], [0, 1, 2, 3, 4, 5, 6, 7, 8, 9, 10, 11, 12], [0, 1, 2, 3, 4], [0, 1, 2, 3, 4, 14], [0, 1, 2, 3, 4, 5, 6, 7, 8, 9, 10, 11, 12, 13, 14, 15], [0, 1, 2, 3, 4, 5, 6, 7, 8, 9, 10, 11, 12, 13, 14, 15, 16]] (by kernel_rfl) (by kernel_rfl)) ?_
  refine Zc (Z4 rfl (Zk (Zm (Zd rfl rfl (.bool false) rfl (Zb (Zc (Zq (Zv (Zo ?_)))))))))
  rw [show decide (Zax k) = false from decide_eq_false (fun q => by obtain ⟨q1, q2, q3, q4, q5, q6⟩ := q; rw [hn] at q6; first | omega | exact absurd q3 (of_decide_eq_false (by assumption)) | exact absurd q4 (of_decide_eq_false (by assumption)))]
  exact Zi (v := .bool false) rfl rfl rfl (by kernel_rfl) rfl
  refine Zn (vx := Iv ((k.items.getD (n - 1) default).epoch)) (vy := Iv k.log) rfl rfl (.bool false) rfl rfl (Zem (by omega)) ?_
  refine Zg rfl rfl (.bool false) rfl ?_
  refine Zbe (Zan [[], [0], [0, 1], [0, 1, 2], [0, 1, 2, 3], [0, 1, 2, 3, 4], [0, 1, 2, 3, 4, 5], [0, 1, 2, 3, 4], [0, 1, 2, 3, 4, 7], [0, 1, 2, 3, 4, 7, 8], [0, 1, 2, 3, 4, 7, 8, 9], [0, 1, 2, 3, 4, 5, 6, 7, 8, 9, 10], [0, 1, 2, 3, 4, 5, 6, 7, 8, 9, 10, 11], [0, 1, 2, 3, 4, 5, 6, 7, 8, 9, 10, 11, 12], [0, 1, 2, 3, 4], [0, 1, 2, 3, 4, 14], [0, 1, 2, 3, 4, 5, 6, 7, 8, 9, 10, 11, 12, 13, 14, 15], [0, 1, 2, 3, 4, 5, 6, 7, 8, 9, 10, 11, 12, 13, 14, 15, 16]] (by kernel_rfl) (by kernel_rfl)) ?_
  refine Zc (Zx rfl (Z8 (Zc (Zk (Zm ?_)))))
  refine Ze (b := 2) (o := 0) (n := 1) (o' := 1) rfl rfl rfl rfl rfl ?_
  refine Zl (p := pt 2 1) (v := Iv k.log) rfl rfl rfl (by kernel_rfl) ?_
  refine Ze (b := 2) (o := 0) (n := 2) (o' := 2) rfl rfl rfl rfl rfl ?_
  refine Zl (p := pt 2 2) (v := slv 0 0 n c) rfl rfl rfl (by kernel_rfl) ?_
  refine Z9 (e := [some (0, 0)]) (nid := 0) (Zio (G := G) k.log k.items n c hn (by omega) (by omega)) (vals := [Iv k.log, slv 0 0 n c]) (v := Iv (Zb1 k.log k.items)) (H' := [rwR Zh k.items, rwR Zj k.claims, mxB 4 ([Iv k.epoch, Iv k.log, slv 0 0 n c, slv 1 0 m d])]) rfl rfl rfl rfl rfl rfl rfl ⟨⟨rfl, ⟨rfl, rfl, rfl, by first | omega | exact Nat.le_refl _, by first | omega | exact Nat.le_refl _⟩, trivial⟩, ⟨(Zab rfl), trivial⟩, rfl, rfl, rfl⟩ rfl (by kernel_rfl) ?_
  by_cases h9 : 0 < (Zb1 k.log k.items)
  refine Zn (vx := Iv (Zb1 k.log k.items)) (vy := Iv 0) rfl rfl (.bool true) rfl rfl (Zeq (by omega)) ?_
  refine Zd rfl rfl (.bool true) rfl (Zb (Zc (Zq (Zo ?_))))
  rw [show decide (Zax k) = true from decide_eq_true ⟨by omega, by omega, of_decide_eq_true (by assumption), of_decide_eq_true (by assumption), by omega, by rw [hn]; omega⟩]
  exact Zi (v := .bool true) rfl rfl rfl (by kernel_rfl) rfl
  refine Zn (vx := Iv (Zb1 k.log k.items)) (vy := Iv 0) rfl rfl (.bool false) rfl rfl (Zem (by omega)) ?_
  refine Zd rfl rfl (.bool false) rfl (Zb (Zc (Zq (Zo ?_))))
  rw [show decide (Zax k) = false from decide_eq_false (fun q => by obtain ⟨q1, q2, q3, q4, q5, q6⟩ := q; rw [hn] at q6; first | omega | exact absurd q3 (of_decide_eq_false (by assumption)) | exact absurd q4 (of_decide_eq_false (by assumption)))]
  exact Zi (v := .bool false) rfl rfl rfl (by kernel_rfl) rfl
  refine Zn (vx := Iv (n : Nat)) (vy := Iv 0) rfl rfl (.bool false) rfl rfl (Zem (by omega)) ?_
  refine Zf rfl rfl (.bool false) rfl (Za rfl rfl (Za rfl rfl (Za rfl rfl (Za rfl rfl (Za rfl rfl (Za rfl rfl (Za rfl rfl (Za rfl rfl (Za rfl rfl (Za rfl rfl (Za rfl rfl (Za rfl rfl (Zg rfl rfl (.bool false) rfl ?_)))))))))))))
  refine Zbe (Zan [[], [0], [0, 1], [0, 1, 2], [0, 1, 2, 3], [0, 1, 2, 3, 4], [0, 1, 2, 3, 4, 5], [0, 1, 2, 3, 4], [0, 1, 2, 3, 4, 7], [0, 1, 2, 3, 4, 7, 8], [0, 1, 2, 3, 4, 7, 8, 9], [0, 1, 2, 3, 4, 5, 6, 7, 8, 9, 10], [0, 1, 2, 3, 4, 5, 6, 7, 8, 9, 10, 11], [0, 1, 2, 3, 4, 5, 6, 7, 8, 9, 10, 11, 12], [0, 1, 2, 3, 4], [0, 1, 2, 3, 4, 14], [0, 1, 2, 3, 4, 5, 6, 7, 8, 9, 10, 11, 12, 13, 14, 15], [0, 1, 2, 3, 4, 5, 6, 7, 8, 9, 10, 11, 12, 13, 14, 15, 16]] (by kernel_rfl) (by kernel_rfl)) ?_
  refine Zc (Zx rfl (Z8 (Zc (Zk (Zm ?_)))))
  refine Ze (b := 2) (o := 0) (n := 1) (o' := 1) rfl rfl rfl rfl rfl ?_
  refine Zl (p := pt 2 1) (v := Iv k.log) rfl rfl rfl (by kernel_rfl) ?_
  refine Ze (b := 2) (o := 0) (n := 2) (o' := 2) rfl rfl rfl rfl rfl ?_
  refine Zl (p := pt 2 2) (v := slv 0 0 n c) rfl rfl rfl (by kernel_rfl) ?_
  refine Z9 (e := [some (0, 0)]) (nid := 0) (Zio (G := G) k.log k.items n c hn (by omega) (by omega)) (vals := [Iv k.log, slv 0 0 n c]) (v := Iv (Zb1 k.log k.items)) (H' := [rwR Zh k.items, rwR Zj k.claims, mxB 4 ([Iv k.epoch, Iv k.log, slv 0 0 n c, slv 1 0 m d])]) rfl rfl rfl rfl rfl rfl rfl ⟨⟨rfl, ⟨rfl, rfl, rfl, by first | omega | exact Nat.le_refl _, by first | omega | exact Nat.le_refl _⟩, trivial⟩, ⟨(Zab rfl), trivial⟩, rfl, rfl, rfl⟩ rfl (by kernel_rfl) ?_
  by_cases h10 : 0 < (Zb1 k.log k.items)
  refine Zn (vx := Iv (Zb1 k.log k.items)) (vy := Iv 0) rfl rfl (.bool true) rfl rfl (Zeq (by omega)) ?_
  refine Zd rfl rfl (.bool true) rfl (Zb (Zc (Zq (Zo ?_))))
  rw [show decide (Zax k) = true from decide_eq_true ⟨by omega, by omega, of_decide_eq_true (by assumption), of_decide_eq_true (by assumption), by omega, by rw [hn]; omega⟩]
  exact Zi (v := .bool true) rfl rfl rfl (by kernel_rfl) rfl
  refine Zn (vx := Iv (Zb1 k.log k.items)) (vy := Iv 0) rfl rfl (.bool false) rfl rfl (Zem (by omega)) ?_
  refine Zd rfl rfl (.bool false) rfl (Zb (Zc (Zq (Zo ?_))))
  rw [show decide (Zax k) = false from decide_eq_false (fun q => by obtain ⟨q1, q2, q3, q4, q5, q6⟩ := q; rw [hn] at q6; first | omega | exact absurd q3 (of_decide_eq_false (by assumption)) | exact absurd q4 (of_decide_eq_false (by assumption)))]
  exact Zi (v := .bool false) rfl rfl rfl (by kernel_rfl) rfl
  refine Zd3 (vx := .bool (decide (Zdu k.claims))) rfl rfl (.bool true) rfl (Eq.trans Zbx (congrArg (fun b => some (Value.bool !b)) h6)) ?_
  refine Zg rfl rfl (.bool true) rfl (Zb (Zc (Z4 rfl (Zk (Zm (Zd rfl rfl (.bool false) rfl (Zb (Zc (Zq (Zv (Zo ?_)))))))))))
  rw [show decide (Zax k) = false from decide_eq_false (fun q => by obtain ⟨q1, q2, q3, q4, q5, q6⟩ := q; rw [hn] at q6; first | omega | exact absurd q3 (of_decide_eq_false (by assumption)) | exact absurd q4 (of_decide_eq_false (by assumption)))]
  exact Zi (v := .bool false) rfl rfl rfl (by kernel_rfl) rfl
  refine Zd3 (vx := .bool (decide (Zcj k.items))) rfl rfl (.bool true) rfl (Eq.trans Zbx (congrArg (fun b => some (Value.bool !b)) h5)) ?_
  refine Zg rfl rfl (.bool true) rfl (Zf rfl rfl (.bool true) rfl (Za rfl rfl (Za rfl rfl (Za rfl rfl (Za rfl rfl (Zg rfl rfl (.bool true) rfl (Zb (Zc (Z4 rfl (Zk (Zm (Zd rfl rfl (.bool false) rfl (Zb (Zc (Zq (Zv (Zo ?_)))))))))))))))))
  rw [show decide (Zax k) = false from decide_eq_false (fun q => by obtain ⟨q1, q2, q3, q4, q5, q6⟩ := q; rw [hn] at q6; first | omega | exact absurd q3 (of_decide_eq_false (by assumption)) | exact absurd q4 (of_decide_eq_false (by assumption)))]
  exact Zi (v := .bool false) rfl rfl rfl (by kernel_rfl) rfl
  refine Zp ((Zdy (G := G) k.log 1 k.epoch).res (congrArg Value.bool (Zt (by omega)))) (vals := [Iv k.log, Iv 1, Iv k.epoch]) (res' := .bool false) rfl rfl rfl rfl rfl rfl ?_
  refine Zd3 (vx := .bool false) rfl rfl (.bool true) rfl Zbx ?_
  refine Zg rfl rfl (.bool true) rfl (Zf rfl rfl (.bool true) rfl (Za rfl rfl (Za rfl rfl (Za rfl rfl (Za rfl rfl (Zg rfl rfl (.bool true) rfl (Zf rfl rfl (.bool true) rfl (Za rfl rfl (Za rfl rfl (Za rfl rfl (Za rfl rfl (Zg rfl rfl (.bool true) rfl (Zb (Zc (Z4 rfl (Zk (Zm (Zd rfl rfl (.bool false) rfl (Zb (Zc (Zq (Zv (Zo ?_)))))))))))))))))))))))
  rw [show decide (Zax k) = false from decide_eq_false (fun q => by obtain ⟨q1, q2, q3, q4, q5, q6⟩ := q; rw [hn] at q6; first | omega | exact absurd q3 (of_decide_eq_false (by assumption)) | exact absurd q4 (of_decide_eq_false (by assumption)))]
  exact Zi (v := .bool false) rfl rfl rfl (by kernel_rfl) rfl
  refine Zp ((Zdy (G := G) k.log 1 k.epoch).res (congrArg Value.bool (Zt (by omega)))) (vals := [Iv k.log, Iv 1, Iv k.epoch]) (res' := .bool false) rfl rfl rfl rfl rfl rfl ?_
  refine Zd3 (vx := .bool false) rfl rfl (.bool true) rfl Zbx ?_
  refine Zg rfl rfl (.bool true) rfl (Zf rfl rfl (.bool true) rfl (Za rfl rfl (Za rfl rfl (Za rfl rfl (Za rfl rfl (Zg rfl rfl (.bool true) rfl (Zf rfl rfl (.bool true) rfl (Za rfl rfl (Za rfl rfl (Za rfl rfl (Za rfl rfl (Zg rfl rfl (.bool true) rfl (Zb (Zc (Z4 rfl (Zk (Zm (Zd rfl rfl (.bool false) rfl (Zb (Zc (Zq (Zv (Zo ?_)))))))))))))))))))))))
  rw [show decide (Zax k) = false from decide_eq_false (fun q => by obtain ⟨q1, q2, q3, q4, q5, q6⟩ := q; rw [hn] at q6; first | omega | exact absurd q3 (of_decide_eq_false (by assumption)) | exact absurd q4 (of_decide_eq_false (by assumption)))]
  exact Zi (v := .bool false) rfl rfl rfl (by kernel_rfl) rfl
  refine Zp ((Zdy (G := G) k.epoch 1 900000000).res (congrArg Value.bool (Zt (by omega)))) (vals := [Iv k.epoch, Iv 1, Iv 900000000]) (res' := .bool false) rfl rfl rfl rfl rfl rfl ?_
  refine Zd3 (vx := .bool false) rfl rfl (.bool true) rfl Zbx ?_
  refine Zf rfl rfl (.bool true) rfl (Za rfl rfl (Za rfl rfl (Za rfl rfl (Za rfl rfl (Za rfl rfl (Za rfl rfl (Zg rfl rfl (.bool true) rfl (Zf rfl rfl (.bool true) rfl (Za rfl rfl (Za rfl rfl (Za rfl rfl (Za rfl rfl (Zg rfl rfl (.bool true) rfl (Zf rfl rfl (.bool true) rfl (Za rfl rfl (Za rfl rfl (Za rfl rfl (Za rfl rfl (Zg rfl rfl (.bool true) rfl (Zb (Zc (Z4 rfl (Zk (Zm (Zd rfl rfl (.bool false) rfl (Zb (Zc (Zq (Zv (Zo ?_))))))))))))))))))))))))))))))
  rw [show decide (Zax k) = false from decide_eq_false (fun q => by obtain ⟨q1, q2, q3, q4, q5, q6⟩ := q; rw [hn] at q6; first | omega | exact absurd q3 (of_decide_eq_false (by assumption)) | exact absurd q4 (of_decide_eq_false (by assumption)))]
  exact Zi (v := .bool false) rfl rfl rfl (by kernel_rfl) rfl
  refine Zp ((Zdy (G := G) k.epoch 1 900000000).res (congrArg Value.bool (Zt (by omega)))) (vals := [Iv k.epoch, Iv 1, Iv 900000000]) (res' := .bool false) rfl rfl rfl rfl rfl rfl ?_
  refine Zd3 (vx := .bool false) rfl rfl (.bool true) rfl Zbx ?_
  refine Zf rfl rfl (.bool true) rfl (Za rfl rfl (Za rfl rfl (Za rfl rfl (Za rfl rfl (Za rfl rfl (Za rfl rfl (Zg rfl rfl (.bool true) rfl (Zf rfl rfl (.bool true) rfl (Za rfl rfl (Za rfl rfl (Za rfl rfl (Za rfl rfl (Zg rfl rfl (.bool true) rfl (Zf rfl rfl (.bool true) rfl (Za rfl rfl (Za rfl rfl (Za rfl rfl (Za rfl rfl (Zg rfl rfl (.bool true) rfl (Zb (Zc (Z4 rfl (Zk (Zm (Zd rfl rfl (.bool false) rfl (Zb (Zc (Zq (Zv (Zo ?_))))))))))))))))))))))))))))))
  rw [show decide (Zax k) = false from decide_eq_false (fun q => by obtain ⟨q1, q2, q3, q4, q5, q6⟩ := q; rw [hn] at q6; first | omega | exact absurd q3 (of_decide_eq_false (by assumption)) | exact absurd q4 (of_decide_eq_false (by assumption)))]
  exact Zi (v := .bool false) rfl rfl rfl (by kernel_rfl) rfl
theorem Zht (k : Kept) (n c m d : Nat) (hn : k.items.length = n) (hm : k.claims.length = m) (hc : n ≤ c) (hd : m ≤ d) (hb : n ≤ 1048576) (hb2 : m ≤ 1048576) : Zak Try.prog G 13 [mxV ([Iv k.epoch, Iv k.log, slv 0 0 n c, slv 1 0 m d])] [rwR Zh k.items, rwR Zj k.claims] (Iv (Zfz k)) [rwR Zh k.items, rwR Zj k.claims] := by
  refine Zb5 (fn := Try.f13) (nt := 11) rfl rfl rfl rfl ?_
  refine Za5 1 (H' := [rwR Zh k.items, rwR Zj k.claims, hole]) rfl ?_
  refine Zk (Zm ?_)
  refine Zch (v := mxV ([Iv k.epoch, Iv k.log, slv 0 0 n c, slv 1 0 m d])) (b := mxB 4 ([Iv k.epoch, Iv k.log, slv 0 0 n c, slv 1 0 m d])) (nid := 2) (H' := [rwR Zh k.items, rwR Zj k.claims, mxB 4 ([Iv k.epoch, Iv k.log, slv 0 0 n c, slv 1 0 m d])]) rfl rfl rfl (by kernel_rfl) (by kernel_rfl) ?_
  refine Zd rfl rfl (Iv 0) rfl (Zb (Zc (Zk (Zk (Zm ?_)))))
  refine Zl (p := pt 2 0) (v := mxV ([Iv k.epoch, Iv k.log, slv 0 0 n c, slv 1 0 m d])) rfl rfl rfl (by kernel_rfl) ?_
  refine Z9 (e := [some (0, 0), some (1, 0)]) (nid := 0) (Zdr (G := G) k n c m d hn hm (by omega) (by omega) (by omega) (by omega)) (vals := [mxV ([Iv k.epoch, Iv k.log, slv 0 0 n c, slv 1 0 m d])]) (v := Iv (Zcb k)) (H' := [rwR Zh k.items, rwR Zj k.claims, mxB 4 ([Iv k.epoch, Iv k.log, slv 0 0 n c, slv 1 0 m d])]) rfl rfl rfl rfl rfl rfl rfl ⟨⟨(Zac (by kernel_rfl) ⟨⟨rfl, rfl⟩, ⟨rfl, rfl⟩, ⟨rfl, rfl, rfl, by first | omega | exact Nat.le_refl _, by first | omega | exact Nat.le_refl _⟩, ⟨rfl, rfl, rfl, by first | omega | exact Nat.le_refl _, by first | omega | exact Nat.le_refl _⟩, trivial⟩), trivial⟩, ⟨(Zab rfl), (Zab rfl), trivial⟩, rfl, rfl, rfl⟩ rfl (by kernel_rfl) ?_
  by_cases h1 : (Zcb k) ≠ 0
  refine Zn (vx := Iv (Zcb k)) (vy := Iv 0) rfl rfl (.bool true) rfl rfl (Zed (by omega)) ?_
  refine Zb (Zc (Z4 rfl (Zk (Zm (Zd rfl rfl (Iv 0) rfl (Zb (Zc (Zq (Zv (Zo ?_))))))))))
  rw [show Zfz k = 0 from if_neg (Za3 (by omega))]
  exact Zi (v := Iv 0) rfl rfl rfl (by kernel_rfl) rfl
  refine Zn (vx := Iv (Zcb k)) (vy := Iv 0) rfl rfl (.bool false) rfl rfl (Zd4 (by omega)) ?_
  refine Zb (Zc (Zx rfl (Z8 (Zc (Zk (Zm ?_))))))
  refine Ze (b := 2) (o := 0) (n := 1) (o' := 1) rfl rfl rfl rfl rfl ?_
  refine Zl (p := pt 2 1) (v := Iv k.log) rfl rfl rfl (by kernel_rfl) ?_
  refine Ze (b := 2) (o := 0) (n := 2) (o' := 2) rfl rfl rfl rfl rfl ?_
  refine Zl (p := pt 2 2) (v := slv 0 0 n c) rfl rfl rfl (by kernel_rfl) ?_
  refine Z9 (e := [some (0, 0)]) (nid := 0) (Zl5 (G := G) k.log k.items n c hn (by omega) (by omega)) (vals := [Iv k.log, slv 0 0 n c]) (v := Iv (Zb1 k.log k.items)) (H' := [rwR Zh k.items, rwR Zj k.claims, mxB 4 ([Iv k.epoch, Iv k.log, slv 0 0 n c, slv 1 0 m d])]) rfl rfl rfl rfl rfl rfl rfl ⟨⟨rfl, ⟨rfl, rfl, rfl, by first | omega | exact Nat.le_refl _, by first | omega | exact Nat.le_refl _⟩, trivial⟩, ⟨(Zab rfl), trivial⟩, rfl, rfl, rfl⟩ rfl (by kernel_rfl) ?_
  refine Zd rfl rfl (Iv (Zb1 k.log k.items)) rfl (Zb (Zc (Zq (Zo ?_))))
  rw [show Zfz k = (Zb1 k.log k.items) from if_pos (Zbw (by omega))]
  exact Zi (v := Iv (Zb1 k.log k.items)) rfl rfl rfl (by kernel_rfl) rfl
theorem Zjk (k : Kept) (n c m d : Nat) (hn : k.items.length = n) (hm : k.claims.length = m) (hc : n ≤ c) (hd : m ≤ d) (hb : n ≤ 1048576) (hb2 : m ≤ 1048576) : Zak Try.prog G 14 [mxV ([Iv k.epoch, Iv k.log, slv 0 0 n c, slv 1 0 m d])] [rwR Zh k.items, rwR Zj k.claims] (Iv (Zfz k)) [rwR Zh k.items, rwR Zj k.claims] := by
  refine Zb5 (fn := Try.f14) (nt := 11) rfl rfl rfl rfl ?_
  refine Za5 1 (H' := [rwR Zh k.items, rwR Zj k.claims, hole]) rfl ?_
  refine Zk (Zm ?_)
  refine Zch (v := mxV ([Iv k.epoch, Iv k.log, slv 0 0 n c, slv 1 0 m d])) (b := mxB 4 ([Iv k.epoch, Iv k.log, slv 0 0 n c, slv 1 0 m d])) (nid := 2) (H' := [rwR Zh k.items, rwR Zj k.claims, mxB 4 ([Iv k.epoch, Iv k.log, slv 0 0 n c, slv 1 0 m d])]) rfl rfl rfl (by kernel_rfl) (by kernel_rfl) ?_
  refine Zd rfl rfl (Iv 0) rfl (Zb (Zc (Zk (Zk (Zm ?_)))))
  refine Zl (p := pt 2 0) (v := mxV ([Iv k.epoch, Iv k.log, slv 0 0 n c, slv 1 0 m d])) rfl rfl rfl (by kernel_rfl) ?_
  refine Z9 (e := [some (0, 0), some (1, 0)]) (nid := 0) (Zgz (G := G) k n c m d hn hm (by omega) (by omega) (by omega) (by omega)) (vals := [mxV ([Iv k.epoch, Iv k.log, slv 0 0 n c, slv 1 0 m d])]) (v := .bool (decide (Zax k))) (H' := [rwR Zh k.items, rwR Zj k.claims, mxB 4 ([Iv k.epoch, Iv k.log, slv 0 0 n c, slv 1 0 m d])]) rfl rfl rfl rfl rfl rfl rfl ⟨⟨(Zac (by kernel_rfl) ⟨⟨rfl, rfl⟩, ⟨rfl, rfl⟩, ⟨rfl, rfl, rfl, by first | omega | exact Nat.le_refl _, by first | omega | exact Nat.le_refl _⟩, ⟨rfl, rfl, rfl, by first | omega | exact Nat.le_refl _, by first | omega | exact Nat.le_refl _⟩, trivial⟩), trivial⟩, ⟨(Zab rfl), (Zab rfl), trivial⟩, rfl, rfl, rfl⟩ rfl (by kernel_rfl) ?_
  rcases Bool.eq_false_or_eq_true (decide (Zax k)) with h1 | h1
  refine Zd3 (vx := .bool (decide (Zax k))) rfl rfl (.bool false) rfl (Eq.trans Zbx (congrArg (fun b => some (Value.bool !b)) h1)) ?_
  refine Zb (Zc (Zx rfl (Z8 (Zc (Zk (Zm ?_))))))
  refine Ze (b := 2) (o := 0) (n := 1) (o' := 1) rfl rfl rfl rfl rfl ?_
  refine Zl (p := pt 2 1) (v := Iv k.log) rfl rfl rfl (by kernel_rfl) ?_
  refine Ze (b := 2) (o := 0) (n := 2) (o' := 2) rfl rfl rfl rfl rfl ?_
  refine Zl (p := pt 2 2) (v := slv 0 0 n c) rfl rfl rfl (by kernel_rfl) ?_
  refine Z9 (e := [some (0, 0)]) (nid := 0) (Zio (G := G) k.log k.items n c hn (by omega) (by omega)) (vals := [Iv k.log, slv 0 0 n c]) (v := Iv (Zb1 k.log k.items)) (H' := [rwR Zh k.items, rwR Zj k.claims, mxB 4 ([Iv k.epoch, Iv k.log, slv 0 0 n c, slv 1 0 m d])]) rfl rfl rfl rfl rfl rfl rfl ⟨⟨rfl, ⟨rfl, rfl, rfl, by first | omega | exact Nat.le_refl _, by first | omega | exact Nat.le_refl _⟩, trivial⟩, ⟨(Zab rfl), trivial⟩, rfl, rfl, rfl⟩ rfl (by kernel_rfl) ?_
  refine Zd rfl rfl (Iv (Zb1 k.log k.items)) rfl (Zb (Zc (Zq (Zo ?_))))
  rw [show Zfz k = (Zb1 k.log k.items) from if_pos (of_decide_eq_true (by assumption))]
  exact Zi (v := Iv (Zb1 k.log k.items)) rfl rfl rfl (by kernel_rfl) rfl
  refine Zd3 (vx := .bool (decide (Zax k))) rfl rfl (.bool true) rfl (Eq.trans Zbx (congrArg (fun b => some (Value.bool !b)) h1)) ?_
  refine Zb (Zc (Z4 rfl (Zk (Zm (Zd rfl rfl (Iv 0) rfl (Zb (Zc (Zq (Zv (Zo ?_))))))))))
  rw [show Zfz k = 0 from if_neg (of_decide_eq_false (by assumption))]
  exact Zi (v := Iv 0) rfl rfl rfl (by kernel_rfl) rfl
theorem Zpw  : Zak Try.prog G 16 [] [] (mxV ([Iv 1, Iv 1, .slice none 0 0, .slice none 0 0])) [] := by
 refine Zb5 (fn := Try.f16) (nt := 2) rfl rfl rfl rfl ?_
 refine Za5 1 (H' := [hole]) rfl ?_
 refine Zk (Zm ?_)
 refine Zbk (b := mxB 4 ([Iv 0, Iv 0, .slice none 0 0, .slice none 0 0])) (nid := 0) (H' := [mxB 4 ([Iv 0, Iv 0, .slice none 0 0, .slice none 0 0])]) rfl rfl (by kernel_rfl) (by kernel_rfl) ?_
 refine Zb (Zc (Zk (Zm ?_)))
 refine Zbj (vs := [(0, Iv 1), (1, Iv 1)]) (v := mxV ([Iv 1, Iv 1, .slice none 0 0, .slice none 0 0])) rfl rfl rfl (by kernel_rfl) ?_
 refine Zaa (p := pt 0 0) (v := mxV ([Iv 1, Iv 1, .slice none 0 0, .slice none 0 0])) (b := 0) (blk := mxB 4 ([Iv 1, Iv 1, .slice none 0 0, .slice none 0 0])) (H' := [mxB 4 ([Iv 1, Iv 1, .slice none 0 0, .slice none 0 0])]) rfl rfl rfl (by kernel_rfl) (by kernel_rfl) ?_
 refine Zb (Zc (Zq (Zo ?_)))
 exact Zi (v := mxV ([Iv 1, Iv 1, .slice none 0 0, .slice none 0 0])) rfl rfl rfl (by kernel_rfl) (Zh2 (by kernel_rfl) rfl)
theorem Zma  : Zak Try.prog G 17 [] [] (mxV ([Iv 1, Iv 1, .slice none 0 0, .slice none 0 0])) [] := by
 refine Zb5 (fn := Try.f17) (nt := 2) rfl rfl rfl rfl ?_
 refine Za5 1 (H' := [hole]) rfl ?_
 refine Zk (Zm ?_)
 refine Zbk (b := mxB 4 ([Iv 0, Iv 0, .slice none 0 0, .slice none 0 0])) (nid := 0) (H' := [mxB 4 ([Iv 0, Iv 0, .slice none 0 0, .slice none 0 0])]) rfl rfl (by kernel_rfl) (by kernel_rfl) ?_
 refine Zb (Zc (Zk (Zm ?_)))
 refine Zbj (vs := [(0, Iv 1), (1, Iv 1)]) (v := mxV ([Iv 1, Iv 1, .slice none 0 0, .slice none 0 0])) rfl rfl rfl (by kernel_rfl) ?_
 refine Zaa (p := pt 0 0) (v := mxV ([Iv 1, Iv 1, .slice none 0 0, .slice none 0 0])) (b := 0) (blk := mxB 4 ([Iv 1, Iv 1, .slice none 0 0, .slice none 0 0])) (H' := [mxB 4 ([Iv 1, Iv 1, .slice none 0 0, .slice none 0 0])]) rfl rfl rfl (by kernel_rfl) (by kernel_rfl) ?_
 refine Zb (Zc (Zq (Zo ?_)))
 exact Zi (v := mxV ([Iv 1, Iv 1, .slice none 0 0, .slice none 0 0])) rfl rfl rfl (by kernel_rfl) (Zh2 (by kernel_rfl) rfl)
theorem Zql (k : Kept) (n c m d : Nat) (hn : k.items.length = n) (hm : k.claims.length = m) (hc : n ≤ c) (hd : m ≤ d) (hb : n ≤ 1048576) (hb2 : m ≤ 1048576) : Zak Try.prog G 9 [mxV ([Iv k.epoch, Iv k.log, slv 0 0 n c, slv 1 0 m d])] [rwR Zh k.items, rwR Zj k.claims] (mxV ([Iv k.epoch, Iv k.log, slv 2 0 n n, slv 3 0 m m])) [rwR Zh k.items, rwR Zj k.claims, rwB Zh k.items, rwB Zj k.claims] := by
  refine Zb5 (fn := Try.f9) (nt := 12) rfl rfl rfl rfl ?_
  refine Za5 4 (H' := [rwR Zh k.items, rwR Zj k.claims, hole, hole, hole, hole]) rfl ?_
  refine Zk (Zm ?_)
  refine Zch (v := mxV ([Iv k.epoch, Iv k.log, slv 0 0 n c, slv 1 0 m d])) (b := mxB 4 ([Iv k.epoch, Iv k.log, slv 0 0 n c, slv 1 0 m d])) (nid := 2) (H' := [rwR Zh k.items, rwR Zj k.claims, mxB 4 ([Iv k.epoch, Iv k.log, slv 0 0 n c, slv 1 0 m d]), hole, hole, hole]) rfl rfl rfl (by kernel_rfl) (by kernel_rfl) ?_
  refine Zbk (b := mxB 4 ([Iv 0, Iv 0, .slice none 0 0, .slice none 0 0])) (nid := 3) (H' := [rwR Zh k.items, rwR Zj k.claims, mxB 4 ([Iv k.epoch, Iv k.log, slv 0 0 n c, slv 1 0 m d]), mxB 4 ([Iv 0, Iv 0, .slice none 0 0, .slice none 0 0]), hole, hole]) rfl rfl (by kernel_rfl) (by kernel_rfl) ?_
  refine Zb (Zc (Zk (Zm ?_)))
  refine Ze (b := 2) (o := 0) (n := 2) (o' := 2) rfl rfl rfl rfl rfl ?_
  refine Zl (p := pt 2 2) (v := slv 0 0 n c) rfl rfl rfl (by kernel_rfl) ?_
  refine Z9 (e := [some (0, 0)]) (nid := 4) (Zr1 (G := G) k.items n c hn (by omega) (by omega)) (vals := [slv 0 0 n c]) (v := slv 4 0 n n) (H' := [rwR Zh k.items, rwR Zj k.claims, mxB 4 ([Iv k.epoch, Iv k.log, slv 0 0 n c, slv 1 0 m d]), mxB 4 ([Iv 0, Iv 0, .slice none 0 0, .slice none 0 0]), rwB Zh k.items, hole]) rfl rfl rfl rfl rfl rfl rfl ⟨⟨⟨rfl, rfl, rfl, by first | omega | exact Nat.le_refl _, by first | omega | exact Nat.le_refl _⟩, trivial⟩, ⟨(Zab rfl), trivial⟩, rfl, rfl, rfl⟩ (by kernel_rfl) (by kernel_rfl) ?_
  refine Ze (b := 2) (o := 0) (n := 2) (o' := 2) rfl rfl rfl rfl rfl ?_
  refine Zaa (p := pt 2 2) (v := slv 4 0 n n) (b := 2) (blk := mxB 4 ([Iv k.epoch, Iv k.log, slv 4 0 n n, slv 1 0 m d])) (H' := [rwR Zh k.items, rwR Zj k.claims, mxB 4 ([Iv k.epoch, Iv k.log, slv 4 0 n n, slv 1 0 m d]), mxB 4 ([Iv 0, Iv 0, .slice none 0 0, .slice none 0 0]), rwB Zh k.items, hole]) rfl rfl rfl (by kernel_rfl) (by kernel_rfl) ?_
  refine Zb (Zc (Zk (Zm ?_)))
  refine Ze (b := 2) (o := 0) (n := 3) (o' := 3) rfl rfl rfl rfl rfl ?_
  refine Zl (p := pt 2 3) (v := slv 1 0 m d) rfl rfl rfl (by kernel_rfl) ?_
  refine Z9 (e := [some (1, 0)]) (nid := 5) (Zp5 (G := G) k.claims m d hm (by omega) (by omega)) (vals := [slv 1 0 m d]) (v := slv 5 0 m m) (H' := [rwR Zh k.items, rwR Zj k.claims, mxB 4 ([Iv k.epoch, Iv k.log, slv 4 0 n n, slv 1 0 m d]), mxB 4 ([Iv 0, Iv 0, .slice none 0 0, .slice none 0 0]), rwB Zh k.items, rwB Zj k.claims]) rfl rfl rfl rfl rfl rfl rfl ⟨⟨⟨rfl, rfl, rfl, by first | omega | exact Nat.le_refl _, by first | omega | exact Nat.le_refl _⟩, trivial⟩, ⟨(Zab rfl), trivial⟩, rfl, rfl, rfl⟩ (by kernel_rfl) (by kernel_rfl) ?_
  refine Ze (b := 2) (o := 0) (n := 3) (o' := 3) rfl rfl rfl rfl rfl ?_
  refine Zaa (p := pt 2 3) (v := slv 5 0 m m) (b := 2) (blk := mxB 4 ([Iv k.epoch, Iv k.log, slv 4 0 n n, slv 5 0 m m])) (H' := [rwR Zh k.items, rwR Zj k.claims, mxB 4 ([Iv k.epoch, Iv k.log, slv 4 0 n n, slv 5 0 m m]), mxB 4 ([Iv 0, Iv 0, .slice none 0 0, .slice none 0 0]), rwB Zh k.items, rwB Zj k.claims]) rfl rfl rfl (by kernel_rfl) (by kernel_rfl) ?_
  refine Zb (Zc (Zk (Zm ?_)))
  refine Zl (p := pt 2 0) (v := mxV ([Iv k.epoch, Iv k.log, slv 4 0 n n, slv 5 0 m m])) rfl rfl rfl (by kernel_rfl) ?_
  refine Zaa (p := pt 3 0) (v := mxV ([Iv k.epoch, Iv k.log, slv 4 0 n n, slv 5 0 m m])) (b := 3) (blk := mxB 4 ([Iv k.epoch, Iv k.log, slv 4 0 n n, slv 5 0 m m])) (H' := [rwR Zh k.items, rwR Zj k.claims, mxB 4 ([Iv k.epoch, Iv k.log, slv 4 0 n n, slv 5 0 m m]), mxB 4 ([Iv k.epoch, Iv k.log, slv 4 0 n n, slv 5 0 m m]), rwB Zh k.items, rwB Zj k.claims]) rfl rfl rfl (by kernel_rfl) (by kernel_rfl) ?_
  refine Zb (Zc (Zq (Zo ?_)))
  exact Zcc [0, 1, 4, 5] (v := mxV ([Iv k.epoch, Iv k.log, slv 4 0 n n, slv 5 0 m m])) rfl (by kernel_rfl) rfl rfl (by decide) (by simp [Zc6, rwB, rwR, Zh, Zj]) (Zac (by kernel_rfl) ⟨⟨rfl, rfl⟩, ⟨rfl, rfl⟩, ⟨rfl, rfl, rfl, by first | omega | exact Nat.le_refl _ | exact Nat.zero_le _ | (dsimp only; omega), by first | omega | exact Nat.le_refl _ | exact Nat.zero_le _ | (dsimp only; omega)⟩, ⟨rfl, rfl, rfl, by first | omega | exact Nat.le_refl _ | exact Nat.zero_le _ | (dsimp only; omega), by first | omega | exact Nat.le_refl _ | exact Nat.zero_le _ | (dsimp only; omega)⟩, trivial⟩)
theorem Ze3 (a : Kept) (n c m d : Nat) (hn : a.items.length = n) (hm : a.claims.length = m) (hc : n ≤ c) (hd : m ≤ d) (hb : n ≤ 1048576) (hb2 : m ≤ 1048576) (b : Kept) (n' c' m' d' : Nat) (hn' : b.items.length = n') (hm' : b.claims.length = m') (hc' : n' ≤ c') (hd' : m' ≤ d') (hb' : n' ≤ 1048576) (hb2' : m' ≤ 1048576) : Zak Try.prog G 15 [mxV ([Iv a.epoch, Iv a.log, slv 0 0 n c, slv 1 0 m d]), mxV ([Iv b.epoch, Iv b.log, slv 2 0 n' c', slv 3 0 m' d'])] [rwR Zh a.items, rwR Zj a.claims, rwR Zh b.items, rwR Zj b.claims] (.bool (Zcu a b)) [rwR Zh a.items, rwR Zj a.claims, rwR Zh b.items, rwR Zj b.claims] := by
  refine Zb5 (fn := Try.f15) (nt := 31) rfl rfl rfl rfl ?_
  refine Za5 2 (H' := [rwR Zh a.items, rwR Zj a.claims, rwR Zh b.items, rwR Zj b.claims, hole, hole]) rfl ?_
  refine Zk (Zm ?_)
  refine Zch (v := mxV ([Iv a.epoch, Iv a.log, slv 0 0 n c, slv 1 0 m d])) (b := mxB 4 ([Iv a.epoch, Iv a.log, slv 0 0 n c, slv 1 0 m d])) (nid := 4) (H' := [rwR Zh a.items, rwR Zj a.claims, rwR Zh b.items, rwR Zj b.claims, mxB 4 ([Iv a.epoch, Iv a.log, slv 0 0 n c, slv 1 0 m d]), hole]) rfl rfl rfl (by kernel_rfl) (by kernel_rfl) ?_
  refine Zch (v := mxV ([Iv b.epoch, Iv b.log, slv 2 0 n' c', slv 3 0 m' d'])) (b := mxB 4 ([Iv b.epoch, Iv b.log, slv 2 0 n' c', slv 3 0 m' d'])) (nid := 5) (H' := [rwR Zh a.items, rwR Zj a.claims, rwR Zh b.items, rwR Zj b.claims, mxB 4 ([Iv a.epoch, Iv a.log, slv 0 0 n c, slv 1 0 m d]), mxB 4 ([Iv b.epoch, Iv b.log, slv 2 0 n' c', slv 3 0 m' d'])]) rfl rfl rfl (by kernel_rfl) (by kernel_rfl) ?_
  refine Zd rfl rfl (.bool false) rfl (Zb (Zc (Zk (Zm ?_))))
  refine Ze (b := 4) (o := 0) (n := 0) (o' := 0) rfl rfl rfl rfl rfl ?_
  refine Zl (p := pt 4 0) (v := Iv a.epoch) rfl rfl rfl (by kernel_rfl) ?_
  refine Ze (b := 5) (o := 0) (n := 0) (o' := 0) rfl rfl rfl rfl rfl ?_
  refine Zl (p := pt 5 0) (v := Iv b.epoch) rfl rfl rfl (by kernel_rfl) ?_
  by_cases h1 : a.epoch = b.epoch
  refine Zn (vx := Iv a.epoch) (vy := Iv b.epoch) rfl rfl (.bool true) rfl rfl (Zao (by omega)) ?_
  refine Zf rfl rfl (.bool true) rfl ?_
  refine Ze (b := 4) (o := 0) (n := 1) (o' := 1) rfl rfl rfl rfl rfl ?_
  refine Zl (p := pt 4 1) (v := Iv a.log) rfl rfl rfl (by kernel_rfl) ?_
  refine Ze (b := 5) (o := 0) (n := 1) (o' := 1) rfl rfl rfl rfl rfl ?_
  refine Zl (p := pt 5 1) (v := Iv b.log) rfl rfl rfl (by kernel_rfl) ?_
  by_cases h2 : a.log = b.log
  refine Zn (vx := Iv a.log) (vy := Iv b.log) rfl rfl (.bool true) rfl rfl (Zao (by omega)) ?_
  refine Zg rfl rfl (.bool true) rfl (Zf rfl rfl (.bool true) rfl ?_)
  refine Ze (b := 4) (o := 0) (n := 2) (o' := 2) rfl rfl rfl rfl rfl ?_
  refine Zl (p := pt 4 2) (v := slv 0 0 n c) rfl rfl rfl (by kernel_rfl) ?_
  refine Ze (b := 5) (o := 0) (n := 2) (o' := 2) rfl rfl rfl rfl rfl ?_
  refine Zl (p := pt 5 2) (v := slv 2 0 n' c') rfl rfl rfl (by kernel_rfl) ?_
  refine Z9 (e := [some (0, 0), some (2, 0)]) (nid := 0) (Zpx (G := G) a.items b.items n c n' c' hn hn' (by omega) (by omega) (by omega) (by omega)) (vals := [slv 0 0 n c, slv 2 0 n' c']) (v := .bool (Zdj a.items b.items)) (H' := [rwR Zh a.items, rwR Zj a.claims, rwR Zh b.items, rwR Zj b.claims, mxB 4 ([Iv a.epoch, Iv a.log, slv 0 0 n c, slv 1 0 m d]), mxB 4 ([Iv b.epoch, Iv b.log, slv 2 0 n' c', slv 3 0 m' d'])]) rfl rfl rfl rfl rfl rfl rfl ⟨⟨⟨rfl, rfl, rfl, by first | omega | exact Nat.le_refl _, by first | omega | exact Nat.le_refl _⟩, ⟨rfl, rfl, rfl, by first | omega | exact Nat.le_refl _, by first | omega | exact Nat.le_refl _⟩, trivial⟩, ⟨(Zab rfl), (Zab rfl), trivial⟩, rfl, rfl, rfl⟩ rfl (by kernel_rfl) ?_
  refine Zg rfl rfl (.bool (Zdj a.items b.items)) rfl (Zf rfl rfl (.bool (Zdj a.items b.items)) rfl ?_)
  rcases Bool.eq_false_or_eq_true (Zdj a.items b.items) with h3 | h3
  refine Ze (b := 4) (o := 0) (n := 3) (o' := 3) (by exact congrArg (fun b => some (b == true)) h3) rfl rfl rfl rfl ?_
  refine Zl (p := pt 4 3) (v := slv 1 0 m d) (by exact congrArg (fun b => some (b == true)) h3) rfl rfl (by kernel_rfl) ?_
  refine Ze (b := 5) (o := 0) (n := 3) (o' := 3) (by exact congrArg (fun b => some (b == true)) h3) rfl rfl rfl rfl ?_
  refine Zl (p := pt 5 3) (v := slv 3 0 m' d') (by exact congrArg (fun b => some (b == true)) h3) rfl rfl (by kernel_rfl) ?_
  refine Z9 (e := [some (1, 0), some (3, 0)]) (nid := 0) (Zpq (G := G) a.claims b.claims m d m' d' hm hm' (by omega) (by omega) (by omega) (by omega)) (vals := [slv 1 0 m d, slv 3 0 m' d']) (v := .bool (Zcr a.claims b.claims)) (H' := [rwR Zh a.items, rwR Zj a.claims, rwR Zh b.items, rwR Zj b.claims, mxB 4 ([Iv a.epoch, Iv a.log, slv 0 0 n c, slv 1 0 m d]), mxB 4 ([Iv b.epoch, Iv b.log, slv 2 0 n' c', slv 3 0 m' d'])]) (by exact congrArg (fun b => some (b == true)) h3) rfl rfl rfl rfl rfl rfl ⟨⟨⟨rfl, rfl, rfl, by first | omega | exact Nat.le_refl _, by first | omega | exact Nat.le_refl _⟩, ⟨rfl, rfl, rfl, by first | omega | exact Nat.le_refl _, by first | omega | exact Nat.le_refl _⟩, trivial⟩, ⟨(Zab rfl), (Zab rfl), trivial⟩, rfl, rfl, rfl⟩ rfl (by kernel_rfl) ?_
  refine Zg rfl rfl (.bool (Zcr a.claims b.claims)) (by show some (if _ then _ else _) = _; rw [h3] <;> rfl) ?_
  refine Zd rfl rfl (.bool (Zcr a.claims b.claims)) rfl (Zb (Zc (Zq (Zo ?_))))
  rw [show Zcu a b = Zcr a.claims b.claims from Zvf (by omega) (by omega) (by assumption)]
  exact Zi (v := .bool (Zcr a.claims b.claims)) rfl rfl rfl (by kernel_rfl) rfl
  refine Za (by exact congrArg (fun b => some (b == true)) h3) rfl ?_
  refine Za (by exact congrArg (fun b => some (b == true)) h3) rfl ?_
  refine Za (by exact congrArg (fun b => some (b == true)) h3) rfl ?_
  refine Za (by exact congrArg (fun b => some (b == true)) h3) rfl ?_
  refine Za (by exact congrArg (fun b => some (b == true)) h3) rfl ?_
  refine Zg rfl rfl (.bool false) (by show some (if _ then _ else _) = _; rw [h3] <;> rfl) ?_
  refine Zd rfl rfl (.bool false) rfl (Zb (Zc (Zq (Zo ?_))))
  rw [show Zcu a b = false from Znf (fun q1 q2 q3 q4 => by first | omega | exact absurd q3 (by rw [‹Zdj _ _ = false›]; decide) | exact absurd q4 (by rw [‹Zcr _ _ = false›]; decide))]
  exact Zi (v := .bool false) rfl rfl rfl (by kernel_rfl) rfl
  refine Zn (vx := Iv a.log) (vy := Iv b.log) rfl rfl (.bool false) rfl rfl (Zbf (by omega)) ?_
  refine Zg rfl rfl (.bool false) rfl (Zf rfl rfl (.bool false) rfl (Za rfl rfl (Za rfl rfl (Za rfl rfl (Za rfl rfl (Za rfl rfl (Zg rfl rfl (.bool false) rfl (Zf rfl rfl (.bool false) rfl (Za rfl rfl (Za rfl rfl (Za rfl rfl (Za rfl rfl (Za rfl rfl (Zg rfl rfl (.bool false) rfl (Zd rfl rfl (.bool false) rfl (Zb (Zc (Zq (Zo ?_)))))))))))))))))))
  rw [show Zcu a b = false from Znf (fun q1 q2 q3 q4 => by first | omega | exact absurd q3 (by rw [‹Zdj _ _ = false›]; decide) | exact absurd q4 (by rw [‹Zcr _ _ = false›]; decide))]
  exact Zi (v := .bool false) rfl rfl rfl (by kernel_rfl) rfl
  refine Zn (vx := Iv a.epoch) (vy := Iv b.epoch) rfl rfl (.bool false) rfl rfl (Zbf (by omega)) ?_
  refine Zf rfl rfl (.bool false) rfl (Za rfl rfl (Za rfl rfl (Za rfl rfl (Za rfl rfl (Za rfl rfl (Zg rfl rfl (.bool false) rfl (Zf rfl rfl (.bool false) rfl (Za rfl rfl (Za rfl rfl (Za rfl rfl (Za rfl rfl (Za rfl rfl (Zg rfl rfl (.bool false) rfl (Zf rfl rfl (.bool false) rfl (Za rfl rfl (Za rfl rfl (Za rfl rfl (Za rfl rfl (Za rfl rfl (Zg rfl rfl (.bool false) rfl (Zd rfl rfl (.bool false) rfl (Zb (Zc (Zq (Zo ?_)))))))))))))))))))))))))
  rw [show Zcu a b = false from Znf (fun q1 q2 q3 q4 => by first | omega | exact absurd q3 (by rw [‹Zdj _ _ = false›]; decide) | exact absurd q4 (by rw [‹Zcr _ _ = false›]; decide))]
  exact Zi (v := .bool false) rfl rfl rfl (by kernel_rfl) rfl
end Go.Flat
