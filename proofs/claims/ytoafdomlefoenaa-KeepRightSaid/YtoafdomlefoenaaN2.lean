/- Walks. -/
import Derived.Test.YtoafdomlefoenaaN1
set_option linter.unusedVariables false
set_option linter.unusedSimpArgs false
set_option maxRecDepth 20000
namespace Go.Flat
open Go.Proofs
variable {G : Glob}
structure Kept where
  epoch : Int
  log : Int
  items : List Item
  claims : List Claim
def Zu0 (ep : Int) (x : Item) : Prop := x.epoch = ep ∧ x.entry.kind = 3 ∧ x.entry.claim.epoch = ep
instance (ep : Int) (x : Item) : Decidable (Zu0 ep x) := inferInstanceAs (Decidable (_ ∧ _))
def ldB (ep : Int) (x : Item) : Bool := decide (Zu0 ep x)
def Zks (p : Item → Bool) (l : List Item) : Option Nat := (List.range l.length).find? fun i => p (l.getD i default)
def Zdl (p : Item → Bool) (l : List Item) : Int := match Zks p l with | some i => (i : Int) | none => -1
theorem Zun {p : Item → Bool} {l : List Item} {i : Nat} (h : ∀ j, j < i → p (l.getD j default) = false) (hi : i < l.length) (hp : p (l.getD i default) = true) : Zks p l = some i := by
 unfold Zks
 rw [List.find?_range_eq_some]
 exact ⟨hp, List.mem_range.2 hi, fun j hj => by simp only [h j hj]; rfl⟩
theorem Zs6 {p : Item → Bool} {l : List Item} (h : ∀ j, j < l.length → p (l.getD j default) = false) : Zks p l = none := by
 unfold Zks
 rw [List.find?_range_eq_none]
 exact fun j hj => by simp only [h j hj]; rfl
theorem Zuo {p : Item → Bool} {l : List Item} {i : Nat} (h : ∀ j, j < i → p (l.getD j default) = false) (hi : i < l.length) (hp : p (l.getD i default) = true) : Zdl p l = (i : Int) := by
 unfold Zdl; rw [Zun h hi hp]
theorem Zs7 {p : Item → Bool} {l : List Item} (h : ∀ j, j < l.length → p (l.getD j default) = false) : Zdl p l = -1 := by
 unfold Zdl; rw [Zs6 h]
theorem Zod (p : Item → Bool) (l : List Item) : -1 ≤ Zdl p l ∧ Zdl p l < l.length ∧ (0 ≤ Zdl p l → Zks p l = some (Zdl p l).toNat ∧ p (l.getD (Zdl p l).toNat default) = true) ∧ (Zdl p l < 0 → Zks p l = none) := by
 unfold Zdl
 cases h : Zks p l with
 | none => exact ⟨by decide, by show (-1 : Int) < _; omega, fun q => absurd q (by decide), fun _ => rfl⟩
 | some i =>
  have h' := h
  unfold Zks at h'
  rw [List.find?_range_eq_some] at h'
  have := List.mem_range.1 h'.2.1
  exact ⟨by show (-1 : Int) ≤ (i : Int); omega, by show (i : Int) < _; omega, fun _ => ⟨rfl, h'.1⟩, fun q => absurd q (by show ¬ (i : Int) < 0; omega)⟩
def Zd4 (ep : Int) (l : List Item) : Int := if ep = 1 then 1 else match Zks (ldB ep) l with | some i => (l.getD i default).entry.claim.node | none => 0
theorem Zu2 {ep : Int} {l : List Item} (h : ep = 1) : Zd4 ep l = 1 := if_pos h
theorem Zu1 {ep : Int} {l : List Item} (h1 : ¬ ep = 1) (h : 0 ≤ Zdl (ldB ep) l) : Zd4 ep l = (l.getD (Zdl (ldB ep) l).toNat default).entry.claim.node := by
 unfold Zd4; rw [if_neg h1, ((Zod (ldB ep) l).2.2.1 h).1]
theorem Ztc {ep : Int} {l : List Item} (h1 : ¬ ep = 1) (h : Zdl (ldB ep) l < 0) : Zd4 ep l = 0 := by
 unfold Zd4; rw [if_neg h1, (Zod (ldB ep) l).2.2.2 h]
theorem Zs5 {l : List Item} : ∀ {ep : Int} {i : Nat}, Zhm ep l = true → i < l.length → Zb4 (l.getD i default) := by
 induction l with
 | nil => intro ep i _ h; simp at h
 | cons x l ih =>
  intro ep i h hi
  rw [Zhm, Bool.and_eq_true, Bool.and_eq_true] at h
  cases i with
  | zero => exact of_decide_eq_true h.1.1
  | succ i => exact ih h.2 (by simpa using hi)
theorem Zpk {ep : Int} {l : List Item} (hr : Zd9 l) (h : ¬ Zd4 ep l = 0) : 0 < Zd4 ep l := by
 unfold Zd4 at h ⊢
 split at h
 ·rename_i h1; rw [if_pos h1]; decide
 ·rename_i h1
  rw [if_neg h1]
  cases ho : Zks (ldB ep) l with
  | none => rw [ho] at h; exact absurd rfl h
  | some i =>
   unfold Zks at ho
   rw [List.find?_range_eq_some] at ho
   have hi := List.mem_range.1 ho.2.1
   have hk : (l.getD i default).entry.kind = 3 := (of_decide_eq_true ho.1 : Zu0 ep _).2.1
   have hg := (Zs5 hr.2 hi).2.2
   have hc : Zda (l.getD i default).entry.claim := by
    rcases hg with q | q | q
    ·omega
    ·omega
    ·exact q.2.2.2.2.2
   show 0 < (l.getD i default).entry.claim.node
   have := hc.2.2.1.1
   omega
def Zb5 (k : Kept) : Prop := (1 ≤ k.epoch ∧ k.epoch ≤ 900000000) ∧ (1 ≤ k.log ∧ k.log ≤ k.epoch) ∧ Zd9 k.items ∧ Zfm k.claims ∧ 0 < Zd4 k.log k.items ∧ (k.items.length = 0 ∨ (k.items.getD (k.items.length - 1) default).epoch ≤ k.log)
instance (k : Kept) : Decidable (Zb5 k) := inferInstanceAs (Decidable (_ ∧ _))
def Zcd (k : Kept) : Int := if Zb5 k then 0 else 1
theorem Zby {k : Kept} (h : Zcd k = 0) : Zb5 k := by
 unfold Zcd at h
 split at h
 ·assumption
 ·omega
theorem Za0 {k : Kept} (h : ¬ Zcd k = 0) : ¬ Zb5 k := fun q => h (if_pos q)
def Zuz (k : Kept) : Int := if Zb5 k then Zd4 k.log k.items else 0
def Zfc (a b : Kept) : Bool := decide (a.epoch = b.epoch ∧ a.log = b.log) && (Zcs a.items b.items && Zct a.claims b.claims)
theorem Zwz {a b : Kept} (h1 : a.epoch = b.epoch) (h2 : a.log = b.log) (h3 : Zcs a.items b.items = true) (h4 : Zct a.claims b.claims = true) : Zfc a b = true := by
 unfold Zfc; rw [decide_eq_true ⟨h1, h2⟩, h3, h4]; rfl
theorem Zwy {a b : Kept} (h1 : a.epoch = b.epoch) (h2 : a.log = b.log) (h3 : Zcs a.items b.items = true) : Zfc a b = Zct a.claims b.claims := by
 unfold Zfc; rw [decide_eq_true ⟨h1, h2⟩, h3]; rfl
theorem Zoo {a b : Kept} (h : a.epoch = b.epoch → a.log = b.log → Zcs a.items b.items = true → Zct a.claims b.claims = true → False) : Zfc a b = false := by
 cases hq : Zfc a b with
 | false => rfl
 | true =>
  unfold Zfc at hq
  rw [Bool.and_eq_true, Bool.and_eq_true] at hq
  have h1 := of_decide_eq_true hq.1
  exact (h h1.1 h1.2 hq.2.1 hq.2.2).elim
theorem Zqz (ep : Int) (x : Item) : Zar Try.prog G 47 [Zao x, pt 0 0] [bxB 1 ([Iv ep])] (.bool (ldB ep x)) [bxB 1 ([Iv ep])] := by
 refine Zcu (fn := Try.f47) (nt := 22) rfl rfl rfl rfl ?_
 refine Zbo 1 (H' := [bxB 1 ([Iv ep]), hole]) rfl ?_
 refine Zj (Zl (Zbx (v := Zao x) (b := bxB 110 (Zs x)) (nid := 1) (H' := [bxB 1 ([Iv ep]), bxB 110 (Zs x)]) (Zc (.bool false) (Zd (Zf (Zj (Zl (Ze (b := 1) (o := 0) (n := 0) (o' := 0) (Zk (p := pt 1 0) (v := Iv x.epoch) (Zk (p := pt 0 0) (v := Iv ep) ?_))))))))))
 by_cases h1 : x.epoch = ep
 refine Zn (vx := Iv x.epoch) (vy := Iv ep) rfl rfl (.bool true) rfl rfl (Zaw (by omega)) ?_
 refine Zb (.bool true) (Ze (b := 1) (o := 0) (n := 1) (o' := 1) (Ze (b := 1) (o := 1) (n := 0) (o' := 1) (Zk (p := pt 1 1) (v := Iv x.entry.kind) ?_)))
 by_cases h2 : x.entry.kind = 3
 refine Zn (vx := Iv x.entry.kind) (vy := Iv 3) rfl rfl (.bool true) rfl rfl (Zaw (by omega)) ?_
 refine Zh (.bool true) (Zb (.bool true) (Ze (b := 1) (o := 0) (n := 1) (o' := 1) (Ze (b := 1) (o := 1) (n := 73) (o' := 74) (Ze (b := 1) (o := 74) (n := 1) (o' := 75) (Zk (p := pt 1 75) (v := Iv x.entry.claim.epoch) (Zk (p := pt 0 0) (v := Iv ep) ?_))))))
 by_cases h3 : x.entry.claim.epoch = ep
 refine Zn (vx := Iv x.entry.claim.epoch) (vy := Iv ep) rfl rfl (.bool true) rfl rfl (Zaw (by omega)) ?_
 refine Zh (.bool true) (Zc (.bool true) (Zd (Zf (Zq (Zp ?_)))))
 rw [show ldB ep x = true from decide_eq_true ⟨by omega, by omega, by omega⟩]
 exact Zm (v := .bool true) rfl rfl rfl (by kernel_rfl) rfl
 refine Zn (vx := Iv x.entry.claim.epoch) (vy := Iv ep) rfl rfl (.bool false) rfl rfl (Zbj (by omega)) ?_
 refine Zh (.bool false) (Zc (.bool false) (Zd (Zf (Zq (Zp ?_)))))
 rw [show ldB ep x = false from decide_eq_false (fun q => by have := q.1; have := q.2.1; have := q.2.2; omega)]
 exact Zm (v := .bool false) rfl rfl rfl (by kernel_rfl) rfl
 refine Zn (vx := Iv x.entry.kind) (vy := Iv 3) rfl rfl (.bool false) rfl rfl (Zbj (by omega)) ?_
 refine Zh (.bool false) (Zb (.bool false) (Za (Za (Za (Za (Za (Za (Zh (.bool false) (Zc (.bool false) (Zd (Zf (Zq (Zp ?_)))))))))))))
 rw [show ldB ep x = false from decide_eq_false (fun q => by have := q.1; have := q.2.1; have := q.2.2; omega)]
 exact Zm (v := .bool false) rfl rfl rfl (by kernel_rfl) rfl
 refine Zn (vx := Iv x.epoch) (vy := Iv ep) rfl rfl (.bool false) rfl rfl (Zbj (by omega)) ?_
 refine Zb (.bool false) (Za (Za (Za (Za (Zh (.bool false) (Zb (.bool false) (Za (Za (Za (Za (Za (Za (Zh (.bool false) (Zc (.bool false) (Zd (Zf (Zq (Zp ?_))))))))))))))))))
 rw [show ldB ep x = false from decide_eq_false (fun q => by have := q.1; have := q.2.1; have := q.2.2; omega)]
 exact Zm (v := .bool false) rfl rfl rfl (by kernel_rfl) rfl
theorem Znp (l : List Item) (n c : Nat) (hn : l.length = n) (hc : n ≤ c) (hb : n ≤ 1048576) (ep : Int) : Zar Try.prog G 46 [slv 0 0 n c, .func (.func 47) #[] #[pt 1 0]] [rwR Zi l, bxB 1 ([Iv ep])] (Iv (Zdl (ldB ep) l)) [rwR Zi l, bxB 1 ([Iv ep])] := by
  refine Zcu (fn := Try.f46) (nt := 19) rfl rfl rfl rfl ?_
  refine Zj (Zl (Zc (Iv 0) (Zd (Zf (Zj (Zj (Zl (Zb (slv 0 0 n c) (Zbd (p := slv 0 0 n c) (v := Iv (n : Nat)) (Zb (Iv 0) (Zd (Zf (Zbk ?_)))))))))))))
  refine Zf5 (fun i : Nat => [slv 0 0 n c, .func (.func 47) #[] #[pt 1 0], dead, dead, dead, dead, slv 0 0 n c, Iv (n : Nat), Iv (i : Nat)]) (fun i : Nat => [rwR Zi l, bxB 1 ([Iv ep])]) (fun i : Nat => (∀ j, j < i → ldB ep (l.getD j default) = false) ∧ i ≤ n) (fun i : Nat => n - i) 0 ⟨fun _ h => absurd h (by omega), by omega⟩ ?_ ?_
  · refine Zbv (n := 2) rfl ?_ (by kernel_rfl) (by kernel_rfl)
    repeat (first | exact trivial | refine ⟨.inl rfl, ?_⟩ | refine ⟨.inr ⟨rfl, rfl⟩, ?_⟩ | refine ⟨.inr ⟨congrArg (Value.int .i64) (by first | omega | (dsimp only; omega)), rfl⟩, ?_⟩)
  rintro i ⟨hR, hi⟩
  refine Zj (Zl ?_)
  by_cases h1 : (i : Nat) < (n : Nat)
  refine Zn (vx := Iv (i : Nat)) (vy := Iv (n : Nat)) rfl rfl (.bool true) rfl rfl (Zfb (by omega)) ?_
  refine Zd (Zf (Zj (Z5 rfl (Z8 (Zf (Zj (Zbk (Zj (Zl (Zb (Iv (i : Nat)) (Zc (Iv (i : Nat)) (Zd (Zf (Zj (Zl (Zb (.func (.func 47) #[] #[pt 1 0]) (Zb (slv 0 0 n c) (Zb (Iv (i : Nat)) ?_))))))))))))))))))
  refine Zdv (b := 0) (o := 0) (j := i * 110) (m := n) (c := c) (sz := 110) (i := (i : Nat)) (k := .i64) rfl rfl rfl rfl rfl (by omega) (by omega) (by omega) ?_
  refine Zca (p := pt 0 (i * 110)) (v := Zao (l.getD i default)) rfl rfl rfl (Zef (n := 0) (m := 110) Zi rfl rfl rfl rfl (by have := hn; omega) (by omega)) ?_
  refine Z7 (e := [some (1, 0)]) (nid := 0) (Zqz (G := G) ep (l.getD i default)) (vals := [Zao (l.getD i default), pt 1 0]) (v := .bool (ldB ep (l.getD i default))) (H' := [rwR Zi l, bxB 1 ([Iv ep])]) rfl rfl rfl rfl rfl rfl rfl ⟨⟨rfl, ⟨rfl, rfl⟩, trivial⟩, ⟨(Zhk rfl rfl rfl rfl), trivial⟩, rfl, rfl, rfl⟩ rfl (by kernel_rfl) ?_
  refine Zd (Zf ?_)
  rcases Bool.eq_false_or_eq_true (ldB ep (l.getD i default)) with h2 | h2
  refine Z5 (congrArg Value.bool h2) (Zj (Zl (Zb (Iv (i : Nat)) (Zc (Iv (i : Nat)) (Zd (Zf (Zq (Zad (Z2 (Zb8 (Zad (Z2 (Zp ?_)))))))))))))
  rw [show Zdl (ldB ep) l = (i : Int) from Zuo hR (by omega) (by assumption)]
  exact Zm (v := Iv (i : Nat)) rfl rfl rfl (by kernel_rfl) rfl
  refine Zw (congrArg Value.bool h2) (Z8 (Z1 (Zf (Zl ?_))))
  refine Zn (vx := Iv (i : Nat)) (vy := Iv 1) rfl rfl (Iv ((i : Nat) + 1)) rfl rfl (Zci (by omega) (by omega) (by omega)) ?_
  refine Zb (Iv ((i : Nat) + 1)) (Zd ?_)
  refine Zaa ⟨(i + 1), ⟨fun j hj => by rcases Nat.lt_or_ge j i with h | h; exact hR j h; obtain rfl : j = i := (by omega); assumption, by omega⟩, by show n - (i + 1) < n - i; omega, ?_⟩
  refine Zbv (n := 2) rfl ?_ (by kernel_rfl) (by kernel_rfl)
  repeat (first | exact trivial | refine ⟨.inl rfl, ?_⟩ | refine ⟨.inr ⟨rfl, rfl⟩, ?_⟩ | refine ⟨.inr ⟨congrArg (Value.int .i64) (by first | omega | (dsimp only; omega)), rfl⟩, ?_⟩)
  refine Zn (vx := Iv (i : Nat)) (vy := Iv (n : Nat)) rfl rfl (.bool false) rfl rfl (Zex (by omega)) ?_
  refine Zd (Zf (Zj (Zw rfl (Zhh (Zgc (Zee (Zfs rfl (Zf (Zj (Zl (Zc (Iv (-1)) (Zd (Zf (Zq (Zp ?_)))))))))))))))
  rw [show Zdl (ldB ep) l = -1 from Zs7 (fun j hj => hR j (by omega))]
  exact Zm (v := Iv (-1)) rfl rfl rfl (by kernel_rfl) rfl
theorem Zm8 (ep : Int) (l : List Item) (n c : Nat) (hn : l.length = n) (hc : n ≤ c) (hb : n ≤ 1048576) : Zar Try.prog G 29 [Iv ep, slv 0 0 n c] [rwR Zi l] (Iv (Zd4 ep l)) [rwR Zi l] := by
  refine Zcu (fn := Try.f29) (nt := 20) rfl rfl rfl rfl ?_
  refine Zbo 1 (H' := [rwR Zi l, hole]) rfl ?_
  refine Zj (Zl (Zbx (v := Iv ep) (b := bxB 1 ([Iv ep])) (nid := 1) (H' := [rwR Zi l, bxB 1 ([Iv ep])]) (Zc (Iv 0) (Zd (Zf (Zj (Zj (Zl (Zk (p := pt 1 0) (v := Iv ep) ?_)))))))))
  by_cases h1 : ep = 1
  refine Zn (vx := Iv ep) (vy := Iv 1) rfl rfl (.bool true) rfl rfl (Zaw (by omega)) ?_
  refine Zd (Zf (Z5 rfl (Zj (Zl (Zc (Iv 1) (Zd (Zf (Zq (Z2 (Zp ?_))))))))))
  rw [show Zd4 ep l = 1 from Zu2 (by omega)]
  exact Zm (v := Iv 1) rfl rfl rfl (by kernel_rfl) rfl
  refine Zn (vx := Iv ep) (vy := Iv 1) rfl rfl (.bool false) rfl rfl (Zbj (by omega)) ?_
  refine Zd (Zf (Zw rfl (Z8 (Zf (Zj (Zl (Zb (slv 0 0 n c) ?_)))))))
  refine Znf (vs := []) (ws := [pt 1 0]) rfl rfl rfl rfl rfl ?_
  have hix2 := Zod (ldB ep) l
  refine Z7 (e := [some (0, 0), some (1, 0)]) (nid := 0) (Znp (G := G) l n c hn (by omega) (by omega) ep) (vals := [slv 0 0 n c, .func (.func 47) #[] #[pt 1 0]]) (v := Iv (Zdl (ldB ep) l)) (H' := [rwR Zi l, bxB 1 ([Iv ep])]) rfl rfl rfl rfl rfl rfl rfl ⟨⟨⟨rfl, rfl, rfl, by first | omega | exact Nat.le_refl _, by first | omega | exact Nat.le_refl _⟩, ⟨by kernel_rfl, by kernel_rfl⟩, trivial⟩, ⟨(Zab rfl), (Zhk rfl rfl rfl rfl), trivial⟩, rfl, rfl, rfl⟩ rfl (by kernel_rfl) ?_
  refine Zc (Iv (Zdl (ldB ep) l)) (Zd (Zf (Zj (Zj (Zl (Zb (Iv (Zdl (ldB ep) l)) ?_))))))
  by_cases h2 : (Zdl (ldB ep) l) < 0
  refine Zn (vx := Iv (Zdl (ldB ep) l)) (vy := Iv 0) rfl rfl (.bool true) rfl rfl (Zfb (by omega)) ?_
  refine Zd (Zf (Z5 rfl (Zj (Zl (Zc (Iv 0) (Zd (Zf (Zq (Z2 (Zp ?_))))))))))
  rw [show Zd4 ep l = 0 from Ztc (by omega) (by omega)]
  exact Zm (v := Iv 0) rfl rfl rfl (by kernel_rfl) rfl
  refine Zn (vx := Iv (Zdl (ldB ep) l)) (vy := Iv 0) rfl rfl (.bool false) rfl rfl (Zex (by omega)) ?_
  refine Zd (Zf (Zw rfl (Z8 (Zf (Zj (Zl (Zb (slv 0 0 n c) (Zb (Iv (Zdl (ldB ep) l)) ?_))))))))
  refine Zdv (b := 0) (o := 0) (j := ((Zdl (ldB ep) l).toNat) * 110) (m := n) (c := c) (sz := 110) (i := (Zdl (ldB ep) l)) (k := .i64) rfl rfl rfl rfl rfl (by omega) (by omega) (by omega) ?_
  refine Za1 (b := 0) (o := ((Zdl (ldB ep) l).toNat) * 110) (n := 1) (o' := ((Zdl (ldB ep) l).toNat) * 110 + 1) rfl rfl rfl rfl (by omega) ?_
  refine Za1 (b := 0) (o := ((Zdl (ldB ep) l).toNat) * 110 + 1) (n := 73) (o' := ((Zdl (ldB ep) l).toNat) * 110 + 74) rfl rfl rfl rfl (by omega) ?_
  refine Za1 (b := 0) (o := ((Zdl (ldB ep) l).toNat) * 110 + 74) (n := 2) (o' := ((Zdl (ldB ep) l).toNat) * 110 + 76) rfl rfl rfl rfl (by omega) ?_
  refine Zca (p := pt 0 (((Zdl (ldB ep) l).toNat) * 110 + 76)) (v := Iv ((((l.getD ((Zdl (ldB ep) l).toNat) default).entry).claim).node)) rfl rfl rfl (Zh8 Zi (l := l) (i := ((Zdl (ldB ep) l).toNat)) (k := 76) (m := 110) rfl rfl rfl rfl (by have := hn; omega) (by omega) (by kernel_rfl) rfl) ?_
  refine Zc (Iv ((((l.getD ((Zdl (ldB ep) l).toNat) default).entry).claim).node)) (Zd (Zf (Zq (Zp ?_))))
  rw [show Zd4 ep l = ((((l.getD ((Zdl (ldB ep) l).toNat) default).entry).claim).node) from Zu1 (by omega) (by omega)]
  exact Zm (v := Iv ((((l.getD ((Zdl (ldB ep) l).toNat) default).entry).claim).node)) rfl rfl rfl (by kernel_rfl) rfl
theorem Zat (n low high : Int) : Zar Try.prog G 26 [Iv n, Iv low, Iv high] [] (.bool (Zb7 n low high)) [] := by
 refine Zcu (fn := Try.f26) (nt := 15) rfl rfl rfl rfl ?_
 refine Zj (Zl (Zc (.bool false) (Zd (Zf (Zj (Zl (Zb (Iv n) (Zb (Iv low) ?_))))))))
 by_cases h1 : low ≤ n
 refine Zn (vx := Iv n) (vy := Iv low) rfl rfl (.bool true) rfl rfl (Zfg (by omega)) ?_
 refine Zb (.bool true) (Zb (Iv n) (Zb (Iv high) ?_))
 by_cases h2 : n ≤ high
 refine Zn (vx := Iv n) (vy := Iv high) rfl rfl (.bool true) rfl rfl (Zna (by omega)) ?_
 refine Zh (.bool true) (Zc (.bool true) (Zd (Zf (Zq (Zp ?_)))))
 rw [show Zb7 n low high = true from Za2 (by omega) (by omega)]
 exact Zm (v := .bool true) rfl rfl rfl (by kernel_rfl) rfl
 refine Zn (vx := Iv n) (vy := Iv high) rfl rfl (.bool false) rfl rfl (Zm9 (by omega)) ?_
 refine Zh (.bool false) (Zc (.bool false) (Zd (Zf (Zq (Zp ?_)))))
 rw [show Zb7 n low high = false from Z4 (by omega)]
 exact Zm (v := .bool false) rfl rfl rfl (by kernel_rfl) rfl
 refine Zn (vx := Iv n) (vy := Iv low) rfl rfl (.bool false) rfl rfl (Zjf (by omega)) ?_
 refine Zb (.bool false) (Za (Za (Za (Zh (.bool false) (Zc (.bool false) (Zd (Zf (Zq (Zp ?_)))))))))
 rw [show Zb7 n low high = false from Z4 (by omega)]
 exact Zm (v := .bool false) rfl rfl rfl (by kernel_rfl) rfl
abbrev Y2 (k : Kept) (n : Nat) (c : Nat) (m : Nat) (d : Nat) : Blk := mxB 4 ([Iv k.epoch, Iv k.log, slv 0 0 n c, slv 1 0 m d])
theorem Zcp (k : Kept) (n c m d : Nat) (hn : k.items.length = n) (hm : k.claims.length = m) (hc : n ≤ c) (hd : m ≤ d) (hb : n ≤ 1048576) (hb2 : m ≤ 1048576) : Zar Try.prog G 10 [mxV ([Iv k.epoch, Iv k.log, slv 0 0 n c, slv 1 0 m d])] [rwR Zi k.items, rwR Zg k.claims] (Iv (Zcd k)) [rwR Zi k.items, rwR Zg k.claims] := by
  refine Zcu (fn := Try.f10) (nt := 51) rfl rfl rfl rfl ?_
  refine Zbo 1 (H' := [rwR Zi k.items, rwR Zg k.claims, hole]) rfl ?_
  refine Zj (Zl (Zbx (v := mxV ([Iv k.epoch, Iv k.log, slv 0 0 n c, slv 1 0 m d])) (b := mxB 4 ([Iv k.epoch, Iv k.log, slv 0 0 n c, slv 1 0 m d])) (nid := 2) (H' := [rwR Zi k.items, rwR Zg k.claims, Y2 k n c m d]) (Zc (Iv 0) (Zd (Zf ?_)))))
  refine Zvy (l := 0) rfl ?_
  refine Zj (Zl (Ze (b := 2) (o := 0) (n := 2) (o' := 2) (Zk (p := pt 2 2) (v := slv 0 0 n c) (Zbd (p := slv 0 0 n c) (v := Iv (n : Nat)) (Zc (Iv (n : Nat)) (Zd (Zf (Zj (Zj (Zl (Ze (b := 2) (o := 0) (n := 0) (o' := 0) (Zk (p := pt 2 0) (v := Iv k.epoch) ?_))))))))))))
  by_cases h1 : 1 ≤ k.epoch
  by_cases h2 : k.epoch ≤ 900000000
  refine Zt ((Zat (G := G) k.epoch 1 900000000).res (congrArg Value.bool (Za2 (by omega) (by omega)))) (vals := [Iv k.epoch, Iv 1, Iv 900000000]) (res' := .bool true) rfl rfl rfl rfl rfl rfl ?_
  refine Zhv (vx := .bool true) rfl rfl (.bool false) rfl Zdx ?_
  refine Zb (.bool false) (Ze (b := 2) (o := 0) (n := 1) (o' := 1) (Zk (p := pt 2 1) (v := Iv k.log) (Ze (b := 2) (o := 0) (n := 0) (o' := 0) (Zk (p := pt 2 0) (v := Iv k.epoch) ?_))))
  by_cases h3 : 1 ≤ k.log
  by_cases h4 : k.log ≤ k.epoch
  refine Zt ((Zat (G := G) k.log 1 k.epoch).res (congrArg Value.bool (Za2 (by omega) (by omega)))) (vals := [Iv k.log, Iv 1, Iv k.epoch]) (res' := .bool true) rfl rfl rfl rfl rfl rfl ?_
  refine Zhv (vx := .bool true) rfl rfl (.bool false) rfl Zdx ?_
  refine Zh (.bool false) (Zd (Zf (Zw rfl (Z8 (Zf (Zj (Zj (Zl (Ze (b := 2) (o := 0) (n := 2) (o' := 2) (Zk (p := pt 2 2) (v := slv 0 0 n c) ?_))))))))))
  refine Z7 (e := [some (0, 0)]) (nid := 0) (Zh5 (G := G) k.items n c hn (by omega) (by omega)) (vals := [slv 0 0 n c]) (v := Iv (Zfj k.items)) (H' := [rwR Zi k.items, rwR Zg k.claims, Y2 k n c m d]) rfl rfl rfl rfl rfl rfl rfl ⟨⟨⟨rfl, rfl, rfl, by first | omega | exact Nat.le_refl _, by first | omega | exact Nat.le_refl _⟩, trivial⟩, ⟨(Zab rfl), trivial⟩, rfl, rfl, rfl⟩ rfl (by kernel_rfl) ?_
  by_cases h5 : (Zfj k.items) ≠ 0
  refine Zn (vx := Iv (Zfj k.items)) (vy := Iv 0) rfl rfl (.bool true) rfl rfl (Zdd (by omega)) ?_
  refine Zb (.bool true) (Za (Za (Za (Za (Zh (.bool true) (Zb (.bool true) (Za (Za (Za (Za (Za (Za (Zh (.bool true) (Zd (Zf (Z5 rfl (Zip (Zg9 (Zf1 (Zj (Z8 (Zf (Zj (Zl (Zc (Iv 1) (Zd (Zf (Zq (Zl9 (Zp ?_))))))))))))))))))))))))))))))
  rw [show Zcd k = 1 from if_neg (fun q => by obtain ⟨q1, q2, q3, q4, q5, q6⟩ := q; rw [hn] at q6; first | omega | exact Zaf (by omega) q3 | exact Zdz (by omega) q4)]
  exact Zm (v := Iv 1) rfl rfl rfl (by kernel_rfl) rfl
  refine Zn (vx := Iv (Zfj k.items)) (vy := Iv 0) rfl rfl (.bool false) rfl rfl (Zdc (by omega)) ?_
  refine Zb (.bool false) (Ze (b := 2) (o := 0) (n := 3) (o' := 3) (Zk (p := pt 2 3) (v := slv 1 0 m d) ?_))
  refine Z7 (e := [some (1, 0)]) (nid := 0) (Zjz (G := G) k.claims m d hm (by omega) (by omega)) (vals := [slv 1 0 m d]) (v := Iv (Zdb k.claims)) (H' := [rwR Zi k.items, rwR Zg k.claims, Y2 k n c m d]) rfl rfl rfl rfl rfl rfl rfl ⟨⟨⟨rfl, rfl, rfl, by first | omega | exact Nat.le_refl _, by first | omega | exact Nat.le_refl _⟩, trivial⟩, ⟨(Zab rfl), trivial⟩, rfl, rfl, rfl⟩ rfl (by kernel_rfl) ?_
  by_cases h6 : (Zdb k.claims) ≠ 0
  refine Zn (vx := Iv (Zdb k.claims)) (vy := Iv 0) rfl rfl (.bool true) rfl rfl (Zdd (by omega)) ?_
  refine Zh (.bool true) (Zb (.bool true) (Za (Za (Za (Za (Za (Za (Zh (.bool true) (Zd (Zf (Z5 rfl (Zip (Zg9 (Zf1 (Zj (Z8 (Zf (Zj (Zl (Zc (Iv 1) (Zd (Zf (Zq (Zl9 (Zp ?_)))))))))))))))))))))))))
  rw [show Zcd k = 1 from if_neg (fun q => by obtain ⟨q1, q2, q3, q4, q5, q6⟩ := q; rw [hn] at q6; first | omega | exact Zaf (by omega) q3 | exact Zdz (by omega) q4)]
  exact Zm (v := Iv 1) rfl rfl rfl (by kernel_rfl) rfl
  refine Zn (vx := Iv (Zdb k.claims)) (vy := Iv 0) rfl rfl (.bool false) rfl rfl (Zdc (by omega)) ?_
  refine Zh (.bool false) (Zb (.bool false) (Ze (b := 2) (o := 0) (n := 1) (o' := 1) (Zk (p := pt 2 1) (v := Iv k.log) (Ze (b := 2) (o := 0) (n := 2) (o' := 2) (Zk (p := pt 2 2) (v := slv 0 0 n c) ?_)))))
  refine Z7 (e := [some (0, 0)]) (nid := 0) (Zm8 (G := G) k.log k.items n c hn (by omega) (by omega)) (vals := [Iv k.log, slv 0 0 n c]) (v := Iv (Zd4 k.log k.items)) (H' := [rwR Zi k.items, rwR Zg k.claims, Y2 k n c m d]) rfl rfl rfl rfl rfl rfl rfl ⟨⟨rfl, ⟨rfl, rfl, rfl, by first | omega | exact Nat.le_refl _, by first | omega | exact Nat.le_refl _⟩, trivial⟩, ⟨(Zab rfl), trivial⟩, rfl, rfl, rfl⟩ rfl (by kernel_rfl) ?_
  by_cases h7 : (Zd4 k.log k.items) = 0
  refine Zn (vx := Iv (Zd4 k.log k.items)) (vy := Iv 0) rfl rfl (.bool true) rfl rfl (Zaw (by omega)) ?_
  refine Zh (.bool true) (Zd (Zf (Z5 rfl (Zip (Zg9 (Zf1 (Zj (Z8 (Zf (Zj (Zl (Zc (Iv 1) (Zd (Zf (Zq (Zl9 (Zp ?_)))))))))))))))))
  rw [show Zcd k = 1 from if_neg (fun q => by obtain ⟨q1, q2, q3, q4, q5, q6⟩ := q; rw [hn] at q6; first | omega | exact Zaf (by omega) q3 | exact Zdz (by omega) q4)]
  exact Zm (v := Iv 1) rfl rfl rfl (by kernel_rfl) rfl
  refine Zn (vx := Iv (Zd4 k.log k.items)) (vy := Iv 0) rfl rfl (.bool false) rfl rfl (Zbj (by omega)) ?_
  refine Zh (.bool false) (Zd (Zf (Zw rfl (Z8 (Zf (Zj (Zj ?_)))))))
  refine Zdg (by kernel_rfl) ?_
  refine Zb (Iv (n : Nat)) ?_
  by_cases h8 : (n : Nat) = 0
  refine Zn (vx := Iv (n : Nat)) (vy := Iv 0) rfl rfl (.bool true) rfl rfl (Zaw (by omega)) ?_
  refine Zb (.bool true) (Za (Za (Za (Za (Za (Za (Za (Za (Za (Za (Zh (.bool true) ?_)))))))))))
  refine Za9 (Zap [[], [0], [0, 1], [0, 1, 2], [0, 1, 2, 3], [0, 1, 2], [0, 1, 2, 5], [0, 1, 2, 3, 4, 5, 6], [0, 1, 2, 3, 4, 5, 6, 7], [0, 1, 2, 3, 4, 5, 6, 7, 8], [0, 1, 2], [0, 1, 2, 10], [0, 1, 2, 3, 4, 5, 6, 7, 8, 9, 10, 11], [0, 1, 2, 3, 4, 5, 6, 7, 8, 9, 10, 11, 12]] (by kernel_rfl) (by kernel_rfl)) ?_
  refine Zf (Z5 rfl (Zj (Zl (Zc (Iv 0) (Zd (Zf (Zq (Z2 (Zma (Zp ?_))))))))))
  rw [show Zcd k = 0 from if_pos ⟨by omega, by omega, Zbs (by omega), Zgo (by omega), Zpk (Zbs (by omega)) (by omega), by rw [hn]; omega⟩]
  exact Zm (v := Iv 0) rfl rfl rfl (by kernel_rfl) rfl
  refine Zn (vx := Iv (n : Nat)) (vy := Iv 0) rfl rfl (.bool false) rfl rfl (Zbj (by omega)) ?_
  refine Zb (.bool false) (Ze (b := 2) (o := 0) (n := 2) (o' := 2) (Zk (p := pt 2 2) (v := slv 0 0 n c) (Zb (Iv (n : Nat)) ?_)))
  refine Zn (vx := Iv (n : Nat)) (vy := Iv 1) rfl rfl (Iv ((n : Nat) - 1)) rfl rfl (Zky (by omega) (by omega) (by omega)) ?_
  refine Zdv (b := 0) (o := 0) (j := (n - 1) * 110) (m := n) (c := c) (sz := 110) (i := (n : Nat) - 1) (k := .i64) rfl rfl rfl rfl rfl (by omega) (by omega) (by omega) ?_
  refine Za1 (b := 0) (o := (n - 1) * 110) (n := 0) (o' := (n - 1) * 110) rfl rfl rfl rfl (by omega) ?_
  refine Zca (p := pt 0 ((n - 1) * 110)) (v := Iv ((k.items.getD (n - 1) default).epoch)) rfl rfl rfl (Zh8 Zi (l := k.items) (i := n - 1) (k := 0) (m := 110) rfl rfl rfl rfl (by have := hn; omega) (by omega) (by kernel_rfl) rfl) ?_
  refine Ze (b := 2) (o := 0) (n := 1) (o' := 1) (Zk (p := pt 2 1) (v := Iv k.log) ?_)
  by_cases h9 : ((k.items.getD (n - 1) default).epoch) ≤ k.log
  refine Zn (vx := Iv ((k.items.getD (n - 1) default).epoch)) (vy := Iv k.log) rfl rfl (.bool true) rfl rfl (Zna (by omega)) ?_
  refine Zh (.bool true) ?_
  refine Za9 (Zap [[], [0], [0, 1], [0, 1, 2], [0, 1, 2, 3], [0, 1, 2], [0, 1, 2, 5], [0, 1, 2, 3, 4, 5, 6], [0, 1, 2, 3, 4, 5, 6, 7], [0, 1, 2, 3, 4, 5, 6, 7, 8], [0, 1, 2], [0, 1, 2, 10], [0, 1, 2, 3, 4, 5, 6, 7, 8, 9, 10, 11], [0, 1, 2, 3, 4, 5, 6, 7, 8, 9, 10, 11, 12]] (by kernel_rfl) (by kernel_rfl)) ?_
  refine Zf (Z5 rfl (Zj (Zl (Zc (Iv 0) (Zd (Zf (Zq (Z2 (Zma (Zp ?_))))))))))
  rw [show Zcd k = 0 from if_pos ⟨by omega, by omega, Zbs (by omega), Zgo (by omega), Zpk (Zbs (by omega)) (by omega), by rw [hn]; omega⟩]
  exact Zm (v := Iv 0) rfl rfl rfl (by kernel_rfl) rfl
  refine Zn (vx := Iv ((k.items.getD (n - 1) default).epoch)) (vy := Iv k.log) rfl rfl (.bool false) rfl rfl (Zm9 (by omega)) ?_
  refine Zh (.bool false) ?_
  refine Za9 (Zap [[], [0], [0, 1], [0, 1, 2], [0, 1, 2, 3], [0, 1, 2], [0, 1, 2, 5], [0, 1, 2, 3, 4, 5, 6], [0, 1, 2, 3, 4, 5, 6, 7], [0, 1, 2, 3, 4, 5, 6, 7, 8], [0, 1, 2], [0, 1, 2, 10], [0, 1, 2, 3, 4, 5, 6, 7, 8, 9, 10, 11], [0, 1, 2, 3, 4, 5, 6, 7, 8, 9, 10, 11, 12]] (by kernel_rfl) (by kernel_rfl)) ?_
  refine Zf (Zw rfl (Z8 (Zf (Zj (Zvx (Zf (Zj (Zl (Zc (Iv 1) (Zd (Zf (Zq (Zma (Zp ?_))))))))))))))
  rw [show Zcd k = 1 from if_neg (fun q => by obtain ⟨q1, q2, q3, q4, q5, q6⟩ := q; rw [hn] at q6; first | omega | exact Zaf (by omega) q3 | exact Zdz (by omega) q4)]
  exact Zm (v := Iv 1) rfl rfl rfl (by kernel_rfl) rfl
  refine Zt ((Zat (G := G) k.log 1 k.epoch).res (congrArg Value.bool (Z4 (by omega)))) (vals := [Iv k.log, Iv 1, Iv k.epoch]) (res' := .bool false) rfl rfl rfl rfl rfl rfl ?_
  refine Zhv (vx := .bool false) rfl rfl (.bool true) rfl Zdx ?_
  refine Zh (.bool true) (Zd (Zf (Z5 rfl (Zip (Zg9 (Zf1 (Zj (Z8 (Zf (Zj (Zl (Zc (Iv 1) (Zd (Zf (Zq (Zl9 (Zp ?_)))))))))))))))))
  rw [show Zcd k = 1 from if_neg (fun q => by obtain ⟨q1, q2, q3, q4, q5, q6⟩ := q; rw [hn] at q6; first | omega | exact Zaf (by omega) q3 | exact Zdz (by omega) q4)]
  exact Zm (v := Iv 1) rfl rfl rfl (by kernel_rfl) rfl
  refine Zt ((Zat (G := G) k.log 1 k.epoch).res (congrArg Value.bool (Z4 (by omega)))) (vals := [Iv k.log, Iv 1, Iv k.epoch]) (res' := .bool false) rfl rfl rfl rfl rfl rfl ?_
  refine Zhv (vx := .bool false) rfl rfl (.bool true) rfl Zdx ?_
  refine Zh (.bool true) (Zd (Zf (Z5 rfl (Zip (Zg9 (Zf1 (Zj (Z8 (Zf (Zj (Zl (Zc (Iv 1) (Zd (Zf (Zq (Zl9 (Zp ?_)))))))))))))))))
  rw [show Zcd k = 1 from if_neg (fun q => by obtain ⟨q1, q2, q3, q4, q5, q6⟩ := q; rw [hn] at q6; first | omega | exact Zaf (by omega) q3 | exact Zdz (by omega) q4)]
  exact Zm (v := Iv 1) rfl rfl rfl (by kernel_rfl) rfl
  refine Zt ((Zat (G := G) k.epoch 1 900000000).res (congrArg Value.bool (Z4 (by omega)))) (vals := [Iv k.epoch, Iv 1, Iv 900000000]) (res' := .bool false) rfl rfl rfl rfl rfl rfl ?_
  refine Zhv (vx := .bool false) rfl rfl (.bool true) rfl Zdx ?_
  refine Zb (.bool true) (Za (Za (Za (Za (Za (Za (Zh (.bool true) (Zd (Zf (Z5 rfl (Zip (Zg9 (Zf1 (Zj (Z8 (Zf (Zj (Zl (Zc (Iv 1) (Zd (Zf (Zq (Zl9 (Zp ?_))))))))))))))))))))))))
  rw [show Zcd k = 1 from if_neg (fun q => by obtain ⟨q1, q2, q3, q4, q5, q6⟩ := q; rw [hn] at q6; first | omega | exact Zaf (by omega) q3 | exact Zdz (by omega) q4)]
  exact Zm (v := Iv 1) rfl rfl rfl (by kernel_rfl) rfl
  refine Zt ((Zat (G := G) k.epoch 1 900000000).res (congrArg Value.bool (Z4 (by omega)))) (vals := [Iv k.epoch, Iv 1, Iv 900000000]) (res' := .bool false) rfl rfl rfl rfl rfl rfl ?_
  refine Zhv (vx := .bool false) rfl rfl (.bool true) rfl Zdx ?_
  refine Zb (.bool true) (Za (Za (Za (Za (Za (Za (Zh (.bool true) (Zd (Zf (Z5 rfl (Zip (Zg9 (Zf1 (Zj (Z8 (Zf (Zj (Zl (Zc (Iv 1) (Zd (Zf (Zq (Zl9 (Zp ?_))))))))))))))))))))))))
  rw [show Zcd k = 1 from if_neg (fun q => by obtain ⟨q1, q2, q3, q4, q5, q6⟩ := q; rw [hn] at q6; first | omega | exact Zaf (by omega) q3 | exact Zdz (by omega) q4)]
  exact Zm (v := Iv 1) rfl rfl rfl (by kernel_rfl) rfl
theorem Zmp (k : Kept) (n c m d : Nat) (hn : k.items.length = n) (hm : k.claims.length = m) (hc : n ≤ c) (hd : m ≤ d) (hb : n ≤ 1048576) (hb2 : m ≤ 1048576) : Zar Try.prog G 13 [mxV ([Iv k.epoch, Iv k.log, slv 0 0 n c, slv 1 0 m d])] [rwR Zi k.items, rwR Zg k.claims] (Iv (Zuz k)) [rwR Zi k.items, rwR Zg k.claims] := by
  refine Zcu (fn := Try.f13) (nt := 11) rfl rfl rfl rfl ?_
  refine Zbo 1 (H' := [rwR Zi k.items, rwR Zg k.claims, hole]) rfl ?_
  refine Zj (Zl (Zbx (v := mxV ([Iv k.epoch, Iv k.log, slv 0 0 n c, slv 1 0 m d])) (b := mxB 4 ([Iv k.epoch, Iv k.log, slv 0 0 n c, slv 1 0 m d])) (nid := 2) (H' := [rwR Zi k.items, rwR Zg k.claims, mxB 4 ([Iv k.epoch, Iv k.log, slv 0 0 n c, slv 1 0 m d])]) (Zc (Iv 0) (Zd (Zf (Zj (Zj (Zl (Zk (p := pt 2 0) (v := mxV ([Iv k.epoch, Iv k.log, slv 0 0 n c, slv 1 0 m d])) ?_)))))))))
  refine Z7 (e := [some (0, 0), some (1, 0)]) (nid := 0) (Zcp (G := G) k n c m d hn hm (by omega) (by omega) (by omega) (by omega)) (vals := [mxV ([Iv k.epoch, Iv k.log, slv 0 0 n c, slv 1 0 m d])]) (v := Iv (Zcd k)) (H' := [rwR Zi k.items, rwR Zg k.claims, mxB 4 ([Iv k.epoch, Iv k.log, slv 0 0 n c, slv 1 0 m d])]) rfl rfl rfl rfl rfl rfl rfl ⟨⟨(Zag (by kernel_rfl) ⟨⟨rfl, rfl⟩, ⟨rfl, rfl⟩, ⟨rfl, rfl, rfl, by first | omega | exact Nat.le_refl _, by first | omega | exact Nat.le_refl _⟩, ⟨rfl, rfl, rfl, by first | omega | exact Nat.le_refl _, by first | omega | exact Nat.le_refl _⟩, trivial⟩), trivial⟩, ⟨(Zab rfl), (Zab rfl), trivial⟩, rfl, rfl, rfl⟩ rfl (by kernel_rfl) ?_
  by_cases h1 : (Zcd k) ≠ 0
  refine Zn (vx := Iv (Zcd k)) (vy := Iv 0) rfl rfl (.bool true) rfl rfl (Zdd (by omega)) ?_
  refine Zd (Zf (Z5 rfl (Zj (Zl (Zc (Iv 0) (Zd (Zf (Zq (Z2 (Zp ?_))))))))))
  rw [show Zuz k = 0 from if_neg (Za0 (by omega))]
  exact Zm (v := Iv 0) rfl rfl rfl (by kernel_rfl) rfl
  refine Zn (vx := Iv (Zcd k)) (vy := Iv 0) rfl rfl (.bool false) rfl rfl (Zdc (by omega)) ?_
  refine Zd (Zf (Zw rfl (Z8 (Zf (Zj (Zl (Ze (b := 2) (o := 0) (n := 1) (o' := 1) (Zk (p := pt 2 1) (v := Iv k.log) (Ze (b := 2) (o := 0) (n := 2) (o' := 2) (Zk (p := pt 2 2) (v := slv 0 0 n c) ?_))))))))))
  refine Z7 (e := [some (0, 0)]) (nid := 0) (Zm8 (G := G) k.log k.items n c hn (by omega) (by omega)) (vals := [Iv k.log, slv 0 0 n c]) (v := Iv (Zd4 k.log k.items)) (H' := [rwR Zi k.items, rwR Zg k.claims, mxB 4 ([Iv k.epoch, Iv k.log, slv 0 0 n c, slv 1 0 m d])]) rfl rfl rfl rfl rfl rfl rfl ⟨⟨rfl, ⟨rfl, rfl, rfl, by first | omega | exact Nat.le_refl _, by first | omega | exact Nat.le_refl _⟩, trivial⟩, ⟨(Zab rfl), trivial⟩, rfl, rfl, rfl⟩ rfl (by kernel_rfl) ?_
  refine Zc (Iv (Zd4 k.log k.items)) (Zd (Zf (Zq (Zp ?_))))
  rw [show Zuz k = (Zd4 k.log k.items) from if_pos (Zby (by omega))]
  exact Zm (v := Iv (Zd4 k.log k.items)) rfl rfl rfl (by kernel_rfl) rfl
theorem Zxn  : Zar Try.prog G 16 [] [] (mxV ([Iv 1, Iv 1, .slice none 0 0, .slice none 0 0])) [] := by
 refine Zcu (fn := Try.f16) (nt := 2) rfl rfl rfl rfl ?_
 refine Zbo 1 (H' := [hole]) rfl ?_
 refine Zj (Zl (Zbg (b := mxB 4 ([Iv 0, Iv 0, .slice none 0 0, .slice none 0 0])) (nid := 0) (H' := [mxB 4 ([Iv 0, Iv 0, .slice none 0 0, .slice none 0 0])]) (Zd (Zf (Zj (Zl ?_))))))
 refine Zbt (vs := [(0, Iv 1), (1, Iv 1)]) (v := mxV ([Iv 1, Iv 1, .slice none 0 0, .slice none 0 0])) rfl rfl rfl (by kernel_rfl) ?_
 refine Zz (p := pt 0 0) (v := mxV ([Iv 1, Iv 1, .slice none 0 0, .slice none 0 0])) (b := 0) (blk := mxB 4 ([Iv 1, Iv 1, .slice none 0 0, .slice none 0 0])) (H' := [mxB 4 ([Iv 1, Iv 1, .slice none 0 0, .slice none 0 0])]) (Zd (Zf (Zq (Zp ?_))))
 exact Zm (v := mxV ([Iv 1, Iv 1, .slice none 0 0, .slice none 0 0])) rfl rfl rfl (by kernel_rfl) (Zj1 (by kernel_rfl) rfl)
abbrev Y3 (a : Kept) (n : Nat) (c : Nat) (m : Nat) (d : Nat) : Blk := mxB 4 ([Iv a.epoch, Iv a.log, slv 0 0 n c, slv 1 0 m d])
theorem Zp2 (a : Kept) (n c m d : Nat) (hn : a.items.length = n) (hm : a.claims.length = m) (hc : n ≤ c) (hd : m ≤ d) (hb : n ≤ 1048576) (hb2 : m ≤ 1048576) (b : Kept) (n' c' m' d' : Nat) (hn' : b.items.length = n') (hm' : b.claims.length = m') (hc' : n' ≤ c') (hd' : m' ≤ d') (hb' : n' ≤ 1048576) (hb2' : m' ≤ 1048576) : Zar Try.prog G 15 [mxV ([Iv a.epoch, Iv a.log, slv 0 0 n c, slv 1 0 m d]), mxV ([Iv b.epoch, Iv b.log, slv 2 0 n' c', slv 3 0 m' d'])] [rwR Zi a.items, rwR Zg a.claims, rwR Zi b.items, rwR Zg b.claims] (.bool (Zfc a b)) [rwR Zi a.items, rwR Zg a.claims, rwR Zi b.items, rwR Zg b.claims] := by
  refine Zcu (fn := Try.f15) (nt := 31) rfl rfl rfl rfl ?_
  refine Zbo 2 (H' := [rwR Zi a.items, rwR Zg a.claims, rwR Zi b.items, rwR Zg b.claims, hole, hole]) rfl ?_
  refine Zj (Zl (Zbx (v := mxV ([Iv a.epoch, Iv a.log, slv 0 0 n c, slv 1 0 m d])) (b := mxB 4 ([Iv a.epoch, Iv a.log, slv 0 0 n c, slv 1 0 m d])) (nid := 4) (H' := [rwR Zi a.items, rwR Zg a.claims, rwR Zi b.items, rwR Zg b.claims, Y3 a n c m d, hole]) (Zbx (v := mxV ([Iv b.epoch, Iv b.log, slv 2 0 n' c', slv 3 0 m' d'])) (b := mxB 4 ([Iv b.epoch, Iv b.log, slv 2 0 n' c', slv 3 0 m' d'])) (nid := 5) (H' := [rwR Zi a.items, rwR Zg a.claims, rwR Zi b.items, rwR Zg b.claims, Y3 a n c m d, mxB 4 ([Iv b.epoch, Iv b.log, slv 2 0 n' c', slv 3 0 m' d'])]) (Zc (.bool false) (Zd (Zf (Zj (Zl (Ze (b := 4) (o := 0) (n := 0) (o' := 0) (Zk (p := pt 4 0) (v := Iv a.epoch) (Ze (b := 5) (o := 0) (n := 0) (o' := 0) (Zk (p := pt 5 0) (v := Iv b.epoch) ?_))))))))))))
  by_cases h1 : a.epoch = b.epoch
  refine Zn (vx := Iv a.epoch) (vy := Iv b.epoch) rfl rfl (.bool true) rfl rfl (Zaw (by omega)) ?_
  refine Zb (.bool true) (Ze (b := 4) (o := 0) (n := 1) (o' := 1) (Zk (p := pt 4 1) (v := Iv a.log) (Ze (b := 5) (o := 0) (n := 1) (o' := 1) (Zk (p := pt 5 1) (v := Iv b.log) ?_))))
  by_cases h2 : a.log = b.log
  refine Zn (vx := Iv a.log) (vy := Iv b.log) rfl rfl (.bool true) rfl rfl (Zaw (by omega)) ?_
  refine Zh (.bool true) (Zb (.bool true) (Ze (b := 4) (o := 0) (n := 2) (o' := 2) (Zk (p := pt 4 2) (v := slv 0 0 n c) (Ze (b := 5) (o := 0) (n := 2) (o' := 2) (Zk (p := pt 5 2) (v := slv 2 0 n' c') ?_)))))
  refine Z7 (e := [some (0, 0), some (2, 0)]) (nid := 0) (Zi1 (G := G) a.items b.items n c n' c' hn hn' (by omega) (by omega) (by omega) (by omega)) (vals := [slv 0 0 n c, slv 2 0 n' c']) (v := .bool (Zcs a.items b.items)) (H' := [rwR Zi a.items, rwR Zg a.claims, rwR Zi b.items, rwR Zg b.claims, Y3 a n c m d, mxB 4 ([Iv b.epoch, Iv b.log, slv 2 0 n' c', slv 3 0 m' d'])]) rfl rfl rfl rfl rfl rfl rfl ⟨⟨⟨rfl, rfl, rfl, by first | omega | exact Nat.le_refl _, by first | omega | exact Nat.le_refl _⟩, ⟨rfl, rfl, rfl, by first | omega | exact Nat.le_refl _, by first | omega | exact Nat.le_refl _⟩, trivial⟩, ⟨(Zab rfl), (Zab rfl), trivial⟩, rfl, rfl, rfl⟩ rfl (by kernel_rfl) ?_
  refine Zh (.bool (Zcs a.items b.items)) (Zb (.bool (Zcs a.items b.items)) ?_)
  rcases Bool.eq_false_or_eq_true (Zcs a.items b.items) with h3 | h3
  refine Za1 (b := 4) (o := 0) (n := 3) (o' := 3) (by exact congrArg (fun b => some (b == true)) h3) rfl rfl rfl rfl ?_
  refine Zca (p := pt 4 3) (v := slv 1 0 m d) (by exact congrArg (fun b => some (b == true)) h3) rfl rfl (by kernel_rfl) ?_
  refine Za1 (b := 5) (o := 0) (n := 3) (o' := 3) (by exact congrArg (fun b => some (b == true)) h3) rfl rfl rfl rfl ?_
  refine Zca (p := pt 5 3) (v := slv 3 0 m' d') (by exact congrArg (fun b => some (b == true)) h3) rfl rfl (by kernel_rfl) ?_
  refine Z7 (e := [some (1, 0), some (3, 0)]) (nid := 0) (Zp1 (G := G) a.claims b.claims m d m' d' hm hm' (by omega) (by omega) (by omega) (by omega)) (vals := [slv 1 0 m d, slv 3 0 m' d']) (v := .bool (Zct a.claims b.claims)) (H' := [rwR Zi a.items, rwR Zg a.claims, rwR Zi b.items, rwR Zg b.claims, Y3 a n c m d, mxB 4 ([Iv b.epoch, Iv b.log, slv 2 0 n' c', slv 3 0 m' d'])]) (by exact congrArg (fun b => some (b == true)) h3) rfl rfl rfl rfl rfl rfl ⟨⟨⟨rfl, rfl, rfl, by first | omega | exact Nat.le_refl _, by first | omega | exact Nat.le_refl _⟩, ⟨rfl, rfl, rfl, by first | omega | exact Nat.le_refl _, by first | omega | exact Nat.le_refl _⟩, trivial⟩, ⟨(Zab rfl), (Zab rfl), trivial⟩, rfl, rfl, rfl⟩ rfl (by kernel_rfl) ?_
  refine Zey rfl rfl (.bool (Zct a.claims b.claims)) (by show some (if _ then _ else _) = _; rw [h3] <;> rfl) ?_
  refine Zc (.bool (Zct a.claims b.claims)) (Zd (Zf (Zq (Zp ?_))))
  rw [show Zfc a b = Zct a.claims b.claims from Zwy (by omega) (by omega) (by assumption)]
  exact Zm (v := .bool (Zct a.claims b.claims)) rfl rfl rfl (by kernel_rfl) rfl
  refine Zcx (by exact congrArg (fun b => some (b == true)) h3) rfl ?_
  refine Zcx (by exact congrArg (fun b => some (b == true)) h3) rfl ?_
  refine Zcx (by exact congrArg (fun b => some (b == true)) h3) rfl ?_
  refine Zcx (by exact congrArg (fun b => some (b == true)) h3) rfl ?_
  refine Zcx (by exact congrArg (fun b => some (b == true)) h3) rfl ?_
  refine Zey rfl rfl (.bool false) (by show some (if _ then _ else _) = _; rw [h3] <;> rfl) ?_
  refine Zc (.bool false) (Zd (Zf (Zq (Zp ?_))))
  rw [show Zfc a b = false from Zoo (fun q1 q2 q3 q4 => by first | omega | exact absurd q3 (by rw [‹Zcs _ _ = false›]; decide) | exact absurd q4 (by rw [‹Zct _ _ = false›]; decide))]
  exact Zm (v := .bool false) rfl rfl rfl (by kernel_rfl) rfl
  refine Zn (vx := Iv a.log) (vy := Iv b.log) rfl rfl (.bool false) rfl rfl (Zbj (by omega)) ?_
  refine Zh (.bool false) (Zb (.bool false) (Za (Za (Za (Za (Za (Zh (.bool false) (Zb (.bool false) (Za (Za (Za (Za (Za (Zh (.bool false) (Zc (.bool false) (Zd (Zf (Zq (Zp ?_)))))))))))))))))))
  rw [show Zfc a b = false from Zoo (fun q1 q2 q3 q4 => by first | omega | exact absurd q3 (by rw [‹Zcs _ _ = false›]; decide) | exact absurd q4 (by rw [‹Zct _ _ = false›]; decide))]
  exact Zm (v := .bool false) rfl rfl rfl (by kernel_rfl) rfl
  refine Zn (vx := Iv a.epoch) (vy := Iv b.epoch) rfl rfl (.bool false) rfl rfl (Zbj (by omega)) ?_
  refine Zb (.bool false) (Za (Za (Za (Za (Za (Zh (.bool false) (Zb (.bool false) (Za (Za (Za (Za (Za (Zh (.bool false) (Zb (.bool false) (Za (Za (Za (Za (Za (Zh (.bool false) (Zc (.bool false) (Zd (Zf (Zq (Zp ?_)))))))))))))))))))))))))
  rw [show Zfc a b = false from Zoo (fun q1 q2 q3 q4 => by first | omega | exact absurd q3 (by rw [‹Zcs _ _ = false›]; decide) | exact absurd q4 (by rw [‹Zct _ _ = false›]; decide))]
  exact Zm (v := .bool false) rfl rfl rfl (by kernel_rfl) rfl
end Go.Flat
