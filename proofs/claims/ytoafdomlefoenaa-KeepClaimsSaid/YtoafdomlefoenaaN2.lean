/- Walks. -/
import Derived.Test.YtoafdomlefoenaaN1
set_option linter.unusedVariables false
set_option linter.unusedSimpArgs false
set_option maxRecDepth 20000
namespace Go.Flat
open Go.Proofs
variable {G : Glob}
structure Kept where
  epoch : Int
  log : Int
  items : List Item
  claims : List Claim
def Zvn (ep : Int) (x : Item) : Prop := x.epoch = ep ∧ x.entry.kind = 3 ∧ x.entry.claim.epoch = ep
instance (ep : Int) (x : Item) : Decidable (Zvn ep x) := inferInstanceAs (Decidable (_ ∧ _))
def ldB (ep : Int) (x : Item) : Bool := decide (Zvn ep x)
def Zky (p : Item → Bool) (l : List Item) : Option Nat := (List.range l.length).find? fun i => p (l.getD i default)
def Zdl (p : Item → Bool) (l : List Item) : Int := match Zky p l with | some i => (i : Int) | none => -1
theorem Zu9 {p : Item → Bool} {l : List Item} {i : Nat} (h : ∀ j, j < i → p (l.getD j default) = false) (hi : i < l.length) (hp : p (l.getD i default) = true) : Zky p l = some i := by
 unfold Zky
 rw [List.find?_range_eq_some]
 exact ⟨hp, List.mem_range.2 hi, fun j hj => by simp only [h j hj]; rfl⟩
theorem Ztj {p : Item → Bool} {l : List Item} (h : ∀ j, j < l.length → p (l.getD j default) = false) : Zky p l = none := by
 unfold Zky
 rw [List.find?_range_eq_none]
 exact fun j hj => by simp only [h j hj]; rfl
theorem Zva {p : Item → Bool} {l : List Item} {i : Nat} (h : ∀ j, j < i → p (l.getD j default) = false) (hi : i < l.length) (hp : p (l.getD i default) = true) : Zdl p l = (i : Int) := by
 unfold Zdl; rw [Zu9 h hi hp]
theorem Ztk {p : Item → Bool} {l : List Item} (h : ∀ j, j < l.length → p (l.getD j default) = false) : Zdl p l = -1 := by
 unfold Zdl; rw [Ztj h]
theorem Zoj (p : Item → Bool) (l : List Item) : -1 ≤ Zdl p l ∧ Zdl p l < l.length ∧ (0 ≤ Zdl p l → Zky p l = some (Zdl p l).toNat ∧ p (l.getD (Zdl p l).toNat default) = true) ∧ (Zdl p l < 0 → Zky p l = none) := by
 unfold Zdl
 cases h : Zky p l with
 | none => exact ⟨by decide, by show (-1 : Int) < _; omega, fun q => absurd q (by decide), fun _ => rfl⟩
 | some i =>
  have h' := h
  unfold Zky at h'
  rw [List.find?_range_eq_some] at h'
  have := List.mem_range.1 h'.2.1
  exact ⟨by show (-1 : Int) ≤ (i : Int); omega, by show (i : Int) < _; omega, fun _ => ⟨rfl, h'.1⟩, fun q => absurd q (by show ¬ (i : Int) < 0; omega)⟩
def Zea (ep : Int) (l : List Item) : Int := if ep = 1 then 1 else match Zky (ldB ep) l with | some i => (l.getD i default).entry.claim.node | none => 0
theorem Zvp {ep : Int} {l : List Item} (h : ep = 1) : Zea ep l = 1 := if_pos h
theorem Zvo {ep : Int} {l : List Item} (h1 : ¬ ep = 1) (h : 0 ≤ Zdl (ldB ep) l) : Zea ep l = (l.getD (Zdl (ldB ep) l).toNat default).entry.claim.node := by
 unfold Zea; rw [if_neg h1, ((Zoj (ldB ep) l).2.2.1 h).1]
theorem Ztp {ep : Int} {l : List Item} (h1 : ¬ ep = 1) (h : Zdl (ldB ep) l < 0) : Zea ep l = 0 := by
 unfold Zea; rw [if_neg h1, (Zoj (ldB ep) l).2.2.2 h]
theorem Zti {l : List Item} : ∀ {ep : Int} {i : Nat}, Zhx ep l = true → i < l.length → Zb7 (l.getD i default) := by
 induction l with
 | nil => intro ep i _ h; simp at h
 | cons x l ih =>
  intro ep i h hi
  rw [Zhx, Bool.and_eq_true, Bool.and_eq_true] at h
  cases i with
  | zero => exact of_decide_eq_true h.1.1
  | succ i => exact ih h.2 (by simpa using hi)
theorem Zpp {ep : Int} {l : List Item} (hr : Zec l) (h : ¬ Zea ep l = 0) : 0 < Zea ep l := by
 unfold Zea at h ⊢
 split at h
 ·rename_i h1; rw [if_pos h1]; decide
 ·rename_i h1
  rw [if_neg h1]
  cases ho : Zky (ldB ep) l with
  | none => rw [ho] at h; exact absurd rfl h
  | some i =>
   unfold Zky at ho
   rw [List.find?_range_eq_some] at ho
   have hi := List.mem_range.1 ho.2.1
   have hk : (l.getD i default).entry.kind = 3 := (of_decide_eq_true ho.1 : Zvn ep _).2.1
   have hg := (Zti hr.2 hi).2.2
   have hc : Zck (l.getD i default).entry.claim := by
    rcases hg with q | q | q
    ·omega
    ·omega
    ·exact q.2.2.2.2.2
   show 0 < (l.getD i default).entry.claim.node
   have := hc.2.2.1.1
   omega
def Zbx (k : Kept) : Prop := (1 ≤ k.epoch ∧ k.epoch ≤ 900000000) ∧ (1 ≤ k.log ∧ k.log ≤ k.epoch) ∧ Zec k.items ∧ Zdi k.claims ∧ 0 < Zea k.log k.items ∧ (k.items.length = 0 ∨ (k.items.getD (k.items.length - 1) default).epoch ≤ k.log)
instance (k : Kept) : Decidable (Zbx k) := inferInstanceAs (Decidable (_ ∧ _))
def Zc7 (k : Kept) : Int := if Zbx k then 0 else 1
theorem Zb1 {k : Kept} (h : Zc7 k = 0) : Zbx k := by
 unfold Zc7 at h
 split at h
 ·assumption
 ·omega
theorem Za1 {k : Kept} (h : ¬ Zc7 k = 0) : ¬ Zbx k := fun q => h (if_pos q)
def Zvm (k : Kept) : Int := if Zbx k then Zea k.log k.items else 0
def Zdo (a b : Kept) : Bool := decide (a.epoch = b.epoch ∧ a.log = b.log) && (Zcc a.items b.items && Zcu a.claims b.claims)
theorem Zxs {a b : Kept} (h1 : a.epoch = b.epoch) (h2 : a.log = b.log) (h3 : Zcc a.items b.items = true) (h4 : Zcu a.claims b.claims = true) : Zdo a b = true := by
 unfold Zdo; rw [decide_eq_true ⟨h1, h2⟩, h3, h4]; rfl
theorem Zxr {a b : Kept} (h1 : a.epoch = b.epoch) (h2 : a.log = b.log) (h3 : Zcc a.items b.items = true) : Zdo a b = Zcu a.claims b.claims := by
 unfold Zdo; rw [decide_eq_true ⟨h1, h2⟩, h3]; rfl
theorem Zou {a b : Kept} (h : a.epoch = b.epoch → a.log = b.log → Zcc a.items b.items = true → Zcu a.claims b.claims = true → False) : Zdo a b = false := by
 cases hq : Zdo a b with
 | false => rfl
 | true =>
  unfold Zdo at hq
  rw [Bool.and_eq_true, Bool.and_eq_true] at hq
  have h1 := of_decide_eq_true hq.1
  exact (h h1.1 h1.2 hq.2.1 hq.2.2).elim
theorem Zq4 (ep : Int) (x : Item) : Zas Try.prog G 47 [Zan x, pt 0 0] [bxB 1 ([Iv ep])] (.bool (ldB ep x)) [bxB 1 ([Iv ep])] := by
 refine Zcv (fn := Try.f47) (nt := 22) rfl rfl rfl rfl ?_
 refine Zbq 1 (H' := [bxB 1 ([Iv ep]), hole]) rfl ?_
 refine Zj (Zl (Zbw (v := Zan x) (b := bxB 110 (Zt x)) (nid := 1) (H' := [bxB 1 ([Iv ep]), bxB 110 (Zt x)]) (Zc (.bool false) (Ze (Zf (Zj (Zl (Zd (b := 1) (o := 0) (n := 0) (o' := 0) (Zi (p := pt 1 0) (v := Iv x.epoch) (Zi (p := pt 0 0) (v := Iv ep) ?_))))))))))
 by_cases h1 : x.epoch = ep
 refine Zn (vx := Iv x.epoch) (vy := Iv ep) rfl rfl (.bool true) rfl rfl (Zav (by omega)) ?_
 refine Zb (.bool true) (Zd (b := 1) (o := 0) (n := 1) (o' := 1) (Zd (b := 1) (o := 1) (n := 0) (o' := 1) (Zi (p := pt 1 1) (v := Iv x.entry.kind) ?_)))
 by_cases h2 : x.entry.kind = 3
 refine Zn (vx := Iv x.entry.kind) (vy := Iv 3) rfl rfl (.bool true) rfl rfl (Zav (by omega)) ?_
 refine Zg (.bool true) (Zb (.bool true) (Zd (b := 1) (o := 0) (n := 1) (o' := 1) (Zd (b := 1) (o := 1) (n := 73) (o' := 74) (Zd (b := 1) (o := 74) (n := 1) (o' := 75) (Zi (p := pt 1 75) (v := Iv x.entry.claim.epoch) (Zi (p := pt 0 0) (v := Iv ep) ?_))))))
 by_cases h3 : x.entry.claim.epoch = ep
 refine Zn (vx := Iv x.entry.claim.epoch) (vy := Iv ep) rfl rfl (.bool true) rfl rfl (Zav (by omega)) ?_
 refine Zg (.bool true) (Zc (.bool true) (Ze (Zf (Zq (Zp ?_)))))
 rw [show ldB ep x = true from decide_eq_true ⟨by omega, by omega, by omega⟩]
 exact Zm (v := .bool true) rfl rfl rfl (by kernel_rfl) rfl
 refine Zn (vx := Iv x.entry.claim.epoch) (vy := Iv ep) rfl rfl (.bool false) rfl rfl (Zbb (by omega)) ?_
 refine Zg (.bool false) (Zc (.bool false) (Ze (Zf (Zq (Zp ?_)))))
 rw [show ldB ep x = false from decide_eq_false (fun q => by have := q.1; have := q.2.1; have := q.2.2; omega)]
 exact Zm (v := .bool false) rfl rfl rfl (by kernel_rfl) rfl
 refine Zn (vx := Iv x.entry.kind) (vy := Iv 3) rfl rfl (.bool false) rfl rfl (Zbb (by omega)) ?_
 refine Zg (.bool false) (Zb (.bool false) (Za (Za (Za (Za (Za (Za (Zg (.bool false) (Zc (.bool false) (Ze (Zf (Zq (Zp ?_)))))))))))))
 rw [show ldB ep x = false from decide_eq_false (fun q => by have := q.1; have := q.2.1; have := q.2.2; omega)]
 exact Zm (v := .bool false) rfl rfl rfl (by kernel_rfl) rfl
 refine Zn (vx := Iv x.epoch) (vy := Iv ep) rfl rfl (.bool false) rfl rfl (Zbb (by omega)) ?_
 refine Zb (.bool false) (Za (Za (Za (Za (Zg (.bool false) (Zb (.bool false) (Za (Za (Za (Za (Za (Za (Zg (.bool false) (Zc (.bool false) (Ze (Zf (Zq (Zp ?_))))))))))))))))))
 rw [show ldB ep x = false from decide_eq_false (fun q => by have := q.1; have := q.2.1; have := q.2.2; omega)]
 exact Zm (v := .bool false) rfl rfl rfl (by kernel_rfl) rfl
theorem Znz (l : List Item) (n c : Nat) (hn : l.length = n) (hc : n ≤ c) (hb : n ≤ 1048576) (ep : Int) : Zas Try.prog G 46 [slv 0 0 n c, .func (.func 47) #[] #[pt 1 0]] [rwR Zk l, bxB 1 ([Iv ep])] (Iv (Zdl (ldB ep) l)) [rwR Zk l, bxB 1 ([Iv ep])] := by
  refine Zcv (fn := Try.f46) (nt := 19) rfl rfl rfl rfl ?_
  refine Zj (Zl (Zc (Iv 0) (Ze (Zf (Zj (Zj (Zl (Zb (slv 0 0 n c) (Zba (p := slv 0 0 n c) (v := Iv (n : Nat)) (Zb (Iv 0) (Ze (Zf (Zbm ?_)))))))))))))
  refine Zf9 (fun i : Nat => [slv 0 0 n c, .func (.func 47) #[] #[pt 1 0], dead, dead, dead, dead, slv 0 0 n c, Iv (n : Nat), Iv (i : Nat)]) (fun i : Nat => [rwR Zk l, bxB 1 ([Iv ep])]) (fun i : Nat => (∀ j, j < i → ldB ep (l.getD j default) = false) ∧ i ≤ n) (fun i : Nat => n - i) 0 ⟨fun _ h => absurd h (by omega), by omega⟩ ?_ ?_
  · refine Zbz (n := 2) rfl ?_ (by kernel_rfl) (by kernel_rfl)
    repeat (first | exact trivial | refine ⟨.inl rfl, ?_⟩ | refine ⟨.inr ⟨rfl, rfl⟩, ?_⟩ | refine ⟨.inr ⟨congrArg (Value.int .i64) (by first | omega | (dsimp only; omega)), rfl⟩, ?_⟩)
  rintro i ⟨hR, hi⟩
  refine Zj (Zl ?_)
  by_cases h1 : (i : Nat) < (n : Nat)
  refine Zn (vx := Iv (i : Nat)) (vy := Iv (n : Nat)) rfl rfl (.bool true) rfl rfl (Zfg (by omega)) ?_
  refine Ze (Zf (Zj (Z8 rfl (Z7 (Zf (Zj (Zbm (Zj (Zl (Zb (Iv (i : Nat)) (Zc (Iv (i : Nat)) (Ze (Zf (Zj (Zl (Zb (.func (.func 47) #[] #[pt 1 0]) (Zb (slv 0 0 n c) (Zb (Iv (i : Nat)) ?_))))))))))))))))))
  refine Zd0 (b := 0) (o := 0) (j := i * 110) (m := n) (c := c) (sz := 110) (i := (i : Nat)) (k := .i64) rfl rfl rfl rfl rfl (by omega) (by omega) (by omega) ?_
  refine Zcp (p := pt 0 (i * 110)) (v := Zan (l.getD i default)) rfl rfl rfl (Zei (n := 0) (m := 110) Zk rfl rfl rfl rfl (by have := hn; omega) (by omega)) ?_
  refine Z2 (e := [some (1, 0)]) (nid := 0) (Zq4 (G := G) ep (l.getD i default)) (vals := [Zan (l.getD i default), pt 1 0]) (v := .bool (ldB ep (l.getD i default))) (H' := [rwR Zk l, bxB 1 ([Iv ep])]) rfl rfl rfl rfl rfl rfl rfl ⟨⟨rfl, ⟨rfl, rfl⟩, trivial⟩, ⟨(Zht rfl rfl rfl rfl), trivial⟩, rfl, rfl, rfl⟩ rfl (by kernel_rfl) ?_
  refine Ze (Zf ?_)
  rcases Bool.eq_false_or_eq_true (ldB ep (l.getD i default)) with h2 | h2
  refine Z8 (congrArg Value.bool h2) (Zj (Zl (Zb (Iv (i : Nat)) (Zc (Iv (i : Nat)) (Ze (Zf (Zq (Zag (Z4 (Zca (Zag (Z4 (Zp ?_)))))))))))))
  rw [show Zdl (ldB ep) l = (i : Int) from Zva hR (by omega) (by assumption)]
  exact Zm (v := Iv (i : Nat)) rfl rfl rfl (by kernel_rfl) rfl
  refine Zw (congrArg Value.bool h2) (Z7 (Z1 (Zf (Zl ?_))))
  refine Zn (vx := Iv (i : Nat)) (vy := Iv 1) rfl rfl (Iv ((i : Nat) + 1)) rfl rfl (Zci (by omega) (by omega) (by omega)) ?_
  refine Zb (Iv ((i : Nat) + 1)) (Ze ?_)
  refine Zab ⟨(i + 1), ⟨fun j hj => by rcases Nat.lt_or_ge j i with h | h; exact hR j h; obtain rfl : j = i := (by omega); assumption, by omega⟩, by show n - (i + 1) < n - i; omega, ?_⟩
  refine Zbz (n := 2) rfl ?_ (by kernel_rfl) (by kernel_rfl)
  repeat (first | exact trivial | refine ⟨.inl rfl, ?_⟩ | refine ⟨.inr ⟨rfl, rfl⟩, ?_⟩ | refine ⟨.inr ⟨congrArg (Value.int .i64) (by first | omega | (dsimp only; omega)), rfl⟩, ?_⟩)
  refine Zn (vx := Iv (i : Nat)) (vy := Iv (n : Nat)) rfl rfl (.bool false) rfl rfl (Zff (by omega)) ?_
  refine Ze (Zf (Zj (Zw rfl (Zhq (Zgh (Zeh (Zfw rfl (Zf (Zj (Zl (Zc (Iv (-1)) (Ze (Zf (Zq (Zp ?_)))))))))))))))
  rw [show Zdl (ldB ep) l = -1 from Ztk (fun j hj => hR j (by omega))]
  exact Zm (v := Iv (-1)) rfl rfl rfl (by kernel_rfl) rfl
theorem Zng (ep : Int) (l : List Item) (n c : Nat) (hn : l.length = n) (hc : n ≤ c) (hb : n ≤ 1048576) : Zas Try.prog G 29 [Iv ep, slv 0 0 n c] [rwR Zk l] (Iv (Zea ep l)) [rwR Zk l] := by
  refine Zcv (fn := Try.f29) (nt := 20) rfl rfl rfl rfl ?_
  refine Zbq 1 (H' := [rwR Zk l, hole]) rfl ?_
  refine Zj (Zl (Zbw (v := Iv ep) (b := bxB 1 ([Iv ep])) (nid := 1) (H' := [rwR Zk l, bxB 1 ([Iv ep])]) (Zc (Iv 0) (Ze (Zf (Zj (Zj (Zl (Zi (p := pt 1 0) (v := Iv ep) ?_)))))))))
  by_cases h1 : ep = 1
  refine Zn (vx := Iv ep) (vy := Iv 1) rfl rfl (.bool true) rfl rfl (Zav (by omega)) ?_
  refine Ze (Zf (Z8 rfl (Zj (Zl (Zc (Iv 1) (Ze (Zf (Zq (Z4 (Zp ?_))))))))))
  rw [show Zea ep l = 1 from Zvp (by omega)]
  exact Zm (v := Iv 1) rfl rfl rfl (by kernel_rfl) rfl
  refine Zn (vx := Iv ep) (vy := Iv 1) rfl rfl (.bool false) rfl rfl (Zbb (by omega)) ?_
  refine Ze (Zf (Zw rfl (Z7 (Zf (Zj (Zl (Zb (slv 0 0 n c) ?_)))))))
  refine Znn (vs := []) (ws := [pt 1 0]) rfl rfl rfl rfl rfl ?_
  have hix2 := Zoj (ldB ep) l
  refine Z2 (e := [some (0, 0), some (1, 0)]) (nid := 0) (Znz (G := G) l n c hn (by omega) (by omega) ep) (vals := [slv 0 0 n c, .func (.func 47) #[] #[pt 1 0]]) (v := Iv (Zdl (ldB ep) l)) (H' := [rwR Zk l, bxB 1 ([Iv ep])]) rfl rfl rfl rfl rfl rfl rfl ⟨⟨⟨rfl, rfl, rfl, by first | omega | exact Nat.le_refl _, by first | omega | exact Nat.le_refl _⟩, ⟨by kernel_rfl, by kernel_rfl⟩, trivial⟩, ⟨(Zae rfl), (Zht rfl rfl rfl rfl), trivial⟩, rfl, rfl, rfl⟩ rfl (by kernel_rfl) ?_
  refine Zc (Iv (Zdl (ldB ep) l)) (Ze (Zf (Zj (Zj (Zl (Zb (Iv (Zdl (ldB ep) l)) ?_))))))
  by_cases h2 : (Zdl (ldB ep) l) < 0
  refine Zn (vx := Iv (Zdl (ldB ep) l)) (vy := Iv 0) rfl rfl (.bool true) rfl rfl (Zfg (by omega)) ?_
  refine Ze (Zf (Z8 rfl (Zj (Zl (Zc (Iv 0) (Ze (Zf (Zq (Z4 (Zp ?_))))))))))
  rw [show Zea ep l = 0 from Ztp (by omega) (by omega)]
  exact Zm (v := Iv 0) rfl rfl rfl (by kernel_rfl) rfl
  refine Zn (vx := Iv (Zdl (ldB ep) l)) (vy := Iv 0) rfl rfl (.bool false) rfl rfl (Zff (by omega)) ?_
  refine Ze (Zf (Zw rfl (Z7 (Zf (Zj (Zl (Zb (slv 0 0 n c) (Zb (Iv (Zdl (ldB ep) l)) ?_))))))))
  refine Zd0 (b := 0) (o := 0) (j := ((Zdl (ldB ep) l).toNat) * 110) (m := n) (c := c) (sz := 110) (i := (Zdl (ldB ep) l)) (k := .i64) rfl rfl rfl rfl rfl (by omega) (by omega) (by omega) ?_
  refine Zbu (b := 0) (o := ((Zdl (ldB ep) l).toNat) * 110) (n := 1) (o' := ((Zdl (ldB ep) l).toNat) * 110 + 1) rfl rfl rfl rfl (by omega) ?_
  refine Zbu (b := 0) (o := ((Zdl (ldB ep) l).toNat) * 110 + 1) (n := 73) (o' := ((Zdl (ldB ep) l).toNat) * 110 + 74) rfl rfl rfl rfl (by omega) ?_
  refine Zbu (b := 0) (o := ((Zdl (ldB ep) l).toNat) * 110 + 74) (n := 2) (o' := ((Zdl (ldB ep) l).toNat) * 110 + 76) rfl rfl rfl rfl (by omega) ?_
  refine Zcp (p := pt 0 (((Zdl (ldB ep) l).toNat) * 110 + 76)) (v := Iv ((((l.getD ((Zdl (ldB ep) l).toNat) default).entry).claim).node)) rfl rfl rfl (Zii Zk (l := l) (i := ((Zdl (ldB ep) l).toNat)) (k := 76) (m := 110) rfl rfl rfl rfl (by have := hn; omega) (by omega) (by kernel_rfl) rfl) ?_
  refine Zc (Iv ((((l.getD ((Zdl (ldB ep) l).toNat) default).entry).claim).node)) (Ze (Zf (Zq (Zp ?_))))
  rw [show Zea ep l = ((((l.getD ((Zdl (ldB ep) l).toNat) default).entry).claim).node) from Zvo (by omega) (by omega)]
  exact Zm (v := Iv ((((l.getD ((Zdl (ldB ep) l).toNat) default).entry).claim).node)) rfl rfl rfl (by kernel_rfl) rfl
theorem Zat (n low high : Int) : Zas Try.prog G 26 [Iv n, Iv low, Iv high] [] (.bool (Zb9 n low high)) [] := by
 refine Zcv (fn := Try.f26) (nt := 15) rfl rfl rfl rfl ?_
 refine Zj (Zl (Zc (.bool false) (Ze (Zf (Zj (Zl (Zb (Iv n) (Zb (Iv low) ?_))))))))
 by_cases h1 : low ≤ n
 refine Zn (vx := Iv n) (vy := Iv low) rfl rfl (.bool true) rfl rfl (Zhw (by omega)) ?_
 refine Zb (.bool true) (Zb (Iv n) (Zb (Iv high) ?_))
 by_cases h2 : n ≤ high
 refine Zn (vx := Iv n) (vy := Iv high) rfl rfl (.bool true) rfl rfl (Zni (by omega)) ?_
 refine Zg (.bool true) (Zc (.bool true) (Ze (Zf (Zq (Zp ?_)))))
 rw [show Zb9 n low high = true from Za5 (by omega) (by omega)]
 exact Zm (v := .bool true) rfl rfl rfl (by kernel_rfl) rfl
 refine Zn (vx := Iv n) (vy := Iv high) rfl rfl (.bool false) rfl rfl (Znh (by omega)) ?_
 refine Zg (.bool false) (Zc (.bool false) (Ze (Zf (Zq (Zp ?_)))))
 rw [show Zb9 n low high = false from Z6 (by omega)]
 exact Zm (v := .bool false) rfl rfl rfl (by kernel_rfl) rfl
 refine Zn (vx := Iv n) (vy := Iv low) rfl rfl (.bool false) rfl rfl (Zjl (by omega)) ?_
 refine Zb (.bool false) (Za (Za (Za (Zg (.bool false) (Zc (.bool false) (Ze (Zf (Zq (Zp ?_)))))))))
 rw [show Zb9 n low high = false from Z6 (by omega)]
 exact Zm (v := .bool false) rfl rfl rfl (by kernel_rfl) rfl
abbrev Y2 (k : Kept) (n : Nat) (c : Nat) (m : Nat) (d : Nat) : Blk := mxB 4 ([Iv k.epoch, Iv k.log, slv 0 0 n c, slv 1 0 m d])
theorem Zd3 (k : Kept) (n c m d : Nat) (hn : k.items.length = n) (hm : k.claims.length = m) (hc : n ≤ c) (hd : m ≤ d) (hb : n ≤ 1048576) (hb2 : m ≤ 1048576) : Zas Try.prog G 10 [mxV ([Iv k.epoch, Iv k.log, slv 0 0 n c, slv 1 0 m d])] [rwR Zk k.items, rwR Zh k.claims] (Iv (Zc7 k)) [rwR Zk k.items, rwR Zh k.claims] := by
  refine Zcv (fn := Try.f10) (nt := 51) rfl rfl rfl rfl ?_
  refine Zbq 1 (H' := [rwR Zk k.items, rwR Zh k.claims, hole]) rfl ?_
  refine Zj (Zl (Zbw (v := mxV ([Iv k.epoch, Iv k.log, slv 0 0 n c, slv 1 0 m d])) (b := mxB 4 ([Iv k.epoch, Iv k.log, slv 0 0 n c, slv 1 0 m d])) (nid := 2) (H' := [rwR Zk k.items, rwR Zh k.claims, Y2 k n c m d]) (Zc (Iv 0) (Ze (Zf ?_)))))
  refine Zwq (l := 0) rfl ?_
  refine Zj (Zl (Zd (b := 2) (o := 0) (n := 2) (o' := 2) (Zi (p := pt 2 2) (v := slv 0 0 n c) (Zba (p := slv 0 0 n c) (v := Iv (n : Nat)) (Zc (Iv (n : Nat)) (Ze (Zf (Zj (Zj (Zl (Zd (b := 2) (o := 0) (n := 0) (o' := 0) (Zi (p := pt 2 0) (v := Iv k.epoch) ?_))))))))))))
  by_cases h1 : 1 ≤ k.epoch
  by_cases h2 : k.epoch ≤ 900000000
  refine Zs ((Zat (G := G) k.epoch 1 900000000).res (congrArg Value.bool (Za5 (by omega) (by omega)))) (vals := [Iv k.epoch, Iv 1, Iv 900000000]) (res' := .bool true) rfl rfl rfl rfl rfl rfl ?_
  refine Zd1 (vx := .bool true) rfl rfl (.bool false) rfl Zbl ?_
  refine Zb (.bool false) (Zd (b := 2) (o := 0) (n := 1) (o' := 1) (Zi (p := pt 2 1) (v := Iv k.log) (Zd (b := 2) (o := 0) (n := 0) (o' := 0) (Zi (p := pt 2 0) (v := Iv k.epoch) ?_))))
  by_cases h3 : 1 ≤ k.log
  by_cases h4 : k.log ≤ k.epoch
  refine Zs ((Zat (G := G) k.log 1 k.epoch).res (congrArg Value.bool (Za5 (by omega) (by omega)))) (vals := [Iv k.log, Iv 1, Iv k.epoch]) (res' := .bool true) rfl rfl rfl rfl rfl rfl ?_
  refine Zd1 (vx := .bool true) rfl rfl (.bool false) rfl Zbl ?_
  refine Zg (.bool false) (Ze (Zf (Zw rfl (Z7 (Zf (Zj (Zj (Zl (Zd (b := 2) (o := 0) (n := 2) (o' := 2) (Zi (p := pt 2 2) (v := slv 0 0 n c) ?_))))))))))
  refine Z2 (e := [some (0, 0)]) (nid := 0) (Zif (G := G) k.items n c hn (by omega) (by omega)) (vals := [slv 0 0 n c]) (v := Iv (Zfo k.items)) (H' := [rwR Zk k.items, rwR Zh k.claims, Y2 k n c m d]) rfl rfl rfl rfl rfl rfl rfl ⟨⟨⟨rfl, rfl, rfl, by first | omega | exact Nat.le_refl _, by first | omega | exact Nat.le_refl _⟩, trivial⟩, ⟨(Zae rfl), trivial⟩, rfl, rfl, rfl⟩ rfl (by kernel_rfl) ?_
  by_cases h5 : (Zfo k.items) ≠ 0
  refine Zn (vx := Iv (Zfo k.items)) (vy := Iv 0) rfl rfl (.bool true) rfl rfl (Zc3 (by omega)) ?_
  refine Zb (.bool true) (Za (Za (Za (Za (Zg (.bool true) (Zb (.bool true) (Za (Za (Za (Za (Za (Za (Zg (.bool true) (Ze (Zf (Z8 rfl (Zix (Zhh (Zf5 (Zj (Z7 (Zf (Zj (Zl (Zc (Iv 1) (Ze (Zf (Zq (Zmg (Zp ?_))))))))))))))))))))))))))))))
  rw [show Zc7 k = 1 from if_neg (fun q => by obtain ⟨q1, q2, q3, q4, q5, q6⟩ := q; rw [hn] at q6; first | omega | exact Zai (by omega) q3 | exact Zd4 (by omega) q4)]
  exact Zm (v := Iv 1) rfl rfl rfl (by kernel_rfl) rfl
  refine Zn (vx := Iv (Zfo k.items)) (vy := Iv 0) rfl rfl (.bool false) rfl rfl (Zbk (by omega)) ?_
  refine Zb (.bool false) (Zd (b := 2) (o := 0) (n := 3) (o' := 3) (Zi (p := pt 2 3) (v := slv 1 0 m d) ?_))
  refine Z2 (e := [some (1, 0)]) (nid := 0) (Zj4 (G := G) k.claims m d hm (by omega) (by omega)) (vals := [slv 1 0 m d]) (v := Iv (Zc6 k.claims)) (H' := [rwR Zk k.items, rwR Zh k.claims, Y2 k n c m d]) rfl rfl rfl rfl rfl rfl rfl ⟨⟨⟨rfl, rfl, rfl, by first | omega | exact Nat.le_refl _, by first | omega | exact Nat.le_refl _⟩, trivial⟩, ⟨(Zae rfl), trivial⟩, rfl, rfl, rfl⟩ rfl (by kernel_rfl) ?_
  by_cases h6 : (Zc6 k.claims) ≠ 0
  refine Zn (vx := Iv (Zc6 k.claims)) (vy := Iv 0) rfl rfl (.bool true) rfl rfl (Zc3 (by omega)) ?_
  refine Zg (.bool true) (Zb (.bool true) (Za (Za (Za (Za (Za (Za (Zg (.bool true) (Ze (Zf (Z8 rfl (Zix (Zhh (Zf5 (Zj (Z7 (Zf (Zj (Zl (Zc (Iv 1) (Ze (Zf (Zq (Zmg (Zp ?_)))))))))))))))))))))))))
  rw [show Zc7 k = 1 from if_neg (fun q => by obtain ⟨q1, q2, q3, q4, q5, q6⟩ := q; rw [hn] at q6; first | omega | exact Zai (by omega) q3 | exact Zd4 (by omega) q4)]
  exact Zm (v := Iv 1) rfl rfl rfl (by kernel_rfl) rfl
  refine Zn (vx := Iv (Zc6 k.claims)) (vy := Iv 0) rfl rfl (.bool false) rfl rfl (Zbk (by omega)) ?_
  refine Zg (.bool false) (Zb (.bool false) (Zd (b := 2) (o := 0) (n := 1) (o' := 1) (Zi (p := pt 2 1) (v := Iv k.log) (Zd (b := 2) (o := 0) (n := 2) (o' := 2) (Zi (p := pt 2 2) (v := slv 0 0 n c) ?_)))))
  refine Z2 (e := [some (0, 0)]) (nid := 0) (Zng (G := G) k.log k.items n c hn (by omega) (by omega)) (vals := [Iv k.log, slv 0 0 n c]) (v := Iv (Zea k.log k.items)) (H' := [rwR Zk k.items, rwR Zh k.claims, Y2 k n c m d]) rfl rfl rfl rfl rfl rfl rfl ⟨⟨rfl, ⟨rfl, rfl, rfl, by first | omega | exact Nat.le_refl _, by first | omega | exact Nat.le_refl _⟩, trivial⟩, ⟨(Zae rfl), trivial⟩, rfl, rfl, rfl⟩ rfl (by kernel_rfl) ?_
  by_cases h7 : (Zea k.log k.items) = 0
  refine Zn (vx := Iv (Zea k.log k.items)) (vy := Iv 0) rfl rfl (.bool true) rfl rfl (Zav (by omega)) ?_
  refine Zg (.bool true) (Ze (Zf (Z8 rfl (Zix (Zhh (Zf5 (Zj (Z7 (Zf (Zj (Zl (Zc (Iv 1) (Ze (Zf (Zq (Zmg (Zp ?_)))))))))))))))))
  rw [show Zc7 k = 1 from if_neg (fun q => by obtain ⟨q1, q2, q3, q4, q5, q6⟩ := q; rw [hn] at q6; first | omega | exact Zai (by omega) q3 | exact Zd4 (by omega) q4)]
  exact Zm (v := Iv 1) rfl rfl rfl (by kernel_rfl) rfl
  refine Zn (vx := Iv (Zea k.log k.items)) (vy := Iv 0) rfl rfl (.bool false) rfl rfl (Zbb (by omega)) ?_
  refine Zg (.bool false) (Ze (Zf (Zw rfl (Z7 (Zf (Zj (Zj ?_)))))))
  refine Zdx (by kernel_rfl) ?_
  refine Zb (Iv (n : Nat)) ?_
  by_cases h8 : (n : Nat) = 0
  refine Zn (vx := Iv (n : Nat)) (vy := Iv 0) rfl rfl (.bool true) rfl rfl (Zav (by omega)) ?_
  refine Zb (.bool true) (Za (Za (Za (Za (Za (Za (Za (Za (Za (Za (Zg (.bool true) ?_)))))))))))
  refine Zbh (Zar [[], [0], [0, 1], [0, 1, 2], [0, 1, 2, 3], [0, 1, 2], [0, 1, 2, 5], [0, 1, 2, 3, 4, 5, 6], [0, 1, 2, 3, 4, 5, 6, 7], [0, 1, 2, 3, 4, 5, 6, 7, 8], [0, 1, 2], [0, 1, 2, 10], [0, 1, 2, 3, 4, 5, 6, 7, 8, 9, 10, 11], [0, 1, 2, 3, 4, 5, 6, 7, 8, 9, 10, 11, 12]] (by kernel_rfl) (by kernel_rfl)) ?_
  refine Zf (Z8 rfl (Zj (Zl (Zc (Iv 0) (Ze (Zf (Zq (Z4 (Zmh (Zp ?_))))))))))
  rw [show Zc7 k = 0 from if_pos ⟨by omega, by omega, Zbv (by omega), Zgu (by omega), Zpp (Zbv (by omega)) (by omega), by rw [hn]; omega⟩]
  exact Zm (v := Iv 0) rfl rfl rfl (by kernel_rfl) rfl
  refine Zn (vx := Iv (n : Nat)) (vy := Iv 0) rfl rfl (.bool false) rfl rfl (Zbb (by omega)) ?_
  refine Zb (.bool false) (Zd (b := 2) (o := 0) (n := 2) (o' := 2) (Zi (p := pt 2 2) (v := slv 0 0 n c) (Zb (Iv (n : Nat)) ?_)))
  refine Zn (vx := Iv (n : Nat)) (vy := Iv 1) rfl rfl (Iv ((n : Nat) - 1)) rfl rfl (Zk4 (by omega) (by omega) (by omega)) ?_
  refine Zd0 (b := 0) (o := 0) (j := (n - 1) * 110) (m := n) (c := c) (sz := 110) (i := (n : Nat) - 1) (k := .i64) rfl rfl rfl rfl rfl (by omega) (by omega) (by omega) ?_
  refine Zbu (b := 0) (o := (n - 1) * 110) (n := 0) (o' := (n - 1) * 110) rfl rfl rfl rfl (by omega) ?_
  refine Zcp (p := pt 0 ((n - 1) * 110)) (v := Iv ((k.items.getD (n - 1) default).epoch)) rfl rfl rfl (Zii Zk (l := k.items) (i := n - 1) (k := 0) (m := 110) rfl rfl rfl rfl (by have := hn; omega) (by omega) (by kernel_rfl) rfl) ?_
  refine Zd (b := 2) (o := 0) (n := 1) (o' := 1) (Zi (p := pt 2 1) (v := Iv k.log) ?_)
  by_cases h9 : ((k.items.getD (n - 1) default).epoch) ≤ k.log
  refine Zn (vx := Iv ((k.items.getD (n - 1) default).epoch)) (vy := Iv k.log) rfl rfl (.bool true) rfl rfl (Zni (by omega)) ?_
  refine Zg (.bool true) ?_
  refine Zbh (Zar [[], [0], [0, 1], [0, 1, 2], [0, 1, 2, 3], [0, 1, 2], [0, 1, 2, 5], [0, 1, 2, 3, 4, 5, 6], [0, 1, 2, 3, 4, 5, 6, 7], [0, 1, 2, 3, 4, 5, 6, 7, 8], [0, 1, 2], [0, 1, 2, 10], [0, 1, 2, 3, 4, 5, 6, 7, 8, 9, 10, 11], [0, 1, 2, 3, 4, 5, 6, 7, 8, 9, 10, 11, 12]] (by kernel_rfl) (by kernel_rfl)) ?_
  refine Zf (Z8 rfl (Zj (Zl (Zc (Iv 0) (Ze (Zf (Zq (Z4 (Zmh (Zp ?_))))))))))
  rw [show Zc7 k = 0 from if_pos ⟨by omega, by omega, Zbv (by omega), Zgu (by omega), Zpp (Zbv (by omega)) (by omega), by rw [hn]; omega⟩]
  exact Zm (v := Iv 0) rfl rfl rfl (by kernel_rfl) rfl
  refine Zn (vx := Iv ((k.items.getD (n - 1) default).epoch)) (vy := Iv k.log) rfl rfl (.bool false) rfl rfl (Znh (by omega)) ?_
  refine Zg (.bool false) ?_
  refine Zbh (Zar [[], [0], [0, 1], [0, 1, 2], [0, 1, 2, 3], [0, 1, 2], [0, 1, 2, 5], [0, 1, 2, 3, 4, 5, 6], [0, 1, 2, 3, 4, 5, 6, 7], [0, 1, 2, 3, 4, 5, 6, 7, 8], [0, 1, 2], [0, 1, 2, 10], [0, 1, 2, 3, 4, 5, 6, 7, 8, 9, 10, 11], [0, 1, 2, 3, 4, 5, 6, 7, 8, 9, 10, 11, 12]] (by kernel_rfl) (by kernel_rfl)) ?_
  refine Zf (Zw rfl (Z7 (Zf (Zj (Zwp (Zf (Zj (Zl (Zc (Iv 1) (Ze (Zf (Zq (Zmh (Zp ?_))))))))))))))
  rw [show Zc7 k = 1 from if_neg (fun q => by obtain ⟨q1, q2, q3, q4, q5, q6⟩ := q; rw [hn] at q6; first | omega | exact Zai (by omega) q3 | exact Zd4 (by omega) q4)]
  exact Zm (v := Iv 1) rfl rfl rfl (by kernel_rfl) rfl
  refine Zs ((Zat (G := G) k.log 1 k.epoch).res (congrArg Value.bool (Z6 (by omega)))) (vals := [Iv k.log, Iv 1, Iv k.epoch]) (res' := .bool false) rfl rfl rfl rfl rfl rfl ?_
  refine Zd1 (vx := .bool false) rfl rfl (.bool true) rfl Zbl ?_
  refine Zg (.bool true) (Ze (Zf (Z8 rfl (Zix (Zhh (Zf5 (Zj (Z7 (Zf (Zj (Zl (Zc (Iv 1) (Ze (Zf (Zq (Zmg (Zp ?_)))))))))))))))))
  rw [show Zc7 k = 1 from if_neg (fun q => by obtain ⟨q1, q2, q3, q4, q5, q6⟩ := q; rw [hn] at q6; first | omega | exact Zai (by omega) q3 | exact Zd4 (by omega) q4)]
  exact Zm (v := Iv 1) rfl rfl rfl (by kernel_rfl) rfl
  refine Zs ((Zat (G := G) k.log 1 k.epoch).res (congrArg Value.bool (Z6 (by omega)))) (vals := [Iv k.log, Iv 1, Iv k.epoch]) (res' := .bool false) rfl rfl rfl rfl rfl rfl ?_
  refine Zd1 (vx := .bool false) rfl rfl (.bool true) rfl Zbl ?_
  refine Zg (.bool true) (Ze (Zf (Z8 rfl (Zix (Zhh (Zf5 (Zj (Z7 (Zf (Zj (Zl (Zc (Iv 1) (Ze (Zf (Zq (Zmg (Zp ?_)))))))))))))))))
  rw [show Zc7 k = 1 from if_neg (fun q => by obtain ⟨q1, q2, q3, q4, q5, q6⟩ := q; rw [hn] at q6; first | omega | exact Zai (by omega) q3 | exact Zd4 (by omega) q4)]
  exact Zm (v := Iv 1) rfl rfl rfl (by kernel_rfl) rfl
  refine Zs ((Zat (G := G) k.epoch 1 900000000).res (congrArg Value.bool (Z6 (by omega)))) (vals := [Iv k.epoch, Iv 1, Iv 900000000]) (res' := .bool false) rfl rfl rfl rfl rfl rfl ?_
  refine Zd1 (vx := .bool false) rfl rfl (.bool true) rfl Zbl ?_
  refine Zb (.bool true) (Za (Za (Za (Za (Za (Za (Zg (.bool true) (Ze (Zf (Z8 rfl (Zix (Zhh (Zf5 (Zj (Z7 (Zf (Zj (Zl (Zc (Iv 1) (Ze (Zf (Zq (Zmg (Zp ?_))))))))))))))))))))))))
  rw [show Zc7 k = 1 from if_neg (fun q => by obtain ⟨q1, q2, q3, q4, q5, q6⟩ := q; rw [hn] at q6; first | omega | exact Zai (by omega) q3 | exact Zd4 (by omega) q4)]
  exact Zm (v := Iv 1) rfl rfl rfl (by kernel_rfl) rfl
  refine Zs ((Zat (G := G) k.epoch 1 900000000).res (congrArg Value.bool (Z6 (by omega)))) (vals := [Iv k.epoch, Iv 1, Iv 900000000]) (res' := .bool false) rfl rfl rfl rfl rfl rfl ?_
  refine Zd1 (vx := .bool false) rfl rfl (.bool true) rfl Zbl ?_
  refine Zb (.bool true) (Za (Za (Za (Za (Za (Za (Zg (.bool true) (Ze (Zf (Z8 rfl (Zix (Zhh (Zf5 (Zj (Z7 (Zf (Zj (Zl (Zc (Iv 1) (Ze (Zf (Zq (Zmg (Zp ?_))))))))))))))))))))))))
  rw [show Zc7 k = 1 from if_neg (fun q => by obtain ⟨q1, q2, q3, q4, q5, q6⟩ := q; rw [hn] at q6; first | omega | exact Zai (by omega) q3 | exact Zd4 (by omega) q4)]
  exact Zm (v := Iv 1) rfl rfl rfl (by kernel_rfl) rfl
theorem Zmx (k : Kept) (n c m d : Nat) (hn : k.items.length = n) (hm : k.claims.length = m) (hc : n ≤ c) (hd : m ≤ d) (hb : n ≤ 1048576) (hb2 : m ≤ 1048576) : Zas Try.prog G 13 [mxV ([Iv k.epoch, Iv k.log, slv 0 0 n c, slv 1 0 m d])] [rwR Zk k.items, rwR Zh k.claims] (Iv (Zvm k)) [rwR Zk k.items, rwR Zh k.claims] := by
  refine Zcv (fn := Try.f13) (nt := 11) rfl rfl rfl rfl ?_
  refine Zbq 1 (H' := [rwR Zk k.items, rwR Zh k.claims, hole]) rfl ?_
  refine Zj (Zl (Zbw (v := mxV ([Iv k.epoch, Iv k.log, slv 0 0 n c, slv 1 0 m d])) (b := mxB 4 ([Iv k.epoch, Iv k.log, slv 0 0 n c, slv 1 0 m d])) (nid := 2) (H' := [rwR Zk k.items, rwR Zh k.claims, mxB 4 ([Iv k.epoch, Iv k.log, slv 0 0 n c, slv 1 0 m d])]) (Zc (Iv 0) (Ze (Zf (Zj (Zj (Zl (Zi (p := pt 2 0) (v := mxV ([Iv k.epoch, Iv k.log, slv 0 0 n c, slv 1 0 m d])) ?_)))))))))
  refine Z2 (e := [some (0, 0), some (1, 0)]) (nid := 0) (Zd3 (G := G) k n c m d hn hm (by omega) (by omega) (by omega) (by omega)) (vals := [mxV ([Iv k.epoch, Iv k.log, slv 0 0 n c, slv 1 0 m d])]) (v := Iv (Zc7 k)) (H' := [rwR Zk k.items, rwR Zh k.claims, mxB 4 ([Iv k.epoch, Iv k.log, slv 0 0 n c, slv 1 0 m d])]) rfl rfl rfl rfl rfl rfl rfl ⟨⟨(Z9 (by kernel_rfl) ⟨⟨rfl, rfl⟩, ⟨rfl, rfl⟩, ⟨rfl, rfl, rfl, by first | omega | exact Nat.le_refl _, by first | omega | exact Nat.le_refl _⟩, ⟨rfl, rfl, rfl, by first | omega | exact Nat.le_refl _, by first | omega | exact Nat.le_refl _⟩, trivial⟩), trivial⟩, ⟨(Zae rfl), (Zae rfl), trivial⟩, rfl, rfl, rfl⟩ rfl (by kernel_rfl) ?_
  by_cases h1 : (Zc7 k) ≠ 0
  refine Zn (vx := Iv (Zc7 k)) (vy := Iv 0) rfl rfl (.bool true) rfl rfl (Zc3 (by omega)) ?_
  refine Ze (Zf (Z8 rfl (Zj (Zl (Zc (Iv 0) (Ze (Zf (Zq (Z4 (Zp ?_))))))))))
  rw [show Zvm k = 0 from if_neg (Za1 (by omega))]
  exact Zm (v := Iv 0) rfl rfl rfl (by kernel_rfl) rfl
  refine Zn (vx := Iv (Zc7 k)) (vy := Iv 0) rfl rfl (.bool false) rfl rfl (Zbk (by omega)) ?_
  refine Ze (Zf (Zw rfl (Z7 (Zf (Zj (Zl (Zd (b := 2) (o := 0) (n := 1) (o' := 1) (Zi (p := pt 2 1) (v := Iv k.log) (Zd (b := 2) (o := 0) (n := 2) (o' := 2) (Zi (p := pt 2 2) (v := slv 0 0 n c) ?_))))))))))
  refine Z2 (e := [some (0, 0)]) (nid := 0) (Zng (G := G) k.log k.items n c hn (by omega) (by omega)) (vals := [Iv k.log, slv 0 0 n c]) (v := Iv (Zea k.log k.items)) (H' := [rwR Zk k.items, rwR Zh k.claims, mxB 4 ([Iv k.epoch, Iv k.log, slv 0 0 n c, slv 1 0 m d])]) rfl rfl rfl rfl rfl rfl rfl ⟨⟨rfl, ⟨rfl, rfl, rfl, by first | omega | exact Nat.le_refl _, by first | omega | exact Nat.le_refl _⟩, trivial⟩, ⟨(Zae rfl), trivial⟩, rfl, rfl, rfl⟩ rfl (by kernel_rfl) ?_
  refine Zc (Iv (Zea k.log k.items)) (Ze (Zf (Zq (Zp ?_))))
  rw [show Zvm k = (Zea k.log k.items) from if_pos (Zb1 (by omega))]
  exact Zm (v := Iv (Zea k.log k.items)) rfl rfl rfl (by kernel_rfl) rfl
theorem Zyi  : Zas Try.prog G 16 [] [] (mxV ([Iv 1, Iv 1, .slice none 0 0, .slice none 0 0])) [] := by
 refine Zcv (fn := Try.f16) (nt := 2) rfl rfl rfl rfl ?_
 refine Zbq 1 (H' := [hole]) rfl ?_
 refine Zj (Zl (Za4 (b := mxB 4 ([Iv 0, Iv 0, .slice none 0 0, .slice none 0 0])) (nid := 0) (H' := [mxB 4 ([Iv 0, Iv 0, .slice none 0 0, .slice none 0 0])]) (Ze (Zf (Zj (Zl ?_))))))
 refine Zbg (vs := [(0, Iv 1), (1, Iv 1)]) (v := mxV ([Iv 1, Iv 1, .slice none 0 0, .slice none 0 0])) rfl rfl rfl (by kernel_rfl) ?_
 refine Zy (p := pt 0 0) (v := mxV ([Iv 1, Iv 1, .slice none 0 0, .slice none 0 0])) (b := 0) (blk := mxB 4 ([Iv 1, Iv 1, .slice none 0 0, .slice none 0 0])) (H' := [mxB 4 ([Iv 1, Iv 1, .slice none 0 0, .slice none 0 0])]) (Ze (Zf (Zq (Zp ?_))))
 exact Zm (v := mxV ([Iv 1, Iv 1, .slice none 0 0, .slice none 0 0])) rfl rfl rfl (by kernel_rfl) (Zj6 (by kernel_rfl) rfl)
abbrev Y3 (a : Kept) (n : Nat) (c : Nat) (m : Nat) (d : Nat) : Blk := mxB 4 ([Iv a.epoch, Iv a.log, slv 0 0 n c, slv 1 0 m d])
theorem Zeq (a : Kept) (n c m d : Nat) (hn : a.items.length = n) (hm : a.claims.length = m) (hc : n ≤ c) (hd : m ≤ d) (hb : n ≤ 1048576) (hb2 : m ≤ 1048576) (b : Kept) (n' c' m' d' : Nat) (hn' : b.items.length = n') (hm' : b.claims.length = m') (hc' : n' ≤ c') (hd' : m' ≤ d') (hb' : n' ≤ 1048576) (hb2' : m' ≤ 1048576) : Zas Try.prog G 15 [mxV ([Iv a.epoch, Iv a.log, slv 0 0 n c, slv 1 0 m d]), mxV ([Iv b.epoch, Iv b.log, slv 2 0 n' c', slv 3 0 m' d'])] [rwR Zk a.items, rwR Zh a.claims, rwR Zk b.items, rwR Zh b.claims] (.bool (Zdo a b)) [rwR Zk a.items, rwR Zh a.claims, rwR Zk b.items, rwR Zh b.claims] := by
  refine Zcv (fn := Try.f15) (nt := 31) rfl rfl rfl rfl ?_
  refine Zbq 2 (H' := [rwR Zk a.items, rwR Zh a.claims, rwR Zk b.items, rwR Zh b.claims, hole, hole]) rfl ?_
  refine Zj (Zl (Zbw (v := mxV ([Iv a.epoch, Iv a.log, slv 0 0 n c, slv 1 0 m d])) (b := mxB 4 ([Iv a.epoch, Iv a.log, slv 0 0 n c, slv 1 0 m d])) (nid := 4) (H' := [rwR Zk a.items, rwR Zh a.claims, rwR Zk b.items, rwR Zh b.claims, Y3 a n c m d, hole]) (Zbw (v := mxV ([Iv b.epoch, Iv b.log, slv 2 0 n' c', slv 3 0 m' d'])) (b := mxB 4 ([Iv b.epoch, Iv b.log, slv 2 0 n' c', slv 3 0 m' d'])) (nid := 5) (H' := [rwR Zk a.items, rwR Zh a.claims, rwR Zk b.items, rwR Zh b.claims, Y3 a n c m d, mxB 4 ([Iv b.epoch, Iv b.log, slv 2 0 n' c', slv 3 0 m' d'])]) (Zc (.bool false) (Ze (Zf (Zj (Zl (Zd (b := 4) (o := 0) (n := 0) (o' := 0) (Zi (p := pt 4 0) (v := Iv a.epoch) (Zd (b := 5) (o := 0) (n := 0) (o' := 0) (Zi (p := pt 5 0) (v := Iv b.epoch) ?_))))))))))))
  by_cases h1 : a.epoch = b.epoch
  refine Zn (vx := Iv a.epoch) (vy := Iv b.epoch) rfl rfl (.bool true) rfl rfl (Zav (by omega)) ?_
  refine Zb (.bool true) (Zd (b := 4) (o := 0) (n := 1) (o' := 1) (Zi (p := pt 4 1) (v := Iv a.log) (Zd (b := 5) (o := 0) (n := 1) (o' := 1) (Zi (p := pt 5 1) (v := Iv b.log) ?_))))
  by_cases h2 : a.log = b.log
  refine Zn (vx := Iv a.log) (vy := Iv b.log) rfl rfl (.bool true) rfl rfl (Zav (by omega)) ?_
  refine Zg (.bool true) (Zb (.bool true) (Zd (b := 4) (o := 0) (n := 2) (o' := 2) (Zi (p := pt 4 2) (v := slv 0 0 n c) (Zd (b := 5) (o := 0) (n := 2) (o' := 2) (Zi (p := pt 5 2) (v := slv 2 0 n' c') ?_)))))
  refine Z2 (e := [some (0, 0), some (2, 0)]) (nid := 0) (Zep (G := G) a.items b.items n c n' c' hn hn' (by omega) (by omega) (by omega) (by omega)) (vals := [slv 0 0 n c, slv 2 0 n' c']) (v := .bool (Zcc a.items b.items)) (H' := [rwR Zk a.items, rwR Zh a.claims, rwR Zk b.items, rwR Zh b.claims, Y3 a n c m d, mxB 4 ([Iv b.epoch, Iv b.log, slv 2 0 n' c', slv 3 0 m' d'])]) rfl rfl rfl rfl rfl rfl rfl ⟨⟨⟨rfl, rfl, rfl, by first | omega | exact Nat.le_refl _, by first | omega | exact Nat.le_refl _⟩, ⟨rfl, rfl, rfl, by first | omega | exact Nat.le_refl _, by first | omega | exact Nat.le_refl _⟩, trivial⟩, ⟨(Zae rfl), (Zae rfl), trivial⟩, rfl, rfl, rfl⟩ rfl (by kernel_rfl) ?_
  refine Zg (.bool (Zcc a.items b.items)) (Zb (.bool (Zcc a.items b.items)) ?_)
  rcases Bool.eq_false_or_eq_true (Zcc a.items b.items) with h3 | h3
  refine Zbu (b := 4) (o := 0) (n := 3) (o' := 3) (by exact congrArg (fun b => some (b == true)) h3) rfl rfl rfl rfl ?_
  refine Zcp (p := pt 4 3) (v := slv 1 0 m d) (by exact congrArg (fun b => some (b == true)) h3) rfl rfl (by kernel_rfl) ?_
  refine Zbu (b := 5) (o := 0) (n := 3) (o' := 3) (by exact congrArg (fun b => some (b == true)) h3) rfl rfl rfl rfl ?_
  refine Zcp (p := pt 5 3) (v := slv 3 0 m' d') (by exact congrArg (fun b => some (b == true)) h3) rfl rfl (by kernel_rfl) ?_
  refine Z2 (e := [some (1, 0), some (3, 0)]) (nid := 0) (Zp7 (G := G) a.claims b.claims m d m' d' hm hm' (by omega) (by omega) (by omega) (by omega)) (vals := [slv 1 0 m d, slv 3 0 m' d']) (v := .bool (Zcu a.claims b.claims)) (H' := [rwR Zk a.items, rwR Zh a.claims, rwR Zk b.items, rwR Zh b.claims, Y3 a n c m d, mxB 4 ([Iv b.epoch, Iv b.log, slv 2 0 n' c', slv 3 0 m' d'])]) (by exact congrArg (fun b => some (b == true)) h3) rfl rfl rfl rfl rfl rfl ⟨⟨⟨rfl, rfl, rfl, by first | omega | exact Nat.le_refl _, by first | omega | exact Nat.le_refl _⟩, ⟨rfl, rfl, rfl, by first | omega | exact Nat.le_refl _, by first | omega | exact Nat.le_refl _⟩, trivial⟩, ⟨(Zae rfl), (Zae rfl), trivial⟩, rfl, rfl, rfl⟩ rfl (by kernel_rfl) ?_
  refine Zfj rfl rfl (.bool (Zcu a.claims b.claims)) (by show some (if _ then _ else _) = _; rw [h3] <;> rfl) ?_
  refine Zc (.bool (Zcu a.claims b.claims)) (Ze (Zf (Zq (Zp ?_))))
  rw [show Zdo a b = Zcu a.claims b.claims from Zxr (by omega) (by omega) (by assumption)]
  exact Zm (v := .bool (Zcu a.claims b.claims)) rfl rfl rfl (by kernel_rfl) rfl
  refine Zcz (by exact congrArg (fun b => some (b == true)) h3) rfl ?_
  refine Zcz (by exact congrArg (fun b => some (b == true)) h3) rfl ?_
  refine Zcz (by exact congrArg (fun b => some (b == true)) h3) rfl ?_
  refine Zcz (by exact congrArg (fun b => some (b == true)) h3) rfl ?_
  refine Zcz (by exact congrArg (fun b => some (b == true)) h3) rfl ?_
  refine Zfj rfl rfl (.bool false) (by show some (if _ then _ else _) = _; rw [h3] <;> rfl) ?_
  refine Zc (.bool false) (Ze (Zf (Zq (Zp ?_))))
  rw [show Zdo a b = false from Zou (fun q1 q2 q3 q4 => by first | omega | exact absurd q3 (by rw [‹Zcc _ _ = false›]; decide) | exact absurd q4 (by rw [‹Zcu _ _ = false›]; decide))]
  exact Zm (v := .bool false) rfl rfl rfl (by kernel_rfl) rfl
  refine Zn (vx := Iv a.log) (vy := Iv b.log) rfl rfl (.bool false) rfl rfl (Zbb (by omega)) ?_
  refine Zg (.bool false) (Zb (.bool false) (Za (Za (Za (Za (Za (Zg (.bool false) (Zb (.bool false) (Za (Za (Za (Za (Za (Zg (.bool false) (Zc (.bool false) (Ze (Zf (Zq (Zp ?_)))))))))))))))))))
  rw [show Zdo a b = false from Zou (fun q1 q2 q3 q4 => by first | omega | exact absurd q3 (by rw [‹Zcc _ _ = false›]; decide) | exact absurd q4 (by rw [‹Zcu _ _ = false›]; decide))]
  exact Zm (v := .bool false) rfl rfl rfl (by kernel_rfl) rfl
  refine Zn (vx := Iv a.epoch) (vy := Iv b.epoch) rfl rfl (.bool false) rfl rfl (Zbb (by omega)) ?_
  refine Zb (.bool false) (Za (Za (Za (Za (Za (Zg (.bool false) (Zb (.bool false) (Za (Za (Za (Za (Za (Zg (.bool false) (Zb (.bool false) (Za (Za (Za (Za (Za (Zg (.bool false) (Zc (.bool false) (Ze (Zf (Zq (Zp ?_)))))))))))))))))))))))))
  rw [show Zdo a b = false from Zou (fun q1 q2 q3 q4 => by first | omega | exact absurd q3 (by rw [‹Zcc _ _ = false›]; decide) | exact absurd q4 (by rw [‹Zcu _ _ = false›]; decide))]
  exact Zm (v := .bool false) rfl rfl rfl (by kernel_rfl) rfl
end Go.Flat
