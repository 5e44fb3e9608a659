/- Walks. -/
import Derived.Test.YtoafdomlefoenaaN1
set_option linter.unusedVariables false
set_option linter.unusedSimpArgs false
set_option maxRecDepth 20000
namespace Go.Flat
open Go.Proofs
variable {G : Glob}
structure Kept where
  epoch : Int
  log : Int
  items : List Item
  claims : List Claim
def Zwo (ep : Int) (x : Item) : Prop := x.epoch = ep ∧ x.entry.kind = 3 ∧ x.entry.claim.epoch = ep
instance (ep : Int) (x : Item) : Decidable (Zwo ep x) := inferInstanceAs (Decidable (_ ∧ _))
def ldB (ep : Int) (x : Item) : Bool := decide (Zwo ep x)
def Zlz (p : Item → Bool) (l : List Item) : Option Nat := (List.range l.length).find? fun i => p (l.getD i default)
def Zeq (p : Item → Bool) (l : List Item) : Int := match Zlz p l with | some i => (i : Int) | none => -1
theorem Zqt {p : Item → Bool} {l : List Item} {i : Nat} (h : ∀ j, j < i → p (l.getD j default) = false) (hi : i < l.length) (hp : p (l.getD i default) = true) : Zlz p l = some i := by
 unfold Zlz
 rw [List.find?_range_eq_some]
 exact ⟨hp, List.mem_range.2 hi, fun j hj => by simp only [h j hj]; rfl⟩
theorem Zoh {p : Item → Bool} {l : List Item} (h : ∀ j, j < l.length → p (l.getD j default) = false) : Zlz p l = none := by
 unfold Zlz
 rw [List.find?_range_eq_none]
 exact fun j hj => by simp only [h j hj]; rfl
theorem Zwc {p : Item → Bool} {l : List Item} {i : Nat} (h : ∀ j, j < i → p (l.getD j default) = false) (hi : i < l.length) (hp : p (l.getD i default) = true) : Zeq p l = (i : Int) := by
 unfold Zeq; rw [Zqt h hi hp]
theorem Zut {p : Item → Bool} {l : List Item} (h : ∀ j, j < l.length → p (l.getD j default) = false) : Zeq p l = -1 := by
 unfold Zeq; rw [Zoh h]
theorem Zpr (p : Item → Bool) (l : List Item) : -1 ≤ Zeq p l ∧ Zeq p l < l.length ∧ (0 ≤ Zeq p l → Zlz p l = some (Zeq p l).toNat ∧ p (l.getD (Zeq p l).toNat default) = true) ∧ (Zeq p l < 0 → Zlz p l = none) := by
 unfold Zeq
 cases h : Zlz p l with
 | none => exact ⟨by decide, by show (-1 : Int) < _; omega, fun q => absurd q (by decide), fun _ => rfl⟩
 | some i =>
  have h' := h
  unfold Zlz at h'
  rw [List.find?_range_eq_some] at h'
  have := List.mem_range.1 h'.2.1
  exact ⟨by show (-1 : Int) ≤ (i : Int); omega, by show (i : Int) < _; omega, fun _ => ⟨rfl, h'.1⟩, fun q => absurd q (by show ¬ (i : Int) < 0; omega)⟩
def Zc5 (ep : Int) (l : List Item) : Int := if ep = 1 then 1 else match Zlz (ldB ep) l with | some i => (l.getD i default).entry.claim.node | none => 0
theorem Zqz {ep : Int} {l : List Item} (h : ep = 1) : Zc5 ep l = 1 := if_pos h
theorem Zwp {ep : Int} {l : List Item} {i : Nat} (h1 : ¬ ep = 1) (h : ∀ j, j < i → ldB ep (l.getD j default) = false) (hi : i < l.length) (hp : ldB ep (l.getD i default) = true) : Zc5 ep l = (l.getD i default).entry.claim.node := by
 unfold Zc5; rw [if_neg h1, Zqt h hi hp]
theorem Zuz {ep : Int} {l : List Item} (h1 : ¬ ep = 1) (h : ∀ j, j < l.length → ldB ep (l.getD j default) = false) : Zc5 ep l = 0 := by
 unfold Zc5; rw [if_neg h1, Zoh h]
theorem Zwq {ep : Int} {l : List Item} (h1 : ¬ ep = 1) (h : 0 ≤ Zeq (ldB ep) l) : Zc5 ep l = (l.getD (Zeq (ldB ep) l).toNat default).entry.claim.node := by
 unfold Zc5; rw [if_neg h1, ((Zpr (ldB ep) l).2.2.1 h).1]
theorem Zuy {ep : Int} {l : List Item} (h1 : ¬ ep = 1) (h : Zeq (ldB ep) l < 0) : Zc5 ep l = 0 := by
 unfold Zc5; rw [if_neg h1, (Zpr (ldB ep) l).2.2.2 h]
theorem Zus {l : List Item} : ∀ {ep : Int} {i : Nat}, Zgj ep l = true → i < l.length → Zbb (l.getD i default) := by
 induction l with
 | nil => intro ep i _ h; simp at h
 | cons x l ih =>
  intro ep i h hi
  rw [Zgj, Bool.and_eq_true, Bool.and_eq_true] at h
  cases i with
  | zero => exact of_decide_eq_true h.1.1
  | succ i => exact ih h.2 (by simpa using hi)
theorem Zq0 {ep : Int} {l : List Item} (hr : Zb2 l) (h : ¬ Zc5 ep l = 0) : 0 < Zc5 ep l := by
 unfold Zc5 at h ⊢
 split at h
 ·rename_i h1; rw [if_pos h1]; decide
 ·rename_i h1
  rw [if_neg h1]
  cases ho : Zlz (ldB ep) l with
  | none => rw [ho] at h; exact absurd rfl h
  | some i =>
   unfold Zlz at ho
   rw [List.find?_range_eq_some] at ho
   have hi := List.mem_range.1 ho.2.1
   have hk : (l.getD i default).entry.kind = 3 := (of_decide_eq_true ho.1 : Zwo ep _).2.1
   have hg := (Zus hr.2 hi).2.2
   have hc : Zaz (l.getD i default).entry.claim := by
    rcases hg with q | q | q
    ·omega
    ·omega
    ·exact q.2.2.2.2.2
   show 0 < (l.getD i default).entry.claim.node
   have := hc.2.2.1.1
   omega
def Za6 (k : Kept) : Prop := (1 ≤ k.epoch ∧ k.epoch ≤ 900000000) ∧ (1 ≤ k.log ∧ k.log ≤ k.epoch) ∧ Zb2 k.items ∧ Zbw k.claims ∧ 0 < Zc5 k.log k.items ∧ (k.items.length = 0 ∨ (k.items.getD (k.items.length - 1) default).epoch ≤ k.log)
instance (k : Kept) : Decidable (Za6 k) := inferInstanceAs (Decidable (_ ∧ _))
def Zd8 (k : Kept) : Int := if Za6 k then 0 else 1
theorem Zcs {k : Kept} (h : Zd8 k = 0) : Za6 k := by
 unfold Zd8 at h
 split at h
 ·assumption
 ·omega
theorem Zby {k : Kept} (h : ¬ Zd8 k = 0) : ¬ Za6 k := fun q => h (if_pos q)
def Zwn (k : Kept) : Int := if Za6 k then Zc5 k.log k.items else 0
def Zd6 (a b : Kept) : Bool := decide (a.epoch = b.epoch ∧ a.log = b.log) && (Zdv a.items b.items && Zdr a.claims b.claims)
theorem Zyp {a b : Kept} (h1 : a.epoch = b.epoch) (h2 : a.log = b.log) (h3 : Zdv a.items b.items = true) (h4 : Zdr a.claims b.claims = true) : Zd6 a b = true := by
 unfold Zd6; rw [decide_eq_true ⟨h1, h2⟩, h3, h4]; rfl
theorem Zyo {a b : Kept} (h1 : a.epoch = b.epoch) (h2 : a.log = b.log) (h3 : Zdv a.items b.items = true) : Zd6 a b = Zdr a.claims b.claims := by
 unfold Zd6; rw [decide_eq_true ⟨h1, h2⟩, h3]; rfl
theorem Zp4 {a b : Kept} (h : a.epoch = b.epoch → a.log = b.log → Zdv a.items b.items = true → Zdr a.claims b.claims = true → False) : Zd6 a b = false := by
 cases hq : Zd6 a b with
 | false => rfl
 | true =>
  unfold Zd6 at hq
  rw [Bool.and_eq_true, Bool.and_eq_true] at hq
  have h1 := of_decide_eq_true hq.1
  exact (h h1.1 h1.2 hq.2.1 hq.2.2).elim
theorem Zsi (ep : Int) (x : Item) : Zat Try.prog G 47 [Zal x, pt 0 0] [bxB 1 ([Iv ep])] (.bool (ldB ep x)) [bxB 1 ([Iv ep])] := by
 refine Zcg (fn := Try.f47) (nt := 22) rfl rfl rfl rfl ?_
 refine Za8 1 (H' := [bxB 1 ([Iv ep]), hole]) rfl ?_
 refine Zi (Zm (Zbn (v := Zal x) (b := bxB 110 (Z1 x)) (nid := 1) (H' := [bxB 1 ([Iv ep]), bxB 110 (Z1 x)]) (Zc (.bool false) (Zd (Ze (Zi (Zm (Zf (b := 1) (o := 0) (n := 0) (o' := 0) (Zl (p := pt 1 0) (v := Iv x.epoch) (Zl (p := pt 0 0) (v := Iv ep) ?_))))))))))
 by_cases h1 : x.epoch = ep
 refine Zn (vx := Iv x.epoch) (vy := Iv ep) rfl rfl (.bool true) rfl rfl (Zaj (by omega)) ?_
 refine Zb (.bool true) (Zf (b := 1) (o := 0) (n := 1) (o' := 1) (Zf (b := 1) (o := 1) (n := 0) (o' := 1) (Zl (p := pt 1 1) (v := Iv x.entry.kind) ?_)))
 by_cases h2 : x.entry.kind = 3
 refine Zn (vx := Iv x.entry.kind) (vy := Iv 3) rfl rfl (.bool true) rfl rfl (Zaj (by omega)) ?_
 refine Zg (.bool true) (Zb (.bool true) (Zf (b := 1) (o := 0) (n := 1) (o' := 1) (Zf (b := 1) (o := 1) (n := 73) (o' := 74) (Zf (b := 1) (o := 74) (n := 1) (o' := 75) (Zl (p := pt 1 75) (v := Iv x.entry.claim.epoch) (Zl (p := pt 0 0) (v := Iv ep) ?_))))))
 by_cases h3 : x.entry.claim.epoch = ep
 refine Zn (vx := Iv x.entry.claim.epoch) (vy := Iv ep) rfl rfl (.bool true) rfl rfl (Zaj (by omega)) ?_
 refine Zg (.bool true) (Zc (.bool true) (Zd (Ze (Zs (Zq ?_)))))
 rw [show ldB ep x = true from decide_eq_true ⟨by omega, by omega, by omega⟩]
 exact Zk (v := .bool true) rfl rfl rfl (by kernel_rfl) rfl
 refine Zn (vx := Iv x.entry.claim.epoch) (vy := Iv ep) rfl rfl (.bool false) rfl rfl (Zaq (by omega)) ?_
 refine Zg (.bool false) (Zc (.bool false) (Zd (Ze (Zs (Zq ?_)))))
 rw [show ldB ep x = false from decide_eq_false (fun q => by have := q.1; have := q.2.1; have := q.2.2; omega)]
 exact Zk (v := .bool false) rfl rfl rfl (by kernel_rfl) rfl
 refine Zn (vx := Iv x.entry.kind) (vy := Iv 3) rfl rfl (.bool false) rfl rfl (Zaq (by omega)) ?_
 refine Zg (.bool false) (Zb (.bool false) (Za (Za (Za (Za (Za (Za (Zg (.bool false) (Zc (.bool false) (Zd (Ze (Zs (Zq ?_)))))))))))))
 rw [show ldB ep x = false from decide_eq_false (fun q => by have := q.1; have := q.2.1; have := q.2.2; omega)]
 exact Zk (v := .bool false) rfl rfl rfl (by kernel_rfl) rfl
 refine Zn (vx := Iv x.epoch) (vy := Iv ep) rfl rfl (.bool false) rfl rfl (Zaq (by omega)) ?_
 refine Zb (.bool false) (Za (Za (Za (Za (Zg (.bool false) (Zb (.bool false) (Za (Za (Za (Za (Za (Za (Zg (.bool false) (Zc (.bool false) (Zd (Ze (Zs (Zq ?_))))))))))))))))))
 rw [show ldB ep x = false from decide_eq_false (fun q => by have := q.1; have := q.2.1; have := q.2.2; omega)]
 exact Zk (v := .bool false) rfl rfl rfl (by kernel_rfl) rfl
theorem Zo7 (l : List Item) (n c : Nat) (hn : l.length = n) (hc : n ≤ c) (hb : n ≤ 1048576) (ep : Int) : Zat Try.prog G 46 [slv 0 0 n c, .func (.func 47) #[] #[pt 1 0]] [rwR Zj l, bxB 1 ([Iv ep])] (Iv (Zeq (ldB ep) l)) [rwR Zj l, bxB 1 ([Iv ep])] := by
  refine Zcg (fn := Try.f46) (nt := 19) rfl rfl rfl rfl ?_
  refine Zi (Zm (Zc (Iv 0) (Zd (Ze (Zi (Zi (Zm (Zb (slv 0 0 n c) (Zbg (p := slv 0 0 n c) (v := Iv (n : Nat)) (Zb (Iv 0) (Zd (Ze (Zav ?_)))))))))))))
  refine Zdz (fun i : Nat => [slv 0 0 n c, .func (.func 47) #[] #[pt 1 0], dead, dead, dead, dead, slv 0 0 n c, Iv (n : Nat), Iv (i : Nat)]) (fun i : Nat => [rwR Zj l, bxB 1 ([Iv ep])]) (fun i : Nat => (∀ j, j < i → ldB ep (l.getD j default) = false) ∧ i ≤ n) (fun i : Nat => n - i) 0 ⟨fun _ h => absurd h (by omega), by omega⟩ ?_ ?_
  · refine Zau (n := 2) rfl ?_ (by kernel_rfl) (by kernel_rfl)
    repeat (first | exact trivial | refine ⟨.inl rfl, ?_⟩ | refine ⟨.inr ⟨rfl, rfl⟩, ?_⟩ | refine ⟨.inr ⟨congrArg (Value.int .i64) (by first | omega | (dsimp only; omega)), rfl⟩, ?_⟩)
  rintro i ⟨hR, hi⟩
  refine Zi (Zm ?_)
  by_cases h1 : (i : Nat) < (n : Nat)
  refine Zn (vx := Iv (i : Nat)) (vy := Iv (n : Nat)) rfl rfl (.bool true) rfl rfl (Zdq (by omega)) ?_
  refine Zd (Ze (Zi (Z4 rfl (Z9 (Ze (Zi (Zav (Zi (Zm (Zb (Iv (i : Nat)) (Zc (Iv (i : Nat)) (Zd (Ze (Zi (Zm (Zb (.func (.func 47) #[] #[pt 1 0]) (Zb (slv 0 0 n c) (Zb (Iv (i : Nat)) ?_))))))))))))))))))
  refine Zb0 (b := 0) (o := 0) (j := i * 110) (m := n) (c := c) (sz := 110) (i := (i : Nat)) (k := .i64) rfl rfl rfl rfl rfl (by omega) (by omega) (by omega) ?_
  refine Zba (p := pt 0 (i * 110)) (v := Zal (l.getD i default)) rfl rfl rfl (Zcm (n := 0) (m := 110) Zj rfl rfl rfl rfl (by have := hn; omega) (by omega)) ?_
  refine Zab (e := [some (1, 0)]) (nid := 0) (Zsi (G := G) ep (l.getD i default)) (vals := [Zal (l.getD i default), pt 1 0]) (v := .bool (ldB ep (l.getD i default))) (H' := [rwR Zj l, bxB 1 ([Iv ep])]) rfl rfl rfl rfl rfl rfl rfl ⟨⟨rfl, ⟨rfl, rfl⟩, trivial⟩, ⟨(Zil rfl rfl rfl rfl), trivial⟩, rfl, rfl, rfl⟩ rfl (by kernel_rfl) ?_
  refine Zd (Ze ?_)
  rcases Bool.eq_false_or_eq_true (ldB ep (l.getD i default)) with h2 | h2
  refine Z4 (congrArg Value.bool h2) (Zi (Zm (Zb (Iv (i : Nat)) (Zc (Iv (i : Nat)) (Zd (Ze (Zs (Zy (Zv (Zb5 (Zy (Zv (Zq ?_)))))))))))))
  rw [show Zeq (ldB ep) l = (i : Int) from Zwc hR (by omega) (by assumption)]
  exact Zk (v := Iv (i : Nat)) rfl rfl rfl (by kernel_rfl) rfl
  refine Zz (congrArg Value.bool h2) (Z9 (Z7 (Ze (Zm ?_))))
  refine Zn (vx := Iv (i : Nat)) (vy := Iv 1) rfl rfl (Iv ((i : Nat) + 1)) rfl rfl (Zbi (by omega) (by omega) (by omega)) ?_
  refine Zb (Iv ((i : Nat) + 1)) (Zd ?_)
  refine Zad ⟨(i + 1), ⟨fun j hj => by rcases Nat.lt_or_ge j i with h | h; exact hR j h; obtain rfl : j = i := (by omega); assumption, by omega⟩, by show n - (i + 1) < n - i; omega, ?_⟩
  refine Zau (n := 2) rfl ?_ (by kernel_rfl) (by kernel_rfl)
  repeat (first | exact trivial | refine ⟨.inl rfl, ?_⟩ | refine ⟨.inr ⟨rfl, rfl⟩, ?_⟩ | refine ⟨.inr ⟨congrArg (Value.int .i64) (by first | omega | (dsimp only; omega)), rfl⟩, ?_⟩)
  refine Zn (vx := Iv (i : Nat)) (vy := Iv (n : Nat)) rfl rfl (.bool false) rfl rfl (Zdp (by omega)) ?_
  refine Zd (Ze (Zi (Zz rfl (Zez (Zd3 (Zc3 (Zdt rfl (Ze (Zi (Zm (Zc (Iv (-1)) (Zd (Ze (Zs (Zq ?_)))))))))))))))
  rw [show Zeq (ldB ep) l = -1 from Zut (fun j hj => hR j (by omega))]
  exact Zk (v := Iv (-1)) rfl rfl rfl (by kernel_rfl) rfl
theorem Zol (ep : Int) (l : List Item) (n c : Nat) (hn : l.length = n) (hc : n ≤ c) (hb : n ≤ 1048576) : Zat Try.prog G 29 [Iv ep, slv 0 0 n c] [rwR Zj l] (Iv (Zc5 ep l)) [rwR Zj l] := by
  refine Zcg (fn := Try.f29) (nt := 20) rfl rfl rfl rfl ?_
  refine Za8 1 (H' := [rwR Zj l, hole]) rfl ?_
  refine Zi (Zm (Zbn (v := Iv ep) (b := bxB 1 ([Iv ep])) (nid := 1) (H' := [rwR Zj l, bxB 1 ([Iv ep])]) (Zc (Iv 0) (Zd (Ze (Zi (Zi (Zm (Zl (p := pt 1 0) (v := Iv ep) ?_)))))))))
  by_cases h1 : ep = 1
  refine Zn (vx := Iv ep) (vy := Iv 1) rfl rfl (.bool true) rfl rfl (Zaj (by omega)) ?_
  refine Zd (Ze (Z4 rfl (Zi (Zm (Zc (Iv 1) (Zd (Ze (Zs (Zv (Zq ?_))))))))))
  rw [show Zc5 ep l = 1 from Zqz (by omega)]
  exact Zk (v := Iv 1) rfl rfl rfl (by kernel_rfl) rfl
  refine Zn (vx := Iv ep) (vy := Iv 1) rfl rfl (.bool false) rfl rfl (Zaq (by omega)) ?_
  refine Zd (Ze (Zz rfl (Z9 (Ze (Zi (Zm (Zb (slv 0 0 n c) ?_)))))))
  refine Zou (vs := []) (ws := [pt 1 0]) rfl rfl rfl rfl rfl ?_
  have hix2 := Zpr (ldB ep) l
  refine Zab (e := [some (0, 0), some (1, 0)]) (nid := 0) (Zo7 (G := G) l n c hn (by omega) (by omega) ep) (vals := [slv 0 0 n c, .func (.func 47) #[] #[pt 1 0]]) (v := Iv (Zeq (ldB ep) l)) (H' := [rwR Zj l, bxB 1 ([Iv ep])]) rfl rfl rfl rfl rfl rfl rfl ⟨⟨⟨rfl, rfl, rfl, by first | omega | exact Nat.le_refl _, by first | omega | exact Nat.le_refl _⟩, ⟨by kernel_rfl, by kernel_rfl⟩, trivial⟩, ⟨(Zaf rfl), (Zil rfl rfl rfl rfl), trivial⟩, rfl, rfl, rfl⟩ rfl (by kernel_rfl) ?_
  refine Zc (Iv (Zeq (ldB ep) l)) (Zd (Ze (Zi (Zi (Zm (Zb (Iv (Zeq (ldB ep) l)) ?_))))))
  by_cases h2 : (Zeq (ldB ep) l) < 0
  refine Zn (vx := Iv (Zeq (ldB ep) l)) (vy := Iv 0) rfl rfl (.bool true) rfl rfl (Zdq (by omega)) ?_
  refine Zd (Ze (Z4 rfl (Zi (Zm (Zc (Iv 0) (Zd (Ze (Zs (Zv (Zq ?_))))))))))
  rw [show Zc5 ep l = 0 from Zuy (by omega) (by omega)]
  exact Zk (v := Iv 0) rfl rfl rfl (by kernel_rfl) rfl
  refine Zn (vx := Iv (Zeq (ldB ep) l)) (vy := Iv 0) rfl rfl (.bool false) rfl rfl (Zdp (by omega)) ?_
  refine Zd (Ze (Zz rfl (Z9 (Ze (Zi (Zm (Zb (slv 0 0 n c) (Zb (Iv (Zeq (ldB ep) l)) ?_))))))))
  refine Zb0 (b := 0) (o := 0) (j := ((Zeq (ldB ep) l).toNat) * 110) (m := n) (c := c) (sz := 110) (i := (Zeq (ldB ep) l)) (k := .i64) rfl rfl rfl rfl rfl (by omega) (by omega) (by omega) ?_
  refine Zas (b := 0) (o := ((Zeq (ldB ep) l).toNat) * 110) (n := 1) (o' := ((Zeq (ldB ep) l).toNat) * 110 + 1) rfl rfl rfl rfl (by omega) ?_
  refine Zas (b := 0) (o := ((Zeq (ldB ep) l).toNat) * 110 + 1) (n := 73) (o' := ((Zeq (ldB ep) l).toNat) * 110 + 74) rfl rfl rfl rfl (by omega) ?_
  refine Zas (b := 0) (o := ((Zeq (ldB ep) l).toNat) * 110 + 74) (n := 2) (o' := ((Zeq (ldB ep) l).toNat) * 110 + 76) rfl rfl rfl rfl (by omega) ?_
  refine Zba (p := pt 0 (((Zeq (ldB ep) l).toNat) * 110 + 76)) (v := Iv ((((l.getD ((Zeq (ldB ep) l).toNat) default).entry).claim).node)) rfl rfl rfl (Zef Zj (l := l) (i := ((Zeq (ldB ep) l).toNat)) (k := 76) (m := 110) rfl rfl rfl rfl (by have := hn; omega) (by omega) (by kernel_rfl) rfl) ?_
  refine Zc (Iv ((((l.getD ((Zeq (ldB ep) l).toNat) default).entry).claim).node)) (Zd (Ze (Zs (Zq ?_))))
  rw [show Zc5 ep l = ((((l.getD ((Zeq (ldB ep) l).toNat) default).entry).claim).node) from Zwq (by omega) (by omega)]
  exact Zk (v := Iv ((((l.getD ((Zeq (ldB ep) l).toNat) default).entry).claim).node)) rfl rfl rfl (by kernel_rfl) rfl
theorem Zm5 (ep : Int) (l : List Item) (n c : Nat) (hn : l.length = n) (hc : n ≤ c) (hb : n ≤ 1048576) : Zat Try.prog G 34 [Iv ep, slv 0 0 n c] [rwR Zj l] (Iv (Zc5 ep l)) [rwR Zj l] := by
  refine Zcg (fn := Try.f34) (nt := 42) rfl rfl rfl rfl ?_
  refine Zi (Zm (Zc (Iv 0) (Zd (Ze (Zi (Zi (Zm (Zb (Iv ep) ?_))))))))
  by_cases h1 : ep = 1
  refine Zn (vx := Iv ep) (vy := Iv 1) rfl rfl (.bool true) rfl rfl (Zaj (by omega)) ?_
  refine Zd (Ze (Z4 rfl (Zi (Zm (Zc (Iv 1) (Zd (Ze (Zs (Zv (Zq ?_))))))))))
  rw [show Zc5 ep l = 1 from Zqz (by omega)]
  exact Zk (v := Iv 1) rfl rfl rfl (by kernel_rfl) rfl
  refine Zn (vx := Iv ep) (vy := Iv 1) rfl rfl (.bool false) rfl rfl (Zaq (by omega)) ?_
  refine Zd (Ze (Zz rfl (Z9 (Ze (Zi (Zi (Zm (Zc (Iv 0) (Zd (Ze (Zav ?_)))))))))))
  refine Zdz (fun i : Nat => [Iv ep, slv 0 0 n c, dead, dead, dead, Iv (i : Nat), dead, Iv ep, .bool false]) (fun i : Nat => [rwR Zj l]) (fun i : Nat => (∀ j, j < i → ldB ep (l.getD j default) = false) ∧ i ≤ n) (fun i : Nat => n - i) 0 ⟨fun _ h => absurd h (by omega), by omega⟩ ?_ ?_
  · refine Zau (n := 1) rfl ?_ (by kernel_rfl) (by kernel_rfl)
    repeat (first | exact trivial | refine ⟨.inl rfl, ?_⟩ | refine ⟨.inr ⟨rfl, rfl⟩, ?_⟩ | refine ⟨.inr ⟨congrArg (Value.int .i64) (by first | omega | (dsimp only; omega)), rfl⟩, ?_⟩)
  rintro i ⟨hR, hi⟩
  refine Za8 1 (H' := [rwR Zj l, hole]) rfl ?_
  refine Zi (Zi (Zm (Zb (Iv (i : Nat)) (Zb (slv 0 0 n c) (Zbg (p := slv 0 0 n c) (v := Iv (n : Nat)) ?_)))))
  by_cases h2 : (i : Nat) < (n : Nat)
  refine Zn (vx := Iv (i : Nat)) (vy := Iv (n : Nat)) rfl rfl (.bool true) rfl rfl (Zdq (by omega)) ?_
  refine Zd (Ze (Z4 rfl (Z9 (Ze (Zi (Zav (Zi (Zm (Zb (slv 0 0 n c) (Zb (Iv (i : Nat)) ?_))))))))))
  refine Zb0 (b := 0) (o := 0) (j := i * 110) (m := n) (c := c) (sz := 110) (i := (i : Nat)) (k := .i64) rfl rfl rfl rfl rfl (by omega) (by omega) (by omega) ?_
  refine Zas (b := 0) (o := i * 110) (n := 1) (o' := i * 110 + 1) rfl rfl rfl rfl (by omega) ?_
  refine Zba (p := pt 0 (i * 110 + 1)) (v := Zdg ((l.getD i default).entry)) rfl rfl rfl (Zon Zj (l := l) (i := i) (k := 1) (m := 110) rfl rfl rfl rfl (by have := hn; omega) (by omega) (by decide) (by kernel_rfl)) ?_
  refine Zbf (b := bxB 109 (Zdd (⟨0, 0, 0, ⟨#[]⟩, (⟨(⟨0, 0, 0, dz, 0⟩ : Head), 0, dz⟩ : Signed), (⟨0, 0, 0, 0, dz⟩ : Claim)⟩ : Entry))) (nid := 1) (H' := [rwR Zj l, bxB 109 (Zdd (⟨0, 0, 0, ⟨#[]⟩, (⟨(⟨0, 0, 0, dz, 0⟩ : Head), 0, dz⟩ : Signed), (⟨0, 0, 0, 0, dz⟩ : Claim)⟩ : Entry))]) (Z5 (p := pt 1 0) (v := Zdg ((l.getD i default).entry)) (b := 1) (blk := bxB 109 (Zdd ((l.getD i default).entry))) (H' := [rwR Zj l, bxB 109 (Zdd ((l.getD i default).entry))]) (Zd (Ze (Zi (Zm (Zb (slv 0 0 n c) (Zb (Iv (i : Nat)) ?_)))))))
  refine Zb0 (b := 0) (o := 0) (j := i * 110) (m := n) (c := c) (sz := 110) (i := (i : Nat)) (k := .i64) rfl rfl rfl rfl rfl (by omega) (by omega) (by omega) ?_
  refine Zas (b := 0) (o := i * 110) (n := 0) (o' := i * 110) rfl rfl rfl rfl (by omega) ?_
  refine Zba (p := pt 0 (i * 110)) (v := Iv ((l.getD i default).epoch)) rfl rfl rfl (Zef Zj (l := l) (i := i) (k := 0) (m := 110) rfl rfl rfl rfl (by have := hn; omega) (by omega) (by kernel_rfl) rfl) ?_
  refine Zb (Iv ep) ?_
  by_cases h3 : ((l.getD i default).epoch) = ep
  refine Zn (vx := Iv ((l.getD i default).epoch)) (vy := Iv ep) rfl rfl (.bool true) rfl rfl (Zaj (by omega)) ?_
  refine Zb (.bool true) (Zf (b := 1) (o := 0) (n := 0) (o' := 0) (Zl (p := pt 1 0) (v := Iv (((l.getD i default).entry).kind)) ?_))
  by_cases h4 : (((l.getD i default).entry).kind) = 3
  refine Zn (vx := Iv (((l.getD i default).entry).kind)) (vy := Iv 3) rfl rfl (.bool true) rfl rfl (Zaj (by omega)) ?_
  refine Zg (.bool true) (Zb (.bool true) (Zf (b := 1) (o := 0) (n := 73) (o' := 73) (Zf (b := 1) (o := 73) (n := 1) (o' := 74) (Zl (p := pt 1 74) (v := Iv ((((l.getD i default).entry).claim).epoch)) (Zb (Iv ep) ?_)))))
  by_cases h5 : ((((l.getD i default).entry).claim).epoch) = ep
  refine Zn (vx := Iv ((((l.getD i default).entry).claim).epoch)) (vy := Iv ep) rfl rfl (.bool true) rfl rfl (Zaj (by omega)) ?_
  refine Zg (.bool true) (Zd (Ze (Z4 rfl (Zi (Zm (Zf (b := 1) (o := 0) (n := 73) (o' := 73) (Zf (b := 1) (o := 73) (n := 2) (o' := 75) (Zl (p := pt 1 75) (v := Iv ((((l.getD i default).entry).claim).node)) (Zc (Iv ((((l.getD i default).entry).claim).node)) (Zd (Ze (Zs (Zy (Zv (Zb5 (Zy (Zv (Zq ?_))))))))))))))))))
  rw [show Zc5 ep l = ((((l.getD i default).entry).claim).node) from Zwp (by omega) hR (by omega) (decide_eq_true ⟨by omega, by omega, by omega⟩)]
  exact Zk (v := Iv ((((l.getD i default).entry).claim).node)) rfl rfl rfl (by kernel_rfl) rfl
  refine Zn (vx := Iv ((((l.getD i default).entry).claim).epoch)) (vy := Iv ep) rfl rfl (.bool false) rfl rfl (Zaq (by omega)) ?_
  refine Zg (.bool false) (Zd (Ze (Zz rfl (Z9 (Z7 (Ze (Zm (Zb (Iv (i : Nat)) ?_))))))))
  refine Zn (vx := Iv (i : Nat)) (vy := Iv 1) rfl rfl (Iv ((i : Nat) + 1)) rfl rfl (Zbi (by omega) (by omega) (by omega)) ?_
  refine Zc (Iv ((i : Nat) + 1)) (Zd ?_)
  refine Zad ⟨(i + 1), ⟨fun j hj => by rcases Nat.lt_or_ge j i with h | h; exact hR j h; obtain rfl : j = i := (by omega); exact decide_eq_false (fun q => by have := q.1; have := q.2.1; have := q.2.2; omega), by omega⟩, by show n - (i + 1) < n - i; omega, ?_⟩
  refine Zau (n := 1) rfl ?_ (by kernel_rfl) (by kernel_rfl)
  repeat (first | exact trivial | refine ⟨.inl rfl, ?_⟩ | refine ⟨.inr ⟨rfl, rfl⟩, ?_⟩ | refine ⟨.inr ⟨congrArg (Value.int .i64) (by first | omega | (dsimp only; omega)), rfl⟩, ?_⟩)
  refine Zn (vx := Iv (((l.getD i default).entry).kind)) (vy := Iv 3) rfl rfl (.bool false) rfl rfl (Zaq (by omega)) ?_
  refine Zg (.bool false) (Zb (.bool false) (Za (Za (Za (Za (Za (Zg (.bool false) (Zd (Ze (Zz rfl (Z9 (Z7 (Ze (Zm (Zb (Iv (i : Nat)) ?_)))))))))))))))
  refine Zn (vx := Iv (i : Nat)) (vy := Iv 1) rfl rfl (Iv ((i : Nat) + 1)) rfl rfl (Zbi (by omega) (by omega) (by omega)) ?_
  refine Zc (Iv ((i : Nat) + 1)) (Zd ?_)
  refine Zad ⟨(i + 1), ⟨fun j hj => by rcases Nat.lt_or_ge j i with h | h; exact hR j h; obtain rfl : j = i := (by omega); exact decide_eq_false (fun q => by have := q.1; have := q.2.1; have := q.2.2; omega), by omega⟩, by show n - (i + 1) < n - i; omega, ?_⟩
  refine Zau (n := 1) rfl ?_ (by kernel_rfl) (by kernel_rfl)
  repeat (first | exact trivial | refine ⟨.inl rfl, ?_⟩ | refine ⟨.inr ⟨rfl, rfl⟩, ?_⟩ | refine ⟨.inr ⟨congrArg (Value.int .i64) (by first | omega | (dsimp only; omega)), rfl⟩, ?_⟩)
  refine Zn (vx := Iv ((l.getD i default).epoch)) (vy := Iv ep) rfl rfl (.bool false) rfl rfl (Zaq (by omega)) ?_
  refine Zb (.bool false) (Za (Za (Za (Zg (.bool false) (Zb (.bool false) (Za (Za (Za (Za (Za (Zg (.bool false) (Zd (Ze (Zz rfl (Z9 (Z7 (Ze (Zm (Zb (Iv (i : Nat)) ?_)))))))))))))))))))
  refine Zn (vx := Iv (i : Nat)) (vy := Iv 1) rfl rfl (Iv ((i : Nat) + 1)) rfl rfl (Zbi (by omega) (by omega) (by omega)) ?_
  refine Zc (Iv ((i : Nat) + 1)) (Zd ?_)
  refine Zad ⟨(i + 1), ⟨fun j hj => by rcases Nat.lt_or_ge j i with h | h; exact hR j h; obtain rfl : j = i := (by omega); exact decide_eq_false (fun q => by have := q.1; have := q.2.1; have := q.2.2; omega), by omega⟩, by show n - (i + 1) < n - i; omega, ?_⟩
  refine Zau (n := 1) rfl ?_ (by kernel_rfl) (by kernel_rfl)
  repeat (first | exact trivial | refine ⟨.inl rfl, ?_⟩ | refine ⟨.inr ⟨rfl, rfl⟩, ?_⟩ | refine ⟨.inr ⟨congrArg (Value.int .i64) (by first | omega | (dsimp only; omega)), rfl⟩, ?_⟩)
  refine Zn (vx := Iv (i : Nat)) (vy := Iv (n : Nat)) rfl rfl (.bool false) rfl rfl (Zdp (by omega)) ?_
  refine Zd (Ze (Zz rfl (Zez (Zd3 (Zc3 (Zdt rfl (Ze (Zi (Zm (Zc (Iv 0) (Zd (Ze (Zs (Zq ?_))))))))))))))
  rw [show Zc5 ep l = 0 from Zuz (by omega) (fun j hj => hR j (by omega))]
  exact Zk (v := Iv 0) rfl rfl rfl (by kernel_rfl) rfl
theorem Zbj (n low high : Int) : Zat Try.prog G 26 [Iv n, Iv low, Iv high] [] (.bool (Zbs n low high)) [] := by
 refine Zcg (fn := Try.f26) (nt := 15) rfl rfl rfl rfl ?_
 refine Zi (Zm (Zc (.bool false) (Zd (Ze (Zi (Zm (Zb (Iv n) (Zb (Iv low) ?_))))))))
 by_cases h1 : low ≤ n
 refine Zn (vx := Iv n) (vy := Iv low) rfl rfl (.bool true) rfl rfl (Zic (by omega)) ?_
 refine Zb (.bool true) (Zb (Iv n) (Zb (Iv high) ?_))
 by_cases h2 : n ≤ high
 refine Zn (vx := Iv n) (vy := Iv high) rfl rfl (.bool true) rfl rfl (Zjn (by omega)) ?_
 refine Zg (.bool true) (Zc (.bool true) (Zd (Ze (Zs (Zq ?_)))))
 rw [show Zbs n low high = true from Zak (by omega) (by omega)]
 exact Zk (v := .bool true) rfl rfl rfl (by kernel_rfl) rfl
 refine Zn (vx := Iv n) (vy := Iv high) rfl rfl (.bool false) rfl rfl (Zjm (by omega)) ?_
 refine Zg (.bool false) (Zc (.bool false) (Zd (Ze (Zs (Zq ?_)))))
 rw [show Zbs n low high = false from Z2 (by omega)]
 exact Zk (v := .bool false) rfl rfl rfl (by kernel_rfl) rfl
 refine Zn (vx := Iv n) (vy := Iv low) rfl rfl (.bool false) rfl rfl (Zho (by omega)) ?_
 refine Zb (.bool false) (Za (Za (Za (Zg (.bool false) (Zc (.bool false) (Zd (Ze (Zs (Zq ?_)))))))))
 rw [show Zbs n low high = false from Z2 (by omega)]
 exact Zk (v := .bool false) rfl rfl rfl (by kernel_rfl) rfl
theorem Zam (n low high : Int) : Zat Try.prog G 31 [Iv n, Iv low, Iv high] [] (.bool (Zbs n low high)) [] := by
 refine Zcg (fn := Try.f31) (nt := 15) rfl rfl rfl rfl ?_
 refine Zi (Zm (Zc (.bool false) (Zd (Ze (Zi (Zm (Zb (Iv n) (Zb (Iv low) ?_))))))))
 by_cases h1 : low ≤ n
 refine Zn (vx := Iv n) (vy := Iv low) rfl rfl (.bool true) rfl rfl (Zic (by omega)) ?_
 refine Zb (.bool true) (Zb (Iv n) (Zb (Iv high) ?_))
 by_cases h2 : n ≤ high
 refine Zn (vx := Iv n) (vy := Iv high) rfl rfl (.bool true) rfl rfl (Zjn (by omega)) ?_
 refine Zg (.bool true) (Zc (.bool true) (Zd (Ze (Zs (Zq ?_)))))
 rw [show Zbs n low high = true from Zak (by omega) (by omega)]
 exact Zk (v := .bool true) rfl rfl rfl (by kernel_rfl) rfl
 refine Zn (vx := Iv n) (vy := Iv high) rfl rfl (.bool false) rfl rfl (Zjm (by omega)) ?_
 refine Zg (.bool false) (Zc (.bool false) (Zd (Ze (Zs (Zq ?_)))))
 rw [show Zbs n low high = false from Z2 (by omega)]
 exact Zk (v := .bool false) rfl rfl rfl (by kernel_rfl) rfl
 refine Zn (vx := Iv n) (vy := Iv low) rfl rfl (.bool false) rfl rfl (Zho (by omega)) ?_
 refine Zb (.bool false) (Za (Za (Za (Zg (.bool false) (Zc (.bool false) (Zd (Ze (Zs (Zq ?_)))))))))
 rw [show Zbs n low high = false from Z2 (by omega)]
 exact Zk (v := .bool false) rfl rfl rfl (by kernel_rfl) rfl
abbrev Y2 (k : Kept) (n : Nat) (c : Nat) (m : Nat) (d : Nat) : Blk := mxB 4 ([Iv k.epoch, Iv k.log, slv 0 0 n c, slv 1 0 m d])
theorem Ze5 (k : Kept) (n c m d : Nat) (hn : k.items.length = n) (hm : k.claims.length = m) (hc : n ≤ c) (hd : m ≤ d) (hb : n ≤ 1048576) (hb2 : m ≤ 1048576) : Zat Try.prog G 10 [mxV ([Iv k.epoch, Iv k.log, slv 0 0 n c, slv 1 0 m d])] [rwR Zj k.items, rwR Zh k.claims] (Iv (Zd8 k)) [rwR Zj k.items, rwR Zh k.claims] := by
  refine Zcg (fn := Try.f10) (nt := 51) rfl rfl rfl rfl ?_
  refine Za8 1 (H' := [rwR Zj k.items, rwR Zh k.claims, hole]) rfl ?_
  refine Zi (Zm (Zbn (v := mxV ([Iv k.epoch, Iv k.log, slv 0 0 n c, slv 1 0 m d])) (b := mxB 4 ([Iv k.epoch, Iv k.log, slv 0 0 n c, slv 1 0 m d])) (nid := 2) (H' := [rwR Zj k.items, rwR Zh k.claims, Y2 k n c m d]) (Zc (Iv 0) (Zd (Ze ?_)))))
  refine Zxr (l := 0) rfl ?_
  refine Zi (Zm (Zf (b := 2) (o := 0) (n := 2) (o' := 2) (Zl (p := pt 2 2) (v := slv 0 0 n c) (Zbg (p := slv 0 0 n c) (v := Iv (n : Nat)) (Zc (Iv (n : Nat)) (Zd (Ze (Zi (Zi (Zm (Zf (b := 2) (o := 0) (n := 0) (o' := 0) (Zl (p := pt 2 0) (v := Iv k.epoch) ?_))))))))))))
  by_cases h1 : 1 ≤ k.epoch
  by_cases h2 : k.epoch ≤ 900000000
  refine Zw ((Zbj (G := G) k.epoch 1 900000000).res (congrArg Value.bool (Zak (by omega) (by omega)))) (vals := [Iv k.epoch, Iv 1, Iv 900000000]) (res' := .bool true) rfl rfl rfl rfl rfl rfl ?_
  refine Zcx (vx := .bool true) rfl rfl (.bool false) rfl Za3 ?_
  refine Zb (.bool false) (Zf (b := 2) (o := 0) (n := 1) (o' := 1) (Zl (p := pt 2 1) (v := Iv k.log) (Zf (b := 2) (o := 0) (n := 0) (o' := 0) (Zl (p := pt 2 0) (v := Iv k.epoch) ?_))))
  by_cases h3 : 1 ≤ k.log
  by_cases h4 : k.log ≤ k.epoch
  refine Zw ((Zbj (G := G) k.log 1 k.epoch).res (congrArg Value.bool (Zak (by omega) (by omega)))) (vals := [Iv k.log, Iv 1, Iv k.epoch]) (res' := .bool true) rfl rfl rfl rfl rfl rfl ?_
  refine Zcx (vx := .bool true) rfl rfl (.bool false) rfl Za3 ?_
  refine Zg (.bool false) (Zd (Ze (Zz rfl (Z9 (Ze (Zi (Zi (Zm (Zf (b := 2) (o := 0) (n := 2) (o' := 2) (Zl (p := pt 2 2) (v := slv 0 0 n c) ?_))))))))))
  refine Zab (e := [some (0, 0)]) (nid := 0) (Zi5 (G := G) k.items n c hn (by omega) (by omega)) (vals := [slv 0 0 n c]) (v := Iv (Zgm k.items)) (H' := [rwR Zj k.items, rwR Zh k.claims, Y2 k n c m d]) rfl rfl rfl rfl rfl rfl rfl ⟨⟨⟨rfl, rfl, rfl, by first | omega | exact Nat.le_refl _, by first | omega | exact Nat.le_refl _⟩, trivial⟩, ⟨(Zaf rfl), trivial⟩, rfl, rfl, rfl⟩ rfl (by kernel_rfl) ?_
  by_cases h5 : (Zgm k.items) ≠ 0
  refine Zn (vx := Iv (Zgm k.items)) (vy := Iv 0) rfl rfl (.bool true) rfl rfl (Zd5 (by omega)) ?_
  refine Zb (.bool true) (Za (Za (Za (Za (Zg (.bool true) (Zb (.bool true) (Za (Za (Za (Za (Za (Za (Zg (.bool true) (Zd (Ze (Z4 rfl (Zjq (Zia (Zg1 (Zi (Z9 (Ze (Zi (Zm (Zc (Iv 1) (Zd (Ze (Zs (Znk (Zq ?_))))))))))))))))))))))))))))))
  rw [show Zd8 k = 1 from if_neg (fun q => by obtain ⟨q1, q2, q3, q4, q5, q6⟩ := q; rw [hn] at q6; first | omega | exact Z6 (by omega) q3 | exact Ze7 (by omega) q4)]
  exact Zk (v := Iv 1) rfl rfl rfl (by kernel_rfl) rfl
  refine Zn (vx := Iv (Zgm k.items)) (vy := Iv 0) rfl rfl (.bool false) rfl rfl (Zd4 (by omega)) ?_
  refine Zb (.bool false) (Zf (b := 2) (o := 0) (n := 3) (o' := 3) (Zl (p := pt 2 3) (v := slv 1 0 m d) ?_))
  refine Zab (e := [some (1, 0)]) (nid := 0) (Zk1 (G := G) k.claims m d hm (by omega) (by omega)) (vals := [slv 1 0 m d]) (v := Iv (Zec k.claims)) (H' := [rwR Zj k.items, rwR Zh k.claims, Y2 k n c m d]) rfl rfl rfl rfl rfl rfl rfl ⟨⟨⟨rfl, rfl, rfl, by first | omega | exact Nat.le_refl _, by first | omega | exact Nat.le_refl _⟩, trivial⟩, ⟨(Zaf rfl), trivial⟩, rfl, rfl, rfl⟩ rfl (by kernel_rfl) ?_
  by_cases h6 : (Zec k.claims) ≠ 0
  refine Zn (vx := Iv (Zec k.claims)) (vy := Iv 0) rfl rfl (.bool true) rfl rfl (Zd5 (by omega)) ?_
  refine Zg (.bool true) (Zb (.bool true) (Za (Za (Za (Za (Za (Za (Zg (.bool true) (Zd (Ze (Z4 rfl (Zjq (Zia (Zg1 (Zi (Z9 (Ze (Zi (Zm (Zc (Iv 1) (Zd (Ze (Zs (Znk (Zq ?_)))))))))))))))))))))))))
  rw [show Zd8 k = 1 from if_neg (fun q => by obtain ⟨q1, q2, q3, q4, q5, q6⟩ := q; rw [hn] at q6; first | omega | exact Z6 (by omega) q3 | exact Ze7 (by omega) q4)]
  exact Zk (v := Iv 1) rfl rfl rfl (by kernel_rfl) rfl
  refine Zn (vx := Iv (Zec k.claims)) (vy := Iv 0) rfl rfl (.bool false) rfl rfl (Zd4 (by omega)) ?_
  refine Zg (.bool false) (Zb (.bool false) (Zf (b := 2) (o := 0) (n := 1) (o' := 1) (Zl (p := pt 2 1) (v := Iv k.log) (Zf (b := 2) (o := 0) (n := 2) (o' := 2) (Zl (p := pt 2 2) (v := slv 0 0 n c) ?_)))))
  refine Zab (e := [some (0, 0)]) (nid := 0) (Zol (G := G) k.log k.items n c hn (by omega) (by omega)) (vals := [Iv k.log, slv 0 0 n c]) (v := Iv (Zc5 k.log k.items)) (H' := [rwR Zj k.items, rwR Zh k.claims, Y2 k n c m d]) rfl rfl rfl rfl rfl rfl rfl ⟨⟨rfl, ⟨rfl, rfl, rfl, by first | omega | exact Nat.le_refl _, by first | omega | exact Nat.le_refl _⟩, trivial⟩, ⟨(Zaf rfl), trivial⟩, rfl, rfl, rfl⟩ rfl (by kernel_rfl) ?_
  by_cases h7 : (Zc5 k.log k.items) = 0
  refine Zn (vx := Iv (Zc5 k.log k.items)) (vy := Iv 0) rfl rfl (.bool true) rfl rfl (Zaj (by omega)) ?_
  refine Zg (.bool true) (Zd (Ze (Z4 rfl (Zjq (Zia (Zg1 (Zi (Z9 (Ze (Zi (Zm (Zc (Iv 1) (Zd (Ze (Zs (Znk (Zq ?_)))))))))))))))))
  rw [show Zd8 k = 1 from if_neg (fun q => by obtain ⟨q1, q2, q3, q4, q5, q6⟩ := q; rw [hn] at q6; first | omega | exact Z6 (by omega) q3 | exact Ze7 (by omega) q4)]
  exact Zk (v := Iv 1) rfl rfl rfl (by kernel_rfl) rfl
  refine Zn (vx := Iv (Zc5 k.log k.items)) (vy := Iv 0) rfl rfl (.bool false) rfl rfl (Zaq (by omega)) ?_
  refine Zg (.bool false) (Zd (Ze (Zz rfl (Z9 (Ze (Zi (Zi ?_)))))))
  refine Zek (by kernel_rfl) ?_
  refine Zb (Iv (n : Nat)) ?_
  by_cases h8 : (n : Nat) = 0
  refine Zn (vx := Iv (n : Nat)) (vy := Iv 0) rfl rfl (.bool true) rfl rfl (Zaj (by omega)) ?_
  refine Zb (.bool true) (Za (Za (Za (Za (Za (Za (Za (Za (Za (Za (Zg (.bool true) ?_)))))))))))
  refine Zbv (Za4 [[], [0], [0, 1], [0, 1, 2], [0, 1, 2, 3], [0, 1, 2], [0, 1, 2, 5], [0, 1, 2, 3, 4, 5, 6], [0, 1, 2, 3, 4, 5, 6, 7], [0, 1, 2, 3, 4, 5, 6, 7, 8], [0, 1, 2], [0, 1, 2, 10], [0, 1, 2, 3, 4, 5, 6, 7, 8, 9, 10, 11], [0, 1, 2, 3, 4, 5, 6, 7, 8, 9, 10, 11, 12]] (by kernel_rfl) (by kernel_rfl)) ?_
  refine Ze (Z4 rfl (Zi (Zm (Zc (Iv 0) (Zd (Ze (Zs (Zv (Znl (Zq ?_))))))))))
  rw [show Zd8 k = 0 from if_pos ⟨by omega, by omega, Za5 (by omega), Zf8 (by omega), Zq0 (Za5 (by omega)) (by omega), by rw [hn]; omega⟩]
  exact Zk (v := Iv 0) rfl rfl rfl (by kernel_rfl) rfl
  refine Zn (vx := Iv (n : Nat)) (vy := Iv 0) rfl rfl (.bool false) rfl rfl (Zaq (by omega)) ?_
  refine Zb (.bool false) (Zf (b := 2) (o := 0) (n := 2) (o' := 2) (Zl (p := pt 2 2) (v := slv 0 0 n c) (Zb (Iv (n : Nat)) ?_)))
  refine Zn (vx := Iv (n : Nat)) (vy := Iv 1) rfl rfl (Iv ((n : Nat) - 1)) rfl rfl (Zg4 (by omega) (by omega) (by omega)) ?_
  refine Zb0 (b := 0) (o := 0) (j := (n - 1) * 110) (m := n) (c := c) (sz := 110) (i := (n : Nat) - 1) (k := .i64) rfl rfl rfl rfl rfl (by omega) (by omega) (by omega) ?_
  refine Zas (b := 0) (o := (n - 1) * 110) (n := 0) (o' := (n - 1) * 110) rfl rfl rfl rfl (by omega) ?_
  refine Zba (p := pt 0 ((n - 1) * 110)) (v := Iv ((k.items.getD (n - 1) default).epoch)) rfl rfl rfl (Zef Zj (l := k.items) (i := n - 1) (k := 0) (m := 110) rfl rfl rfl rfl (by have := hn; omega) (by omega) (by kernel_rfl) rfl) ?_
  refine Zf (b := 2) (o := 0) (n := 1) (o' := 1) (Zl (p := pt 2 1) (v := Iv k.log) ?_)
  by_cases h9 : ((k.items.getD (n - 1) default).epoch) ≤ k.log
  refine Zn (vx := Iv ((k.items.getD (n - 1) default).epoch)) (vy := Iv k.log) rfl rfl (.bool true) rfl rfl (Zjn (by omega)) ?_
  refine Zg (.bool true) ?_
  refine Zbv (Za4 [[], [0], [0, 1], [0, 1, 2], [0, 1, 2, 3], [0, 1, 2], [0, 1, 2, 5], [0, 1, 2, 3, 4, 5, 6], [0, 1, 2, 3, 4, 5, 6, 7], [0, 1, 2, 3, 4, 5, 6, 7, 8], [0, 1, 2], [0, 1, 2, 10], [0, 1, 2, 3, 4, 5, 6, 7, 8, 9, 10, 11], [0, 1, 2, 3, 4, 5, 6, 7, 8, 9, 10, 11, 12]] (by kernel_rfl) (by kernel_rfl)) ?_
  refine Ze (Z4 rfl (Zi (Zm (Zc (Iv 0) (Zd (Ze (Zs (Zv (Znl (Zq ?_))))))))))
  rw [show Zd8 k = 0 from if_pos ⟨by omega, by omega, Za5 (by omega), Zf8 (by omega), Zq0 (Za5 (by omega)) (by omega), by rw [hn]; omega⟩]
  exact Zk (v := Iv 0) rfl rfl rfl (by kernel_rfl) rfl
  refine Zn (vx := Iv ((k.items.getD (n - 1) default).epoch)) (vy := Iv k.log) rfl rfl (.bool false) rfl rfl (Zjm (by omega)) ?_
  refine Zg (.bool false) ?_
  refine Zbv (Za4 [[], [0], [0, 1], [0, 1, 2], [0, 1, 2, 3], [0, 1, 2], [0, 1, 2, 5], [0, 1, 2, 3, 4, 5, 6], [0, 1, 2, 3, 4, 5, 6, 7], [0, 1, 2, 3, 4, 5, 6, 7, 8], [0, 1, 2], [0, 1, 2, 10], [0, 1, 2, 3, 4, 5, 6, 7, 8, 9, 10, 11], [0, 1, 2, 3, 4, 5, 6, 7, 8, 9, 10, 11, 12]] (by kernel_rfl) (by kernel_rfl)) ?_
  refine Ze (Zz rfl (Z9 (Ze (Zi (Zxq (Ze (Zi (Zm (Zc (Iv 1) (Zd (Ze (Zs (Znl (Zq ?_))))))))))))))
  rw [show Zd8 k = 1 from if_neg (fun q => by obtain ⟨q1, q2, q3, q4, q5, q6⟩ := q; rw [hn] at q6; first | omega | exact Z6 (by omega) q3 | exact Ze7 (by omega) q4)]
  exact Zk (v := Iv 1) rfl rfl rfl (by kernel_rfl) rfl
  refine Zw ((Zbj (G := G) k.log 1 k.epoch).res (congrArg Value.bool (Z2 (by omega)))) (vals := [Iv k.log, Iv 1, Iv k.epoch]) (res' := .bool false) rfl rfl rfl rfl rfl rfl ?_
  refine Zcx (vx := .bool false) rfl rfl (.bool true) rfl Za3 ?_
  refine Zg (.bool true) (Zd (Ze (Z4 rfl (Zjq (Zia (Zg1 (Zi (Z9 (Ze (Zi (Zm (Zc (Iv 1) (Zd (Ze (Zs (Znk (Zq ?_)))))))))))))))))
  rw [show Zd8 k = 1 from if_neg (fun q => by obtain ⟨q1, q2, q3, q4, q5, q6⟩ := q; rw [hn] at q6; first | omega | exact Z6 (by omega) q3 | exact Ze7 (by omega) q4)]
  exact Zk (v := Iv 1) rfl rfl rfl (by kernel_rfl) rfl
  refine Zw ((Zbj (G := G) k.log 1 k.epoch).res (congrArg Value.bool (Z2 (by omega)))) (vals := [Iv k.log, Iv 1, Iv k.epoch]) (res' := .bool false) rfl rfl rfl rfl rfl rfl ?_
  refine Zcx (vx := .bool false) rfl rfl (.bool true) rfl Za3 ?_
  refine Zg (.bool true) (Zd (Ze (Z4 rfl (Zjq (Zia (Zg1 (Zi (Z9 (Ze (Zi (Zm (Zc (Iv 1) (Zd (Ze (Zs (Znk (Zq ?_)))))))))))))))))
  rw [show Zd8 k = 1 from if_neg (fun q => by obtain ⟨q1, q2, q3, q4, q5, q6⟩ := q; rw [hn] at q6; first | omega | exact Z6 (by omega) q3 | exact Ze7 (by omega) q4)]
  exact Zk (v := Iv 1) rfl rfl rfl (by kernel_rfl) rfl
  refine Zw ((Zbj (G := G) k.epoch 1 900000000).res (congrArg Value.bool (Z2 (by omega)))) (vals := [Iv k.epoch, Iv 1, Iv 900000000]) (res' := .bool false) rfl rfl rfl rfl rfl rfl ?_
  refine Zcx (vx := .bool false) rfl rfl (.bool true) rfl Za3 ?_
  refine Zb (.bool true) (Za (Za (Za (Za (Za (Za (Zg (.bool true) (Zd (Ze (Z4 rfl (Zjq (Zia (Zg1 (Zi (Z9 (Ze (Zi (Zm (Zc (Iv 1) (Zd (Ze (Zs (Znk (Zq ?_))))))))))))))))))))))))
  rw [show Zd8 k = 1 from if_neg (fun q => by obtain ⟨q1, q2, q3, q4, q5, q6⟩ := q; rw [hn] at q6; first | omega | exact Z6 (by omega) q3 | exact Ze7 (by omega) q4)]
  exact Zk (v := Iv 1) rfl rfl rfl (by kernel_rfl) rfl
  refine Zw ((Zbj (G := G) k.epoch 1 900000000).res (congrArg Value.bool (Z2 (by omega)))) (vals := [Iv k.epoch, Iv 1, Iv 900000000]) (res' := .bool false) rfl rfl rfl rfl rfl rfl ?_
  refine Zcx (vx := .bool false) rfl rfl (.bool true) rfl Za3 ?_
  refine Zb (.bool true) (Za (Za (Za (Za (Za (Za (Zg (.bool true) (Zd (Ze (Z4 rfl (Zjq (Zia (Zg1 (Zi (Z9 (Ze (Zi (Zm (Zc (Iv 1) (Zd (Ze (Zs (Znk (Zq ?_))))))))))))))))))))))))
  rw [show Zd8 k = 1 from if_neg (fun q => by obtain ⟨q1, q2, q3, q4, q5, q6⟩ := q; rw [hn] at q6; first | omega | exact Z6 (by omega) q3 | exact Ze7 (by omega) q4)]
  exact Zk (v := Iv 1) rfl rfl rfl (by kernel_rfl) rfl
abbrev Y3 (k : Kept) (n : Nat) (c : Nat) (m : Nat) (d : Nat) : Blk := mxB 4 ([Iv k.epoch, Iv k.log, slv 0 0 n c, slv 1 0 m d])
theorem Zfy (k : Kept) (n c m d : Nat) (hn : k.items.length = n) (hm : k.claims.length = m) (hc : n ≤ c) (hd : m ≤ d) (hb : n ≤ 1048576) (hb2 : m ≤ 1048576) : Zat Try.prog G 12 [mxV ([Iv k.epoch, Iv k.log, slv 0 0 n c, slv 1 0 m d])] [rwR Zj k.items, rwR Zh k.claims] (.bool (decide (Za6 k))) [rwR Zj k.items, rwR Zh k.claims] := by
  refine Zcg (fn := Try.f12) (nt := 51) rfl rfl rfl rfl ?_
  refine Za8 1 (H' := [rwR Zj k.items, rwR Zh k.claims, hole]) rfl ?_
  refine Zi (Zm (Zbn (v := mxV ([Iv k.epoch, Iv k.log, slv 0 0 n c, slv 1 0 m d])) (b := mxB 4 ([Iv k.epoch, Iv k.log, slv 0 0 n c, slv 1 0 m d])) (nid := 2) (H' := [rwR Zj k.items, rwR Zh k.claims, Y3 k n c m d]) (Zc (.bool false) (Zd (Ze (Zi (Zi (Zm (Zf (b := 2) (o := 0) (n := 0) (o' := 0) (Zl (p := pt 2 0) (v := Iv k.epoch) ?_))))))))))
  by_cases h1 : 1 ≤ k.epoch
  by_cases h2 : k.epoch ≤ 900000000
  refine Zw ((Zam (G := G) k.epoch 1 900000000).res (congrArg Value.bool (Zak (by omega) (by omega)))) (vals := [Iv k.epoch, Iv 1, Iv 900000000]) (res' := .bool true) rfl rfl rfl rfl rfl rfl ?_
  refine Zcx (vx := .bool true) rfl rfl (.bool false) rfl Za3 ?_
  refine Zb (.bool false) (Zf (b := 2) (o := 0) (n := 1) (o' := 1) (Zl (p := pt 2 1) (v := Iv k.log) (Zf (b := 2) (o := 0) (n := 0) (o' := 0) (Zl (p := pt 2 0) (v := Iv k.epoch) ?_))))
  by_cases h3 : 1 ≤ k.log
  by_cases h4 : k.log ≤ k.epoch
  refine Zw ((Zam (G := G) k.log 1 k.epoch).res (congrArg Value.bool (Zak (by omega) (by omega)))) (vals := [Iv k.log, Iv 1, Iv k.epoch]) (res' := .bool true) rfl rfl rfl rfl rfl rfl ?_
  refine Zcx (vx := .bool true) rfl rfl (.bool false) rfl Za3 ?_
  refine Zg (.bool false) (Zb (.bool false) (Zf (b := 2) (o := 0) (n := 2) (o' := 2) (Zl (p := pt 2 2) (v := slv 0 0 n c) ?_)))
  refine Zab (e := [some (0, 0)]) (nid := 0) (Zh6 (G := G) k.items n c hn (by omega) (by omega)) (vals := [slv 0 0 n c]) (v := .bool (decide (Zb2 k.items))) (H' := [rwR Zj k.items, rwR Zh k.claims, Y3 k n c m d]) rfl rfl rfl rfl rfl rfl rfl ⟨⟨⟨rfl, rfl, rfl, by first | omega | exact Nat.le_refl _, by first | omega | exact Nat.le_refl _⟩, trivial⟩, ⟨(Zaf rfl), trivial⟩, rfl, rfl, rfl⟩ rfl (by kernel_rfl) ?_
  rcases Bool.eq_false_or_eq_true (decide (Zb2 k.items)) with h5 | h5
  refine Zcx (vx := .bool (decide (Zb2 k.items))) rfl rfl (.bool false) rfl (Eq.trans Za3 (congrArg (fun b => some (Value.bool !b)) h5)) ?_
  refine Zg (.bool false) (Zb (.bool false) (Zf (b := 2) (o := 0) (n := 3) (o' := 3) (Zl (p := pt 2 3) (v := slv 1 0 m d) ?_)))
  refine Zab (e := [some (1, 0)]) (nid := 0) (Zjo (G := G) k.claims m d hm (by omega) (by omega)) (vals := [slv 1 0 m d]) (v := .bool (decide (Zbw k.claims))) (H' := [rwR Zj k.items, rwR Zh k.claims, Y3 k n c m d]) rfl rfl rfl rfl rfl rfl rfl ⟨⟨⟨rfl, rfl, rfl, by first | omega | exact Nat.le_refl _, by first | omega | exact Nat.le_refl _⟩, trivial⟩, ⟨(Zaf rfl), trivial⟩, rfl, rfl, rfl⟩ rfl (by kernel_rfl) ?_
  rcases Bool.eq_false_or_eq_true (decide (Zbw k.claims)) with h6 | h6
  refine Zcx (vx := .bool (decide (Zbw k.claims))) rfl rfl (.bool false) rfl (Eq.trans Za3 (congrArg (fun b => some (Value.bool !b)) h6)) ?_
  refine Zg (.bool false) (Zd (Ze (Zz rfl (Z9 (Ze (Zi (Zi ?_)))))))
  refine Zek (by kernel_rfl) ?_
  refine Zf (b := 2) (o := 0) (n := 2) (o' := 2) (Zl (p := pt 2 2) (v := slv 0 0 n c) (Zbg (p := slv 0 0 n c) (v := Iv (n : Nat)) ?_))
  by_cases h7 : 0 < (n : Nat)
  refine Zn (vx := Iv (n : Nat)) (vy := Iv 0) rfl rfl (.bool true) rfl rfl (Zfe (by omega)) ?_
  refine Zb (.bool true) (Zf (b := 2) (o := 0) (n := 2) (o' := 2) (Zl (p := pt 2 2) (v := slv 0 0 n c) (Zf (b := 2) (o := 0) (n := 2) (o' := 2) (Zl (p := pt 2 2) (v := slv 0 0 n c) (Zbg (p := slv 0 0 n c) (v := Iv (n : Nat)) ?_)))))
  refine Zn (vx := Iv (n : Nat)) (vy := Iv 1) rfl rfl (Iv ((n : Nat) - 1)) rfl rfl (Zg4 (by omega) (by omega) (by omega)) ?_
  refine Zb0 (b := 0) (o := 0) (j := (n - 1) * 110) (m := n) (c := c) (sz := 110) (i := (n : Nat) - 1) (k := .i64) rfl rfl rfl rfl rfl (by omega) (by omega) (by omega) ?_
  refine Zas (b := 0) (o := (n - 1) * 110) (n := 0) (o' := (n - 1) * 110) rfl rfl rfl rfl (by omega) ?_
  refine Zba (p := pt 0 ((n - 1) * 110)) (v := Iv ((k.items.getD (n - 1) default).epoch)) rfl rfl rfl (Zef Zj (l := k.items) (i := n - 1) (k := 0) (m := 110) rfl rfl rfl rfl (by have := hn; omega) (by omega) (by kernel_rfl) rfl) ?_
  refine Zf (b := 2) (o := 0) (n := 1) (o' := 1) (Zl (p := pt 2 1) (v := Iv k.log) ?_)
  by_cases h8 : k.log < ((k.items.getD (n - 1) default).epoch)
  refine Zn (vx := Iv ((k.items.getD (n - 1) default).epoch)) (vy := Iv k.log) rfl rfl (.bool true) rfl rfl (Zfe (by omega)) ?_
  refine Zg (.bool true) ?_
  refine Zbv (Za4 [[], [0], [0, 1], [0, 1, 2], [0, 1, 2, 3], [0, 1, 2, 3, 4], [0, 1, 2, 3, 4, 5], [0, 1, 2, 3, 4], [0, 1, 2, 3, 4, 7], [0, 1, 2, 3, 4, 7, 8], [0, 1, 2, 3, 4, 7, 8, 9], [0, 1, 2, 3, 4, 5, 6, 7, 8, 9, 10], [0, 1, 2, 3, 4, 5, 6, 7, 8, 9, 10, 11], [0, 1, 2, 3, 4, 5, 6, 7, 8, 9, 10, 11, 12], [0, 1, 2, 3, 4], [0, 1, 2, 3, 4, 14], [0, 1, 2, 3, 4, 5, 6, 7, 8, 9, 10, 11, 12, 13, 14, 15], [0, 1, 2, 3, 4, 5, 6, 7, 8, 9, 10, 11, 12, 13, 14, 15, 16]] (by kernel_rfl) (by kernel_rfl)) ?_
  refine Ze (Z4 rfl (Zi (Zm (Zc (.bool false) (Zd (Ze (Zs (Zv (Zq ?_)))))))))
  rw [show decide (Za6 k) = false from decide_eq_false (fun q => by obtain ⟨q1, q2, q3, q4, q5, q6⟩ := q; rw [hn] at q6; first | omega | exact absurd q3 (of_decide_eq_false (by assumption)) | exact absurd q4 (of_decide_eq_false (by assumption)))]
  exact Zk (v := .bool false) rfl rfl rfl (by kernel_rfl) rfl
  refine Zn (vx := Iv ((k.items.getD (n - 1) default).epoch)) (vy := Iv k.log) rfl rfl (.bool false) rfl rfl (Zfd (by omega)) ?_
  refine Zg (.bool false) ?_
  refine Zbv (Za4 [[], [0], [0, 1], [0, 1, 2], [0, 1, 2, 3], [0, 1, 2, 3, 4], [0, 1, 2, 3, 4, 5], [0, 1, 2, 3, 4], [0, 1, 2, 3, 4, 7], [0, 1, 2, 3, 4, 7, 8], [0, 1, 2, 3, 4, 7, 8, 9], [0, 1, 2, 3, 4, 5, 6, 7, 8, 9, 10], [0, 1, 2, 3, 4, 5, 6, 7, 8, 9, 10, 11], [0, 1, 2, 3, 4, 5, 6, 7, 8, 9, 10, 11, 12], [0, 1, 2, 3, 4], [0, 1, 2, 3, 4, 14], [0, 1, 2, 3, 4, 5, 6, 7, 8, 9, 10, 11, 12, 13, 14, 15], [0, 1, 2, 3, 4, 5, 6, 7, 8, 9, 10, 11, 12, 13, 14, 15, 16]] (by kernel_rfl) (by kernel_rfl)) ?_
  refine Ze (Zz rfl (Z9 (Ze (Zi (Zm (Zf (b := 2) (o := 0) (n := 1) (o' := 1) (Zl (p := pt 2 1) (v := Iv k.log) (Zf (b := 2) (o := 0) (n := 2) (o' := 2) (Zl (p := pt 2 2) (v := slv 0 0 n c) ?_)))))))))
  refine Zab (e := [some (0, 0)]) (nid := 0) (Zm5 (G := G) k.log k.items n c hn (by omega) (by omega)) (vals := [Iv k.log, slv 0 0 n c]) (v := Iv (Zc5 k.log k.items)) (H' := [rwR Zj k.items, rwR Zh k.claims, Y3 k n c m d]) rfl rfl rfl rfl rfl rfl rfl ⟨⟨rfl, ⟨rfl, rfl, rfl, by first | omega | exact Nat.le_refl _, by first | omega | exact Nat.le_refl _⟩, trivial⟩, ⟨(Zaf rfl), trivial⟩, rfl, rfl, rfl⟩ rfl (by kernel_rfl) ?_
  by_cases h9 : 0 < (Zc5 k.log k.items)
  refine Zn (vx := Iv (Zc5 k.log k.items)) (vy := Iv 0) rfl rfl (.bool true) rfl rfl (Zfe (by omega)) ?_
  refine Zc (.bool true) (Zd (Ze (Zs (Zq ?_))))
  rw [show decide (Za6 k) = true from decide_eq_true ⟨by omega, by omega, of_decide_eq_true (by assumption), of_decide_eq_true (by assumption), by omega, by rw [hn]; omega⟩]
  exact Zk (v := .bool true) rfl rfl rfl (by kernel_rfl) rfl
  refine Zn (vx := Iv (Zc5 k.log k.items)) (vy := Iv 0) rfl rfl (.bool false) rfl rfl (Zfd (by omega)) ?_
  refine Zc (.bool false) (Zd (Ze (Zs (Zq ?_))))
  rw [show decide (Za6 k) = false from decide_eq_false (fun q => by obtain ⟨q1, q2, q3, q4, q5, q6⟩ := q; rw [hn] at q6; first | omega | exact absurd q3 (of_decide_eq_false (by assumption)) | exact absurd q4 (of_decide_eq_false (by assumption)))]
  exact Zk (v := .bool false) rfl rfl rfl (by kernel_rfl) rfl
  refine Zn (vx := Iv (n : Nat)) (vy := Iv 0) rfl rfl (.bool false) rfl rfl (Zfd (by omega)) ?_
  refine Zb (.bool false) (Za (Za (Za (Za (Za (Za (Za (Za (Za (Za (Za (Za (Zg (.bool false) ?_)))))))))))))
  refine Zbv (Za4 [[], [0], [0, 1], [0, 1, 2], [0, 1, 2, 3], [0, 1, 2, 3, 4], [0, 1, 2, 3, 4, 5], [0, 1, 2, 3, 4], [0, 1, 2, 3, 4, 7], [0, 1, 2, 3, 4, 7, 8], [0, 1, 2, 3, 4, 7, 8, 9], [0, 1, 2, 3, 4, 5, 6, 7, 8, 9, 10], [0, 1, 2, 3, 4, 5, 6, 7, 8, 9, 10, 11], [0, 1, 2, 3, 4, 5, 6, 7, 8, 9, 10, 11, 12], [0, 1, 2, 3, 4], [0, 1, 2, 3, 4, 14], [0, 1, 2, 3, 4, 5, 6, 7, 8, 9, 10, 11, 12, 13, 14, 15], [0, 1, 2, 3, 4, 5, 6, 7, 8, 9, 10, 11, 12, 13, 14, 15, 16]] (by kernel_rfl) (by kernel_rfl)) ?_
  refine Ze (Zz rfl (Z9 (Ze (Zi (Zm (Zf (b := 2) (o := 0) (n := 1) (o' := 1) (Zl (p := pt 2 1) (v := Iv k.log) (Zf (b := 2) (o := 0) (n := 2) (o' := 2) (Zl (p := pt 2 2) (v := slv 0 0 n c) ?_)))))))))
  refine Zab (e := [some (0, 0)]) (nid := 0) (Zm5 (G := G) k.log k.items n c hn (by omega) (by omega)) (vals := [Iv k.log, slv 0 0 n c]) (v := Iv (Zc5 k.log k.items)) (H' := [rwR Zj k.items, rwR Zh k.claims, Y3 k n c m d]) rfl rfl rfl rfl rfl rfl rfl ⟨⟨rfl, ⟨rfl, rfl, rfl, by first | omega | exact Nat.le_refl _, by first | omega | exact Nat.le_refl _⟩, trivial⟩, ⟨(Zaf rfl), trivial⟩, rfl, rfl, rfl⟩ rfl (by kernel_rfl) ?_
  by_cases h10 : 0 < (Zc5 k.log k.items)
  refine Zn (vx := Iv (Zc5 k.log k.items)) (vy := Iv 0) rfl rfl (.bool true) rfl rfl (Zfe (by omega)) ?_
  refine Zc (.bool true) (Zd (Ze (Zs (Zq ?_))))
  rw [show decide (Za6 k) = true from decide_eq_true ⟨by omega, by omega, of_decide_eq_true (by assumption), of_decide_eq_true (by assumption), by omega, by rw [hn]; omega⟩]
  exact Zk (v := .bool true) rfl rfl rfl (by kernel_rfl) rfl
  refine Zn (vx := Iv (Zc5 k.log k.items)) (vy := Iv 0) rfl rfl (.bool false) rfl rfl (Zfd (by omega)) ?_
  refine Zc (.bool false) (Zd (Ze (Zs (Zq ?_))))
  rw [show decide (Za6 k) = false from decide_eq_false (fun q => by obtain ⟨q1, q2, q3, q4, q5, q6⟩ := q; rw [hn] at q6; first | omega | exact absurd q3 (of_decide_eq_false (by assumption)) | exact absurd q4 (of_decide_eq_false (by assumption)))]
  exact Zk (v := .bool false) rfl rfl rfl (by kernel_rfl) rfl
  refine Zcx (vx := .bool (decide (Zbw k.claims))) rfl rfl (.bool true) rfl (Eq.trans Za3 (congrArg (fun b => some (Value.bool !b)) h6)) ?_
  refine Zg (.bool true) (Zd (Ze (Z4 rfl (Zi (Zm (Zc (.bool false) (Zd (Ze (Zs (Zv (Zq ?_)))))))))))
  rw [show decide (Za6 k) = false from decide_eq_false (fun q => by obtain ⟨q1, q2, q3, q4, q5, q6⟩ := q; rw [hn] at q6; first | omega | exact absurd q3 (of_decide_eq_false (by assumption)) | exact absurd q4 (of_decide_eq_false (by assumption)))]
  exact Zk (v := .bool false) rfl rfl rfl (by kernel_rfl) rfl
  refine Zcx (vx := .bool (decide (Zb2 k.items))) rfl rfl (.bool true) rfl (Eq.trans Za3 (congrArg (fun b => some (Value.bool !b)) h5)) ?_
  refine Zg (.bool true) (Zb (.bool true) (Za (Za (Za (Za (Zg (.bool true) (Zd (Ze (Z4 rfl (Zi (Zm (Zc (.bool false) (Zd (Ze (Zs (Zv (Zq ?_)))))))))))))))))
  rw [show decide (Za6 k) = false from decide_eq_false (fun q => by obtain ⟨q1, q2, q3, q4, q5, q6⟩ := q; rw [hn] at q6; first | omega | exact absurd q3 (of_decide_eq_false (by assumption)) | exact absurd q4 (of_decide_eq_false (by assumption)))]
  exact Zk (v := .bool false) rfl rfl rfl (by kernel_rfl) rfl
  refine Zw ((Zam (G := G) k.log 1 k.epoch).res (congrArg Value.bool (Z2 (by omega)))) (vals := [Iv k.log, Iv 1, Iv k.epoch]) (res' := .bool false) rfl rfl rfl rfl rfl rfl ?_
  refine Zcx (vx := .bool false) rfl rfl (.bool true) rfl Za3 ?_
  refine Zg (.bool true) (Zb (.bool true) (Za (Za (Za (Za (Zg (.bool true) (Zb (.bool true) (Za (Za (Za (Za (Zg (.bool true) (Zd (Ze (Z4 rfl (Zi (Zm (Zc (.bool false) (Zd (Ze (Zs (Zv (Zq ?_)))))))))))))))))))))))
  rw [show decide (Za6 k) = false from decide_eq_false (fun q => by obtain ⟨q1, q2, q3, q4, q5, q6⟩ := q; rw [hn] at q6; first | omega | exact absurd q3 (of_decide_eq_false (by assumption)) | exact absurd q4 (of_decide_eq_false (by assumption)))]
  exact Zk (v := .bool false) rfl rfl rfl (by kernel_rfl) rfl
  refine Zw ((Zam (G := G) k.log 1 k.epoch).res (congrArg Value.bool (Z2 (by omega)))) (vals := [Iv k.log, Iv 1, Iv k.epoch]) (res' := .bool false) rfl rfl rfl rfl rfl rfl ?_
  refine Zcx (vx := .bool false) rfl rfl (.bool true) rfl Za3 ?_
  refine Zg (.bool true) (Zb (.bool true) (Za (Za (Za (Za (Zg (.bool true) (Zb (.bool true) (Za (Za (Za (Za (Zg (.bool true) (Zd (Ze (Z4 rfl (Zi (Zm (Zc (.bool false) (Zd (Ze (Zs (Zv (Zq ?_)))))))))))))))))))))))
  rw [show decide (Za6 k) = false from decide_eq_false (fun q => by obtain ⟨q1, q2, q3, q4, q5, q6⟩ := q; rw [hn] at q6; first | omega | exact absurd q3 (of_decide_eq_false (by assumption)) | exact absurd q4 (of_decide_eq_false (by assumption)))]
  exact Zk (v := .bool false) rfl rfl rfl (by kernel_rfl) rfl
  refine Zw ((Zam (G := G) k.epoch 1 900000000).res (congrArg Value.bool (Z2 (by omega)))) (vals := [Iv k.epoch, Iv 1, Iv 900000000]) (res' := .bool false) rfl rfl rfl rfl rfl rfl ?_
  refine Zcx (vx := .bool false) rfl rfl (.bool true) rfl Za3 ?_
  refine Zb (.bool true) (Za (Za (Za (Za (Za (Za (Zg (.bool true) (Zb (.bool true) (Za (Za (Za (Za (Zg (.bool true) (Zb (.bool true) (Za (Za (Za (Za (Zg (.bool true) (Zd (Ze (Z4 rfl (Zi (Zm (Zc (.bool false) (Zd (Ze (Zs (Zv (Zq ?_))))))))))))))))))))))))))))))
  rw [show decide (Za6 k) = false from decide_eq_false (fun q => by obtain ⟨q1, q2, q3, q4, q5, q6⟩ := q; rw [hn] at q6; first | omega | exact absurd q3 (of_decide_eq_false (by assumption)) | exact absurd q4 (of_decide_eq_false (by assumption)))]
  exact Zk (v := .bool false) rfl rfl rfl (by kernel_rfl) rfl
  refine Zw ((Zam (G := G) k.epoch 1 900000000).res (congrArg Value.bool (Z2 (by omega)))) (vals := [Iv k.epoch, Iv 1, Iv 900000000]) (res' := .bool false) rfl rfl rfl rfl rfl rfl ?_
  refine Zcx (vx := .bool false) rfl rfl (.bool true) rfl Za3 ?_
  refine Zb (.bool true) (Za (Za (Za (Za (Za (Za (Zg (.bool true) (Zb (.bool true) (Za (Za (Za (Za (Zg (.bool true) (Zb (.bool true) (Za (Za (Za (Za (Zg (.bool true) (Zd (Ze (Z4 rfl (Zi (Zm (Zc (.bool false) (Zd (Ze (Zs (Zv (Zq ?_))))))))))))))))))))))))))))))
  rw [show decide (Za6 k) = false from decide_eq_false (fun q => by obtain ⟨q1, q2, q3, q4, q5, q6⟩ := q; rw [hn] at q6; first | omega | exact absurd q3 (of_decide_eq_false (by assumption)) | exact absurd q4 (of_decide_eq_false (by assumption)))]
  exact Zk (v := .bool false) rfl rfl rfl (by kernel_rfl) rfl
theorem Zn0 (k : Kept) (n c m d : Nat) (hn : k.items.length = n) (hm : k.claims.length = m) (hc : n ≤ c) (hd : m ≤ d) (hb : n ≤ 1048576) (hb2 : m ≤ 1048576) : Zat Try.prog G 13 [mxV ([Iv k.epoch, Iv k.log, slv 0 0 n c, slv 1 0 m d])] [rwR Zj k.items, rwR Zh k.claims] (Iv (Zwn k)) [rwR Zj k.items, rwR Zh k.claims] := by
  refine Zcg (fn := Try.f13) (nt := 11) rfl rfl rfl rfl ?_
  refine Za8 1 (H' := [rwR Zj k.items, rwR Zh k.claims, hole]) rfl ?_
  refine Zi (Zm (Zbn (v := mxV ([Iv k.epoch, Iv k.log, slv 0 0 n c, slv 1 0 m d])) (b := mxB 4 ([Iv k.epoch, Iv k.log, slv 0 0 n c, slv 1 0 m d])) (nid := 2) (H' := [rwR Zj k.items, rwR Zh k.claims, mxB 4 ([Iv k.epoch, Iv k.log, slv 0 0 n c, slv 1 0 m d])]) (Zc (Iv 0) (Zd (Ze (Zi (Zi (Zm (Zl (p := pt 2 0) (v := mxV ([Iv k.epoch, Iv k.log, slv 0 0 n c, slv 1 0 m d])) ?_)))))))))
  refine Zab (e := [some (0, 0), some (1, 0)]) (nid := 0) (Ze5 (G := G) k n c m d hn hm (by omega) (by omega) (by omega) (by omega)) (vals := [mxV ([Iv k.epoch, Iv k.log, slv 0 0 n c, slv 1 0 m d])]) (v := Iv (Zd8 k)) (H' := [rwR Zj k.items, rwR Zh k.claims, mxB 4 ([Iv k.epoch, Iv k.log, slv 0 0 n c, slv 1 0 m d])]) rfl rfl rfl rfl rfl rfl rfl ⟨⟨(Zah (by kernel_rfl) ⟨⟨rfl, rfl⟩, ⟨rfl, rfl⟩, ⟨rfl, rfl, rfl, by first | omega | exact Nat.le_refl _, by first | omega | exact Nat.le_refl _⟩, ⟨rfl, rfl, rfl, by first | omega | exact Nat.le_refl _, by first | omega | exact Nat.le_refl _⟩, trivial⟩), trivial⟩, ⟨(Zaf rfl), (Zaf rfl), trivial⟩, rfl, rfl, rfl⟩ rfl (by kernel_rfl) ?_
  by_cases h1 : (Zd8 k) ≠ 0
  refine Zn (vx := Iv (Zd8 k)) (vy := Iv 0) rfl rfl (.bool true) rfl rfl (Zd5 (by omega)) ?_
  refine Zd (Ze (Z4 rfl (Zi (Zm (Zc (Iv 0) (Zd (Ze (Zs (Zv (Zq ?_))))))))))
  rw [show Zwn k = 0 from if_neg (Zby (by omega))]
  exact Zk (v := Iv 0) rfl rfl rfl (by kernel_rfl) rfl
  refine Zn (vx := Iv (Zd8 k)) (vy := Iv 0) rfl rfl (.bool false) rfl rfl (Zd4 (by omega)) ?_
  refine Zd (Ze (Zz rfl (Z9 (Ze (Zi (Zm (Zf (b := 2) (o := 0) (n := 1) (o' := 1) (Zl (p := pt 2 1) (v := Iv k.log) (Zf (b := 2) (o := 0) (n := 2) (o' := 2) (Zl (p := pt 2 2) (v := slv 0 0 n c) ?_))))))))))
  refine Zab (e := [some (0, 0)]) (nid := 0) (Zol (G := G) k.log k.items n c hn (by omega) (by omega)) (vals := [Iv k.log, slv 0 0 n c]) (v := Iv (Zc5 k.log k.items)) (H' := [rwR Zj k.items, rwR Zh k.claims, mxB 4 ([Iv k.epoch, Iv k.log, slv 0 0 n c, slv 1 0 m d])]) rfl rfl rfl rfl rfl rfl rfl ⟨⟨rfl, ⟨rfl, rfl, rfl, by first | omega | exact Nat.le_refl _, by first | omega | exact Nat.le_refl _⟩, trivial⟩, ⟨(Zaf rfl), trivial⟩, rfl, rfl, rfl⟩ rfl (by kernel_rfl) ?_
  refine Zc (Iv (Zc5 k.log k.items)) (Zd (Ze (Zs (Zq ?_))))
  rw [show Zwn k = (Zc5 k.log k.items) from if_pos (Zcs (by omega))]
  exact Zk (v := Iv (Zc5 k.log k.items)) rfl rfl rfl (by kernel_rfl) rfl
theorem Zzf  : Zat Try.prog G 16 [] [] (mxV ([Iv 1, Iv 1, .slice none 0 0, .slice none 0 0])) [] := by
 refine Zcg (fn := Try.f16) (nt := 2) rfl rfl rfl rfl ?_
 refine Za8 1 (H' := [hole]) rfl ?_
 refine Zi (Zm (Zbf (b := mxB 4 ([Iv 0, Iv 0, .slice none 0 0, .slice none 0 0])) (nid := 0) (H' := [mxB 4 ([Iv 0, Iv 0, .slice none 0 0, .slice none 0 0])]) (Zd (Ze (Zi (Zm ?_))))))
 refine Za0 (vs := [(0, Iv 1), (1, Iv 1)]) (v := mxV ([Iv 1, Iv 1, .slice none 0 0, .slice none 0 0])) rfl rfl rfl (by kernel_rfl) ?_
 refine Z5 (p := pt 0 0) (v := mxV ([Iv 1, Iv 1, .slice none 0 0, .slice none 0 0])) (b := 0) (blk := mxB 4 ([Iv 1, Iv 1, .slice none 0 0, .slice none 0 0])) (H' := [mxB 4 ([Iv 1, Iv 1, .slice none 0 0, .slice none 0 0])]) (Zd (Ze (Zs (Zq ?_))))
 exact Zk (v := mxV ([Iv 1, Iv 1, .slice none 0 0, .slice none 0 0])) rfl rfl rfl (by kernel_rfl) (Zk3 (by kernel_rfl) rfl)
abbrev Y4  : Blk := mxB 4 ([Iv 0, Iv 0, .slice none 0 0, .slice none 0 0])
theorem Zm6 (k : Kept) (n c m d : Nat) (hn : k.items.length = n) (hm : k.claims.length = m) (hc : n ≤ c) (hd : m ≤ d) (hb : n ≤ 1048576) (hb2 : m ≤ 1048576) : Zat Try.prog G 9 [mxV ([Iv k.epoch, Iv k.log, slv 0 0 n c, slv 1 0 m d])] [rwR Zj k.items, rwR Zh k.claims] (mxV ([Iv k.epoch, Iv k.log, slv 2 0 n n, slv 3 0 m m])) [rwR Zj k.items, rwR Zh k.claims, rwB Zj k.items, rwB Zh k.claims] := by
  refine Zcg (fn := Try.f9) (nt := 12) rfl rfl rfl rfl ?_
  refine Za8 4 (H' := [rwR Zj k.items, rwR Zh k.claims, hole, hole, hole, hole]) rfl ?_
  refine Zi (Zm (Zbn (v := mxV ([Iv k.epoch, Iv k.log, slv 0 0 n c, slv 1 0 m d])) (b := mxB 4 ([Iv k.epoch, Iv k.log, slv 0 0 n c, slv 1 0 m d])) (nid := 2) (H' := [rwR Zj k.items, rwR Zh k.claims, mxB 4 ([Iv k.epoch, Iv k.log, slv 0 0 n c, slv 1 0 m d]), hole, hole, hole]) (Zbf (b := mxB 4 ([Iv 0, Iv 0, .slice none 0 0, .slice none 0 0])) (nid := 3) (H' := [rwR Zj k.items, rwR Zh k.claims, mxB 4 ([Iv k.epoch, Iv k.log, slv 0 0 n c, slv 1 0 m d]), Y4, hole, hole]) (Zd (Ze (Zi (Zm (Zf (b := 2) (o := 0) (n := 2) (o' := 2) (Zl (p := pt 2 2) (v := slv 0 0 n c) ?_)))))))))
  refine Zab (e := [some (0, 0)]) (nid := 4) (Zld (G := G) k.items n c hn (by omega) (by omega)) (vals := [slv 0 0 n c]) (v := slv 4 0 n n) (H' := [rwR Zj k.items, rwR Zh k.claims, mxB 4 ([Iv k.epoch, Iv k.log, slv 0 0 n c, slv 1 0 m d]), Y4, rwB Zj k.items, hole]) rfl rfl rfl rfl rfl rfl rfl ⟨⟨⟨rfl, rfl, rfl, by first | omega | exact Nat.le_refl _, by first | omega | exact Nat.le_refl _⟩, trivial⟩, ⟨(Zaf rfl), trivial⟩, rfl, rfl, rfl⟩ (by kernel_rfl) (by kernel_rfl) ?_
  refine Zf (b := 2) (o := 0) (n := 2) (o' := 2) (Z5 (p := pt 2 2) (v := slv 4 0 n n) (b := 2) (blk := mxB 4 ([Iv k.epoch, Iv k.log, slv 4 0 n n, slv 1 0 m d])) (H' := [rwR Zj k.items, rwR Zh k.claims, mxB 4 ([Iv k.epoch, Iv k.log, slv 4 0 n n, slv 1 0 m d]), Y4, rwB Zj k.items, hole]) (Zd (Ze (Zi (Zm (Zf (b := 2) (o := 0) (n := 3) (o' := 3) (Zl (p := pt 2 3) (v := slv 1 0 m d) ?_)))))))
  refine Zab (e := [some (1, 0)]) (nid := 5) (Zsw (G := G) k.claims m d hm (by omega) (by omega)) (vals := [slv 1 0 m d]) (v := slv 5 0 m m) (H' := [rwR Zj k.items, rwR Zh k.claims, mxB 4 ([Iv k.epoch, Iv k.log, slv 4 0 n n, slv 1 0 m d]), Y4, rwB Zj k.items, rwB Zh k.claims]) rfl rfl rfl rfl rfl rfl rfl ⟨⟨⟨rfl, rfl, rfl, by first | omega | exact Nat.le_refl _, by first | omega | exact Nat.le_refl _⟩, trivial⟩, ⟨(Zaf rfl), trivial⟩, rfl, rfl, rfl⟩ (by kernel_rfl) (by kernel_rfl) ?_
  refine Zf (b := 2) (o := 0) (n := 3) (o' := 3) (Z5 (p := pt 2 3) (v := slv 5 0 m m) (b := 2) (blk := mxB 4 ([Iv k.epoch, Iv k.log, slv 4 0 n n, slv 5 0 m m])) (H' := [rwR Zj k.items, rwR Zh k.claims, mxB 4 ([Iv k.epoch, Iv k.log, slv 4 0 n n, slv 5 0 m m]), Y4, rwB Zj k.items, rwB Zh k.claims]) (Zd (Ze (Zi (Zm (Zl (p := pt 2 0) (v := mxV ([Iv k.epoch, Iv k.log, slv 4 0 n n, slv 5 0 m m])) (Z5 (p := pt 3 0) (v := mxV ([Iv k.epoch, Iv k.log, slv 4 0 n n, slv 5 0 m m])) (b := 3) (blk := mxB 4 ([Iv k.epoch, Iv k.log, slv 4 0 n n, slv 5 0 m m])) (H' := [rwR Zj k.items, rwR Zh k.claims, mxB 4 ([Iv k.epoch, Iv k.log, slv 4 0 n n, slv 5 0 m m]), mxB 4 ([Iv k.epoch, Iv k.log, slv 4 0 n n, slv 5 0 m m]), rwB Zj k.items, rwB Zh k.claims]) (Zd (Ze (Zs (Zq ?_)))))))))))
  exact Zar [0, 1, 4, 5] (v := mxV ([Iv k.epoch, Iv k.log, slv 4 0 n n, slv 5 0 m m])) rfl (by kernel_rfl) rfl rfl (by decide) (by simp [Zbr, rwB, rwR, Zj, Zh]) (Zah (by kernel_rfl) ⟨⟨rfl, rfl⟩, ⟨rfl, rfl⟩, ⟨rfl, rfl, rfl, by first | omega | exact Nat.le_refl _ | exact Nat.zero_le _ | (dsimp only; omega), by first | omega | exact Nat.le_refl _ | exact Nat.zero_le _ | (dsimp only; omega)⟩, ⟨rfl, rfl, rfl, by first | omega | exact Nat.le_refl _ | exact Nat.zero_le _ | (dsimp only; omega), by first | omega | exact Nat.le_refl _ | exact Nat.zero_le _ | (dsimp only; omega)⟩, trivial⟩)
abbrev Y5 (a : Kept) (n : Nat) (c : Nat) (m : Nat) (d : Nat) : Blk := mxB 4 ([Iv a.epoch, Iv a.log, slv 0 0 n c, slv 1 0 m d])
theorem Zls (a : Kept) (n c m d : Nat) (hn : a.items.length = n) (hm : a.claims.length = m) (hc : n ≤ c) (hd : m ≤ d) (hb : n ≤ 1048576) (hb2 : m ≤ 1048576) (b : Kept) (n' c' m' d' : Nat) (hn' : b.items.length = n') (hm' : b.claims.length = m') (hc' : n' ≤ c') (hd' : m' ≤ d') (hb' : n' ≤ 1048576) (hb2' : m' ≤ 1048576) : Zat Try.prog G 15 [mxV ([Iv a.epoch, Iv a.log, slv 0 0 n c, slv 1 0 m d]), mxV ([Iv b.epoch, Iv b.log, slv 2 0 n' c', slv 3 0 m' d'])] [rwR Zj a.items, rwR Zh a.claims, rwR Zj b.items, rwR Zh b.claims] (.bool (Zd6 a b)) [rwR Zj a.items, rwR Zh a.claims, rwR Zj b.items, rwR Zh b.claims] := by
  refine Zcg (fn := Try.f15) (nt := 31) rfl rfl rfl rfl ?_
  refine Za8 2 (H' := [rwR Zj a.items, rwR Zh a.claims, rwR Zj b.items, rwR Zh b.claims, hole, hole]) rfl ?_
  refine Zi (Zm (Zbn (v := mxV ([Iv a.epoch, Iv a.log, slv 0 0 n c, slv 1 0 m d])) (b := mxB 4 ([Iv a.epoch, Iv a.log, slv 0 0 n c, slv 1 0 m d])) (nid := 4) (H' := [rwR Zj a.items, rwR Zh a.claims, rwR Zj b.items, rwR Zh b.claims, Y5 a n c m d, hole]) (Zbn (v := mxV ([Iv b.epoch, Iv b.log, slv 2 0 n' c', slv 3 0 m' d'])) (b := mxB 4 ([Iv b.epoch, Iv b.log, slv 2 0 n' c', slv 3 0 m' d'])) (nid := 5) (H' := [rwR Zj a.items, rwR Zh a.claims, rwR Zj b.items, rwR Zh b.claims, Y5 a n c m d, mxB 4 ([Iv b.epoch, Iv b.log, slv 2 0 n' c', slv 3 0 m' d'])]) (Zc (.bool false) (Zd (Ze (Zi (Zm (Zf (b := 4) (o := 0) (n := 0) (o' := 0) (Zl (p := pt 4 0) (v := Iv a.epoch) (Zf (b := 5) (o := 0) (n := 0) (o' := 0) (Zl (p := pt 5 0) (v := Iv b.epoch) ?_))))))))))))
  by_cases h1 : a.epoch = b.epoch
  refine Zn (vx := Iv a.epoch) (vy := Iv b.epoch) rfl rfl (.bool true) rfl rfl (Zaj (by omega)) ?_
  refine Zb (.bool true) (Zf (b := 4) (o := 0) (n := 1) (o' := 1) (Zl (p := pt 4 1) (v := Iv a.log) (Zf (b := 5) (o := 0) (n := 1) (o' := 1) (Zl (p := pt 5 1) (v := Iv b.log) ?_))))
  by_cases h2 : a.log = b.log
  refine Zn (vx := Iv a.log) (vy := Iv b.log) rfl rfl (.bool true) rfl rfl (Zaj (by omega)) ?_
  refine Zg (.bool true) (Zb (.bool true) (Zf (b := 4) (o := 0) (n := 2) (o' := 2) (Zl (p := pt 4 2) (v := slv 0 0 n c) (Zf (b := 5) (o := 0) (n := 2) (o' := 2) (Zl (p := pt 5 2) (v := slv 2 0 n' c') ?_)))))
  refine Zab (e := [some (0, 0), some (2, 0)]) (nid := 0) (Zm7 (G := G) a.items b.items n c n' c' hn hn' (by omega) (by omega) (by omega) (by omega)) (vals := [slv 0 0 n c, slv 2 0 n' c']) (v := .bool (Zdv a.items b.items)) (H' := [rwR Zj a.items, rwR Zh a.claims, rwR Zj b.items, rwR Zh b.claims, Y5 a n c m d, mxB 4 ([Iv b.epoch, Iv b.log, slv 2 0 n' c', slv 3 0 m' d'])]) rfl rfl rfl rfl rfl rfl rfl ⟨⟨⟨rfl, rfl, rfl, by first | omega | exact Nat.le_refl _, by first | omega | exact Nat.le_refl _⟩, ⟨rfl, rfl, rfl, by first | omega | exact Nat.le_refl _, by first | omega | exact Nat.le_refl _⟩, trivial⟩, ⟨(Zaf rfl), (Zaf rfl), trivial⟩, rfl, rfl, rfl⟩ rfl (by kernel_rfl) ?_
  refine Zg (.bool (Zdv a.items b.items)) (Zb (.bool (Zdv a.items b.items)) ?_)
  rcases Bool.eq_false_or_eq_true (Zdv a.items b.items) with h3 | h3
  refine Zas (b := 4) (o := 0) (n := 3) (o' := 3) (by exact congrArg (fun b => some (b == true)) h3) rfl rfl rfl rfl ?_
  refine Zba (p := pt 4 3) (v := slv 1 0 m d) (by exact congrArg (fun b => some (b == true)) h3) rfl rfl (by kernel_rfl) ?_
  refine Zas (b := 5) (o := 0) (n := 3) (o' := 3) (by exact congrArg (fun b => some (b == true)) h3) rfl rfl rfl rfl ?_
  refine Zba (p := pt 5 3) (v := slv 3 0 m' d') (by exact congrArg (fun b => some (b == true)) h3) rfl rfl (by kernel_rfl) ?_
  refine Zab (e := [some (1, 0), some (3, 0)]) (nid := 0) (Zrj (G := G) a.claims b.claims m d m' d' hm hm' (by omega) (by omega) (by omega) (by omega)) (vals := [slv 1 0 m d, slv 3 0 m' d']) (v := .bool (Zdr a.claims b.claims)) (H' := [rwR Zj a.items, rwR Zh a.claims, rwR Zj b.items, rwR Zh b.claims, Y5 a n c m d, mxB 4 ([Iv b.epoch, Iv b.log, slv 2 0 n' c', slv 3 0 m' d'])]) (by exact congrArg (fun b => some (b == true)) h3) rfl rfl rfl rfl rfl rfl ⟨⟨⟨rfl, rfl, rfl, by first | omega | exact Nat.le_refl _, by first | omega | exact Nat.le_refl _⟩, ⟨rfl, rfl, rfl, by first | omega | exact Nat.le_refl _, by first | omega | exact Nat.le_refl _⟩, trivial⟩, ⟨(Zaf rfl), (Zaf rfl), trivial⟩, rfl, rfl, rfl⟩ rfl (by kernel_rfl) ?_
  refine Zcw rfl rfl (.bool (Zdr a.claims b.claims)) (by show some (if _ then _ else _) = _; rw [h3] <;> rfl) ?_
  refine Zc (.bool (Zdr a.claims b.claims)) (Zd (Ze (Zs (Zq ?_))))
  rw [show Zd6 a b = Zdr a.claims b.claims from Zyo (by omega) (by omega) (by assumption)]
  exact Zk (v := .bool (Zdr a.claims b.claims)) rfl rfl rfl (by kernel_rfl) rfl
  refine Zb1 (by exact congrArg (fun b => some (b == true)) h3) rfl ?_
  refine Zb1 (by exact congrArg (fun b => some (b == true)) h3) rfl ?_
  refine Zb1 (by exact congrArg (fun b => some (b == true)) h3) rfl ?_
  refine Zb1 (by exact congrArg (fun b => some (b == true)) h3) rfl ?_
  refine Zb1 (by exact congrArg (fun b => some (b == true)) h3) rfl ?_
  refine Zcw rfl rfl (.bool false) (by show some (if _ then _ else _) = _; rw [h3] <;> rfl) ?_
  refine Zc (.bool false) (Zd (Ze (Zs (Zq ?_))))
  rw [show Zd6 a b = false from Zp4 (fun q1 q2 q3 q4 => by first | omega | exact absurd q3 (by rw [‹Zdv _ _ = false›]; decide) | exact absurd q4 (by rw [‹Zdr _ _ = false›]; decide))]
  exact Zk (v := .bool false) rfl rfl rfl (by kernel_rfl) rfl
  refine Zn (vx := Iv a.log) (vy := Iv b.log) rfl rfl (.bool false) rfl rfl (Zaq (by omega)) ?_
  refine Zg (.bool false) (Zb (.bool false) (Za (Za (Za (Za (Za (Zg (.bool false) (Zb (.bool false) (Za (Za (Za (Za (Za (Zg (.bool false) (Zc (.bool false) (Zd (Ze (Zs (Zq ?_)))))))))))))))))))
  rw [show Zd6 a b = false from Zp4 (fun q1 q2 q3 q4 => by first | omega | exact absurd q3 (by rw [‹Zdv _ _ = false›]; decide) | exact absurd q4 (by rw [‹Zdr _ _ = false›]; decide))]
  exact Zk (v := .bool false) rfl rfl rfl (by kernel_rfl) rfl
  refine Zn (vx := Iv a.epoch) (vy := Iv b.epoch) rfl rfl (.bool false) rfl rfl (Zaq (by omega)) ?_
  refine Zb (.bool false) (Za (Za (Za (Za (Za (Zg (.bool false) (Zb (.bool false) (Za (Za (Za (Za (Za (Zg (.bool false) (Zb (.bool false) (Za (Za (Za (Za (Za (Zg (.bool false) (Zc (.bool false) (Zd (Ze (Zs (Zq ?_)))))))))))))))))))))))))
  rw [show Zd6 a b = false from Zp4 (fun q1 q2 q3 q4 => by first | omega | exact absurd q3 (by rw [‹Zdv _ _ = false›]; decide) | exact absurd q4 (by rw [‹Zdr _ _ = false›]; decide))]
  exact Zk (v := .bool false) rfl rfl rfl (by kernel_rfl) rfl
end Go.Flat
