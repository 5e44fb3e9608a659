/- Walks. -/
import Derived.Test.YtlnggiomppkjmaaDoorN1
set_option linter.unusedVariables false
set_option linter.unusedSimpArgs false
set_option maxRecDepth 20000
namespace Go.Flat
open Go.Proofs
variable {G : Glob}
structure Kept where
  epoch : Int
  log : Int
  items : List Item
  claims : List Claim
def Zzb (ep : Int) (x : Item) : Prop := x.epoch = ep ∧ x.entry.kind = 3 ∧ x.entry.claim.epoch = ep
instance (ep : Int) (x : Item) : Decidable (Zzb ep x) := inferInstanceAs (Decidable (_ ∧ _))
def ldB (ep : Int) (x : Item) : Bool := decide (Zzb ep x)
def Zmx (p : Item → Bool) (l : List Item) : Option Nat := (List.range l.length).find? fun i => p (l.getD i default)
def Zd3 (p : Item → Bool) (l : List Item) : Int := match Zmx p l with | some i => (i : Int) | none => -1
theorem Zsa {p : Item → Bool} {l : List Item} {i : Nat} (h : ∀ j, j < i → p (l.getD j default) = false) (hi : i < l.length) (hp : p (l.getD i default) = true) : Zmx p l = some i := by
 unfold Zmx
 rw [List.find?_range_eq_some]
 exact ⟨hp, List.mem_range.2 hi, fun j hj => by simp only [h j hj]; rfl⟩
theorem Zwu {p : Item → Bool} {l : List Item} (h : ∀ j, j < l.length → p (l.getD j default) = false) : Zmx p l = none := by
 unfold Zmx
 rw [List.find?_range_eq_none]
 exact fun j hj => by simp only [h j hj]; rfl
theorem Zyw {p : Item → Bool} {l : List Item} {i : Nat} (h : ∀ j, j < i → p (l.getD j default) = false) (hi : i < l.length) (hp : p (l.getD i default) = true) : Zd3 p l = (i : Int) := by
 unfold Zd3; rw [Zsa h hi hp]
theorem Zwv {p : Item → Bool} {l : List Item} (h : ∀ j, j < l.length → p (l.getD j default) = false) : Zd3 p l = -1 := by
 unfold Zd3; rw [Zwu h]
theorem Zqs (p : Item → Bool) (l : List Item) : -1 ≤ Zd3 p l ∧ Zd3 p l < l.length ∧ (0 ≤ Zd3 p l → Zmx p l = some (Zd3 p l).toNat ∧ p (l.getD (Zd3 p l).toNat default) = true) ∧ (Zd3 p l < 0 → Zmx p l = none) := by
 unfold Zd3
 cases h : Zmx p l with
 | none => exact ⟨by decide, by show (-1 : Int) < _; omega, fun q => absurd q (by decide), fun _ => rfl⟩
 | some i =>
  have h' := h
  unfold Zmx at h'
  rw [List.find?_range_eq_some] at h'
  have := List.mem_range.1 h'.2.1
  exact ⟨by show (-1 : Int) ≤ (i : Int); omega, by show (i : Int) < _; omega, fun _ => ⟨rfl, h'.1⟩, fun q => absurd q (by show ¬ (i : Int) < 0; omega)⟩
def Zdl (ep : Int) (l : List Item) : Int := if ep = 1 then 1 else match Zmx (ldB ep) l with | some i => (l.getD i default).entry.claim.node | none => 0
theorem Zze {ep : Int} {l : List Item} (h : ep = 1) : Zdl ep l = 1 := if_pos h
theorem Zzc {ep : Int} {l : List Item} {i : Nat} (h1 : ¬ ep = 1) (h : ∀ j, j < i → ldB ep (l.getD j default) = false) (hi : i < l.length) (hp : ldB ep (l.getD i default) = true) : Zdl ep l = (l.getD i default).entry.claim.node := by
 unfold Zdl; rw [if_neg h1, Zsa h hi hp]
theorem Zzd {ep : Int} {l : List Item} (h1 : ¬ ep = 1) (h : 0 ≤ Zd3 (ldB ep) l) : Zdl ep l = (l.getD (Zd3 (ldB ep) l).toNat default).entry.claim.node := by
 unfold Zdl; rw [if_neg h1, ((Zqs (ldB ep) l).2.2.1 h).1]
theorem Zw3 {ep : Int} {l : List Item} (h1 : ¬ ep = 1) (h : Zd3 (ldB ep) l < 0) : Zdl ep l = 0 := by
 unfold Zdl; rw [if_neg h1, (Zqs (ldB ep) l).2.2.2 h]
theorem Zws {l : List Item} : ∀ {ep : Int} {i : Nat}, Zfa ep l = true → i < l.length → Zcr (l.getD i default) := by
 induction l with
 | nil => intro ep i _ h; simp at h
 | cons x l ih =>
  intro ep i h hi
  rw [Zfa, Bool.and_eq_true, Bool.and_eq_true] at h
  cases i with
  | zero => exact of_decide_eq_true h.1.1
  | succ i => exact ih h.2 (by simpa using hi)
theorem Zsg {ep : Int} {l : List Item} (hr : Zim l) (h : ¬ Zdl ep l = 0) : 0 < Zdl ep l := by
 unfold Zdl at h ⊢
 split at h
 ·rename_i h1; rw [if_pos h1]; decide
 ·rename_i h1
  rw [if_neg h1]
  cases ho : Zmx (ldB ep) l with
  | none => rw [ho] at h; exact absurd rfl h
  | some i =>
   unfold Zmx at ho
   rw [List.find?_range_eq_some] at ho
   have hi := List.mem_range.1 ho.2.1
   have hk : (l.getD i default).entry.kind = 3 := (of_decide_eq_true ho.1 : Zzb ep _).2.1
   have hg := (Zws hr.2 hi).2.2
   have hc : Zdb (l.getD i default).entry.claim := by
    rcases hg with q | q | q
    ·omega
    ·omega
    ·exact q.2.2.2.2.2
   show 0 < (l.getD i default).entry.claim.node
   have := hc.2.2.1.1
   omega
def Zkk (k : Kept) : Prop := (1 ≤ k.epoch ∧ k.epoch ≤ 900000000) ∧ (1 ≤ k.log ∧ k.log ≤ k.epoch) ∧ Zim k.items ∧ Zlf k.claims ∧ 0 < Zdl k.log k.items ∧ (k.items.length = 0 ∨ (k.items.getD (k.items.length - 1) default).epoch ≤ k.log)
instance (k : Kept) : Decidable (Zkk k) := inferInstanceAs (Decidable (_ ∧ _))
def Zf8 (k : Kept) : Int := if Zkk k then 0 else 1
theorem Zrr {k : Kept} (h : Zf8 k = 0) : Zkk k := by
 unfold Zf8 at h
 split at h
 ·assumption
 ·omega
theorem Zhu {k : Kept} (h : ¬ Zf8 k = 0) : ¬ Zkk k := fun q => h (if_pos q)
def Zn8 (k : Kept) : Int := if Zkk k then Zdl k.log k.items else 0
def Z6u (a b : Kept) : Bool := decide (a.epoch = b.epoch ∧ a.log = b.log) && (Ze4 a.items b.items && Z4i a.claims b.claims)
theorem Zt5 (ep : Int) (x : Item) : Z4 Tryd.prog G 58 [Zcs x, pt 0 0] [bxB 1 ([Iv ep])] (.bool (ldB ep x)) [bxB 1 ([Iv ep])] := by
 refine Zbd (fn := Tryd.f58) (nt := 22) rfl rfl rfl rfl ?_
 refine Zae 1 (H' := [bxB 1 ([Iv ep]), hole]) rfl ?_
 refine Ze (Zg (Zbs (v := Zcs x) (b := bxB 110 (Zb5 x)) (nid := 1) (H' := [bxB 1 ([Iv ep]), bxB 110 (Zb5 x)]) (Zc (.bool false) (Za (Zb (Ze (Zg (Zi (b := 1) (o := 0) (n := 0) (o' := 0) (Zm (p := pt 1 0) (v := Iv x.epoch) (Zm (p := pt 0 0) (v := Iv ep) ?_))))))))))
 by_cases h1 : x.epoch = ep
 refine Zl (vx := Iv x.epoch) (vy := Iv ep) rfl rfl (.bool true) rfl rfl (Zc2 (by omega)) ?_
 refine Zd (.bool true) (Zi (b := 1) (o := 0) (n := 1) (o' := 1) (Zi (b := 1) (o := 1) (n := 0) (o' := 1) (Zm (p := pt 1 1) (v := Iv x.entry.kind) ?_)))
 by_cases h2 : x.entry.kind = 3
 refine Zl (vx := Iv x.entry.kind) (vy := Iv 3) rfl rfl (.bool true) rfl rfl (Zc2 (by omega)) ?_
 refine Zj (.bool true) (Zd (.bool true) (Zi (b := 1) (o := 0) (n := 1) (o' := 1) (Zi (b := 1) (o := 1) (n := 73) (o' := 74) (Zi (b := 1) (o := 74) (n := 1) (o' := 75) (Zm (p := pt 1 75) (v := Iv x.entry.claim.epoch) (Zm (p := pt 0 0) (v := Iv ep) ?_))))))
 by_cases h3 : x.entry.claim.epoch = ep
 refine Zl (vx := Iv x.entry.claim.epoch) (vy := Iv ep) rfl rfl (.bool true) rfl rfl (Zc2 (by omega)) ?_
 refine Zj (.bool true) (Zc (.bool true) (Za (Zb (Zr (Zs ?_)))))
 rw [show ldB ep x = true from decide_eq_true ⟨by omega, by omega, by omega⟩]
 exact Zk (v := .bool true) rfl rfl rfl (by kernel_rfl) rfl
 refine Zl (vx := Iv x.entry.claim.epoch) (vy := Iv ep) rfl rfl (.bool false) rfl rfl (Zed (by omega)) ?_
 refine Zj (.bool false) (Zc (.bool false) (Za (Zb (Zr (Zs ?_)))))
 rw [show ldB ep x = false from decide_eq_false (fun q => by have := q.1; have := q.2.1; have := q.2.2; omega)]
 exact Zk (v := .bool false) rfl rfl rfl (by kernel_rfl) rfl
 refine Zl (vx := Iv x.entry.kind) (vy := Iv 3) rfl rfl (.bool false) rfl rfl (Zed (by omega)) ?_
 refine Zj (.bool false) (Zd (.bool false) (Zf (Zf (Zf (Zf (Zf (Zf (Zj (.bool false) (Zc (.bool false) (Za (Zb (Zr (Zs ?_)))))))))))))
 rw [show ldB ep x = false from decide_eq_false (fun q => by have := q.1; have := q.2.1; have := q.2.2; omega)]
 exact Zk (v := .bool false) rfl rfl rfl (by kernel_rfl) rfl
 refine Zl (vx := Iv x.epoch) (vy := Iv ep) rfl rfl (.bool false) rfl rfl (Zed (by omega)) ?_
 refine Zd (.bool false) (Zf (Zf (Zf (Zf (Zj (.bool false) (Zd (.bool false) (Zf (Zf (Zf (Zf (Zf (Zf (Zj (.bool false) (Zc (.bool false) (Za (Zb (Zr (Zs ?_))))))))))))))))))
 rw [show ldB ep x = false from decide_eq_false (fun q => by have := q.1; have := q.2.1; have := q.2.2; omega)]
 exact Zk (v := .bool false) rfl rfl rfl (by kernel_rfl) rfl
theorem Zqc (l : List Item) (n c : Nat) (hn : l.length = n) (hc : n ≤ c) (hb : n ≤ 1048576) (ep : Int) : Z4 Tryd.prog G 57 [slv 0 0 n c, .func (.func 58) #[] #[pt 1 0]] [rwR Zh l, bxB 1 ([Iv ep])] (Iv (Zd3 (ldB ep) l)) [rwR Zh l, bxB 1 ([Iv ep])] := by
  refine Zbd (fn := Tryd.f57) (nt := 19) rfl rfl rfl rfl ?_
  refine Ze (Zg (Zc (Iv 0) (Za (Zb (Ze (Ze (Zg (Zd (slv 0 0 n c) (Zba (p := slv 0 0 n c) (v := Iv (n : Nat)) (Zd (Iv 0) (Za (Zb (Z7 ?_)))))))))))))
  refine Zb2 (fun i : Nat => [slv 0 0 n c, .func (.func 58) #[] #[pt 1 0], dead, dead, dead, dead, slv 0 0 n c, Iv (n : Nat), Iv (i : Nat)]) (fun i : Nat => [rwR Zh l, bxB 1 ([Iv ep])]) (fun i : Nat => (∀ j, j < i → ldB ep (l.getD j default) = false) ∧ i ≤ n) (fun i : Nat => n - i) 0 ⟨fun _ h => absurd h (by omega), by omega⟩ ?_ ?_
  · refine Zah (n := 2) rfl ?_ (by kernel_rfl) (by kernel_rfl)
    repeat (first | exact trivial | refine ⟨.inl rfl, ?_⟩ | refine ⟨.inr ⟨rfl, rfl⟩, ?_⟩ | refine ⟨.inr ⟨congrArg (Value.int .i64) (by first | omega | (dsimp only; omega)), rfl⟩, ?_⟩)
  rintro i ⟨hR, hi⟩
  refine Ze (Zg ?_)
  by_cases h1 : (i : Nat) < (n : Nat)
  refine Zl (vx := Iv (i : Nat)) (vy := Iv (n : Nat)) rfl rfl (.bool true) rfl rfl (Zc0 (by omega)) ?_
  refine Za (Zb (Ze (Zy rfl (Zx (Zb (Ze (Z7 (Ze (Zg (Zd (Iv (i : Nat)) (Zc (Iv (i : Nat)) (Za (Zb (Ze (Zg (Zd (.func (.func 58) #[] #[pt 1 0]) (Zd (slv 0 0 n c) (Zd (Iv (i : Nat)) ?_))))))))))))))))))
  refine Zb1 (b := 0) (o := 0) (j := i * 110) (m := n) (c := c) (sz := 110) (i := (i : Nat)) (k := .i64) rfl rfl rfl rfl rfl (by omega) (by omega) (by omega) ?_
  refine Zaj (p := pt 0 (i * 110)) (v := Zcs (l.getD i default)) rfl rfl rfl (Zhf (n := 0) (m := 110) Zh rfl rfl rfl rfl (by have := hn; omega) (by omega)) ?_
  refine Z0 (e := [some (1, 0)]) (nid := 0) (Zt5 (G := G) ep (l.getD i default)) (vals := [Zcs (l.getD i default), pt 1 0]) (v := .bool (ldB ep (l.getD i default))) (H' := [rwR Zh l, bxB 1 ([Iv ep])]) rfl rfl rfl rfl rfl rfl rfl ⟨⟨rfl, ⟨rfl, rfl⟩, trivial⟩, ⟨(Zad rfl rfl rfl rfl), trivial⟩, rfl, rfl, rfl⟩ rfl (by kernel_rfl) ?_
  refine Za (Zb ?_)
  rcases Bool.eq_false_or_eq_true (ldB ep (l.getD i default)) with h2 | h2
  refine Zy (congrArg Value.bool h2) (Ze (Zg (Zd (Iv (i : Nat)) (Zc (Iv (i : Nat)) (Za (Zb (Zr (Zbg (Z3 (Zdu (Zbg (Z3 (Zs ?_)))))))))))))
  rw [show Zd3 (ldB ep) l = (i : Int) from Zyw hR (by omega) (by assumption)]
  exact Zk (v := Iv (i : Nat)) rfl rfl rfl (by kernel_rfl) rfl
  refine Zt (congrArg Value.bool h2) (Zx (Z8 (Zb (Zg ?_))))
  refine Zl (vx := Iv (i : Nat)) (vy := Iv 1) rfl rfl (Iv ((i : Nat) + 1)) rfl rfl (Zan (by omega) (by omega) (by omega)) ?_
  refine Zd (Iv ((i : Nat) + 1)) (Za ?_)
  refine Zak ⟨(i + 1), ⟨fun j hj => by rcases Nat.lt_or_ge j i with h | h; exact hR j h; obtain rfl : j = i := (by omega); assumption, by omega⟩, by show n - (i + 1) < n - i; omega, ?_⟩
  refine Zah (n := 2) rfl ?_ (by kernel_rfl) (by kernel_rfl)
  repeat (first | exact trivial | refine ⟨.inl rfl, ?_⟩ | refine ⟨.inr ⟨rfl, rfl⟩, ?_⟩ | refine ⟨.inr ⟨congrArg (Value.int .i64) (by first | omega | (dsimp only; omega)), rfl⟩, ?_⟩)
  refine Zl (vx := Iv (i : Nat)) (vy := Iv (n : Nat)) rfl rfl (.bool false) rfl rfl (Zct (by omega)) ?_
  refine Za (Zb (Ze (Zt rfl (Zbp (Zau (Za2 (Za1 rfl (Zb (Ze (Zg (Zc (Iv (-1)) (Za (Zb (Zr (Zs ?_)))))))))))))))
  rw [show Zd3 (ldB ep) l = -1 from Zwv (fun j hj => hR j (by omega))]
  exact Zk (v := Iv (-1)) rfl rfl rfl (by kernel_rfl) rfl
theorem Zpw (ep : Int) (l : List Item) (n c : Nat) (hn : l.length = n) (hc : n ≤ c) (hb : n ≤ 1048576) : Z4 Tryd.prog G 45 [Iv ep, slv 0 0 n c] [rwR Zh l] (Iv (Zdl ep l)) [rwR Zh l] := by
  refine Zbd (fn := Tryd.f45) (nt := 20) rfl rfl rfl rfl ?_
  refine Zae 1 (H' := [rwR Zh l, hole]) rfl ?_
  refine Ze (Zg (Zbs (v := Iv ep) (b := bxB 1 ([Iv ep])) (nid := 1) (H' := [rwR Zh l, bxB 1 ([Iv ep])]) (Zc (Iv 0) (Za (Zb (Ze (Ze (Zg (Zm (p := pt 1 0) (v := Iv ep) ?_)))))))))
  by_cases h1 : ep = 1
  refine Zl (vx := Iv ep) (vy := Iv 1) rfl rfl (.bool true) rfl rfl (Zc2 (by omega)) ?_
  refine Za (Zb (Zy rfl (Ze (Zg (Zc (Iv 1) (Za (Zb (Zr (Z3 (Zs ?_))))))))))
  rw [show Zdl ep l = 1 from Zze (by omega)]
  exact Zk (v := Iv 1) rfl rfl rfl (by kernel_rfl) rfl
  refine Zl (vx := Iv ep) (vy := Iv 1) rfl rfl (.bool false) rfl rfl (Zed (by omega)) ?_
  refine Za (Zb (Zt rfl (Zx (Zb (Ze (Zg (Zd (slv 0 0 n c) ?_)))))))
  refine Zgl (vs := []) (ws := [pt 1 0]) rfl rfl rfl rfl rfl ?_
  have hix2 := Zqs (ldB ep) l
  refine Z0 (e := [some (0, 0), some (1, 0)]) (nid := 0) (Zqc (G := G) l n c hn (by omega) (by omega) ep) (vals := [slv 0 0 n c, .func (.func 58) #[] #[pt 1 0]]) (v := Iv (Zd3 (ldB ep) l)) (H' := [rwR Zh l, bxB 1 ([Iv ep])]) rfl rfl rfl rfl rfl rfl rfl ⟨⟨⟨rfl, rfl, rfl, by first | omega | exact Nat.le_refl _, by first | omega | exact Nat.le_refl _⟩, ⟨by kernel_rfl, by kernel_rfl⟩, trivial⟩, ⟨(Zaz rfl), (Zad rfl rfl rfl rfl), trivial⟩, rfl, rfl, rfl⟩ rfl (by kernel_rfl) ?_
  refine Zc (Iv (Zd3 (ldB ep) l)) (Za (Zb (Ze (Ze (Zg (Zd (Iv (Zd3 (ldB ep) l)) ?_))))))
  by_cases h2 : (Zd3 (ldB ep) l) < 0
  refine Zl (vx := Iv (Zd3 (ldB ep) l)) (vy := Iv 0) rfl rfl (.bool true) rfl rfl (Zc0 (by omega)) ?_
  refine Za (Zb (Zy rfl (Ze (Zg (Zc (Iv 0) (Za (Zb (Zr (Z3 (Zs ?_))))))))))
  rw [show Zdl ep l = 0 from Zw3 (by omega) (by omega)]
  exact Zk (v := Iv 0) rfl rfl rfl (by kernel_rfl) rfl
  refine Zl (vx := Iv (Zd3 (ldB ep) l)) (vy := Iv 0) rfl rfl (.bool false) rfl rfl (Zct (by omega)) ?_
  refine Za (Zb (Zt rfl (Zx (Zb (Ze (Zg (Zd (slv 0 0 n c) (Zd (Iv (Zd3 (ldB ep) l)) ?_))))))))
  refine Zb1 (b := 0) (o := 0) (j := ((Zd3 (ldB ep) l).toNat) * 110) (m := n) (c := c) (sz := 110) (i := (Zd3 (ldB ep) l)) (k := .i64) rfl rfl rfl rfl rfl (by omega) (by omega) (by omega) ?_
  refine Zbk (b := 0) (o := ((Zd3 (ldB ep) l).toNat) * 110) (n := 1) (o' := ((Zd3 (ldB ep) l).toNat) * 110 + 1) rfl rfl rfl rfl (by omega) ?_
  refine Zbk (b := 0) (o := ((Zd3 (ldB ep) l).toNat) * 110 + 1) (n := 73) (o' := ((Zd3 (ldB ep) l).toNat) * 110 + 74) rfl rfl rfl rfl (by omega) ?_
  refine Zbk (b := 0) (o := ((Zd3 (ldB ep) l).toNat) * 110 + 74) (n := 2) (o' := ((Zd3 (ldB ep) l).toNat) * 110 + 76) rfl rfl rfl rfl (by omega) ?_
  refine Zaj (p := pt 0 (((Zd3 (ldB ep) l).toNat) * 110 + 76)) (v := Iv ((((l.getD ((Zd3 (ldB ep) l).toNat) default).entry).claim).node)) rfl rfl rfl (Zl9 Zh (l := l) (i := ((Zd3 (ldB ep) l).toNat)) (k := 76) (m := 110) rfl rfl rfl rfl (by have := hn; omega) (by omega) (by kernel_rfl) rfl) ?_
  refine Zc (Iv ((((l.getD ((Zd3 (ldB ep) l).toNat) default).entry).claim).node)) (Za (Zb (Zr (Zs ?_))))
  rw [show Zdl ep l = ((((l.getD ((Zd3 (ldB ep) l).toNat) default).entry).claim).node) from Zzd (by omega) (by omega)]
  exact Zk (v := Iv ((((l.getD ((Zd3 (ldB ep) l).toNat) default).entry).claim).node)) rfl rfl rfl (by kernel_rfl) rfl
theorem Zfs (n low high : Int) : Z4 Tryd.prog G 42 [Iv n, Iv low, Iv high] [] (.bool (Zcg n low high)) [] := by
 refine Zbd (fn := Tryd.f42) (nt := 15) rfl rfl rfl rfl ?_
 refine Ze (Zg (Zc (.bool false) (Za (Zb (Ze (Zg (Zd (Iv n) (Zd (Iv low) ?_))))))))
 by_cases h1 : low ≤ n
 refine Zl (vx := Iv n) (vy := Iv low) rfl rfl (.bool true) rfl rfl (Znx (by omega)) ?_
 refine Zd (.bool true) (Zd (Iv n) (Zd (Iv high) ?_))
 by_cases h2 : n ≤ high
 refine Zl (vx := Iv n) (vy := Iv high) rfl rfl (.bool true) rfl rfl (Zj3 (by omega)) ?_
 refine Zj (.bool true) (Zc (.bool true) (Za (Zb (Zr (Zs ?_)))))
 rw [show Zcg n low high = true from Zbn (by omega) (by omega)]
 exact Zk (v := .bool true) rfl rfl rfl (by kernel_rfl) rfl
 refine Zl (vx := Iv n) (vy := Iv high) rfl rfl (.bool false) rfl rfl (Zj2 (by omega)) ?_
 refine Zj (.bool false) (Zc (.bool false) (Za (Zb (Zr (Zs ?_)))))
 rw [show Zcg n low high = false from Zab (by omega)]
 exact Zk (v := .bool false) rfl rfl rfl (by kernel_rfl) rfl
 refine Zl (vx := Iv n) (vy := Iv low) rfl rfl (.bool false) rfl rfl (Znw (by omega)) ?_
 refine Zd (.bool false) (Zf (Zf (Zf (Zj (.bool false) (Zc (.bool false) (Za (Zb (Zr (Zs ?_)))))))))
 rw [show Zcg n low high = false from Zab (by omega)]
 exact Zk (v := .bool false) rfl rfl rfl (by kernel_rfl) rfl
abbrev Y3 (k : Kept) (n : Nat) (c : Nat) (m : Nat) (d : Nat) : Blk := mxB 4 ([Iv k.epoch, Iv k.log, slv 0 0 n c, slv 1 0 m d])
theorem Zlu (k : Kept) (n c m d : Nat) (hn : k.items.length = n) (hm : k.claims.length = m) (hc : n ≤ c) (hd : m ≤ d) (hb : n ≤ 1048576) (hb2 : m ≤ 1048576) : Z4 Tryd.prog G 20 [mxV ([Iv k.epoch, Iv k.log, slv 0 0 n c, slv 1 0 m d])] [rwR Zh k.items, rwR Zdh k.claims] (Iv (Zf8 k)) [rwR Zh k.items, rwR Zdh k.claims] := by
  refine Zbd (fn := Tryd.f20) (nt := 51) rfl rfl rfl rfl ?_
  refine Zae 1 (H' := [rwR Zh k.items, rwR Zdh k.claims, hole]) rfl ?_
  refine Ze (Zg (Zbs (v := mxV ([Iv k.epoch, Iv k.log, slv 0 0 n c, slv 1 0 m d])) (b := mxB 4 ([Iv k.epoch, Iv k.log, slv 0 0 n c, slv 1 0 m d])) (nid := 2) (H' := [rwR Zh k.items, rwR Zdh k.claims, Y3 k n c m d]) (Zc (Iv 0) (Za (Zb ?_)))))
  refine Z03 (l := 0) rfl ?_
  refine Ze (Zg (Zi (b := 2) (o := 0) (n := 2) (o' := 2) (Zm (p := pt 2 2) (v := slv 0 0 n c) (Zba (p := slv 0 0 n c) (v := Iv (n : Nat)) (Zc (Iv (n : Nat)) (Za (Zb (Ze (Ze (Zg (Zi (b := 2) (o := 0) (n := 0) (o' := 0) (Zm (p := pt 2 0) (v := Iv k.epoch) ?_))))))))))))
  by_cases h1 : 1 ≤ k.epoch
  by_cases h2 : k.epoch ≤ 900000000
  refine Zq ((Zfs (G := G) k.epoch 1 900000000).res (congrArg Value.bool (Zbn (by omega) (by omega)))) (vals := [Iv k.epoch, Iv 1, Iv 900000000]) (res' := .bool true) rfl rfl rfl rfl rfl rfl ?_
  refine Zgz (vx := .bool true) rfl rfl (.bool false) rfl Zdk ?_
  refine Zd (.bool false) (Zi (b := 2) (o := 0) (n := 1) (o' := 1) (Zm (p := pt 2 1) (v := Iv k.log) (Zi (b := 2) (o := 0) (n := 0) (o' := 0) (Zm (p := pt 2 0) (v := Iv k.epoch) ?_))))
  by_cases h3 : 1 ≤ k.log
  by_cases h4 : k.log ≤ k.epoch
  refine Zq ((Zfs (G := G) k.log 1 k.epoch).res (congrArg Value.bool (Zbn (by omega) (by omega)))) (vals := [Iv k.log, Iv 1, Iv k.epoch]) (res' := .bool true) rfl rfl rfl rfl rfl rfl ?_
  refine Zgz (vx := .bool true) rfl rfl (.bool false) rfl Zdk ?_
  refine Zj (.bool false) (Za (Zb (Zt rfl (Zx (Zb (Ze (Ze (Zg (Zi (b := 2) (o := 0) (n := 2) (o' := 2) (Zm (p := pt 2 2) (v := slv 0 0 n c) ?_))))))))))
  refine Z0 (e := [some (0, 0)]) (nid := 0) (Zpb (G := G) k.items n c hn (by omega) (by omega)) (vals := [slv 0 0 n c]) (v := Iv (Zjx k.items)) (H' := [rwR Zh k.items, rwR Zdh k.claims, Y3 k n c m d]) rfl rfl rfl rfl rfl rfl rfl ⟨⟨⟨rfl, rfl, rfl, by first | omega | exact Nat.le_refl _, by first | omega | exact Nat.le_refl _⟩, trivial⟩, ⟨(Zaz rfl), trivial⟩, rfl, rfl, rfl⟩ rfl (by kernel_rfl) ?_
  by_cases h5 : (Zjx k.items) ≠ 0
  refine Zl (vx := Iv (Zjx k.items)) (vy := Iv 0) rfl rfl (.bool true) rfl rfl (Zfc (by omega)) ?_
  refine Zd (.bool true) (Zf (Zf (Zf (Zf (Zj (.bool true) (Zd (.bool true) (Zf (Zf (Zf (Zf (Zf (Zf (Zj (.bool true) (Za (Zb (Zy rfl (Zj9 (Zip (Zg5 (Ze (Zx (Zb (Ze (Zg (Zc (Iv 1) (Za (Zb (Zr (Zox (Zs ?_))))))))))))))))))))))))))))))
  rw [show Zf8 k = 1 from if_neg (fun q => by obtain ⟨q1, q2, q3, q4, q5, q6⟩ := q; rw [hn] at q6; first | omega | exact Ze7 (by omega) q3 | exact Ze2 (by omega) q4)]
  exact Zk (v := Iv 1) rfl rfl rfl (by kernel_rfl) rfl
  refine Zl (vx := Iv (Zjx k.items)) (vy := Iv 0) rfl rfl (.bool false) rfl rfl (Ze3 (by omega)) ?_
  refine Zd (.bool false) (Zi (b := 2) (o := 0) (n := 3) (o' := 3) (Zm (p := pt 2 3) (v := slv 1 0 m d) ?_))
  refine Z0 (e := [some (1, 0)]) (nid := 0) (Zv9 (G := G) k.claims m d hm (by omega) (by omega)) (vals := [slv 1 0 m d]) (v := Iv (Zi3 k.claims)) (H' := [rwR Zh k.items, rwR Zdh k.claims, Y3 k n c m d]) rfl rfl rfl rfl rfl rfl rfl ⟨⟨⟨rfl, rfl, rfl, by first | omega | exact Nat.le_refl _, by first | omega | exact Nat.le_refl _⟩, trivial⟩, ⟨(Zaz rfl), trivial⟩, rfl, rfl, rfl⟩ rfl (by kernel_rfl) ?_
  by_cases h6 : (Zi3 k.claims) ≠ 0
  refine Zl (vx := Iv (Zi3 k.claims)) (vy := Iv 0) rfl rfl (.bool true) rfl rfl (Zfc (by omega)) ?_
  refine Zj (.bool true) (Zd (.bool true) (Zf (Zf (Zf (Zf (Zf (Zf (Zj (.bool true) (Za (Zb (Zy rfl (Zj9 (Zip (Zg5 (Ze (Zx (Zb (Ze (Zg (Zc (Iv 1) (Za (Zb (Zr (Zox (Zs ?_)))))))))))))))))))))))))
  rw [show Zf8 k = 1 from if_neg (fun q => by obtain ⟨q1, q2, q3, q4, q5, q6⟩ := q; rw [hn] at q6; first | omega | exact Ze7 (by omega) q3 | exact Ze2 (by omega) q4)]
  exact Zk (v := Iv 1) rfl rfl rfl (by kernel_rfl) rfl
  refine Zl (vx := Iv (Zi3 k.claims)) (vy := Iv 0) rfl rfl (.bool false) rfl rfl (Ze3 (by omega)) ?_
  refine Zj (.bool false) (Zd (.bool false) (Zi (b := 2) (o := 0) (n := 1) (o' := 1) (Zm (p := pt 2 1) (v := Iv k.log) (Zi (b := 2) (o := 0) (n := 2) (o' := 2) (Zm (p := pt 2 2) (v := slv 0 0 n c) ?_)))))
  refine Z0 (e := [some (0, 0)]) (nid := 0) (Zpw (G := G) k.log k.items n c hn (by omega) (by omega)) (vals := [Iv k.log, slv 0 0 n c]) (v := Iv (Zdl k.log k.items)) (H' := [rwR Zh k.items, rwR Zdh k.claims, Y3 k n c m d]) rfl rfl rfl rfl rfl rfl rfl ⟨⟨rfl, ⟨rfl, rfl, rfl, by first | omega | exact Nat.le_refl _, by first | omega | exact Nat.le_refl _⟩, trivial⟩, ⟨(Zaz rfl), trivial⟩, rfl, rfl, rfl⟩ rfl (by kernel_rfl) ?_
  by_cases h7 : (Zdl k.log k.items) = 0
  refine Zl (vx := Iv (Zdl k.log k.items)) (vy := Iv 0) rfl rfl (.bool true) rfl rfl (Zc2 (by omega)) ?_
  refine Zj (.bool true) (Za (Zb (Zy rfl (Zj9 (Zip (Zg5 (Ze (Zx (Zb (Ze (Zg (Zc (Iv 1) (Za (Zb (Zr (Zox (Zs ?_)))))))))))))))))
  rw [show Zf8 k = 1 from if_neg (fun q => by obtain ⟨q1, q2, q3, q4, q5, q6⟩ := q; rw [hn] at q6; first | omega | exact Ze7 (by omega) q3 | exact Ze2 (by omega) q4)]
  exact Zk (v := Iv 1) rfl rfl rfl (by kernel_rfl) rfl
  refine Zl (vx := Iv (Zdl k.log k.items)) (vy := Iv 0) rfl rfl (.bool false) rfl rfl (Zed (by omega)) ?_
  refine Zj (.bool false) (Za (Zb (Zt rfl (Zx (Zb (Ze (Ze ?_)))))))
  refine Zgo (by kernel_rfl) ?_
  refine Zd (Iv (n : Nat)) ?_
  by_cases h8 : (n : Nat) = 0
  refine Zl (vx := Iv (n : Nat)) (vy := Iv 0) rfl rfl (.bool true) rfl rfl (Zc2 (by omega)) ?_
  refine Zd (.bool true) (Zf (Zf (Zf (Zf (Zf (Zf (Zf (Zf (Zf (Zf (Zj (.bool true) ?_)))))))))))
  refine Zef (Zd8 [[], [0], [0, 1], [0, 1, 2], [0, 1, 2, 3], [0, 1, 2], [0, 1, 2, 5], [0, 1, 2, 3, 4, 5, 6], [0, 1, 2, 3, 4, 5, 6, 7], [0, 1, 2, 3, 4, 5, 6, 7, 8], [0, 1, 2], [0, 1, 2, 10], [0, 1, 2, 3, 4, 5, 6, 7, 8, 9, 10, 11], [0, 1, 2, 3, 4, 5, 6, 7, 8, 9, 10, 11, 12]] (by kernel_rfl) (by kernel_rfl)) ?_
  refine Zb (Zy rfl (Ze (Zg (Zc (Iv 0) (Za (Zb (Zr (Z3 (Zoy (Zs ?_))))))))))
  rw [show Zf8 k = 0 from if_pos ⟨by omega, by omega, Zgp (by omega), Zpf (by omega), Zsg (Zgp (by omega)) (by omega), by rw [hn]; omega⟩]
  exact Zk (v := Iv 0) rfl rfl rfl (by kernel_rfl) rfl
  refine Zl (vx := Iv (n : Nat)) (vy := Iv 0) rfl rfl (.bool false) rfl rfl (Zed (by omega)) ?_
  refine Zd (.bool false) (Zi (b := 2) (o := 0) (n := 2) (o' := 2) (Zm (p := pt 2 2) (v := slv 0 0 n c) (Zd (Iv (n : Nat)) ?_)))
  refine Zl (vx := Iv (n : Nat)) (vy := Iv 1) rfl rfl (Iv ((n : Nat) - 1)) rfl rfl (Zg8 (by omega) (by omega) (by omega)) ?_
  refine Zb1 (b := 0) (o := 0) (j := (n - 1) * 110) (m := n) (c := c) (sz := 110) (i := (n : Nat) - 1) (k := .i64) rfl rfl rfl rfl rfl (by omega) (by omega) (by omega) ?_
  refine Zbk (b := 0) (o := (n - 1) * 110) (n := 0) (o' := (n - 1) * 110) rfl rfl rfl rfl (by omega) ?_
  refine Zaj (p := pt 0 ((n - 1) * 110)) (v := Iv ((k.items.getD (n - 1) default).epoch)) rfl rfl rfl (Zl9 Zh (l := k.items) (i := n - 1) (k := 0) (m := 110) rfl rfl rfl rfl (by have := hn; omega) (by omega) (by kernel_rfl) rfl) ?_
  refine Zi (b := 2) (o := 0) (n := 1) (o' := 1) (Zm (p := pt 2 1) (v := Iv k.log) ?_)
  by_cases h9 : ((k.items.getD (n - 1) default).epoch) ≤ k.log
  refine Zl (vx := Iv ((k.items.getD (n - 1) default).epoch)) (vy := Iv k.log) rfl rfl (.bool true) rfl rfl (Zj3 (by omega)) ?_
  refine Zj (.bool true) ?_
  refine Zef (Zd8 [[], [0], [0, 1], [0, 1, 2], [0, 1, 2, 3], [0, 1, 2], [0, 1, 2, 5], [0, 1, 2, 3, 4, 5, 6], [0, 1, 2, 3, 4, 5, 6, 7], [0, 1, 2, 3, 4, 5, 6, 7, 8], [0, 1, 2], [0, 1, 2, 10], [0, 1, 2, 3, 4, 5, 6, 7, 8, 9, 10, 11], [0, 1, 2, 3, 4, 5, 6, 7, 8, 9, 10, 11, 12]] (by kernel_rfl) (by kernel_rfl)) ?_
  refine Zb (Zy rfl (Ze (Zg (Zc (Iv 0) (Za (Zb (Zr (Z3 (Zoy (Zs ?_))))))))))
  rw [show Zf8 k = 0 from if_pos ⟨by omega, by omega, Zgp (by omega), Zpf (by omega), Zsg (Zgp (by omega)) (by omega), by rw [hn]; omega⟩]
  exact Zk (v := Iv 0) rfl rfl rfl (by kernel_rfl) rfl
  refine Zl (vx := Iv ((k.items.getD (n - 1) default).epoch)) (vy := Iv k.log) rfl rfl (.bool false) rfl rfl (Zj2 (by omega)) ?_
  refine Zj (.bool false) ?_
  refine Zef (Zd8 [[], [0], [0, 1], [0, 1, 2], [0, 1, 2, 3], [0, 1, 2], [0, 1, 2, 5], [0, 1, 2, 3, 4, 5, 6], [0, 1, 2, 3, 4, 5, 6, 7], [0, 1, 2, 3, 4, 5, 6, 7, 8], [0, 1, 2], [0, 1, 2, 10], [0, 1, 2, 3, 4, 5, 6, 7, 8, 9, 10, 11], [0, 1, 2, 3, 4, 5, 6, 7, 8, 9, 10, 11, 12]] (by kernel_rfl) (by kernel_rfl)) ?_
  refine Zb (Zt rfl (Zx (Zb (Ze (Z02 (Zb (Ze (Zg (Zc (Iv 1) (Za (Zb (Zr (Zoy (Zs ?_))))))))))))))
  rw [show Zf8 k = 1 from if_neg (fun q => by obtain ⟨q1, q2, q3, q4, q5, q6⟩ := q; rw [hn] at q6; first | omega | exact Ze7 (by omega) q3 | exact Ze2 (by omega) q4)]
  exact Zk (v := Iv 1) rfl rfl rfl (by kernel_rfl) rfl
  refine Zq ((Zfs (G := G) k.log 1 k.epoch).res (congrArg Value.bool (Zab (by omega)))) (vals := [Iv k.log, Iv 1, Iv k.epoch]) (res' := .bool false) rfl rfl rfl rfl rfl rfl ?_
  refine Zgz (vx := .bool false) rfl rfl (.bool true) rfl Zdk ?_
  refine Zj (.bool true) (Za (Zb (Zy rfl (Zj9 (Zip (Zg5 (Ze (Zx (Zb (Ze (Zg (Zc (Iv 1) (Za (Zb (Zr (Zox (Zs ?_)))))))))))))))))
  rw [show Zf8 k = 1 from if_neg (fun q => by obtain ⟨q1, q2, q3, q4, q5, q6⟩ := q; rw [hn] at q6; first | omega | exact Ze7 (by omega) q3 | exact Ze2 (by omega) q4)]
  exact Zk (v := Iv 1) rfl rfl rfl (by kernel_rfl) rfl
  refine Zq ((Zfs (G := G) k.log 1 k.epoch).res (congrArg Value.bool (Zab (by omega)))) (vals := [Iv k.log, Iv 1, Iv k.epoch]) (res' := .bool false) rfl rfl rfl rfl rfl rfl ?_
  refine Zgz (vx := .bool false) rfl rfl (.bool true) rfl Zdk ?_
  refine Zj (.bool true) (Za (Zb (Zy rfl (Zj9 (Zip (Zg5 (Ze (Zx (Zb (Ze (Zg (Zc (Iv 1) (Za (Zb (Zr (Zox (Zs ?_)))))))))))))))))
  rw [show Zf8 k = 1 from if_neg (fun q => by obtain ⟨q1, q2, q3, q4, q5, q6⟩ := q; rw [hn] at q6; first | omega | exact Ze7 (by omega) q3 | exact Ze2 (by omega) q4)]
  exact Zk (v := Iv 1) rfl rfl rfl (by kernel_rfl) rfl
  refine Zq ((Zfs (G := G) k.epoch 1 900000000).res (congrArg Value.bool (Zab (by omega)))) (vals := [Iv k.epoch, Iv 1, Iv 900000000]) (res' := .bool false) rfl rfl rfl rfl rfl rfl ?_
  refine Zgz (vx := .bool false) rfl rfl (.bool true) rfl Zdk ?_
  refine Zd (.bool true) (Zf (Zf (Zf (Zf (Zf (Zf (Zj (.bool true) (Za (Zb (Zy rfl (Zj9 (Zip (Zg5 (Ze (Zx (Zb (Ze (Zg (Zc (Iv 1) (Za (Zb (Zr (Zox (Zs ?_))))))))))))))))))))))))
  rw [show Zf8 k = 1 from if_neg (fun q => by obtain ⟨q1, q2, q3, q4, q5, q6⟩ := q; rw [hn] at q6; first | omega | exact Ze7 (by omega) q3 | exact Ze2 (by omega) q4)]
  exact Zk (v := Iv 1) rfl rfl rfl (by kernel_rfl) rfl
  refine Zq ((Zfs (G := G) k.epoch 1 900000000).res (congrArg Value.bool (Zab (by omega)))) (vals := [Iv k.epoch, Iv 1, Iv 900000000]) (res' := .bool false) rfl rfl rfl rfl rfl rfl ?_
  refine Zgz (vx := .bool false) rfl rfl (.bool true) rfl Zdk ?_
  refine Zd (.bool true) (Zf (Zf (Zf (Zf (Zf (Zf (Zj (.bool true) (Za (Zb (Zy rfl (Zj9 (Zip (Zg5 (Ze (Zx (Zb (Ze (Zg (Zc (Iv 1) (Za (Zb (Zr (Zox (Zs ?_))))))))))))))))))))))))
  rw [show Zf8 k = 1 from if_neg (fun q => by obtain ⟨q1, q2, q3, q4, q5, q6⟩ := q; rw [hn] at q6; first | omega | exact Ze7 (by omega) q3 | exact Ze2 (by omega) q4)]
  exact Zk (v := Iv 1) rfl rfl rfl (by kernel_rfl) rfl
theorem Zwb (k : Kept) (n c m d : Nat) (hn : k.items.length = n) (hm : k.claims.length = m) (hc : n ≤ c) (hd : m ≤ d) (hb : n ≤ 1048576) (hb2 : m ≤ 1048576) : Z4 Tryd.prog G 21 [mxV ([Iv k.epoch, Iv k.log, slv 0 0 n c, slv 1 0 m d])] [rwR Zh k.items, rwR Zdh k.claims] (Iv (Zn8 k)) [rwR Zh k.items, rwR Zdh k.claims] := by
  refine Zbd (fn := Tryd.f21) (nt := 11) rfl rfl rfl rfl ?_
  refine Zae 1 (H' := [rwR Zh k.items, rwR Zdh k.claims, hole]) rfl ?_
  refine Ze (Zg (Zbs (v := mxV ([Iv k.epoch, Iv k.log, slv 0 0 n c, slv 1 0 m d])) (b := mxB 4 ([Iv k.epoch, Iv k.log, slv 0 0 n c, slv 1 0 m d])) (nid := 2) (H' := [rwR Zh k.items, rwR Zdh k.claims, mxB 4 ([Iv k.epoch, Iv k.log, slv 0 0 n c, slv 1 0 m d])]) (Zc (Iv 0) (Za (Zb (Ze (Ze (Zg (Zm (p := pt 2 0) (v := mxV ([Iv k.epoch, Iv k.log, slv 0 0 n c, slv 1 0 m d])) ?_)))))))))
  refine Z0 (e := [some (0, 0), some (1, 0)]) (nid := 0) (Zlu (G := G) k n c m d hn hm (by omega) (by omega) (by omega) (by omega)) (vals := [mxV ([Iv k.epoch, Iv k.log, slv 0 0 n c, slv 1 0 m d])]) (v := Iv (Zf8 k)) (H' := [rwR Zh k.items, rwR Zdh k.claims, mxB 4 ([Iv k.epoch, Iv k.log, slv 0 0 n c, slv 1 0 m d])]) rfl rfl rfl rfl rfl rfl rfl ⟨⟨(Zbh (by kernel_rfl) ⟨⟨rfl, rfl⟩, ⟨rfl, rfl⟩, ⟨rfl, rfl, rfl, by first | omega | exact Nat.le_refl _, by first | omega | exact Nat.le_refl _⟩, ⟨rfl, rfl, rfl, by first | omega | exact Nat.le_refl _, by first | omega | exact Nat.le_refl _⟩, trivial⟩), trivial⟩, ⟨(Zaz rfl), (Zaz rfl), trivial⟩, rfl, rfl, rfl⟩ rfl (by kernel_rfl) ?_
  by_cases h1 : (Zf8 k) ≠ 0
  refine Zl (vx := Iv (Zf8 k)) (vy := Iv 0) rfl rfl (.bool true) rfl rfl (Zfc (by omega)) ?_
  refine Za (Zb (Zy rfl (Ze (Zg (Zc (Iv 0) (Za (Zb (Zr (Z3 (Zs ?_))))))))))
  rw [show Zn8 k = 0 from if_neg (Zhu (by omega))]
  exact Zk (v := Iv 0) rfl rfl rfl (by kernel_rfl) rfl
  refine Zl (vx := Iv (Zf8 k)) (vy := Iv 0) rfl rfl (.bool false) rfl rfl (Ze3 (by omega)) ?_
  refine Za (Zb (Zt rfl (Zx (Zb (Ze (Zg (Zi (b := 2) (o := 0) (n := 1) (o' := 1) (Zm (p := pt 2 1) (v := Iv k.log) (Zi (b := 2) (o := 0) (n := 2) (o' := 2) (Zm (p := pt 2 2) (v := slv 0 0 n c) ?_))))))))))
  refine Z0 (e := [some (0, 0)]) (nid := 0) (Zpw (G := G) k.log k.items n c hn (by omega) (by omega)) (vals := [Iv k.log, slv 0 0 n c]) (v := Iv (Zdl k.log k.items)) (H' := [rwR Zh k.items, rwR Zdh k.claims, mxB 4 ([Iv k.epoch, Iv k.log, slv 0 0 n c, slv 1 0 m d])]) rfl rfl rfl rfl rfl rfl rfl ⟨⟨rfl, ⟨rfl, rfl, rfl, by first | omega | exact Nat.le_refl _, by first | omega | exact Nat.le_refl _⟩, trivial⟩, ⟨(Zaz rfl), trivial⟩, rfl, rfl, rfl⟩ rfl (by kernel_rfl) ?_
  refine Zc (Iv (Zdl k.log k.items)) (Za (Zb (Zr (Zs ?_))))
  rw [show Zn8 k = (Zdl k.log k.items) from if_pos (Zrr (by omega))]
  exact Zk (v := Iv (Zdl k.log k.items)) rfl rfl rfl (by kernel_rfl) rfl
end Go.Flat
namespace Go.Flat
open Go.Proofs
variable {G : Glob}
structure Rec where
  kind : Int
  epoch : Int
  from_ : Int
  item : Item
  items : List Item
  claim : Claim
def Z55 (r : Rec) : Prop :=
  (r.kind = 1 ∧ (1 ≤ r.epoch ∧ r.epoch ≤ 900000000) ∧ r.from_ = 0 ∧ Zgr r.item (⟨0, (⟨0, 0, 0, ⟨#[]⟩, (⟨(⟨0, 0, 0, dz, 0⟩ : Head), 0, dz⟩ : Signed), (⟨0, 0, 0, 0, dz⟩ : Claim)⟩ : Entry)⟩ : Item) = true ∧ Zdm r.claim (⟨0, 0, 0, 0, dz⟩ : Claim) = true ∧ r.items.length = 0) ∨
  (r.kind = 2 ∧ r.epoch = 0 ∧ r.from_ = 0 ∧ Zcr r.item ∧ Zdm r.claim (⟨0, 0, 0, 0, dz⟩ : Claim) = true ∧ r.items.length = 0) ∨
  (r.kind = 3 ∧ (1 ≤ r.epoch ∧ r.epoch ≤ 900000000) ∧ (0 ≤ r.from_ ∧ r.from_ ≤ 2000) ∧ Zgr r.item (⟨0, (⟨0, 0, 0, ⟨#[]⟩, (⟨(⟨0, 0, 0, dz, 0⟩ : Head), 0, dz⟩ : Signed), (⟨0, 0, 0, 0, dz⟩ : Claim)⟩ : Entry)⟩ : Item) = true ∧ Zdm r.claim (⟨0, 0, 0, 0, dz⟩ : Claim) = true ∧ Zim r.items) ∨
  (r.kind = 4 ∧ r.epoch = 0 ∧ r.from_ = 0 ∧ Zgr r.item (⟨0, (⟨0, 0, 0, ⟨#[]⟩, (⟨(⟨0, 0, 0, dz, 0⟩ : Head), 0, dz⟩ : Signed), (⟨0, 0, 0, 0, dz⟩ : Claim)⟩ : Entry)⟩ : Item) = true ∧ Zdb r.claim ∧ r.items.length = 0)
instance (r : Rec) : Decidable (Z55 r) := inferInstanceAs (Decidable (_ ∨ _))
def Z6v (a b : Rec) : Bool := decide (a.kind = b.kind ∧ a.epoch = b.epoch ∧ a.from_ = b.from_) && (Zgr a.item b.item && (Zdm a.claim b.claim && Ze4 a.items b.items))
theorem Zwa (l : List Item) (n c : Nat) (hn : l.length = n) (hc : n ≤ c) (hb : n ≤ 1048576) : Z4 Tryd.prog G 47 [slv 0 0 n c] [rwR Zh l] (slv 1 0 n n) [rwR Zh l, rwB Zh l] := by
  refine Zbd (fn := Tryd.f47) (nt := 8) rfl rfl rfl rfl ?_
  refine Zae 2 (H' := [rwR Zh l, hole, hole]) rfl ?_
  refine Ze (Zg (Zc (.slice none 0 0) (Za (Zb (Ze ?_)))))
  refine Zwf rfl rfl rfl rfl (fun hn0 => ?_) ?_
  · subst hn0
    obtain rfl : l = [] := List.eq_nil_of_length_eq_zero hn
    refine Ze (Zg (Zd (.slice none 0 0) ?_))
    refine Zl (vx := .slice none 0 0) (vy := .slice none 0 0) rfl rfl (.bool true) rfl rfl (by kernel_rfl) ?_
    refine Za (Zb (Zy rfl (Ze (Zg (Zc (.slice none 0 0) (Za (Zb ?_)))))))
    refine Zb6 (Zbe.nilTmp (i := 2) (b := 1) true 110 rfl (by decide) rfl) ?_
    refine Zr (Z3 (Zs ?_))
    exact Za9 [0, 1] (v := slv 1 0 0 0) rfl (by kernel_rfl) rfl rfl (by decide) (by simp [Za6, rwB, rwR, Zh]) ⟨rfl, rfl, rfl, by first | omega | exact Nat.le_refl _ | exact Nat.zero_le _ | (dsimp only; omega), by first | omega | exact Nat.le_refl _ | exact Nat.zero_le _ | (dsimp only; omega)⟩
  refine Zt rfl (Zx (Zb (Ze (Zg ?_))))
  refine Z4b (v := slv 1 0 0 0) (blk := rwB Zh []) (nid := 1) (H' := [rwR Zh l, rwB Zh [], hole]) rfl rfl (by kernel_rfl) (by kernel_rfl) ?_
  refine Zd (slv 0 0 n c) ?_
  have hl1 : ([] ++ l).length = n := by have := hn; first | (rw [List.length_append]; omega) | (rw [List.length_append, List.length_take]; omega) | (simp; omega) | simp
  refine Zc4 (p := slv 1 0 0 0) (q := slv 0 0 n c) (v := slv 1 0 n n) (b := 1) (blk := rwB Zh ([] ++ l)) (H' := [rwR Zh l, rwB Zh ([] ++ l), hole]) rfl rfl rfl (.inl ⟨_, rfl⟩) rfl rfl (Zh6 Zh (by_ := 216) (k := n) (n' := n) (ms := l) (fun _ => rfl) rfl rfl (Z0g Zh rfl rfl (by have := hn; omega)) rfl rfl rfl (by omega) (by decide) (by omega)) rfl (by kernel_rfl) ?_
  refine Zc (slv 1 0 n n) (Za (Zb (Zr (Zs ?_))))
  exact Za9 [0, 1] (v := slv 1 0 n n) rfl (by kernel_rfl) rfl rfl (by decide) (by simp [Za6, rwB, rwR, Zh]) ⟨rfl, rfl, rfl, by first | omega | exact Nat.le_refl _ | exact Nat.zero_le _ | (dsimp only; omega), by first | omega | exact Nat.le_refl _ | exact Nat.zero_le _ | (dsimp only; omega)⟩
end Go.Flat
