/- Walks. -/
import Derived.Test.YtlnggiomppkjmaaDoorN1
set_option linter.unusedVariables false
set_option linter.unusedSimpArgs false
set_option maxRecDepth 20000
namespace Go.Flat
open Go.Proofs
variable {G : Glob}
structure Kept where
  epoch : Int
  log : Int
  items : List Item
  claims : List Claim
def Zzt (ep : Int) (x : Item) : Prop := x.epoch = ep ∧ x.entry.kind = 3 ∧ x.entry.claim.epoch = ep
instance (ep : Int) (x : Item) : Decidable (Zzt ep x) := inferInstanceAs (Decidable (_ ∧ _))
def ldB (ep : Int) (x : Item) : Bool := decide (Zzt ep x)
def Znc (p : Item → Bool) (l : List Item) : Option Nat := (List.range l.length).find? fun i => p (l.getD i default)
def Zd7 (p : Item → Bool) (l : List Item) : Int := match Znc p l with | some i => (i : Int) | none => -1
theorem Zzd {p : Item → Bool} {l : List Item} {i : Nat} (h : ∀ j, j < i → p (l.getD j default) = false) (hi : i < l.length) (hp : p (l.getD i default) = true) : Znc p l = some i := by
 unfold Znc
 rw [List.find?_range_eq_some]
 exact ⟨hp, List.mem_range.2 hi, fun j hj => by simp only [h j hj]; rfl⟩
theorem Zw9 {p : Item → Bool} {l : List Item} (h : ∀ j, j < l.length → p (l.getD j default) = false) : Znc p l = none := by
 unfold Znc
 rw [List.find?_range_eq_none]
 exact fun j hj => by simp only [h j hj]; rfl
theorem Zze {p : Item → Bool} {l : List Item} {i : Nat} (h : ∀ j, j < i → p (l.getD j default) = false) (hi : i < l.length) (hp : p (l.getD i default) = true) : Zd7 p l = (i : Int) := by
 unfold Zd7; rw [Zzd h hi hp]
theorem Zxa {p : Item → Bool} {l : List Item} (h : ∀ j, j < l.length → p (l.getD j default) = false) : Zd7 p l = -1 := by
 unfold Zd7; rw [Zw9 h]
theorem Zq7 (p : Item → Bool) (l : List Item) : -1 ≤ Zd7 p l ∧ Zd7 p l < l.length ∧ (0 ≤ Zd7 p l → Znc p l = some (Zd7 p l).toNat ∧ p (l.getD (Zd7 p l).toNat default) = true) ∧ (Zd7 p l < 0 → Znc p l = none) := by
 unfold Zd7
 cases h : Znc p l with
 | none => exact ⟨by decide, by show (-1 : Int) < _; omega, fun q => absurd q (by decide), fun _ => rfl⟩
 | some i =>
  have h' := h
  unfold Znc at h'
  rw [List.find?_range_eq_some] at h'
  have := List.mem_range.1 h'.2.1
  exact ⟨by show (-1 : Int) ≤ (i : Int); omega, by show (i : Int) < _; omega, fun _ => ⟨rfl, h'.1⟩, fun q => absurd q (by show ¬ (i : Int) < 0; omega)⟩
def Zfv (ep : Int) (l : List Item) : Int := if ep = 1 then 1 else match Znc (ldB ep) l with | some i => (l.getD i default).entry.claim.node | none => 0
theorem Zzv {ep : Int} {l : List Item} (h : ep = 1) : Zfv ep l = 1 := if_pos h
theorem Zzu {ep : Int} {l : List Item} (h1 : ¬ ep = 1) (h : 0 ≤ Zd7 (ldB ep) l) : Zfv ep l = (l.getD (Zd7 (ldB ep) l).toNat default).entry.claim.node := by
 unfold Zfv; rw [if_neg h1, ((Zq7 (ldB ep) l).2.2.1 h).1]
theorem Zxh {ep : Int} {l : List Item} (h1 : ¬ ep = 1) (h : Zd7 (ldB ep) l < 0) : Zfv ep l = 0 := by
 unfold Zfv; rw [if_neg h1, (Zq7 (ldB ep) l).2.2.2 h]
theorem Zw7 {l : List Item} : ∀ {ep : Int} {i : Nat}, Zje ep l = true → i < l.length → Zdg (l.getD i default) := by
 induction l with
 | nil => intro ep i _ h; simp at h
 | cons x l ih =>
  intro ep i h hi
  rw [Zje, Bool.and_eq_true, Bool.and_eq_true] at h
  cases i with
  | zero => exact of_decide_eq_true h.1.1
  | succ i => exact ih h.2 (by simpa using hi)
theorem Zsv {ep : Int} {l : List Item} (hr : Ziu l) (h : ¬ Zfv ep l = 0) : 0 < Zfv ep l := by
 unfold Zfv at h ⊢
 split at h
 ·rename_i h1; rw [if_pos h1]; decide
 ·rename_i h1
  rw [if_neg h1]
  cases ho : Znc (ldB ep) l with
  | none => rw [ho] at h; exact absurd rfl h
  | some i =>
   unfold Znc at ho
   rw [List.find?_range_eq_some] at ho
   have hi := List.mem_range.1 ho.2.1
   have hk : (l.getD i default).entry.kind = 3 := (of_decide_eq_true ho.1 : Zzt ep _).2.1
   have hg := (Zw7 hr.2 hi).2.2
   have hc : Zdz (l.getD i default).entry.claim := by
    rcases hg with q | q | q
    ·omega
    ·omega
    ·exact q.2.2.2.2.2
   show 0 < (l.getD i default).entry.claim.node
   have := hc.2.2.1.1
   omega
def Zmr (k : Kept) : Prop := (1 ≤ k.epoch ∧ k.epoch ≤ 900000000) ∧ (1 ≤ k.log ∧ k.log ≤ k.epoch) ∧ Ziu k.items ∧ Zls k.claims ∧ 0 < Zfv k.log k.items ∧ (k.items.length = 0 ∨ (k.items.getD (k.items.length - 1) default).epoch ≤ k.log)
instance (k : Kept) : Decidable (Zmr k) := inferInstanceAs (Decidable (_ ∧ _))
def Zi4 (k : Kept) : Int := if Zmr k then 0 else 1
theorem Zyw {k : Kept} (h : Zi4 k = 0) : Zmr k := by
 unfold Zi4 at h
 split at h
 ·assumption
 ·omega
theorem Zi9 {k : Kept} (h : ¬ Zi4 k = 0) : ¬ Zmr k := fun q => h (if_pos q)
def Z7d (k : Kept) : Int := if Zmr k then Zfv k.log k.items else 0
def Z7h (a b : Kept) : Bool := decide (a.epoch = b.epoch ∧ a.log = b.log) && (Ze9 a.items b.items && Z44 a.claims b.claims)
theorem Zul (ep : Int) (x : Item) : Z6 Tryd.prog G 58 [Zbd x, pt 0 0] [bxB 1 ([Iv ep])] (.bool (ldB ep x)) [bxB 1 ([Iv ep])] := by
 refine Zbh (fn := Tryd.f58) (nt := 22) rfl rfl rfl rfl ?_
 refine Zaf 1 (H' := [bxB 1 ([Iv ep]), hole]) rfl ?_
 refine Zf (Zg (Zb7 (v := Zbd x) (b := bxB 110 (Zbi x)) (nid := 1) (H' := [bxB 1 ([Iv ep]), bxB 110 (Zbi x)]) (Zb (.bool false) (Za (Zc (Zf (Zg (Zh (b := 1) (o := 0) (n := 0) (o' := 0) (Zn (p := pt 1 0) (v := Iv x.epoch) (Zn (p := pt 0 0) (v := Iv ep) ?_))))))))))
 by_cases h1 : x.epoch = ep
 refine Zl (vx := Iv x.epoch) (vy := Iv ep) rfl rfl (.bool true) rfl rfl (Zdp (by omega)) ?_
 refine Zd (.bool true) (Zh (b := 1) (o := 0) (n := 1) (o' := 1) (Zh (b := 1) (o := 1) (n := 0) (o' := 1) (Zn (p := pt 1 1) (v := Iv x.entry.kind) ?_)))
 by_cases h2 : x.entry.kind = 3
 refine Zl (vx := Iv x.entry.kind) (vy := Iv 3) rfl rfl (.bool true) rfl rfl (Zdp (by omega)) ?_
 refine Zk (.bool true) (Zd (.bool true) (Zh (b := 1) (o := 0) (n := 1) (o' := 1) (Zh (b := 1) (o := 1) (n := 73) (o' := 74) (Zh (b := 1) (o := 74) (n := 1) (o' := 75) (Zn (p := pt 1 75) (v := Iv x.entry.claim.epoch) (Zn (p := pt 0 0) (v := Iv ep) ?_))))))
 by_cases h3 : x.entry.claim.epoch = ep
 refine Zl (vx := Iv x.entry.claim.epoch) (vy := Iv ep) rfl rfl (.bool true) rfl rfl (Zdp (by omega)) ?_
 refine Zk (.bool true) (Zb (.bool true) (Za (Zc (Zr (Zt ?_)))))
 rw [show ldB ep x = true from decide_eq_true ⟨by omega, by omega, by omega⟩]
 exact Zm (v := .bool true) rfl rfl rfl (by kernel_rfl) rfl
 refine Zl (vx := Iv x.entry.claim.epoch) (vy := Iv ep) rfl rfl (.bool false) rfl rfl (Zef (by omega)) ?_
 refine Zk (.bool false) (Zb (.bool false) (Za (Zc (Zr (Zt ?_)))))
 rw [show ldB ep x = false from decide_eq_false (fun q => by have := q.1; have := q.2.1; have := q.2.2; omega)]
 exact Zm (v := .bool false) rfl rfl rfl (by kernel_rfl) rfl
 refine Zl (vx := Iv x.entry.kind) (vy := Iv 3) rfl rfl (.bool false) rfl rfl (Zef (by omega)) ?_
 refine Zk (.bool false) (Zd (.bool false) (Ze (Ze (Ze (Ze (Ze (Ze (Zk (.bool false) (Zb (.bool false) (Za (Zc (Zr (Zt ?_)))))))))))))
 rw [show ldB ep x = false from decide_eq_false (fun q => by have := q.1; have := q.2.1; have := q.2.2; omega)]
 exact Zm (v := .bool false) rfl rfl rfl (by kernel_rfl) rfl
 refine Zl (vx := Iv x.epoch) (vy := Iv ep) rfl rfl (.bool false) rfl rfl (Zef (by omega)) ?_
 refine Zd (.bool false) (Ze (Ze (Ze (Ze (Zk (.bool false) (Zd (.bool false) (Ze (Ze (Ze (Ze (Ze (Ze (Zk (.bool false) (Zb (.bool false) (Za (Zc (Zr (Zt ?_))))))))))))))))))
 rw [show ldB ep x = false from decide_eq_false (fun q => by have := q.1; have := q.2.1; have := q.2.2; omega)]
 exact Zm (v := .bool false) rfl rfl rfl (by kernel_rfl) rfl
theorem Zqr (l : List Item) (n c : Nat) (hn : l.length = n) (hc : n ≤ c) (hb : n ≤ 1048576) (ep : Int) : Z6 Tryd.prog G 57 [slv 0 0 n c, .func (.func 58) #[] #[pt 1 0]] [rwR Zi l, bxB 1 ([Iv ep])] (Iv (Zd7 (ldB ep) l)) [rwR Zi l, bxB 1 ([Iv ep])] := by
  refine Zbh (fn := Tryd.f57) (nt := 19) rfl rfl rfl rfl ?_
  refine Zf (Zg (Zb (Iv 0) (Za (Zc (Zf (Zf (Zg (Zd (slv 0 0 n c) (Zaw (p := slv 0 0 n c) (v := Iv (n : Nat)) (Zd (Iv 0) (Za (Zc (Z8 ?_)))))))))))))
  refine Zbt (fun i : Nat => [slv 0 0 n c, .func (.func 58) #[] #[pt 1 0], dead, dead, dead, dead, slv 0 0 n c, Iv (n : Nat), Iv (i : Nat)]) (fun i : Nat => [rwR Zi l, bxB 1 ([Iv ep])]) (fun i : Nat => (∀ j, j < i → ldB ep (l.getD j default) = false) ∧ i ≤ n) (fun i : Nat => n - i) 0 ⟨fun _ h => absurd h (by omega), by omega⟩ ?_ ?_
  · refine Zaj (n := 2) rfl ?_ (by kernel_rfl) (by kernel_rfl)
    repeat (first | exact trivial | refine ⟨.inl rfl, ?_⟩ | refine ⟨.inr ⟨rfl, rfl⟩, ?_⟩ | refine ⟨.inr ⟨congrArg (Value.int .i64) (by first | omega | (dsimp only; omega)), rfl⟩, ?_⟩)
  rintro i ⟨hR, hi⟩
  refine Zf (Zg ?_)
  by_cases h1 : (i : Nat) < (n : Nat)
  refine Zl (vx := Iv (i : Nat)) (vy := Iv (n : Nat)) rfl rfl (.bool true) rfl rfl (Zck (by omega)) ?_
  refine Za (Zc (Zf (Zy rfl (Zz (Zc (Zf (Z8 (Zf (Zg (Zd (Iv (i : Nat)) (Zb (Iv (i : Nat)) (Za (Zc (Zf (Zg (Zd (.func (.func 58) #[] #[pt 1 0]) (Zd (slv 0 0 n c) (Zd (Iv (i : Nat)) ?_))))))))))))))))))
  refine Zbo (b := 0) (o := 0) (j := i * 110) (m := n) (c := c) (sz := 110) (i := (i : Nat)) (k := .i64) rfl rfl rfl rfl rfl (by omega) (by omega) (by omega) ?_
  refine Zal (p := pt 0 (i * 110)) (v := Zbd (l.getD i default)) rfl rfl rfl (Zf6 (n := 0) (m := 110) Zi rfl rfl rfl rfl (by have := hn; omega) (by omega)) ?_
  refine Z5 (e := [some (1, 0)]) (nid := 0) (Zul (G := G) ep (l.getD i default)) (vals := [Zbd (l.getD i default), pt 1 0]) (v := .bool (ldB ep (l.getD i default))) (H' := [rwR Zi l, bxB 1 ([Iv ep])]) rfl rfl rfl rfl rfl rfl rfl ⟨⟨rfl, ⟨rfl, rfl⟩, trivial⟩, ⟨(Zad rfl rfl rfl rfl), trivial⟩, rfl, rfl, rfl⟩ rfl (by kernel_rfl) ?_
  refine Za (Zc ?_)
  rcases Bool.eq_false_or_eq_true (ldB ep (l.getD i default)) with h2 | h2
  refine Zy (congrArg Value.bool h2) (Zf (Zg (Zd (Iv (i : Nat)) (Zb (Iv (i : Nat)) (Za (Zc (Zr (Zar (Z2 (Zcy (Zar (Z2 (Zt ?_)))))))))))))
  rw [show Zd7 (ldB ep) l = (i : Int) from Zze hR (by omega) (by assumption)]
  exact Zm (v := Iv (i : Nat)) rfl rfl rfl (by kernel_rfl) rfl
  refine Zu (congrArg Value.bool h2) (Zz (Z7 (Zc (Zg ?_))))
  refine Zl (vx := Iv (i : Nat)) (vy := Iv 1) rfl rfl (Iv ((i : Nat) + 1)) rfl rfl (Zak (by omega) (by omega) (by omega)) ?_
  refine Zd (Iv ((i : Nat) + 1)) (Za ?_)
  refine Zag ⟨(i + 1), ⟨fun j hj => by rcases Nat.lt_or_ge j i with h | h; exact hR j h; obtain rfl : j = i := (by omega); assumption, by omega⟩, by show n - (i + 1) < n - i; omega, ?_⟩
  refine Zaj (n := 2) rfl ?_ (by kernel_rfl) (by kernel_rfl)
  repeat (first | exact trivial | refine ⟨.inl rfl, ?_⟩ | refine ⟨.inr ⟨rfl, rfl⟩, ?_⟩ | refine ⟨.inr ⟨congrArg (Value.int .i64) (by first | omega | (dsimp only; omega)), rfl⟩, ?_⟩)
  refine Zl (vx := Iv (i : Nat)) (vy := Iv (n : Nat)) rfl rfl (.bool false) rfl rfl (Zcd (by omega)) ?_
  refine Za (Zc (Zf (Zu rfl (Zbm (Zaq (Zax (Zav rfl (Zc (Zf (Zg (Zb (Iv (-1)) (Za (Zc (Zr (Zt ?_)))))))))))))))
  rw [show Zd7 (ldB ep) l = -1 from Zxa (fun j hj => hR j (by omega))]
  exact Zm (v := Iv (-1)) rfl rfl rfl (by kernel_rfl) rfl
theorem Zxi (ep : Int) (l : List Item) (n c : Nat) (hn : l.length = n) (hc : n ≤ c) (hb : n ≤ 1048576) : Z6 Tryd.prog G 45 [Iv ep, slv 0 0 n c] [rwR Zi l] (Iv (Zfv ep l)) [rwR Zi l] := by
  refine Zbh (fn := Tryd.f45) (nt := 20) rfl rfl rfl rfl ?_
  refine Zaf 1 (H' := [rwR Zi l, hole]) rfl ?_
  refine Zf (Zg (Zb7 (v := Iv ep) (b := bxB 1 ([Iv ep])) (nid := 1) (H' := [rwR Zi l, bxB 1 ([Iv ep])]) (Zb (Iv 0) (Za (Zc (Zf (Zf (Zg (Zn (p := pt 1 0) (v := Iv ep) ?_)))))))))
  by_cases h1 : ep = 1
  refine Zl (vx := Iv ep) (vy := Iv 1) rfl rfl (.bool true) rfl rfl (Zdp (by omega)) ?_
  refine Za (Zc (Zy rfl (Zf (Zg (Zb (Iv 1) (Za (Zc (Zr (Z2 (Zt ?_))))))))))
  rw [show Zfv ep l = 1 from Zzv (by omega)]
  exact Zm (v := Iv 1) rfl rfl rfl (by kernel_rfl) rfl
  refine Zl (vx := Iv ep) (vy := Iv 1) rfl rfl (.bool false) rfl rfl (Zef (by omega)) ?_
  refine Za (Zc (Zu rfl (Zz (Zc (Zf (Zg (Zd (slv 0 0 n c) ?_)))))))
  refine Zgw (vs := []) (ws := [pt 1 0]) rfl rfl rfl rfl rfl ?_
  have hix2 := Zq7 (ldB ep) l
  refine Z5 (e := [some (0, 0), some (1, 0)]) (nid := 0) (Zqr (G := G) l n c hn (by omega) (by omega) ep) (vals := [slv 0 0 n c, .func (.func 58) #[] #[pt 1 0]]) (v := Iv (Zd7 (ldB ep) l)) (H' := [rwR Zi l, bxB 1 ([Iv ep])]) rfl rfl rfl rfl rfl rfl rfl ⟨⟨⟨rfl, rfl, rfl, by first | omega | exact Nat.le_refl _, by first | omega | exact Nat.le_refl _⟩, ⟨by kernel_rfl, by kernel_rfl⟩, trivial⟩, ⟨(Zbr rfl), (Zad rfl rfl rfl rfl), trivial⟩, rfl, rfl, rfl⟩ rfl (by kernel_rfl) ?_
  refine Zb (Iv (Zd7 (ldB ep) l)) (Za (Zc (Zf (Zf (Zg (Zd (Iv (Zd7 (ldB ep) l)) ?_))))))
  by_cases h2 : (Zd7 (ldB ep) l) < 0
  refine Zl (vx := Iv (Zd7 (ldB ep) l)) (vy := Iv 0) rfl rfl (.bool true) rfl rfl (Zck (by omega)) ?_
  refine Za (Zc (Zy rfl (Zf (Zg (Zb (Iv 0) (Za (Zc (Zr (Z2 (Zt ?_))))))))))
  rw [show Zfv ep l = 0 from Zxh (by omega) (by omega)]
  exact Zm (v := Iv 0) rfl rfl rfl (by kernel_rfl) rfl
  refine Zl (vx := Iv (Zd7 (ldB ep) l)) (vy := Iv 0) rfl rfl (.bool false) rfl rfl (Zcd (by omega)) ?_
  refine Za (Zc (Zu rfl (Zz (Zc (Zf (Zg (Zd (slv 0 0 n c) (Zd (Iv (Zd7 (ldB ep) l)) ?_))))))))
  refine Zbo (b := 0) (o := 0) (j := ((Zd7 (ldB ep) l).toNat) * 110) (m := n) (c := c) (sz := 110) (i := (Zd7 (ldB ep) l)) (k := .i64) rfl rfl rfl rfl rfl (by omega) (by omega) (by omega) ?_
  refine Zbl (b := 0) (o := ((Zd7 (ldB ep) l).toNat) * 110) (n := 1) (o' := ((Zd7 (ldB ep) l).toNat) * 110 + 1) rfl rfl rfl rfl (by omega) ?_
  refine Zbl (b := 0) (o := ((Zd7 (ldB ep) l).toNat) * 110 + 1) (n := 73) (o' := ((Zd7 (ldB ep) l).toNat) * 110 + 74) rfl rfl rfl rfl (by omega) ?_
  refine Zbl (b := 0) (o := ((Zd7 (ldB ep) l).toNat) * 110 + 74) (n := 2) (o' := ((Zd7 (ldB ep) l).toNat) * 110 + 76) rfl rfl rfl rfl (by omega) ?_
  refine Zal (p := pt 0 (((Zd7 (ldB ep) l).toNat) * 110 + 76)) (v := Iv ((((l.getD ((Zd7 (ldB ep) l).toNat) default).entry).claim).node)) rfl rfl rfl (Zml Zi (l := l) (i := ((Zd7 (ldB ep) l).toNat)) (k := 76) (m := 110) rfl rfl rfl rfl (by have := hn; omega) (by omega) (by kernel_rfl) rfl) ?_
  refine Zb (Iv ((((l.getD ((Zd7 (ldB ep) l).toNat) default).entry).claim).node)) (Za (Zc (Zr (Zt ?_))))
  rw [show Zfv ep l = ((((l.getD ((Zd7 (ldB ep) l).toNat) default).entry).claim).node) from Zzu (by omega) (by omega)]
  exact Zm (v := Iv ((((l.getD ((Zd7 (ldB ep) l).toNat) default).entry).claim).node)) rfl rfl rfl (by kernel_rfl) rfl
theorem Zf1 (n low high : Int) : Z6 Tryd.prog G 42 [Iv n, Iv low, Iv high] [] (.bool (Zcn n low high)) [] := by
 refine Zbh (fn := Tryd.f42) (nt := 15) rfl rfl rfl rfl ?_
 refine Zf (Zg (Zb (.bool false) (Za (Zc (Zf (Zg (Zd (Iv n) (Zd (Iv low) ?_))))))))
 by_cases h1 : low ≤ n
 refine Zl (vx := Iv n) (vy := Iv low) rfl rfl (.bool true) rfl rfl (Zoe (by omega)) ?_
 refine Zd (.bool true) (Zd (Iv n) (Zd (Iv high) ?_))
 by_cases h2 : n ≤ high
 refine Zl (vx := Iv n) (vy := Iv high) rfl rfl (.bool true) rfl rfl (Zlg (by omega)) ?_
 refine Zk (.bool true) (Zb (.bool true) (Za (Zc (Zr (Zt ?_)))))
 rw [show Zcn n low high = true from Zbq (by omega) (by omega)]
 exact Zm (v := .bool true) rfl rfl rfl (by kernel_rfl) rfl
 refine Zl (vx := Iv n) (vy := Iv high) rfl rfl (.bool false) rfl rfl (Zlf (by omega)) ?_
 refine Zk (.bool false) (Zb (.bool false) (Za (Zc (Zr (Zt ?_)))))
 rw [show Zcn n low high = false from Zac (by omega)]
 exact Zm (v := .bool false) rfl rfl rfl (by kernel_rfl) rfl
 refine Zl (vx := Iv n) (vy := Iv low) rfl rfl (.bool false) rfl rfl (Zod (by omega)) ?_
 refine Zd (.bool false) (Ze (Ze (Ze (Zk (.bool false) (Zb (.bool false) (Za (Zc (Zr (Zt ?_)))))))))
 rw [show Zcn n low high = false from Zac (by omega)]
 exact Zm (v := .bool false) rfl rfl rfl (by kernel_rfl) rfl
abbrev Y3 (k : Kept) (n : Nat) (c : Nat) (m : Nat) (d : Nat) : Blk := mxB 4 ([Iv k.epoch, Iv k.log, slv 0 0 n c, slv 1 0 m d])
theorem Zwp (k : Kept) (n c m d : Nat) (hn : k.items.length = n) (hm : k.claims.length = m) (hc : n ≤ c) (hd : m ≤ d) (hb : n ≤ 1048576) (hb2 : m ≤ 1048576) : Z6 Tryd.prog G 20 [mxV ([Iv k.epoch, Iv k.log, slv 0 0 n c, slv 1 0 m d])] [rwR Zi k.items, rwR Ze5 k.claims] (Iv (Zi4 k)) [rwR Zi k.items, rwR Ze5 k.claims] := by
  refine Zbh (fn := Tryd.f20) (nt := 51) rfl rfl rfl rfl ?_
  refine Zaf 1 (H' := [rwR Zi k.items, rwR Ze5 k.claims, hole]) rfl ?_
  refine Zf (Zg (Zb7 (v := mxV ([Iv k.epoch, Iv k.log, slv 0 0 n c, slv 1 0 m d])) (b := mxB 4 ([Iv k.epoch, Iv k.log, slv 0 0 n c, slv 1 0 m d])) (nid := 2) (H' := [rwR Zi k.items, rwR Ze5 k.claims, Y3 k n c m d]) (Zb (Iv 0) (Za (Zc ?_)))))
  refine Z1p (l := 0) rfl ?_
  refine Zf (Zg (Zh (b := 2) (o := 0) (n := 2) (o' := 2) (Zn (p := pt 2 2) (v := slv 0 0 n c) (Zaw (p := slv 0 0 n c) (v := Iv (n : Nat)) (Zb (Iv (n : Nat)) (Za (Zc (Zf (Zf (Zg (Zh (b := 2) (o := 0) (n := 0) (o' := 0) (Zn (p := pt 2 0) (v := Iv k.epoch) ?_))))))))))))
  by_cases h1 : 1 ≤ k.epoch
  by_cases h2 : k.epoch ≤ 900000000
  refine Zs ((Zf1 (G := G) k.epoch 1 900000000).res (congrArg Value.bool (Zbq (by omega) (by omega)))) (vals := [Iv k.epoch, Iv 1, Iv 900000000]) (res' := .bool true) rfl rfl rfl rfl rfl rfl ?_
  refine Zfb (vx := .bool true) rfl rfl (.bool false) rfl Zcq ?_
  refine Zd (.bool false) (Zh (b := 2) (o := 0) (n := 1) (o' := 1) (Zn (p := pt 2 1) (v := Iv k.log) (Zh (b := 2) (o := 0) (n := 0) (o' := 0) (Zn (p := pt 2 0) (v := Iv k.epoch) ?_))))
  by_cases h3 : 1 ≤ k.log
  by_cases h4 : k.log ≤ k.epoch
  refine Zs ((Zf1 (G := G) k.log 1 k.epoch).res (congrArg Value.bool (Zbq (by omega) (by omega)))) (vals := [Iv k.log, Iv 1, Iv k.epoch]) (res' := .bool true) rfl rfl rfl rfl rfl rfl ?_
  refine Zfb (vx := .bool true) rfl rfl (.bool false) rfl Zcq ?_
  refine Zk (.bool false) (Za (Zc (Zu rfl (Zz (Zc (Zf (Zf (Zg (Zh (b := 2) (o := 0) (n := 2) (o' := 2) (Zn (p := pt 2 2) (v := slv 0 0 n c) ?_))))))))))
  refine Z5 (e := [some (0, 0)]) (nid := 0) (Zpq (G := G) k.items n c hn (by omega) (by omega)) (vals := [slv 0 0 n c]) (v := Iv (Zj5 k.items)) (H' := [rwR Zi k.items, rwR Ze5 k.claims, Y3 k n c m d]) rfl rfl rfl rfl rfl rfl rfl ⟨⟨⟨rfl, rfl, rfl, by first | omega | exact Nat.le_refl _, by first | omega | exact Nat.le_refl _⟩, trivial⟩, ⟨(Zbr rfl), trivial⟩, rfl, rfl, rfl⟩ rfl (by kernel_rfl) ?_
  by_cases h5 : (Zj5 k.items) ≠ 0
  refine Zl (vx := Iv (Zj5 k.items)) (vy := Iv 0) rfl rfl (.bool true) rfl rfl (Zgf (by omega)) ?_
  refine Zd (.bool true) (Ze (Ze (Ze (Ze (Zk (.bool true) (Zd (.bool true) (Ze (Ze (Ze (Ze (Ze (Ze (Zk (.bool true) (Za (Zc (Zy rfl (Zke (Ziw (Zhc (Zf (Zz (Zc (Zf (Zg (Zb (Iv 1) (Za (Zc (Zr (Zpb (Zt ?_))))))))))))))))))))))))))))))
  rw [show Zi4 k = 1 from if_neg (fun q => by obtain ⟨q1, q2, q3, q4, q5, q6⟩ := q; rw [hn] at q6; first | omega | exact Zfd (by omega) q3 | exact Ze8 (by omega) q4)]
  exact Zm (v := Iv 1) rfl rfl rfl (by kernel_rfl) rfl
  refine Zl (vx := Iv (Zj5 k.items)) (vy := Iv 0) rfl rfl (.bool false) rfl rfl (Zfw (by omega)) ?_
  refine Zd (.bool false) (Zh (b := 2) (o := 0) (n := 3) (o' := 3) (Zn (p := pt 2 3) (v := slv 1 0 m d) ?_))
  refine Z5 (e := [some (1, 0)]) (nid := 0) (Zwn (G := G) k.claims m d hm (by omega) (by omega)) (vals := [slv 1 0 m d]) (v := Iv (Zja k.claims)) (H' := [rwR Zi k.items, rwR Ze5 k.claims, Y3 k n c m d]) rfl rfl rfl rfl rfl rfl rfl ⟨⟨⟨rfl, rfl, rfl, by first | omega | exact Nat.le_refl _, by first | omega | exact Nat.le_refl _⟩, trivial⟩, ⟨(Zbr rfl), trivial⟩, rfl, rfl, rfl⟩ rfl (by kernel_rfl) ?_
  by_cases h6 : (Zja k.claims) ≠ 0
  refine Zl (vx := Iv (Zja k.claims)) (vy := Iv 0) rfl rfl (.bool true) rfl rfl (Zgf (by omega)) ?_
  refine Zk (.bool true) (Zd (.bool true) (Ze (Ze (Ze (Ze (Ze (Ze (Zk (.bool true) (Za (Zc (Zy rfl (Zke (Ziw (Zhc (Zf (Zz (Zc (Zf (Zg (Zb (Iv 1) (Za (Zc (Zr (Zpb (Zt ?_)))))))))))))))))))))))))
  rw [show Zi4 k = 1 from if_neg (fun q => by obtain ⟨q1, q2, q3, q4, q5, q6⟩ := q; rw [hn] at q6; first | omega | exact Zfd (by omega) q3 | exact Ze8 (by omega) q4)]
  exact Zm (v := Iv 1) rfl rfl rfl (by kernel_rfl) rfl
  refine Zl (vx := Iv (Zja k.claims)) (vy := Iv 0) rfl rfl (.bool false) rfl rfl (Zfw (by omega)) ?_
  refine Zk (.bool false) (Zd (.bool false) (Zh (b := 2) (o := 0) (n := 1) (o' := 1) (Zn (p := pt 2 1) (v := Iv k.log) (Zh (b := 2) (o := 0) (n := 2) (o' := 2) (Zn (p := pt 2 2) (v := slv 0 0 n c) ?_)))))
  refine Z5 (e := [some (0, 0)]) (nid := 0) (Zxi (G := G) k.log k.items n c hn (by omega) (by omega)) (vals := [Iv k.log, slv 0 0 n c]) (v := Iv (Zfv k.log k.items)) (H' := [rwR Zi k.items, rwR Ze5 k.claims, Y3 k n c m d]) rfl rfl rfl rfl rfl rfl rfl ⟨⟨rfl, ⟨rfl, rfl, rfl, by first | omega | exact Nat.le_refl _, by first | omega | exact Nat.le_refl _⟩, trivial⟩, ⟨(Zbr rfl), trivial⟩, rfl, rfl, rfl⟩ rfl (by kernel_rfl) ?_
  by_cases h7 : (Zfv k.log k.items) = 0
  refine Zl (vx := Iv (Zfv k.log k.items)) (vy := Iv 0) rfl rfl (.bool true) rfl rfl (Zdp (by omega)) ?_
  refine Zk (.bool true) (Za (Zc (Zy rfl (Zke (Ziw (Zhc (Zf (Zz (Zc (Zf (Zg (Zb (Iv 1) (Za (Zc (Zr (Zpb (Zt ?_)))))))))))))))))
  rw [show Zi4 k = 1 from if_neg (fun q => by obtain ⟨q1, q2, q3, q4, q5, q6⟩ := q; rw [hn] at q6; first | omega | exact Zfd (by omega) q3 | exact Ze8 (by omega) q4)]
  exact Zm (v := Iv 1) rfl rfl rfl (by kernel_rfl) rfl
  refine Zl (vx := Iv (Zfv k.log k.items)) (vy := Iv 0) rfl rfl (.bool false) rfl rfl (Zef (by omega)) ?_
  refine Zk (.bool false) (Za (Zc (Zu rfl (Zz (Zc (Zf (Zf ?_)))))))
  refine Zgh (by kernel_rfl) ?_
  refine Zd (Iv (n : Nat)) ?_
  by_cases h8 : (n : Nat) = 0
  refine Zl (vx := Iv (n : Nat)) (vy := Iv 0) rfl rfl (.bool true) rfl rfl (Zdp (by omega)) ?_
  refine Zd (.bool true) (Ze (Ze (Ze (Ze (Ze (Ze (Ze (Ze (Ze (Ze (Zk (.bool true) ?_)))))))))))
  refine Zdm (Zc4 [[], [0], [0, 1], [0, 1, 2], [0, 1, 2, 3], [0, 1, 2], [0, 1, 2, 5], [0, 1, 2, 3, 4, 5, 6], [0, 1, 2, 3, 4, 5, 6, 7], [0, 1, 2, 3, 4, 5, 6, 7, 8], [0, 1, 2], [0, 1, 2, 10], [0, 1, 2, 3, 4, 5, 6, 7, 8, 9, 10, 11], [0, 1, 2, 3, 4, 5, 6, 7, 8, 9, 10, 11, 12]] (by kernel_rfl) (by kernel_rfl)) ?_
  refine Zc (Zy rfl (Zf (Zg (Zb (Iv 0) (Za (Zc (Zr (Z2 (Zpc (Zt ?_))))))))))
  rw [show Zi4 k = 0 from if_pos ⟨by omega, by omega, Zg0 (by omega), Zpt (by omega), Zsv (Zg0 (by omega)) (by omega), by rw [hn]; omega⟩]
  exact Zm (v := Iv 0) rfl rfl rfl (by kernel_rfl) rfl
  refine Zl (vx := Iv (n : Nat)) (vy := Iv 0) rfl rfl (.bool false) rfl rfl (Zef (by omega)) ?_
  refine Zd (.bool false) (Zh (b := 2) (o := 0) (n := 2) (o' := 2) (Zn (p := pt 2 2) (v := slv 0 0 n c) (Zd (Iv (n : Nat)) ?_)))
  refine Zl (vx := Iv (n : Nat)) (vy := Iv 1) rfl rfl (Iv ((n : Nat) - 1)) rfl rfl (Zhh (by omega) (by omega) (by omega)) ?_
  refine Zbo (b := 0) (o := 0) (j := (n - 1) * 110) (m := n) (c := c) (sz := 110) (i := (n : Nat) - 1) (k := .i64) rfl rfl rfl rfl rfl (by omega) (by omega) (by omega) ?_
  refine Zbl (b := 0) (o := (n - 1) * 110) (n := 0) (o' := (n - 1) * 110) rfl rfl rfl rfl (by omega) ?_
  refine Zal (p := pt 0 ((n - 1) * 110)) (v := Iv ((k.items.getD (n - 1) default).epoch)) rfl rfl rfl (Zml Zi (l := k.items) (i := n - 1) (k := 0) (m := 110) rfl rfl rfl rfl (by have := hn; omega) (by omega) (by kernel_rfl) rfl) ?_
  refine Zh (b := 2) (o := 0) (n := 1) (o' := 1) (Zn (p := pt 2 1) (v := Iv k.log) ?_)
  by_cases h9 : ((k.items.getD (n - 1) default).epoch) ≤ k.log
  refine Zl (vx := Iv ((k.items.getD (n - 1) default).epoch)) (vy := Iv k.log) rfl rfl (.bool true) rfl rfl (Zlg (by omega)) ?_
  refine Zk (.bool true) ?_
  refine Zdm (Zc4 [[], [0], [0, 1], [0, 1, 2], [0, 1, 2, 3], [0, 1, 2], [0, 1, 2, 5], [0, 1, 2, 3, 4, 5, 6], [0, 1, 2, 3, 4, 5, 6, 7], [0, 1, 2, 3, 4, 5, 6, 7, 8], [0, 1, 2], [0, 1, 2, 10], [0, 1, 2, 3, 4, 5, 6, 7, 8, 9, 10, 11], [0, 1, 2, 3, 4, 5, 6, 7, 8, 9, 10, 11, 12]] (by kernel_rfl) (by kernel_rfl)) ?_
  refine Zc (Zy rfl (Zf (Zg (Zb (Iv 0) (Za (Zc (Zr (Z2 (Zpc (Zt ?_))))))))))
  rw [show Zi4 k = 0 from if_pos ⟨by omega, by omega, Zg0 (by omega), Zpt (by omega), Zsv (Zg0 (by omega)) (by omega), by rw [hn]; omega⟩]
  exact Zm (v := Iv 0) rfl rfl rfl (by kernel_rfl) rfl
  refine Zl (vx := Iv ((k.items.getD (n - 1) default).epoch)) (vy := Iv k.log) rfl rfl (.bool false) rfl rfl (Zlf (by omega)) ?_
  refine Zk (.bool false) ?_
  refine Zdm (Zc4 [[], [0], [0, 1], [0, 1, 2], [0, 1, 2, 3], [0, 1, 2], [0, 1, 2, 5], [0, 1, 2, 3, 4, 5, 6], [0, 1, 2, 3, 4, 5, 6, 7], [0, 1, 2, 3, 4, 5, 6, 7, 8], [0, 1, 2], [0, 1, 2, 10], [0, 1, 2, 3, 4, 5, 6, 7, 8, 9, 10, 11], [0, 1, 2, 3, 4, 5, 6, 7, 8, 9, 10, 11, 12]] (by kernel_rfl) (by kernel_rfl)) ?_
  refine Zc (Zu rfl (Zz (Zc (Zf (Z1o (Zc (Zf (Zg (Zb (Iv 1) (Za (Zc (Zr (Zpc (Zt ?_))))))))))))))
  rw [show Zi4 k = 1 from if_neg (fun q => by obtain ⟨q1, q2, q3, q4, q5, q6⟩ := q; rw [hn] at q6; first | omega | exact Zfd (by omega) q3 | exact Ze8 (by omega) q4)]
  exact Zm (v := Iv 1) rfl rfl rfl (by kernel_rfl) rfl
  refine Zs ((Zf1 (G := G) k.log 1 k.epoch).res (congrArg Value.bool (Zac (by omega)))) (vals := [Iv k.log, Iv 1, Iv k.epoch]) (res' := .bool false) rfl rfl rfl rfl rfl rfl ?_
  refine Zfb (vx := .bool false) rfl rfl (.bool true) rfl Zcq ?_
  refine Zk (.bool true) (Za (Zc (Zy rfl (Zke (Ziw (Zhc (Zf (Zz (Zc (Zf (Zg (Zb (Iv 1) (Za (Zc (Zr (Zpb (Zt ?_)))))))))))))))))
  rw [show Zi4 k = 1 from if_neg (fun q => by obtain ⟨q1, q2, q3, q4, q5, q6⟩ := q; rw [hn] at q6; first | omega | exact Zfd (by omega) q3 | exact Ze8 (by omega) q4)]
  exact Zm (v := Iv 1) rfl rfl rfl (by kernel_rfl) rfl
  refine Zs ((Zf1 (G := G) k.log 1 k.epoch).res (congrArg Value.bool (Zac (by omega)))) (vals := [Iv k.log, Iv 1, Iv k.epoch]) (res' := .bool false) rfl rfl rfl rfl rfl rfl ?_
  refine Zfb (vx := .bool false) rfl rfl (.bool true) rfl Zcq ?_
  refine Zk (.bool true) (Za (Zc (Zy rfl (Zke (Ziw (Zhc (Zf (Zz (Zc (Zf (Zg (Zb (Iv 1) (Za (Zc (Zr (Zpb (Zt ?_)))))))))))))))))
  rw [show Zi4 k = 1 from if_neg (fun q => by obtain ⟨q1, q2, q3, q4, q5, q6⟩ := q; rw [hn] at q6; first | omega | exact Zfd (by omega) q3 | exact Ze8 (by omega) q4)]
  exact Zm (v := Iv 1) rfl rfl rfl (by kernel_rfl) rfl
  refine Zs ((Zf1 (G := G) k.epoch 1 900000000).res (congrArg Value.bool (Zac (by omega)))) (vals := [Iv k.epoch, Iv 1, Iv 900000000]) (res' := .bool false) rfl rfl rfl rfl rfl rfl ?_
  refine Zfb (vx := .bool false) rfl rfl (.bool true) rfl Zcq ?_
  refine Zd (.bool true) (Ze (Ze (Ze (Ze (Ze (Ze (Zk (.bool true) (Za (Zc (Zy rfl (Zke (Ziw (Zhc (Zf (Zz (Zc (Zf (Zg (Zb (Iv 1) (Za (Zc (Zr (Zpb (Zt ?_))))))))))))))))))))))))
  rw [show Zi4 k = 1 from if_neg (fun q => by obtain ⟨q1, q2, q3, q4, q5, q6⟩ := q; rw [hn] at q6; first | omega | exact Zfd (by omega) q3 | exact Ze8 (by omega) q4)]
  exact Zm (v := Iv 1) rfl rfl rfl (by kernel_rfl) rfl
  refine Zs ((Zf1 (G := G) k.epoch 1 900000000).res (congrArg Value.bool (Zac (by omega)))) (vals := [Iv k.epoch, Iv 1, Iv 900000000]) (res' := .bool false) rfl rfl rfl rfl rfl rfl ?_
  refine Zfb (vx := .bool false) rfl rfl (.bool true) rfl Zcq ?_
  refine Zd (.bool true) (Ze (Ze (Ze (Ze (Ze (Ze (Zk (.bool true) (Za (Zc (Zy rfl (Zke (Ziw (Zhc (Zf (Zz (Zc (Zf (Zg (Zb (Iv 1) (Za (Zc (Zr (Zpb (Zt ?_))))))))))))))))))))))))
  rw [show Zi4 k = 1 from if_neg (fun q => by obtain ⟨q1, q2, q3, q4, q5, q6⟩ := q; rw [hn] at q6; first | omega | exact Zfd (by omega) q3 | exact Ze8 (by omega) q4)]
  exact Zm (v := Iv 1) rfl rfl rfl (by kernel_rfl) rfl
end Go.Flat
namespace Go.Flat
open Go.Proofs
variable {G : Glob}
structure Rec where
  kind : Int
  epoch : Int
  from_ : Int
  item : Item
  items : List Item
  claim : Claim
def Z6q (r : Rec) : Prop :=
  (r.kind = 1 ∧ (1 ≤ r.epoch ∧ r.epoch ≤ 900000000) ∧ r.from_ = 0 ∧ Zc2 r.item (⟨0, (⟨0, 0, 0, ⟨#[]⟩, (⟨(⟨0, 0, 0, dz, 0⟩ : Head), 0, dz⟩ : Signed), (⟨0, 0, 0, 0, dz⟩ : Claim)⟩ : Entry)⟩ : Item) = true ∧ Zdq r.claim (⟨0, 0, 0, 0, dz⟩ : Claim) = true ∧ r.items.length = 0) ∨
  (r.kind = 2 ∧ r.epoch = 0 ∧ r.from_ = 0 ∧ Zdg r.item ∧ Zdq r.claim (⟨0, 0, 0, 0, dz⟩ : Claim) = true ∧ r.items.length = 0) ∨
  (r.kind = 3 ∧ (1 ≤ r.epoch ∧ r.epoch ≤ 900000000) ∧ (0 ≤ r.from_ ∧ r.from_ ≤ 2000) ∧ Zc2 r.item (⟨0, (⟨0, 0, 0, ⟨#[]⟩, (⟨(⟨0, 0, 0, dz, 0⟩ : Head), 0, dz⟩ : Signed), (⟨0, 0, 0, 0, dz⟩ : Claim)⟩ : Entry)⟩ : Item) = true ∧ Zdq r.claim (⟨0, 0, 0, 0, dz⟩ : Claim) = true ∧ Ziu r.items) ∨
  (r.kind = 4 ∧ r.epoch = 0 ∧ r.from_ = 0 ∧ Zc2 r.item (⟨0, (⟨0, 0, 0, ⟨#[]⟩, (⟨(⟨0, 0, 0, dz, 0⟩ : Head), 0, dz⟩ : Signed), (⟨0, 0, 0, 0, dz⟩ : Claim)⟩ : Entry)⟩ : Item) = true ∧ Zdz r.claim ∧ r.items.length = 0)
instance (r : Rec) : Decidable (Z6q r) := inferInstanceAs (Decidable (_ ∨ _))
def Z7i (a b : Rec) : Bool := decide (a.kind = b.kind ∧ a.epoch = b.epoch ∧ a.from_ = b.from_) && (Zc2 a.item b.item && (Zdq a.claim b.claim && Ze9 a.items b.items))
theorem Zwo (l : List Item) (n c : Nat) (hn : l.length = n) (hc : n ≤ c) (hb : n ≤ 1048576) : Z6 Tryd.prog G 47 [slv 0 0 n c] [rwR Zi l] (slv 1 0 n n) [rwR Zi l, rwB Zi l] := by
  refine Zbh (fn := Tryd.f47) (nt := 8) rfl rfl rfl rfl ?_
  refine Zaf 2 (H' := [rwR Zi l, hole, hole]) rfl ?_
  refine Zf (Zg (Zb (.slice none 0 0) (Za (Zc (Zf ?_)))))
  refine Zwu rfl rfl rfl rfl (fun hn0 => ?_) ?_
  · subst hn0
    obtain rfl : l = [] := List.eq_nil_of_length_eq_zero hn
    refine Zf (Zg (Zd (.slice none 0 0) ?_))
    refine Zl (vx := .slice none 0 0) (vy := .slice none 0 0) rfl rfl (.bool true) rfl rfl (by kernel_rfl) ?_
    refine Za (Zc (Zy rfl (Zf (Zg (Zb (.slice none 0 0) (Za (Zc ?_)))))))
    refine Zca (Za7.nilTmp (i := 2) (b := 1) true 110 rfl (by decide) rfl) ?_
    refine Zr (Z2 (Zt ?_))
    exact Zbc [0, 1] (v := slv 1 0 0 0) rfl (by kernel_rfl) rfl rfl (by decide) (by simp [Zbe, rwB, rwR, Zi]) ⟨rfl, rfl, rfl, by first | omega | exact Nat.le_refl _ | exact Nat.zero_le _ | (dsimp only; omega), by first | omega | exact Nat.le_refl _ | exact Nat.zero_le _ | (dsimp only; omega)⟩
  refine Zu rfl (Zz (Zc (Zf (Zg ?_))))
  refine Z4y (v := slv 1 0 0 0) (blk := rwB Zi []) (nid := 1) (H' := [rwR Zi l, rwB Zi [], hole]) rfl rfl (by kernel_rfl) (by kernel_rfl) ?_
  refine Zd (slv 0 0 n c) ?_
  have hl1 : ([] ++ l).length = n := by have := hn; first | (rw [List.length_append]; omega) | (rw [List.length_append, List.length_take]; omega) | (simp; omega) | simp
  refine Zc6 (p := slv 1 0 0 0) (q := slv 0 0 n c) (v := slv 1 0 n n) (b := 1) (blk := rwB Zi ([] ++ l)) (H' := [rwR Zi l, rwB Zi ([] ++ l), hole]) rfl rfl rfl (.inl ⟨_, rfl⟩) rfl rfl (Zig Zi (by_ := 216) (k := n) (n' := n) (ms := l) (fun _ => rfl) rfl rfl (Z00 Zi rfl rfl (by have := hn; omega)) rfl rfl rfl (by omega) (by decide) (by omega)) rfl (by kernel_rfl) ?_
  refine Zb (slv 1 0 n n) (Za (Zc (Zr (Zt ?_))))
  exact Zbc [0, 1] (v := slv 1 0 n n) rfl (by kernel_rfl) rfl rfl (by decide) (by simp [Zbe, rwB, rwR, Zi]) ⟨rfl, rfl, rfl, by first | omega | exact Nat.le_refl _ | exact Nat.zero_le _ | (dsimp only; omega), by first | omega | exact Nat.le_refl _ | exact Nat.zero_le _ | (dsimp only; omega)⟩
end Go.Flat
