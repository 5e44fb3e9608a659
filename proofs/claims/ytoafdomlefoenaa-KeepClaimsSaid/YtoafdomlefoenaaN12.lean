/- Walks. -/
import Derived.Test.YtoafdomlefoenaaN11
set_option linter.unusedVariables false
set_option linter.unusedSimpArgs false
set_option maxRecDepth 20000
namespace Go.Flat
open Go.Proofs
variable {G : Glob}
def Zfk (c : Claim) : Rec := (⟨4, 0, 0, (⟨0, (⟨0, 0, 0, ⟨#[]⟩, (⟨(⟨0, 0, 0, dz, 0⟩ : Head), 0, dz⟩ : Signed), (⟨0, 0, 0, 0, dz⟩ : Claim)⟩ : Entry)⟩ : Item), [], c⟩ : Rec)
theorem Zgv {a b : Claim} (h : Zr a b = true) : a.region = b.region ∧ a.epoch = b.epoch ∧ a.node = b.node ∧ a.size = b.size ∧ Zdn 32 a.root b.root = true := by
 unfold Zr at h
 simp only [Bool.and_eq_true, beq_iff_eq, and_true] at h
 exact ⟨h.1, h.2.1, h.2.2.1, h.2.2.2.1, h.2.2.2.2⟩
theorem Ztd {a b : Claim} (h : a.region = b.region ∧ a.epoch = b.epoch ∧ a.node = b.node ∧ a.size = b.size ∧ Zdn 32 a.root b.root = true) : Zr a b = true := by
 unfold Zr
 simp only [Bool.and_eq_true, beq_iff_eq, and_true]
 exact h
theorem Zxq {n : Nat} {a b c : D} (h : Zdn n a b = true) (h' : Zdn n b c = true) : Zdn n a c = true := by
 rw [Zg1] at *; exact h.trans h'
theorem Zm8 {a b c : Claim} (h : Zr a b = true) (h' : Zr b c = true) : Zr a c = true := by
 obtain ⟨h1, h2, h3, h4, h5⟩ := Zgv h
 obtain ⟨g1, g2, g3, g4, g5⟩ := Zgv h'
 exact Ztd ⟨h1.trans g1, h2.trans g2, h3.trans g3, h4.trans g4, Zxq h5 g5⟩
section
variable {k : Kept} {l : List Claim} {c d x : Claim}
theorem Zp6 (h : (Zad l x).2 = 0) : Zc6 l = 0 ∧ Zdv x = 0 := by
 unfold Zad at h
 split at h
 ·assumption
 ·exact absurd h (by simp)
theorem Zv5 (h : (Zad l x).2 = 0) : Zbo l x < (Zad l x).1.length ∧ Zr ((Zad l x).1.getD (Zbo l x) default) x = true := by
 obtain ⟨h1, h2⟩ := Zp6 h
 cases hf : Zdw l x with
 | true =>
  cases he : Zr (l.getD (Zbo l x) default) x with
  | false => rw [Zv6 h1 h2 hf he] at h; exact absurd h (by simp)
  | true => rw [Zv7 h1 h2 hf he]; exact ⟨Zu2 hf, he⟩
 | false =>
  have hp := Zjw l x
  rw [Zyb h1 h2 hf]
  have hl : (l.take (Zbo l x)).length = Zbo l x := by rw [List.length_take]; omega
  refine ⟨by simp; omega, ?_⟩
  have : (l.take (Zbo l x) ++ x :: l.drop (Zbo l x)).getD (Zbo l x) default = x := by
   rw [List.getD_eq_getElem?_getD, List.getElem?_append_right (by omega), hl]; simp
  show Zr ((l.take (Zbo l x) ++ x :: l.drop (Zbo l x)).getD (Zbo l x) default) x = true
  rw [this]; exact Zaq x
theorem Zyq (hR : Zdi l) {i : Nat} (hi : i < l.length) (h : Zr (l.getD i default) x = true) : Zbo l x = i ∧ Zdw l x = true := by
 obtain ⟨h1, h2, _⟩ := Zgv h
 exact ⟨Zl5 hR hi h1 h2, Zwc hR hi h1 h2⟩
theorem Zno (hR : Zdi l) {i : Nat} (hi : i < l.length) (h : Zr (l.getD i default) x = true) (hx : Zdv x = 0) : Zad l x = (l, 0) := by
 obtain ⟨h1, h2⟩ := Zyq hR hi h
 exact Zv7 (Zt0 hR) hx h2 (by rw [h1]; exact h)
theorem Ztz (hR : Zdi l) {i : Nat} (hi : i < l.length) (h : Zr (l.getD i default) c = true) (h1 : d.region = c.region) (h2 : d.epoch = c.epoch) (hn : Zr c d = false) : ¬ (Zad l d).2 = 0 := by
  intro hq
  obtain ⟨g1, g2⟩ := Zp6 hq
  obtain ⟨f1, f2, _⟩ := Zgv h
  have hp := Zl5 (x := d) hR hi (f1.trans h1.symm) (f2.trans h2.symm)
  have hf := Zwc (x := d) hR hi (f1.trans h1.symm) (f2.trans h2.symm)
  cases he : Zr (l.getD i default) d with
  | true => rw [Zm8 (by rw [Zu]; exact h) he] at hn; cases hn
  | false => rw [Zv6 g1 g2 hf (by rw [hp]; exact he)] at hq; exact absurd hq (by simp)
theorem Zl1 : Zbs (Zfk c) ↔ Zck c := by
 constructor
 ·intro h
  rcases h with q | q | q | q
  ·exact absurd q.1 (by show ¬ (4 : Int) = 1; decide)
  ·exact absurd q.1 (by show ¬ (4 : Int) = 2; decide)
  ·exact absurd q.1 (by show ¬ (4 : Int) = 3; decide)
  ·exact q.2.2.2.2.1
 ·intro h; exact .inr (.inr (.inr ⟨rfl, rfl, rfl, Za2 _, h, rfl⟩))
theorem Zk7 (h : (Zax k (Zfk c)).2 = 0) : Zbx k ∧ Zck c ∧ (Zad k.claims c).2 = 0 ∧ (Zax k (Zfk c)).1 = ⟨k.epoch, k.log, k.items, (Zad k.claims c).1⟩ ∧ Zbx ⟨k.epoch, k.log, k.items, (Zad k.claims c).1⟩ := by
 obtain ⟨h1, h2, h3, h4⟩ := Zls h
 have hw : Zc4 k (Zfk c) = Zdu k (Zfk c) := Zgg rfl
 by_cases hq : (Zad k.claims c).2 = 0
 ·rw [hw, Zhg hq] at h3 h4
  exact ⟨h1, Zl1.1 h2, hq, h4, Zlq h3⟩
 ·rw [hw, Zip hq] at h3; exact absurd h3 (by simp)
theorem Zuu (h : (Zax k (Zfk c)).2 = 0) : Zax (Zax k (Zfk c)).1 (Zfk c) = ((Zax k (Zfk c)).1, 0) := by
 obtain ⟨h1, h2, h3, h4, h5⟩ := Zk7 h
 rw [h4]
 obtain ⟨g1, g2⟩ := Zv5 h3
 have hr := Zno h5.2.2.2.1 g1 g2 (Zp9 h2)
 have hw : Zc4 ⟨k.epoch, k.log, k.items, (Zad k.claims c).1⟩ (Zfk c) = Zgn ⟨k.epoch, k.log, k.items, (Zad (Zad k.claims c).1 c).1⟩ := (Zgg rfl).trans (Zhg (by show (Zad (Zad k.claims c).1 c).2 = 0; rw [hr]))
 rw [hr] at hw
 exact Zsj h5 (Zl1.2 h2) hw h5
theorem Zuv (h : (Zax k (Zfk c)).2 = 0) (hr : d.region = c.region) (he : d.epoch = c.epoch) : (Zax (Zax k (Zfk c)).1 (Zfk d)).2 = 0 ↔ Zr c d = true := by
 obtain ⟨h1, h2, h3, h4, h5⟩ := Zk7 h
 obtain ⟨g1, g2⟩ := Zv5 h3
 constructor
 ·intro hq
  cases hn : Zr c d with
  | true => rfl
  | false =>
   obtain ⟨_, _, q3, _, _⟩ := Zk7 hq
   rw [h4] at q3
   exact absurd q3 (Ztz h5.2.2.2.1 g1 g2 hr he hn)
 ·intro hq
  obtain ⟨f1, f2, f3, f4, f5⟩ := Zgv hq
  have hd : Zck d := by
   have := h2; unfold Zck at *; rw [← f1, ← f2, ← f3, ← f4]; exact this
  rw [h4]
  have hrr := Zno h5.2.2.2.1 g1 (Zm8 g2 hq) (Zp9 hd)
  have hw : Zc4 ⟨k.epoch, k.log, k.items, (Zad k.claims c).1⟩ (Zfk d) = Zgn ⟨k.epoch, k.log, k.items, (Zad (Zad k.claims c).1 d).1⟩ := (Zgg rfl).trans (Zhg (by show (Zad (Zad k.claims c).1 d).2 = 0; rw [hrr]))
  rw [hrr] at hw
  rw [Zsj h5 (Zl1.2 hd) hw h5]
end
def kx (k : Kept) (c : Claim) : Kept := (Zax k (Zfk c)).1
def ex (k : Kept) (c : Claim) : Int := (Zax k (Zfk c)).2
section
variable {k : Kept} {c d : Claim}
theorem Zol (k : Kept) (c : Claim) : (kx k c).items.length ≤ k.items.length + 1 ∧ (kx k c).claims.length ≤ k.claims.length + 1 := Ztg k (Zfk c)
theorem Zsi (k : Kept) (c : Claim) : 0 ≤ ex k c := Zu5 k (Zfk c)
theorem Zzt (h : ex k c = 0) : (kx k c).epoch = k.epoch ∧ (kx k c).log = k.log ∧ (kx k c).items = k.items := by
 have h4 : kx k c = _ := (Zk7 (k := k) (c := c) h).2.2.2.1
 rw [h4]; exact ⟨rfl, rfl, rfl⟩
theorem Zzu (h : ex k c = 0) : k.claims.length ≤ (kx k c).claims.length := (Zth (k := k) (r := Zfk c) h).2.2.2.2.1
theorem Zpm (h : ex k c = 0) (hr : d.region = c.region) (he : d.epoch = c.epoch) : ex (kx k c) d = 0 ↔ Zr c d = true := Zuv h hr he
theorem Zvh (h : ex k c = 0) : Zax (kx k c) (Zfk c) = (kx k c, 0) := Zuu h
end
abbrev Y34 (k : Kept) : Blk := rwR Zh k.claims
abbrev Y35 (k : Kept) (n : Nat) (c : Nat) (m : Nat) (d : Nat) : Blk := mxB 4 ([Iv k.epoch, Iv k.log, slv 0 0 n c, slv 1 0 m d])
abbrev Y36 (k : Kept) (c0 : Claim) : Blk := rwB Zk ((kx k c0).items)
abbrev Y37 (k : Kept) (c0 : Claim) : Blk := rwB Zh ((kx k c0).claims)
abbrev Y38  : Blk := mxB 4 ([Iv 0, Iv 0, .slice none 0 0, .slice none 0 0])
abbrev Y39 (k : Kept) (c0 : Claim) : Blk := mxB 4 ([Iv ((kx k c0).epoch), Iv ((kx k c0).log), slv 5 0 ((kx k c0).items.length) ((kx k c0).items.length), slv 6 0 ((kx k c0).claims.length) ((kx k c0).claims.length)])
abbrev Y40 (k : Kept) (c0 : Claim) : Blk := mxB 4 ([Iv ((kx k c0).epoch), Iv ((kx k c0).log), slv 8 0 ((kx k c0).items.length) ((kx k c0).items.length), slv 9 0 ((kx k c0).claims.length) ((kx k c0).claims.length)])
abbrev Y41 (k : Kept) (c0 : Claim) (d0 : Claim) : Blk := rwB Zk ((kx (kx k c0) d0).items)
abbrev Y42 (k : Kept) (c0 : Claim) (d0 : Claim) : Blk := rwB Zh ((kx (kx k c0) d0).claims)
abbrev Y43 (k : Kept) (c0 : Claim) (d0 : Claim) : Blk := mxB 4 ([Iv ((kx (kx k c0) d0).epoch), Iv ((kx (kx k c0) d0).log), slv 11 0 ((kx (kx k c0) d0).items.length) ((kx (kx k c0) d0).items.length), slv 12 0 ((kx (kx k c0) d0).claims.length) ((kx (kx k c0) d0).claims.length)])
theorem Zml (k : Kept) (n c m d : Nat) (hn : k.items.length = n) (hm : k.claims.length = m) (hc : n ≤ c) (hd : m ≤ d) (hb : n ≤ 9223372036854775807) (hb2 : m ≤ 9223372036854775807) (c0 d0 : Claim) : Zas Try.prog G 6 [mxV ([Iv k.epoch, Iv k.log, slv 0 0 n c, slv 1 0 m d]), Zv c0, Zv d0] [rwR Zk k.items, rwR Zh k.claims] (.bool true) [rwR Zk k.items, rwR Zh k.claims] := by
  refine Zcv (fn := Try.f6) (nt := 109) rfl rfl rfl rfl ?_
  refine Zbq 12 (H' := [rwR Zk k.items, Y34 k, hole, hole, hole, hole, hole, hole, hole, hole, hole, hole, hole, hole]) rfl ?_
  refine Zj (Zl (Zbw (v := mxV ([Iv k.epoch, Iv k.log, slv 0 0 n c, slv 1 0 m d])) (b := mxB 4 ([Iv k.epoch, Iv k.log, slv 0 0 n c, slv 1 0 m d])) (nid := 2) (H' := [rwR Zk k.items, Y34 k, Y35 k n c m d, hole, hole, hole, hole, hole, hole, hole, hole, hole, hole, hole]) (Zbw (v := Zv c0) (b := bxB 36 (Zo c0)) (nid := 3) (H' := [rwR Zk k.items, Y34 k, Y35 k n c m d, bxB 36 (Zo c0), hole, hole, hole, hole, hole, hole, hole, hole, hole, hole]) (Zbw (v := Zv d0) (b := bxB 36 (Zo d0)) (nid := 4) (H' := [rwR Zk k.items, Y34 k, Y35 k n c m d, bxB 36 (Zo c0), bxB 36 (Zo d0), hole, hole, hole, hole, hole, hole, hole, hole, hole]) (Zc (.bool false) (Ze (Zf (Zj (Zj (Zl (Zi (p := pt 2 0) (v := mxV ([Iv k.epoch, Iv k.log, slv 0 0 n c, slv 1 0 m d])) ?_)))))))))))
  refine Zbg (vs := []) (v := mxV ([Iv 0, Iv 0, Iv 0] ++ (Zt (⟨0, (⟨0, 0, 0, ⟨#[]⟩, (⟨(⟨0, 0, 0, dz, 0⟩ : Head), 0, dz⟩ : Signed), (⟨0, 0, 0, 0, dz⟩ : Claim)⟩ : Entry)⟩ : Item) ++ ([.slice none 0 0] ++ (Zo (⟨0, 0, 0, 0, dz⟩ : Claim)))))) rfl rfl rfl (by kernel_rfl) ?_
  refine Z2 (e := [some (0, 0), some (1, 0), none]) (nid := 0) (Zrg (G := G) k n c m d hn hm (by omega) (by omega) (by omega) (by omega) (⟨0, 0, 0, (⟨0, (⟨0, 0, 0, ⟨#[]⟩, (⟨(⟨0, 0, 0, dz, 0⟩ : Head), 0, dz⟩ : Signed), (⟨0, 0, 0, 0, dz⟩ : Claim)⟩ : Entry)⟩ : Item), [], (⟨0, 0, 0, 0, dz⟩ : Claim)⟩ : Rec) 0 0 rfl (by omega) (by omega)) (vals := [mxV ([Iv k.epoch, Iv k.log, slv 0 0 n c, slv 1 0 m d]), mxV ([Iv 0, Iv 0, Iv 0] ++ (Zt (⟨0, (⟨0, 0, 0, ⟨#[]⟩, (⟨(⟨0, 0, 0, dz, 0⟩ : Head), 0, dz⟩ : Signed), (⟨0, 0, 0, 0, dz⟩ : Claim)⟩ : Entry)⟩ : Item) ++ ([.slice none 0 0] ++ (Zo (⟨0, 0, 0, 0, dz⟩ : Claim)))))]) (v := .bool (Zjc k (⟨0, 0, 0, (⟨0, (⟨0, 0, 0, ⟨#[]⟩, (⟨(⟨0, 0, 0, dz, 0⟩ : Head), 0, dz⟩ : Signed), (⟨0, 0, 0, 0, dz⟩ : Claim)⟩ : Entry)⟩ : Item), [], (⟨0, 0, 0, 0, dz⟩ : Claim)⟩ : Rec))) (H' := [rwR Zk k.items, Y34 k, Y35 k n c m d, bxB 36 (Zo c0), bxB 36 (Zo d0), hole, hole, hole, hole, hole, hole, hole, hole, hole]) rfl rfl rfl rfl rfl rfl rfl ⟨⟨(Z9 (by kernel_rfl) ⟨⟨rfl, rfl⟩, ⟨rfl, rfl⟩, ⟨rfl, rfl, rfl, by first | omega | exact Nat.le_refl _, by first | omega | exact Nat.le_refl _⟩, ⟨rfl, rfl, rfl, by first | omega | exact Nat.le_refl _, by first | omega | exact Nat.le_refl _⟩, trivial⟩), (Z9 (by kernel_rfl) (Z0 ⟨⟨rfl, rfl⟩, ⟨rfl, rfl⟩, ⟨rfl, rfl⟩, trivial⟩ (Z0 (Zac (by kernel_rfl)) (Z0 ⟨⟨rfl, rfl, rfl, rfl⟩, trivial⟩ (Zac (by kernel_rfl)))))), trivial⟩, ⟨(Zae rfl), (Zae rfl), ⟨rfl, rfl, by first | exact Nat.succ_pos _ | (show 0 < _; decide)⟩, trivial⟩, rfl, rfl, rfl⟩ rfl (by kernel_rfl) ?_
  refine Ze (Zf ?_)
  rcases Bool.eq_false_or_eq_true (Zjc k (⟨0, 0, 0, (⟨0, (⟨0, 0, 0, ⟨#[]⟩, (⟨(⟨0, 0, 0, dz, 0⟩ : Head), 0, dz⟩ : Signed), (⟨0, 0, 0, 0, dz⟩ : Claim)⟩ : Entry)⟩ : Item), [], (⟨0, 0, 0, 0, dz⟩ : Claim)⟩ : Rec)) with h1 | h1
  refine Z8 (congrArg Value.bool h1) (Zj (Zl (Zc (.bool true) (Ze (Zf (Zq (Z4 (Zp ?_))))))))
  exact Zm (v := .bool true) rfl rfl rfl (by kernel_rfl) rfl
  refine Zw (congrArg Value.bool h1) (Z7 (Zf (Zj ?_)))
  have hbl := Zwo (by assumption)
  obtain ⟨hbl1, hbl2, hbl3⟩ := hbl
  refine Zl (Zi (p := pt 2 0) (v := mxV ([Iv k.epoch, Iv k.log, slv 0 0 n c, slv 1 0 m d])) (Zi (p := pt 3 0) (v := Zv c0) ?_))
  refine Zbg (vs := [(0, Iv 4), (5, Zv c0)]) (v := mxV ([Iv 4, Iv 0, Iv 0] ++ (Zt (⟨0, (⟨0, 0, 0, ⟨#[]⟩, (⟨(⟨0, 0, 0, dz, 0⟩ : Head), 0, dz⟩ : Signed), (⟨0, 0, 0, 0, dz⟩ : Claim)⟩ : Entry)⟩ : Item) ++ ([.slice none 0 0] ++ (Zo c0))))) rfl rfl rfl (by kernel_rfl) ?_
  by_cases h2 : (ex k c0) ≤ 0
  have hkl39 := Zol k c0
  have hen39 := Zsi k c0
  have hke := Zzt (k := k) (c := c0) (by omega)
  obtain ⟨he1, he2, he3⟩ := hke
  have he4 : (kx k c0).items.length = k.items.length := by rw [he3]
  refine Z2 (e := [some (0, 0), some (1, 0), none]) (nid := 5) (Zho (G := G) k c d (by omega) (by omega) (by omega) (by omega) (Zfk c0) 0 0 rfl (by omega) (by omega)) (vals := [mxV ([Iv k.epoch, Iv k.log, slv 0 0 n c, slv 1 0 m d]), mxV ([Iv 4, Iv 0, Iv 0] ++ (Zt (⟨0, (⟨0, 0, 0, ⟨#[]⟩, (⟨(⟨0, 0, 0, dz, 0⟩ : Head), 0, dz⟩ : Signed), (⟨0, 0, 0, 0, dz⟩ : Claim)⟩ : Entry)⟩ : Item) ++ ([.slice none 0 0] ++ (Zo c0))))]) (v := .tuple #[mxV ([Iv ((kx k c0).epoch), Iv ((kx k c0).log), slv 5 0 ((kx k c0).items.length) ((kx k c0).items.length), slv 6 0 ((kx k c0).claims.length) ((kx k c0).claims.length)]), Iv (ex k c0)]) (H' := [rwR Zk k.items, Y34 k, Y35 k n c m d, bxB 36 (Zo c0), bxB 36 (Zo d0), Y36 k c0, Y37 k c0, hole, hole, hole, hole, hole, hole, hole]) rfl rfl rfl rfl rfl rfl rfl ⟨⟨(Z9 (by kernel_rfl) ⟨⟨rfl, rfl⟩, ⟨rfl, rfl⟩, ⟨rfl, rfl, (by first | rfl | omega), by first | omega | exact Nat.le_refl _, by first | omega | exact Nat.le_refl _⟩, ⟨rfl, rfl, (by first | rfl | omega), by first | omega | exact Nat.le_refl _, by first | omega | exact Nat.le_refl _⟩, trivial⟩), (Z9 (by kernel_rfl) (Z0 ⟨⟨rfl, rfl⟩, ⟨rfl, rfl⟩, ⟨rfl, rfl⟩, trivial⟩ (Z0 (Zac (by kernel_rfl)) (Z0 ⟨⟨rfl, rfl, rfl, rfl⟩, trivial⟩ (Zac (by kernel_rfl)))))), trivial⟩, ⟨(Zae rfl), (Zae rfl), ⟨rfl, rfl, by first | exact Nat.succ_pos _ | (show 0 < _; decide)⟩, trivial⟩, rfl, rfl, rfl⟩ (by kernel_rfl) (by kernel_rfl) ?_
  refine Zb (.tuple #[mxV ([Iv ((kx k c0).epoch), Iv ((kx k c0).log), slv 5 0 ((kx k c0).items.length) ((kx k c0).items.length), slv 6 0 ((kx k c0).claims.length) ((kx k c0).claims.length)]), Iv (ex k c0)]) (Zak (vs := #[mxV ([Iv ((kx k c0).epoch), Iv ((kx k c0).log), slv 5 0 ((kx k c0).items.length) ((kx k c0).items.length), slv 6 0 ((kx k c0).claims.length) ((kx k c0).claims.length)]), Iv (ex k c0)]) (v := mxV ([Iv ((kx k c0).epoch), Iv ((kx k c0).log), slv 5 0 ((kx k c0).items.length) ((kx k c0).items.length), slv 6 0 ((kx k c0).claims.length) ((kx k c0).claims.length)])) (Zak (vs := #[mxV ([Iv ((kx k c0).epoch), Iv ((kx k c0).log), slv 5 0 ((kx k c0).items.length) ((kx k c0).items.length), slv 6 0 ((kx k c0).claims.length) ((kx k c0).claims.length)]), Iv (ex k c0)]) (v := Iv (ex k c0)) (Za4 (b := mxB 4 ([Iv 0, Iv 0, .slice none 0 0, .slice none 0 0])) (nid := 7) (H' := [rwR Zk k.items, Y34 k, Y35 k n c m d, bxB 36 (Zo c0), bxB 36 (Zo d0), Y36 k c0, Y37 k c0, Y38, hole, hole, hole, hole, hole, hole]) (Zy (p := pt 7 0) (v := mxV ([Iv ((kx k c0).epoch), Iv ((kx k c0).log), slv 5 0 ((kx k c0).items.length) ((kx k c0).items.length), slv 6 0 ((kx k c0).claims.length) ((kx k c0).claims.length)])) (b := 7) (blk := mxB 4 ([Iv ((kx k c0).epoch), Iv ((kx k c0).log), slv 5 0 ((kx k c0).items.length) ((kx k c0).items.length), slv 6 0 ((kx k c0).claims.length) ((kx k c0).claims.length)])) (H' := [rwR Zk k.items, Y34 k, Y35 k n c m d, bxB 36 (Zo c0), bxB 36 (Zo d0), Y36 k c0, Y37 k c0, Y39 k c0, hole, hole, hole, hole, hole, hole]) (Zc (Iv (ex k c0)) (Ze (Zf (Zj (Zj (Zl (Zb (Iv (ex k c0)) ?_)))))))))))
  refine Zn (vx := Iv (ex k c0)) (vy := Iv 0) rfl rfl (.bool false) rfl rfl (Zbk (by omega)) ?_
  refine Ze (Zf (Zw rfl (Z7 (Zf (Zj (Zl (Zi (p := pt 7 0) (v := mxV ([Iv ((kx k c0).epoch), Iv ((kx k c0).log), slv 5 0 ((kx k c0).items.length) ((kx k c0).items.length), slv 6 0 ((kx k c0).claims.length) ((kx k c0).claims.length)])) (Zi (p := pt 3 0) (v := Zv c0) ?_))))))))
  refine Zbg (vs := [(0, Iv 4), (5, Zv c0)]) (v := mxV ([Iv 4, Iv 0, Iv 0] ++ (Zt (⟨0, (⟨0, 0, 0, ⟨#[]⟩, (⟨(⟨0, 0, 0, dz, 0⟩ : Head), 0, dz⟩ : Signed), (⟨0, 0, 0, 0, dz⟩ : Claim)⟩ : Entry)⟩ : Item) ++ ([.slice none 0 0] ++ (Zo c0))))) rfl rfl rfl (by kernel_rfl) ?_
  refine Z2 (e := [some (5, 0), some (6, 0), none]) (nid := 8) (Zue (G := G) (kx k c0) ((kx k c0).items.length) ((kx k c0).claims.length) (by omega) (by omega) (by omega) (by omega) (Zfk c0) 0 0 rfl (by omega) (by omega) (Zvh (k := k) (c := c0) (by omega))) (vals := [mxV ([Iv ((kx k c0).epoch), Iv ((kx k c0).log), slv 5 0 ((kx k c0).items.length) ((kx k c0).items.length), slv 6 0 ((kx k c0).claims.length) ((kx k c0).claims.length)]), mxV ([Iv 4, Iv 0, Iv 0] ++ (Zt (⟨0, (⟨0, 0, 0, ⟨#[]⟩, (⟨(⟨0, 0, 0, dz, 0⟩ : Head), 0, dz⟩ : Signed), (⟨0, 0, 0, 0, dz⟩ : Claim)⟩ : Entry)⟩ : Item) ++ ([.slice none 0 0] ++ (Zo c0))))]) (v := .tuple #[mxV ([Iv ((kx k c0).epoch), Iv ((kx k c0).log), slv 8 0 ((kx k c0).items.length) ((kx k c0).items.length), slv 9 0 ((kx k c0).claims.length) ((kx k c0).claims.length)]), Iv 0]) (H' := [rwR Zk k.items, Y34 k, Y35 k n c m d, bxB 36 (Zo c0), bxB 36 (Zo d0), Y36 k c0, Y37 k c0, Y39 k c0, Y36 k c0, Y37 k c0, hole, hole, hole, hole]) rfl rfl rfl rfl rfl rfl rfl ⟨⟨(Z9 (by kernel_rfl) ⟨⟨rfl, rfl⟩, ⟨rfl, rfl⟩, ⟨rfl, rfl, (by first | rfl | omega), by first | omega | exact Nat.le_refl _, by first | omega | exact Nat.le_refl _⟩, ⟨rfl, rfl, (by first | rfl | omega), by first | omega | exact Nat.le_refl _, by first | omega | exact Nat.le_refl _⟩, trivial⟩), (Z9 (by kernel_rfl) (Z0 ⟨⟨rfl, rfl⟩, ⟨rfl, rfl⟩, ⟨rfl, rfl⟩, trivial⟩ (Z0 (Zac (by kernel_rfl)) (Z0 ⟨⟨rfl, rfl, rfl, rfl⟩, trivial⟩ (Zac (by kernel_rfl)))))), trivial⟩, ⟨(Zaa rfl), (Zaa rfl), ⟨rfl, rfl, by first | exact Nat.succ_pos _ | (show 0 < _; decide)⟩, trivial⟩, rfl, rfl, rfl⟩ (by kernel_rfl) (by kernel_rfl) ?_
  refine Zb (.tuple #[mxV ([Iv ((kx k c0).epoch), Iv ((kx k c0).log), slv 8 0 ((kx k c0).items.length) ((kx k c0).items.length), slv 9 0 ((kx k c0).claims.length) ((kx k c0).claims.length)]), Iv 0]) (Zak (vs := #[mxV ([Iv ((kx k c0).epoch), Iv ((kx k c0).log), slv 8 0 ((kx k c0).items.length) ((kx k c0).items.length), slv 9 0 ((kx k c0).claims.length) ((kx k c0).claims.length)]), Iv 0]) (v := mxV ([Iv ((kx k c0).epoch), Iv ((kx k c0).log), slv 8 0 ((kx k c0).items.length) ((kx k c0).items.length), slv 9 0 ((kx k c0).claims.length) ((kx k c0).claims.length)])) (Zak (vs := #[mxV ([Iv ((kx k c0).epoch), Iv ((kx k c0).log), slv 8 0 ((kx k c0).items.length) ((kx k c0).items.length), slv 9 0 ((kx k c0).claims.length) ((kx k c0).claims.length)]), Iv 0]) (v := Iv 0) (Za4 (b := mxB 4 ([Iv 0, Iv 0, .slice none 0 0, .slice none 0 0])) (nid := 10) (H' := [rwR Zk k.items, Y34 k, Y35 k n c m d, bxB 36 (Zo c0), bxB 36 (Zo d0), Y36 k c0, Y37 k c0, Y39 k c0, Y36 k c0, Y37 k c0, Y38, hole, hole, hole]) (Zy (p := pt 10 0) (v := mxV ([Iv ((kx k c0).epoch), Iv ((kx k c0).log), slv 8 0 ((kx k c0).items.length) ((kx k c0).items.length), slv 9 0 ((kx k c0).claims.length) ((kx k c0).claims.length)])) (b := 10) (blk := mxB 4 ([Iv ((kx k c0).epoch), Iv ((kx k c0).log), slv 8 0 ((kx k c0).items.length) ((kx k c0).items.length), slv 9 0 ((kx k c0).claims.length) ((kx k c0).claims.length)])) (H' := [rwR Zk k.items, Y34 k, Y35 k n c m d, bxB 36 (Zo c0), bxB 36 (Zo d0), Y36 k c0, Y37 k c0, Y39 k c0, Y36 k c0, Y37 k c0, Y40 k c0, hole, hole, hole]) (Zc (Iv 0) (Ze (Zf (Zj (Zl (Zi (p := pt 7 0) (v := mxV ([Iv ((kx k c0).epoch), Iv ((kx k c0).log), slv 5 0 ((kx k c0).items.length) ((kx k c0).items.length), slv 6 0 ((kx k c0).claims.length) ((kx k c0).claims.length)])) (Zi (p := pt 4 0) (v := Zv d0) ?_)))))))))))
  refine Zbg (vs := [(0, Iv 4), (5, Zv d0)]) (v := mxV ([Iv 4, Iv 0, Iv 0] ++ (Zt (⟨0, (⟨0, 0, 0, ⟨#[]⟩, (⟨(⟨0, 0, 0, dz, 0⟩ : Head), 0, dz⟩ : Signed), (⟨0, 0, 0, 0, dz⟩ : Claim)⟩ : Entry)⟩ : Item) ++ ([.slice none 0 0] ++ (Zo d0))))) rfl rfl rfl (by kernel_rfl) ?_
  by_cases h3 : (ex (kx k c0) d0) ≤ 0
  have hkl42 := Zol (kx k c0) d0
  have hen42 := Zsi (kx k c0) d0
  have hco : d0.region = c0.region → d0.epoch = c0.epoch → ((ex (kx k c0) d0) = 0 ↔ Zr c0 d0 = true) := fun q1 q2 => Zpm (k := k) (by omega) q1 q2
  have hgl := Zzu (k := (kx k c0)) (c := d0) (by omega)
  refine Z2 (e := [some (5, 0), some (6, 0), none]) (nid := 11) (Zho (G := G) (kx k c0) ((kx k c0).items.length) ((kx k c0).claims.length) (by omega) (by omega) (by omega) (by omega) (Zfk d0) 0 0 rfl (by omega) (by omega)) (vals := [mxV ([Iv ((kx k c0).epoch), Iv ((kx k c0).log), slv 5 0 ((kx k c0).items.length) ((kx k c0).items.length), slv 6 0 ((kx k c0).claims.length) ((kx k c0).claims.length)]), mxV ([Iv 4, Iv 0, Iv 0] ++ (Zt (⟨0, (⟨0, 0, 0, ⟨#[]⟩, (⟨(⟨0, 0, 0, dz, 0⟩ : Head), 0, dz⟩ : Signed), (⟨0, 0, 0, 0, dz⟩ : Claim)⟩ : Entry)⟩ : Item) ++ ([.slice none 0 0] ++ (Zo d0))))]) (v := .tuple #[mxV ([Iv ((kx (kx k c0) d0).epoch), Iv ((kx (kx k c0) d0).log), slv 11 0 ((kx (kx k c0) d0).items.length) ((kx (kx k c0) d0).items.length), slv 12 0 ((kx (kx k c0) d0).claims.length) ((kx (kx k c0) d0).claims.length)]), Iv (ex (kx k c0) d0)]) (H' := [rwR Zk k.items, Y34 k, Y35 k n c m d, bxB 36 (Zo c0), bxB 36 (Zo d0), Y36 k c0, Y37 k c0, Y39 k c0, Y36 k c0, Y37 k c0, Y40 k c0, Y41 k c0 d0, Y42 k c0 d0, hole]) rfl rfl rfl rfl rfl rfl rfl ⟨⟨(Z9 (by kernel_rfl) ⟨⟨rfl, rfl⟩, ⟨rfl, rfl⟩, ⟨rfl, rfl, (by first | rfl | omega), by first | omega | exact Nat.le_refl _, by first | omega | exact Nat.le_refl _⟩, ⟨rfl, rfl, (by first | rfl | omega), by first | omega | exact Nat.le_refl _, by first | omega | exact Nat.le_refl _⟩, trivial⟩), (Z9 (by kernel_rfl) (Z0 ⟨⟨rfl, rfl⟩, ⟨rfl, rfl⟩, ⟨rfl, rfl⟩, trivial⟩ (Z0 (Zac (by kernel_rfl)) (Z0 ⟨⟨rfl, rfl, rfl, rfl⟩, trivial⟩ (Zac (by kernel_rfl)))))), trivial⟩, ⟨(Zaa rfl), (Zaa rfl), ⟨rfl, rfl, by first | exact Nat.succ_pos _ | (show 0 < _; decide)⟩, trivial⟩, rfl, rfl, rfl⟩ (by kernel_rfl) (by kernel_rfl) ?_
  refine Zb (.tuple #[mxV ([Iv ((kx (kx k c0) d0).epoch), Iv ((kx (kx k c0) d0).log), slv 11 0 ((kx (kx k c0) d0).items.length) ((kx (kx k c0) d0).items.length), slv 12 0 ((kx (kx k c0) d0).claims.length) ((kx (kx k c0) d0).claims.length)]), Iv (ex (kx k c0) d0)]) (Zak (vs := #[mxV ([Iv ((kx (kx k c0) d0).epoch), Iv ((kx (kx k c0) d0).log), slv 11 0 ((kx (kx k c0) d0).items.length) ((kx (kx k c0) d0).items.length), slv 12 0 ((kx (kx k c0) d0).claims.length) ((kx (kx k c0) d0).claims.length)]), Iv (ex (kx k c0) d0)]) (v := mxV ([Iv ((kx (kx k c0) d0).epoch), Iv ((kx (kx k c0) d0).log), slv 11 0 ((kx (kx k c0) d0).items.length) ((kx (kx k c0) d0).items.length), slv 12 0 ((kx (kx k c0) d0).claims.length) ((kx (kx k c0) d0).claims.length)])) (Zak (vs := #[mxV ([Iv ((kx (kx k c0) d0).epoch), Iv ((kx (kx k c0) d0).log), slv 11 0 ((kx (kx k c0) d0).items.length) ((kx (kx k c0) d0).items.length), slv 12 0 ((kx (kx k c0) d0).claims.length) ((kx (kx k c0) d0).claims.length)]), Iv (ex (kx k c0) d0)]) (v := Iv (ex (kx k c0) d0)) (Za4 (b := mxB 4 ([Iv 0, Iv 0, .slice none 0 0, .slice none 0 0])) (nid := 13) (H' := [rwR Zk k.items, Y34 k, Y35 k n c m d, bxB 36 (Zo c0), bxB 36 (Zo d0), Y36 k c0, Y37 k c0, Y39 k c0, Y36 k c0, Y37 k c0, Y40 k c0, Y41 k c0 d0, Y42 k c0 d0, Y38]) (Zy (p := pt 13 0) (v := mxV ([Iv ((kx (kx k c0) d0).epoch), Iv ((kx (kx k c0) d0).log), slv 11 0 ((kx (kx k c0) d0).items.length) ((kx (kx k c0) d0).items.length), slv 12 0 ((kx (kx k c0) d0).claims.length) ((kx (kx k c0) d0).claims.length)])) (b := 13) (blk := mxB 4 ([Iv ((kx (kx k c0) d0).epoch), Iv ((kx (kx k c0) d0).log), slv 11 0 ((kx (kx k c0) d0).items.length) ((kx (kx k c0) d0).items.length), slv 12 0 ((kx (kx k c0) d0).claims.length) ((kx (kx k c0) d0).claims.length)])) (H' := [rwR Zk k.items, Y34 k, Y35 k n c m d, bxB 36 (Zo c0), bxB 36 (Zo d0), Y36 k c0, Y37 k c0, Y39 k c0, Y36 k c0, Y37 k c0, Y40 k c0, Y41 k c0 d0, Y42 k c0 d0, Y43 k c0 d0]) (Zc (Iv (ex (kx k c0) d0)) (Ze (Zf (Zj (Zl (Zd (b := 4) (o := 0) (n := 0) (o' := 0) (Zi (p := pt 4 0) (v := Iv d0.region) (Zd (b := 3) (o := 0) (n := 0) (o' := 0) (Zi (p := pt 3 0) (v := Iv c0.region) ?_)))))))))))))
  by_cases h4 : d0.region = c0.region
  refine Zn (vx := Iv d0.region) (vy := Iv c0.region) rfl rfl (.bool true) rfl rfl (Zav (by omega)) ?_
  refine Zb (.bool true) (Zd (b := 4) (o := 0) (n := 1) (o' := 1) (Zi (p := pt 4 1) (v := Iv d0.epoch) (Zd (b := 3) (o := 0) (n := 1) (o' := 1) (Zi (p := pt 3 1) (v := Iv c0.epoch) ?_))))
  by_cases h5 : d0.epoch = c0.epoch
  refine Zn (vx := Iv d0.epoch) (vy := Iv c0.epoch) rfl rfl (.bool true) rfl rfl (Zav (by omega)) ?_
  refine Zg (.bool true) (Zc (.bool true) (Ze (Zf (Zj (Zj (Zl (Zb (Iv 0) ?_)))))))
  refine Zn (vx := Iv 0) (vy := Iv 0) rfl rfl (.bool false) rfl rfl (Zbk (by omega)) ?_
  refine Zb (.bool false) (Zi (p := pt 7 0) (v := mxV ([Iv ((kx k c0).epoch), Iv ((kx k c0).log), slv 5 0 ((kx k c0).items.length) ((kx k c0).items.length), slv 6 0 ((kx k c0).claims.length) ((kx k c0).claims.length)])) (Zi (p := pt 10 0) (v := mxV ([Iv ((kx k c0).epoch), Iv ((kx k c0).log), slv 8 0 ((kx k c0).items.length) ((kx k c0).items.length), slv 9 0 ((kx k c0).claims.length) ((kx k c0).claims.length)])) ?_))
  refine Z2 (e := [some (5, 0), some (6, 0), some (8, 0), some (9, 0)]) (nid := 0) (Zeq (G := G) (kx k c0) ((kx k c0).items.length) ((kx k c0).items.length) ((kx k c0).claims.length) ((kx k c0).claims.length) rfl rfl (by omega) (by omega) (by omega) (by omega) (kx k c0) ((kx k c0).items.length) ((kx k c0).items.length) ((kx k c0).claims.length) ((kx k c0).claims.length) rfl rfl (by omega) (by omega) (by omega) (by omega)) (vals := [mxV ([Iv ((kx k c0).epoch), Iv ((kx k c0).log), slv 5 0 ((kx k c0).items.length) ((kx k c0).items.length), slv 6 0 ((kx k c0).claims.length) ((kx k c0).claims.length)]), mxV ([Iv ((kx k c0).epoch), Iv ((kx k c0).log), slv 8 0 ((kx k c0).items.length) ((kx k c0).items.length), slv 9 0 ((kx k c0).claims.length) ((kx k c0).claims.length)])]) (v := .bool (Zdo (kx k c0) (kx k c0))) (H' := [rwR Zk k.items, Y34 k, Y35 k n c m d, bxB 36 (Zo c0), bxB 36 (Zo d0), Y36 k c0, Y37 k c0, Y39 k c0, Y36 k c0, Y37 k c0, Y40 k c0, Y41 k c0 d0, Y42 k c0 d0, Y43 k c0 d0]) rfl rfl rfl rfl rfl rfl rfl ⟨⟨(Z9 (by kernel_rfl) ⟨⟨rfl, rfl⟩, ⟨rfl, rfl⟩, ⟨rfl, rfl, rfl, by first | omega | exact Nat.le_refl _, by first | omega | exact Nat.le_refl _⟩, ⟨rfl, rfl, rfl, by first | omega | exact Nat.le_refl _, by first | omega | exact Nat.le_refl _⟩, trivial⟩), (Z9 (by kernel_rfl) ⟨⟨rfl, rfl⟩, ⟨rfl, rfl⟩, ⟨rfl, rfl, rfl, by first | omega | exact Nat.le_refl _, by first | omega | exact Nat.le_refl _⟩, ⟨rfl, rfl, rfl, by first | omega | exact Nat.le_refl _, by first | omega | exact Nat.le_refl _⟩, trivial⟩), trivial⟩, ⟨(Zaa rfl), (Zaa rfl), (Zaa rfl), (Zaa rfl), trivial⟩, rfl, rfl, rfl⟩ rfl (by kernel_rfl) ?_
  refine Zd1 (vx := .bool (Zdo (kx k c0) (kx k c0))) rfl rfl (.bool false) rfl (Eq.trans Zbl (congrArg (fun b => some (Value.bool !b)) (Ze7 _))) ?_
  refine Zg (.bool false) (Zb (.bool false) (Zd (b := 7) (o := 0) (n := 0) (o' := 0) (Zi (p := pt 7 0) (v := Iv ((kx k c0).epoch)) (Zd (b := 2) (o := 0) (n := 0) (o' := 0) (Zi (p := pt 2 0) (v := Iv k.epoch) ?_)))))
  refine Zn (vx := Iv ((kx k c0).epoch)) (vy := Iv k.epoch) rfl rfl (.bool false) rfl rfl (Zbk (by omega)) ?_
  refine Zg (.bool false) (Zb (.bool false) (Zd (b := 7) (o := 0) (n := 1) (o' := 1) (Zi (p := pt 7 1) (v := Iv ((kx k c0).log)) (Zd (b := 2) (o := 0) (n := 1) (o' := 1) (Zi (p := pt 2 1) (v := Iv k.log) ?_)))))
  refine Zn (vx := Iv ((kx k c0).log)) (vy := Iv k.log) rfl rfl (.bool false) rfl rfl (Zbk (by omega)) ?_
  refine Zg (.bool false) (Zb (.bool false) (Zd (b := 7) (o := 0) (n := 2) (o' := 2) (Zi (p := pt 7 2) (v := slv 5 0 ((kx k c0).items.length) ((kx k c0).items.length)) (Zd (b := 2) (o := 0) (n := 2) (o' := 2) (Zi (p := pt 2 2) (v := slv 0 0 n c) ?_)))))
  refine Z2 (e := [some (5, 0), some (0, 0)]) (nid := 0) (Zep (G := G) ((kx k c0).items) k.items ((kx k c0).items.length) ((kx k c0).items.length) n c rfl hn (by omega) (by omega) (by omega) (by omega)) (vals := [slv 5 0 ((kx k c0).items.length) ((kx k c0).items.length), slv 0 0 n c]) (v := .bool (Zcc ((kx k c0).items) k.items)) (H' := [rwR Zk k.items, Y34 k, Y35 k n c m d, bxB 36 (Zo c0), bxB 36 (Zo d0), Y36 k c0, Y37 k c0, Y39 k c0, Y36 k c0, Y37 k c0, Y40 k c0, Y41 k c0 d0, Y42 k c0 d0, Y43 k c0 d0]) rfl rfl rfl rfl rfl rfl rfl ⟨⟨⟨rfl, rfl, rfl, by first | omega | exact Nat.le_refl _, by first | omega | exact Nat.le_refl _⟩, ⟨rfl, rfl, rfl, by first | omega | exact Nat.le_refl _, by first | omega | exact Nat.le_refl _⟩, trivial⟩, ⟨(Zaa rfl), (Zae rfl), trivial⟩, rfl, rfl, rfl⟩ rfl (by kernel_rfl) ?_
  refine Zd1 (vx := .bool (Zcc ((kx k c0).items) k.items)) rfl rfl (.bool false) rfl (Eq.trans Zbl (congrArg (fun b => some (Value.bool !b)) (Zer he3))) ?_
  refine Zg (.bool false) (Ze (Zf (Zw rfl (Z7 (Zf (Zj (Zl ?_)))))))
  refine Zs (Zf3 (G := G)) (vals := []) (res' := .bool true) rfl rfl rfl rfl rfl rfl ?_
  refine Zb (.bool true) (Zb (.bool true) ?_)
  refine Zd1 (vx := .bool true) rfl rfl (.bool false) rfl Zbl ?_
  refine Zb (.bool false) (Zb (Iv (ex (kx k c0) d0)) ?_)
  refine Zn (vx := Iv (ex (kx k c0) d0)) (vy := Iv 0) rfl rfl (.bool true) rfl rfl (Zav (by omega)) ?_
  refine Zi (p := pt 3 0) (v := Zv c0) (Zi (p := pt 4 0) (v := Zv d0) ?_)
  rcases Bool.eq_false_or_eq_true (Zr c0 d0) with h6 | h6
  refine Zn (vx := Zv c0) (vy := Zv d0) rfl rfl (.bool true) rfl rfl (Eq.trans (Zcr c0 d0) (by rw [h6] <;> rfl)) ?_
  refine Zn (vx := .bool true) (vy := .bool true) rfl rfl (.bool true) rfl rfl (Zsg rfl rfl rfl) ?_
  refine Zg (.bool true) (Zg (.bool true) (Zb (.bool true) (Zb (Iv (ex (kx k c0) d0)) ?_)))
  refine Zn (vx := Iv (ex (kx k c0) d0)) (vy := Iv 0) rfl rfl (.bool false) rfl rfl (Zbk (by omega)) ?_
  refine Zb (.bool false) (Zd (b := 13) (o := 0) (n := 3) (o' := 3) (Zi (p := pt 13 3) (v := slv 12 0 ((kx (kx k c0) d0).claims.length) ((kx (kx k c0) d0).claims.length)) (Zba (p := slv 12 0 ((kx (kx k c0) d0).claims.length) ((kx (kx k c0) d0).claims.length)) (v := Iv ((((kx (kx k c0) d0).claims.length) : Nat) : Int)) (Zd (b := 7) (o := 0) (n := 3) (o' := 3) (Zi (p := pt 7 3) (v := slv 6 0 ((kx k c0).claims.length) ((kx k c0).claims.length)) (Zba (p := slv 6 0 ((kx k c0).claims.length) ((kx k c0).claims.length)) (v := Iv ((((kx k c0).claims.length) : Nat) : Int)) ?_))))))
  refine Zn (vx := Iv ((((kx (kx k c0) d0).claims.length) : Nat) : Int)) (vy := Iv ((((kx k c0).claims.length) : Nat) : Int)) rfl rfl (.bool true) rfl rfl (Zhw (by omega)) ?_
  refine Zg (.bool true) (Zg (.bool true) (Zc (.bool true) (Ze (Zf (Zq (Zp ?_))))))
  exact Zm (v := .bool true) rfl rfl rfl (by kernel_rfl) rfl
  refine Zn (vx := Zv c0) (vy := Zv d0) rfl rfl (.bool false) rfl rfl (Eq.trans (Zcr c0 d0) (by rw [h6] <;> rfl)) ?_
  refine Zn (vx := .bool true) (vy := .bool false) rfl rfl (.bool false) rfl rfl (Zsg rfl rfl rfl) ?_
  refine Zg (.bool false) (Zg (.bool false) (Zb (.bool false) (Za (Za (Za (Za (Za (Za (Za (Za (Za (Za (Za (Zg (.bool false) (Zc (.bool false) (Ze (Zf (Zq (Zp ?_)))))))))))))))))))
  exfalso; first | omega | exact absurd ((hco (by omega) (by omega)).1 (by omega)) (by rw [‹Zr c0 d0 = false›]; decide) | exact absurd ((hco (by omega) (by omega)).2 (by assumption)) (by omega)
  refine Zn (vx := Iv d0.epoch) (vy := Iv c0.epoch) rfl rfl (.bool false) rfl rfl (Zbb (by omega)) ?_
  refine Zg (.bool false) (Zc (.bool false) (Ze (Zf (Zj (Zj (Zl (Zb (Iv 0) ?_)))))))
  refine Zn (vx := Iv 0) (vy := Iv 0) rfl rfl (.bool false) rfl rfl (Zbk (by omega)) ?_
  refine Zb (.bool false) (Zi (p := pt 7 0) (v := mxV ([Iv ((kx k c0).epoch), Iv ((kx k c0).log), slv 5 0 ((kx k c0).items.length) ((kx k c0).items.length), slv 6 0 ((kx k c0).claims.length) ((kx k c0).claims.length)])) (Zi (p := pt 10 0) (v := mxV ([Iv ((kx k c0).epoch), Iv ((kx k c0).log), slv 8 0 ((kx k c0).items.length) ((kx k c0).items.length), slv 9 0 ((kx k c0).claims.length) ((kx k c0).claims.length)])) ?_))
  refine Z2 (e := [some (5, 0), some (6, 0), some (8, 0), some (9, 0)]) (nid := 0) (Zeq (G := G) (kx k c0) ((kx k c0).items.length) ((kx k c0).items.length) ((kx k c0).claims.length) ((kx k c0).claims.length) rfl rfl (by omega) (by omega) (by omega) (by omega) (kx k c0) ((kx k c0).items.length) ((kx k c0).items.length) ((kx k c0).claims.length) ((kx k c0).claims.length) rfl rfl (by omega) (by omega) (by omega) (by omega)) (vals := [mxV ([Iv ((kx k c0).epoch), Iv ((kx k c0).log), slv 5 0 ((kx k c0).items.length) ((kx k c0).items.length), slv 6 0 ((kx k c0).claims.length) ((kx k c0).claims.length)]), mxV ([Iv ((kx k c0).epoch), Iv ((kx k c0).log), slv 8 0 ((kx k c0).items.length) ((kx k c0).items.length), slv 9 0 ((kx k c0).claims.length) ((kx k c0).claims.length)])]) (v := .bool (Zdo (kx k c0) (kx k c0))) (H' := [rwR Zk k.items, Y34 k, Y35 k n c m d, bxB 36 (Zo c0), bxB 36 (Zo d0), Y36 k c0, Y37 k c0, Y39 k c0, Y36 k c0, Y37 k c0, Y40 k c0, Y41 k c0 d0, Y42 k c0 d0, Y43 k c0 d0]) rfl rfl rfl rfl rfl rfl rfl ⟨⟨(Z9 (by kernel_rfl) ⟨⟨rfl, rfl⟩, ⟨rfl, rfl⟩, ⟨rfl, rfl, rfl, by first | omega | exact Nat.le_refl _, by first | omega | exact Nat.le_refl _⟩, ⟨rfl, rfl, rfl, by first | omega | exact Nat.le_refl _, by first | omega | exact Nat.le_refl _⟩, trivial⟩), (Z9 (by kernel_rfl) ⟨⟨rfl, rfl⟩, ⟨rfl, rfl⟩, ⟨rfl, rfl, rfl, by first | omega | exact Nat.le_refl _, by first | omega | exact Nat.le_refl _⟩, ⟨rfl, rfl, rfl, by first | omega | exact Nat.le_refl _, by first | omega | exact Nat.le_refl _⟩, trivial⟩), trivial⟩, ⟨(Zaa rfl), (Zaa rfl), (Zaa rfl), (Zaa rfl), trivial⟩, rfl, rfl, rfl⟩ rfl (by kernel_rfl) ?_
  refine Zd1 (vx := .bool (Zdo (kx k c0) (kx k c0))) rfl rfl (.bool false) rfl (Eq.trans Zbl (congrArg (fun b => some (Value.bool !b)) (Ze7 _))) ?_
  refine Zg (.bool false) (Zb (.bool false) (Zd (b := 7) (o := 0) (n := 0) (o' := 0) (Zi (p := pt 7 0) (v := Iv ((kx k c0).epoch)) (Zd (b := 2) (o := 0) (n := 0) (o' := 0) (Zi (p := pt 2 0) (v := Iv k.epoch) ?_)))))
  refine Zn (vx := Iv ((kx k c0).epoch)) (vy := Iv k.epoch) rfl rfl (.bool false) rfl rfl (Zbk (by omega)) ?_
  refine Zg (.bool false) (Zb (.bool false) (Zd (b := 7) (o := 0) (n := 1) (o' := 1) (Zi (p := pt 7 1) (v := Iv ((kx k c0).log)) (Zd (b := 2) (o := 0) (n := 1) (o' := 1) (Zi (p := pt 2 1) (v := Iv k.log) ?_)))))
  refine Zn (vx := Iv ((kx k c0).log)) (vy := Iv k.log) rfl rfl (.bool false) rfl rfl (Zbk (by omega)) ?_
  refine Zg (.bool false) (Zb (.bool false) (Zd (b := 7) (o := 0) (n := 2) (o' := 2) (Zi (p := pt 7 2) (v := slv 5 0 ((kx k c0).items.length) ((kx k c0).items.length)) (Zd (b := 2) (o := 0) (n := 2) (o' := 2) (Zi (p := pt 2 2) (v := slv 0 0 n c) ?_)))))
  refine Z2 (e := [some (5, 0), some (0, 0)]) (nid := 0) (Zep (G := G) ((kx k c0).items) k.items ((kx k c0).items.length) ((kx k c0).items.length) n c rfl hn (by omega) (by omega) (by omega) (by omega)) (vals := [slv 5 0 ((kx k c0).items.length) ((kx k c0).items.length), slv 0 0 n c]) (v := .bool (Zcc ((kx k c0).items) k.items)) (H' := [rwR Zk k.items, Y34 k, Y35 k n c m d, bxB 36 (Zo c0), bxB 36 (Zo d0), Y36 k c0, Y37 k c0, Y39 k c0, Y36 k c0, Y37 k c0, Y40 k c0, Y41 k c0 d0, Y42 k c0 d0, Y43 k c0 d0]) rfl rfl rfl rfl rfl rfl rfl ⟨⟨⟨rfl, rfl, rfl, by first | omega | exact Nat.le_refl _, by first | omega | exact Nat.le_refl _⟩, ⟨rfl, rfl, rfl, by first | omega | exact Nat.le_refl _, by first | omega | exact Nat.le_refl _⟩, trivial⟩, ⟨(Zaa rfl), (Zae rfl), trivial⟩, rfl, rfl, rfl⟩ rfl (by kernel_rfl) ?_
  refine Zd1 (vx := .bool (Zcc ((kx k c0).items) k.items)) rfl rfl (.bool false) rfl (Eq.trans Zbl (congrArg (fun b => some (Value.bool !b)) (Zer he3))) ?_
  refine Zg (.bool false) (Ze (Zf (Zw rfl (Z7 (Zf (Zj (Zl ?_)))))))
  refine Zs (Zf3 (G := G)) (vals := []) (res' := .bool true) rfl rfl rfl rfl rfl rfl ?_
  refine Zb (.bool true) (Zb (.bool false) ?_)
  refine Zd1 (vx := .bool false) rfl rfl (.bool true) rfl Zbl ?_
  refine Zb (.bool true) (Za (Za (Za (Za (Za (Za (Zg (.bool true) (Zg (.bool true) (Zb (.bool true) (Zb (Iv (ex (kx k c0) d0)) ?_))))))))))
  refine Zn (vx := Iv (ex (kx k c0) d0)) (vy := Iv 0) rfl rfl (.bool false) rfl rfl (Zbk (by omega)) ?_
  refine Zb (.bool false) (Zd (b := 13) (o := 0) (n := 3) (o' := 3) (Zi (p := pt 13 3) (v := slv 12 0 ((kx (kx k c0) d0).claims.length) ((kx (kx k c0) d0).claims.length)) (Zba (p := slv 12 0 ((kx (kx k c0) d0).claims.length) ((kx (kx k c0) d0).claims.length)) (v := Iv ((((kx (kx k c0) d0).claims.length) : Nat) : Int)) (Zd (b := 7) (o := 0) (n := 3) (o' := 3) (Zi (p := pt 7 3) (v := slv 6 0 ((kx k c0).claims.length) ((kx k c0).claims.length)) (Zba (p := slv 6 0 ((kx k c0).claims.length) ((kx k c0).claims.length)) (v := Iv ((((kx k c0).claims.length) : Nat) : Int)) ?_))))))
  refine Zn (vx := Iv ((((kx (kx k c0) d0).claims.length) : Nat) : Int)) (vy := Iv ((((kx k c0).claims.length) : Nat) : Int)) rfl rfl (.bool true) rfl rfl (Zhw (by omega)) ?_
  refine Zg (.bool true) (Zg (.bool true) (Zc (.bool true) (Ze (Zf (Zq (Zp ?_))))))
  exact Zm (v := .bool true) rfl rfl rfl (by kernel_rfl) rfl
  refine Zn (vx := Iv d0.region) (vy := Iv c0.region) rfl rfl (.bool false) rfl rfl (Zbb (by omega)) ?_
  refine Zb (.bool false) (Za (Za (Za (Za (Za (Zg (.bool false) (Zc (.bool false) (Ze (Zf (Zj (Zj (Zl (Zb (Iv 0) ?_)))))))))))))
  refine Zn (vx := Iv 0) (vy := Iv 0) rfl rfl (.bool false) rfl rfl (Zbk (by omega)) ?_
  refine Zb (.bool false) (Zi (p := pt 7 0) (v := mxV ([Iv ((kx k c0).epoch), Iv ((kx k c0).log), slv 5 0 ((kx k c0).items.length) ((kx k c0).items.length), slv 6 0 ((kx k c0).claims.length) ((kx k c0).claims.length)])) (Zi (p := pt 10 0) (v := mxV ([Iv ((kx k c0).epoch), Iv ((kx k c0).log), slv 8 0 ((kx k c0).items.length) ((kx k c0).items.length), slv 9 0 ((kx k c0).claims.length) ((kx k c0).claims.length)])) ?_))
  refine Z2 (e := [some (5, 0), some (6, 0), some (8, 0), some (9, 0)]) (nid := 0) (Zeq (G := G) (kx k c0) ((kx k c0).items.length) ((kx k c0).items.length) ((kx k c0).claims.length) ((kx k c0).claims.length) rfl rfl (by omega) (by omega) (by omega) (by omega) (kx k c0) ((kx k c0).items.length) ((kx k c0).items.length) ((kx k c0).claims.length) ((kx k c0).claims.length) rfl rfl (by omega) (by omega) (by omega) (by omega)) (vals := [mxV ([Iv ((kx k c0).epoch), Iv ((kx k c0).log), slv 5 0 ((kx k c0).items.length) ((kx k c0).items.length), slv 6 0 ((kx k c0).claims.length) ((kx k c0).claims.length)]), mxV ([Iv ((kx k c0).epoch), Iv ((kx k c0).log), slv 8 0 ((kx k c0).items.length) ((kx k c0).items.length), slv 9 0 ((kx k c0).claims.length) ((kx k c0).claims.length)])]) (v := .bool (Zdo (kx k c0) (kx k c0))) (H' := [rwR Zk k.items, Y34 k, Y35 k n c m d, bxB 36 (Zo c0), bxB 36 (Zo d0), Y36 k c0, Y37 k c0, Y39 k c0, Y36 k c0, Y37 k c0, Y40 k c0, Y41 k c0 d0, Y42 k c0 d0, Y43 k c0 d0]) rfl rfl rfl rfl rfl rfl rfl ⟨⟨(Z9 (by kernel_rfl) ⟨⟨rfl, rfl⟩, ⟨rfl, rfl⟩, ⟨rfl, rfl, rfl, by first | omega | exact Nat.le_refl _, by first | omega | exact Nat.le_refl _⟩, ⟨rfl, rfl, rfl, by first | omega | exact Nat.le_refl _, by first | omega | exact Nat.le_refl _⟩, trivial⟩), (Z9 (by kernel_rfl) ⟨⟨rfl, rfl⟩, ⟨rfl, rfl⟩, ⟨rfl, rfl, rfl, by first | omega | exact Nat.le_refl _, by first | omega | exact Nat.le_refl _⟩, ⟨rfl, rfl, rfl, by first | omega | exact Nat.le_refl _, by first | omega | exact Nat.le_refl _⟩, trivial⟩), trivial⟩, ⟨(Zaa rfl), (Zaa rfl), (Zaa rfl), (Zaa rfl), trivial⟩, rfl, rfl, rfl⟩ rfl (by kernel_rfl) ?_
  refine Zd1 (vx := .bool (Zdo (kx k c0) (kx k c0))) rfl rfl (.bool false) rfl (Eq.trans Zbl (congrArg (fun b => some (Value.bool !b)) (Ze7 _))) ?_
  refine Zg (.bool false) (Zb (.bool false) (Zd (b := 7) (o := 0) (n := 0) (o' := 0) (Zi (p := pt 7 0) (v := Iv ((kx k c0).epoch)) (Zd (b := 2) (o := 0) (n := 0) (o' := 0) (Zi (p := pt 2 0) (v := Iv k.epoch) ?_)))))
  refine Zn (vx := Iv ((kx k c0).epoch)) (vy := Iv k.epoch) rfl rfl (.bool false) rfl rfl (Zbk (by omega)) ?_
  refine Zg (.bool false) (Zb (.bool false) (Zd (b := 7) (o := 0) (n := 1) (o' := 1) (Zi (p := pt 7 1) (v := Iv ((kx k c0).log)) (Zd (b := 2) (o := 0) (n := 1) (o' := 1) (Zi (p := pt 2 1) (v := Iv k.log) ?_)))))
  refine Zn (vx := Iv ((kx k c0).log)) (vy := Iv k.log) rfl rfl (.bool false) rfl rfl (Zbk (by omega)) ?_
  refine Zg (.bool false) (Zb (.bool false) (Zd (b := 7) (o := 0) (n := 2) (o' := 2) (Zi (p := pt 7 2) (v := slv 5 0 ((kx k c0).items.length) ((kx k c0).items.length)) (Zd (b := 2) (o := 0) (n := 2) (o' := 2) (Zi (p := pt 2 2) (v := slv 0 0 n c) ?_)))))
  refine Z2 (e := [some (5, 0), some (0, 0)]) (nid := 0) (Zep (G := G) ((kx k c0).items) k.items ((kx k c0).items.length) ((kx k c0).items.length) n c rfl hn (by omega) (by omega) (by omega) (by omega)) (vals := [slv 5 0 ((kx k c0).items.length) ((kx k c0).items.length), slv 0 0 n c]) (v := .bool (Zcc ((kx k c0).items) k.items)) (H' := [rwR Zk k.items, Y34 k, Y35 k n c m d, bxB 36 (Zo c0), bxB 36 (Zo d0), Y36 k c0, Y37 k c0, Y39 k c0, Y36 k c0, Y37 k c0, Y40 k c0, Y41 k c0 d0, Y42 k c0 d0, Y43 k c0 d0]) rfl rfl rfl rfl rfl rfl rfl ⟨⟨⟨rfl, rfl, rfl, by first | omega | exact Nat.le_refl _, by first | omega | exact Nat.le_refl _⟩, ⟨rfl, rfl, rfl, by first | omega | exact Nat.le_refl _, by first | omega | exact Nat.le_refl _⟩, trivial⟩, ⟨(Zaa rfl), (Zae rfl), trivial⟩, rfl, rfl, rfl⟩ rfl (by kernel_rfl) ?_
  refine Zd1 (vx := .bool (Zcc ((kx k c0).items) k.items)) rfl rfl (.bool false) rfl (Eq.trans Zbl (congrArg (fun b => some (Value.bool !b)) (Zer he3))) ?_
  refine Zg (.bool false) (Ze (Zf (Zw rfl (Z7 (Zf (Zj (Zl ?_)))))))
  refine Zs (Zf3 (G := G)) (vals := []) (res' := .bool true) rfl rfl rfl rfl rfl rfl ?_
  refine Zb (.bool true) (Zb (.bool false) ?_)
  refine Zd1 (vx := .bool false) rfl rfl (.bool true) rfl Zbl ?_
  refine Zb (.bool true) (Za (Za (Za (Za (Za (Za (Zg (.bool true) (Zg (.bool true) (Zb (.bool true) (Zb (Iv (ex (kx k c0) d0)) ?_))))))))))
  refine Zn (vx := Iv (ex (kx k c0) d0)) (vy := Iv 0) rfl rfl (.bool false) rfl rfl (Zbk (by omega)) ?_
  refine Zb (.bool false) (Zd (b := 13) (o := 0) (n := 3) (o' := 3) (Zi (p := pt 13 3) (v := slv 12 0 ((kx (kx k c0) d0).claims.length) ((kx (kx k c0) d0).claims.length)) (Zba (p := slv 12 0 ((kx (kx k c0) d0).claims.length) ((kx (kx k c0) d0).claims.length)) (v := Iv ((((kx (kx k c0) d0).claims.length) : Nat) : Int)) (Zd (b := 7) (o := 0) (n := 3) (o' := 3) (Zi (p := pt 7 3) (v := slv 6 0 ((kx k c0).claims.length) ((kx k c0).claims.length)) (Zba (p := slv 6 0 ((kx k c0).claims.length) ((kx k c0).claims.length)) (v := Iv ((((kx k c0).claims.length) : Nat) : Int)) ?_))))))
  refine Zn (vx := Iv ((((kx (kx k c0) d0).claims.length) : Nat) : Int)) (vy := Iv ((((kx k c0).claims.length) : Nat) : Int)) rfl rfl (.bool true) rfl rfl (Zhw (by omega)) ?_
  refine Zg (.bool true) (Zg (.bool true) (Zc (.bool true) (Ze (Zf (Zq (Zp ?_))))))
  exact Zm (v := .bool true) rfl rfl rfl (by kernel_rfl) rfl
  have hkl43 := Zol (kx k c0) d0
  have hen43 := Zsi (kx k c0) d0
  have hco : d0.region = c0.region → d0.epoch = c0.epoch → ((ex (kx k c0) d0) = 0 ↔ Zr c0 d0 = true) := fun q1 q2 => Zpm (k := k) (by omega) q1 q2
  refine Z2 (e := [some (5, 0), some (6, 0), none]) (nid := 11) (Zho (G := G) (kx k c0) ((kx k c0).items.length) ((kx k c0).claims.length) (by omega) (by omega) (by omega) (by omega) (Zfk d0) 0 0 rfl (by omega) (by omega)) (vals := [mxV ([Iv ((kx k c0).epoch), Iv ((kx k c0).log), slv 5 0 ((kx k c0).items.length) ((kx k c0).items.length), slv 6 0 ((kx k c0).claims.length) ((kx k c0).claims.length)]), mxV ([Iv 4, Iv 0, Iv 0] ++ (Zt (⟨0, (⟨0, 0, 0, ⟨#[]⟩, (⟨(⟨0, 0, 0, dz, 0⟩ : Head), 0, dz⟩ : Signed), (⟨0, 0, 0, 0, dz⟩ : Claim)⟩ : Entry)⟩ : Item) ++ ([.slice none 0 0] ++ (Zo d0))))]) (v := .tuple #[mxV ([Iv ((kx (kx k c0) d0).epoch), Iv ((kx (kx k c0) d0).log), slv 11 0 ((kx (kx k c0) d0).items.length) ((kx (kx k c0) d0).items.length), slv 12 0 ((kx (kx k c0) d0).claims.length) ((kx (kx k c0) d0).claims.length)]), Iv (ex (kx k c0) d0)]) (H' := [rwR Zk k.items, Y34 k, Y35 k n c m d, bxB 36 (Zo c0), bxB 36 (Zo d0), Y36 k c0, Y37 k c0, Y39 k c0, Y36 k c0, Y37 k c0, Y40 k c0, Y41 k c0 d0, Y42 k c0 d0, hole]) rfl rfl rfl rfl rfl rfl rfl ⟨⟨(Z9 (by kernel_rfl) ⟨⟨rfl, rfl⟩, ⟨rfl, rfl⟩, ⟨rfl, rfl, (by first | rfl | omega), by first | omega | exact Nat.le_refl _, by first | omega | exact Nat.le_refl _⟩, ⟨rfl, rfl, (by first | rfl | omega), by first | omega | exact Nat.le_refl _, by first | omega | exact Nat.le_refl _⟩, trivial⟩), (Z9 (by kernel_rfl) (Z0 ⟨⟨rfl, rfl⟩, ⟨rfl, rfl⟩, ⟨rfl, rfl⟩, trivial⟩ (Z0 (Zac (by kernel_rfl)) (Z0 ⟨⟨rfl, rfl, rfl, rfl⟩, trivial⟩ (Zac (by kernel_rfl)))))), trivial⟩, ⟨(Zaa rfl), (Zaa rfl), ⟨rfl, rfl, by first | exact Nat.succ_pos _ | (show 0 < _; decide)⟩, trivial⟩, rfl, rfl, rfl⟩ (by kernel_rfl) (by kernel_rfl) ?_
  refine Zb (.tuple #[mxV ([Iv ((kx (kx k c0) d0).epoch), Iv ((kx (kx k c0) d0).log), slv 11 0 ((kx (kx k c0) d0).items.length) ((kx (kx k c0) d0).items.length), slv 12 0 ((kx (kx k c0) d0).claims.length) ((kx (kx k c0) d0).claims.length)]), Iv (ex (kx k c0) d0)]) (Zak (vs := #[mxV ([Iv ((kx (kx k c0) d0).epoch), Iv ((kx (kx k c0) d0).log), slv 11 0 ((kx (kx k c0) d0).items.length) ((kx (kx k c0) d0).items.length), slv 12 0 ((kx (kx k c0) d0).claims.length) ((kx (kx k c0) d0).claims.length)]), Iv (ex (kx k c0) d0)]) (v := mxV ([Iv ((kx (kx k c0) d0).epoch), Iv ((kx (kx k c0) d0).log), slv 11 0 ((kx (kx k c0) d0).items.length) ((kx (kx k c0) d0).items.length), slv 12 0 ((kx (kx k c0) d0).claims.length) ((kx (kx k c0) d0).claims.length)])) (Zak (vs := #[mxV ([Iv ((kx (kx k c0) d0).epoch), Iv ((kx (kx k c0) d0).log), slv 11 0 ((kx (kx k c0) d0).items.length) ((kx (kx k c0) d0).items.length), slv 12 0 ((kx (kx k c0) d0).claims.length) ((kx (kx k c0) d0).claims.length)]), Iv (ex (kx k c0) d0)]) (v := Iv (ex (kx k c0) d0)) (Za4 (b := mxB 4 ([Iv 0, Iv 0, .slice none 0 0, .slice none 0 0])) (nid := 13) (H' := [rwR Zk k.items, Y34 k, Y35 k n c m d, bxB 36 (Zo c0), bxB 36 (Zo d0), Y36 k c0, Y37 k c0, Y39 k c0, Y36 k c0, Y37 k c0, Y40 k c0, Y41 k c0 d0, Y42 k c0 d0, Y38]) (Zy (p := pt 13 0) (v := mxV ([Iv ((kx (kx k c0) d0).epoch), Iv ((kx (kx k c0) d0).log), slv 11 0 ((kx (kx k c0) d0).items.length) ((kx (kx k c0) d0).items.length), slv 12 0 ((kx (kx k c0) d0).claims.length) ((kx (kx k c0) d0).claims.length)])) (b := 13) (blk := mxB 4 ([Iv ((kx (kx k c0) d0).epoch), Iv ((kx (kx k c0) d0).log), slv 11 0 ((kx (kx k c0) d0).items.length) ((kx (kx k c0) d0).items.length), slv 12 0 ((kx (kx k c0) d0).claims.length) ((kx (kx k c0) d0).claims.length)])) (H' := [rwR Zk k.items, Y34 k, Y35 k n c m d, bxB 36 (Zo c0), bxB 36 (Zo d0), Y36 k c0, Y37 k c0, Y39 k c0, Y36 k c0, Y37 k c0, Y40 k c0, Y41 k c0 d0, Y42 k c0 d0, Y43 k c0 d0]) (Zc (Iv (ex (kx k c0) d0)) (Ze (Zf (Zj (Zl (Zd (b := 4) (o := 0) (n := 0) (o' := 0) (Zi (p := pt 4 0) (v := Iv d0.region) (Zd (b := 3) (o := 0) (n := 0) (o' := 0) (Zi (p := pt 3 0) (v := Iv c0.region) ?_)))))))))))))
  by_cases h7 : d0.region = c0.region
  refine Zn (vx := Iv d0.region) (vy := Iv c0.region) rfl rfl (.bool true) rfl rfl (Zav (by omega)) ?_
  refine Zb (.bool true) (Zd (b := 4) (o := 0) (n := 1) (o' := 1) (Zi (p := pt 4 1) (v := Iv d0.epoch) (Zd (b := 3) (o := 0) (n := 1) (o' := 1) (Zi (p := pt 3 1) (v := Iv c0.epoch) ?_))))
  by_cases h8 : d0.epoch = c0.epoch
  refine Zn (vx := Iv d0.epoch) (vy := Iv c0.epoch) rfl rfl (.bool true) rfl rfl (Zav (by omega)) ?_
  refine Zg (.bool true) (Zc (.bool true) (Ze (Zf (Zj (Zj (Zl (Zb (Iv 0) ?_)))))))
  refine Zn (vx := Iv 0) (vy := Iv 0) rfl rfl (.bool false) rfl rfl (Zbk (by omega)) ?_
  refine Zb (.bool false) (Zi (p := pt 7 0) (v := mxV ([Iv ((kx k c0).epoch), Iv ((kx k c0).log), slv 5 0 ((kx k c0).items.length) ((kx k c0).items.length), slv 6 0 ((kx k c0).claims.length) ((kx k c0).claims.length)])) (Zi (p := pt 10 0) (v := mxV ([Iv ((kx k c0).epoch), Iv ((kx k c0).log), slv 8 0 ((kx k c0).items.length) ((kx k c0).items.length), slv 9 0 ((kx k c0).claims.length) ((kx k c0).claims.length)])) ?_))
  refine Z2 (e := [some (5, 0), some (6, 0), some (8, 0), some (9, 0)]) (nid := 0) (Zeq (G := G) (kx k c0) ((kx k c0).items.length) ((kx k c0).items.length) ((kx k c0).claims.length) ((kx k c0).claims.length) rfl rfl (by omega) (by omega) (by omega) (by omega) (kx k c0) ((kx k c0).items.length) ((kx k c0).items.length) ((kx k c0).claims.length) ((kx k c0).claims.length) rfl rfl (by omega) (by omega) (by omega) (by omega)) (vals := [mxV ([Iv ((kx k c0).epoch), Iv ((kx k c0).log), slv 5 0 ((kx k c0).items.length) ((kx k c0).items.length), slv 6 0 ((kx k c0).claims.length) ((kx k c0).claims.length)]), mxV ([Iv ((kx k c0).epoch), Iv ((kx k c0).log), slv 8 0 ((kx k c0).items.length) ((kx k c0).items.length), slv 9 0 ((kx k c0).claims.length) ((kx k c0).claims.length)])]) (v := .bool (Zdo (kx k c0) (kx k c0))) (H' := [rwR Zk k.items, Y34 k, Y35 k n c m d, bxB 36 (Zo c0), bxB 36 (Zo d0), Y36 k c0, Y37 k c0, Y39 k c0, Y36 k c0, Y37 k c0, Y40 k c0, Y41 k c0 d0, Y42 k c0 d0, Y43 k c0 d0]) rfl rfl rfl rfl rfl rfl rfl ⟨⟨(Z9 (by kernel_rfl) ⟨⟨rfl, rfl⟩, ⟨rfl, rfl⟩, ⟨rfl, rfl, rfl, by first | omega | exact Nat.le_refl _, by first | omega | exact Nat.le_refl _⟩, ⟨rfl, rfl, rfl, by first | omega | exact Nat.le_refl _, by first | omega | exact Nat.le_refl _⟩, trivial⟩), (Z9 (by kernel_rfl) ⟨⟨rfl, rfl⟩, ⟨rfl, rfl⟩, ⟨rfl, rfl, rfl, by first | omega | exact Nat.le_refl _, by first | omega | exact Nat.le_refl _⟩, ⟨rfl, rfl, rfl, by first | omega | exact Nat.le_refl _, by first | omega | exact Nat.le_refl _⟩, trivial⟩), trivial⟩, ⟨(Zaa rfl), (Zaa rfl), (Zaa rfl), (Zaa rfl), trivial⟩, rfl, rfl, rfl⟩ rfl (by kernel_rfl) ?_
  refine Zd1 (vx := .bool (Zdo (kx k c0) (kx k c0))) rfl rfl (.bool false) rfl (Eq.trans Zbl (congrArg (fun b => some (Value.bool !b)) (Ze7 _))) ?_
  refine Zg (.bool false) (Zb (.bool false) (Zd (b := 7) (o := 0) (n := 0) (o' := 0) (Zi (p := pt 7 0) (v := Iv ((kx k c0).epoch)) (Zd (b := 2) (o := 0) (n := 0) (o' := 0) (Zi (p := pt 2 0) (v := Iv k.epoch) ?_)))))
  refine Zn (vx := Iv ((kx k c0).epoch)) (vy := Iv k.epoch) rfl rfl (.bool false) rfl rfl (Zbk (by omega)) ?_
  refine Zg (.bool false) (Zb (.bool false) (Zd (b := 7) (o := 0) (n := 1) (o' := 1) (Zi (p := pt 7 1) (v := Iv ((kx k c0).log)) (Zd (b := 2) (o := 0) (n := 1) (o' := 1) (Zi (p := pt 2 1) (v := Iv k.log) ?_)))))
  refine Zn (vx := Iv ((kx k c0).log)) (vy := Iv k.log) rfl rfl (.bool false) rfl rfl (Zbk (by omega)) ?_
  refine Zg (.bool false) (Zb (.bool false) (Zd (b := 7) (o := 0) (n := 2) (o' := 2) (Zi (p := pt 7 2) (v := slv 5 0 ((kx k c0).items.length) ((kx k c0).items.length)) (Zd (b := 2) (o := 0) (n := 2) (o' := 2) (Zi (p := pt 2 2) (v := slv 0 0 n c) ?_)))))
  refine Z2 (e := [some (5, 0), some (0, 0)]) (nid := 0) (Zep (G := G) ((kx k c0).items) k.items ((kx k c0).items.length) ((kx k c0).items.length) n c rfl hn (by omega) (by omega) (by omega) (by omega)) (vals := [slv 5 0 ((kx k c0).items.length) ((kx k c0).items.length), slv 0 0 n c]) (v := .bool (Zcc ((kx k c0).items) k.items)) (H' := [rwR Zk k.items, Y34 k, Y35 k n c m d, bxB 36 (Zo c0), bxB 36 (Zo d0), Y36 k c0, Y37 k c0, Y39 k c0, Y36 k c0, Y37 k c0, Y40 k c0, Y41 k c0 d0, Y42 k c0 d0, Y43 k c0 d0]) rfl rfl rfl rfl rfl rfl rfl ⟨⟨⟨rfl, rfl, rfl, by first | omega | exact Nat.le_refl _, by first | omega | exact Nat.le_refl _⟩, ⟨rfl, rfl, rfl, by first | omega | exact Nat.le_refl _, by first | omega | exact Nat.le_refl _⟩, trivial⟩, ⟨(Zaa rfl), (Zae rfl), trivial⟩, rfl, rfl, rfl⟩ rfl (by kernel_rfl) ?_
  refine Zd1 (vx := .bool (Zcc ((kx k c0).items) k.items)) rfl rfl (.bool false) rfl (Eq.trans Zbl (congrArg (fun b => some (Value.bool !b)) (Zer he3))) ?_
  refine Zg (.bool false) (Ze (Zf (Zw rfl (Z7 (Zf (Zj (Zl ?_)))))))
  refine Zs (Zf3 (G := G)) (vals := []) (res' := .bool true) rfl rfl rfl rfl rfl rfl ?_
  refine Zb (.bool true) (Zb (.bool true) ?_)
  refine Zd1 (vx := .bool true) rfl rfl (.bool false) rfl Zbl ?_
  refine Zb (.bool false) (Zb (Iv (ex (kx k c0) d0)) ?_)
  refine Zn (vx := Iv (ex (kx k c0) d0)) (vy := Iv 0) rfl rfl (.bool false) rfl rfl (Zbb (by omega)) ?_
  refine Zi (p := pt 3 0) (v := Zv c0) (Zi (p := pt 4 0) (v := Zv d0) ?_)
  rcases Bool.eq_false_or_eq_true (Zr c0 d0) with h9 | h9
  refine Zn (vx := Zv c0) (vy := Zv d0) rfl rfl (.bool true) rfl rfl (Eq.trans (Zcr c0 d0) (by rw [h9] <;> rfl)) ?_
  refine Zn (vx := .bool false) (vy := .bool true) rfl rfl (.bool false) rfl rfl (Zsg rfl rfl rfl) ?_
  refine Zg (.bool false) (Zg (.bool false) (Zb (.bool false) (Za (Za (Za (Za (Za (Za (Za (Za (Za (Za (Za (Zg (.bool false) (Zc (.bool false) (Ze (Zf (Zq (Zp ?_)))))))))))))))))))
  exfalso; first | omega | exact absurd ((hco (by omega) (by omega)).1 (by omega)) (by rw [‹Zr c0 d0 = false›]; decide) | exact absurd ((hco (by omega) (by omega)).2 (by assumption)) (by omega)
  refine Zn (vx := Zv c0) (vy := Zv d0) rfl rfl (.bool false) rfl rfl (Eq.trans (Zcr c0 d0) (by rw [h9] <;> rfl)) ?_
  refine Zn (vx := .bool false) (vy := .bool false) rfl rfl (.bool true) rfl rfl (Zsg rfl rfl rfl) ?_
  refine Zg (.bool true) (Zg (.bool true) (Zb (.bool true) (Zb (Iv (ex (kx k c0) d0)) ?_)))
  refine Zn (vx := Iv (ex (kx k c0) d0)) (vy := Iv 0) rfl rfl (.bool true) rfl rfl (Zc3 (by omega)) ?_
  refine Zb (.bool true) (Za (Za (Za (Za (Za (Za (Za (Zg (.bool true) (Zg (.bool true) (Zc (.bool true) (Ze (Zf (Zq (Zp ?_))))))))))))))
  exact Zm (v := .bool true) rfl rfl rfl (by kernel_rfl) rfl
  refine Zn (vx := Iv d0.epoch) (vy := Iv c0.epoch) rfl rfl (.bool false) rfl rfl (Zbb (by omega)) ?_
  refine Zg (.bool false) (Zc (.bool false) (Ze (Zf (Zj (Zj (Zl (Zb (Iv 0) ?_)))))))
  refine Zn (vx := Iv 0) (vy := Iv 0) rfl rfl (.bool false) rfl rfl (Zbk (by omega)) ?_
  refine Zb (.bool false) (Zi (p := pt 7 0) (v := mxV ([Iv ((kx k c0).epoch), Iv ((kx k c0).log), slv 5 0 ((kx k c0).items.length) ((kx k c0).items.length), slv 6 0 ((kx k c0).claims.length) ((kx k c0).claims.length)])) (Zi (p := pt 10 0) (v := mxV ([Iv ((kx k c0).epoch), Iv ((kx k c0).log), slv 8 0 ((kx k c0).items.length) ((kx k c0).items.length), slv 9 0 ((kx k c0).claims.length) ((kx k c0).claims.length)])) ?_))
  refine Z2 (e := [some (5, 0), some (6, 0), some (8, 0), some (9, 0)]) (nid := 0) (Zeq (G := G) (kx k c0) ((kx k c0).items.length) ((kx k c0).items.length) ((kx k c0).claims.length) ((kx k c0).claims.length) rfl rfl (by omega) (by omega) (by omega) (by omega) (kx k c0) ((kx k c0).items.length) ((kx k c0).items.length) ((kx k c0).claims.length) ((kx k c0).claims.length) rfl rfl (by omega) (by omega) (by omega) (by omega)) (vals := [mxV ([Iv ((kx k c0).epoch), Iv ((kx k c0).log), slv 5 0 ((kx k c0).items.length) ((kx k c0).items.length), slv 6 0 ((kx k c0).claims.length) ((kx k c0).claims.length)]), mxV ([Iv ((kx k c0).epoch), Iv ((kx k c0).log), slv 8 0 ((kx k c0).items.length) ((kx k c0).items.length), slv 9 0 ((kx k c0).claims.length) ((kx k c0).claims.length)])]) (v := .bool (Zdo (kx k c0) (kx k c0))) (H' := [rwR Zk k.items, Y34 k, Y35 k n c m d, bxB 36 (Zo c0), bxB 36 (Zo d0), Y36 k c0, Y37 k c0, Y39 k c0, Y36 k c0, Y37 k c0, Y40 k c0, Y41 k c0 d0, Y42 k c0 d0, Y43 k c0 d0]) rfl rfl rfl rfl rfl rfl rfl ⟨⟨(Z9 (by kernel_rfl) ⟨⟨rfl, rfl⟩, ⟨rfl, rfl⟩, ⟨rfl, rfl, rfl, by first | omega | exact Nat.le_refl _, by first | omega | exact Nat.le_refl _⟩, ⟨rfl, rfl, rfl, by first | omega | exact Nat.le_refl _, by first | omega | exact Nat.le_refl _⟩, trivial⟩), (Z9 (by kernel_rfl) ⟨⟨rfl, rfl⟩, ⟨rfl, rfl⟩, ⟨rfl, rfl, rfl, by first | omega | exact Nat.le_refl _, by first | omega | exact Nat.le_refl _⟩, ⟨rfl, rfl, rfl, by first | omega | exact Nat.le_refl _, by first | omega | exact Nat.le_refl _⟩, trivial⟩), trivial⟩, ⟨(Zaa rfl), (Zaa rfl), (Zaa rfl), (Zaa rfl), trivial⟩, rfl, rfl, rfl⟩ rfl (by kernel_rfl) ?_
  refine Zd1 (vx := .bool (Zdo (kx k c0) (kx k c0))) rfl rfl (.bool false) rfl (Eq.trans Zbl (congrArg (fun b => some (Value.bool !b)) (Ze7 _))) ?_
  refine Zg (.bool false) (Zb (.bool false) (Zd (b := 7) (o := 0) (n := 0) (o' := 0) (Zi (p := pt 7 0) (v := Iv ((kx k c0).epoch)) (Zd (b := 2) (o := 0) (n := 0) (o' := 0) (Zi (p := pt 2 0) (v := Iv k.epoch) ?_)))))
  refine Zn (vx := Iv ((kx k c0).epoch)) (vy := Iv k.epoch) rfl rfl (.bool false) rfl rfl (Zbk (by omega)) ?_
  refine Zg (.bool false) (Zb (.bool false) (Zd (b := 7) (o := 0) (n := 1) (o' := 1) (Zi (p := pt 7 1) (v := Iv ((kx k c0).log)) (Zd (b := 2) (o := 0) (n := 1) (o' := 1) (Zi (p := pt 2 1) (v := Iv k.log) ?_)))))
  refine Zn (vx := Iv ((kx k c0).log)) (vy := Iv k.log) rfl rfl (.bool false) rfl rfl (Zbk (by omega)) ?_
  refine Zg (.bool false) (Zb (.bool false) (Zd (b := 7) (o := 0) (n := 2) (o' := 2) (Zi (p := pt 7 2) (v := slv 5 0 ((kx k c0).items.length) ((kx k c0).items.length)) (Zd (b := 2) (o := 0) (n := 2) (o' := 2) (Zi (p := pt 2 2) (v := slv 0 0 n c) ?_)))))
  refine Z2 (e := [some (5, 0), some (0, 0)]) (nid := 0) (Zep (G := G) ((kx k c0).items) k.items ((kx k c0).items.length) ((kx k c0).items.length) n c rfl hn (by omega) (by omega) (by omega) (by omega)) (vals := [slv 5 0 ((kx k c0).items.length) ((kx k c0).items.length), slv 0 0 n c]) (v := .bool (Zcc ((kx k c0).items) k.items)) (H' := [rwR Zk k.items, Y34 k, Y35 k n c m d, bxB 36 (Zo c0), bxB 36 (Zo d0), Y36 k c0, Y37 k c0, Y39 k c0, Y36 k c0, Y37 k c0, Y40 k c0, Y41 k c0 d0, Y42 k c0 d0, Y43 k c0 d0]) rfl rfl rfl rfl rfl rfl rfl ⟨⟨⟨rfl, rfl, rfl, by first | omega | exact Nat.le_refl _, by first | omega | exact Nat.le_refl _⟩, ⟨rfl, rfl, rfl, by first | omega | exact Nat.le_refl _, by first | omega | exact Nat.le_refl _⟩, trivial⟩, ⟨(Zaa rfl), (Zae rfl), trivial⟩, rfl, rfl, rfl⟩ rfl (by kernel_rfl) ?_
  refine Zd1 (vx := .bool (Zcc ((kx k c0).items) k.items)) rfl rfl (.bool false) rfl (Eq.trans Zbl (congrArg (fun b => some (Value.bool !b)) (Zer he3))) ?_
  refine Zg (.bool false) (Ze (Zf (Zw rfl (Z7 (Zf (Zj (Zl ?_)))))))
  refine Zs (Zf3 (G := G)) (vals := []) (res' := .bool true) rfl rfl rfl rfl rfl rfl ?_
  refine Zb (.bool true) (Zb (.bool false) ?_)
  refine Zd1 (vx := .bool false) rfl rfl (.bool true) rfl Zbl ?_
  refine Zb (.bool true) (Za (Za (Za (Za (Za (Za (Zg (.bool true) (Zg (.bool true) (Zb (.bool true) (Zb (Iv (ex (kx k c0) d0)) ?_))))))))))
  refine Zn (vx := Iv (ex (kx k c0) d0)) (vy := Iv 0) rfl rfl (.bool true) rfl rfl (Zc3 (by omega)) ?_
  refine Zb (.bool true) (Za (Za (Za (Za (Za (Za (Za (Zg (.bool true) (Zg (.bool true) (Zc (.bool true) (Ze (Zf (Zq (Zp ?_))))))))))))))
  exact Zm (v := .bool true) rfl rfl rfl (by kernel_rfl) rfl
  refine Zn (vx := Iv d0.region) (vy := Iv c0.region) rfl rfl (.bool false) rfl rfl (Zbb (by omega)) ?_
  refine Zb (.bool false) (Za (Za (Za (Za (Za (Zg (.bool false) (Zc (.bool false) (Ze (Zf (Zj (Zj (Zl (Zb (Iv 0) ?_)))))))))))))
  refine Zn (vx := Iv 0) (vy := Iv 0) rfl rfl (.bool false) rfl rfl (Zbk (by omega)) ?_
  refine Zb (.bool false) (Zi (p := pt 7 0) (v := mxV ([Iv ((kx k c0).epoch), Iv ((kx k c0).log), slv 5 0 ((kx k c0).items.length) ((kx k c0).items.length), slv 6 0 ((kx k c0).claims.length) ((kx k c0).claims.length)])) (Zi (p := pt 10 0) (v := mxV ([Iv ((kx k c0).epoch), Iv ((kx k c0).log), slv 8 0 ((kx k c0).items.length) ((kx k c0).items.length), slv 9 0 ((kx k c0).claims.length) ((kx k c0).claims.length)])) ?_))
  refine Z2 (e := [some (5, 0), some (6, 0), some (8, 0), some (9, 0)]) (nid := 0) (Zeq (G := G) (kx k c0) ((kx k c0).items.length) ((kx k c0).items.length) ((kx k c0).claims.length) ((kx k c0).claims.length) rfl rfl (by omega) (by omega) (by omega) (by omega) (kx k c0) ((kx k c0).items.length) ((kx k c0).items.length) ((kx k c0).claims.length) ((kx k c0).claims.length) rfl rfl (by omega) (by omega) (by omega) (by omega)) (vals := [mxV ([Iv ((kx k c0).epoch), Iv ((kx k c0).log), slv 5 0 ((kx k c0).items.length) ((kx k c0).items.length), slv 6 0 ((kx k c0).claims.length) ((kx k c0).claims.length)]), mxV ([Iv ((kx k c0).epoch), Iv ((kx k c0).log), slv 8 0 ((kx k c0).items.length) ((kx k c0).items.length), slv 9 0 ((kx k c0).claims.length) ((kx k c0).claims.length)])]) (v := .bool (Zdo (kx k c0) (kx k c0))) (H' := [rwR Zk k.items, Y34 k, Y35 k n c m d, bxB 36 (Zo c0), bxB 36 (Zo d0), Y36 k c0, Y37 k c0, Y39 k c0, Y36 k c0, Y37 k c0, Y40 k c0, Y41 k c0 d0, Y42 k c0 d0, Y43 k c0 d0]) rfl rfl rfl rfl rfl rfl rfl ⟨⟨(Z9 (by kernel_rfl) ⟨⟨rfl, rfl⟩, ⟨rfl, rfl⟩, ⟨rfl, rfl, rfl, by first | omega | exact Nat.le_refl _, by first | omega | exact Nat.le_refl _⟩, ⟨rfl, rfl, rfl, by first | omega | exact Nat.le_refl _, by first | omega | exact Nat.le_refl _⟩, trivial⟩), (Z9 (by kernel_rfl) ⟨⟨rfl, rfl⟩, ⟨rfl, rfl⟩, ⟨rfl, rfl, rfl, by first | omega | exact Nat.le_refl _, by first | omega | exact Nat.le_refl _⟩, ⟨rfl, rfl, rfl, by first | omega | exact Nat.le_refl _, by first | omega | exact Nat.le_refl _⟩, trivial⟩), trivial⟩, ⟨(Zaa rfl), (Zaa rfl), (Zaa rfl), (Zaa rfl), trivial⟩, rfl, rfl, rfl⟩ rfl (by kernel_rfl) ?_
  refine Zd1 (vx := .bool (Zdo (kx k c0) (kx k c0))) rfl rfl (.bool false) rfl (Eq.trans Zbl (congrArg (fun b => some (Value.bool !b)) (Ze7 _))) ?_
  refine Zg (.bool false) (Zb (.bool false) (Zd (b := 7) (o := 0) (n := 0) (o' := 0) (Zi (p := pt 7 0) (v := Iv ((kx k c0).epoch)) (Zd (b := 2) (o := 0) (n := 0) (o' := 0) (Zi (p := pt 2 0) (v := Iv k.epoch) ?_)))))
  refine Zn (vx := Iv ((kx k c0).epoch)) (vy := Iv k.epoch) rfl rfl (.bool false) rfl rfl (Zbk (by omega)) ?_
  refine Zg (.bool false) (Zb (.bool false) (Zd (b := 7) (o := 0) (n := 1) (o' := 1) (Zi (p := pt 7 1) (v := Iv ((kx k c0).log)) (Zd (b := 2) (o := 0) (n := 1) (o' := 1) (Zi (p := pt 2 1) (v := Iv k.log) ?_)))))
  refine Zn (vx := Iv ((kx k c0).log)) (vy := Iv k.log) rfl rfl (.bool false) rfl rfl (Zbk (by omega)) ?_
  refine Zg (.bool false) (Zb (.bool false) (Zd (b := 7) (o := 0) (n := 2) (o' := 2) (Zi (p := pt 7 2) (v := slv 5 0 ((kx k c0).items.length) ((kx k c0).items.length)) (Zd (b := 2) (o := 0) (n := 2) (o' := 2) (Zi (p := pt 2 2) (v := slv 0 0 n c) ?_)))))
  refine Z2 (e := [some (5, 0), some (0, 0)]) (nid := 0) (Zep (G := G) ((kx k c0).items) k.items ((kx k c0).items.length) ((kx k c0).items.length) n c rfl hn (by omega) (by omega) (by omega) (by omega)) (vals := [slv 5 0 ((kx k c0).items.length) ((kx k c0).items.length), slv 0 0 n c]) (v := .bool (Zcc ((kx k c0).items) k.items)) (H' := [rwR Zk k.items, Y34 k, Y35 k n c m d, bxB 36 (Zo c0), bxB 36 (Zo d0), Y36 k c0, Y37 k c0, Y39 k c0, Y36 k c0, Y37 k c0, Y40 k c0, Y41 k c0 d0, Y42 k c0 d0, Y43 k c0 d0]) rfl rfl rfl rfl rfl rfl rfl ⟨⟨⟨rfl, rfl, rfl, by first | omega | exact Nat.le_refl _, by first | omega | exact Nat.le_refl _⟩, ⟨rfl, rfl, rfl, by first | omega | exact Nat.le_refl _, by first | omega | exact Nat.le_refl _⟩, trivial⟩, ⟨(Zaa rfl), (Zae rfl), trivial⟩, rfl, rfl, rfl⟩ rfl (by kernel_rfl) ?_
  refine Zd1 (vx := .bool (Zcc ((kx k c0).items) k.items)) rfl rfl (.bool false) rfl (Eq.trans Zbl (congrArg (fun b => some (Value.bool !b)) (Zer he3))) ?_
  refine Zg (.bool false) (Ze (Zf (Zw rfl (Z7 (Zf (Zj (Zl ?_)))))))
  refine Zs (Zf3 (G := G)) (vals := []) (res' := .bool true) rfl rfl rfl rfl rfl rfl ?_
  refine Zb (.bool true) (Zb (.bool false) ?_)
  refine Zd1 (vx := .bool false) rfl rfl (.bool true) rfl Zbl ?_
  refine Zb (.bool true) (Za (Za (Za (Za (Za (Za (Zg (.bool true) (Zg (.bool true) (Zb (.bool true) (Zb (Iv (ex (kx k c0) d0)) ?_))))))))))
  refine Zn (vx := Iv (ex (kx k c0) d0)) (vy := Iv 0) rfl rfl (.bool true) rfl rfl (Zc3 (by omega)) ?_
  refine Zb (.bool true) (Za (Za (Za (Za (Za (Za (Za (Zg (.bool true) (Zg (.bool true) (Zc (.bool true) (Ze (Zf (Zq (Zp ?_))))))))))))))
  exact Zm (v := .bool true) rfl rfl rfl (by kernel_rfl) rfl
  have hkl44 := Zol k c0
  have hen44 := Zsi k c0
  refine Z2 (e := [some (0, 0), some (1, 0), none]) (nid := 5) (Zho (G := G) k c d (by omega) (by omega) (by omega) (by omega) (Zfk c0) 0 0 rfl (by omega) (by omega)) (vals := [mxV ([Iv k.epoch, Iv k.log, slv 0 0 n c, slv 1 0 m d]), mxV ([Iv 4, Iv 0, Iv 0] ++ (Zt (⟨0, (⟨0, 0, 0, ⟨#[]⟩, (⟨(⟨0, 0, 0, dz, 0⟩ : Head), 0, dz⟩ : Signed), (⟨0, 0, 0, 0, dz⟩ : Claim)⟩ : Entry)⟩ : Item) ++ ([.slice none 0 0] ++ (Zo c0))))]) (v := .tuple #[mxV ([Iv ((kx k c0).epoch), Iv ((kx k c0).log), slv 5 0 ((kx k c0).items.length) ((kx k c0).items.length), slv 6 0 ((kx k c0).claims.length) ((kx k c0).claims.length)]), Iv (ex k c0)]) (H' := [rwR Zk k.items, Y34 k, Y35 k n c m d, bxB 36 (Zo c0), bxB 36 (Zo d0), Y36 k c0, Y37 k c0, hole, hole, hole, hole, hole, hole, hole]) rfl rfl rfl rfl rfl rfl rfl ⟨⟨(Z9 (by kernel_rfl) ⟨⟨rfl, rfl⟩, ⟨rfl, rfl⟩, ⟨rfl, rfl, (by first | rfl | omega), by first | omega | exact Nat.le_refl _, by first | omega | exact Nat.le_refl _⟩, ⟨rfl, rfl, (by first | rfl | omega), by first | omega | exact Nat.le_refl _, by first | omega | exact Nat.le_refl _⟩, trivial⟩), (Z9 (by kernel_rfl) (Z0 ⟨⟨rfl, rfl⟩, ⟨rfl, rfl⟩, ⟨rfl, rfl⟩, trivial⟩ (Z0 (Zac (by kernel_rfl)) (Z0 ⟨⟨rfl, rfl, rfl, rfl⟩, trivial⟩ (Zac (by kernel_rfl)))))), trivial⟩, ⟨(Zae rfl), (Zae rfl), ⟨rfl, rfl, by first | exact Nat.succ_pos _ | (show 0 < _; decide)⟩, trivial⟩, rfl, rfl, rfl⟩ (by kernel_rfl) (by kernel_rfl) ?_
  refine Zb (.tuple #[mxV ([Iv ((kx k c0).epoch), Iv ((kx k c0).log), slv 5 0 ((kx k c0).items.length) ((kx k c0).items.length), slv 6 0 ((kx k c0).claims.length) ((kx k c0).claims.length)]), Iv (ex k c0)]) (Zak (vs := #[mxV ([Iv ((kx k c0).epoch), Iv ((kx k c0).log), slv 5 0 ((kx k c0).items.length) ((kx k c0).items.length), slv 6 0 ((kx k c0).claims.length) ((kx k c0).claims.length)]), Iv (ex k c0)]) (v := mxV ([Iv ((kx k c0).epoch), Iv ((kx k c0).log), slv 5 0 ((kx k c0).items.length) ((kx k c0).items.length), slv 6 0 ((kx k c0).claims.length) ((kx k c0).claims.length)])) (Zak (vs := #[mxV ([Iv ((kx k c0).epoch), Iv ((kx k c0).log), slv 5 0 ((kx k c0).items.length) ((kx k c0).items.length), slv 6 0 ((kx k c0).claims.length) ((kx k c0).claims.length)]), Iv (ex k c0)]) (v := Iv (ex k c0)) (Za4 (b := mxB 4 ([Iv 0, Iv 0, .slice none 0 0, .slice none 0 0])) (nid := 7) (H' := [rwR Zk k.items, Y34 k, Y35 k n c m d, bxB 36 (Zo c0), bxB 36 (Zo d0), Y36 k c0, Y37 k c0, Y38, hole, hole, hole, hole, hole, hole]) (Zy (p := pt 7 0) (v := mxV ([Iv ((kx k c0).epoch), Iv ((kx k c0).log), slv 5 0 ((kx k c0).items.length) ((kx k c0).items.length), slv 6 0 ((kx k c0).claims.length) ((kx k c0).claims.length)])) (b := 7) (blk := mxB 4 ([Iv ((kx k c0).epoch), Iv ((kx k c0).log), slv 5 0 ((kx k c0).items.length) ((kx k c0).items.length), slv 6 0 ((kx k c0).claims.length) ((kx k c0).claims.length)])) (H' := [rwR Zk k.items, Y34 k, Y35 k n c m d, bxB 36 (Zo c0), bxB 36 (Zo d0), Y36 k c0, Y37 k c0, Y39 k c0, hole, hole, hole, hole, hole, hole]) (Zc (Iv (ex k c0)) (Ze (Zf (Zj (Zj (Zl (Zb (Iv (ex k c0)) ?_)))))))))))
  refine Zn (vx := Iv (ex k c0)) (vy := Iv 0) rfl rfl (.bool true) rfl rfl (Zc3 (by omega)) ?_
  refine Ze (Zf (Z8 rfl (Zj (Zl ?_))))
  refine Zs (Zf3 (G := G)) (vals := []) (res' := .bool true) rfl rfl rfl rfl rfl rfl ?_
  refine Zc (.bool true) (Ze (Zf (Zq (Z4 (Zp ?_)))))
  exact Zm (v := .bool true) rfl rfl rfl (by kernel_rfl) rfl
end Go.Flat
