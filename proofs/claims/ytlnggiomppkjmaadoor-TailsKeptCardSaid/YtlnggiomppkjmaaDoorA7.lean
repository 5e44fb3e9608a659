/- Walks. -/
import Derived.Test.YtlnggiomppkjmaaDoorA6
set_option linter.unusedVariables false
set_option linter.unusedSimpArgs false
set_option maxRecDepth 20000
namespace Go.Flat
open Go.Proofs
variable {G : Glob}
theorem Zny : ∀ (l : List Item) (ep : Int) (x : Item), Zfa ep l = true → Zcr x → (l = [] → ep ≤ x.epoch) → (l ≠ [] → (l.getD (l.length - 1) default).epoch ≤ x.epoch) → Zfa ep (l ++ [x]) = true
  | [], ep, x, _, hx, h0, _ => by
    show (decide (Zcr x) && decide (ep ≤ x.epoch) && true) = true
    rw [decide_eq_true hx, decide_eq_true (h0 rfl)]; rfl
  | y :: l, ep, x, h, hx, _, h1 => by
    rw [Zfa, Bool.and_eq_true] at h
    show (decide (Zcr y) && decide (ep ≤ y.epoch) && Zfa y.epoch (l ++ [x])) = true
    rw [h.1, Bool.true_and]
    have h2 := h1 (by simp)
    refine Zny l y.epoch x h.2 hx (fun e => ?_) (fun e => ?_)
    · subst e; exact h2
    · have hp : 0 < l.length := by cases l with | nil => exact absurd rfl e | cons => simp
      rw [show (y :: l).length - 1 = (l.length - 1) + 1 from by simp; omega] at h2
      exact h2
theorem Z00 {l : List Item} (h : Zjw l = false) : l.length ≤ 60 := by
 unfold Zjw at h
 rw [Bool.or_eq_false_iff] at h
 have := of_decide_eq_false h.1; omega
section
variable {kk : Nat → BitVec 32} {region epoch node : Int} {t : TailT} {c : Claim}
theorem Zrv (h : (Zaq kk region epoch node t).2 = 0) : Zje t ∧ Zdb (Zaq kk region epoch node t).1 ∧ (Zaq kk region epoch node t).1.epoch = epoch ∧ (Zaq kk region epoch node t).1.node = node := by
 unfold Zaq at h ⊢
 split at h
 ·rename_i h1
  split at h
  ·rename_i h2; rw [if_pos h1, if_pos h2]; exact ⟨h1, Zi1 h2, rfl, rfl⟩
  ·cases h
 ·cases h
theorem Znz : ∀ {l : List Item} {ep : Int} {i : Nat}, Zfa ep l = true → i < l.length → (l.getD i default).epoch ≤ (l.getD (l.length - 1) default).epoch
 | [], _, _, _, h => by simp at h
 | [x], _, 0, _, _ => Int.le_refl _
 | [x], _, i + 1, _, h => by simp at h
 | x :: y :: l, ep, 0, h, _ => by
  rw [Zfa, Bool.and_eq_true, Bool.and_eq_true] at h
  have h2 := h.2
  have := Znz (i := 0) h2 (by simp)
  rw [Zfa, Bool.and_eq_true, Bool.and_eq_true] at h2
  have h3 := of_decide_eq_true h2.1.2
  exact Int.le_trans h3 this
 | x :: y :: l, ep, i + 1, h, hi => by
  rw [Zfa, Bool.and_eq_true, Bool.and_eq_true] at h
  exact Znz (i := i) h.2 (by simpa using hi)
theorem Zwx (ht : Zje t) (hb : t.items.length ≤ 60) (he : t.log < epoch) (hc : Zdb c) (h1 : c.epoch = epoch) : Zkk ⟨epoch, epoch, Zdy t c, []⟩ ∧ Zdl epoch (Zdy t c) = c.node := by
 obtain ⟨g1, g2, ⟨k1, k2, k3, k4, k5, k6⟩, g4, g5⟩ := ht
 have hce := hc.2.1
 have hlog : 1 ≤ t.log := k1.1
 have hlast : ∀ j, j < t.items.length → (t.items.getD j default).epoch ≤ t.log := by
  intro j hj
  have h3 := Znz k3.2 hj
  rcases k6 with h4 | h4
  ·have h4' : t.items.length = 0 := h4
   omega
  ·exact Int.le_trans h3 h4
 have hlen := Zmc t c
 have hget : ∀ j, j < t.items.length → (Zdy t c).getD j default = t.items.getD j default := by
  intro j hj
  unfold Zdy
  rw [List.getD_eq_getElem?_getD, List.getD_eq_getElem?_getD, List.getElem?_append_left hj]
 have hgetl : (Zdy t c).getD t.items.length default = (⟨c.epoch, ⟨3, 0, 0, ⟨#[]⟩, ⟨⟨0, 0, 0, dz, 0⟩, 0, dz⟩, c⟩⟩ : Item) := by
  unfold Zdy
  rw [List.getD_eq_getElem?_getD, List.getElem?_append_right (Nat.le_refl _), Nat.sub_self]; rfl
 have hx : Zcr (⟨c.epoch, ⟨3, 0, 0, ⟨#[]⟩, ⟨⟨0, 0, 0, dz, 0⟩, 0, dz⟩, c⟩⟩ : Item) := ⟨hce.1, hce.2, .inr (.inr ⟨rfl, rfl, rfl, rfl, rfl, hc⟩)⟩
 have hlead : Zdl epoch (Zdy t c) = c.node := by
  have := Zzc (ep := epoch) (l := Zdy t c) (i := t.items.length) (by omega) (fun j hj => by
   rw [hget j hj]
   refine decide_eq_false fun q => ?_
   have h3 := hlast j hj
   have h4 := q.1
   omega) (by rw [hlen]; omega) (by rw [hgetl]; exact decide_eq_true ⟨h1, rfl, h1⟩)
  rw [this, hgetl]
 refine ⟨⟨⟨by show 1 ≤ epoch; omega, by show epoch ≤ 900000000; omega⟩, ⟨by show 1 ≤ epoch; omega, Int.le_refl _⟩, ⟨?_, ?_⟩, fun i hi => absurd hi (by simp), ?_, .inr ?_⟩, hlead⟩
 ·show (Zdy t c).length ≤ _
  rw [hlen]; omega
 ·exact Zny t.items 0 _ k3.2 hx (fun _ => by show 0 ≤ c.epoch; omega) (fun hne => by
   have hp : 0 < t.items.length := List.length_pos_iff.2 hne
   have := hlast (t.items.length - 1) (by omega)
   show _ ≤ c.epoch; omega)
 ·show 0 < Zdl epoch (Zdy t c)
  rw [hlead]
  have := hc.2.2.1
  omega
 ·show ((Zdy t c).getD ((Zdy t c).length - 1) default).epoch ≤ epoch
  rw [hlen, Nat.add_sub_cancel, hgetl]
  show c.epoch ≤ epoch; omega
theorem Zt2 (h : (Zaq kk region epoch node t).2 = 0) (hb : Zjw t.items = false) (he : t.log < epoch) : Zfk t = 0 ∧ Zf8 (⟨epoch, epoch, (Zdy t ((Zaq kk region epoch node t).1)), []⟩ : Kept) = 0 ∧ Zn8 (⟨epoch, epoch, (Zdy t ((Zaq kk region epoch node t).1)), []⟩ : Kept) = node := by
 obtain ⟨h1, h2, h3, h4⟩ := Zrv h
 have hl : t.items.length ≤ 60 := by
  unfold Zjw at hb
  rw [Bool.or_eq_false_iff] at hb
  have := of_decide_eq_false hb.1; omega
 obtain ⟨g1, g2⟩ := Zwx h1 hl he h2 h3
 refine ⟨if_pos h1, if_pos g1, ?_⟩
 unfold Zn8
 rw [if_pos g1]
 show Zdl epoch (Zdy t (Zaq kk region epoch node t).1) = node
 rw [g2, h4]
end
abbrev Y28 (t : TailT) (n : Nat) (c : Nat) : Blk := mxB 4 ([Iv t.node, Iv t.log, Iv t.commit, slv 0 0 n c])
abbrev Y29 (kk : Nat → BitVec 32) (region : Int) (epoch : Int) (node : Int) (t : TailT) : Blk := bxB 36 (Zam ((Zaq kk region epoch node t).1))
abbrev Y30 (kk : Nat → BitVec 32) (region : Int) (epoch : Int) (node : Int) (t : TailT) : Blk := rwB Zh (Zdy t ((Zaq kk region epoch node t).1))
abbrev Y31 (epoch : Int) (n : Nat) : Blk := mxB 4 ([Iv epoch, Iv epoch, slv 3 0 (n + 1) (n + 1), .slice none 0 0])
theorem Zqe (kk : Nat → BitVec 32) (hG : G 0 = some (Zag w32 64 kk)) (hG1 : G 2 = some (Zag u8N 64 dbF)) (region epoch node : Int) (t : TailT) (n c : Nat) (hn : t.items.length = n) (hc : n ≤ c) (hb : c ≤ 9223372036854775807) : Z4 Tryd.prog G 7 [Iv region, Iv epoch, Iv node, mxV ([Iv t.node, Iv t.log, Iv t.commit, slv 0 0 n c])] [rwR Zh t.items] (.bool true) [rwR Zh t.items] := by
  refine Zbd (fn := Tryd.f7) (nt := 55) rfl rfl rfl rfl ?_
  refine Zae 4 (H' := [rwR Zh t.items, hole, hole, hole, hole]) rfl ?_
  refine Ze (Zg (Zbs (v := mxV ([Iv t.node, Iv t.log, Iv t.commit, slv 0 0 n c])) (b := mxB 4 ([Iv t.node, Iv t.log, Iv t.commit, slv 0 0 n c])) (nid := 1) (H' := [rwR Zh t.items, Y28 t n c, hole, hole, hole]) (Zc (.bool false) (Za (Zb (Ze (Ze (Zg (Zi (b := 1) (o := 0) (n := 3) (o' := 3) (Zm (p := pt 1 3) (v := slv 0 0 n c) ?_))))))))))
  refine Z0 (e := [some (0, 0)]) (nid := 0) (Zxi (G := G) t.items n c hn (by omega) (by omega)) (vals := [slv 0 0 n c]) (v := .bool (Zjw t.items)) (H' := [rwR Zh t.items, Y28 t n c, hole, hole, hole]) rfl rfl rfl rfl rfl rfl rfl ⟨⟨⟨rfl, rfl, rfl, by first | omega | exact Nat.le_refl _, by first | omega | exact Nat.le_refl _⟩, trivial⟩, ⟨(Zaz rfl), trivial⟩, rfl, rfl, rfl⟩ rfl (by kernel_rfl) ?_
  refine Zd (.bool (Zjw t.items)) ?_
  rcases Bool.eq_false_or_eq_true (Zjw t.items) with h1 | h1
  refine Zoh (by exact congrArg (fun b => some (b == false)) h1) rfl ?_
  refine Zoh (by exact congrArg (fun b => some (b == false)) h1) rfl ?_
  refine Zoh (by exact congrArg (fun b => some (b == false)) h1) rfl ?_
  refine Zoh (by exact congrArg (fun b => some (b == false)) h1) rfl ?_
  refine Zq2 rfl rfl (.bool true) (by show some (if _ then _ else _) = _; rw [h1] <;> rfl) ?_
  refine Za (Zb (Zy rfl (Ze (Zg (Zc (.bool true) (Za (Zb (Zr (Z3 (Zs ?_))))))))))
  exact Zk (v := .bool true) rfl rfl rfl (by simp [Za6, rwB, rwR, Zh]) rfl
  refine Zci (by exact congrArg (fun b => some (b == false)) h1) rfl (Iv epoch) rfl ?_
  refine Zbk (b := 1) (o := 0) (n := 1) (o' := 1) (by exact congrArg (fun b => some (b == false)) h1) rfl rfl rfl rfl ?_
  refine Zaj (p := pt 1 1) (v := Iv t.log) (by exact congrArg (fun b => some (b == false)) h1) rfl rfl (by kernel_rfl) ?_
  by_cases h2 : epoch ≤ t.log
  refine Zl (vx := Iv epoch) (vy := Iv t.log) (by exact congrArg (fun b => some (b == false)) h1) rfl (.bool true) rfl rfl (Zj3 (by omega)) ?_
  refine Zq2 rfl rfl (.bool true) (by show some (if _ then _ else _) = _; rw [h1] <;> rfl) ?_
  refine Za (Zb (Zy rfl (Ze (Zg (Zc (.bool true) (Za (Zb (Zr (Z3 (Zs ?_))))))))))
  exact Zk (v := .bool true) rfl rfl rfl (by simp [Za6, rwB, rwR, Zh]) rfl
  refine Zl (vx := Iv epoch) (vy := Iv t.log) (by exact congrArg (fun b => some (b == false)) h1) rfl (.bool false) rfl rfl (Zj2 (by omega)) ?_
  refine Zq2 rfl rfl (.bool false) (by show some (if _ then _ else _) = _; rw [h1] <;> rfl) ?_
  refine Za (Zb (Zt rfl (Zx (Zb (Ze ?_)))))
  have hbl := Z00 (by assumption : Zjw t.items = false)
  rw [hn] at hbl
  refine Zg (Zd (Iv region) (Zd (Iv epoch) (Zd (Iv node) (Zm (p := pt 1 0) (v := mxV ([Iv t.node, Iv t.log, Iv t.commit, slv 0 0 n c])) ?_))))
  refine Z0 (e := [some (0, 0)]) (nid := 0) (Zpd (G := G) kk hG hG1 region epoch node t n c hn (by omega) (by omega)) (vals := [Iv region, Iv epoch, Iv node, mxV ([Iv t.node, Iv t.log, Iv t.commit, slv 0 0 n c])]) (v := .tuple #[Zac ((Zaq kk region epoch node t).1), Iv ((Zaq kk region epoch node t).2)]) (H' := [rwR Zh t.items, Y28 t n c, hole, hole, hole]) rfl rfl rfl rfl rfl rfl rfl ⟨⟨rfl, rfl, rfl, (Zbh (by kernel_rfl) ⟨⟨rfl, rfl⟩, ⟨rfl, rfl⟩, ⟨rfl, rfl⟩, ⟨rfl, rfl, rfl, by first | omega | exact Nat.le_refl _, by first | omega | exact Nat.le_refl _⟩, trivial⟩), trivial⟩, ⟨(Zaz rfl), trivial⟩, rfl, rfl, rfl⟩ (by kernel_rfl) (by kernel_rfl) ?_
  refine Zd (.tuple #[Zac ((Zaq kk region epoch node t).1), Iv ((Zaq kk region epoch node t).2)]) (Z1 (vs := #[Zac ((Zaq kk region epoch node t).1), Iv ((Zaq kk region epoch node t).2)]) (v := Zac ((Zaq kk region epoch node t).1)) (Z1 (vs := #[Zac ((Zaq kk region epoch node t).1), Iv ((Zaq kk region epoch node t).2)]) (v := Iv ((Zaq kk region epoch node t).2)) (Zaw (b := bxB 36 (Zam (⟨0, 0, 0, 0, dz⟩ : Claim))) (nid := 2) (H' := [rwR Zh t.items, Y28 t n c, bxB 36 (Zam (⟨0, 0, 0, 0, dz⟩ : Claim)), hole, hole]) (Zaa (p := pt 2 0) (v := Zac ((Zaq kk region epoch node t).1)) (b := 2) (blk := bxB 36 (Zam ((Zaq kk region epoch node t).1))) (H' := [rwR Zh t.items, Y28 t n c, Y29 kk region epoch node t, hole, hole]) (Zc (Iv ((Zaq kk region epoch node t).2)) (Za (Zb (Ze (Ze (Zg (Zd (Iv ((Zaq kk region epoch node t).2)) ?_)))))))))))
  by_cases h3 : ((Zaq kk region epoch node t).2) ≠ 0
  refine Zl (vx := Iv ((Zaq kk region epoch node t).2)) (vy := Iv 0) rfl rfl (.bool true) rfl rfl (Zfc (by omega)) ?_
  refine Za (Zb (Zy rfl (Ze (Zg ?_))))
  refine Zq (Znl (G := G) kk hG hG1) (vals := []) (res' := .bool true) rfl rfl rfl rfl rfl rfl ?_
  refine Zc (.bool true) (Za (Zb (Zr (Z3 (Zs ?_)))))
  exact Zk (v := .bool true) rfl rfl rfl (by simp [Za6, rwB, rwR, Zh]) rfl
  refine Zl (vx := Iv ((Zaq kk region epoch node t).2)) (vy := Iv 0) rfl rfl (.bool false) rfl rfl (Ze3 (by omega)) ?_
  refine Za (Zb (Zt rfl (Zx (Zb (Ze (Zg (Zd (Iv epoch) (Zd (Iv epoch) (Zm (p := pt 1 0) (v := mxV ([Iv t.node, Iv t.log, Iv t.commit, slv 0 0 n c])) (Zm (p := pt 2 0) (v := Zac ((Zaq kk region epoch node t).1)) ?_))))))))))
  refine Z0 (e := [some (0, 0)]) (nid := 3) (Zrf (G := G) t n c hn (by omega) (by omega) ((Zaq kk region epoch node t).1)) (vals := [mxV ([Iv t.node, Iv t.log, Iv t.commit, slv 0 0 n c]), Zac ((Zaq kk region epoch node t).1)]) (v := slv 3 0 (n + 1) (n + 1)) (H' := [rwR Zh t.items, Y28 t n c, Y29 kk region epoch node t, Y30 kk region epoch node t, hole]) rfl rfl rfl rfl rfl rfl rfl ⟨⟨(Zbh (by kernel_rfl) ⟨⟨rfl, rfl⟩, ⟨rfl, rfl⟩, ⟨rfl, rfl⟩, ⟨rfl, rfl, rfl, by first | omega | exact Nat.le_refl _, by first | omega | exact Nat.le_refl _⟩, trivial⟩), rfl, trivial⟩, ⟨(Zaz rfl), trivial⟩, rfl, rfl, rfl⟩ (by kernel_rfl) (by kernel_rfl) ?_
  refine Zcz (vs := [(0, Iv epoch), (1, Iv epoch), (2, slv 3 0 (n + 1) (n + 1))]) (v := mxV ([Iv epoch, Iv epoch, slv 3 0 (n + 1) (n + 1), .slice none 0 0])) rfl rfl rfl (by kernel_rfl) ?_
  refine Zaw (b := mxB 4 ([Iv 0, Iv 0, .slice none 0 0, .slice none 0 0])) (nid := 4) (H' := [rwR Zh t.items, Y28 t n c, Y29 kk region epoch node t, Y30 kk region epoch node t, mxB 4 ([Iv 0, Iv 0, .slice none 0 0, .slice none 0 0])]) (Zaa (p := pt 4 0) (v := mxV ([Iv epoch, Iv epoch, slv 3 0 (n + 1) (n + 1), .slice none 0 0])) (b := 4) (blk := mxB 4 ([Iv epoch, Iv epoch, slv 3 0 (n + 1) (n + 1), .slice none 0 0])) (H' := [rwR Zh t.items, Y28 t n c, Y29 kk region epoch node t, Y30 kk region epoch node t, Y31 epoch n]) (Za (Zb (Ze ?_))))
  obtain ⟨hk1, hk2, hk3⟩ := Zt2 (kk := kk) (region := region) (epoch := epoch) (node := node) (t := t) (by omega) (by assumption) (by omega)
  refine Zg ?_
  refine Zq (Znl (G := G) kk hG hG1) (vals := []) (res' := .bool true) rfl rfl rfl rfl rfl rfl ?_
  refine Zd (.bool true) (Zm (p := pt 1 0) (v := mxV ([Iv t.node, Iv t.log, Iv t.commit, slv 0 0 n c])) ?_)
  refine Z0 (e := [some (0, 0)]) (nid := 0) (Zjj (G := G) t n c hn (by omega) (by omega)) (vals := [mxV ([Iv t.node, Iv t.log, Iv t.commit, slv 0 0 n c])]) (v := Iv (Zfk t)) (H' := [rwR Zh t.items, Y28 t n c, Y29 kk region epoch node t, Y30 kk region epoch node t, Y31 epoch n]) rfl rfl rfl rfl rfl rfl rfl ⟨⟨(Zbh (by kernel_rfl) ⟨⟨rfl, rfl⟩, ⟨rfl, rfl⟩, ⟨rfl, rfl⟩, ⟨rfl, rfl, rfl, by first | omega | exact Nat.le_refl _, by first | omega | exact Nat.le_refl _⟩, trivial⟩), trivial⟩, ⟨(Zaz rfl), trivial⟩, rfl, rfl, rfl⟩ rfl (by kernel_rfl) ?_
  refine Zl (vx := Iv (Zfk t)) (vy := Iv 0) rfl rfl (.bool true) rfl rfl (Zc2 (by omega)) ?_
  refine Zj (.bool true) (Zd (.bool true) (Zm (p := pt 4 0) (v := mxV ([Iv epoch, Iv epoch, slv 3 0 (n + 1) (n + 1), .slice none 0 0])) ?_))
  refine Z0 (e := [some (3, 0), none]) (nid := 0) (Zlu (G := G) (⟨epoch, epoch, (Zdy t ((Zaq kk region epoch node t).1)), []⟩ : Kept) (n + 1) (n + 1) 0 0 (by rw [Zmc];  omega) rfl (by omega) (by omega) (by omega) (by omega)) (vals := [mxV ([Iv epoch, Iv epoch, slv 3 0 (n + 1) (n + 1), .slice none 0 0])]) (v := Iv (Zf8 (⟨epoch, epoch, (Zdy t ((Zaq kk region epoch node t).1)), []⟩ : Kept))) (H' := [rwR Zh t.items, Y28 t n c, Y29 kk region epoch node t, Y30 kk region epoch node t, Y31 epoch n]) rfl rfl rfl rfl rfl rfl rfl ⟨⟨(Zbh (by kernel_rfl) ⟨⟨rfl, rfl⟩, ⟨rfl, rfl⟩, ⟨rfl, rfl, rfl, by first | omega | exact Nat.le_refl _, by first | omega | exact Nat.le_refl _⟩, ⟨rfl, rfl, rfl, rfl⟩, trivial⟩), trivial⟩, ⟨(Zbq rfl), ⟨rfl, rfl, by first | exact Nat.succ_pos _ | (show 0 < _; decide)⟩, trivial⟩, rfl, rfl, rfl⟩ rfl (by kernel_rfl) ?_
  refine Zl (vx := Iv (Zf8 (⟨epoch, epoch, (Zdy t ((Zaq kk region epoch node t).1)), []⟩ : Kept))) (vy := Iv 0) rfl rfl (.bool true) rfl rfl (Zc2 (by omega)) ?_
  refine Zj (.bool true) (Zd (.bool true) (Zm (p := pt 4 0) (v := mxV ([Iv epoch, Iv epoch, slv 3 0 (n + 1) (n + 1), .slice none 0 0])) ?_))
  refine Z0 (e := [some (3, 0), none]) (nid := 0) (Zwb (G := G) (⟨epoch, epoch, (Zdy t ((Zaq kk region epoch node t).1)), []⟩ : Kept) (n + 1) (n + 1) 0 0 (by rw [Zmc];  omega) rfl (by omega) (by omega) (by omega) (by omega)) (vals := [mxV ([Iv epoch, Iv epoch, slv 3 0 (n + 1) (n + 1), .slice none 0 0])]) (v := Iv (Zn8 (⟨epoch, epoch, (Zdy t ((Zaq kk region epoch node t).1)), []⟩ : Kept))) (H' := [rwR Zh t.items, Y28 t n c, Y29 kk region epoch node t, Y30 kk region epoch node t, Y31 epoch n]) rfl rfl rfl rfl rfl rfl rfl ⟨⟨(Zbh (by kernel_rfl) ⟨⟨rfl, rfl⟩, ⟨rfl, rfl⟩, ⟨rfl, rfl, rfl, by first | omega | exact Nat.le_refl _, by first | omega | exact Nat.le_refl _⟩, ⟨rfl, rfl, rfl, rfl⟩, trivial⟩), trivial⟩, ⟨(Zbq rfl), ⟨rfl, rfl, by first | exact Nat.succ_pos _ | (show 0 < _; decide)⟩, trivial⟩, rfl, rfl, rfl⟩ rfl (by kernel_rfl) ?_
  refine Zd (Iv node) ?_
  refine Zl (vx := Iv (Zn8 (⟨epoch, epoch, (Zdy t ((Zaq kk region epoch node t).1)), []⟩ : Kept))) (vy := Iv node) rfl rfl (.bool true) rfl rfl (Zc2 (by omega)) ?_
  refine Zj (.bool true) (Zc (.bool true) (Za (Zb (Zr (Zs ?_)))))
  exact Zk (v := .bool true) rfl rfl rfl (by simp [Za6, rwB, rwR, Zh]) rfl
end Go.Flat
