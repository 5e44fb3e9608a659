/- Walks. -/
import Derived.Test.YtfjkagjbanhdlaaDoorR4P
set_option linter.unusedVariables false
set_option linter.unusedSimpArgs false
set_option maxRecDepth 20000
namespace Go.Flat
open Go.Proofs
variable {G : Glob}
def uP : Item := (⟨1, (⟨1, 1, 1, ⟨#[]⟩, (⟨(⟨0, 0, 0, dz, 0⟩ : Head), 0, dz⟩ : Signed), (⟨0, 0, 0, 0, dz⟩ : Claim)⟩ : Entry)⟩ : Item)
noncomputable def sP (kk : Nat → BitVec 32) : Signed := (Z5 kk dz (Zs kk [uP] 1 1 1 0).1 1).1
section
variable {kk : Nat → BitVec 32} {master : D} {l : List Item} {n region epoch node i tick : Int}
theorem Znq {h : Head} (e : (Z5 kk master h node).2 = 0) : Zf3 h ∧ (1 ≤ node ∧ node ≤ 3) := by
 unfold Z5 at e
 split at e
 ·assumption
 ·exact absurd e (by decide)
theorem Zuq {h : Head} (e : (Z5 kk master h node).2 = 0) : Zb6 kk master (Z5 kk master h node).1 = 0 := by
 have q := Znq e
 rw [show Z5 kk master h node = (⟨h, node, Zy3 kk master h node⟩, 0) from if_pos q]
 unfold Zb6
 rw [if_pos (show Zj3 ⟨h, node, Zy3 kk master h node⟩ from q), if_pos (Zlf _ _)]
theorem Zir (e : (Zs kk l n region epoch tick).2 = 0) : (Zaf kk l n).2 = 0 ∧ (Zs kk l n region epoch tick).1 = ⟨region, epoch, n, (Zaf kk l n).1, tick⟩ := by
 unfold Zs at e ⊢
 split at e
 ·rename_i h1
  split at e
  ·rename_i h2
   rw [if_pos h1, if_pos h2]; exact ⟨h1, rfl⟩
  ·exact absurd e (by decide)
 ·rename_i h1; exact absurd e h1
theorem Zth (h : (Zaf kk l n).2 = 0) : (Zai kk l n).2 = 0 ∧ 0 ≤ n ∧ n ≤ l.length ∧ (Zai kk l n).1.length = n.toNat := by
 have h0 : (Zai kk l n).2 = 0 := by
  unfold Zaf at h
  split at h
  ·assumption
  ·rename_i q; exact absurd h q
 obtain ⟨g1, g2, g3, g4⟩ := Zw5 h0
 exact ⟨h0, g2, g3, by rw [g4]; exact Zfe _ _ _⟩
theorem Zoj (e1 : (Zs kk l n region epoch tick).2 = 0) (e2 : (Z5 kk master (Zs kk l n region epoch tick).1 node).2 = 0) :
  (Z5 kk master (Zs kk l n region epoch tick).1 node).1.head = ⟨region, epoch, n, (Zaf kk l n).1, tick⟩ ∧ Zj3 (Z5 kk master (Zs kk l n region epoch tick).1 node).1 := by
 have q := Znq e2
 rw [show Z5 kk master (Zs kk l n region epoch tick).1 node = (⟨(Zs kk l n region epoch tick).1, node, Zy3 kk master (Zs kk l n region epoch tick).1 node⟩, 0) from if_pos q]
 exact ⟨(Zir e1).2, q⟩
theorem Zp4 (e1 : (Zs kk l n region epoch tick).2 = 0) (e2 : (Z5 kk master (Zs kk l n region epoch tick).1 node).2 = 0) (hi : 0 ≤ i ∧ i < n) :
  i < l.length ∧ Zeu kk l i (Z5 kk master (Zs kk l n region epoch tick).1 node).1 = (⟨i, l.getD i.toNat default, (Zw kk l (Z5 kk master (Zs kk l n region epoch tick).1 node).1.head.size i).1, (Z5 kk master (Zs kk l n region epoch tick).1 node).1⟩, 0) ∧
  Zcw kk master [⟨i, l.getD i.toNat default, (Zw kk l (Z5 kk master (Zs kk l n region epoch tick).1 node).1.head.size i).1, (Z5 kk master (Zs kk l n region epoch tick).1 node).1⟩] = 0 := by
 obtain ⟨hs, hm⟩ := Zoj e1 e2
 have hv := Zuq e2
 have hr := (Zir e1).1
 obtain ⟨f0, f1, f2, f3⟩ := Zth hr
 have hin : (Zw kk l n i).2 = 0 := by unfold Zw; rw [if_pos f0, if_pos ⟨hi.1, by rw [f3]; omega⟩]
 obtain ⟨g1, g2, g3, g4, g5⟩ := Z1w hin
 generalize (Z5 kk master (Zs kk l n region epoch tick).1 node).1 = s at hs hm hv ⊢
 rw [hs]
 refine ⟨g2, ?_, ?_⟩
 ·have := Z1k (kk := kk) (l := l) (i := i) (s := s) (by rw [hs]; exact hr) hm (by rw [hs]; exact Zlf _ _) (by rw [hs]; exact hin)
  rw [hs] at this; exact this
 ·rw [Zn1, Zw0 hv g4]
  show Zdk kk s.head.root _ s.head.size i _ = 0
  rw [hs]; exact g5
theorem Zmo (e1 : (Zs kk l n region epoch tick).2 = 0) (e2 : (Z5 kk master (Zs kk l n region epoch tick).1 node).2 = 0) (hi : i < 0 ∨ n ≤ i) : Zeu kk l i (Z5 kk master (Zs kk l n region epoch tick).1 node).1 = ((⟨0, (⟨0, (⟨0, 0, 0, ⟨#[]⟩, (⟨(⟨0, 0, 0, dz, 0⟩ : Head), 0, dz⟩ : Signed), (⟨0, 0, 0, 0, dz⟩ : Claim)⟩ : Entry)⟩ : Item), [], (⟨(⟨0, 0, 0, dz, 0⟩ : Head), 0, dz⟩ : Signed)⟩ : PStep), 131) := by
 obtain ⟨hs, hm⟩ := Zoj e1 e2
 have hr := (Zir e1).1
 obtain ⟨f0, f1, f2, f3⟩ := Zth hr
 generalize (Z5 kk master (Zs kk l n region epoch tick).1 node).1 = s at hs hm ⊢
 refine Zpe (by rw [hs]; exact hr) hm (by rw [hs]; exact Zlf _ _) ?_
 rw [hs]
 show ¬ (Zw kk l n i).2 = 0
 rw [show Zw kk l n i = ([], 20) from by unfold Zw; rw [if_pos f0, if_neg (fun q => by rw [f3] at q; omega)]]
 show ¬ (20 : Int) = 0
 decide
end
theorem Z1f : Zhz [uP] := by
 have : decide (Zhz [uP]) = true := by kernel_rfl
 exact of_decide_eq_true this
theorem Zl7 (kk : Nat → BitVec 32) : (Zs kk [uP] 1 1 1 0).2 = 0 := by
 have h0 : Zai kk [uP] 1 = (acL kk [uP] 1, 0) := by unfold Zai; rw [if_pos Z1f, if_pos ⟨by decide, by decide⟩]; rfl
 have h1 : Zaf kk [uP] 1 = (Zcd kk (Zai kk [uP] 1).1, 0) := by unfold Zaf; rw [if_pos (by rw [h0])]
 unfold Zs
 rw [if_pos (by rw [h1])]
 have hc : Za5 ⟨1, 1, 1, (Zaf kk [uP] 1).1, 0⟩ = 0 := by rw [Zf1, if_pos]; unfold Zf3; dsimp only; omega
 rw [if_pos hc]
theorem Zom (kk : Nat → BitVec 32) : (Z5 kk dz (Zs kk [uP] 1 1 1 0).1 1).2 = 0 := by
 unfold Z5
 rw [if_pos]
 refine ⟨?_, by decide, by decide⟩
 rw [(Zir (Zl7 kk)).2]; unfold Zf3; dsimp only; omega
theorem Z2y (kk : Nat → BitVec 32) : Zeu kk [uP] 0 (sP kk) = (⟨0, uP, (Zw kk [uP] (sP kk).head.size 0).1, sP kk⟩, 0) := (Zp4 (i := 0) (Zl7 kk) (Zom kk) ⟨by decide, by decide⟩).2.1
theorem Z3f (kk : Nat → BitVec 32) : Zeu kk [uP] 1 (sP kk) = ((⟨0, (⟨0, (⟨0, 0, 0, ⟨#[]⟩, (⟨(⟨0, 0, 0, dz, 0⟩ : Head), 0, dz⟩ : Signed), (⟨0, 0, 0, 0, dz⟩ : Claim)⟩ : Entry)⟩ : Item), [], (⟨(⟨0, 0, 0, dz, 0⟩ : Head), 0, dz⟩ : Signed)⟩ : PStep), 131) := Zmo (Zl7 kk) (Zom kk) (.inr (by decide))
theorem Zu9 (kk : Nat → BitVec 32) : Zcw kk dz [⟨0, uP, (Zw kk [uP] (sP kk).head.size 0).1, sP kk⟩] = 0 := (Zp4 (i := 0) (Zl7 kk) (Zom kk) ⟨by decide, by decide⟩).2.2
theorem Z1m (kk : Nat → BitVec 32) : Zcw kk dz [⟨0, uP, (Zw kk [uP] (sP kk).head.size 0).1, sP kk⟩, ⟨0, uP, (Zw kk [uP] (sP kk).head.size 0).1, sP kk⟩] = 130 := by
 have h := Zu9 kk
 rw [Zn1] at h
 exact Zkh h h (by kernel_rfl)
theorem Zsm (kk : Nat → BitVec 32) : (sP kk).head.size = 1 := by
 have := (Zoj (Zl7 kk) (Zom kk)).1
 show (Z5 kk dz (Zs kk [uP] 1 1 1 0).1 1).1.head.size = 1
 rw [this]
theorem Zyq (kk : Nat → BitVec 32) : Zeu kk [] 0 (sP kk) = ((⟨0, (⟨0, (⟨0, 0, 0, ⟨#[]⟩, (⟨(⟨0, 0, 0, dz, 0⟩ : Head), 0, dz⟩ : Signed), (⟨0, 0, 0, 0, dz⟩ : Claim)⟩ : Entry)⟩ : Item), [], (⟨(⟨0, 0, 0, dz, 0⟩ : Head), 0, dz⟩ : Signed)⟩ : PStep), 130) := by
 refine Zpq (.inl ?_)
 rw [Zsm]
 have h0 : Zai kk [] 1 = ([], 21) := by
  unfold Zai
  rw [if_pos (show Zhz [] from ⟨by decide, rfl⟩), if_neg (by decide)]
 unfold Zaf
 rw [if_neg (by rw [h0]; show ¬ (21 : Int) = 0; decide), h0]
 show ¬ (21 : Int) = 0
 decide
theorem Z3g {l : List Item} (h : Zox l = false) : l.length ≤ 60 := by
 unfold Zox at h
 simp only [Bool.or_eq_false_iff, decide_eq_false_iff_not] at h
 omega
theorem Zi3 {G : Glob} (kk : Nat → BitVec 32) (hG : G 0 = some (Zac w32 64 kk)) (hG1 : G 2 = some (Zac u8N 64 dbF)) (l : List Item) (n c : Nat) (hn : l.length = n) (hc : n ≤ c) (hb : n ≤ 1048576) (i : Int) (s : Signed) {x : PStep × Int} (hx : Zeu kk l i s = x) : Zae Tryd.prog G 11 [slv 0 0 n c, Iv i, Z0 s] [rwR Zy l] (.tuple #[mxV ([Iv x.1.index] ++ (Zh x.1.item ++ ([slv 1 0 x.1.proof.length x.1.proof.length] ++ (Zd x.1.head)))), Iv x.2]) [rwR Zy l, dsB x.1.proof] := by
 subst hx; exact Z2l kk hG hG1 l n c hn hc hb i s
theorem Z3q (kk : Nat → BitVec 32) (hG : G 0 = some (Zac w32 64 kk)) (hG1 : G 2 = some (Zac u8N 64 dbF))  : Zae Tryd.prog G 26 [] [] (.tuple #[slv 0 0 1 1, Z0 (sP kk)]) [rwB Zy [uP]] := by
  refine Zbj (fn := Tryd.f26) (nt := 23) rfl rfl rfl rfl ?_
  refine Zaj 4 (H' := [hole, hole, hole, hole]) rfl ?_
  refine Zf (Zg (Zc rfl rfl (.slice none 0 0) rfl ?_))
  refine Z7 (b := bxB 69 (Zd (⟨(⟨0, 0, 0, dz, 0⟩ : Head), 0, dz⟩ : Signed))) (nid := 0) (H' := [bxB 69 (Zd (⟨(⟨0, 0, 0, dz, 0⟩ : Head), 0, dz⟩ : Signed)), hole, hole, hole]) rfl rfl (by kernel_rfl) (by kernel_rfl) ?_
  refine Za (Zb (Zf (Zg ?_)))
  refine Zbn (vs := [(0, Iv 1), (1, Iv 1), (2, Iv 1)]) (v := Zc7 (⟨1, 1, 1, ⟨#[]⟩, (⟨(⟨0, 0, 0, dz, 0⟩ : Head), 0, dz⟩ : Signed), (⟨0, 0, 0, 0, dz⟩ : Claim)⟩ : Entry)) rfl rfl rfl (by kernel_rfl) ?_
  refine Zbn (vs := [(0, Iv 1), (1, Zc7 (⟨1, 1, 1, ⟨#[]⟩, (⟨(⟨0, 0, 0, dz, 0⟩ : Head), 0, dz⟩ : Signed), (⟨0, 0, 0, 0, dz⟩ : Claim)⟩ : Entry))]) (v := Za1 (⟨1, (⟨1, 1, 1, ⟨#[]⟩, (⟨(⟨0, 0, 0, dz, 0⟩ : Head), 0, dz⟩ : Signed), (⟨0, 0, 0, 0, dz⟩ : Claim)⟩ : Entry)⟩ : Item)) rfl rfl rfl (by kernel_rfl) ?_
  refine Zda (vs := [(0, Za1 (⟨1, (⟨1, 1, 1, ⟨#[]⟩, (⟨(⟨0, 0, 0, dz, 0⟩ : Head), 0, dz⟩ : Signed), (⟨0, 0, 0, 0, dz⟩ : Claim)⟩ : Entry)⟩ : Item))]) (v := slv 1 0 1 1) (blk := rwB Zy [(⟨1, (⟨1, 1, 1, ⟨#[]⟩, (⟨(⟨0, 0, 0, dz, 0⟩ : Head), 0, dz⟩ : Signed), (⟨0, 0, 0, 0, dz⟩ : Claim)⟩ : Entry)⟩ : Item)]) (nid := 1) (H' := [bxB 69 (Zd (⟨(⟨0, 0, 0, dz, 0⟩ : Head), 0, dz⟩ : Signed)), rwB Zy [(⟨1, (⟨1, 1, 1, ⟨#[]⟩, (⟨(⟨0, 0, 0, dz, 0⟩ : Head), 0, dz⟩ : Signed), (⟨0, 0, 0, 0, dz⟩ : Claim)⟩ : Entry)⟩ : Item)], hole, hole]) rfl rfl rfl (by kernel_rfl) (by kernel_rfl) ?_
  refine Zc rfl rfl (slv 1 0 1 1) rfl (Za (Zb (Zf (Zg (Ze rfl rfl (slv 1 0 1 1) rfl ?_)))))
  refine Z4 (e := [some (1, 0)]) (nid := 0) (Zu0 (G := G) kk hG hG1 [(⟨1, (⟨1, 1, 1, ⟨#[]⟩, (⟨(⟨0, 0, 0, dz, 0⟩ : Head), 0, dz⟩ : Signed), (⟨0, 0, 0, 0, dz⟩ : Claim)⟩ : Entry)⟩ : Item)] 1 1 (rfl : _ = 1) (by omega) (by omega) 1 1 1 0) (vals := [slv 1 0 1 1, Iv 1, Iv 1, Iv 1, Iv 0]) (v := .tuple #[Zbp ((Zs kk [(⟨1, (⟨1, 1, 1, ⟨#[]⟩, (⟨(⟨0, 0, 0, dz, 0⟩ : Head), 0, dz⟩ : Signed), (⟨0, 0, 0, 0, dz⟩ : Claim)⟩ : Entry)⟩ : Item)] 1 1 1 0).1), Iv ((Zs kk [(⟨1, (⟨1, 1, 1, ⟨#[]⟩, (⟨(⟨0, 0, 0, dz, 0⟩ : Head), 0, dz⟩ : Signed), (⟨0, 0, 0, 0, dz⟩ : Claim)⟩ : Entry)⟩ : Item)] 1 1 1 0).2)]) (H' := [bxB 69 (Zd (⟨(⟨0, 0, 0, dz, 0⟩ : Head), 0, dz⟩ : Signed)), rwB Zy [(⟨1, (⟨1, 1, 1, ⟨#[]⟩, (⟨(⟨0, 0, 0, dz, 0⟩ : Head), 0, dz⟩ : Signed), (⟨0, 0, 0, 0, dz⟩ : Claim)⟩ : Entry)⟩ : Item)], hole, hole]) rfl rfl rfl rfl rfl rfl rfl ⟨⟨⟨rfl, rfl, rfl, by first | omega | exact Nat.le_refl _, by first | omega | exact Nat.le_refl _⟩, rfl, rfl, rfl, rfl, trivial⟩, ⟨(Zgr rfl), trivial⟩, rfl, rfl, rfl⟩ (by kernel_rfl) (by kernel_rfl) ?_
  refine Ze rfl rfl (.tuple #[Zbp ((Zs kk [(⟨1, (⟨1, 1, 1, ⟨#[]⟩, (⟨(⟨0, 0, 0, dz, 0⟩ : Head), 0, dz⟩ : Signed), (⟨0, 0, 0, 0, dz⟩ : Claim)⟩ : Entry)⟩ : Item)] 1 1 1 0).1), Iv ((Zs kk [(⟨1, (⟨1, 1, 1, ⟨#[]⟩, (⟨(⟨0, 0, 0, dz, 0⟩ : Head), 0, dz⟩ : Signed), (⟨0, 0, 0, 0, dz⟩ : Claim)⟩ : Entry)⟩ : Item)] 1 1 1 0).2)]) rfl (Zp (vs := #[Zbp ((Zs kk [(⟨1, (⟨1, 1, 1, ⟨#[]⟩, (⟨(⟨0, 0, 0, dz, 0⟩ : Head), 0, dz⟩ : Signed), (⟨0, 0, 0, 0, dz⟩ : Claim)⟩ : Entry)⟩ : Item)] 1 1 1 0).1), Iv ((Zs kk [(⟨1, (⟨1, 1, 1, ⟨#[]⟩, (⟨(⟨0, 0, 0, dz, 0⟩ : Head), 0, dz⟩ : Signed), (⟨0, 0, 0, 0, dz⟩ : Claim)⟩ : Entry)⟩ : Item)] 1 1 1 0).2)]) (v := Zbp ((Zs kk [(⟨1, (⟨1, 1, 1, ⟨#[]⟩, (⟨(⟨0, 0, 0, dz, 0⟩ : Head), 0, dz⟩ : Signed), (⟨0, 0, 0, 0, dz⟩ : Claim)⟩ : Entry)⟩ : Item)] 1 1 1 0).1)) rfl rfl rfl rfl (Zp (vs := #[Zbp ((Zs kk [(⟨1, (⟨1, 1, 1, ⟨#[]⟩, (⟨(⟨0, 0, 0, dz, 0⟩ : Head), 0, dz⟩ : Signed), (⟨0, 0, 0, 0, dz⟩ : Claim)⟩ : Entry)⟩ : Item)] 1 1 1 0).1), Iv ((Zs kk [(⟨1, (⟨1, 1, 1, ⟨#[]⟩, (⟨(⟨0, 0, 0, dz, 0⟩ : Head), 0, dz⟩ : Signed), (⟨0, 0, 0, 0, dz⟩ : Claim)⟩ : Entry)⟩ : Item)] 1 1 1 0).2)]) (v := Iv ((Zs kk [(⟨1, (⟨1, 1, 1, ⟨#[]⟩, (⟨(⟨0, 0, 0, dz, 0⟩ : Head), 0, dz⟩ : Signed), (⟨0, 0, 0, 0, dz⟩ : Claim)⟩ : Entry)⟩ : Item)] 1 1 1 0).2)) rfl rfl rfl rfl ?_))
  refine Z7 (b := bxB 36 (Zav (⟨0, 0, 0, dz, 0⟩ : Head))) (nid := 2) (H' := [bxB 69 (Zd (⟨(⟨0, 0, 0, dz, 0⟩ : Head), 0, dz⟩ : Signed)), rwB Zy [(⟨1, (⟨1, 1, 1, ⟨#[]⟩, (⟨(⟨0, 0, 0, dz, 0⟩ : Head), 0, dz⟩ : Signed), (⟨0, 0, 0, 0, dz⟩ : Claim)⟩ : Entry)⟩ : Item)], bxB 36 (Zav (⟨0, 0, 0, dz, 0⟩ : Head)), hole]) rfl rfl (by kernel_rfl) (by kernel_rfl) ?_
  refine Zx (p := pt 2 0) (v := Zbp ((Zs kk [(⟨1, (⟨1, 1, 1, ⟨#[]⟩, (⟨(⟨0, 0, 0, dz, 0⟩ : Head), 0, dz⟩ : Signed), (⟨0, 0, 0, 0, dz⟩ : Claim)⟩ : Entry)⟩ : Item)] 1 1 1 0).1)) (b := 2) (blk := bxB 36 (Zav ((Zs kk [(⟨1, (⟨1, 1, 1, ⟨#[]⟩, (⟨(⟨0, 0, 0, dz, 0⟩ : Head), 0, dz⟩ : Signed), (⟨0, 0, 0, 0, dz⟩ : Claim)⟩ : Entry)⟩ : Item)] 1 1 1 0).1))) (H' := [bxB 69 (Zd (⟨(⟨0, 0, 0, dz, 0⟩ : Head), 0, dz⟩ : Signed)), rwB Zy [(⟨1, (⟨1, 1, 1, ⟨#[]⟩, (⟨(⟨0, 0, 0, dz, 0⟩ : Head), 0, dz⟩ : Signed), (⟨0, 0, 0, 0, dz⟩ : Claim)⟩ : Entry)⟩ : Item)], bxB 36 (Zav ((Zs kk [(⟨1, (⟨1, 1, 1, ⟨#[]⟩, (⟨(⟨0, 0, 0, dz, 0⟩ : Head), 0, dz⟩ : Signed), (⟨0, 0, 0, 0, dz⟩ : Claim)⟩ : Entry)⟩ : Item)] 1 1 1 0).1)), hole]) rfl rfl rfl (by kernel_rfl) (by kernel_rfl) ?_
  refine Zc rfl rfl (Iv ((Zs kk [(⟨1, (⟨1, 1, 1, ⟨#[]⟩, (⟨(⟨0, 0, 0, dz, 0⟩ : Head), 0, dz⟩ : Signed), (⟨0, 0, 0, 0, dz⟩ : Claim)⟩ : Entry)⟩ : Item)] 1 1 1 0).2)) rfl (Za (Zb (Zf (Zg ?_))))
  refine Zbn (vs := []) (v := dgV dz) rfl rfl rfl (by kernel_rfl) ?_
  refine Zl (p := pt 2 0) (v := Zbp ((Zs kk [(⟨1, (⟨1, 1, 1, ⟨#[]⟩, (⟨(⟨0, 0, 0, dz, 0⟩ : Head), 0, dz⟩ : Signed), (⟨0, 0, 0, 0, dz⟩ : Claim)⟩ : Entry)⟩ : Item)] 1 1 1 0).1)) rfl rfl rfl (by kernel_rfl) ?_
  refine Zq (Ztt (G := G) kk hG dz ((Zs kk [(⟨1, (⟨1, 1, 1, ⟨#[]⟩, (⟨(⟨0, 0, 0, dz, 0⟩ : Head), 0, dz⟩ : Signed), (⟨0, 0, 0, 0, dz⟩ : Claim)⟩ : Entry)⟩ : Item)] 1 1 1 0).1) 1) (vals := [dgV dz, Zbp ((Zs kk [(⟨1, (⟨1, 1, 1, ⟨#[]⟩, (⟨(⟨0, 0, 0, dz, 0⟩ : Head), 0, dz⟩ : Signed), (⟨0, 0, 0, 0, dz⟩ : Claim)⟩ : Entry)⟩ : Item)] 1 1 1 0).1), Iv 1]) (res' := .tuple #[Z0 ((Z5 kk dz ((Zs kk [(⟨1, (⟨1, 1, 1, ⟨#[]⟩, (⟨(⟨0, 0, 0, dz, 0⟩ : Head), 0, dz⟩ : Signed), (⟨0, 0, 0, 0, dz⟩ : Claim)⟩ : Entry)⟩ : Item)] 1 1 1 0).1) 1).1), Iv ((Z5 kk dz ((Zs kk [(⟨1, (⟨1, 1, 1, ⟨#[]⟩, (⟨(⟨0, 0, 0, dz, 0⟩ : Head), 0, dz⟩ : Signed), (⟨0, 0, 0, 0, dz⟩ : Claim)⟩ : Entry)⟩ : Item)] 1 1 1 0).1) 1).2)]) rfl rfl rfl rfl rfl (by kernel_rfl) ?_
  refine Ze rfl rfl (.tuple #[Z0 ((Z5 kk dz ((Zs kk [(⟨1, (⟨1, 1, 1, ⟨#[]⟩, (⟨(⟨0, 0, 0, dz, 0⟩ : Head), 0, dz⟩ : Signed), (⟨0, 0, 0, 0, dz⟩ : Claim)⟩ : Entry)⟩ : Item)] 1 1 1 0).1) 1).1), Iv ((Z5 kk dz ((Zs kk [(⟨1, (⟨1, 1, 1, ⟨#[]⟩, (⟨(⟨0, 0, 0, dz, 0⟩ : Head), 0, dz⟩ : Signed), (⟨0, 0, 0, 0, dz⟩ : Claim)⟩ : Entry)⟩ : Item)] 1 1 1 0).1) 1).2)]) rfl (Zp (vs := #[Z0 ((Z5 kk dz ((Zs kk [(⟨1, (⟨1, 1, 1, ⟨#[]⟩, (⟨(⟨0, 0, 0, dz, 0⟩ : Head), 0, dz⟩ : Signed), (⟨0, 0, 0, 0, dz⟩ : Claim)⟩ : Entry)⟩ : Item)] 1 1 1 0).1) 1).1), Iv ((Z5 kk dz ((Zs kk [(⟨1, (⟨1, 1, 1, ⟨#[]⟩, (⟨(⟨0, 0, 0, dz, 0⟩ : Head), 0, dz⟩ : Signed), (⟨0, 0, 0, 0, dz⟩ : Claim)⟩ : Entry)⟩ : Item)] 1 1 1 0).1) 1).2)]) (v := Z0 ((Z5 kk dz ((Zs kk [(⟨1, (⟨1, 1, 1, ⟨#[]⟩, (⟨(⟨0, 0, 0, dz, 0⟩ : Head), 0, dz⟩ : Signed), (⟨0, 0, 0, 0, dz⟩ : Claim)⟩ : Entry)⟩ : Item)] 1 1 1 0).1) 1).1)) rfl rfl rfl rfl (Zp (vs := #[Z0 ((Z5 kk dz ((Zs kk [(⟨1, (⟨1, 1, 1, ⟨#[]⟩, (⟨(⟨0, 0, 0, dz, 0⟩ : Head), 0, dz⟩ : Signed), (⟨0, 0, 0, 0, dz⟩ : Claim)⟩ : Entry)⟩ : Item)] 1 1 1 0).1) 1).1), Iv ((Z5 kk dz ((Zs kk [(⟨1, (⟨1, 1, 1, ⟨#[]⟩, (⟨(⟨0, 0, 0, dz, 0⟩ : Head), 0, dz⟩ : Signed), (⟨0, 0, 0, 0, dz⟩ : Claim)⟩ : Entry)⟩ : Item)] 1 1 1 0).1) 1).2)]) (v := Iv ((Z5 kk dz ((Zs kk [(⟨1, (⟨1, 1, 1, ⟨#[]⟩, (⟨(⟨0, 0, 0, dz, 0⟩ : Head), 0, dz⟩ : Signed), (⟨0, 0, 0, 0, dz⟩ : Claim)⟩ : Entry)⟩ : Item)] 1 1 1 0).1) 1).2)) rfl rfl rfl rfl ?_))
  refine Z7 (b := bxB 69 (Zd (⟨(⟨0, 0, 0, dz, 0⟩ : Head), 0, dz⟩ : Signed))) (nid := 3) (H' := [bxB 69 (Zd (⟨(⟨0, 0, 0, dz, 0⟩ : Head), 0, dz⟩ : Signed)), rwB Zy [(⟨1, (⟨1, 1, 1, ⟨#[]⟩, (⟨(⟨0, 0, 0, dz, 0⟩ : Head), 0, dz⟩ : Signed), (⟨0, 0, 0, 0, dz⟩ : Claim)⟩ : Entry)⟩ : Item)], bxB 36 (Zav ((Zs kk [(⟨1, (⟨1, 1, 1, ⟨#[]⟩, (⟨(⟨0, 0, 0, dz, 0⟩ : Head), 0, dz⟩ : Signed), (⟨0, 0, 0, 0, dz⟩ : Claim)⟩ : Entry)⟩ : Item)] 1 1 1 0).1)), bxB 69 (Zd (⟨(⟨0, 0, 0, dz, 0⟩ : Head), 0, dz⟩ : Signed))]) rfl rfl (by kernel_rfl) (by kernel_rfl) ?_
  refine Zx (p := pt 3 0) (v := Z0 ((Z5 kk dz ((Zs kk [(⟨1, (⟨1, 1, 1, ⟨#[]⟩, (⟨(⟨0, 0, 0, dz, 0⟩ : Head), 0, dz⟩ : Signed), (⟨0, 0, 0, 0, dz⟩ : Claim)⟩ : Entry)⟩ : Item)] 1 1 1 0).1) 1).1)) (b := 3) (blk := bxB 69 (Zd ((Z5 kk dz ((Zs kk [(⟨1, (⟨1, 1, 1, ⟨#[]⟩, (⟨(⟨0, 0, 0, dz, 0⟩ : Head), 0, dz⟩ : Signed), (⟨0, 0, 0, 0, dz⟩ : Claim)⟩ : Entry)⟩ : Item)] 1 1 1 0).1) 1).1))) (H' := [bxB 69 (Zd (⟨(⟨0, 0, 0, dz, 0⟩ : Head), 0, dz⟩ : Signed)), rwB Zy [(⟨1, (⟨1, 1, 1, ⟨#[]⟩, (⟨(⟨0, 0, 0, dz, 0⟩ : Head), 0, dz⟩ : Signed), (⟨0, 0, 0, 0, dz⟩ : Claim)⟩ : Entry)⟩ : Item)], bxB 36 (Zav ((Zs kk [(⟨1, (⟨1, 1, 1, ⟨#[]⟩, (⟨(⟨0, 0, 0, dz, 0⟩ : Head), 0, dz⟩ : Signed), (⟨0, 0, 0, 0, dz⟩ : Claim)⟩ : Entry)⟩ : Item)] 1 1 1 0).1)), bxB 69 (Zd ((Z5 kk dz ((Zs kk [(⟨1, (⟨1, 1, 1, ⟨#[]⟩, (⟨(⟨0, 0, 0, dz, 0⟩ : Head), 0, dz⟩ : Signed), (⟨0, 0, 0, 0, dz⟩ : Claim)⟩ : Entry)⟩ : Item)] 1 1 1 0).1) 1).1))]) rfl rfl rfl (by kernel_rfl) (by kernel_rfl) ?_
  refine Zc rfl rfl (Iv ((Z5 kk dz ((Zs kk [(⟨1, (⟨1, 1, 1, ⟨#[]⟩, (⟨(⟨0, 0, 0, dz, 0⟩ : Head), 0, dz⟩ : Signed), (⟨0, 0, 0, 0, dz⟩ : Claim)⟩ : Entry)⟩ : Item)] 1 1 1 0).1) 1).2)) rfl (Za (Zb (Zf ?_)))
  refine Zdu (by kernel_rfl) ?_
  refine Ze rfl rfl (slv 1 0 1 1) rfl ?_
  refine Zl (p := pt 3 0) (v := Z0 ((Z5 kk dz ((Zs kk [(⟨1, (⟨1, 1, 1, ⟨#[]⟩, (⟨(⟨0, 0, 0, dz, 0⟩ : Head), 0, dz⟩ : Signed), (⟨0, 0, 0, 0, dz⟩ : Claim)⟩ : Entry)⟩ : Item)] 1 1 1 0).1) 1).1)) rfl rfl rfl (by kernel_rfl) ?_
  refine Zc rfl rfl (slv 1 0 1 1) rfl ?_
  refine Zx (p := pt 0 0) (v := Z0 ((Z5 kk dz ((Zs kk [(⟨1, (⟨1, 1, 1, ⟨#[]⟩, (⟨(⟨0, 0, 0, dz, 0⟩ : Head), 0, dz⟩ : Signed), (⟨0, 0, 0, 0, dz⟩ : Claim)⟩ : Entry)⟩ : Item)] 1 1 1 0).1) 1).1)) (b := 0) (blk := bxB 69 (Zd ((Z5 kk dz ((Zs kk [(⟨1, (⟨1, 1, 1, ⟨#[]⟩, (⟨(⟨0, 0, 0, dz, 0⟩ : Head), 0, dz⟩ : Signed), (⟨0, 0, 0, 0, dz⟩ : Claim)⟩ : Entry)⟩ : Item)] 1 1 1 0).1) 1).1))) (H' := [bxB 69 (Zd ((Z5 kk dz ((Zs kk [(⟨1, (⟨1, 1, 1, ⟨#[]⟩, (⟨(⟨0, 0, 0, dz, 0⟩ : Head), 0, dz⟩ : Signed), (⟨0, 0, 0, 0, dz⟩ : Claim)⟩ : Entry)⟩ : Item)] 1 1 1 0).1) 1).1)), rwB Zy [(⟨1, (⟨1, 1, 1, ⟨#[]⟩, (⟨(⟨0, 0, 0, dz, 0⟩ : Head), 0, dz⟩ : Signed), (⟨0, 0, 0, 0, dz⟩ : Claim)⟩ : Entry)⟩ : Item)], bxB 36 (Zav ((Zs kk [(⟨1, (⟨1, 1, 1, ⟨#[]⟩, (⟨(⟨0, 0, 0, dz, 0⟩ : Head), 0, dz⟩ : Signed), (⟨0, 0, 0, 0, dz⟩ : Claim)⟩ : Entry)⟩ : Item)] 1 1 1 0).1)), bxB 69 (Zd ((Z5 kk dz ((Zs kk [(⟨1, (⟨1, 1, 1, ⟨#[]⟩, (⟨(⟨0, 0, 0, dz, 0⟩ : Head), 0, dz⟩ : Signed), (⟨0, 0, 0, 0, dz⟩ : Claim)⟩ : Entry)⟩ : Item)] 1 1 1 0).1) 1).1))]) rfl rfl rfl (by kernel_rfl) (by kernel_rfl) ?_
  refine Zcu (Zgw [[], [], [0], [0, 1, 2]] (by kernel_rfl) (by kernel_rfl)) ?_
  refine Zb (Zt (Zu ?_))
  exact Za7 [1] (v := .tuple #[slv 1 0 1 1, Z0 ((Z5 kk dz ((Zs kk [(⟨1, (⟨1, 1, 1, ⟨#[]⟩, (⟨(⟨0, 0, 0, dz, 0⟩ : Head), 0, dz⟩ : Signed), (⟨0, 0, 0, 0, dz⟩ : Claim)⟩ : Entry)⟩ : Item)] 1 1 1 0).1) 1).1)]) (by kernel_rfl) (by kernel_rfl) rfl rfl (by decide) (by simp [Za9, rwB, Zy]) ⟨⟨rfl, rfl, rfl, by first | omega | exact Nat.le_refl _ | exact Nat.zero_le _ | (dsimp only; omega), by first | omega | exact Nat.le_refl _ | exact Nat.zero_le _ | (dsimp only; omega)⟩, (Zhe (by kernel_rfl) rfl), trivial⟩
end Go.Flat
