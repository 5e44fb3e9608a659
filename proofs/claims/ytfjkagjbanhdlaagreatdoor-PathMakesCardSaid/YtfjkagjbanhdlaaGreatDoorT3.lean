/- Walks. -/
import Derived.Test.YtfjkagjbanhdlaaGreatDoorR4P
set_option linter.unusedVariables false
set_option linter.unusedSimpArgs false
set_option maxRecDepth 20000
namespace Go.Flat
open Go.Proofs
variable {G : Glob}
def uP : Item := (⟨1, (⟨1, 1, 1, ⟨#[]⟩, (⟨(⟨0, 0, 0, dz, 0⟩ : Head), 0, dz⟩ : Signed), (⟨0, 0, 0, 0, dz⟩ : Claim)⟩ : Entry)⟩ : Item)
noncomputable def sP (kk : Nat → BitVec 32) : Signed := (Zc0 kk dz (Zbf kk [uP] 1 1 1 0).1 1).1
section
variable {kk : Nat → BitVec 32} {master : D} {l : List Item} {n region epoch node i tick : Int}
theorem Zpc {h : Head} (e : (Zc0 kk master h node).2 = 0) : Zcj h ∧ (1 ≤ node ∧ node ≤ 3) := by
 unfold Zc0 at e
 split at e
 ·assumption
 ·exact absurd e (by decide)
theorem Zv2 {h : Head} (e : (Zc0 kk master h node).2 = 0) : Zda kk master (Zc0 kk master h node).1 = 0 := by
 have q := Zpc e
 rw [show Zc0 kk master h node = (⟨h, node, Z2i kk master h node⟩, 0) from if_pos q]
 unfold Zda
 rw [if_pos (show Zf4 ⟨h, node, Z2i kk master h node⟩ from q), if_pos (Zmr _ _)]
theorem Zkh (e : (Zbf kk l n region epoch tick).2 = 0) : (Zab kk l n).2 = 0 ∧ (Zbf kk l n region epoch tick).1 = ⟨region, epoch, n, (Zab kk l n).1, tick⟩ := by
 unfold Zbf at e ⊢
 split at e
 ·rename_i h1
  split at e
  ·rename_i h2
   rw [if_pos h1, if_pos h2]; exact ⟨h1, rfl⟩
  ·exact absurd e (by decide)
 ·rename_i h1; exact absurd e h1
theorem Zwl (h : (Zab kk l n).2 = 0) : (Zap kk l n).2 = 0 ∧ 0 ≤ n ∧ n ≤ l.length ∧ (Zap kk l n).1.length = n.toNat := by
 have h0 : (Zap kk l n).2 = 0 := by
  unfold Zab at h
  split at h
  ·assumption
  ·rename_i q; exact absurd h q
 obtain ⟨g1, g2, g3, g4⟩ := Zp2 h0
 exact ⟨h0, g2, g3, by rw [g4]; exact Zd2 _ _ _⟩
theorem Zue (e1 : (Zbf kk l n region epoch tick).2 = 0) (e2 : (Zc0 kk master (Zbf kk l n region epoch tick).1 node).2 = 0) :
  (Zc0 kk master (Zbf kk l n region epoch tick).1 node).1.head = ⟨region, epoch, n, (Zab kk l n).1, tick⟩ ∧ Zf4 (Zc0 kk master (Zbf kk l n region epoch tick).1 node).1 := by
 have q := Zpc e2
 rw [show Zc0 kk master (Zbf kk l n region epoch tick).1 node = (⟨(Zbf kk l n region epoch tick).1, node, Z2i kk master (Zbf kk l n region epoch tick).1 node⟩, 0) from if_pos q]
 exact ⟨(Zkh e1).2, q⟩
theorem Zxe (e1 : (Zbf kk l n region epoch tick).2 = 0) (e2 : (Zc0 kk master (Zbf kk l n region epoch tick).1 node).2 = 0) (hi : 0 ≤ i ∧ i < n) :
  i < l.length ∧ Zv kk l i (Zc0 kk master (Zbf kk l n region epoch tick).1 node).1 = (⟨i, l.getD i.toNat default, (Zaf kk l (Zc0 kk master (Zbf kk l n region epoch tick).1 node).1.head.size i).1, (Zc0 kk master (Zbf kk l n region epoch tick).1 node).1⟩, 0) ∧
  Zft kk master [⟨i, l.getD i.toNat default, (Zaf kk l (Zc0 kk master (Zbf kk l n region epoch tick).1 node).1.head.size i).1, (Zc0 kk master (Zbf kk l n region epoch tick).1 node).1⟩] = 0 := by
 obtain ⟨hs, hm⟩ := Zue e1 e2
 have hv := Zv2 e2
 have hr := (Zkh e1).1
 obtain ⟨f0, f1, f2, f3⟩ := Zwl hr
 have hin : (Zaf kk l n i).2 = 0 := by unfold Zaf; rw [if_pos f0, if_pos ⟨hi.1, by rw [f3]; omega⟩]
 obtain ⟨g1, g2, g3, g4, g5⟩ := Z2l hin
 generalize (Zc0 kk master (Zbf kk l n region epoch tick).1 node).1 = s at hs hm hv ⊢
 rw [hs]
 refine ⟨g2, ?_, ?_⟩
 ·have := Zy9 (kk := kk) (l := l) (i := i) (s := s) (by rw [hs]; exact hr) hm (by rw [hs]; exact Zmr _ _) (by rw [hs]; exact hin)
  rw [hs] at this; exact this
 ·rw [Zrd, Zzc hv g4]
  show Zig kk s.head.root _ s.head.size i _ = 0
  rw [hs]; exact g5
theorem Z42 (e1 : (Zbf kk l n region epoch tick).2 = 0) (e2 : (Zc0 kk master (Zbf kk l n region epoch tick).1 node).2 = 0) (hi : i < 0 ∨ n ≤ i) : Zv kk l i (Zc0 kk master (Zbf kk l n region epoch tick).1 node).1 = ((⟨0, (⟨0, (⟨0, 0, 0, ⟨#[]⟩, (⟨(⟨0, 0, 0, dz, 0⟩ : Head), 0, dz⟩ : Signed), (⟨0, 0, 0, 0, dz⟩ : Claim)⟩ : Entry)⟩ : Item), [], (⟨(⟨0, 0, 0, dz, 0⟩ : Head), 0, dz⟩ : Signed)⟩ : PStep), 131) := by
 obtain ⟨hs, hm⟩ := Zue e1 e2
 have hr := (Zkh e1).1
 obtain ⟨f0, f1, f2, f3⟩ := Zwl hr
 generalize (Zc0 kk master (Zbf kk l n region epoch tick).1 node).1 = s at hs hm ⊢
 refine Zkc (by rw [hs]; exact hr) hm (by rw [hs]; exact Zmr _ _) ?_
 rw [hs]
 show ¬ (Zaf kk l n i).2 = 0
 rw [show Zaf kk l n i = ([], 20) from by unfold Zaf; rw [if_pos f0, if_neg (fun q => by rw [f3] at q; omega)]]
 show ¬ (20 : Int) = 0
 decide
end
theorem Z3q : Zec [uP] := by
 have : decide (Zec [uP]) = true := by kernel_rfl
 exact of_decide_eq_true this
theorem Znv (kk : Nat → BitVec 32) : (Zbf kk [uP] 1 1 1 0).2 = 0 := by
 have h0 : Zap kk [uP] 1 = (acL kk [uP] 1, 0) := by unfold Zap; rw [if_pos Z3q, if_pos ⟨by decide, by decide⟩]; rfl
 have h1 : Zab kk [uP] 1 = (Zby kk (Zap kk [uP] 1).1, 0) := by unfold Zab; rw [if_pos (by rw [h0])]
 unfold Zbf
 rw [if_pos (by rw [h1])]
 have hc : Zbn ⟨1, 1, 1, (Zab kk [uP] 1).1, 0⟩ = 0 := by rw [Zg3, if_pos]; unfold Zcj; dsimp only; omega
 rw [if_pos hc]
theorem Zp9 (kk : Nat → BitVec 32) : (Zc0 kk dz (Zbf kk [uP] 1 1 1 0).1 1).2 = 0 := by
 unfold Zc0
 rw [if_pos]
 refine ⟨?_, by decide, by decide⟩
 rw [(Zkh (Znv kk)).2]; unfold Zcj; dsimp only; omega
theorem Z55 (kk : Nat → BitVec 32) : Zv kk [uP] 0 (sP kk) = (⟨0, uP, (Zaf kk [uP] (sP kk).head.size 0).1, sP kk⟩, 0) := (Zxe (i := 0) (Znv kk) (Zp9 kk) ⟨by decide, by decide⟩).2.1
theorem Z6d (kk : Nat → BitVec 32) : Zv kk [uP] 1 (sP kk) = ((⟨0, (⟨0, (⟨0, 0, 0, ⟨#[]⟩, (⟨(⟨0, 0, 0, dz, 0⟩ : Head), 0, dz⟩ : Signed), (⟨0, 0, 0, 0, dz⟩ : Claim)⟩ : Entry)⟩ : Item), [], (⟨(⟨0, 0, 0, dz, 0⟩ : Head), 0, dz⟩ : Signed)⟩ : PStep), 131) := Z42 (Znv kk) (Zp9 kk) (.inr (by decide))
theorem Zu5 (kk : Nat → BitVec 32) : Zft kk dz [⟨0, uP, (Zaf kk [uP] (sP kk).head.size 0).1, sP kk⟩] = 0 := (Zxe (i := 0) (Znv kk) (Zp9 kk) ⟨by decide, by decide⟩).2.2
theorem Z5h (kk : Nat → BitVec 32) : Zft kk dz [⟨0, uP, (Zaf kk [uP] (sP kk).head.size 0).1, sP kk⟩, ⟨0, uP, (Zaf kk [uP] (sP kk).head.size 0).1, sP kk⟩] = 130 := by
 have h := Zu5 kk
 rw [Zrd] at h
 exact Zlm h h (by kernel_rfl)
theorem Ztu (kk : Nat → BitVec 32) : (sP kk).head.size = 1 := by
 have := (Zue (Znv kk) (Zp9 kk)).1
 show (Zc0 kk dz (Zbf kk [uP] 1 1 1 0).1 1).1.head.size = 1
 rw [this]
theorem Z16 (kk : Nat → BitVec 32) : Zv kk [] 0 (sP kk) = ((⟨0, (⟨0, (⟨0, 0, 0, ⟨#[]⟩, (⟨(⟨0, 0, 0, dz, 0⟩ : Head), 0, dz⟩ : Signed), (⟨0, 0, 0, 0, dz⟩ : Claim)⟩ : Entry)⟩ : Item), [], (⟨(⟨0, 0, 0, dz, 0⟩ : Head), 0, dz⟩ : Signed)⟩ : PStep), 130) := by
 refine Zj3 (.inl ?_)
 rw [Ztu]
 have h0 : Zap kk [] 1 = ([], 21) := by
  unfold Zap
  rw [if_pos (show Zec [] from ⟨by decide, rfl⟩), if_neg (by decide)]
 unfold Zab
 rw [if_neg (by rw [h0]; show ¬ (21 : Int) = 0; decide), h0]
 show ¬ (21 : Int) = 0
 decide
theorem Z5w {l : List Item} (h : Zpu l = false) : l.length ≤ 60 := by
 unfold Zpu at h
 simp only [Bool.or_eq_false_iff, decide_eq_false_iff_not] at h
 omega
theorem Zuy {G : Glob} (kk : Nat → BitVec 32) (hG : G 3 = some (Zag w32 64 kk)) (hG1 : G 1 = some (Zag u8N 64 dbF)) (l : List Item) (n c : Nat) (hn : l.length = n) (hc : n ≤ c) (hb : n ≤ 1048576) (i : Int) (s : Signed) {x : PStep × Int} (hx : Zv kk l i s = x) : Z6 Tryz.prog G 7 [slv 0 0 n c, Iv i, Zy s] [rwR Zt l] (.tuple #[mxV ([Iv x.1.index] ++ (Zs x.1.item ++ ([slv 1 0 x.1.proof.length x.1.proof.length] ++ (Zj x.1.head)))), Iv x.2]) [rwR Zt l, dsB x.1.proof] := by
 subst hx; exact Zzn kk hG hG1 l n c hn hc hb i s
abbrev Y17  : Blk := bxB 69 (Zj (⟨(⟨0, 0, 0, dz, 0⟩ : Head), 0, dz⟩ : Signed))
abbrev Y18  : Blk := rwB Zt [(⟨1, (⟨1, 1, 1, ⟨#[]⟩, (⟨(⟨0, 0, 0, dz, 0⟩ : Head), 0, dz⟩ : Signed), (⟨0, 0, 0, 0, dz⟩ : Claim)⟩ : Entry)⟩ : Item)]
abbrev Y19 (kk : Nat → BitVec 32) : Blk := bxB 36 (Zcz ((Zbf kk [(⟨1, (⟨1, 1, 1, ⟨#[]⟩, (⟨(⟨0, 0, 0, dz, 0⟩ : Head), 0, dz⟩ : Signed), (⟨0, 0, 0, 0, dz⟩ : Claim)⟩ : Entry)⟩ : Item)] 1 1 1 0).1))
abbrev Y20 (kk : Nat → BitVec 32) : Blk := bxB 69 (Zj ((Zc0 kk dz ((Zbf kk [(⟨1, (⟨1, 1, 1, ⟨#[]⟩, (⟨(⟨0, 0, 0, dz, 0⟩ : Head), 0, dz⟩ : Signed), (⟨0, 0, 0, 0, dz⟩ : Claim)⟩ : Entry)⟩ : Item)] 1 1 1 0).1) 1).1))
theorem Z59 (kk : Nat → BitVec 32) (hG : G 3 = some (Zag w32 64 kk)) (hG1 : G 1 = some (Zag u8N 64 dbF))  : Z6 Tryz.prog G 25 [] [] (.tuple #[slv 0 0 1 1, Zy (sP kk)]) [rwB Zt [uP]] := by
  refine Za8 (fn := Tryz.f25) (nt := 23) rfl rfl rfl rfl ?_
  refine Zaa 4 (H' := [hole, hole, hole, hole]) rfl ?_
  refine Zf (Zg (Zb (.slice none 0 0) (Zam (b := bxB 69 (Zj (⟨(⟨0, 0, 0, dz, 0⟩ : Head), 0, dz⟩ : Signed))) (nid := 0) (H' := [Y17, hole, hole, hole]) (Za (Zc (Zf (Zg ?_)))))))
  refine Za5 (vs := [(0, Iv 1), (1, Iv 1), (2, Iv 1)]) (v := Zdf (⟨1, 1, 1, ⟨#[]⟩, (⟨(⟨0, 0, 0, dz, 0⟩ : Head), 0, dz⟩ : Signed), (⟨0, 0, 0, 0, dz⟩ : Claim)⟩ : Entry)) rfl rfl rfl (by kernel_rfl) ?_
  refine Za5 (vs := [(0, Iv 1), (1, Zdf (⟨1, 1, 1, ⟨#[]⟩, (⟨(⟨0, 0, 0, dz, 0⟩ : Head), 0, dz⟩ : Signed), (⟨0, 0, 0, 0, dz⟩ : Claim)⟩ : Entry))]) (v := Za9 (⟨1, (⟨1, 1, 1, ⟨#[]⟩, (⟨(⟨0, 0, 0, dz, 0⟩ : Head), 0, dz⟩ : Signed), (⟨0, 0, 0, 0, dz⟩ : Claim)⟩ : Entry)⟩ : Item)) rfl rfl rfl (by kernel_rfl) ?_
  refine Zdb (vs := [(0, Za9 (⟨1, (⟨1, 1, 1, ⟨#[]⟩, (⟨(⟨0, 0, 0, dz, 0⟩ : Head), 0, dz⟩ : Signed), (⟨0, 0, 0, 0, dz⟩ : Claim)⟩ : Entry)⟩ : Item))]) (v := slv 1 0 1 1) (blk := rwB Zt [(⟨1, (⟨1, 1, 1, ⟨#[]⟩, (⟨(⟨0, 0, 0, dz, 0⟩ : Head), 0, dz⟩ : Signed), (⟨0, 0, 0, 0, dz⟩ : Claim)⟩ : Entry)⟩ : Item)]) (nid := 1) (H' := [Y17, Y18, hole, hole]) rfl rfl rfl (by kernel_rfl) (by kernel_rfl) ?_
  refine Zb (slv 1 0 1 1) (Za (Zc (Zf (Zg (Zd (slv 1 0 1 1) ?_)))))
  refine Z2 (e := [some (1, 0)]) (nid := 0) (Z45 (G := G) kk hG hG1 [(⟨1, (⟨1, 1, 1, ⟨#[]⟩, (⟨(⟨0, 0, 0, dz, 0⟩ : Head), 0, dz⟩ : Signed), (⟨0, 0, 0, 0, dz⟩ : Claim)⟩ : Entry)⟩ : Item)] 1 1 (rfl : _ = 1) (by omega) (by omega) 1 1 1 0) (vals := [slv 1 0 1 1, Iv 1, Iv 1, Iv 1, Iv 0]) (v := .tuple #[Zcd ((Zbf kk [(⟨1, (⟨1, 1, 1, ⟨#[]⟩, (⟨(⟨0, 0, 0, dz, 0⟩ : Head), 0, dz⟩ : Signed), (⟨0, 0, 0, 0, dz⟩ : Claim)⟩ : Entry)⟩ : Item)] 1 1 1 0).1), Iv ((Zbf kk [(⟨1, (⟨1, 1, 1, ⟨#[]⟩, (⟨(⟨0, 0, 0, dz, 0⟩ : Head), 0, dz⟩ : Signed), (⟨0, 0, 0, 0, dz⟩ : Claim)⟩ : Entry)⟩ : Item)] 1 1 1 0).2)]) (H' := [Y17, Y18, hole, hole]) rfl rfl rfl rfl rfl rfl rfl ⟨⟨⟨rfl, rfl, rfl, by first | omega | exact Nat.le_refl _, by first | omega | exact Nat.le_refl _⟩, rfl, rfl, rfl, rfl, trivial⟩, ⟨(Zgb rfl), trivial⟩, rfl, rfl, rfl⟩ (by kernel_rfl) (by kernel_rfl) ?_
  refine Zd (.tuple #[Zcd ((Zbf kk [(⟨1, (⟨1, 1, 1, ⟨#[]⟩, (⟨(⟨0, 0, 0, dz, 0⟩ : Head), 0, dz⟩ : Signed), (⟨0, 0, 0, 0, dz⟩ : Claim)⟩ : Entry)⟩ : Item)] 1 1 1 0).1), Iv ((Zbf kk [(⟨1, (⟨1, 1, 1, ⟨#[]⟩, (⟨(⟨0, 0, 0, dz, 0⟩ : Head), 0, dz⟩ : Signed), (⟨0, 0, 0, 0, dz⟩ : Claim)⟩ : Entry)⟩ : Item)] 1 1 1 0).2)]) (Zw (vs := #[Zcd ((Zbf kk [(⟨1, (⟨1, 1, 1, ⟨#[]⟩, (⟨(⟨0, 0, 0, dz, 0⟩ : Head), 0, dz⟩ : Signed), (⟨0, 0, 0, 0, dz⟩ : Claim)⟩ : Entry)⟩ : Item)] 1 1 1 0).1), Iv ((Zbf kk [(⟨1, (⟨1, 1, 1, ⟨#[]⟩, (⟨(⟨0, 0, 0, dz, 0⟩ : Head), 0, dz⟩ : Signed), (⟨0, 0, 0, 0, dz⟩ : Claim)⟩ : Entry)⟩ : Item)] 1 1 1 0).2)]) (v := Zcd ((Zbf kk [(⟨1, (⟨1, 1, 1, ⟨#[]⟩, (⟨(⟨0, 0, 0, dz, 0⟩ : Head), 0, dz⟩ : Signed), (⟨0, 0, 0, 0, dz⟩ : Claim)⟩ : Entry)⟩ : Item)] 1 1 1 0).1)) (Zw (vs := #[Zcd ((Zbf kk [(⟨1, (⟨1, 1, 1, ⟨#[]⟩, (⟨(⟨0, 0, 0, dz, 0⟩ : Head), 0, dz⟩ : Signed), (⟨0, 0, 0, 0, dz⟩ : Claim)⟩ : Entry)⟩ : Item)] 1 1 1 0).1), Iv ((Zbf kk [(⟨1, (⟨1, 1, 1, ⟨#[]⟩, (⟨(⟨0, 0, 0, dz, 0⟩ : Head), 0, dz⟩ : Signed), (⟨0, 0, 0, 0, dz⟩ : Claim)⟩ : Entry)⟩ : Item)] 1 1 1 0).2)]) (v := Iv ((Zbf kk [(⟨1, (⟨1, 1, 1, ⟨#[]⟩, (⟨(⟨0, 0, 0, dz, 0⟩ : Head), 0, dz⟩ : Signed), (⟨0, 0, 0, 0, dz⟩ : Claim)⟩ : Entry)⟩ : Item)] 1 1 1 0).2)) (Zam (b := bxB 36 (Zcz (⟨0, 0, 0, dz, 0⟩ : Head))) (nid := 2) (H' := [Y17, Y18, bxB 36 (Zcz (⟨0, 0, 0, dz, 0⟩ : Head)), hole]) (Z7 (p := pt 2 0) (v := Zcd ((Zbf kk [(⟨1, (⟨1, 1, 1, ⟨#[]⟩, (⟨(⟨0, 0, 0, dz, 0⟩ : Head), 0, dz⟩ : Signed), (⟨0, 0, 0, 0, dz⟩ : Claim)⟩ : Entry)⟩ : Item)] 1 1 1 0).1)) (b := 2) (blk := bxB 36 (Zcz ((Zbf kk [(⟨1, (⟨1, 1, 1, ⟨#[]⟩, (⟨(⟨0, 0, 0, dz, 0⟩ : Head), 0, dz⟩ : Signed), (⟨0, 0, 0, 0, dz⟩ : Claim)⟩ : Entry)⟩ : Item)] 1 1 1 0).1))) (H' := [Y17, Y18, Y19 kk, hole]) (Zb (Iv ((Zbf kk [(⟨1, (⟨1, 1, 1, ⟨#[]⟩, (⟨(⟨0, 0, 0, dz, 0⟩ : Head), 0, dz⟩ : Signed), (⟨0, 0, 0, 0, dz⟩ : Claim)⟩ : Entry)⟩ : Item)] 1 1 1 0).2)) (Za (Zc (Zf (Zg ?_)))))))))
  refine Za5 (vs := []) (v := dgV dz) rfl rfl rfl (by kernel_rfl) ?_
  refine Zp (p := pt 2 0) (v := Zcd ((Zbf kk [(⟨1, (⟨1, 1, 1, ⟨#[]⟩, (⟨(⟨0, 0, 0, dz, 0⟩ : Head), 0, dz⟩ : Signed), (⟨0, 0, 0, 0, dz⟩ : Claim)⟩ : Entry)⟩ : Item)] 1 1 1 0).1)) ?_
  refine Zo (Z4q (G := G) kk hG dz ((Zbf kk [(⟨1, (⟨1, 1, 1, ⟨#[]⟩, (⟨(⟨0, 0, 0, dz, 0⟩ : Head), 0, dz⟩ : Signed), (⟨0, 0, 0, 0, dz⟩ : Claim)⟩ : Entry)⟩ : Item)] 1 1 1 0).1) 1) (vals := [dgV dz, Zcd ((Zbf kk [(⟨1, (⟨1, 1, 1, ⟨#[]⟩, (⟨(⟨0, 0, 0, dz, 0⟩ : Head), 0, dz⟩ : Signed), (⟨0, 0, 0, 0, dz⟩ : Claim)⟩ : Entry)⟩ : Item)] 1 1 1 0).1), Iv 1]) (res' := .tuple #[Zy ((Zc0 kk dz ((Zbf kk [(⟨1, (⟨1, 1, 1, ⟨#[]⟩, (⟨(⟨0, 0, 0, dz, 0⟩ : Head), 0, dz⟩ : Signed), (⟨0, 0, 0, 0, dz⟩ : Claim)⟩ : Entry)⟩ : Item)] 1 1 1 0).1) 1).1), Iv ((Zc0 kk dz ((Zbf kk [(⟨1, (⟨1, 1, 1, ⟨#[]⟩, (⟨(⟨0, 0, 0, dz, 0⟩ : Head), 0, dz⟩ : Signed), (⟨0, 0, 0, 0, dz⟩ : Claim)⟩ : Entry)⟩ : Item)] 1 1 1 0).1) 1).2)]) rfl rfl rfl rfl rfl (by kernel_rfl) ?_
  refine Zd (.tuple #[Zy ((Zc0 kk dz ((Zbf kk [(⟨1, (⟨1, 1, 1, ⟨#[]⟩, (⟨(⟨0, 0, 0, dz, 0⟩ : Head), 0, dz⟩ : Signed), (⟨0, 0, 0, 0, dz⟩ : Claim)⟩ : Entry)⟩ : Item)] 1 1 1 0).1) 1).1), Iv ((Zc0 kk dz ((Zbf kk [(⟨1, (⟨1, 1, 1, ⟨#[]⟩, (⟨(⟨0, 0, 0, dz, 0⟩ : Head), 0, dz⟩ : Signed), (⟨0, 0, 0, 0, dz⟩ : Claim)⟩ : Entry)⟩ : Item)] 1 1 1 0).1) 1).2)]) (Zw (vs := #[Zy ((Zc0 kk dz ((Zbf kk [(⟨1, (⟨1, 1, 1, ⟨#[]⟩, (⟨(⟨0, 0, 0, dz, 0⟩ : Head), 0, dz⟩ : Signed), (⟨0, 0, 0, 0, dz⟩ : Claim)⟩ : Entry)⟩ : Item)] 1 1 1 0).1) 1).1), Iv ((Zc0 kk dz ((Zbf kk [(⟨1, (⟨1, 1, 1, ⟨#[]⟩, (⟨(⟨0, 0, 0, dz, 0⟩ : Head), 0, dz⟩ : Signed), (⟨0, 0, 0, 0, dz⟩ : Claim)⟩ : Entry)⟩ : Item)] 1 1 1 0).1) 1).2)]) (v := Zy ((Zc0 kk dz ((Zbf kk [(⟨1, (⟨1, 1, 1, ⟨#[]⟩, (⟨(⟨0, 0, 0, dz, 0⟩ : Head), 0, dz⟩ : Signed), (⟨0, 0, 0, 0, dz⟩ : Claim)⟩ : Entry)⟩ : Item)] 1 1 1 0).1) 1).1)) (Zw (vs := #[Zy ((Zc0 kk dz ((Zbf kk [(⟨1, (⟨1, 1, 1, ⟨#[]⟩, (⟨(⟨0, 0, 0, dz, 0⟩ : Head), 0, dz⟩ : Signed), (⟨0, 0, 0, 0, dz⟩ : Claim)⟩ : Entry)⟩ : Item)] 1 1 1 0).1) 1).1), Iv ((Zc0 kk dz ((Zbf kk [(⟨1, (⟨1, 1, 1, ⟨#[]⟩, (⟨(⟨0, 0, 0, dz, 0⟩ : Head), 0, dz⟩ : Signed), (⟨0, 0, 0, 0, dz⟩ : Claim)⟩ : Entry)⟩ : Item)] 1 1 1 0).1) 1).2)]) (v := Iv ((Zc0 kk dz ((Zbf kk [(⟨1, (⟨1, 1, 1, ⟨#[]⟩, (⟨(⟨0, 0, 0, dz, 0⟩ : Head), 0, dz⟩ : Signed), (⟨0, 0, 0, 0, dz⟩ : Claim)⟩ : Entry)⟩ : Item)] 1 1 1 0).1) 1).2)) (Zam (b := bxB 69 (Zj (⟨(⟨0, 0, 0, dz, 0⟩ : Head), 0, dz⟩ : Signed))) (nid := 3) (H' := [Y17, Y18, Y19 kk, Y17]) (Z7 (p := pt 3 0) (v := Zy ((Zc0 kk dz ((Zbf kk [(⟨1, (⟨1, 1, 1, ⟨#[]⟩, (⟨(⟨0, 0, 0, dz, 0⟩ : Head), 0, dz⟩ : Signed), (⟨0, 0, 0, 0, dz⟩ : Claim)⟩ : Entry)⟩ : Item)] 1 1 1 0).1) 1).1)) (b := 3) (blk := bxB 69 (Zj ((Zc0 kk dz ((Zbf kk [(⟨1, (⟨1, 1, 1, ⟨#[]⟩, (⟨(⟨0, 0, 0, dz, 0⟩ : Head), 0, dz⟩ : Signed), (⟨0, 0, 0, 0, dz⟩ : Claim)⟩ : Entry)⟩ : Item)] 1 1 1 0).1) 1).1))) (H' := [Y17, Y18, Y19 kk, Y20 kk]) (Zb (Iv ((Zc0 kk dz ((Zbf kk [(⟨1, (⟨1, 1, 1, ⟨#[]⟩, (⟨(⟨0, 0, 0, dz, 0⟩ : Head), 0, dz⟩ : Signed), (⟨0, 0, 0, 0, dz⟩ : Claim)⟩ : Entry)⟩ : Item)] 1 1 1 0).1) 1).2)) (Za (Zc (Zf ?_))))))))
  refine Zc1 (by kernel_rfl) ?_
  refine Zd (slv 1 0 1 1) (Zp (p := pt 3 0) (v := Zy ((Zc0 kk dz ((Zbf kk [(⟨1, (⟨1, 1, 1, ⟨#[]⟩, (⟨(⟨0, 0, 0, dz, 0⟩ : Head), 0, dz⟩ : Signed), (⟨0, 0, 0, 0, dz⟩ : Claim)⟩ : Entry)⟩ : Item)] 1 1 1 0).1) 1).1)) (Zb (slv 1 0 1 1) (Z7 (p := pt 0 0) (v := Zy ((Zc0 kk dz ((Zbf kk [(⟨1, (⟨1, 1, 1, ⟨#[]⟩, (⟨(⟨0, 0, 0, dz, 0⟩ : Head), 0, dz⟩ : Signed), (⟨0, 0, 0, 0, dz⟩ : Claim)⟩ : Entry)⟩ : Item)] 1 1 1 0).1) 1).1)) (b := 0) (blk := bxB 69 (Zj ((Zc0 kk dz ((Zbf kk [(⟨1, (⟨1, 1, 1, ⟨#[]⟩, (⟨(⟨0, 0, 0, dz, 0⟩ : Head), 0, dz⟩ : Signed), (⟨0, 0, 0, 0, dz⟩ : Claim)⟩ : Entry)⟩ : Item)] 1 1 1 0).1) 1).1))) (H' := [Y20 kk, Y18, Y19 kk, Y20 kk]) ?_)))
  refine Zb3 (Zgj [[], [], [0], [0, 1, 2]] (by kernel_rfl) (by kernel_rfl)) ?_
  refine Zc (Zq (Zr ?_))
  exact Zav [1] (v := .tuple #[slv 1 0 1 1, Zy ((Zc0 kk dz ((Zbf kk [(⟨1, (⟨1, 1, 1, ⟨#[]⟩, (⟨(⟨0, 0, 0, dz, 0⟩ : Head), 0, dz⟩ : Signed), (⟨0, 0, 0, 0, dz⟩ : Claim)⟩ : Entry)⟩ : Item)] 1 1 1 0).1) 1).1)]) (by kernel_rfl) (by kernel_rfl) rfl rfl (by decide) (by simp [Za0, rwB, Zt]) ⟨⟨rfl, rfl, rfl, by first | omega | exact Nat.le_refl _ | exact Nat.zero_le _ | (dsimp only; omega), by first | omega | exact Nat.le_refl _ | exact Nat.zero_le _ | (dsimp only; omega)⟩, (Zin (by kernel_rfl) rfl), trivial⟩
end Go.Flat
