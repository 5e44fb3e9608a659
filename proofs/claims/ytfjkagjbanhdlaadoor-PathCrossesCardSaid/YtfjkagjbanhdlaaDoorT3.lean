/- Walks. -/
import Derived.Test.YtfjkagjbanhdlaaDoorR4P
set_option linter.unusedVariables false
set_option linter.unusedSimpArgs false
set_option maxRecDepth 20000
namespace Go.Flat
open Go.Proofs
variable {G : Glob}
def uP : Item := (⟨1, (⟨1, 1, 1, ⟨#[]⟩, (⟨(⟨0, 0, 0, dz, 0⟩ : Head), 0, dz⟩ : Signed), (⟨0, 0, 0, 0, dz⟩ : Claim)⟩ : Entry)⟩ : Item)
noncomputable def sP (kk : Nat → BitVec 32) : Signed := (Zaz kk dz (Zab kk [uP] 1 1 1 0).1 1).1
section
variable {kk : Nat → BitVec 32} {master : D} {l : List Item} {n region epoch node i tick : Int}
theorem Znv {h : Head} (e : (Zaz kk master h node).2 = 0) : Zfl h ∧ (1 ≤ node ∧ node ≤ 3) := by
 unfold Zaz at e
 split at e
 ·assumption
 ·exact absurd e (by decide)
theorem Zu0 {h : Head} (e : (Zaz kk master h node).2 = 0) : Zca kk master (Zaz kk master h node).1 = 0 := by
 have q := Znv e
 rw [show Zaz kk master h node = (⟨h, node, Zy4 kk master h node⟩, 0) from if_pos q]
 unfold Zca
 rw [if_pos (show Zi8 ⟨h, node, Zy4 kk master h node⟩ from q), if_pos (Zlt _ _)]
theorem Zhr (e : (Zab kk l n region epoch tick).2 = 0) : (Zae kk l n).2 = 0 ∧ (Zab kk l n region epoch tick).1 = ⟨region, epoch, n, (Zae kk l n).1, tick⟩ := by
 unfold Zab at e ⊢
 split at e
 ·rename_i h1
  split at e
  ·rename_i h2
   rw [if_pos h1, if_pos h2]; exact ⟨h1, rfl⟩
  ·exact absurd e (by decide)
 ·rename_i h1; exact absurd e h1
theorem Ztb (h : (Zae kk l n).2 = 0) : (Zah kk l n).2 = 0 ∧ 0 ≤ n ∧ n ≤ l.length ∧ (Zah kk l n).1.length = n.toNat := by
 have h0 : (Zah kk l n).2 = 0 := by
  unfold Zae at h
  split at h
  ·assumption
  ·rename_i q; exact absurd h q
 obtain ⟨g1, g2, g3, g4⟩ := Zxb h0
 exact ⟨h0, g2, g3, by rw [g4]; exact Zfh _ _ _⟩
theorem Zkz (e1 : (Zab kk l n region epoch tick).2 = 0) (e2 : (Zaz kk master (Zab kk l n region epoch tick).1 node).2 = 0) :
  (Zaz kk master (Zab kk l n region epoch tick).1 node).1.head = ⟨region, epoch, n, (Zae kk l n).1, tick⟩ ∧ Zi8 (Zaz kk master (Zab kk l n region epoch tick).1 node).1 := by
 have q := Znv e2
 rw [show Zaz kk master (Zab kk l n region epoch tick).1 node = (⟨(Zab kk l n region epoch tick).1, node, Zy4 kk master (Zab kk l n region epoch tick).1 node⟩, 0) from if_pos q]
 exact ⟨(Zhr e1).2, q⟩
theorem Zoz (e1 : (Zab kk l n region epoch tick).2 = 0) (e2 : (Zaz kk master (Zab kk l n region epoch tick).1 node).2 = 0) (hi : 0 ≤ i ∧ i < n) :
  i < l.length ∧ Zen kk l i (Zaz kk master (Zab kk l n region epoch tick).1 node).1 = (⟨i, l.getD i.toNat default, (Zl kk l (Zaz kk master (Zab kk l n region epoch tick).1 node).1.head.size i).1, (Zaz kk master (Zab kk l n region epoch tick).1 node).1⟩, 0) ∧
  Zct kk master [⟨i, l.getD i.toNat default, (Zl kk l (Zaz kk master (Zab kk l n region epoch tick).1 node).1.head.size i).1, (Zaz kk master (Zab kk l n region epoch tick).1 node).1⟩] = 0 := by
 obtain ⟨hs, hm⟩ := Zkz e1 e2
 have hv := Zu0 e2
 have hr := (Zhr e1).1
 obtain ⟨f0, f1, f2, f3⟩ := Ztb hr
 have hin : (Zl kk l n i).2 = 0 := by unfold Zl; rw [if_pos f0, if_pos ⟨hi.1, by rw [f3]; omega⟩]
 obtain ⟨g1, g2, g3, g4, g5⟩ := Z0z hin
 generalize (Zaz kk master (Zab kk l n region epoch tick).1 node).1 = s at hs hm hv ⊢
 rw [hs]
 refine ⟨g2, ?_, ?_⟩
 ·have := Z1n (kk := kk) (l := l) (i := i) (s := s) (by rw [hs]; exact hr) hm (by rw [hs]; exact Zlt _ _) (by rw [hs]; exact hin)
  rw [hs] at this; exact this
 ·rw [Zhw, Zxk hv g4]
  show Zhs kk s.head.root _ s.head.size i _ = 0
  rw [hs]; exact g5
theorem Zz0 (e1 : (Zab kk l n region epoch tick).2 = 0) (e2 : (Zaz kk master (Zab kk l n region epoch tick).1 node).2 = 0) (hi : i < 0 ∨ n ≤ i) : Zen kk l i (Zaz kk master (Zab kk l n region epoch tick).1 node).1 = ((⟨0, (⟨0, (⟨0, 0, 0, ⟨#[]⟩, (⟨(⟨0, 0, 0, dz, 0⟩ : Head), 0, dz⟩ : Signed), (⟨0, 0, 0, 0, dz⟩ : Claim)⟩ : Entry)⟩ : Item), [], (⟨(⟨0, 0, 0, dz, 0⟩ : Head), 0, dz⟩ : Signed)⟩ : PStep), 131) := by
 obtain ⟨hs, hm⟩ := Zkz e1 e2
 have hr := (Zhr e1).1
 obtain ⟨f0, f1, f2, f3⟩ := Ztb hr
 generalize (Zaz kk master (Zab kk l n region epoch tick).1 node).1 = s at hs hm ⊢
 refine Zp7 (by rw [hs]; exact hr) hm (by rw [hs]; exact Zlt _ _) ?_
 rw [hs]
 show ¬ (Zl kk l n i).2 = 0
 rw [show Zl kk l n i = ([], 20) from by unfold Zl; rw [if_pos f0, if_neg (fun q => by rw [f3] at q; omega)]]
 show ¬ (20 : Int) = 0
 decide
end
theorem Z01 : Zdj [uP] := by
 have : decide (Zdj [uP]) = true := by kernel_rfl
 exact of_decide_eq_true this
theorem Zmi (kk : Nat → BitVec 32) : (Zab kk [uP] 1 1 1 0).2 = 0 := by
 have h0 : Zah kk [uP] 1 = (acL kk [uP] 1, 0) := by unfold Zah; rw [if_pos Z01, if_pos ⟨by decide, by decide⟩]; rfl
 have h1 : Zae kk [uP] 1 = (Zb8 kk (Zah kk [uP] 1).1, 0) := by unfold Zae; rw [if_pos (by rw [h0])]
 unfold Zab
 rw [if_pos (by rw [h1])]
 have hc : Za4 ⟨1, 1, 1, (Zae kk [uP] 1).1, 0⟩ = 0 := by rw [Zft, if_pos]; unfold Zfl; dsimp only; omega
 rw [if_pos hc]
theorem Zod (kk : Nat → BitVec 32) : (Zaz kk dz (Zab kk [uP] 1 1 1 0).1 1).2 = 0 := by
 unfold Zaz
 rw [if_pos]
 refine ⟨?_, by decide, by decide⟩
 rw [(Zhr (Zmi kk)).2]; unfold Zfl; dsimp only; omega
theorem Z2w (kk : Nat → BitVec 32) : Zen kk [uP] 0 (sP kk) = (⟨0, uP, (Zl kk [uP] (sP kk).head.size 0).1, sP kk⟩, 0) := (Zoz (i := 0) (Zmi kk) (Zod kk) ⟨by decide, by decide⟩).2.1
theorem Z3p (kk : Nat → BitVec 32) : Zen kk [uP] 1 (sP kk) = ((⟨0, (⟨0, (⟨0, 0, 0, ⟨#[]⟩, (⟨(⟨0, 0, 0, dz, 0⟩ : Head), 0, dz⟩ : Signed), (⟨0, 0, 0, 0, dz⟩ : Claim)⟩ : Entry)⟩ : Item), [], (⟨(⟨0, 0, 0, dz, 0⟩ : Head), 0, dz⟩ : Signed)⟩ : PStep), 131) := Zz0 (Zmi kk) (Zod kk) (.inr (by decide))
theorem Zua (kk : Nat → BitVec 32) : Zct kk dz [⟨0, uP, (Zl kk [uP] (sP kk).head.size 0).1, sP kk⟩] = 0 := (Zoz (i := 0) (Zmi kk) (Zod kk) ⟨by decide, by decide⟩).2.2
theorem Z1k (kk : Nat → BitVec 32) : Zct kk dz [⟨0, uP, (Zl kk [uP] (sP kk).head.size 0).1, sP kk⟩, ⟨0, uP, (Zl kk [uP] (sP kk).head.size 0).1, sP kk⟩] = 130 := by
 have h := Zua kk
 rw [Zhw] at h
 exact Ze5 h h (by kernel_rfl)
theorem Zso (kk : Nat → BitVec 32) : (sP kk).head.size = 1 := by
 have := (Zkz (Zmi kk) (Zod kk)).1
 show (Zaz kk dz (Zab kk [uP] 1 1 1 0).1 1).1.head.size = 1
 rw [this]
theorem Zx4 (kk : Nat → BitVec 32) : Zen kk [] 0 (sP kk) = ((⟨0, (⟨0, (⟨0, 0, 0, ⟨#[]⟩, (⟨(⟨0, 0, 0, dz, 0⟩ : Head), 0, dz⟩ : Signed), (⟨0, 0, 0, 0, dz⟩ : Claim)⟩ : Entry)⟩ : Item), [], (⟨(⟨0, 0, 0, dz, 0⟩ : Head), 0, dz⟩ : Signed)⟩ : PStep), 130) := by
 refine Zoy (.inl ?_)
 rw [Zso]
 have h0 : Zah kk [] 1 = ([], 21) := by
  unfold Zah
  rw [if_pos (show Zdj [] from ⟨by decide, rfl⟩), if_neg (by decide)]
 unfold Zae
 rw [if_neg (by rw [h0]; show ¬ (21 : Int) = 0; decide), h0]
 show ¬ (21 : Int) = 0
 decide
theorem Zkq {l : List Item} (h : Zg2 l = false) : l.length ≤ 60 := by
 unfold Zg2 at h
 simp only [Bool.or_eq_false_iff, decide_eq_false_iff_not] at h
 omega
theorem Zkp {G : Glob} (kk : Nat → BitVec 32) (hG : G 0 = some (Zad w32 64 kk)) (hG1 : G 2 = some (Zad u8N 64 dbF)) (l : List Item) (n c : Nat) (hn : l.length = n) (hc : n ≤ c) (hb : n ≤ 1048576) (i : Int) (s : Signed) {x : PStep × Int} (hx : Zen kk l i s = x) : Zaf Tryd.prog G 11 [slv 0 0 n c, Iv i, Zs s] [rwR Zk l] (.tuple #[mxV ([Iv x.1.index] ++ (Zh x.1.item ++ ([slv 1 0 x.1.proof.length x.1.proof.length] ++ (Za x.1.head)))), Iv x.2]) [rwR Zk l, dsB x.1.proof] := by
 subst hx; exact Z16 kk hG hG1 l n c hn hc hb i s
theorem Z22 (kk : Nat → BitVec 32) (hG : G 0 = some (Zad w32 64 kk)) (hG1 : G 2 = some (Zad u8N 64 dbF))  : Zaf Tryd.prog G 26 [] [] (.tuple #[slv 0 0 1 1, Zs (sP kk)]) [rwB Zk [uP]] := by
  refine Zbj (fn := Tryd.f26) (nt := 23) rfl rfl rfl rfl ?_
  refine Zai 4 (H' := [hole, hole, hole, hole]) rfl ?_
  refine Zg (Zj (Zd rfl rfl (.slice none 0 0) rfl ?_))
  refine Z2 (b := bxB 69 (Za (⟨(⟨0, 0, 0, dz, 0⟩ : Head), 0, dz⟩ : Signed))) (nid := 0) (H' := [bxB 69 (Za (⟨(⟨0, 0, 0, dz, 0⟩ : Head), 0, dz⟩ : Signed)), hole, hole, hole]) rfl rfl (by kernel_rfl) (by kernel_rfl) ?_
  refine Zb (Zc (Zg (Zj ?_)))
  refine Za1 (vs := [(0, Iv 1), (1, Iv 1), (2, Iv 1)]) (v := Zb0 (⟨1, 1, 1, ⟨#[]⟩, (⟨(⟨0, 0, 0, dz, 0⟩ : Head), 0, dz⟩ : Signed), (⟨0, 0, 0, 0, dz⟩ : Claim)⟩ : Entry)) rfl rfl rfl (by kernel_rfl) ?_
  refine Za1 (vs := [(0, Iv 1), (1, Zb0 (⟨1, 1, 1, ⟨#[]⟩, (⟨(⟨0, 0, 0, dz, 0⟩ : Head), 0, dz⟩ : Signed), (⟨0, 0, 0, 0, dz⟩ : Claim)⟩ : Entry))]) (v := Zay (⟨1, (⟨1, 1, 1, ⟨#[]⟩, (⟨(⟨0, 0, 0, dz, 0⟩ : Head), 0, dz⟩ : Signed), (⟨0, 0, 0, 0, dz⟩ : Claim)⟩ : Entry)⟩ : Item)) rfl rfl rfl (by kernel_rfl) ?_
  refine Zdh (vs := [(0, Zay (⟨1, (⟨1, 1, 1, ⟨#[]⟩, (⟨(⟨0, 0, 0, dz, 0⟩ : Head), 0, dz⟩ : Signed), (⟨0, 0, 0, 0, dz⟩ : Claim)⟩ : Entry)⟩ : Item))]) (v := slv 1 0 1 1) (blk := rwB Zk [(⟨1, (⟨1, 1, 1, ⟨#[]⟩, (⟨(⟨0, 0, 0, dz, 0⟩ : Head), 0, dz⟩ : Signed), (⟨0, 0, 0, 0, dz⟩ : Claim)⟩ : Entry)⟩ : Item)]) (nid := 1) (H' := [bxB 69 (Za (⟨(⟨0, 0, 0, dz, 0⟩ : Head), 0, dz⟩ : Signed)), rwB Zk [(⟨1, (⟨1, 1, 1, ⟨#[]⟩, (⟨(⟨0, 0, 0, dz, 0⟩ : Head), 0, dz⟩ : Signed), (⟨0, 0, 0, 0, dz⟩ : Claim)⟩ : Entry)⟩ : Item)], hole, hole]) rfl rfl rfl (by kernel_rfl) (by kernel_rfl) ?_
  refine Zd rfl rfl (slv 1 0 1 1) rfl (Zb (Zc (Zg (Zj (Zf rfl rfl (slv 1 0 1 1) rfl ?_)))))
  refine Z4 (e := [some (1, 0)]) (nid := 0) (Zs3 (G := G) kk hG hG1 [(⟨1, (⟨1, 1, 1, ⟨#[]⟩, (⟨(⟨0, 0, 0, dz, 0⟩ : Head), 0, dz⟩ : Signed), (⟨0, 0, 0, 0, dz⟩ : Claim)⟩ : Entry)⟩ : Item)] 1 1 (rfl : _ = 1) (by omega) (by omega) 1 1 1 0) (vals := [slv 1 0 1 1, Iv 1, Iv 1, Iv 1, Iv 0]) (v := .tuple #[Zbn ((Zab kk [(⟨1, (⟨1, 1, 1, ⟨#[]⟩, (⟨(⟨0, 0, 0, dz, 0⟩ : Head), 0, dz⟩ : Signed), (⟨0, 0, 0, 0, dz⟩ : Claim)⟩ : Entry)⟩ : Item)] 1 1 1 0).1), Iv ((Zab kk [(⟨1, (⟨1, 1, 1, ⟨#[]⟩, (⟨(⟨0, 0, 0, dz, 0⟩ : Head), 0, dz⟩ : Signed), (⟨0, 0, 0, 0, dz⟩ : Claim)⟩ : Entry)⟩ : Item)] 1 1 1 0).2)]) (H' := [bxB 69 (Za (⟨(⟨0, 0, 0, dz, 0⟩ : Head), 0, dz⟩ : Signed)), rwB Zk [(⟨1, (⟨1, 1, 1, ⟨#[]⟩, (⟨(⟨0, 0, 0, dz, 0⟩ : Head), 0, dz⟩ : Signed), (⟨0, 0, 0, 0, dz⟩ : Claim)⟩ : Entry)⟩ : Item)], hole, hole]) rfl rfl rfl rfl rfl rfl rfl ⟨⟨⟨rfl, rfl, rfl, by first | omega | exact Nat.le_refl _, by first | omega | exact Nat.le_refl _⟩, rfl, rfl, rfl, rfl, trivial⟩, ⟨(Ze9 rfl), trivial⟩, rfl, rfl, rfl⟩ (by kernel_rfl) (by kernel_rfl) ?_
  refine Zf rfl rfl (.tuple #[Zbn ((Zab kk [(⟨1, (⟨1, 1, 1, ⟨#[]⟩, (⟨(⟨0, 0, 0, dz, 0⟩ : Head), 0, dz⟩ : Signed), (⟨0, 0, 0, 0, dz⟩ : Claim)⟩ : Entry)⟩ : Item)] 1 1 1 0).1), Iv ((Zab kk [(⟨1, (⟨1, 1, 1, ⟨#[]⟩, (⟨(⟨0, 0, 0, dz, 0⟩ : Head), 0, dz⟩ : Signed), (⟨0, 0, 0, 0, dz⟩ : Claim)⟩ : Entry)⟩ : Item)] 1 1 1 0).2)]) rfl (Zu (vs := #[Zbn ((Zab kk [(⟨1, (⟨1, 1, 1, ⟨#[]⟩, (⟨(⟨0, 0, 0, dz, 0⟩ : Head), 0, dz⟩ : Signed), (⟨0, 0, 0, 0, dz⟩ : Claim)⟩ : Entry)⟩ : Item)] 1 1 1 0).1), Iv ((Zab kk [(⟨1, (⟨1, 1, 1, ⟨#[]⟩, (⟨(⟨0, 0, 0, dz, 0⟩ : Head), 0, dz⟩ : Signed), (⟨0, 0, 0, 0, dz⟩ : Claim)⟩ : Entry)⟩ : Item)] 1 1 1 0).2)]) (v := Zbn ((Zab kk [(⟨1, (⟨1, 1, 1, ⟨#[]⟩, (⟨(⟨0, 0, 0, dz, 0⟩ : Head), 0, dz⟩ : Signed), (⟨0, 0, 0, 0, dz⟩ : Claim)⟩ : Entry)⟩ : Item)] 1 1 1 0).1)) rfl rfl rfl rfl (Zu (vs := #[Zbn ((Zab kk [(⟨1, (⟨1, 1, 1, ⟨#[]⟩, (⟨(⟨0, 0, 0, dz, 0⟩ : Head), 0, dz⟩ : Signed), (⟨0, 0, 0, 0, dz⟩ : Claim)⟩ : Entry)⟩ : Item)] 1 1 1 0).1), Iv ((Zab kk [(⟨1, (⟨1, 1, 1, ⟨#[]⟩, (⟨(⟨0, 0, 0, dz, 0⟩ : Head), 0, dz⟩ : Signed), (⟨0, 0, 0, 0, dz⟩ : Claim)⟩ : Entry)⟩ : Item)] 1 1 1 0).2)]) (v := Iv ((Zab kk [(⟨1, (⟨1, 1, 1, ⟨#[]⟩, (⟨(⟨0, 0, 0, dz, 0⟩ : Head), 0, dz⟩ : Signed), (⟨0, 0, 0, 0, dz⟩ : Claim)⟩ : Entry)⟩ : Item)] 1 1 1 0).2)) rfl rfl rfl rfl ?_))
  refine Z2 (b := bxB 36 (Zbf (⟨0, 0, 0, dz, 0⟩ : Head))) (nid := 2) (H' := [bxB 69 (Za (⟨(⟨0, 0, 0, dz, 0⟩ : Head), 0, dz⟩ : Signed)), rwB Zk [(⟨1, (⟨1, 1, 1, ⟨#[]⟩, (⟨(⟨0, 0, 0, dz, 0⟩ : Head), 0, dz⟩ : Signed), (⟨0, 0, 0, 0, dz⟩ : Claim)⟩ : Entry)⟩ : Item)], bxB 36 (Zbf (⟨0, 0, 0, dz, 0⟩ : Head)), hole]) rfl rfl (by kernel_rfl) (by kernel_rfl) ?_
  refine Zw (p := pt 2 0) (v := Zbn ((Zab kk [(⟨1, (⟨1, 1, 1, ⟨#[]⟩, (⟨(⟨0, 0, 0, dz, 0⟩ : Head), 0, dz⟩ : Signed), (⟨0, 0, 0, 0, dz⟩ : Claim)⟩ : Entry)⟩ : Item)] 1 1 1 0).1)) (b := 2) (blk := bxB 36 (Zbf ((Zab kk [(⟨1, (⟨1, 1, 1, ⟨#[]⟩, (⟨(⟨0, 0, 0, dz, 0⟩ : Head), 0, dz⟩ : Signed), (⟨0, 0, 0, 0, dz⟩ : Claim)⟩ : Entry)⟩ : Item)] 1 1 1 0).1))) (H' := [bxB 69 (Za (⟨(⟨0, 0, 0, dz, 0⟩ : Head), 0, dz⟩ : Signed)), rwB Zk [(⟨1, (⟨1, 1, 1, ⟨#[]⟩, (⟨(⟨0, 0, 0, dz, 0⟩ : Head), 0, dz⟩ : Signed), (⟨0, 0, 0, 0, dz⟩ : Claim)⟩ : Entry)⟩ : Item)], bxB 36 (Zbf ((Zab kk [(⟨1, (⟨1, 1, 1, ⟨#[]⟩, (⟨(⟨0, 0, 0, dz, 0⟩ : Head), 0, dz⟩ : Signed), (⟨0, 0, 0, 0, dz⟩ : Claim)⟩ : Entry)⟩ : Item)] 1 1 1 0).1)), hole]) rfl rfl rfl (by kernel_rfl) (by kernel_rfl) ?_
  refine Zd rfl rfl (Iv ((Zab kk [(⟨1, (⟨1, 1, 1, ⟨#[]⟩, (⟨(⟨0, 0, 0, dz, 0⟩ : Head), 0, dz⟩ : Signed), (⟨0, 0, 0, 0, dz⟩ : Claim)⟩ : Entry)⟩ : Item)] 1 1 1 0).2)) rfl (Zb (Zc (Zg (Zj ?_))))
  refine Za1 (vs := []) (v := dgV dz) rfl rfl rfl (by kernel_rfl) ?_
  refine Zp (p := pt 2 0) (v := Zbn ((Zab kk [(⟨1, (⟨1, 1, 1, ⟨#[]⟩, (⟨(⟨0, 0, 0, dz, 0⟩ : Head), 0, dz⟩ : Signed), (⟨0, 0, 0, 0, dz⟩ : Claim)⟩ : Entry)⟩ : Item)] 1 1 1 0).1)) rfl rfl rfl (by kernel_rfl) ?_
  refine Zt (Zt1 (G := G) kk hG dz ((Zab kk [(⟨1, (⟨1, 1, 1, ⟨#[]⟩, (⟨(⟨0, 0, 0, dz, 0⟩ : Head), 0, dz⟩ : Signed), (⟨0, 0, 0, 0, dz⟩ : Claim)⟩ : Entry)⟩ : Item)] 1 1 1 0).1) 1) (vals := [dgV dz, Zbn ((Zab kk [(⟨1, (⟨1, 1, 1, ⟨#[]⟩, (⟨(⟨0, 0, 0, dz, 0⟩ : Head), 0, dz⟩ : Signed), (⟨0, 0, 0, 0, dz⟩ : Claim)⟩ : Entry)⟩ : Item)] 1 1 1 0).1), Iv 1]) (res' := .tuple #[Zs ((Zaz kk dz ((Zab kk [(⟨1, (⟨1, 1, 1, ⟨#[]⟩, (⟨(⟨0, 0, 0, dz, 0⟩ : Head), 0, dz⟩ : Signed), (⟨0, 0, 0, 0, dz⟩ : Claim)⟩ : Entry)⟩ : Item)] 1 1 1 0).1) 1).1), Iv ((Zaz kk dz ((Zab kk [(⟨1, (⟨1, 1, 1, ⟨#[]⟩, (⟨(⟨0, 0, 0, dz, 0⟩ : Head), 0, dz⟩ : Signed), (⟨0, 0, 0, 0, dz⟩ : Claim)⟩ : Entry)⟩ : Item)] 1 1 1 0).1) 1).2)]) rfl rfl rfl rfl rfl (by kernel_rfl) ?_
  refine Zf rfl rfl (.tuple #[Zs ((Zaz kk dz ((Zab kk [(⟨1, (⟨1, 1, 1, ⟨#[]⟩, (⟨(⟨0, 0, 0, dz, 0⟩ : Head), 0, dz⟩ : Signed), (⟨0, 0, 0, 0, dz⟩ : Claim)⟩ : Entry)⟩ : Item)] 1 1 1 0).1) 1).1), Iv ((Zaz kk dz ((Zab kk [(⟨1, (⟨1, 1, 1, ⟨#[]⟩, (⟨(⟨0, 0, 0, dz, 0⟩ : Head), 0, dz⟩ : Signed), (⟨0, 0, 0, 0, dz⟩ : Claim)⟩ : Entry)⟩ : Item)] 1 1 1 0).1) 1).2)]) rfl (Zu (vs := #[Zs ((Zaz kk dz ((Zab kk [(⟨1, (⟨1, 1, 1, ⟨#[]⟩, (⟨(⟨0, 0, 0, dz, 0⟩ : Head), 0, dz⟩ : Signed), (⟨0, 0, 0, 0, dz⟩ : Claim)⟩ : Entry)⟩ : Item)] 1 1 1 0).1) 1).1), Iv ((Zaz kk dz ((Zab kk [(⟨1, (⟨1, 1, 1, ⟨#[]⟩, (⟨(⟨0, 0, 0, dz, 0⟩ : Head), 0, dz⟩ : Signed), (⟨0, 0, 0, 0, dz⟩ : Claim)⟩ : Entry)⟩ : Item)] 1 1 1 0).1) 1).2)]) (v := Zs ((Zaz kk dz ((Zab kk [(⟨1, (⟨1, 1, 1, ⟨#[]⟩, (⟨(⟨0, 0, 0, dz, 0⟩ : Head), 0, dz⟩ : Signed), (⟨0, 0, 0, 0, dz⟩ : Claim)⟩ : Entry)⟩ : Item)] 1 1 1 0).1) 1).1)) rfl rfl rfl rfl (Zu (vs := #[Zs ((Zaz kk dz ((Zab kk [(⟨1, (⟨1, 1, 1, ⟨#[]⟩, (⟨(⟨0, 0, 0, dz, 0⟩ : Head), 0, dz⟩ : Signed), (⟨0, 0, 0, 0, dz⟩ : Claim)⟩ : Entry)⟩ : Item)] 1 1 1 0).1) 1).1), Iv ((Zaz kk dz ((Zab kk [(⟨1, (⟨1, 1, 1, ⟨#[]⟩, (⟨(⟨0, 0, 0, dz, 0⟩ : Head), 0, dz⟩ : Signed), (⟨0, 0, 0, 0, dz⟩ : Claim)⟩ : Entry)⟩ : Item)] 1 1 1 0).1) 1).2)]) (v := Iv ((Zaz kk dz ((Zab kk [(⟨1, (⟨1, 1, 1, ⟨#[]⟩, (⟨(⟨0, 0, 0, dz, 0⟩ : Head), 0, dz⟩ : Signed), (⟨0, 0, 0, 0, dz⟩ : Claim)⟩ : Entry)⟩ : Item)] 1 1 1 0).1) 1).2)) rfl rfl rfl rfl ?_))
  refine Z2 (b := bxB 69 (Za (⟨(⟨0, 0, 0, dz, 0⟩ : Head), 0, dz⟩ : Signed))) (nid := 3) (H' := [bxB 69 (Za (⟨(⟨0, 0, 0, dz, 0⟩ : Head), 0, dz⟩ : Signed)), rwB Zk [(⟨1, (⟨1, 1, 1, ⟨#[]⟩, (⟨(⟨0, 0, 0, dz, 0⟩ : Head), 0, dz⟩ : Signed), (⟨0, 0, 0, 0, dz⟩ : Claim)⟩ : Entry)⟩ : Item)], bxB 36 (Zbf ((Zab kk [(⟨1, (⟨1, 1, 1, ⟨#[]⟩, (⟨(⟨0, 0, 0, dz, 0⟩ : Head), 0, dz⟩ : Signed), (⟨0, 0, 0, 0, dz⟩ : Claim)⟩ : Entry)⟩ : Item)] 1 1 1 0).1)), bxB 69 (Za (⟨(⟨0, 0, 0, dz, 0⟩ : Head), 0, dz⟩ : Signed))]) rfl rfl (by kernel_rfl) (by kernel_rfl) ?_
  refine Zw (p := pt 3 0) (v := Zs ((Zaz kk dz ((Zab kk [(⟨1, (⟨1, 1, 1, ⟨#[]⟩, (⟨(⟨0, 0, 0, dz, 0⟩ : Head), 0, dz⟩ : Signed), (⟨0, 0, 0, 0, dz⟩ : Claim)⟩ : Entry)⟩ : Item)] 1 1 1 0).1) 1).1)) (b := 3) (blk := bxB 69 (Za ((Zaz kk dz ((Zab kk [(⟨1, (⟨1, 1, 1, ⟨#[]⟩, (⟨(⟨0, 0, 0, dz, 0⟩ : Head), 0, dz⟩ : Signed), (⟨0, 0, 0, 0, dz⟩ : Claim)⟩ : Entry)⟩ : Item)] 1 1 1 0).1) 1).1))) (H' := [bxB 69 (Za (⟨(⟨0, 0, 0, dz, 0⟩ : Head), 0, dz⟩ : Signed)), rwB Zk [(⟨1, (⟨1, 1, 1, ⟨#[]⟩, (⟨(⟨0, 0, 0, dz, 0⟩ : Head), 0, dz⟩ : Signed), (⟨0, 0, 0, 0, dz⟩ : Claim)⟩ : Entry)⟩ : Item)], bxB 36 (Zbf ((Zab kk [(⟨1, (⟨1, 1, 1, ⟨#[]⟩, (⟨(⟨0, 0, 0, dz, 0⟩ : Head), 0, dz⟩ : Signed), (⟨0, 0, 0, 0, dz⟩ : Claim)⟩ : Entry)⟩ : Item)] 1 1 1 0).1)), bxB 69 (Za ((Zaz kk dz ((Zab kk [(⟨1, (⟨1, 1, 1, ⟨#[]⟩, (⟨(⟨0, 0, 0, dz, 0⟩ : Head), 0, dz⟩ : Signed), (⟨0, 0, 0, 0, dz⟩ : Claim)⟩ : Entry)⟩ : Item)] 1 1 1 0).1) 1).1))]) rfl rfl rfl (by kernel_rfl) (by kernel_rfl) ?_
  refine Zd rfl rfl (Iv ((Zaz kk dz ((Zab kk [(⟨1, (⟨1, 1, 1, ⟨#[]⟩, (⟨(⟨0, 0, 0, dz, 0⟩ : Head), 0, dz⟩ : Signed), (⟨0, 0, 0, 0, dz⟩ : Claim)⟩ : Entry)⟩ : Item)] 1 1 1 0).1) 1).2)) rfl (Zb (Zc (Zg ?_)))
  refine Zd9 (by kernel_rfl) ?_
  refine Zf rfl rfl (slv 1 0 1 1) rfl ?_
  refine Zp (p := pt 3 0) (v := Zs ((Zaz kk dz ((Zab kk [(⟨1, (⟨1, 1, 1, ⟨#[]⟩, (⟨(⟨0, 0, 0, dz, 0⟩ : Head), 0, dz⟩ : Signed), (⟨0, 0, 0, 0, dz⟩ : Claim)⟩ : Entry)⟩ : Item)] 1 1 1 0).1) 1).1)) rfl rfl rfl (by kernel_rfl) ?_
  refine Zd rfl rfl (slv 1 0 1 1) rfl ?_
  refine Zw (p := pt 0 0) (v := Zs ((Zaz kk dz ((Zab kk [(⟨1, (⟨1, 1, 1, ⟨#[]⟩, (⟨(⟨0, 0, 0, dz, 0⟩ : Head), 0, dz⟩ : Signed), (⟨0, 0, 0, 0, dz⟩ : Claim)⟩ : Entry)⟩ : Item)] 1 1 1 0).1) 1).1)) (b := 0) (blk := bxB 69 (Za ((Zaz kk dz ((Zab kk [(⟨1, (⟨1, 1, 1, ⟨#[]⟩, (⟨(⟨0, 0, 0, dz, 0⟩ : Head), 0, dz⟩ : Signed), (⟨0, 0, 0, 0, dz⟩ : Claim)⟩ : Entry)⟩ : Item)] 1 1 1 0).1) 1).1))) (H' := [bxB 69 (Za ((Zaz kk dz ((Zab kk [(⟨1, (⟨1, 1, 1, ⟨#[]⟩, (⟨(⟨0, 0, 0, dz, 0⟩ : Head), 0, dz⟩ : Signed), (⟨0, 0, 0, 0, dz⟩ : Claim)⟩ : Entry)⟩ : Item)] 1 1 1 0).1) 1).1)), rwB Zk [(⟨1, (⟨1, 1, 1, ⟨#[]⟩, (⟨(⟨0, 0, 0, dz, 0⟩ : Head), 0, dz⟩ : Signed), (⟨0, 0, 0, 0, dz⟩ : Claim)⟩ : Entry)⟩ : Item)], bxB 36 (Zbf ((Zab kk [(⟨1, (⟨1, 1, 1, ⟨#[]⟩, (⟨(⟨0, 0, 0, dz, 0⟩ : Head), 0, dz⟩ : Signed), (⟨0, 0, 0, 0, dz⟩ : Claim)⟩ : Entry)⟩ : Item)] 1 1 1 0).1)), bxB 69 (Za ((Zaz kk dz ((Zab kk [(⟨1, (⟨1, 1, 1, ⟨#[]⟩, (⟨(⟨0, 0, 0, dz, 0⟩ : Head), 0, dz⟩ : Signed), (⟨0, 0, 0, 0, dz⟩ : Claim)⟩ : Entry)⟩ : Item)] 1 1 1 0).1) 1).1))]) rfl rfl rfl (by kernel_rfl) (by kernel_rfl) ?_
  refine Zc3 (Zgl [[], [], [0], [0, 1, 2]] (by kernel_rfl) (by kernel_rfl)) ?_
  refine Zc (Zx (Zy ?_))
  exact Za2 [1] (v := .tuple #[slv 1 0 1 1, Zs ((Zaz kk dz ((Zab kk [(⟨1, (⟨1, 1, 1, ⟨#[]⟩, (⟨(⟨0, 0, 0, dz, 0⟩ : Head), 0, dz⟩ : Signed), (⟨0, 0, 0, 0, dz⟩ : Claim)⟩ : Entry)⟩ : Item)] 1 1 1 0).1) 1).1)]) (by kernel_rfl) (by kernel_rfl) rfl rfl (by decide) (by simp [Za8, rwB, Zk]) ⟨⟨rfl, rfl, rfl, by first | omega | exact Nat.le_refl _ | exact Nat.zero_le _ | (dsimp only; omega), by first | omega | exact Nat.le_refl _ | exact Nat.zero_le _ | (dsimp only; omega)⟩, (Zgo (by kernel_rfl) rfl), trivial⟩
end Go.Flat
