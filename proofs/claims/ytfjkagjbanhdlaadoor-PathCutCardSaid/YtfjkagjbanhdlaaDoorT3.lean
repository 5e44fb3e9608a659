/- Walks. -/
import Derived.Test.YtfjkagjbanhdlaaDoorFlatK
import Derived.Test.YtfjkagjbanhdlaaDoorR4P
set_option linter.unusedVariables false
set_option linter.unusedSimpArgs false
set_option maxRecDepth 20000
namespace Go.Flat
open Go.Proofs
variable {G : Glob}
def uP : Item := (⟨1, (⟨1, 1, 1, ⟨#[]⟩, (⟨(⟨0, 0, 0, dz, 0⟩ : Head), 0, dz⟩ : Signed), (⟨0, 0, 0, 0, dz⟩ : Claim)⟩ : Entry)⟩ : Item)
noncomputable def sP (kk : Nat → BitVec 32) : Signed := (Zb3 kk dz (Zaz kk [uP] 1 1 1 0).1 1).1
section
variable {kk : Nat → BitVec 32} {master : D} {l : List Item} {n region epoch node i tick : Int}
theorem Zok {h : Head} (e : (Zb3 kk master h node).2 = 0) : Zgd h ∧ (1 ≤ node ∧ node ≤ 3) := by
 unfold Zb3 at e
 split at e
 ·assumption
 ·exact absurd e (by decide)
theorem Zvv {h : Head} (e : (Zb3 kk master h node).2 = 0) : Zcd kk master (Zb3 kk master h node).1 = 0 := by
 have q := Zok e
 rw [show Zb3 kk master h node = (⟨h, node, Z0e kk master h node⟩, 0) from if_pos q]
 unfold Zcd
 rw [if_pos (show Zkd ⟨h, node, Z0e kk master h node⟩ from q), if_pos (Zlz _ _)]
theorem Zjg (e : (Zaz kk l n region epoch tick).2 = 0) : (Zac kk l n).2 = 0 ∧ (Zaz kk l n region epoch tick).1 = ⟨region, epoch, n, (Zac kk l n).1, tick⟩ := by
 unfold Zaz at e ⊢
 split at e
 ·rename_i h1
  split at e
  ·rename_i h2
   rw [if_pos h1, if_pos h2]; exact ⟨h1, rfl⟩
  ·exact absurd e (by decide)
 ·rename_i h1; exact absurd e h1
theorem Zuh (h : (Zac kk l n).2 = 0) : (Zae kk l n).2 = 0 ∧ 0 ≤ n ∧ n ≤ l.length ∧ (Zae kk l n).1.length = n.toNat := by
 have h0 : (Zae kk l n).2 = 0 := by
  unfold Zac at h
  split at h
  ·assumption
  ·rename_i q; exact absurd h q
 obtain ⟨g1, g2, g3, g4⟩ := Zyi h0
 exact ⟨h0, g2, g3, by rw [g4]; exact Zfk _ _ _⟩
theorem Zsu (e1 : (Zaz kk l n region epoch tick).2 = 0) (e2 : (Zb3 kk master (Zaz kk l n region epoch tick).1 node).2 = 0) :
  (Zb3 kk master (Zaz kk l n region epoch tick).1 node).1.head = ⟨region, epoch, n, (Zac kk l n).1, tick⟩ ∧ Zkd (Zb3 kk master (Zaz kk l n region epoch tick).1 node).1 := by
 have q := Zok e2
 rw [show Zb3 kk master (Zaz kk l n region epoch tick).1 node = (⟨(Zaz kk l n region epoch tick).1, node, Z0e kk master (Zaz kk l n region epoch tick).1 node⟩, 0) from if_pos q]
 exact ⟨(Zjg e1).2, q⟩
theorem Zua (e1 : (Zaz kk l n region epoch tick).2 = 0) (e2 : (Zb3 kk master (Zaz kk l n region epoch tick).1 node).2 = 0) (hi : 0 ≤ i ∧ i < n) :
  i < l.length ∧ Zew kk l i (Zb3 kk master (Zaz kk l n region epoch tick).1 node).1 = (⟨i, l.getD i.toNat default, (Zah kk l (Zb3 kk master (Zaz kk l n region epoch tick).1 node).1.head.size i).1, (Zb3 kk master (Zaz kk l n region epoch tick).1 node).1⟩, 0) ∧
  Ze5 kk master [⟨i, l.getD i.toNat default, (Zah kk l (Zb3 kk master (Zaz kk l n region epoch tick).1 node).1.head.size i).1, (Zb3 kk master (Zaz kk l n region epoch tick).1 node).1⟩] = 0 := by
 obtain ⟨hs, hm⟩ := Zsu e1 e2
 have hv := Zvv e2
 have hr := (Zjg e1).1
 obtain ⟨f0, f1, f2, f3⟩ := Zuh hr
 have hin : (Zah kk l n i).2 = 0 := by unfold Zah; rw [if_pos f0, if_pos ⟨hi.1, by rw [f3]; omega⟩]
 obtain ⟨g1, g2, g3, g4, g5⟩ := Z1h hin
 generalize (Zb3 kk master (Zaz kk l n region epoch tick).1 node).1 = s at hs hm hv ⊢
 rw [hs]
 refine ⟨g2, ?_, ?_⟩
 ·have := Z18 (kk := kk) (l := l) (i := i) (s := s) (by rw [hs]; exact hr) hm (by rw [hs]; exact Zlz _ _) (by rw [hs]; exact hin)
  rw [hs] at this; exact this
 ·rw [Zp9, Zy1 hv g4]
  show Zhk kk s.head.root _ s.head.size i _ = 0
  rw [hs]; exact g5
theorem Z1i (e1 : (Zaz kk l n region epoch tick).2 = 0) (e2 : (Zb3 kk master (Zaz kk l n region epoch tick).1 node).2 = 0) (hi : i < 0 ∨ n ≤ i) : Zew kk l i (Zb3 kk master (Zaz kk l n region epoch tick).1 node).1 = ((⟨0, (⟨0, (⟨0, 0, 0, ⟨#[]⟩, (⟨(⟨0, 0, 0, dz, 0⟩ : Head), 0, dz⟩ : Signed), (⟨0, 0, 0, 0, dz⟩ : Claim)⟩ : Entry)⟩ : Item), [], (⟨(⟨0, 0, 0, dz, 0⟩ : Head), 0, dz⟩ : Signed)⟩ : PStep), 131) := by
 obtain ⟨hs, hm⟩ := Zsu e1 e2
 have hr := (Zjg e1).1
 obtain ⟨f0, f1, f2, f3⟩ := Zuh hr
 generalize (Zb3 kk master (Zaz kk l n region epoch tick).1 node).1 = s at hs hm ⊢
 refine Zp5 (by rw [hs]; exact hr) hm (by rw [hs]; exact Zlz _ _) ?_
 rw [hs]
 show ¬ (Zah kk l n i).2 = 0
 rw [show Zah kk l n i = ([], 20) from by unfold Zah; rw [if_pos f0, if_neg (fun q => by rw [f3] at q; omega)]]
 show ¬ (20 : Int) = 0
 decide
end
theorem Z27 : Zin [uP] := by
 have : decide (Zin [uP]) = true := by kernel_rfl
 exact of_decide_eq_true this
theorem Znh (kk : Nat → BitVec 32) : (Zaz kk [uP] 1 1 1 0).2 = 0 := by
 have h0 : Zae kk [uP] 1 = (acL kk [uP] 1, 0) := by unfold Zae; rw [if_pos Z27, if_pos ⟨by decide, by decide⟩]; rfl
 have h1 : Zac kk [uP] 1 = (Zcf kk (Zae kk [uP] 1).1, 0) := by unfold Zac; rw [if_pos (by rw [h0])]
 unfold Zaz
 rw [if_pos (by rw [h1])]
 have hc : Za7 ⟨1, 1, 1, (Zac kk [uP] 1).1, 0⟩ = 0 := by rw [Zf7, if_pos]; unfold Zgd; dsimp only; omega
 rw [if_pos hc]
theorem Zo3 (kk : Nat → BitVec 32) : (Zb3 kk dz (Zaz kk [uP] 1 1 1 0).1 1).2 = 0 := by
 unfold Zb3
 rw [if_pos]
 refine ⟨?_, by decide, by decide⟩
 rw [(Zjg (Znh kk)).2]; unfold Zgd; dsimp only; omega
theorem Z4p (kk : Nat → BitVec 32) : Zew kk [uP] 0 (sP kk) = (⟨0, uP, (Zah kk [uP] (sP kk).head.size 0).1, sP kk⟩, 0) := (Zua (i := 0) (Znh kk) (Zo3 kk) ⟨by decide, by decide⟩).2.1
theorem Z4q (kk : Nat → BitVec 32) : Zew kk [uP] 1 (sP kk) = ((⟨0, (⟨0, (⟨0, 0, 0, ⟨#[]⟩, (⟨(⟨0, 0, 0, dz, 0⟩ : Head), 0, dz⟩ : Signed), (⟨0, 0, 0, 0, dz⟩ : Claim)⟩ : Entry)⟩ : Item), [], (⟨(⟨0, 0, 0, dz, 0⟩ : Head), 0, dz⟩ : Signed)⟩ : PStep), 131) := Z1i (Znh kk) (Zo3 kk) (.inr (by decide))
theorem Zux (kk : Nat → BitVec 32) : Ze5 kk dz [⟨0, uP, (Zah kk [uP] (sP kk).head.size 0).1, sP kk⟩] = 0 := (Zua (i := 0) (Znh kk) (Zo3 kk) ⟨by decide, by decide⟩).2.2
theorem Z2h (kk : Nat → BitVec 32) : Ze5 kk dz [⟨0, uP, (Zah kk [uP] (sP kk).head.size 0).1, sP kk⟩, ⟨0, uP, (Zah kk [uP] (sP kk).head.size 0).1, sP kk⟩] = 130 := by
 have h := Zux kk
 rw [Zp9] at h
 exact Zk3 h h (by kernel_rfl)
theorem Zs7 (kk : Nat → BitVec 32) : (sP kk).head.size = 1 := by
 have := (Zsu (Znh kk) (Zo3 kk)).1
 show (Zb3 kk dz (Zaz kk [uP] 1 1 1 0).1 1).1.head.size = 1
 rw [this]
theorem Zzx (kk : Nat → BitVec 32) : Zew kk [] 0 (sP kk) = ((⟨0, (⟨0, (⟨0, 0, 0, ⟨#[]⟩, (⟨(⟨0, 0, 0, dz, 0⟩ : Head), 0, dz⟩ : Signed), (⟨0, 0, 0, 0, dz⟩ : Claim)⟩ : Entry)⟩ : Item), [], (⟨(⟨0, 0, 0, dz, 0⟩ : Head), 0, dz⟩ : Signed)⟩ : PStep), 130) := by
 refine Zp4 (.inl ?_)
 rw [Zs7]
 have h0 : Zae kk [] 1 = ([], 21) := by
  unfold Zae
  rw [if_pos (show Zin [] from ⟨by decide, rfl⟩), if_neg (by decide)]
 unfold Zac
 rw [if_neg (by rw [h0]; show ¬ (21 : Int) = 0; decide), h0]
 show ¬ (21 : Int) = 0
 decide
theorem Zsb {G : Glob} (kk : Nat → BitVec 32) (hG : G 0 = some (Z6 w32 64 kk)) (hG1 : G 2 = some (Z6 u8N 64 dbF)) (l : List Item) (n c : Nat) (hn : l.length = n) (hc : n ≤ c) (hb : n ≤ 1048576) (i : Int) (s : Signed) {x : PStep × Int} (hx : Zew kk l i s = x) : Z9 Tryd.prog G 11 [slv 0 0 n c, Iv i, Zw s] [rwR Zx l] (.tuple #[mxV ([Iv x.1.index] ++ (Zr x.1.item ++ ([slv 1 0 x.1.proof.length x.1.proof.length] ++ (Zh x.1.head)))), Iv x.2]) [rwR Zx l, dsB x.1.proof] := by
 subst hx; exact Z3k kk hG hG1 l n c hn hc hb i s
abbrev Y17  : Blk := bxB 69 (Zh (⟨(⟨0, 0, 0, dz, 0⟩ : Head), 0, dz⟩ : Signed))
abbrev Y18  : Blk := rwB Zx [(⟨1, (⟨1, 1, 1, ⟨#[]⟩, (⟨(⟨0, 0, 0, dz, 0⟩ : Head), 0, dz⟩ : Signed), (⟨0, 0, 0, 0, dz⟩ : Claim)⟩ : Entry)⟩ : Item)]
abbrev Y19 (kk : Nat → BitVec 32) : Blk := bxB 36 (Zcq ((Zaz kk [(⟨1, (⟨1, 1, 1, ⟨#[]⟩, (⟨(⟨0, 0, 0, dz, 0⟩ : Head), 0, dz⟩ : Signed), (⟨0, 0, 0, 0, dz⟩ : Claim)⟩ : Entry)⟩ : Item)] 1 1 1 0).1))
abbrev Y20 (kk : Nat → BitVec 32) : Blk := bxB 69 (Zh ((Zb3 kk dz ((Zaz kk [(⟨1, (⟨1, 1, 1, ⟨#[]⟩, (⟨(⟨0, 0, 0, dz, 0⟩ : Head), 0, dz⟩ : Signed), (⟨0, 0, 0, 0, dz⟩ : Claim)⟩ : Entry)⟩ : Item)] 1 1 1 0).1) 1).1))
theorem Z4n (kk : Nat → BitVec 32) (hG : G 0 = some (Z6 w32 64 kk)) (hG1 : G 2 = some (Z6 u8N 64 dbF))  : Z9 Tryd.prog G 26 [] [] (.tuple #[slv 0 0 1 1, Zw (sP kk)]) [rwB Zx [uP]] := by
  refine Zbu (fn := Tryd.f26) (nt := 23) rfl rfl rfl rfl ?_
  refine Zaj 4 (H' := [hole, hole, hole, hole]) rfl ?_
  refine Ze (Zf (Zb (.slice none 0 0) (Zai (b := bxB 69 (Zh (⟨(⟨0, 0, 0, dz, 0⟩ : Head), 0, dz⟩ : Signed))) (nid := 0) (H' := [Y17, hole, hole, hole]) (Za (Zc (Ze (Zf ?_)))))))
  refine Zbm (vs := [(0, Iv 1), (1, Iv 1), (2, Iv 1)]) (v := Zcy (⟨1, 1, 1, ⟨#[]⟩, (⟨(⟨0, 0, 0, dz, 0⟩ : Head), 0, dz⟩ : Signed), (⟨0, 0, 0, 0, dz⟩ : Claim)⟩ : Entry)) rfl rfl rfl (by kernel_rfl) ?_
  refine Zbm (vs := [(0, Iv 1), (1, Zcy (⟨1, 1, 1, ⟨#[]⟩, (⟨(⟨0, 0, 0, dz, 0⟩ : Head), 0, dz⟩ : Signed), (⟨0, 0, 0, 0, dz⟩ : Claim)⟩ : Entry))]) (v := Zbq (⟨1, (⟨1, 1, 1, ⟨#[]⟩, (⟨(⟨0, 0, 0, dz, 0⟩ : Head), 0, dz⟩ : Signed), (⟨0, 0, 0, 0, dz⟩ : Claim)⟩ : Entry)⟩ : Item)) rfl rfl rfl (by kernel_rfl) ?_
  refine Zel (vs := [(0, Zbq (⟨1, (⟨1, 1, 1, ⟨#[]⟩, (⟨(⟨0, 0, 0, dz, 0⟩ : Head), 0, dz⟩ : Signed), (⟨0, 0, 0, 0, dz⟩ : Claim)⟩ : Entry)⟩ : Item))]) (v := slv 1 0 1 1) (blk := rwB Zx [(⟨1, (⟨1, 1, 1, ⟨#[]⟩, (⟨(⟨0, 0, 0, dz, 0⟩ : Head), 0, dz⟩ : Signed), (⟨0, 0, 0, 0, dz⟩ : Claim)⟩ : Entry)⟩ : Item)]) (nid := 1) (H' := [Y17, Y18, hole, hole]) rfl rfl rfl (by kernel_rfl) (by kernel_rfl) ?_
  refine Zb (slv 1 0 1 1) (Za (Zc (Ze (Zf (Zd (slv 1 0 1 1) ?_)))))
  refine Zab (e := [some (1, 0)]) (nid := 0) (Z0j (G := G) kk hG hG1 [(⟨1, (⟨1, 1, 1, ⟨#[]⟩, (⟨(⟨0, 0, 0, dz, 0⟩ : Head), 0, dz⟩ : Signed), (⟨0, 0, 0, 0, dz⟩ : Claim)⟩ : Entry)⟩ : Item)] 1 1 (rfl : _ = 1) (by omega) (by omega) 1 1 1 0) (vals := [slv 1 0 1 1, Iv 1, Iv 1, Iv 1, Iv 0]) (v := .tuple #[Zb2 ((Zaz kk [(⟨1, (⟨1, 1, 1, ⟨#[]⟩, (⟨(⟨0, 0, 0, dz, 0⟩ : Head), 0, dz⟩ : Signed), (⟨0, 0, 0, 0, dz⟩ : Claim)⟩ : Entry)⟩ : Item)] 1 1 1 0).1), Iv ((Zaz kk [(⟨1, (⟨1, 1, 1, ⟨#[]⟩, (⟨(⟨0, 0, 0, dz, 0⟩ : Head), 0, dz⟩ : Signed), (⟨0, 0, 0, 0, dz⟩ : Claim)⟩ : Entry)⟩ : Item)] 1 1 1 0).2)]) (H' := [Y17, Y18, hole, hole]) rfl rfl rfl rfl rfl rfl rfl ⟨⟨⟨rfl, rfl, rfl, by first | omega | exact Nat.le_refl _, by first | omega | exact Nat.le_refl _⟩, rfl, rfl, rfl, rfl, trivial⟩, ⟨(Zg2 rfl), trivial⟩, rfl, rfl, rfl⟩ (by kernel_rfl) (by kernel_rfl) ?_
  refine Zd (.tuple #[Zb2 ((Zaz kk [(⟨1, (⟨1, 1, 1, ⟨#[]⟩, (⟨(⟨0, 0, 0, dz, 0⟩ : Head), 0, dz⟩ : Signed), (⟨0, 0, 0, 0, dz⟩ : Claim)⟩ : Entry)⟩ : Item)] 1 1 1 0).1), Iv ((Zaz kk [(⟨1, (⟨1, 1, 1, ⟨#[]⟩, (⟨(⟨0, 0, 0, dz, 0⟩ : Head), 0, dz⟩ : Signed), (⟨0, 0, 0, 0, dz⟩ : Claim)⟩ : Entry)⟩ : Item)] 1 1 1 0).2)]) (Zq (vs := #[Zb2 ((Zaz kk [(⟨1, (⟨1, 1, 1, ⟨#[]⟩, (⟨(⟨0, 0, 0, dz, 0⟩ : Head), 0, dz⟩ : Signed), (⟨0, 0, 0, 0, dz⟩ : Claim)⟩ : Entry)⟩ : Item)] 1 1 1 0).1), Iv ((Zaz kk [(⟨1, (⟨1, 1, 1, ⟨#[]⟩, (⟨(⟨0, 0, 0, dz, 0⟩ : Head), 0, dz⟩ : Signed), (⟨0, 0, 0, 0, dz⟩ : Claim)⟩ : Entry)⟩ : Item)] 1 1 1 0).2)]) (v := Zb2 ((Zaz kk [(⟨1, (⟨1, 1, 1, ⟨#[]⟩, (⟨(⟨0, 0, 0, dz, 0⟩ : Head), 0, dz⟩ : Signed), (⟨0, 0, 0, 0, dz⟩ : Claim)⟩ : Entry)⟩ : Item)] 1 1 1 0).1)) (Zq (vs := #[Zb2 ((Zaz kk [(⟨1, (⟨1, 1, 1, ⟨#[]⟩, (⟨(⟨0, 0, 0, dz, 0⟩ : Head), 0, dz⟩ : Signed), (⟨0, 0, 0, 0, dz⟩ : Claim)⟩ : Entry)⟩ : Item)] 1 1 1 0).1), Iv ((Zaz kk [(⟨1, (⟨1, 1, 1, ⟨#[]⟩, (⟨(⟨0, 0, 0, dz, 0⟩ : Head), 0, dz⟩ : Signed), (⟨0, 0, 0, 0, dz⟩ : Claim)⟩ : Entry)⟩ : Item)] 1 1 1 0).2)]) (v := Iv ((Zaz kk [(⟨1, (⟨1, 1, 1, ⟨#[]⟩, (⟨(⟨0, 0, 0, dz, 0⟩ : Head), 0, dz⟩ : Signed), (⟨0, 0, 0, 0, dz⟩ : Claim)⟩ : Entry)⟩ : Item)] 1 1 1 0).2)) (Zai (b := bxB 36 (Zcq (⟨0, 0, 0, dz, 0⟩ : Head))) (nid := 2) (H' := [Y17, Y18, bxB 36 (Zcq (⟨0, 0, 0, dz, 0⟩ : Head)), hole]) (Z2 (p := pt 2 0) (v := Zb2 ((Zaz kk [(⟨1, (⟨1, 1, 1, ⟨#[]⟩, (⟨(⟨0, 0, 0, dz, 0⟩ : Head), 0, dz⟩ : Signed), (⟨0, 0, 0, 0, dz⟩ : Claim)⟩ : Entry)⟩ : Item)] 1 1 1 0).1)) (b := 2) (blk := bxB 36 (Zcq ((Zaz kk [(⟨1, (⟨1, 1, 1, ⟨#[]⟩, (⟨(⟨0, 0, 0, dz, 0⟩ : Head), 0, dz⟩ : Signed), (⟨0, 0, 0, 0, dz⟩ : Claim)⟩ : Entry)⟩ : Item)] 1 1 1 0).1))) (H' := [Y17, Y18, Y19 kk, hole]) (Zb (Iv ((Zaz kk [(⟨1, (⟨1, 1, 1, ⟨#[]⟩, (⟨(⟨0, 0, 0, dz, 0⟩ : Head), 0, dz⟩ : Signed), (⟨0, 0, 0, 0, dz⟩ : Claim)⟩ : Entry)⟩ : Item)] 1 1 1 0).2)) (Za (Zc (Ze (Zf ?_)))))))))
  refine Zbm (vs := []) (v := dgV dz) rfl rfl rfl (by kernel_rfl) ?_
  refine Zn (p := pt 2 0) (v := Zb2 ((Zaz kk [(⟨1, (⟨1, 1, 1, ⟨#[]⟩, (⟨(⟨0, 0, 0, dz, 0⟩ : Head), 0, dz⟩ : Signed), (⟨0, 0, 0, 0, dz⟩ : Claim)⟩ : Entry)⟩ : Item)] 1 1 1 0).1)) ?_
  refine Zp (Z0r (G := G) kk hG dz ((Zaz kk [(⟨1, (⟨1, 1, 1, ⟨#[]⟩, (⟨(⟨0, 0, 0, dz, 0⟩ : Head), 0, dz⟩ : Signed), (⟨0, 0, 0, 0, dz⟩ : Claim)⟩ : Entry)⟩ : Item)] 1 1 1 0).1) 1) (vals := [dgV dz, Zb2 ((Zaz kk [(⟨1, (⟨1, 1, 1, ⟨#[]⟩, (⟨(⟨0, 0, 0, dz, 0⟩ : Head), 0, dz⟩ : Signed), (⟨0, 0, 0, 0, dz⟩ : Claim)⟩ : Entry)⟩ : Item)] 1 1 1 0).1), Iv 1]) (res' := .tuple #[Zw ((Zb3 kk dz ((Zaz kk [(⟨1, (⟨1, 1, 1, ⟨#[]⟩, (⟨(⟨0, 0, 0, dz, 0⟩ : Head), 0, dz⟩ : Signed), (⟨0, 0, 0, 0, dz⟩ : Claim)⟩ : Entry)⟩ : Item)] 1 1 1 0).1) 1).1), Iv ((Zb3 kk dz ((Zaz kk [(⟨1, (⟨1, 1, 1, ⟨#[]⟩, (⟨(⟨0, 0, 0, dz, 0⟩ : Head), 0, dz⟩ : Signed), (⟨0, 0, 0, 0, dz⟩ : Claim)⟩ : Entry)⟩ : Item)] 1 1 1 0).1) 1).2)]) rfl rfl rfl rfl rfl (by kernel_rfl) ?_
  refine Zd (.tuple #[Zw ((Zb3 kk dz ((Zaz kk [(⟨1, (⟨1, 1, 1, ⟨#[]⟩, (⟨(⟨0, 0, 0, dz, 0⟩ : Head), 0, dz⟩ : Signed), (⟨0, 0, 0, 0, dz⟩ : Claim)⟩ : Entry)⟩ : Item)] 1 1 1 0).1) 1).1), Iv ((Zb3 kk dz ((Zaz kk [(⟨1, (⟨1, 1, 1, ⟨#[]⟩, (⟨(⟨0, 0, 0, dz, 0⟩ : Head), 0, dz⟩ : Signed), (⟨0, 0, 0, 0, dz⟩ : Claim)⟩ : Entry)⟩ : Item)] 1 1 1 0).1) 1).2)]) (Zq (vs := #[Zw ((Zb3 kk dz ((Zaz kk [(⟨1, (⟨1, 1, 1, ⟨#[]⟩, (⟨(⟨0, 0, 0, dz, 0⟩ : Head), 0, dz⟩ : Signed), (⟨0, 0, 0, 0, dz⟩ : Claim)⟩ : Entry)⟩ : Item)] 1 1 1 0).1) 1).1), Iv ((Zb3 kk dz ((Zaz kk [(⟨1, (⟨1, 1, 1, ⟨#[]⟩, (⟨(⟨0, 0, 0, dz, 0⟩ : Head), 0, dz⟩ : Signed), (⟨0, 0, 0, 0, dz⟩ : Claim)⟩ : Entry)⟩ : Item)] 1 1 1 0).1) 1).2)]) (v := Zw ((Zb3 kk dz ((Zaz kk [(⟨1, (⟨1, 1, 1, ⟨#[]⟩, (⟨(⟨0, 0, 0, dz, 0⟩ : Head), 0, dz⟩ : Signed), (⟨0, 0, 0, 0, dz⟩ : Claim)⟩ : Entry)⟩ : Item)] 1 1 1 0).1) 1).1)) (Zq (vs := #[Zw ((Zb3 kk dz ((Zaz kk [(⟨1, (⟨1, 1, 1, ⟨#[]⟩, (⟨(⟨0, 0, 0, dz, 0⟩ : Head), 0, dz⟩ : Signed), (⟨0, 0, 0, 0, dz⟩ : Claim)⟩ : Entry)⟩ : Item)] 1 1 1 0).1) 1).1), Iv ((Zb3 kk dz ((Zaz kk [(⟨1, (⟨1, 1, 1, ⟨#[]⟩, (⟨(⟨0, 0, 0, dz, 0⟩ : Head), 0, dz⟩ : Signed), (⟨0, 0, 0, 0, dz⟩ : Claim)⟩ : Entry)⟩ : Item)] 1 1 1 0).1) 1).2)]) (v := Iv ((Zb3 kk dz ((Zaz kk [(⟨1, (⟨1, 1, 1, ⟨#[]⟩, (⟨(⟨0, 0, 0, dz, 0⟩ : Head), 0, dz⟩ : Signed), (⟨0, 0, 0, 0, dz⟩ : Claim)⟩ : Entry)⟩ : Item)] 1 1 1 0).1) 1).2)) (Zai (b := bxB 69 (Zh (⟨(⟨0, 0, 0, dz, 0⟩ : Head), 0, dz⟩ : Signed))) (nid := 3) (H' := [Y17, Y18, Y19 kk, Y17]) (Z2 (p := pt 3 0) (v := Zw ((Zb3 kk dz ((Zaz kk [(⟨1, (⟨1, 1, 1, ⟨#[]⟩, (⟨(⟨0, 0, 0, dz, 0⟩ : Head), 0, dz⟩ : Signed), (⟨0, 0, 0, 0, dz⟩ : Claim)⟩ : Entry)⟩ : Item)] 1 1 1 0).1) 1).1)) (b := 3) (blk := bxB 69 (Zh ((Zb3 kk dz ((Zaz kk [(⟨1, (⟨1, 1, 1, ⟨#[]⟩, (⟨(⟨0, 0, 0, dz, 0⟩ : Head), 0, dz⟩ : Signed), (⟨0, 0, 0, 0, dz⟩ : Claim)⟩ : Entry)⟩ : Item)] 1 1 1 0).1) 1).1))) (H' := [Y17, Y18, Y19 kk, Y20 kk]) (Zb (Iv ((Zb3 kk dz ((Zaz kk [(⟨1, (⟨1, 1, 1, ⟨#[]⟩, (⟨(⟨0, 0, 0, dz, 0⟩ : Head), 0, dz⟩ : Signed), (⟨0, 0, 0, 0, dz⟩ : Claim)⟩ : Entry)⟩ : Item)] 1 1 1 0).1) 1).2)) (Za (Zc (Ze ?_))))))))
  refine Zer (by kernel_rfl) ?_
  refine Zd (slv 1 0 1 1) (Zn (p := pt 3 0) (v := Zw ((Zb3 kk dz ((Zaz kk [(⟨1, (⟨1, 1, 1, ⟨#[]⟩, (⟨(⟨0, 0, 0, dz, 0⟩ : Head), 0, dz⟩ : Signed), (⟨0, 0, 0, 0, dz⟩ : Claim)⟩ : Entry)⟩ : Item)] 1 1 1 0).1) 1).1)) (Zb (slv 1 0 1 1) (Z2 (p := pt 0 0) (v := Zw ((Zb3 kk dz ((Zaz kk [(⟨1, (⟨1, 1, 1, ⟨#[]⟩, (⟨(⟨0, 0, 0, dz, 0⟩ : Head), 0, dz⟩ : Signed), (⟨0, 0, 0, 0, dz⟩ : Claim)⟩ : Entry)⟩ : Item)] 1 1 1 0).1) 1).1)) (b := 0) (blk := bxB 69 (Zh ((Zb3 kk dz ((Zaz kk [(⟨1, (⟨1, 1, 1, ⟨#[]⟩, (⟨(⟨0, 0, 0, dz, 0⟩ : Head), 0, dz⟩ : Signed), (⟨0, 0, 0, 0, dz⟩ : Claim)⟩ : Entry)⟩ : Item)] 1 1 1 0).1) 1).1))) (H' := [Y20 kk, Y18, Y19 kk, Y20 kk]) ?_)))
  refine Zdq (Zis [[], [], [0], [0, 1, 2]] (by kernel_rfl) (by kernel_rfl)) ?_
  refine Zc (Zs (Zu ?_))
  exact Zbb [1] (v := .tuple #[slv 1 0 1 1, Zw ((Zb3 kk dz ((Zaz kk [(⟨1, (⟨1, 1, 1, ⟨#[]⟩, (⟨(⟨0, 0, 0, dz, 0⟩ : Head), 0, dz⟩ : Signed), (⟨0, 0, 0, 0, dz⟩ : Claim)⟩ : Entry)⟩ : Item)] 1 1 1 0).1) 1).1)]) (by kernel_rfl) (by kernel_rfl) rfl rfl (by decide) (by simp [Zbe, rwB, Zx]) ⟨⟨rfl, rfl, rfl, by first | omega | exact Nat.le_refl _ | exact Nat.zero_le _ | (dsimp only; omega), by first | omega | exact Nat.le_refl _ | exact Nat.zero_le _ | (dsimp only; omega)⟩, (Zhe (by kernel_rfl) rfl), trivial⟩
end Go.Flat
