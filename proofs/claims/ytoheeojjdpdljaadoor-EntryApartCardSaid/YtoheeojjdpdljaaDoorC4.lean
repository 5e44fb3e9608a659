/- Walks and plain laws: what each theorem says, within the bounds that it names. -/
import Derived.Test.YtoheeojjdpdljaaDoorC3
import Derived.Test.YtoheeojjdpdljaaDoorH25
set_option linter.unusedVariables false
set_option linter.unusedSimpArgs false
set_option maxRecDepth 20000
namespace Go.Flat
open Go.Proofs
variable {G : Glob}
theorem layF_snd : ∀ (fs : List Field) (last : Int) (acc acc' : Bs), (layF fs last acc).2 = (layF fs last acc').2
  | [], _, _, _ => rfl
  | f :: fs, last, acc, acc' => by
    rw [layF, layF]
    split
    · exact layF_snd fs _ _ _
    · rfl
def catF (fs : List Field) : Bs := (fs.map fldB).flatten
theorem layF_cons {f : Field} {fs : List Field} {last : Int} {acc : Bs} (h : (layF (f :: fs) last acc).2 = 0) : mayE f last = 0 ∧ (layF fs f.tag (acc ++ fldB f)).2 = 0 := by
  rw [layF] at h
  split at h
  · exact ⟨by assumption, h⟩
  · rename_i q; exact absurd h q
theorem layF_cat : ∀ (fs : List Field) (last : Int) (acc : Bs), (layF fs last acc).2 = 0 → (layF fs last acc).1 = acc ++ catF fs
  | [], _, acc, _ => by simp [layF, catF]
  | f :: fs, last, acc, h => by
    obtain ⟨h1, h2⟩ := layF_cons h
    rw [layF, if_pos h1, layF_cat fs _ _ h2]
    simp [catF]
theorem read_cat : ∀ (fs : List Field) (last : Int) (f : Nat) (acc : List Field), (layF fs last []).2 = 0 → 0 ≤ last → (catF fs).length < f → readL f (catF fs) last acc = (acc ++ fs, 0)
  | [], last, 0, acc, _, _, hf => by omega
  | [], last, f + 1, acc, _, _, _ => by
    rw [readL, if_pos (by rfl)]; simp
  | g :: fs, last, 0, acc, _, _, hf => by omega
  | g :: fs, last, f + 1, acc, h, hl, hf => by
    obtain ⟨h1, h2⟩ := layF_cons h
    rw [layF_snd fs g.tag _ []] at h2
    have hm := h1
    unfold mayE at hm
    have ht : g.tag ≤ 255 ∧ last < g.tag ∧ g.data.size ≤ 65536 := by
      split at hm
      · omega
      · split at hm
        · omega
        · split at hm
          · omega
          · omega
    have hc : catF (g :: fs) = fldB g ++ catF fs := by simp [catF]
    have hlen : (fldB g ++ catF fs).length = g.data.size + 4 + (catF fs).length := by rw [List.length_append, fldB_len]
    rw [hc] at hf ⊢
    have hg := getF_fld g (catF fs) (by omega) ht.1 ht.2.2 (fldB g ++ catF fs).length hlen
    rw [readL, if_neg (by omega), hg, if_neg (by simp), if_neg (by show ¬ g.tag ≤ last; omega)]
    have hd : (fldB g ++ catF fs).drop ((g.data.size : Int) + 4).toNat = catF fs := by
      rw [show ((g.data.size : Int) + 4).toNat = (fldB g).length by rw [fldB_len]; omega, List.drop_left' rfl]
    show readL f ((fldB g ++ catF fs).drop ((g.data.size : Int) + 4).toNat) g.tag (acc ++ [g]) = _
    rw [hd, read_cat fs g.tag f (acc ++ [g]) h2 (by omega) (by omega)]
    simp
theorem readF_lay (fs : List Field) (h : (layF fs 0 []).2 = 0) : readF (layF fs 0 []).1 = (fs, 0) := by
  rw [layF_cat fs 0 [] h]
  unfold readF
  rw [List.nil_append, read_cat fs 0 _ [] h (by omega) (by omega)]; rfl
theorem mayS_congr {a b : Signed} (h : eqSigned a b = true) (hb : mayS b) : mayS a := by
  simp only [eqSigned, eqHead, Bool.and_eq_true, beq_iff_eq] at h
  obtain ⟨⟨h1, h2, h3, h4, h5, _⟩, h6, h7⟩ := h
  obtain ⟨g1, g2, g3⟩ := hb
  unfold rightH at g1
  refine ⟨?_, by omega, by omega⟩
  unfold rightH
  omega
theorem rightC_congr {a b : Claim} (h : eqClaim a b = true) (hb : rightC b) : rightC a := by
  simp only [eqClaim, Bool.and_eq_true, beq_iff_eq] at h
  obtain ⟨h1, h2, h3, h4, h5⟩ := h
  unfold rightC at hb ⊢
  omega
theorem putSF_congr {a b : Signed} (h : eqSigned a b = true) (hb : mayS b) : (putSF a).1 = (putSF b).1 := by
  have ha := mayS_congr h hb
  rw [putSF_pos ha, putSF_pos hb]
  have := bytesS_inj ha hb
  rw [h] at this
  exact strOf_inj ((sameT_iff _ _).1 this)
theorem gotE_of {e e' : Entry} (hr : rightE e) (hx : takeEL (entF e) ⟨0, 0, 0, ⟨#[]⟩, ⟨⟨0, 0, 0, dz, 0⟩, 0, dz⟩, ⟨0, 0, 0, 0, dz⟩⟩ = e') (hr' : rightE e') (hf : entF e' = entF e) (hq : eqEnt e' e = true) : (gotE (putE e).1).2 = 0 ∧ eqEnt (gotE (putE e).1).1 e = true := by
  have hb : (putE e).1 = (layF (entF e) 0 []).1 := by rw [show putE e = _ from if_pos hr]
  have hrd : readF (putE e).1 = (entF e, 0) := by rw [hb]; exact readF_lay _ (entF_ok hr)
  have hpb : (putE e').1 = (putE e).1 := by rw [hb, show putE e' = _ from if_pos hr', hf]
  have q : gotE (putE e).1 = (e', 0) := by
    unfold gotE
    rw [hrd, hx]
    exact if_pos ⟨rfl, putE_0 hr', by rw [hpb]; exact (sameT_iff _ _).2 rfl⟩
  rw [q]; exact ⟨rfl, hq⟩
theorem gotE_put {e : Entry} (hr : rightE e) : (gotE (putE e).1).2 = 0 ∧ eqEnt (gotE (putE e).1).1 e = true := by
  have hk := right_kind hr
  have vk := valS_numS (n := e.kind) (by omega) (by omega)
  rcases hr with q | q | q
  · have hr : rightE e := .inl q
    obtain ⟨q1, q2, q3, q4, q5, q6, q7, q8⟩ := q
    have v1 := valS_numS (n := e.client) (by omega) (by omega)
    have v2 := valS_numS (n := e.seq) (by omega) (by omega)
    refine gotE_of hr (e' := ⟨e.kind, e.client, e.seq, e.text, ⟨⟨0, 0, 0, dz, 0⟩, 0, dz⟩, ⟨0, 0, 0, 0, dz⟩⟩) ?_ (.inl ⟨q1, q2, q3, q4, q5, q6, eqSigned_refl _, eqClaim_refl _⟩) ?_ ?_
    · unfold entF; rw [if_pos q1]
      simp [takeEL, takeE, vk, v1, v2]
    · unfold entF; rw [if_pos q1, if_pos q1]
    · simp only [eqEnt, BEq.rfl, Bool.true_and, Bool.and_true, Bool.and_eq_true]
      exact ⟨(eqSigned_comm _ _).trans q7, (eqClaim_comm _ _).trans q8⟩
  · have hr : rightE e := .inr (.inl q)
    obtain ⟨q1, q2, q3, q4, q5, q6⟩ := q
    have hg : (getS (bl (strOf (putSF e.head).1))).2 = 0 ∧ eqSigned (getS (bl (strOf (putSF e.head).1))).1 e.head = true := by
      rw [bl_strOf, putSF_pos q5]; exact getS_putS q5
    have hm := mayS_congr hg.2 q5
    have hp := putSF_congr hg.2 q5
    refine gotE_of hr (e' := ⟨e.kind, 0, 0, ⟨#[]⟩, (getS (bl (strOf (putSF e.head).1))).1, ⟨0, 0, 0, 0, dz⟩⟩) ?_ (.inr (.inl ⟨q1, rfl, rfl, rfl, hm, eqClaim_refl _⟩)) ?_ ?_
    · unfold entF; rw [if_neg (by omega), if_pos q1]
      simp [takeEL, takeE, vk]
    · unfold entF; rw [if_neg (show ¬ e.kind = 1 by omega), if_pos q1, if_neg (show ¬ e.kind = 1 by omega), if_pos q1, hp]
    · simp only [eqEnt, BEq.rfl, Bool.true_and, Bool.and_true, Bool.and_eq_true, beq_iff_eq]
      exact ⟨q2.symm, q3.symm, q4.symm, hg.2, (eqClaim_comm _ _).trans q6⟩
  · have hr : rightE e := .inr (.inr q)
    obtain ⟨q1, q2, q3, q4, q5, q6⟩ := q
    have hg : (gotC (bl (strOf (putC e.claim).1))).2 = 0 ∧ eqClaim (gotC (bl (strOf (putC e.claim).1))).1 e.claim = true := by
      rw [bl_strOf]; exact gotC_put q6
    have hm := rightC_congr hg.2 q6
    have hp : (putC (gotC (bl (strOf (putC e.claim).1))).1).1 = (putC e.claim).1 := by
      rw [(gotC_same hg.1).1, bl_strOf]
    refine gotE_of hr (e' := ⟨e.kind, 0, 0, ⟨#[]⟩, ⟨⟨0, 0, 0, dz, 0⟩, 0, dz⟩, (gotC (bl (strOf (putC e.claim).1))).1⟩) ?_ (.inr (.inr ⟨q1, rfl, rfl, rfl, eqSigned_refl _, hm⟩)) ?_ ?_
    · unfold entF; rw [if_neg (by omega), if_neg (by omega)]
      simp [takeEL, takeE, vk]
    · unfold entF; rw [if_neg (show ¬ e.kind = 1 by omega), if_neg (show ¬ e.kind = 2 by omega), if_neg (show ¬ e.kind = 1 by omega), if_neg (show ¬ e.kind = 2 by omega), hp]
    · simp only [eqEnt, BEq.rfl, Bool.true_and, Bool.and_true, Bool.and_eq_true, beq_iff_eq]
      exact ⟨q2.symm, q3.symm, q4.symm, (eqSigned_comm _ _).trans q5, hg.2⟩
theorem gotI_put {x : Item} (hr : rightI x) : (gotI (putI x).1).2 = 0 ∧ eqItem (gotI (putI x).1).1 x = true := by
  have ve := valS_numS (n := x.epoch) (by have := hr.1; omega) (by have := hr.2.1; omega)
  have hg : (gotE (bl (strOf (putE x.entry).1))).2 = 0 ∧ eqEnt (gotE (bl (strOf (putE x.entry).1))).1 x.entry = true := by
    rw [bl_strOf]; exact gotE_put hr.2.2
  have hs := gotE_same hg.1
  have hre : rightE (gotE (bl (strOf (putE x.entry).1))).1 := putE_1 hs.2
  have hp : (putE (gotE (bl (strOf (putE x.entry).1))).1).1 = (putE x.entry).1 := by rw [hs.1, bl_strOf]
  have hr' : rightI ⟨x.epoch, (gotE (bl (strOf (putE x.entry).1))).1⟩ := ⟨hr.1, hr.2.1, hre⟩
  have hb : (putI x).1 = (layF (itemF x) 0 []).1 := by rw [show putI x = _ from if_pos hr]
  have hrd : readF (putI x).1 = (itemF x, 0) := by rw [hb]; exact readF_lay _ (itemF_ok x)
  have hx : takeIL (itemF x) ⟨0, ⟨0, 0, 0, ⟨#[]⟩, ⟨⟨0, 0, 0, dz, 0⟩, 0, dz⟩, ⟨0, 0, 0, 0, dz⟩⟩⟩ = ⟨x.epoch, (gotE (bl (strOf (putE x.entry).1))).1⟩ := by
    simp [itemF, takeIL, takeI, ve]
  have hpb : (putI ⟨x.epoch, (gotE (bl (strOf (putE x.entry).1))).1⟩).1 = (putI x).1 := by
    rw [hb, show putI ⟨x.epoch, (gotE (bl (strOf (putE x.entry).1))).1⟩ = _ from if_pos hr']
    show (layF (itemF ⟨x.epoch, (gotE (bl (strOf (putE x.entry).1))).1⟩) 0 []).1 = _
    unfold itemF
    rw [hp]
  have q : gotI (putI x).1 = (⟨x.epoch, (gotE (bl (strOf (putE x.entry).1))).1⟩, 0) := by
    unfold gotI
    rw [hrd, hx]
    exact if_pos ⟨rfl, putI_0 hr', by rw [hpb]; exact (sameT_iff _ _).2 rfl⟩
  rw [q]
  refine ⟨rfl, ?_⟩
  simp only [eqItem, BEq.rfl, Bool.true_and, Bool.and_true]
  exact hg.2
end Go.Flat
