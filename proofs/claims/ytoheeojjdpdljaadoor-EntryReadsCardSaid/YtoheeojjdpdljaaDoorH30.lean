/- Walks. -/
import Derived.Test.YtoheeojjdpdljaaDoorH23
import Derived.Test.YtoheeojjdpdljaaDoorH9
import Derived.Test.YtoheeojjdpdljaaDoorC3
set_option linter.unusedVariables false
set_option linter.unusedSimpArgs false
set_option maxRecDepth 20000
namespace Go.Flat
open Go.Proofs
theorem Zri {l : Bs} {a b c d e : ByteArray} {x0 x1 x2 x4 : Int} (ho : ofF l = (true, [a, b, c, d, e])) (h0 : Zq a = (x0, 0)) (h1 : Zq b = (x1, 0)) (h2 : Zq c = (x2, 0)) (h3 : d.size = 32) (h4 : Zq e = (x4, 0)) (hr : Zbt ⟨x0, x1, x2, cpD d, x4⟩) : Zax l = (⟨x0, x1, x2, cpD d, x4⟩, 0) := by
 have p0 : pK 5 0 = 0 := rfl
 have p1 : pK 5 1 = 1 := rfl
 have p2 : pK 5 2 = 2 := rfl
 have p3 : pK 5 3 = 3 := rfl
 have p4 : pK 5 4 = 4 := rfl
 have p5 : Zak 5 (pK 5 5) = 0 := rfl
 have q0 : [a, b, c, d, e].getD 0 ⟨#[]⟩ = a := rfl
 have q1 : [a, b, c, d, e].getD 1 ⟨#[]⟩ = b := rfl
 have q2 : [a, b, c, d, e].getD 2 ⟨#[]⟩ = c := rfl
 have q3 : [a, b, c, d, e].getD 3 ⟨#[]⟩ = d := rfl
 have q4 : [a, b, c, d, e].getD 4 ⟨#[]⟩ = e := rfl
 have hl : [a, b, c, d, e].length = 5 := rfl
 have hc : Zbm ⟨x0, x1, x2, cpD d, x4⟩ = 0 := by rw [Zgo, if_pos hr]
 have hd : Zc8 true d = cpD d := rfl
 unfold Zax
 rw [ho]
 dsimp only
 rw [hl, p0, p1, p2, p3, p4, p5, q0, q1, q2, q3, q4, h0, h1, h2, h3, h4]
 simp [hd, hc]
theorem Zy4 {h : Head} (hr : Zbt h) : (Zax (Zaj (Zcg h))).2 = 0 ∧ Zee (Zax (Zaj (Zcg h))).1 h = true := by
 have ho := Zkv (Zcg h) (by simp [Zcg]) (Zur h)
 have hr' := hr
 unfold Zbt at hr'
 have hg := Zri (l := Zaj (Zcg h)) ho (Zca (n := h.region) (by omega) (by omega)) (Zca (n := h.epoch) (by omega) (by omega)) (Zca (n := h.size) (by omega) (by omega)) (by rw [Zbc, Ze2]) (Zca (n := h.tick) (by omega) (by omega)) (by unfold Zbt; exact hr')
 rw [hg]
 refine ⟨rfl, ?_⟩
 unfold Zee
 simp [Zoc]
end Go.Flat
namespace Go.Flat
open Go.Proofs
theorem Zol {l : Bs} {a b c : ByteArray} {x1 : Int} {h : Head} (ho : ofF l = (true, [a, b, c])) (h0 : Zax (bl a) = (h, 0)) (h1 : Zq b = (x1, 0)) (h3 : c.size = 32) (hn : 1 ≤ x1 ∧ x1 ≤ 3) : Zb9 l = (⟨h, x1, cpD c⟩, 0) := by
 have p0 : pK 3 0 = 0 := rfl
 have p1 : pK 3 1 = 1 := rfl
 have p2 : pK 3 2 = 2 := rfl
 have p3 : Zak 3 (pK 3 3) = 0 := rfl
 have q0 : [a, b, c].getD 0 ⟨#[]⟩ = a := rfl
 have q1 : [a, b, c].getD 1 ⟨#[]⟩ = b := rfl
 have q2 : [a, b, c].getD 2 ⟨#[]⟩ = c := rfl
 have hl : [a, b, c].length = 3 := rfl
 have hd : Zc8 true c = cpD c := rfl
 unfold Zb9
 rw [ho]
 dsimp only
 rw [hl, p0, p1, p2, p3, q0, q1, q2, h0, h1, h3]
 simp [hd, hn.1, hn.2]
theorem Znd {s : Signed} (hm : Zfy s) : (Zb9 (Zaj (Zdn s))).2 = 0 ∧ Zcm (Zb9 (Zaj (Zdn s))).1 s = true := by
 have ho := Zkv (Zdn s) (by simp [Zdn]) (Zph s)
 have hg := Zy4 hm.1
 have h0 : Zax (bl (Zl (Zaj (Zcg s.head)))) = ((Zax (Zaj (Zcg s.head))).1, 0) := by
  rw [Zdi, ← hg.1]
 have hn := hm.2
 have hs := Zol (l := Zaj (Zdn s)) ho h0 (Zca (n := s.node) (by omega) (by omega)) (by rw [Zbc, Ze2]) hn
 rw [hs]
 refine ⟨rfl, ?_⟩
 unfold Zcm
 simp [Zoc, hg.2]
theorem Zli (a b : Head) : Zee a b = true ↔ a.region = b.region ∧ a.epoch = b.epoch ∧ a.size = b.size ∧ Zdd 32 a.root b.root = true ∧ a.tick = b.tick := by
 simp [Zee]
theorem Zs5 {a b : D} (h : Zdd 32 a b = true) : dgL a = dgL b := by
 unfold Zdd at h
 rw [List.all_eq_true] at h
 unfold dgL
 refine List.map_congr_left fun i hi => ?_
 exact beq_iff_eq.1 (h i hi)
theorem Zvg {a b : Head} (h : Zee a b = true) : Zcg a = Zcg b := by
 obtain ⟨h1, h2, h3, h4, h5⟩ := (Zli a b).1 h
 unfold Zcg
 rw [h1, h2, h3, h5, Zs5 h4]
theorem Zpz {n : Nat} {a b : D} (h : Zdd n a b = true) : Zdd n b a = true := by rw [Zht] at h ⊢; exact h.symm
theorem Znr {n : Nat} {a b c : D} (h : Zdd n a b = true) (h' : Zdd n b c = true) : Zdd n a c = true := by rw [Zht] at h h' ⊢; exact h.trans h'
theorem Ztd {a b : Head} (h : Zee a b = true) : Zee b a = true := by
 rw [Zli] at h ⊢
 exact ⟨h.1.symm, h.2.1.symm, h.2.2.1.symm, Zpz h.2.2.2.1, h.2.2.2.2.symm⟩
theorem Zr2 {a b c : Head} (h : Zee a b = true) (h' : Zee b c = true) : Zee a c = true := by
 rw [Zli] at h h' ⊢
 exact ⟨h.1.trans h'.1, h.2.1.trans h'.2.1, h.2.2.1.trans h'.2.2.1, Znr h.2.2.2.1 h'.2.2.2.1, h.2.2.2.2.trans h'.2.2.2.2⟩
theorem Zhj (a b : Signed) : Zcm a b = true ↔ Zee a.head b.head = true ∧ a.node = b.node ∧ Zdd 32 a.tag b.tag = true := by
 simp [Zcm]
theorem Zvx {a b : Signed} (ha : Zfy a) (hb : Zfy b) : Zbq (Zl (Zaj (Zdn a))) (Zl (Zaj (Zdn b))) = Zcm a b := by
 rw [Bool.eq_iff_iff, Zy3]
 constructor
 ·intro h
  have g1 := Znd ha
  have g2 := Znd hb
  rw [h] at g1
  have q1 := (Zhj _ _).1 g1.2
  have q2 := (Zhj _ _).1 g2.2
  rw [Zhj]
  exact ⟨Zr2 (Ztd q1.1) q2.1, q1.2.1.symm.trans q2.2.1, Znr (Zpz q1.2.2) q2.2.2⟩
 ·intro h
  obtain ⟨h1, h2, h3⟩ := (Zhj a b).1 h
  unfold Zdn
  rw [Zvg h1, h2, Zs5 h3]
end Go.Flat
namespace Go.Flat
open Go.Proofs
variable {G : Glob}
theorem Ztt : ∀ (fs : List Field) (last : Int) (acc acc' : Bs), (Z6 fs last acc).2 = (Z6 fs last acc').2
 | [], _, _, _ => rfl
 | f :: fs, last, acc, acc' => by
  rw [Z6, Z6]
  split
  ·exact Ztt fs _ _ _
  ·rfl
def Zlb (fs : List Field) : Bs := (fs.map Zc0).flatten
theorem Zql {f : Field} {fs : List Field} {last : Int} {acc : Bs} (h : (Z6 (f :: fs) last acc).2 = 0) : Zez f last = 0 ∧ (Z6 fs f.tag (acc ++ Zc0 f)).2 = 0 := by
 rw [Z6] at h
 split at h
 ·exact ⟨by assumption, h⟩
 ·rename_i q; exact absurd h q
theorem Zt3 : ∀ (fs : List Field) (last : Int) (acc : Bs), (Z6 fs last acc).2 = 0 → (Z6 fs last acc).1 = acc ++ Zlb fs
 | [], _, acc, _ => by simp [Z6, Zlb]
 | f :: fs, last, acc, h => by
  obtain ⟨h1, h2⟩ := Zql h
  rw [Z6, if_pos h1, Zt3 fs _ _ h2]
  simp [Zlb]
theorem Zt2 : ∀ (fs : List Field) (last : Int) (f : Nat) (acc : List Field), (Z6 fs last []).2 = 0 → 0 ≤ last → (Zlb fs).length < f → Zde f (Zlb fs) last acc = (acc ++ fs, 0)
 | [], last, 0, acc, _, _, hf => by omega
 | [], last, f + 1, acc, _, _, _ => by
  rw [Zde, if_pos (by rfl)]; simp
 | g :: fs, last, 0, acc, _, _, hf => by omega
 | g :: fs, last, f + 1, acc, h, hl, hf => by
  obtain ⟨h1, h2⟩ := Zql h
  rw [Ztt fs g.tag _ []] at h2
  have hm := h1
  unfold Zez at hm
  have ht : g.tag ≤ 255 ∧ last < g.tag ∧ g.data.size ≤ 65536 := by
   split at hm
   ·omega
   ·split at hm
    ·omega
    ·split at hm
     ·omega
     ·omega
  have hc : Zlb (g :: fs) = Zc0 g ++ Zlb fs := by simp [Zlb]
  have hlen : (Zc0 g ++ Zlb fs).length = g.data.size + 4 + (Zlb fs).length := by rw [List.length_append, Zg3]
  rw [hc] at hf ⊢
  have hg := Zt0 g (Zlb fs) (by omega) ht.1 ht.2.2 (Zc0 g ++ Zlb fs).length hlen
  rw [Zde, if_neg (by omega), hg, if_neg (by simp), if_neg (by show ¬ g.tag ≤ last; omega)]
  have hd : (Zc0 g ++ Zlb fs).drop ((g.data.size : Int) + 4).toNat = Zlb fs := by
   rw [show ((g.data.size : Int) + 4).toNat = (Zc0 g).length by rw [Zg3]; omega, List.drop_left' rfl]
  show Zde f ((Zc0 g ++ Zlb fs).drop ((g.data.size : Int) + 4).toNat) g.tag (acc ++ [g]) = _
  rw [hd, Zt2 fs g.tag f (acc ++ [g]) h2 (by omega) (by omega)]
  simp
theorem Zk2 (fs : List Field) (h : (Z6 fs 0 []).2 = 0) : Zh (Z6 fs 0 []).1 = (fs, 0) := by
 rw [Zt3 fs 0 [] h]
 unfold Zh
 rw [List.nil_append, Zt2 fs 0 _ [] h (by omega) (by omega)]; rfl
theorem Zo0 {a b : Signed} (h : Zcm a b = true) (hb : Zfy b) : Zfy a := by
 simp only [Zcm, Zee, Bool.and_eq_true, beq_iff_eq] at h
 obtain ⟨⟨h1, h2, h3, h4, h5, _⟩, h6, h7⟩ := h
 obtain ⟨g1, g2, g3⟩ := hb
 unfold Zbt at g1
 refine ⟨?_, by omega, by omega⟩
 unfold Zbt
 omega
theorem Zsb {a b : Claim} (h : Zdl a b = true) (hb : Za8 b) : Za8 a := by
 simp only [Zdl, Bool.and_eq_true, beq_iff_eq] at h
 obtain ⟨h1, h2, h3, h4, h5⟩ := h
 unfold Za8 at hb ⊢
 omega
theorem Ztg {a b : Signed} (h : Zcm a b = true) (hb : Zfy b) : (Za1 a).1 = (Za1 b).1 := by
 have ha := Zo0 h hb
 rw [Ziu ha, Ziu hb]
 have := Zvx ha hb
 rw [h] at this
 exact Zgp ((Za9 _ _).1 this)
theorem Zrr {e e' : Entry} (hr : Zba e) (hx : Zdo (Zci e) ⟨0, 0, 0, ⟨#[]⟩, ⟨⟨0, 0, 0, dz, 0⟩, 0, dz⟩, ⟨0, 0, 0, 0, dz⟩⟩ = e') (hr' : Zba e') (hf : Zci e' = Zci e) (hq : Zfp e' e = true) : (Z4 (Zaf e).1).2 = 0 ∧ Zfp (Z4 (Zaf e).1).1 e = true := by
 have hb : (Zaf e).1 = (Z6 (Zci e) 0 []).1 := by rw [show Zaf e = _ from if_pos hr]
 have hrd : Zh (Zaf e).1 = (Zci e, 0) := by rw [hb]; exact Zk2 _ (Zky hr)
 have hpb : (Zaf e').1 = (Zaf e).1 := by rw [hb, show Zaf e' = _ from if_pos hr', hf]
 have q : Z4 (Zaf e).1 = (e', 0) := by
  unfold Z4
  rw [hrd, hx]
  exact if_pos ⟨rfl, Zpp hr', by rw [hpb]; exact (Za9 _ _).2 rfl⟩
 rw [q]; exact ⟨rfl, hq⟩
theorem Zt7 {e : Entry} (hr : Zba e) : (Z4 (Zaf e).1).2 = 0 ∧ Zfp (Z4 (Zaf e).1).1 e = true := by
 have hk := Zhz hr
 have vk := Zca (n := e.kind) (by omega) (by omega)
 rcases hr with q | q | q
 ·have hr : Zba e := .inl q
  obtain ⟨q1, q2, q3, q4, q5, q6, q7, q8⟩ := q
  have v1 := Zca (n := e.client) (by omega) (by omega)
  have v2 := Zca (n := e.seq) (by omega) (by omega)
  refine Zrr hr (e' := ⟨e.kind, e.client, e.seq, e.text, ⟨⟨0, 0, 0, dz, 0⟩, 0, dz⟩, ⟨0, 0, 0, 0, dz⟩⟩) ?_ (.inl ⟨q1, q2, q3, q4, q5, q6, Zgv _, Zf4 _⟩) ?_ ?_
  ·unfold Zci; rw [if_pos q1]
   simp [Zdo, Zer, vk, v1, v2]
  ·unfold Zci; rw [if_pos q1, if_pos q1]
  ·simp only [Zfp, BEq.rfl, Bool.true_and, Bool.and_true, Bool.and_eq_true]
   exact ⟨(Zii _ _).trans q7, (Zjb _ _).trans q8⟩
 ·have hr : Zba e := .inr (.inl q)
  obtain ⟨q1, q2, q3, q4, q5, q6⟩ := q
  have hg : (Zb9 (bl (Zl (Za1 e.head).1))).2 = 0 ∧ Zcm (Zb9 (bl (Zl (Za1 e.head).1))).1 e.head = true := by
   rw [Zdi, Ziu q5]; exact Znd q5
  have hm := Zo0 hg.2 q5
  have hp := Ztg hg.2 q5
  refine Zrr hr (e' := ⟨e.kind, 0, 0, ⟨#[]⟩, (Zb9 (bl (Zl (Za1 e.head).1))).1, ⟨0, 0, 0, 0, dz⟩⟩) ?_ (.inr (.inl ⟨q1, rfl, rfl, rfl, hm, Zf4 _⟩)) ?_ ?_
  ·unfold Zci; rw [if_neg (by omega), if_pos q1]
   simp [Zdo, Zer, vk]
  ·unfold Zci; rw [if_neg (show ¬ e.kind = 1 by omega), if_pos q1, if_neg (show ¬ e.kind = 1 by omega), if_pos q1, hp]
  ·simp only [Zfp, BEq.rfl, Bool.true_and, Bool.and_true, Bool.and_eq_true, beq_iff_eq]
   exact ⟨q2.symm, q3.symm, q4.symm, hg.2, (Zjb _ _).trans q6⟩
 ·have hr : Zba e := .inr (.inr q)
  obtain ⟨q1, q2, q3, q4, q5, q6⟩ := q
  have hg : (Z9 (bl (Zl (Z8 e.claim).1))).2 = 0 ∧ Zdl (Z9 (bl (Zl (Z8 e.claim).1))).1 e.claim = true := by
   rw [Zdi]; exact Zu1 q6
  have hm := Zsb hg.2 q6
  have hp : (Z8 (Z9 (bl (Zl (Z8 e.claim).1))).1).1 = (Z8 e.claim).1 := by
   rw [(Znb hg.1).1, Zdi]
  refine Zrr hr (e' := ⟨e.kind, 0, 0, ⟨#[]⟩, ⟨⟨0, 0, 0, dz, 0⟩, 0, dz⟩, (Z9 (bl (Zl (Z8 e.claim).1))).1⟩) ?_ (.inr (.inr ⟨q1, rfl, rfl, rfl, Zgv _, hm⟩)) ?_ ?_
  ·unfold Zci; rw [if_neg (by omega), if_neg (by omega)]
   simp [Zdo, Zer, vk]
  ·unfold Zci; rw [if_neg (show ¬ e.kind = 1 by omega), if_neg (show ¬ e.kind = 2 by omega), if_neg (show ¬ e.kind = 1 by omega), if_neg (show ¬ e.kind = 2 by omega), hp]
  ·simp only [Zfp, BEq.rfl, Bool.true_and, Bool.and_true, Bool.and_eq_true, beq_iff_eq]
   exact ⟨q2.symm, q3.symm, q4.symm, (Zii _ _).trans q5, hg.2⟩
theorem Z12 {x : Item} (hr : Zd9 x) : (Zal (Z7 x).1).2 = 0 ∧ Zj6 (Zal (Z7 x).1).1 x = true := by
 have ve := Zca (n := x.epoch) (by have := hr.1; omega) (by have := hr.2.1; omega)
 have hg : (Z4 (bl (Zl (Zaf x.entry).1))).2 = 0 ∧ Zfp (Z4 (bl (Zl (Zaf x.entry).1))).1 x.entry = true := by
  rw [Zdi]; exact Zt7 hr.2.2
 have hs := Zkk hg.1
 have hre : Zba (Z4 (bl (Zl (Zaf x.entry).1))).1 := Zsj hs.2
 have hp : (Zaf (Z4 (bl (Zl (Zaf x.entry).1))).1).1 = (Zaf x.entry).1 := by rw [hs.1, Zdi]
 have hr' : Zd9 ⟨x.epoch, (Z4 (bl (Zl (Zaf x.entry).1))).1⟩ := ⟨hr.1, hr.2.1, hre⟩
 have hb : (Z7 x).1 = (Z6 (Zgf x) 0 []).1 := by rw [show Z7 x = _ from if_pos hr]
 have hrd : Zh (Z7 x).1 = (Zgf x, 0) := by rw [hb]; exact Zk2 _ (Zoz x)
 have hx : Zfj (Zgf x) ⟨0, ⟨0, 0, 0, ⟨#[]⟩, ⟨⟨0, 0, 0, dz, 0⟩, 0, dz⟩, ⟨0, 0, 0, 0, dz⟩⟩⟩ = ⟨x.epoch, (Z4 (bl (Zl (Zaf x.entry).1))).1⟩ := by
  simp [Zgf, Zfj, Zix, ve]
 have hpb : (Z7 ⟨x.epoch, (Z4 (bl (Zl (Zaf x.entry).1))).1⟩).1 = (Z7 x).1 := by
  rw [hb, show Z7 ⟨x.epoch, (Z4 (bl (Zl (Zaf x.entry).1))).1⟩ = _ from if_pos hr']
  show (Z6 (Zgf ⟨x.epoch, (Z4 (bl (Zl (Zaf x.entry).1))).1⟩) 0 []).1 = _
  unfold Zgf
  rw [hp]
 have q : Zal (Z7 x).1 = (⟨x.epoch, (Z4 (bl (Zl (Zaf x.entry).1))).1⟩, 0) := by
  unfold Zal
  rw [hrd, hx]
  exact if_pos ⟨rfl, Zpq hr', by rw [hpb]; exact (Za9 _ _).2 rfl⟩
 rw [q]
 refine ⟨rfl, ?_⟩
 simp only [Zj6, BEq.rfl, Bool.true_and, Bool.and_true]
 exact hg.2
end Go.Flat
namespace Go.Flat
open Go.Proofs

theorem Zhp (a : BitVec 8) (z : Int) (h : 0 ≤ z) (e : z.toNat % 256 = a.toNat) : BitVec.ofInt 8 z = a := by
 apply BitVec.eq_of_toNat_eq
 rw [Zlq z h, e]
theorem Zzp {l : Bs} (h : (Za2 l l.length).2.2 = 0) : l = Zc0 (Za2 l l.length).1 ++ l.drop (Za2 l l.length).2.1.toNat ∧ (Za2 l l.length).1.data.size ≤ 65536 := by
 match l, h with
 | [], h => exact absurd h (by decide)
 | [_], h => exact absurd h (by simp [Za2])
 | [_, _], h => exact absurd h (by simp [Za2])
 | [_, _, _], h => exact absurd h (by simp [Za2])
 | a :: b :: c :: d :: r, h =>
  have ha := a.isLt; have hb := b.isLt; have hc := c.isLt; have hd := d.isLt
  have g0 : (a :: b :: c :: d :: r).getD 0 0 = a := rfl
  have g1 : (a :: b :: c :: d :: r).getD 1 0 = b := rfl
  have g2 : (a :: b :: c :: d :: r).getD 2 0 = c := rfl
  have g3 : (a :: b :: c :: d :: r).getD 3 0 = d := rfl
  have g4 : (a :: b :: c :: d :: r).drop 4 = r := rfl
  have g5 : (a :: b :: c :: d :: r).length = r.length + 4 := rfl
  unfold Za2 at h ⊢
  rw [g0, g1, g2, g3, g4, g5] at h ⊢
  rw [if_neg (by omega)] at h ⊢
  split at h
  ·exact absurd h (by decide)
  ·rename_i h1
   split at h
   ·exact absurd h (by decide)
   ·rename_i h2
    split at h
    ·exact absurd h (by decide)
    ·rename_i h3
     rw [if_neg h1, if_neg h2, if_neg h3]
     generalize hN : 65536 * b.toNat + 256 * c.toNat + d.toNat = N at *
     have hz : 65536 * ((b.toNat : Nat) : Int) + 256 * ((c.toNat : Nat) : Int) + ((d.toNat : Nat) : Int) = (N : Int) := by omega
     rw [hz] at h2 h3 ⊢
     have hNr : N ≤ r.length := by omega
     have hs : (Zl (r.take N)).size = N := by rw [Zbc, List.length_take]; omega
     dsimp only
     rw [show ((N : Int) + 4).toNat = N + 4 by omega]
     refine ⟨?_, by omega⟩
     show a :: b :: c :: d :: r = ([BitVec.ofInt 8 ((a.toNat : Nat) : Int), BitVec.ofInt 8 ((Zl (r.take N)).size / 65536 : Nat), BitVec.ofInt 8 ((Zl (r.take N)).size / 256 : Nat), BitVec.ofInt 8 ((Zl (r.take N)).size : Nat)] ++ bl (Zl (r.take N))) ++ (a :: b :: c :: d :: r).drop (N + 4)
     rw [hs, Zdi, Zhp a _ (by omega) (by omega), Zhp b _ (by omega) (by omega), Zhp c _ (by omega) (by omega), Zhp d _ (by omega) (by omega)]
     show a :: b :: c :: d :: r = a :: b :: c :: d :: (r.take N ++ r.drop N)
     rw [List.take_append_drop]
theorem Zqc : ∀ (f : Nat) (l : Bs) (last : Int) (acc fs : List Field), Zde f l last acc = (fs, 0) → l.length < f → ∃ gs : List Field, fs = acc ++ gs ∧ l = (gs.map Zc0).flatten ∧ ∀ g, g ∈ gs → g.data.size ≤ 65536
  | 0, l, _, _, _, _, h => absurd h (Nat.not_lt_zero _)
  | f + 1, l, last, acc, fs, h, hf => by
    rw [Zde] at h
    split at h
    · rename_i h0
      injection h with h1 _
      exact ⟨[], by simp [h1], by simpa using h0, fun g q => by cases q⟩
    · rename_i h0
      split at h
      · rename_i h1
        injection h with _ h2
        exact absurd h2 h1
      · rename_i h1
        split at h
        · injection h with _ h2; exact absurd h2 (by decide)
        · have h1' : (Za2 l l.length).2.2 = 0 := Decidable.byContradiction fun q => h1 q
          have hp := Zg7 h1'
          obtain ⟨e1, e2⟩ := Zzp h1'
          obtain ⟨gs, q1, q2, q3⟩ := Zqc f _ _ _ _ h (by rw [List.length_drop]; omega)
          refine ⟨(Za2 l l.length).1 :: gs, by rw [q1]; simp, ?_, fun g q => ?_⟩
          · rw [List.map_cons, List.flatten_cons, ← q2]; exact e1
          · rcases List.mem_cons.1 q with q | q
            · subst q; exact e2
            · exact q3 g q
theorem Zw7 : ∀ (fs : List Field) (i : Nat) (ok : Bool) (acc ls : List ByteArray), ofL fs i ok acc = (true, ls) → ok = true ∧ ∃ ds, ls = acc ++ ds ∧ fs = Zd0 i ds
 | [], i, ok, acc, ls, h => by
  rw [ofL] at h
  injection h with h1 h2
  exact ⟨h1, [], by simp [h2], rfl⟩
 | f :: fs, i, ok, acc, ls, h => by
  rw [ofL] at h
  obtain ⟨h1, ds, h2, h3⟩ := Zw7 fs (i + 1) _ _ _ h
  rw [Bool.and_eq_true, decide_eq_true_eq] at h1
  refine ⟨h1.1, f.data :: ds, by rw [h2]; simp, ?_⟩
  rw [Zd0, ← h3, ← h1.2]
theorem Zqp : ∀ (ls : List ByteArray) (k : Nat), ((Zd0 k ls).map Zc0).flatten = Zgs k ls
 | [], _ => rfl
 | x :: l, k => by rw [Zd0, List.map_cons, List.flatten_cons, Zqp l (k + 1), Zgs]
theorem Zum : ∀ (ls : List ByteArray) (k : Nat) (x : ByteArray), x ∈ ls → ∃ g, g ∈ Zd0 k ls ∧ g.data = x
  | [], _, x, h => by cases h
  | y :: l, k, x, h => by
    rw [Zd0]
    rcases List.mem_cons.1 h with h | h
    · exact ⟨_, List.mem_cons_self, h.symm⟩
    · obtain ⟨g, h1, h2⟩ := Zum l (k + 1) x h
      exact ⟨g, List.mem_cons_of_mem _ h1, h2⟩
theorem Zwz {l : Bs} {ls : List ByteArray} (h : ofF l = (true, ls)) (hl : ls.length ≤ 255) : l = Zaj ls := by
 unfold ofF at h
 obtain ⟨h1, ds, h2, h3⟩ := Zw7 _ _ _ _ _ h
 rw [List.nil_append] at h2
 subst h2
 have hr : Zde (l.length + 1) l 0 [] = ((Zh l).1, 0) := by
  exact Prod.ext rfl (of_decide_eq_true h1)
 obtain ⟨gs, q1, q2, q3⟩ := Zqc _ _ _ _ _ hr (by omega)
 rw [List.nil_append, h3] at q1
 subst q1
 rw [Zpc ls hl fun x hx => ?_, ← Zqp]
 ·exact q2
 ·obtain ⟨g, g1, g2⟩ := Zum ls 0 x hx
  rw [← g2]; exact q3 g g1
theorem Zt8 : ∀ (l : Bs) (v n k : Nat) (acc : Bs), Ze5 l v = ((n : Int), 0) → 0 < v → beL (k + l.length) n acc = beL k v (l ++ acc) ∧ (v ≤ 4611686018427387903 → n ≤ 4611686018427387903)
 | [], v, n, k, acc, h, hv => by
  rw [Ze5] at h
  injection h with h1 _
  have : v = n := by omega
  subst this
  exact ⟨rfl, fun h => h⟩
 | x :: l, v, n, k, acc, h, hv => by
  rw [Ze5] at h
  split at h
  ·injection h with _ h2; exact absurd h2 (by decide)
  ·rename_i hm
   have hx := x.isLt
   obtain ⟨q1, q2⟩ := Zt8 l _ n (k + 1) acc h (by omega)
   refine ⟨?_, fun _ => q2 (by omega)⟩
   rw [List.length_cons, show k + (l.length + 1) = k + 1 + l.length by omega, q1, beL, if_neg (by omega)]
   rw [Zhp x _ (by omega) (by omega), show (v * 256 + x.toNat) / 256 = v by omega]; rfl
theorem Zjw {s : ByteArray} (h : (Zq s).2 = 0) : 0 ≤ (Zq s).1 ∧ (Zq s).1 ≤ 4611686018427387903 ∧ (Zp (Zq s).1).1 = s := by
 unfold Zq at h ⊢
 split at h
 ·exact absurd h (by decide)
 ·rename_i hq
  rw [if_neg hq]
  rw [← Zb5] at hq
  have key : ∀ (l : Bs), ¬ (8 < l.length ∨ (1 ≤ l.length ∧ (l.getD 0 0 == 0#8) = true)) → (Ze5 l 0).2 = 0 → 0 ≤ (Ze5 l 0).1 ∧ (Ze5 l 0).1 ≤ 4611686018427387903 ∧ (Zp (Ze5 l 0).1).1 = Zl l := by
   intro l hq h
   match l, hq, h with
   | [], _, _ => exact ⟨Int.le_refl _, by decide, rfl⟩
   | x :: r, hq, h =>
    have hx0 : ¬ (x == 0#8) = true := fun q => hq (.inr ⟨by simp, q⟩)
    have hx : 0 < x.toNat := by
     rcases Nat.eq_zero_or_pos x.toNat with e | e
     ·exact absurd (beq_iff_eq.2 (BitVec.eq_of_toNat_eq (by simpa using e))) hx0
     ·exact e
    have hr : r.length ≤ 7 := by have : ¬ 8 < (x :: r).length := fun q => hq (.inl q); simp at this; omega
    have hlt := x.isLt
    have e0 : Ze5 (x :: r) 0 = Ze5 r x.toNat := by rw [Ze5, if_neg (by omega)]; simp
    rw [e0] at h ⊢
    have hnn : ∀ (l : Bs) (v : Nat), 0 ≤ (Ze5 l v).1 := by
     intro l
     induction l with
     | nil => intro v; rw [Ze5]; exact Int.natCast_nonneg v
     | cons y l ih => intro v; rw [Ze5]; split; exact Int.le_refl _; exact ih _
    have h1 := hnn r x.toNat
    have hv : Ze5 r x.toNat = (((Ze5 r x.toNat).1.toNat : Int), 0) := Prod.ext (by show _ = ((Ze5 r x.toNat).1.toNat : Int); omega) h
    obtain ⟨q1, q2⟩ := Zt8 r x.toNat _ (8 - r.length) [] hv hx
    have hn := q2 (by omega)
    refine ⟨h1, by omega, ?_⟩
    unfold Zp
    rw [if_pos ⟨h1, by omega⟩, Zsc]
    rw [show 8 - r.length + r.length = 8 by omega] at q1
    rw [q1, show 8 - r.length = (7 - r.length) + 1 by omega, beL, if_neg (by omega), show x.toNat / 256 = 0 by omega, Zmn, Zhp x _ (by omega) (by omega), List.append_nil]
  have := key (bl s) hq h
  rw [Zh6] at this
  exact this
theorem Z2y {s : ByteArray} (h : s.size = 32) : Zl (dgL (cpD s)) = s := by
 rw [← Zh6 s]
 congr 1
 have hl : (bl s).length = 32 := by rw [Zb5, h]
 rw [Zh6]
 apply List.ext_getElem (by rw [Ze2, hl])
 intro i h1 h2
 rw [Ze2] at h1
 simp only [dgL, List.getElem_map, List.getElem_range, cpD]
 rw [if_pos (by omega), List.getD_eq_getElem?_getD, List.getElem?_eq_getElem h2]; rfl
theorem Z05 {h : Head} (e : Zbm h = 0) : Zbt h := by
 rw [Zgo] at e
 exact Decidable.byContradiction fun q => by rw [if_neg q] at e; exact absurd e (by decide)
theorem Zvq (L : Nat) : ∀ k, pK L k = min k L
 | 0 => by simp [pK]
 | k + 1 => by
  rw [pK, Zvq L k]; unfold nxP
  split <;> omega
theorem Zu7 {l : Bs} (e : (Zax l).2 = 0) : ∃ a b c d f, ofF l = (true, [a, b, c, d, f]) ∧ (Zq a).2 = 0 ∧ (Zq b).2 = 0 ∧ (Zq c).2 = 0 ∧ d.size = 32 ∧ (Zq f).2 = 0 ∧ (Zax l).1 = ⟨(Zq a).1, (Zq b).1, (Zq c).1, cpD d, (Zq f).1⟩ ∧ Zbt (Zax l).1 := by
 unfold Zax at e ⊢
 generalize ofF l = p at e ⊢
 obtain ⟨ok, ls⟩ := p
 dsimp only at e ⊢
 split at e
 ·rename_i q
  rw [if_pos q]
  have q' := q
  simp only [Bool.and_eq_true, decide_eq_true_eq] at q
  obtain ⟨⟨⟨⟨⟨⟨⟨⟨⟨⟨a0, a1⟩, a2⟩, a3⟩, a4⟩, a5⟩, a6⟩, a7⟩, a8⟩, a9⟩, a10⟩ := q
  split at e
  ·exact absurd e (by decide)
  ·rename_i r1
   rw [if_neg r1]
   split at e
   ·exact absurd e (by decide)
   ·rename_i r2
    rw [if_neg r2]
    have L5 : ls.length = 5 := by
     rw [Zvq] at a9 r1
     unfold Zak at r1
     omega
    match ls, L5 with
    | [a, b, c, d, f], _ =>
     have r2' := Decidable.byContradiction r2
     subst a0
     refine ⟨a, b, c, d, f, rfl, a2, a4, a6, a8, a10, ?_, Z05 r2'⟩
     dsimp only
     congr 1
     show Zc8 _ d = cpD d
     unfold Zc8
     rw [if_pos]
     simp only [Bool.and_eq_true, decide_eq_true_eq]
     exact ⟨⟨⟨⟨⟨⟨⟨trivial, a1⟩, a2⟩, a3⟩, a4⟩, a5⟩, a6⟩, a7⟩
 ·exact absurd e (by decide)
theorem Zzx {l : Bs} (e : (Zb9 l).2 = 0) : ∃ a b c, ofF l = (true, [a, b, c]) ∧ (Zax (bl a)).2 = 0 ∧ (Zq b).2 = 0 ∧ c.size = 32 ∧ (Zb9 l).1 = ⟨(Zax (bl a)).1, (Zq b).1, cpD c⟩ ∧ Zfy (Zb9 l).1 := by
 unfold Zb9 at e ⊢
 generalize ofF l = p at e ⊢
 obtain ⟨ok, ls⟩ := p
 dsimp only at e ⊢
 split at e
 ·rename_i q
  rw [if_pos q]
  simp only [Bool.and_eq_true, decide_eq_true_eq] at q
  obtain ⟨⟨⟨⟨⟨a0, a1⟩, a3⟩, a4⟩, a5⟩, a6⟩ := q
  split at e
  ·exact absurd e (by decide)
  ·rename_i r0
   rw [if_neg r0]
   split at e
   ·exact absurd e (by decide)
   ·rename_i r1
    rw [if_neg r1]
    split at e
    ·rename_i r2
     rw [if_pos r2]
     split at e
     ·rename_i r3
      rw [if_pos r3]
      have L5 : ls.length = 3 := by
       rw [Zvq] at a5 r1
       unfold Zak at r1
       omega
      match ls, L5 with
      | [a, b, c], _ =>
       have r0' := Decidable.byContradiction r0
       subst a0
       have hd : Zc8 ((((true && decide (pK 3 0 < 3)) && decide (pK 3 1 < 3)) && decide ((Zq b).2 = 0)) && decide (pK 3 2 < 3)) c = cpD c := by
        unfold Zc8
        rw [if_pos]
        simp only [Bool.and_eq_true, decide_eq_true_eq]
        exact ⟨⟨⟨⟨trivial, a1⟩, a3⟩, a4⟩, a5⟩
       refine ⟨a, b, c, rfl, r0', a4, a6, ?_, (Zu7 r0').elim fun _ q => ?_⟩
       ·dsimp only
        congr 1
       ·obtain ⟨_, _, _, _, _, _, _, _, _, _, _, g⟩ := q
        exact ⟨g, r2, r3⟩
     ·exact absurd e (by decide)
    ·exact absurd e (by decide)
 ·exact absurd e (by decide)
end Go.Flat
