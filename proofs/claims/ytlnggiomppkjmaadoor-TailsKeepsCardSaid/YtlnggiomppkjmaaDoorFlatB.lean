/- Walks. -/
import Derived.Test.YtlnggiomppkjmaaDoorFlatA
import Derived.KernelRfl
set_option linter.unusedVariables false
set_option linter.unusedSimpArgs false
set_option linter.unusedSectionVars false
section
/- Calls: a contract over a small heap, used in a greater one. -/
namespace Go.Flat

def Z6 (P : Program) (G : Glob) (f : FuncId) (args : List Value) (σ : List Blk) (res : Value) (σ' : List Blk) : Prop :=
  ∀ m w args', HRel G m σ w → L2 (VR m) args args' →
    Calls P f args'.toArray w fun e w' => ∃ v' m', e = .returned v' ∧ HRel G m' σ' w' ∧ VR m' res v' ∧ Frame ⟨m, w, []⟩ m' w'


abbrev Emb := List (Option (Nat × Nat))

def Zc8 (e : Emb) : Value → Value
  | .pointer (some ⟨b, o, none⟩) => match (e[b]?).bind id with | some (i, sh) => .pointer (some ⟨i, sh + o, none⟩) | none => dead
  | .slice (some ⟨b, o, _⟩) n c => match (e[b]?).bind id with | some (i, sh) => .slice (some ⟨i, sh + o, none⟩) n c | none => dead
  | v => v
def Ze6 (e : Emb) : Value → Value
  | .func f xs ys => .func f (xs.map (Zc8 e)) (ys.map (Zc8 e))
  | v => Zc8 e v
def Z2u (e : Emb) : Value → Value
  | .agg cs => .agg (cs.map (Ze6 e))
  | v => Ze6 e v
def Zg6 (e : Emb) (v : Value) : Value := if Za2 v then v else Z2u e v
def Zmq (e : Emb) (v : Value) : Value := match v with | .tuple vs => .tuple (vs.map (Zg6 e)) | v => Zg6 e v
def Zci (e : Emb) (L : Blk) : List Value := if L.pur then L.cells else L.cells.map (Ze6 e)

def Zbn (r : Reg) (sh : Nat) (L : Blk) : Reg := if L.wr then { r with mv := L.mv } else ⟨r.g, r.lo + sh, r.hi, L.cells.length, L.sz, false, L.fix, L.mv⟩
def Zdu (L : Blk) : Reg := ⟨0, 0, 0, 0, L.sz, L.wr, L.fix, L.mv⟩
def mE (mc : MapM) (e : Emb) (σ : List Blk) : MapM := fun i =>
  match e[i]?, σ[i]? with
  | some (some (id, sh)), some L => (mc id).map fun r => Zbn r sh L
  | some none, some L => some (Zdu L)
  | _, _ => none

def Zn9 (H : List Blk) (e : Emb) (p : Option (Nat × Nat)) (L : Blk) : Prop :=
  match p with
  | none => L.wr = false ∧ L.cells = [] ∧ 0 < L.sz
  | some (id, sh) => ∃ B, H[id]? = some B ∧ (0 < L.sz ∧ 0 < B.sz ∧ (B.fix = true → B.mv = false)) ∧ L.fix = B.fix ∧ (L.fix = false → L.sz = B.sz) ∧ (L.pur = true → B.pur = true) ∧ sh + L.cells.length ≤ B.cells.length ∧
      (L.wr = true → B.wr = true ∧ sh = 0 ∧ L.sz = B.sz ∧ (L.mv = true → B.mv = true) ∧ L.pur = B.pur ∧ L.cells.length = B.cells.length) ∧
      (B.cells.drop sh).take L.cells.length = Zci e L
structure EmbOK (H : List Blk) (e : Emb) (σ : List Blk) : Prop where
  len : e.length = σ.length
  one : ∀ (i : Nat) (p : Option (Nat × Nat)) (L : Blk), e[i]? = some p → σ[i]? = some L → Zn9 H e p L
  dist : ∀ (i j : Nat) (id sh sh' : Nat) (L : Blk), i ≠ j → e[i]? = some (some (id, sh)) → σ[i]? = some L → L.wr = true → e[j]? ≠ some (some (id, sh'))

theorem Zff {mc : MapM} {e : Emb} {σ : List Blk} {i id sh : Nat} {L : Blk} (h1 : e[i]? = some (some (id, sh))) (h2 : σ[i]? = some L) : mE mc e σ i = (mc id).map fun r => Zbn r sh L := by simp [mE, h1, h2]

theorem Zd8 {mc : MapM} {H : List Blk} {e : Emb} {σ : List Blk} (hE : EmbOK H e σ) {i : Nat} {r : Reg} (h : mE mc e σ i = some r) :
  (∃ id sh L r0 B, e[i]? = some (some (id, sh)) ∧ σ[i]? = some L ∧ mc id = some r0 ∧ r = Zbn r0 sh L ∧ H[id]? = some B ∧ (0 < L.sz ∧ 0 < B.sz ∧ (B.fix = true → B.mv = false)) ∧ L.fix = B.fix ∧ (L.fix = false → L.sz = B.sz) ∧ (L.pur = true → B.pur = true) ∧ sh + L.cells.length ≤ B.cells.length ∧
   (L.wr = true → B.wr = true ∧ sh = 0 ∧ L.sz = B.sz ∧ (L.mv = true → B.mv = true) ∧ L.pur = B.pur ∧ L.cells.length = B.cells.length) ∧ (B.cells.drop sh).take L.cells.length = Zci e L) ∨
  (∃ L, e[i]? = some none ∧ σ[i]? = some L ∧ r = Zdu L ∧ L.wr = false ∧ L.cells = [] ∧ 0 < L.sz) := by
 unfold mE at h
 split at h
 ·rename_i id sh L h1 h2
  cases hm : mc id with
  | none => simp [hm] at h
  | some r0 =>
   simp only [hm, Option.map_some] at h
   injection h with h
   obtain ⟨B, hB, rest⟩ := hE.one i _ L h1 h2
   exact .inl ⟨id, sh, L, r0, B, h1, h2, hm, h.symm, hB, rest⟩
 ·rename_i L h1 h2
  injection h with h
  exact .inr ⟨L, h1, h2, h.symm, hE.one i _ L h1 h2⟩
 ·cases h

def inE (e : Emb) (b : Nat) : Bool := match e[b]? with | some (some _) => true | _ => false
theorem Zsp {e : Emb} {b : Nat} (h : inE e b = true) : ∃ i sh, e[b]? = some (some (i, sh)) := by
 unfold inE at h
 split at h
 ·rename_i p hp; obtain ⟨i, sh⟩ := p; exact ⟨i, sh, hp⟩
 ·cases h
theorem Znx {mc : MapM} {H : List Blk} {G : Glob} {w : World} {e : Emb} {σ : List Blk} (hH : HRel G mc H w) (hE : EmbOK H e σ) {v v' : Value} (h : CR0 mc (Zc8 e v) v') (hok : Zcx (inE e) v = true) : CR0 (mE mc e σ) v v' := by
  cases v
  case pointer a =>
    rcases a with _ | ⟨b, o, _ | q⟩
    · exact h
    · obtain ⟨id, sh, he⟩ := Zsp (e := e) (b := b) hok
      simp only [Zc8, he, Option.bind_some, _root_.id] at h
      obtain ⟨r, hr, rfl⟩ : ∃ r, mc id = some r ∧ v' = .pointer (some ⟨r.g, r.lo + (sh + o), none⟩) := h
      have hb : b < σ.length := by rw [← hE.len]; exact (List.getElem?_eq_some_iff.1 he).1
      obtain ⟨B, hB, _, _, _, _, _, hw, _⟩ := hE.one b _ σ[b] he (by simp [hb])
      refine ⟨Zbn r sh σ[b], by rw [Zff he (by simp [hb] : σ[b]? = some σ[b]), hr]; rfl, ?_⟩
      unfold Zbn
      split
      · rename_i hwr
        have := (hw hwr).2.1
        subst this; simp
      · simp [Nat.add_assoc]
    · exact h
  case slice a n c =>
    rcases a with _ | ⟨b, o, q⟩
    · exact h
    · obtain ⟨id, sh, he⟩ := Zsp (e := e) (b := b) hok
      simp only [Zc8, he, Option.bind_some, _root_.id] at h
      obtain ⟨r, a', c', hr, rfl, hs⟩ : ∃ r a' c', mc id = some r ∧ v' = .slice a' n c' ∧ Zhd r (sh + o) n c a' c' := h
      have hb : b < σ.length := by rw [← hE.len]; exact (List.getElem?_eq_some_iff.1 he).1
      obtain ⟨B, hB, hsz, hfx, hfs, _, _, hw, _⟩ := hE.one b _ σ[b] he (by simp [hb])
      obtain ⟨_, hrw, hrf, hrl, hrs, hrm⟩ := hH.at_ hB hr
      refine ⟨Zbn r sh σ[b], a', c', by rw [Zff he (by simp [hb] : σ[b]? = some σ[b]), hr]; rfl, rfl, hs.1, hs.2.1, fun h0 => ?_⟩
      obtain ⟨h1, h2⟩ := hs.2.2 h0
      unfold Zbn
      split
      · rename_i hwr
        have := (hw hwr).2.1
        subst this
        exact ⟨by rw [h1]; simp, fun hf => by have := h2.1 hf; simpa using this, fun _ hf hv => by
          simp only at hf hv
          have h3 := (hw hwr).2.2.2.1 hv
          rw [hsz.2.2 (by rw [← hrf]; exact hf)] at h3; cases h3⟩
      · refine ⟨by rw [h1, Nat.add_assoc], fun hf => ?_, fun hc => by simp at hc⟩
        simp only at hf ⊢
        have := h2.1 (by rw [hrf, ← hfx]; exact hf)
        rw [hfs hf, ← hrs]; omega
  all_goals exact h

theorem Zjh {e : Emb} {v : Value} (h : Zuh v = false) : Ze6 e v = Zc8 e v := by cases v <;> first | rfl | cases h
theorem Zmi {e : Emb} {v : Value} (h : Zuh v = false) : Zuh (Zc8 e v) = false := by
  cases v
  case pointer a => rcases a with _ | ⟨b, o, _ | q⟩ <;> simp only [Zc8] <;> first | rfl | (split <;> rfl)
  case slice a n c => rcases a with _ | ⟨b, o, q⟩ <;> simp only [Zc8] <;> first | rfl | (split <;> rfl)
  case func => cases h
  all_goals rfl

theorem Zqv {mc : MapM} {H : List Blk} {G : Glob} {w : World} {e : Emb} {σ : List Blk} (hH : HRel G mc H w) (hE : EmbOK H e σ) {v v' : Value} (h : CR mc (Ze6 e v) v') (hok : Zan (inE e) v = true) : CR (mE mc e σ) v v' := by
 revert h hok
 refine Zem (P := fun v => CR mc (Ze6 e v) v' → Zan (inE e) v = true → CR (mE mc e σ) v v') ?_ ?_ v
 ·intro v hf h hok
  rw [Zjh hf, Zi7 (Zmi hf)] at h
  rw [Zi7 hf]
  rw [Zia hf] at hok
  exact Znx hH hE h hok
 ·intro f xs ys h hok
  obtain ⟨xs', ys', rfl, h1, h2⟩ := h
  simp only [Zan, Bool.and_eq_true, List.all_eq_true] at hok
  simp only [Array.toList_map] at h1 h2
  exact ⟨xs', ys', rfl, h1.of_map_left fun x hx y hxy => Znx hH hE hxy (hok.1 x hx), h2.of_map_left fun x hx y hxy => Znx hH hE hxy (hok.2 x hx)⟩

def Zpf (e : Emb) (vL vC : Value) : Prop :=
  match vL with
  | .slice (some ⟨b, o, none⟩) n c => match e[b]? with
    | some (some (i, sh)) => (match vC with | .slice (some ⟨i2, o2, none⟩) n2 c2 => i2 = i ∧ o2 = sh + o ∧ n2 = n ∧ c ≤ c2 ∧ n ≤ c | _ => False)
    | some none => vC = .slice none 0 0 ∧ o = 0 ∧ n = 0 ∧ c = 0
    | none => False
  | vL => vC = Ze6 e vL ∧ Zan (inE e) vL = true
def Zvo (e : Emb) : List Value → List Value → Prop
  | [], [] => True
  | x :: xs, y :: ys => Zpf e x y ∧ Zvo e xs ys
  | _, _ => False
def Zii (e : Emb) (vL vC : Value) : Prop :=
  if Za2 vL then vC = vL else match vL with
  | .agg cs => (match vC with | .agg ds => Zvo e cs.toList ds.toList | _ => False)
  | .tuple _ => False
  | v => Zpf e v vC
def Zix (e : Emb) : List Value → List Value → Prop
  | [], [] => True
  | x :: xs, y :: ys => Zii e x y ∧ Zix e xs ys
  | _, _ => False

theorem Zyp {mc : MapM} {H : List Blk} {G : Glob} {w : World} {e : Emb} {σ : List Blk} (hH : HRel G mc H w) (hE : EmbOK H e σ) {vL vC v' : Value} (ha : Zpf e vL vC) (h : CR mc vC v') : CR (mE mc e σ) vL v' := by
  unfold Zpf at ha
  split at ha
  · rename_i b o n c
    split at ha
    · rename_i i sh he
      split at ha
      · rename_i i2 o2 n2 c2
        obtain ⟨rfl, rfl, rfl, hc, hn⟩ := ha
        obtain ⟨r, a', c', hr, rfl, hs⟩ : ∃ r a' c', mc i2 = some r ∧ v' = .slice a' n2 c' ∧ Zhd r (sh + o) n2 c2 a' c' := h
        have h2 : CR mc (Ze6 e (.slice (some ⟨b, o, none⟩) n2 c2)) (.slice a' n2 c') := by
          rw [Zjh rfl, Zi7 (Zmi rfl)]
          simp only [Zc8, he, Option.bind_some, id]
          exact ⟨r, a', c', hr, rfl, hs⟩
        obtain ⟨r1, a1, c1, g1, g2, g3⟩ : ∃ r a1 c1, mE mc e σ b = some r ∧ Value.slice a' n2 c' = .slice a1 n2 c1 ∧ Zhd r o n2 c2 a1 c1 := Zqv hH hE h2 (by show inE e b = true; simp [inE, he])
        refine ⟨r1, a1, c1, g1, g2, hn, Nat.le_trans hc g3.2.1, fun h0 => ⟨(g3.2.2 h0).1, (g3.2.2 h0).2.1, fun e1 e2 e3 => ?_⟩⟩
        rcases Zd8 hE g1 with ⟨id', sh', L, r0, B, k1, k2, k3, rfl, hB, hsz, hfx, hfs, hpu, hle, hw, hcc⟩ | ⟨L, k1, k2, rfl, hw, hce, hsz⟩
        · unfold Zbn at e1 e2 e3
          by_cases hL : L.wr = true
          · rw [if_pos hL] at e1 e2 e3
            simp only at e1 e2 e3
            obtain ⟨_, _, hrf, _⟩ := hH.at_ hB k3
            have h3 := (hw hL).2.2.2.1 e3
            rw [hsz.2.2 (by rw [← hrf]; exact e2)] at h3; cases h3
          · rw [if_neg hL] at e1; cases e1
        · simp only [Zdu] at e1; rw [hw] at e1; cases e1
      · cases ha
    · rename_i he
      obtain ⟨rfl, rfl, rfl, rfl⟩ := ha
      have hv : v' = .slice none 0 0 := h
      subst hv
      have hb : b < σ.length := by rw [← hE.len]; exact (List.getElem?_eq_some_iff.1 he).1
      refine ⟨Zdu σ[b], none, 0, by simp [mE, he, hb], rfl, Nat.le_refl _, Nat.le_refl _, fun h => by omega⟩
    · cases ha
  · obtain ⟨rfl, hok⟩ := ha
    exact Zqv hH hE h hok

theorem Zvq {mc : MapM} {H : List Blk} {G : Glob} {w : World} {e : Emb} {σ : List Blk} (hH : HRel G mc H w) (hE : EmbOK H e σ) : ∀ (xs ys zs : List Value), Zvo e xs ys → L2 (CR mc) ys zs → L2 (CR (mE mc e σ)) xs zs
 | [], [], zs, _, h => by have := h.nil_inv; subst this; exact L2.nil
 | x :: xs, y :: ys, zs, ha, h => by
  obtain ⟨z, zs', rfl, h1, h2⟩ := h.inv
  exact L2.cons (Zyp hH hE ha.1 h1) (Zvq hH hE xs ys zs' ha.2 h2)
 | [], _ :: _, _, ha, _ => ha.elim
 | _ :: _, [], _, ha, _ => ha.elim

theorem Zwg {e : Emb} {v : Value} (h : Zhe v = false) : Z2u e v = Ze6 e v := by cases v <;> first | rfl | cases h
theorem Zj1 (e : Emb) (v : Value) : Zhe (Ze6 e v) = Zhe v ∧ Zhw (Ze6 e v) = Zhw v := by
 cases v
 case pointer a =>
  rcases a with _ | ⟨b, o, _ | q⟩
  ·exact ⟨rfl, rfl⟩
  ·simp only [Ze6, Zc8]
   cases (e[b]?).bind id <;> exact ⟨rfl, rfl⟩
  ·exact ⟨rfl, rfl⟩
 case slice a n c =>
  rcases a with _ | ⟨b, o, q⟩
  ·exact ⟨rfl, rfl⟩
  ·simp only [Ze6, Zc8]
   cases (e[b]?).bind id <;> exact ⟨rfl, rfl⟩
 all_goals exact ⟨rfl, rfl⟩
theorem Zps {e : Emb} {vL vC : Value} (ha : Zpf e vL vC) (h : Zhe vL = false) (h' : Zhw vL = false) : Zhe vC = false ∧ Zhw vC = false := by
 unfold Zpf at ha
 split at ha
 ·split at ha
  ·split at ha
   ·exact ⟨rfl, rfl⟩
   ·cases ha
  ·obtain ⟨rfl, _⟩ := ha; exact ⟨rfl, rfl⟩
  ·cases ha
 ·obtain ⟨rfl, hok⟩ := ha
  exact ⟨by rw [(Zj1 e vL).1, h], by rw [(Zj1 e vL).2, h']⟩

theorem Znu {mc : MapM} {H : List Blk} {G : Glob} {w : World} {e : Emb} {σ : List Blk} (hH : HRel G mc H w) (hE : EmbOK H e σ) {vL vC v' : Value} (ha : Zii e vL vC) (h : VR mc vC v') : VR (mE mc e σ) vL v' := by
 unfold Zii at ha
 split at ha
 ·rename_i hp
  subst ha
  have := h.pure hp
  subst this
  exact VR.of_pure hp
 ·split at ha
  ·rename_i cs
   split at ha
   ·rename_i ds
    obtain ⟨ds', rfl, h1⟩ := h
    exact ⟨ds', rfl, Zvq hH hE _ _ _ ha h1⟩
   ·cases ha
  ·cases ha
  ·rename_i hna hnt
   have h1 : Zhe vL = false := by cases vL <;> first | rfl | exact absurd rfl (hna _)
   have h2 : Zhw vL = false := by cases vL <;> first | rfl | exact absurd rfl (hnt _)
   obtain ⟨h3, h4⟩ := Zps ha h1 h2
   rw [Zfp h2, Zhq h1]
   rw [Zfp h4, Zhq h3] at h
   exact Zyp hH hE ha h
theorem Zni {mc : MapM} {H : List Blk} {G : Glob} {w : World} {e : Emb} {σ : List Blk} (hH : HRel G mc H w) (hE : EmbOK H e σ) : ∀ (xs ys zs : List Value), Zix e xs ys → L2 (VR mc) ys zs → L2 (VR (mE mc e σ)) xs zs
 | [], [], zs, _, h => by have := h.nil_inv; subst this; exact L2.nil
 | x :: xs, y :: ys, zs, ha, h => by
  obtain ⟨z, zs', rfl, h1, h2⟩ := h.inv
  exact L2.cons (Znu hH hE ha.1 h1) (Zni hH hE xs ys zs' ha.2 h2)
 | [], _ :: _, _, ha, _ => ha.elim
 | _ :: _, [], _, ha, _ => ha.elim

theorem HRel.embed {mc : MapM} {H : List Blk} {G : Glob} {w : World} {e : Emb} {σ : List Blk} (hH : HRel G mc H w) (hE : EmbOK H e σ)
    (hnm : ∀ (i : Nat) (L : Blk), σ[i]? = some L → L.pur = true ∨ ∀ v, v ∈ L.cells → Zan (inE e) v = true) : HRel G (mE mc e σ) σ w := by
  refine ⟨?_, ?_, ?_, ?_, ?_, ?_, ?_, ?_, ?_⟩
  · intro i r hr
    rcases Zd8 hE hr with ⟨id, sh, L, r0, B, h1, h2, h3, rfl, hB, hsz, hfx, hfs, hpu, hle, hw, hc⟩ | ⟨L, h1, h2, rfl, hw, hce, hsz⟩
    · obtain ⟨_, hrw, hrf, hrl, hrs, hrm⟩ := hH.at_ hB h3
      refine ⟨L, h2, hsz.1, ?_⟩
      unfold Zbn
      by_cases hwr : L.wr = true
      · obtain ⟨g1, g2, g3, g4, g5, g6⟩ := hw hwr
        rw [if_pos hwr]
        exact ⟨by rw [hwr]; simp only; rw [hrw, g1], by simp only; rw [hrf, hfx], by simp only; rw [hrl, g6], by simp only; rw [hrs, g3], rfl⟩
      · rw [if_neg hwr]
        exact ⟨by simpa using hwr, rfl, rfl, rfl, rfl⟩
    · exact ⟨L, h2, hsz, rfl, rfl, by rw [hce]; rfl, rfl, rfl⟩
  · intro i L hL hsz
    have hi : i < σ.length := (List.getElem?_eq_some_iff.1 hL).1
    obtain ⟨p, hp'⟩ : ∃ p, e[i]? = some p := ⟨e[i]'(by rw [hE.len]; exact hi), by simp [hE.len, hi]⟩
    cases p with
    | none => exact ⟨Zdu L, by simp [mE, hp', hL]⟩
    | some p =>
      obtain ⟨id, sh⟩ := p
      obtain ⟨B, hB, hsz2, _⟩ := hE.one i _ L hp' hL
      obtain ⟨r, hr⟩ := hH.live id B hB hsz2.2.1
      exact ⟨Zbn r sh L, by rw [Zff hp' hL, hr]; rfl⟩
  · intro i L r j v hL hr hv
    rcases Zd8 hE hr with ⟨id, sh, L', r0, B, h1, h2, h3, rfl, hB, hsz, hfx, hfs, hpu, hle, hw, hc⟩ | ⟨L', h1, h2, rfl, hw, hce, hsz⟩
    · rw [hL] at h2; injection h2 with h2; subst h2
      have hj : j < L.cells.length := (List.getElem?_eq_some_iff.1 hv).1
      have hcj : B.cells[sh + j]? = (Zci e L)[j]? := by
        rw [← hc, List.getElem?_take, if_pos hj, List.getElem?_drop]
      have haddr : (⟨(Zbn r0 sh L).g, (Zbn r0 sh L).lo + j, none⟩ : Addr) = ⟨r0.g, r0.lo + (sh + j), none⟩ := by
        unfold Zbn
        split
        · rename_i hwr; have := (hw hwr).2.1; subst this; simp
        · simp [Nat.add_assoc]
      rw [haddr]
      unfold Zci at hcj
      by_cases hp : L.pur = true
      · rw [if_pos hp, hv] at hcj
        obtain ⟨v', g1, g2⟩ := hH.cell id B r0 _ v hB h3 hcj
        have hpv := hH.pur id B hB (hpu hp) v (List.mem_of_getElem? hcj)
        refine ⟨v', g1, ?_⟩
        rw [g2.pure hpv]; exact CR.of_pure hpv
      · rw [if_neg hp, List.getElem?_map, hv, Option.map_some] at hcj
        obtain ⟨v', g1, g2⟩ := hH.cell id B r0 _ _ hB h3 hcj
        refine ⟨v', g1, Zqv hH hE g2 ?_⟩
        rcases hnm i L hL with h | h
        · exact absurd h hp
        · exact h v (List.mem_of_getElem? hv)
    · rw [hL] at h2; injection h2 with h2; subst h2
      rw [hce] at hv; simp at hv
  · intro i L hL hp v hv
    have hi : i < σ.length := (List.getElem?_eq_some_iff.1 hL).1
    obtain ⟨p, hp'⟩ : ∃ p, e[i]? = some p := ⟨e[i]'(by rw [hE.len]; exact hi), by simp [hE.len, hi]⟩
    have h1 := hE.one i p L hp' hL
    cases p with
    | none => have := h1.2.1; rw [this] at hv; cases hv
    | some p =>
      obtain ⟨id, sh⟩ := p
      obtain ⟨B, hB, hsz, hfx, hfs, hpu, hle, hw, hc⟩ := h1
      unfold Zci at hc
      rw [if_pos hp] at hc
      rw [← hc] at hv
      exact hH.pur id B hB (hpu hp) v (List.mem_of_mem_drop (List.mem_of_mem_take hv))
  · intro i r hr hwr
    rcases Zd8 hE hr with ⟨id, sh, L, r0, B, h1, h2, h3, rfl, hB, hsz, hfx, hfs, hpu, hle, hw, hc⟩ | ⟨L, h1, h2, rfl, hw, hce, hsz⟩
    · unfold Zbn at hwr ⊢
      by_cases hL : L.wr = true
      · obtain ⟨_, hrw, _⟩ := hH.at_ hB h3
        rw [if_pos hL] at hwr ⊢
        exact hH.own id r0 h3 hwr
      · rw [if_neg hL] at hwr; cases hwr
    · simp only [Zdu] at hwr; rw [hw] at hwr; cases hwr
  · intro i r hr hwr hs1 hlh
    rcases Zd8 hE hr with ⟨id, sh, L, r0, B, h1, h2, h3, rfl, hB, hsz, hfx, hfs, hpu, hle, hw, hc⟩ | ⟨L, h1, h2, rfl, hw, hce, hsz⟩
    · unfold Zbn at hwr hs1 hlh ⊢
      by_cases hL : L.wr = true
      · rw [if_pos hL] at hwr hs1 hlh ⊢
        exact hH.clean id r0 h3 hwr hs1 hlh
      · rw [if_neg hL] at hwr; cases hwr
    · simp only [Zdu] at hwr; rw [hw] at hwr; cases hwr
  · intro i j r r' hij hr hr' hwr hg q h1 h2 h3 h4
    rcases Zd8 hE hr with ⟨id, sh, L, r0, B, e1, e2, e3, rfl, hB, hsz, hfx, hfs, hpu, hle, hw, hc⟩ | ⟨L, e1, e2, rfl, hw, hce, hsz⟩
    · unfold Zbn at hwr hg h1 h2
      by_cases hL : L.wr = true
      · rw [if_pos hL] at hwr hg h1 h2
        simp only at hg h1 h2 hwr
        rcases Zd8 hE hr' with ⟨id', sh', L', r0', B', f1, f2, f3, rfl, hB', hsz', hfx', hfs', hpu', hle', hw', hc'⟩ | ⟨L', f1, f2, rfl, hw', hce', hsz'⟩
        · have hne : id ≠ id' := by
            rintro rfl
            exact hE.dist i j id sh sh' L hij e1 e2 hL f1
          obtain ⟨_, grw, _, grl, _⟩ := hH.at_ hB' f3
          unfold Zbn Reg.ext at h4
          unfold Zbn at hg h3
          by_cases hL' : L'.wr = true
          · simp only [if_pos hL'] at hg h3 h4
            exact hH.dis id id' r0 r0' hne e3 f3 hwr hg q h1 h2 h3 (by unfold Reg.ext; exact h4)
          · simp only [if_neg hL'] at hg h3 h4
            simp only [Bool.false_eq_true, if_false] at h4
            refine hH.dis id id' r0 r0' hne e3 f3 hwr hg q h1 h2 (by omega) ?_
            unfold Reg.ext
            split
            · rename_i hww; have := (hH.own id' r0' f3 hww).1; omega
            · omega
        · simp only [Zdu, Reg.ext, hw', hce', Bool.false_eq_true, if_false] at h4 h3
          omega
      · rw [if_neg hL] at hwr; cases hwr
    · simp only [Zdu] at hwr; rw [hw] at hwr; cases hwr
  · exact hH.glob
  · intro i r q hr hwr h1 h2
    rcases Zd8 hE hr with ⟨id, sh, L, r0, B, e1, e2, e3, rfl, hB, hsz, hfx, hfs, hpu, hle, hw, hc⟩ | ⟨L, e1, e2, rfl, hw, hce, hsz⟩
    · unfold Zbn at hwr h1 h2 ⊢
      by_cases hL : L.wr = true
      · rw [if_pos hL] at hwr h1 h2 ⊢
        exact hH.gwr id r0 q e3 hwr h1 h2
      · rw [if_neg hL] at hwr; cases hwr
    · simp only [Zdu] at hwr; rw [hw] at hwr; cases hwr

theorem Zj4.embed {mc : MapM} {H : List Blk} {G : Glob} {w : World} {e : Emb} {σ : List Blk} (hH : HRel G mc H w) (hE : EmbOK H e σ) {g j : Nat} (h : Zj4 (mE mc e σ) g j) :
    ∃ (i id sh : Nat) (L : Blk) (r0 : Reg), e[i]? = some (some (id, sh)) ∧ σ[i]? = some L ∧ L.wr = true ∧ mc id = some r0 ∧ r0.wr = true ∧ r0.g = g ∧ r0.lo ≤ j ∧ j < r0.hi := by
  obtain ⟨i, r, hr, hwr, hg, h1, h2⟩ := h
  rcases Zd8 hE hr with ⟨id, sh, L, r0, B, e1, e2, e3, rfl, hB, hsz, hfx, hfs, hpu, hle, hw, hc⟩ | ⟨L, e1, e2, rfl, hw, hce, hsz⟩
  · unfold Zbn at hwr hg h1 h2
    by_cases hL : L.wr = true
    · rw [if_pos hL] at hwr hg h1 h2
      exact ⟨i, id, sh, L, r0, e1, e2, hL, e3, hwr, hg, h1, h2⟩
    · rw [if_neg hL] at hwr; cases hwr
  · simp only [Zdu] at hwr; rw [hw] at hwr; cases hwr

end Go.Flat
end
section
/- What a call leaves, in the caller's heap. -/
namespace Go.Flat

def Zga (e : Emb) (σ : List Blk) (i b : Nat) : Prop := ∃ (sh : Nat) (L : Blk), e[i]? = some (some (b, sh)) ∧ σ[i]? = some L ∧ L.wr = true ∧ L.mv = true
def Zei (e : Emb) (nid n : Nat) : Emb := e ++ (List.range n).map fun k => some (nid + k, 0)

structure After (H H' : List Blk) (e : Emb) (σ σ' : List Blk) (nid : Nat) : Prop where
  len : σ.length ≤ σ'.length
  hlen : H'.length = H.length
  flags : ∀ (i : Nat) (L L' : Blk), σ[i]? = some L → σ'[i]? = some L' → L'.wr = L.wr ∧ L'.fix = L.fix ∧ L'.mv = L.mv ∧ L'.sz = L.sz ∧ L'.pur = L.pur
  wrs : ∀ (i : Nat) (L : Blk), σ.length ≤ i → σ'[i]? = some L → L.wr = true
  holes : ∀ k, k < σ'.length - σ.length → ∃ x, H[nid + k]? = some x ∧ x.sz = 0
  new : ∀ (k : Nat) (L : Blk), σ'[σ.length + k]? = some L → H'[nid + k]? = some { L with cells := Zci (Zei e nid (σ'.length - σ.length)) L }
  rep : ∀ (i id sh : Nat) (L L' B : Blk), e[i]? = some (some (id, sh)) → σ[i]? = some L → σ'[i]? = some L' → L.wr = true → H[id]? = some B → H'[id]? = some { B with cells := Zci (Zei e nid (σ'.length - σ.length)) L' }
  same : ∀ b, (∀ k, k < σ'.length - σ.length → b ≠ nid + k) → (∀ (i sh : Nat) (L : Blk), e[i]? = some (some (b, sh)) → σ[i]? = some L → L.wr = false) → H'[b]? = H[b]?

open Classical in
noncomputable def mB (mc m' : MapM) (e : Emb) (σ σ' : List Blk) (nid : Nat) : MapM := fun b =>
  if nid ≤ b ∧ b < nid + (σ'.length - σ.length) then m' (σ.length + (b - nid))
  else if h : ∃ i, Zga e σ i b then m' (Classical.choose h) else mc b

section
variable {G : Glob} {mc m' : MapM} {H H' : List Blk} {w w' : World} {e : Emb} {σ σ' : List Blk} {nid : Nat} {E : Ent}

theorem Zga.unique (hE : EmbOK H e σ) {i j b : Nat} (h1 : Zga e σ i b) (h2 : Zga e σ j b) : i = j := by
 obtain ⟨sh, L, a1, a2, a3, _⟩ := h1
 obtain ⟨sh', L', b1, b2, b3, _⟩ := h2
 rcases Nat.decEq i j with h | h
 ·exact absurd b1 (hE.dist i j b sh sh' L h a1 a2 a3)
 ·exact h

theorem Zun {k : Nat} (hk : k < σ'.length - σ.length) : mB mc m' e σ σ' nid (nid + k) = m' (σ.length + k) := by
 unfold mB
 rw [if_pos (by omega), show nid + k - nid = k from by omega]
theorem Zop (hE : EmbOK H e σ) (hA : After H H' e σ σ' nid) {i b : Nat} (h : Zga e σ i b) : mB mc m' e σ σ' nid b = m' i := by
 have hb : ¬ (nid ≤ b ∧ b < nid + (σ'.length - σ.length)) := by
  intro hh
  obtain ⟨sh, L, a1, a2, a3, _⟩ := h
  obtain ⟨x, hx, hx0⟩ := hA.holes (b - nid) (by omega)
  obtain ⟨B, hB, hsz, _, _, _, _, hw, _⟩ := hE.one i _ L a1 a2
  rw [show nid + (b - nid) = b from by omega, hB] at hx
  injection hx with hx; subst hx
  have := hsz.2.1
  omega
 unfold mB
 rw [if_neg hb]
 have hex : ∃ i, Zga e σ i b := ⟨i, h⟩
 rw [dif_pos hex]
 congr 1
 exact Zga.unique hE (Classical.choose_spec hex) h
theorem Zji {b : Nat} (h1 : ∀ k, k < σ'.length - σ.length → b ≠ nid + k) (h2 : ¬ ∃ i, Zga e σ i b) : mB mc m' e σ σ' nid b = mc b := by
 have hb : ¬ (nid ≤ b ∧ b < nid + (σ'.length - σ.length)) := fun hh => h1 (b - nid) (by omega) (by omega)
 unfold mB
 rw [if_neg hb, dif_neg h2]

theorem Zsy (hE : EmbOK H e σ) (hA : After H H' e σ σ' nid) {b : Nat} {r : Reg} (h : mB mc m' e σ σ' nid b = some r) :
  (∃ k, k < σ'.length - σ.length ∧ b = nid + k ∧ m' (σ.length + k) = some r) ∨ (∃ i, Zga e σ i b ∧ m' i = some r) ∨
  ((∀ k, k < σ'.length - σ.length → b ≠ nid + k) ∧ (¬ ∃ i, Zga e σ i b) ∧ mc b = some r) := by
 by_cases hb : nid ≤ b ∧ b < nid + (σ'.length - σ.length)
 ·have : b = nid + (b - nid) := by omega
  rw [this, Zun (by omega)] at h
  exact .inl ⟨b - nid, by omega, this, h⟩
 ·have h1 : ∀ k, k < σ'.length - σ.length → b ≠ nid + k := fun k hk he => hb (by omega)
  by_cases hm : ∃ i, Zga e σ i b
  ·obtain ⟨i, hi⟩ := hm
   rw [Zop hE hA hi] at h
   exact .inr (.inl ⟨i, hi, h⟩)
  ·rw [Zji h1 hm] at h
   exact .inr (.inr ⟨h1, hm, h⟩)

theorem Z18 {i n : Nat} (h : i < e.length) : (Zei e nid n)[i]? = e[i]? := by
 unfold Zei; rw [List.getElem?_append_left h]
theorem Z17 {i n : Nat} {p : Option (Nat × Nat)} (h : e.length ≤ i) (hp : (Zei e nid n)[i]? = some p) : i - e.length < n ∧ p = some (nid + (i - e.length), 0) := by
 unfold Zei at hp
 rw [List.getElem?_append_right h, List.getElem?_map] at hp
 rcases Nat.lt_or_ge (i - e.length) n with h1 | h1
 ·rw [List.getElem?_range h1] at hp
  simp at hp
  exact ⟨h1, hp.symm⟩
 ·rw [List.getElem?_eq_none (by simpa using h1)] at hp
  cases hp

theorem Z3i (hH : HRel G mc H w) (hE : EmbOK H e σ) (hA : After H H' e σ σ' nid) (hF : Frame ⟨mE mc e σ, w, []⟩ m' w') {i id sh : Nat} (hi : (Zei e nid (σ'.length - σ.length))[i]? = some (some (id, sh))) {r' : Reg} (hr : m' i = some r') :
    ∃ r, mB mc m' e σ σ' nid id = some r ∧ r.g = r'.g ∧ r.lo + sh = r'.lo ∧ r.hi = r'.hi ∧ r.fix = r'.fix ∧ (r'.fix = false → r.sz = r'.sz) ∧ (r.wr = true → r.fix = true → r.mv = true → r'.wr = true ∧ r'.fix = true ∧ r'.mv = true) := by
  rcases Nat.lt_or_ge i e.length with hlt | hge
  · rw [Z18 hlt] at hi
    have hlt' : i < σ.length := by rw [← hE.len]; exact hlt
    have hL : σ[i]? = some σ[i] := by simp [hlt']
    obtain ⟨B, hB, hsz, hfx, hfs, hpu, hle, hw, hc⟩ := hE.one i _ _ hi hL
    by_cases hm : σ[i].wr = true ∧ σ[i].mv = true
    · have hmv : Zga e σ i id := ⟨sh, _, hi, hL, hm.1, hm.2⟩
      have := (hw hm.1).2.1
      subst this
      exact ⟨r', by rw [Zop hE hA hmv]; exact hr, rfl, by simp, rfl, rfl, fun _ => rfl, fun h1 h2 h3 => ⟨h1, h2, h3⟩⟩
    · obtain ⟨r0, hr0⟩ := hH.live id B hB hsz.2.1
      have hk : m' i = some (Zbn r0 sh σ[i]) := by
        refine hF.keep i (Zbn r0 sh σ[i]) (by show mE mc e σ i = _; rw [Zff hi hL, hr0]; rfl) ?_
        unfold Zbn
        by_cases hwr : σ[i].wr = true
        · rw [if_pos hwr]; right
          simp only
          cases hmm : σ[i].mv with
          | true => exact absurd ⟨hwr, hmm⟩ hm
          | false => rfl
        · rw [if_neg hwr]; left; rfl
      rw [hr] at hk; injection hk with hk
      have hno : ¬ ∃ j, Zga e σ j id := by
        rintro ⟨j, sh', L', a1, a2, a3, a4⟩
        by_cases hij : j = i
        · subst hij; rw [hL] at a2; injection a2 with a2; subst a2; exact hm ⟨a3, a4⟩
        · exact hE.dist j i id sh' sh L' hij a1 a2 a3 hi
      have hnew : ∀ k, k < σ'.length - σ.length → id ≠ nid + k := by
        rintro k hk' rfl
        obtain ⟨x, hx, hx0⟩ := hA.holes k hk'
        rw [hB] at hx; injection hx with hx; subst hx
        have := hsz.2.1; omega
      obtain ⟨_, hrw, hrf, hrl, hrs, hrm⟩ := hH.at_ hB hr0
      refine ⟨r0, by rw [Zji hnew hno]; exact hr0, ?_⟩
      subst hk
      unfold Zbn
      by_cases hwr : σ[i].wr = true
      · have := (hw hwr).2.1
        subst this
        rw [if_pos hwr]
        exact ⟨rfl, by simp, rfl, rfl, fun _ => rfl, fun _ e2 e3 => by rw [hrm, hsz.2.2 (by rw [← hrf]; exact e2)] at e3; cases e3⟩
      · rw [if_neg hwr]
        exact ⟨rfl, rfl, rfl, by rw [hrf, hfx], fun hf => by simp only at hf ⊢; rw [hrs, hfs hf], fun _ e2 e3 => by rw [hrm, hsz.2.2 (by rw [← hrf]; exact e2)] at e3; cases e3⟩
  · obtain ⟨h1, h2⟩ := Z17 hge hi
    injection h2 with h2; injection h2 with h2 h3
    subst h2; subst h3
    have : i = σ.length + (i - e.length) := by rw [← hE.len]; omega
    exact ⟨r', by rw [Zun h1, ← this]; exact hr, rfl, by simp, rfl, rfl, fun _ => rfl, fun h1 h2 h3 => ⟨h1, h2, h3⟩⟩

theorem Zq6 (hH : HRel G mc H w) (hE : EmbOK H e σ) (hA : After H H' e σ σ' nid) (hF : Frame ⟨mE mc e σ, w, []⟩ m' w') {v v' : Value} (h : CR0 m' v v') : CR0 (mB mc m' e σ σ' nid) (Zc8 (Zei e nid (σ'.length - σ.length)) v) v' := by
 cases v
 case pointer a =>
  rcases a with _ | ⟨b, o, _ | q⟩
  ·exact h
  ·obtain ⟨r', hr, rfl⟩ := h
   simp only [Zc8]
   rcases hp : (Zei e nid (σ'.length - σ.length))[b]? with _ | _ | ⟨id, sh⟩
   ·trivial
   ·trivial
   ·obtain ⟨r, h1, h2, h3, _⟩ := Z3i hH hE hA hF hp hr
    simp only [Option.bind_some, _root_.id]
    exact ⟨r, h1, by rw [h2, ← h3, Nat.add_assoc]⟩
  ·exact h
 case slice a n c =>
  rcases a with _ | ⟨b, o, q⟩
  ·exact h
  ·obtain ⟨r', a', c', hr, rfl, hs⟩ := h
   simp only [Zc8]
   rcases hp : (Zei e nid (σ'.length - σ.length))[b]? with _ | _ | ⟨id, sh⟩
   ·trivial
   ·trivial
   ·obtain ⟨r, h1, h2, h3, h4, h5, h6, h7⟩ := Z3i hH hE hA hF hp hr
    simp only [Option.bind_some, _root_.id]
    refine ⟨r, a', c', h1, rfl, hs.1, hs.2.1, fun h0 => ?_⟩
    obtain ⟨g1, g2, g3⟩ := hs.2.2 h0
    refine ⟨by rw [g1, h2, ← h3, Nat.add_assoc], fun hf => ?_, fun e1 e2 e3 => g3 (h7 e1 e2 e3).1 (h7 e1 e2 e3).2.1 (h7 e1 e2 e3).2.2⟩
    have hf' : r'.fix = false := by rw [← h5]; exact hf
    have := g2 hf'
    simp only at this ⊢
    rw [h6 hf', h4]; omega
 all_goals exact h
theorem Zuf (hH : HRel G mc H w) (hE : EmbOK H e σ) (hA : After H H' e σ σ' nid) (hF : Frame ⟨mE mc e σ, w, []⟩ m' w') {v v' : Value} (h : CR m' v v') : CR (mB mc m' e σ σ' nid) (Ze6 (Zei e nid (σ'.length - σ.length)) v) v' := by
 revert h
 refine Zem (P := fun v => CR m' v v' → CR (mB mc m' e σ σ' nid) (Ze6 (Zei e nid (σ'.length - σ.length)) v) v') ?_ ?_ v
 ·intro v hf h
  rw [Zjh hf, Zi7 (Zmi hf)]
  rw [Zi7 hf] at h
  exact Zq6 hH hE hA hF h
 ·intro f xs ys h
  obtain ⟨xs', ys', rfl, h1, h2⟩ := h
  refine ⟨xs', ys', rfl, ?_, ?_⟩
  ·simp only [Array.toList_map]; exact h1.map_left fun x _ y hxy => Zq6 hH hE hA hF hxy
  ·simp only [Array.toList_map]; exact h2.map_left fun x _ y hxy => Zq6 hH hE hA hF hxy
theorem Zwb (hH : HRel G mc H w) (hE : EmbOK H e σ) (hA : After H H' e σ σ' nid) (hF : Frame ⟨mE mc e σ, w, []⟩ m' w') {v v' : Value} (h : VR1 m' v v') : VR1 (mB mc m' e σ σ' nid) (Zg6 (Zei e nid (σ'.length - σ.length)) v) v' := by
 unfold Zg6
 split
 ·rename_i hp
  rw [h.pure hp]; exact VR1.of_pure hp
 ·rename_i hp
  revert h
  refine Zg3 (P := fun v => VR1 m' v v' → VR1 (mB mc m' e σ σ' nid) (Z2u (Zei e nid (σ'.length - σ.length)) v) v') ?_ ?_ v
  ·intro v hf h
   rw [Zwg hf, Zhq (by rw [(Zj1 _ v).1]; exact hf)]
   rw [Zhq hf] at h
   exact Zuf hH hE hA hF h
  ·intro cs h
   obtain ⟨cs', rfl, h1⟩ := h
   refine ⟨cs', rfl, ?_⟩
   simp only [Array.toList_map]
   exact h1.map_left fun x _ y hxy => Zuf hH hE hA hF hxy
theorem Zti (e : Emb) (v : Value) (h : Zhw v = false) : Zhw (Zg6 e v) = false := by
  unfold Zg6
  split
  · exact h
  · by_cases ha : Zhe v = true
    · cases v <;> first | rfl | cases ha
    · rw [Zwg (by simpa using ha), (Zj1 _ v).2]; exact h
theorem Z4b (hH : HRel G mc H w) (hE : EmbOK H e σ) (hA : After H H' e σ σ' nid) (hF : Frame ⟨mE mc e σ, w, []⟩ m' w') {v v' : Value} (h : VR m' v v') : VR (mB mc m' e σ σ' nid) (Zmq (Zei e nid (σ'.length - σ.length)) v) v' := by
  revert h
  refine Zkj (P := fun v => VR m' v v' → VR (mB mc m' e σ σ' nid) (Zmq (Zei e nid (σ'.length - σ.length)) v) v') ?_ ?_ v
  · intro v hf h
    have : Zmq (Zei e nid (σ'.length - σ.length)) v = Zg6 (Zei e nid (σ'.length - σ.length)) v := by cases v <;> first | rfl | cases hf
    rw [this, Zfp (Zti _ _ hf)]
    rw [Zfp hf] at h
    exact Zwb hH hE hA hF h
  · intro cs h
    obtain ⟨cs', rfl, h1⟩ := h
    refine ⟨cs', rfl, ?_⟩
    simp only [Array.toList_map]
    exact h1.map_left fun x _ y hxy => Zwb hH hE hA hF hxy


theorem Zhr (e : Emb) (L : Blk) : (Zci e L).length = L.cells.length := by unfold Zci; split <;> simp

structure KindA (mc m' : MapM) (H H' : List Blk) (e : Emb) (σ σ' : List Blk) (nid b : Nat) (r : Reg) (i : Nat) (L' : Blk) : Prop where
  loc : ∃ r', m' i = some r' ∧ r.g = r'.g ∧ r.lo = r'.lo ∧ r.hi = r'.hi ∧ r.len = r'.len ∧ r'.wr = true
  wr : r.wr = true
  blk : σ'[i]? = some L'
  here : ∃ x, H'[b]? = some x ∧ x.cells = Zci (Zei e nid (σ'.length - σ.length)) L' ∧ x.pur = L'.pur ∧ 0 < x.sz ∧ r.wr = x.wr ∧ r.fix = x.fix ∧ r.len = x.cells.length ∧ r.sz = x.sz ∧ r.mv = x.mv
  idx : (σ.length ≤ i ∧ b = nid + (i - σ.length)) ∨ (∃ (sh : Nat) (L : Blk), e[i]? = some (some (b, sh)) ∧ σ[i]? = some L ∧ L.wr = true)
  old : (∃ r', m' i = some r' ∧ r = r') ∨ mc b = some r

def Zgs (e : Emb) (σ : List Blk) (b : Nat) : Prop := ∀ (i sh : Nat) (L : Blk), e[i]? = some (some (b, sh)) → σ[i]? = some L → L.wr = false

theorem Zld (hH : HRel G mc H w) (hE : EmbOK H e σ) (hA : After H H' e σ σ' nid) (h' : HRel G m' σ' w') (hF : Frame ⟨mE mc e σ, w, []⟩ m' w') {b : Nat} {r : Reg} (h : mB mc m' e σ σ' nid b = some r) :
  (∃ i L', KindA mc m' H H' e σ σ' nid b r i L') ∨ (mc b = some r ∧ H'[b]? = H[b]? ∧ Zgs e σ b) := by
 rcases Zsy hE hA h with ⟨k, hk, rfl, hr⟩ | ⟨i, hmv, hr⟩ | ⟨h1, h2, hr⟩
 ·left
  obtain ⟨L', g1, g2, g3, g4, g5, g6, g7⟩ := h'.reg _ r hr
  have hw := hA.wrs _ L' (by omega) g1
  refine ⟨σ.length + k, L', ⟨⟨r, hr, rfl, rfl, rfl, rfl, by rw [g3]; exact hw⟩, by rw [g3]; exact hw, g1, ⟨_, hA.new k L' g1, rfl, rfl, g2, g3, g4, by simp only; rw [Zhr]; exact g5, g6, g7⟩, .inl ⟨by omega, by omega⟩, .inl ⟨r, hr, rfl⟩⟩⟩
 ·left
  obtain ⟨sh, L, a1, a2, a3, a4⟩ := hmv
  obtain ⟨L', g1, g2, g3, g4, g5, g6, g7⟩ := h'.reg _ r hr
  obtain ⟨f1, f2, f3, f4, f5⟩ := hA.flags i L L' a2 g1
  obtain ⟨B, hB, hsz, hfx, hfs, hpu, hle, hw, hc⟩ := hE.one i _ L a1 a2
  obtain ⟨b1, b2, b3, b4, b5, b6⟩ := hw a3
  refine ⟨i, L', ⟨⟨r, hr, rfl, rfl, rfl, rfl, by rw [g3, f1]; exact a3⟩, by rw [g3, f1]; exact a3, g1, ⟨_, hA.rep i b sh L L' B a1 a2 g1 a3 hB, rfl, by simp only; rw [f5, b5], hsz.2.1, by simp only; rw [g3, f1, a3, b1], by simp only; rw [g4, f2, hfx], by simp only; rw [Zhr]; exact g5, by simp only; rw [g6, f4, b3], by simp only; rw [g7, f3, a4, b4 a4]⟩, .inr ⟨sh, L, a1, a2, a3⟩, .inl ⟨r, hr, rfl⟩⟩⟩
 ·by_cases hex : ∃ (i sh : Nat) (L : Blk), e[i]? = some (some (b, sh)) ∧ σ[i]? = some L ∧ L.wr = true
  ·left
   obtain ⟨i, sh, L, a1, a2, a3⟩ := hex
   have a4 : L.mv = false := by
    cases hm : L.mv with
    | false => rfl
    | true => exact absurd ⟨i, sh, L, a1, a2, a3, hm⟩ h2
   obtain ⟨B, hB, hsz, hfx, hfs, hpu, hle, hw, hc⟩ := hE.one i _ L a1 a2
   obtain ⟨b1, b2, b3, b4, b5, b6⟩ := hw a3
   subst b2
   obtain ⟨_, hrw, hrf, hrl, hrs, hrm⟩ := hH.at_ hB hr
   have hk : m' i = some { r with mv := L.mv } := hF.keep i _ (by show mE mc e σ i = _; rw [Zff a1 a2, hr]; simp [Zbn, a3]) (.inr (by simp only; exact a4))
   obtain ⟨L', g1, g2, g3, g4, g5, g6, g7⟩ := h'.reg _ _ hk
   obtain ⟨f1, f2, f3, f4, f5⟩ := hA.flags i L L' a2 g1
   refine ⟨i, L', ⟨⟨_, hk, rfl, rfl, rfl, rfl, by simp only; rw [hrw]; exact b1⟩, by rw [hrw]; exact b1, g1, ⟨_, hA.rep i b 0 L L' B a1 a2 g1 a3 hB, rfl, by simp only; rw [f5, b5], hsz.2.1, hrw, hrf, by simp only; rw [Zhr]; exact g5, hrs, hrm⟩, .inr ⟨0, L, a1, a2, a3⟩, .inr hr⟩⟩
  ·right
   have hun : Zgs e σ b := fun i sh L h3 h4 => by
    cases hw : L.wr with
    | false => rfl
    | true => exact absurd ⟨i, sh, L, h3, h4, hw⟩ hex
   exact ⟨hr, hA.same b h1 hun, hun⟩

theorem Z3r (hH : HRel G mc H w) (hE : EmbOK H e σ) (hF : Frame ⟨mE mc e σ, w, []⟩ m' w') {b : Nat} {r : Reg} (hr : mc b = some r) (hu : Zgs e σ b) {j : Nat} (h1 : r.lo ≤ j) (h2 : j < r.ext) :
    w'.cell? ⟨r.g, j, none⟩ = w.cell? ⟨r.g, j, none⟩ ∧ w'.frozen? ⟨r.g, j, none⟩ = w.frozen? ⟨r.g, j, none⟩ := by
  obtain ⟨v, hv⟩ := hH.there hr h1 h2
  obtain ⟨c, t, fr, hc⟩ := Zn1 hv
  obtain ⟨o', ho', hfo⟩ := hF.block r.g _ hc
  have hnw : ¬ Zj4 (mE mc e σ) r.g j := by
    intro hw
    obtain ⟨i, id, sh, L, r0, a1, a2, a3, a4, a5, a6, a7, a8⟩ := hw.embed hH hE
    have hne : id ≠ b := by
      rintro rfl
      have := hu i sh L a1 a2
      rw [a3] at this; cases this
    exact hH.dis id b r0 r hne a4 hr a5 a6 j a7 a8 h1 h2
  rcases hfo with rfl | ⟨c1, t1, fr1, c', he, rfl, hs, hcells⟩
  · exact ⟨World.cell?_of_block (w := w) (by rw [ho', hc]), World.frozen?_of_block (w := w) (by rw [ho', hc])⟩
  · injection he with e1 e2 e3
    subst e1; subst e2; subst e3
    refine ⟨?_, ?_⟩
    · rw [cell_of_row _ _ _ _ _ _ ho', cell_of_row _ _ _ _ _ _ hc]; exact hcells j hnw
    · simp only [World.frozen?, ho', hc]

theorem Zwv (hH : HRel G mc H w) (hFE : Frame E mc w) (hE : EmbOK H e σ) (hA : After H H' e σ σ' nid) (h' : HRel G m' σ' w') (hF : Frame ⟨mE mc e σ, w, []⟩ m' w')
    {p : Nat → Bool} (hp : ∀ b, p b = true → ¬ ∃ i, Zga e σ i b) (hN : ∀ (i : Nat) (x : Blk), H[i]? = some x → Zgs e σ i → ∀ v, v ∈ x.cells → Zan p v = true) : HRel G (mB mc m' e σ σ' nid) H' w' ∧ Frame E (mB mc m' e σ σ' nid) w' ∧
      ∀ b r, p b = true → mc b = some r → mB mc m' e σ σ' nid b = some r := by
  have hmono : ∀ b r, p b = true → mc b = some r → mB mc m' e σ σ' nid b = some r := by
    intro b r hpb hr
    rw [Zji ?_ (hp b hpb)]
    · exact hr
    · rintro k hk rfl
      obtain ⟨x, hx, hx0⟩ := hA.holes k hk
      have := hH.hole hx hx0
      rw [this] at hr; cases hr
  -- an A-region's cell is not one of an untouched block
  have hAB : ∀ (b : Nat) (r : Reg) (i : Nat) (L' : Blk), KindA mc m' H H' e σ σ' nid b r i L' → ∀ (b' : Nat) (r1 : Reg), mc b' = some r1 → Zgs e σ b' → b ≠ b' → r.g = r1.g → ∀ j, r.lo ≤ j → j < r.hi → r1.lo ≤ j → ¬ j < r1.ext := by
    intro b r i L' hk b' r1 hr1 hu hne hg j h1 h2 h3 h4
    rcases hk.old with ⟨r', hr', rfl⟩ | hmc
    · rcases hF.reg i r hr' hk.wr (by omega) with hfr | hwr
      · obtain ⟨v, hv⟩ := hH.there hr1 h3 h4
        have := Znk hv
        simp only at hfr
        omega
      · obtain ⟨i2, id, sh, L, r0, a1, a2, a3, a4, a5, a6, a7, a8⟩ := (hwr j h1 h2).embed hH hE
        have hne2 : id ≠ b' := by
          rintro rfl
          have := hu i2 sh L a1 a2
          rw [a3] at this; cases this
        exact hH.dis id b' r0 r1 hne2 a4 hr1 a5 (a6.trans hg) j a7 a8 h3 h4
    · exact hH.dis b b' r r1 hne hmc hr1 hk.wr hg j h1 h2 h3 h4
  have hidx : ∀ (b b' : Nat) (r r1 : Reg) (i i' : Nat) (L L' : Blk), KindA mc m' H H' e σ σ' nid b r i L → KindA mc m' H H' e σ σ' nid b' r1 i' L' → b ≠ b' → i ≠ i' := by
    rintro b b' r r1 i i' L L' hk hk' hne rfl
    rcases hk.idx with ⟨a1, a2⟩ | ⟨sh, L1, a1, a2, _⟩
    · rcases hk'.idx with ⟨b1, b2⟩ | ⟨sh', L2, b1, b2, _⟩
      · omega
      · have := (List.getElem?_eq_some_iff.1 b2).1; omega
    · rcases hk'.idx with ⟨b1, b2⟩ | ⟨sh', L2, b1, b2, _⟩
      · have := (List.getElem?_eq_some_iff.1 a2).1; omega
      · rw [a1] at b1; injection b1 with b1; injection b1 with b1; injection b1 with b1 _; exact hne b1
  refine ⟨⟨?_, ?_, ?_, ?_, ?_, ?_, ?_, ?_, ?_⟩, ?_, hmono⟩
  · intro b r hr
    rcases Zld hH hE hA h' hF hr with ⟨i, L', hk⟩ | ⟨hr, hb, hu⟩
    · obtain ⟨x, h1, _, _, h4, h5, h6, h7, h8, h9⟩ := hk.here
      exact ⟨x, h1, h4, h5, h6, h7, h8, h9⟩
    · obtain ⟨B, h1⟩ := hH.reg b r hr
      exact ⟨B, by rw [hb]; exact h1.1, h1.2⟩
  · intro b x hx hsz
    by_cases hnew : ∃ k, k < σ'.length - σ.length ∧ b = nid + k
    · obtain ⟨k, hk, rfl⟩ := hnew
      have hlt : σ.length + k < σ'.length := by omega
      have hL : σ'[σ.length + k]? = some σ'[σ.length + k] := by simp [hlt]
      have := hA.new k _ hL
      rw [hx] at this; injection this with this
      obtain ⟨r, hr⟩ := h'.live _ _ hL (by rw [this] at hsz; exact hsz)
      exact ⟨r, by rw [Zun hk]; exact hr⟩
    · have hno : ∀ k, k < σ'.length - σ.length → b ≠ nid + k := fun k hk he => hnew ⟨k, hk, he⟩
      by_cases hmv : ∃ i, Zga e σ i b
      · obtain ⟨i, hi⟩ := hmv
        rw [Zop hE hA hi]
        obtain ⟨sh, L, a1, a2, a3, a4⟩ := hi
        have hlt : i < σ'.length := by have := (List.getElem?_eq_some_iff.1 a2).1; have := hA.len; omega
        have hL : σ'[i]? = some σ'[i] := by simp [hlt]
        obtain ⟨_, _, _, f4, _⟩ := hA.flags i L _ a2 hL
        obtain ⟨B, hB, hsz2, _⟩ := hE.one i _ L a1 a2
        exact h'.live i _ hL (by rw [f4]; exact hsz2.1)
      · rw [Zji hno hmv]
        have hb : b < H.length := by have := (List.getElem?_eq_some_iff.1 hx).1; rw [hA.hlen] at this; exact this
        have hB : H[b]? = some H[b] := by simp [hb]
        by_cases hex : ∃ (i sh : Nat) (L : Blk), e[i]? = some (some (b, sh)) ∧ σ[i]? = some L ∧ L.wr = true
        · obtain ⟨i, sh, L, a1, a2, a3⟩ := hex
          obtain ⟨B, hB', hsz2, _⟩ := hE.one i _ L a1 a2
          exact hH.live b B hB' hsz2.2.1
        · have := hA.same b hno (fun i sh L h3 h4 => by
            cases hw : L.wr with
            | false => rfl
            | true => exact absurd ⟨i, sh, L, h3, h4, hw⟩ hex)
          rw [this] at hx
          exact hH.live b x hx hsz
  · intro b x r j v hx hr hv
    rcases Zld hH hE hA h' hF hr with ⟨i, L', hk⟩ | ⟨hr1, hb, hu⟩
    · obtain ⟨x', h1, h2, h3, _⟩ := hk.here
      rw [hx] at h1; injection h1 with h1; subst h1
      obtain ⟨r', hr', g1, g2, g3, g4, g5⟩ := hk.loc
      rw [h2] at hv
      unfold Zci at hv
      rw [g1, g2]
      by_cases hpu : L'.pur = true
      · rw [if_pos hpu] at hv
        obtain ⟨v', f1, f2⟩ := h'.cell i L' r' j v hk.blk hr' hv
        have hpv := h'.pur i L' hk.blk hpu v (List.mem_of_getElem? hv)
        exact ⟨v', f1, by rw [f2.pure hpv]; exact CR.of_pure hpv⟩
      · rw [if_neg hpu, List.getElem?_map] at hv
        simp only [Option.map_eq_some_iff] at hv
        obtain ⟨u, hu1, rfl⟩ := hv
        obtain ⟨v', f1, f2⟩ := h'.cell i L' r' j u hk.blk hr' hu1
        exact ⟨v', f1, Zuf hH hE hA hF f2⟩
    · rw [hb] at hx
      obtain ⟨v', f1, f2⟩ := hH.cell b x r j v hx hr1 hv
      obtain ⟨_, _, _, hl, _⟩ := hH.at_ hx hr1
      have hj : j < x.cells.length := (List.getElem?_eq_some_iff.1 hv).1
      have hext : r.lo + j < r.ext := by
        unfold Reg.ext
        split
        · rename_i hw; have := (hH.own b r hr1 hw).1; omega
        · omega
      exact ⟨v', by rw [(Z3r hH hE hF hr1 hu (by omega) hext).1]; exact f1, f2.congr hmono (hN b x hx hu v (List.mem_of_getElem? hv))⟩
  · intro b x hx hpu v hv
    by_cases hnew : ∃ k, k < σ'.length - σ.length ∧ b = nid + k
    · obtain ⟨k, hk, rfl⟩ := hnew
      have hlt : σ.length + k < σ'.length := by omega
      have hL : σ'[σ.length + k]? = some σ'[σ.length + k] := by simp [hlt]
      have := hA.new k _ hL
      rw [hx] at this; injection this with this
      subst this
      simp only at hpu hv
      unfold Zci at hv
      rw [if_pos hpu] at hv
      exact h'.pur _ _ hL hpu v hv
    · have hno : ∀ k, k < σ'.length - σ.length → b ≠ nid + k := fun k hk he => hnew ⟨k, hk, he⟩
      by_cases hex : ∃ (i sh : Nat) (L : Blk), e[i]? = some (some (b, sh)) ∧ σ[i]? = some L ∧ L.wr = true
      · obtain ⟨i, sh, L, a1, a2, a3⟩ := hex
        have hlt : i < σ'.length := by have := (List.getElem?_eq_some_iff.1 a2).1; have := hA.len; omega
        have hL : σ'[i]? = some σ'[i] := by simp [hlt]
        obtain ⟨B, hB, hsz, hfx, hfs, hpu', hle, hw, hc⟩ := hE.one i _ L a1 a2
        have := hA.rep i b sh L _ B a1 a2 hL a3 hB
        rw [hx] at this; injection this with this
        subst this
        simp only at hpu hv
        obtain ⟨_, _, _, _, f5⟩ := hA.flags i L _ a2 hL
        have hpL : σ'[i].pur = true := by rw [f5, (hw a3).2.2.2.2.1]; exact hpu
        unfold Zci at hv
        rw [if_pos hpL] at hv
        exact h'.pur _ _ hL hpL v hv
      · rw [hA.same b hno (fun i sh L h3 h4 => by
            cases hw : L.wr with
            | false => rfl
            | true => exact absurd ⟨i, sh, L, h3, h4, hw⟩ hex)] at hx
        exact hH.pur b x hx hpu v hv
  · intro b r hr hw
    rcases Zld hH hE hA h' hF hr with ⟨i, L', hk⟩ | ⟨hr1, hb, hu⟩
    · obtain ⟨r', hr', g1, g2, g3, g4, g5⟩ := hk.loc
      have := h'.own i r' hr' g5
      rw [g1, g2, g3, g4]; exact this
    · obtain ⟨f1, f2⟩ := hH.own b r hr1 hw
      refine ⟨f1, fun j h1 h2 => ?_⟩
      obtain ⟨v, f3, f4⟩ := f2 j h1 h2
      obtain ⟨s1, s2⟩ := Z3r hH hE hF hr1 hu h1 (by simp [Reg.ext, hw]; exact h2)
      exact ⟨v, by rw [s1]; exact f3, by rw [s2]; exact f4⟩
  · intro b r hr hw hs1 hlh
    rcases Zld hH hE hA h' hF hr with ⟨i, L', hk⟩ | ⟨hr1, hb, hu⟩
    · obtain ⟨r', hr', g1, g2, g3, g4, g5⟩ := hk.loc
      rcases hk.old with ⟨r2, k1, rfl⟩ | k1
      · exact h'.clean i _ k1 hw hs1 hlh
      · obtain ⟨c, t, k2⟩ := hH.clean b r k1 hw hs1 hlh
        obtain ⟨o', k3, k4⟩ := hF.block _ _ k2
        rcases k4 with rfl | ⟨c0, t0, fr0, c', k5, rfl, _⟩
        · exact ⟨c, t, k3⟩
        · injection k5 with k5 k6 k7; subst k6; subst k7; exact ⟨c', _, k3⟩
    · obtain ⟨c, t, k2⟩ := hH.clean b r hr1 hw hs1 hlh
      obtain ⟨o', k3, k4⟩ := hF.block _ _ k2
      rcases k4 with rfl | ⟨c0, t0, fr0, c', k5, rfl, _⟩
      · exact ⟨c, t, k3⟩
      · injection k5 with k5 k6 k7; subst k6; subst k7; exact ⟨c', _, k3⟩
  · intro b b' r r1 hne hr hr' hw hg j h1 h2 h3 h4
    rcases Zld hH hE hA h' hF hr with ⟨i, L', hk⟩ | ⟨hr1, hb, hu⟩
    · rcases Zld hH hE hA h' hF hr' with ⟨i', L1, hk'⟩ | ⟨hr1', hb', hu'⟩
      · obtain ⟨q, hq, g1, g2, g3, g4, g5⟩ := hk.loc
        obtain ⟨q', hq', g1', g2', g3', g4', g5'⟩ := hk'.loc
        have hext : r1.ext = q'.ext := by unfold Reg.ext; rw [hk'.wr, g5']; simp [g3']
        exact h'.dis i i' q q' (hidx _ _ _ _ _ _ _ _ hk hk' hne) hq hq' g5 (by rw [← g1, ← g1']; exact hg) j (by omega) (by omega) (by omega) (by rw [← hext]; exact h4)
      · exact hAB b r i L' hk b' r1 hr1' hu' hne hg j h1 h2 h3 h4
    · rcases Zld hH hE hA h' hF hr' with ⟨i', L1, hk'⟩ | ⟨hr1', hb', hu'⟩
      · have hh : j < r1.hi := by simpa [Reg.ext, hk'.wr] using h4
        exact hAB b' r1 i' L1 hk' b r hr1 hu (fun e => hne e.symm) hg.symm j h3 hh h1 (by simp [Reg.ext, hw]; exact h2)
      · exact hH.dis b b' r r1 hne hr1 hr1' hw hg j h1 h2 h3 h4
  · intro g cs hg
    obtain ⟨h1, h2⟩ := hH.glob g cs hg
    refine ⟨Nat.lt_of_lt_of_le h1 hF.size, fun j v hj => ⟨?_, (h2 j v hj).2⟩⟩
    obtain ⟨hv, _⟩ := h2 j v hj
    obtain ⟨c, t, fr, hc⟩ := Zn1 hv
    obtain ⟨o', ho', hfo⟩ := hF.block g _ hc
    have hnw : ¬ Zj4 (mE mc e σ) g j := by
      intro hw
      obtain ⟨i, id, sh, L, r0, a1, a2, a3, a4, a5, a6, a7, a8⟩ := hw.embed hH hE
      have := hH.gwr id r0 j a4 a5 a7 a8
      rw [a6, hg] at this; cases this
    rcases hfo with rfl | ⟨c1, t1, fr1, c', he, rfl, hs, hcells⟩
    · rw [World.cell?_of_block (w := w) (by rw [ho', hc])]; exact hv
    · injection he with e1 e2 e3
      subst e1; subst e2; subst e3
      rw [cell_of_row _ _ _ _ _ _ ho', hcells j hnw, ← cell_of_row _ _ _ _ _ _ hc]; exact hv
  · intro b r j hr hw h1 h2
    rcases Zld hH hE hA h' hF hr with ⟨i, L', hk⟩ | ⟨hr1, hb, hu⟩
    · obtain ⟨q, hq, g1, g2, g3, g4, g5⟩ := hk.loc
      have := h'.gwr i q j hq g5 (by omega) (by omega)
      rw [g1]; exact this
    · exact hH.gwr b r j hr1 hw h1 h2
  · refine hFE.trans hF (fun g j hw => ?_) (fun b r hr hw => ?_) (fun b r hr hk => ?_)
    · obtain ⟨i, id, sh, L, r0, a1, a2, a3, a4, a5, a6, a7, a8⟩ := hw.embed hH hE
      exact ⟨id, r0, a4, a5, a6, a7, a8⟩
    · rcases Zsy hE hA hr with ⟨k, hk, _, hq⟩ | ⟨i, hmv, hq⟩ | ⟨h1, h2, hq⟩
      · exact .inr ⟨_, hq⟩
      · exact .inr ⟨_, hq⟩
      · exact .inl hq
    · have h1 := hFE.keep b r hr hk
      rw [Zji]
      · exact h1
      · rintro k hk' rfl
        obtain ⟨x, hx, hx0⟩ := hA.holes k hk'
        rw [hH.hole hx hx0] at h1; cases h1
      · rintro ⟨i, sh, L, a1, a2, a3, a4⟩
        obtain ⟨B, hB, hsz, hfx, hfs, hpu, hle, hw, hc⟩ := hE.one i _ L a1 a2
        obtain ⟨b1, b2, b3, b4, b5, b6⟩ := hw a3
        obtain ⟨_, hrw, _, _, _, hrm⟩ := hH.at_ hB h1
        rcases hk with hk | hk
        · rw [hrw, b1] at hk; cases hk
        · rw [hrm, b4 a4] at hk; cases hk
end
end Go.Flat
end
section
/- The rule for calls. -/
namespace Go.Flat

def Zd6 (P : Program) (k : FuncId) : Bool := match P.funcs[k]? with | some fn => fn.name != "runtime.NumGoroutine" && fn.body.isSome | none => false
theorem Zlu {P : Program} {k : FuncId} (h : Zd6 P k = true) (args : Array Value) (w : World) : (callFunc k args).run P w = .ok (.enter k args) w := by
  unfold Zd6 at h
  cases hf : P.funcs[k]? with
  | none => rw [hf] at h; cases h
  | some fn =>
    rw [hf] at h
    simp only [Bool.and_eq_true, bne_iff_ne, ne_eq] at h
    obtain ⟨h1, h3⟩ := h
    cases hb : fn.body with
    | none => rw [hb] at h3; cases h3
    | some c => simp [callFunc, hf, h1, hb]

theorem Zp1 {P : Program} {o : Oper} {ρ : Operand → Value} {f : Operand} {args : Array Operand} {ts : Array TypeId} {k : FuncId} {first captured : Array Value} (ho : o.op = .call { callee := .value f, args := args, argTypes := ts })
  (hf : ρ f = .func (.func k) first captured) (hk : Zd6 P k = true) (w : World) : (execOp ρ o).run P w = .ok (.enter k (first ++ args.map ρ ++ captured)) w := by
 simp only [execOp, ho, resolve, hf, Deferred.ofValue, Sem.run_bind, Sem.run_pure, Result.andThen_ok, invoke]
 exact Zlu hk _ w


def Zd3 (H : List Blk) (e : Emb) (p : Option (Nat × Nat)) (L : Blk) : Prop :=
  match p with
  | none => L.wr = false ∧ L.cells = [] ∧ 0 < L.sz
  | some (id, sh) => match H[id]? with
    | none => False
    | some B => (0 < L.sz ∧ 0 < B.sz ∧ (B.fix = true → B.mv = false)) ∧ L.fix = B.fix ∧ (L.fix = false → L.sz = B.sz) ∧ (L.pur = true → B.pur = true) ∧ sh + L.cells.length ≤ B.cells.length ∧
      (L.wr = true → B.wr = true ∧ sh = 0 ∧ L.sz = B.sz ∧ (L.mv = true → B.mv = true) ∧ L.pur = B.pur ∧ L.cells.length = B.cells.length) ∧
      (B.cells.drop sh).take L.cells.length = Zci e L
def Zhu (H : List Blk) (e : Emb) : Emb → List Blk → Prop
  | [], [] => True
  | p :: ps, L :: Ls => Zd3 H e p L ∧ Zhu H e ps Ls
  | _, _ => False

theorem Zhv {H : List Blk} {e : Emb} {p : Option (Nat × Nat)} {L : Blk} (h : Zd3 H e p L) : Zn9 H e p L := by
 unfold Zd3 at h
 unfold Zn9
 split at h
 ·exact h
 ·split at h
  ·cases h
  ·rename_i B hB; exact ⟨B, hB, h⟩
theorem Zes {H : List Blk} {e : Emb} : ∀ {ps : Emb} {Ls : List Blk}, Zhu H e ps Ls → ps.length = Ls.length ∧ ∀ (i : Nat) (p : Option (Nat × Nat)) (L : Blk), ps[i]? = some p → Ls[i]? = some L → Zn9 H e p L
 | [], [], _ => ⟨rfl, by simp⟩
 | p :: ps, L :: Ls, h => by
  obtain ⟨h1, h2⟩ := Zes h.2
  refine ⟨by simp [h1], fun i q M hq hM => ?_⟩
  cases i with
  | zero => simp at hq hM; subst hq; subst hM; exact Zhv h.1
  | succ i => exact h2 i q M (by simpa using hq) (by simpa using hM)
 | [], _ :: _, h => h.elim
 | _ :: _, [], h => h.elim

def Zso (e : Emb) : List Nat := e.filterMap fun p => p.map (·.1)
def Zil (e : Emb) (σ : List Blk) : Bool :=
  (e.zip σ).zipIdx.all fun p => !p.1.2.wr || e.zipIdx.all fun q => q.2 == p.2 || q.1.map (·.1) != p.1.1.map (·.1)
def Za8 (e : Emb) (σ : List Blk) : List Nat := (e.zip σ).filterMap fun p => if p.2.wr && p.2.mv then p.1.map (·.1) else none
def Zgr (H : List Blk) (σ σ' : List Blk) (nid : Nat) : Bool :=
  decide (σ.length ≤ σ'.length) && ((σ.zip σ').all fun p => p.2.wr == p.1.wr && p.2.fix == p.1.fix && p.2.mv == p.1.mv && p.2.sz == p.1.sz && p.2.pur == p.1.pur) && ((σ'.drop σ.length).all fun L => L.wr) &&
  ((List.range (σ'.length - σ.length)).all fun k => match H[nid + k]? with | some x => x.sz == 0 | none => false)
def Zf7 (e : Emb) (σ : List Blk) : Bool := σ.all fun L => L.pur || L.cells.all (Zan (inE e))
def Zb5 (H : List Blk) (e : Emb) (σ σ' : List Blk) (nid : Nat) : List (Nat × Blk) :=
  ((e.zip (σ.zip σ')).filterMap fun p => match p.1 with
    | some (id, _) => if p.2.1.wr then (H[id]?).map fun B => (id, { B with cells := Zci (Zei e nid (σ'.length - σ.length)) p.2.2 }) else none
    | none => none) ++
  ((σ'.drop σ.length).zipIdx.map fun p => (nid + p.2, { p.1 with cells := Zci (Zei e nid (σ'.length - σ.length)) p.1 }))

theorem Zin {b : Nat} {x : Blk} : ∀ (l : List (Nat × Blk)) (y : Blk), (∃ q, q ∈ l ∧ q.1 = b) → (∀ q, q ∈ l → q.1 = b → q.2 = x) → l.foldl (fun x p => if p.1 = b then p.2 else x) y = x
  | [], y, h, _ => by obtain ⟨q, hq, _⟩ := h; cases hq
  | q :: l, y, h, hu => by
    rw [List.foldl_cons]
    by_cases hl : ∃ q', q' ∈ l ∧ q'.1 = b
    · exact Zin l _ hl fun q' hq' => hu q' (by simp [hq'])
    · rw [Zcj l _ fun p hp e => hl ⟨p, hp, e⟩]
      obtain ⟨q', hq', he⟩ := h
      rcases List.mem_cons.1 hq' with rfl | hq'
      · rw [if_pos he]; exact hu _ (by simp) he
      · exact absurd ⟨q', hq', he⟩ hl

theorem Znl {H : List Blk} {e : Emb} {σ : List Blk} (h : Zil e σ = true) : ∀ (i j : Nat) (id sh sh' : Nat) (L : Blk), i ≠ j → e[i]? = some (some (id, sh)) → σ[i]? = some L → L.wr = true → e[j]? ≠ some (some (id, sh')) := by
 intro i j id sh sh' L hij h1 h2 hw h3
 simp only [Zil, List.all_eq_true] at h
 have h4 := h ((some (id, sh), L), i) (by rw [List.mem_iff_getElem?]; exact ⟨i, by simp [List.getElem?_zipIdx, List.getElem?_zip_eq_some, h1, h2]⟩)
 simp only [hw, Bool.not_true, Bool.false_or, List.all_eq_true] at h4
 have h5 := h4 (some (id, sh'), j) (by rw [List.mem_iff_getElem?]; exact ⟨j, by simp [List.getElem?_zipIdx, h3]⟩)
 simp at h5
 exact hij h5.symm

theorem Zyk {H : List Blk} {e : Emb} {σ σ' : List Blk} {nid : Nat} (hE : EmbOK H e σ) (hs : Zgr H σ σ' nid = true) : After H (Zd0 H (Zb5 H e σ σ' nid)) e σ σ' nid ∧ (∀ p, p ∈ Zb5 H e σ σ' nid → p.1 < H.length) := by
  simp only [Zgr, Bool.and_eq_true, decide_eq_true_eq, List.all_eq_true] at hs
  obtain ⟨⟨⟨hlen, hfl⟩, hwr⟩, hho⟩ := hs
  have hflags : ∀ (i : Nat) (L L' : Blk), σ[i]? = some L → σ'[i]? = some L' → L'.wr = L.wr ∧ L'.fix = L.fix ∧ L'.mv = L.mv ∧ L'.sz = L.sz ∧ L'.pur = L.pur := by
    intro i L L' h1 h2
    have := hfl (L, L') (by rw [List.mem_iff_getElem?]; exact ⟨i, by simp [List.getElem?_zip_eq_some, h1, h2]⟩)
    simp only [beq_iff_eq] at this
    exact ⟨this.1.1.1.1, this.1.1.1.2, this.1.1.2, this.1.2, this.2⟩
  have hholes : ∀ k, k < σ'.length - σ.length → ∃ x, H[nid + k]? = some x ∧ x.sz = 0 := by
    intro k hk
    have := hho k (by simpa using hk)
    split at this
    · rename_i x hx; exact ⟨x, hx, by simpa using this⟩
    · cases this
  -- the two Zld of what is set
  have hmem : ∀ q, q ∈ Zb5 H e σ σ' nid → (∃ (i id sh : Nat) (L L' B : Blk), e[i]? = some (some (id, sh)) ∧ σ[i]? = some L ∧ σ'[i]? = some L' ∧ L.wr = true ∧ H[id]? = some B ∧ q = (id, { B with cells := Zci (Zei e nid (σ'.length - σ.length)) L' })) ∨
      (∃ (k : Nat) (L : Blk), σ'[σ.length + k]? = some L ∧ q = (nid + k, { L with cells := Zci (Zei e nid (σ'.length - σ.length)) L })) := by
    intro q hq
    unfold Zb5 at hq
    rcases List.mem_append.1 hq with hq | hq
    · left
      simp only [List.mem_filterMap] at hq
      obtain ⟨⟨p, L, L'⟩, hp, hq⟩ := hq
      obtain ⟨i, hi⟩ := List.getElem?_of_mem hp
      rw [List.getElem?_zip_eq_some] at hi
      obtain ⟨hi1, hi2⟩ := hi
      rw [List.getElem?_zip_eq_some] at hi2
      obtain ⟨hi2, hi3⟩ := hi2
      cases p with
      | none => simp at hq
      | some p =>
        obtain ⟨id, sh⟩ := p
        simp only at hq
        split at hq
        · rename_i hw
          simp only [Option.map_eq_some_iff] at hq
          obtain ⟨B, hB, rfl⟩ := hq
          exact ⟨i, id, sh, L, L', B, hi1, hi2, hi3, hw, hB, rfl⟩
        · cases hq
    · right
      simp only [List.mem_map] at hq
      obtain ⟨⟨L, k⟩, hp, rfl⟩ := hq
      obtain ⟨i, hi⟩ := List.getElem?_of_mem hp
      simp only [List.getElem?_zipIdx, Option.map_eq_some_iff] at hi
      obtain ⟨L1, hL1, he⟩ := hi
      injection he with he1 he2
      subst he1
      rw [List.getElem?_drop] at hL1
      exact ⟨k, L1, by rw [← he2, Nat.zero_add]; exact hL1, rfl⟩
  have hin : ∀ p, p ∈ Zb5 H e σ σ' nid → p.1 < H.length := by
    intro q hq
    rcases hmem q hq with ⟨i, id, sh, L, L', B, h1, h2, h3, h4, h5, rfl⟩ | ⟨k, L, h1, rfl⟩
    · exact (List.getElem?_eq_some_iff.1 h5).1
    · have hk : σ.length + k < σ'.length := (List.getElem?_eq_some_iff.1 h1).1
      obtain ⟨x, hx, _⟩ := hholes k (by omega)
      exact (List.getElem?_eq_some_iff.1 hx).1
  have hget := Zgy (Zb5 H e σ σ' nid) H hin
  refine ⟨⟨hlen, Zgq _ _ hin, hflags, ?_, hholes, ?_, ?_, ?_⟩, hin⟩
  · intro i L hi hL
    exact hwr L (by rw [List.mem_iff_getElem?]; exact ⟨i - σ.length, by rw [List.getElem?_drop, show σ.length + (i - σ.length) = i from by omega]; exact hL⟩)
  · intro k L hL
    have hk : σ.length + k < σ'.length := (List.getElem?_eq_some_iff.1 hL).1
    obtain ⟨x, hx, hx0⟩ := hholes k (by omega)
    rw [hget, hx, Option.map_some]
    congr 1
    refine Zin _ x ⟨(nid + k, { L with cells := Zci (Zei e nid (σ'.length - σ.length)) L }), ?_, rfl⟩ ?_
    · unfold Zb5
      refine List.mem_append_right _ (List.mem_map.2 ⟨(L, k), ?_, rfl⟩)
      rw [List.mem_iff_getElem?]
      exact ⟨k, by simp [List.getElem?_zipIdx, List.getElem?_drop, hL]⟩
    · intro q hq he
      rcases hmem q hq with ⟨i, id, sh, L1, L', B, h1, h2, h3, h4, h5, rfl⟩ | ⟨k', L1, h1, rfl⟩
      · simp only at he
        subst he
        rw [hx] at h5; injection h5 with h5; subst h5
        obtain ⟨B, hB, hsz, _⟩ := hE.one i _ L1 h1 h2
        rw [hx] at hB; injection hB with hB; subst hB
        have := hsz.2.1; omega
      · simp only at he
        have : k' = k := by omega
        subst this
        rw [hL] at h1; injection h1 with h1; subst h1; rfl
  · intro i id sh L L' B h1 h2 h3 h4 h5
    rw [hget, h5, Option.map_some]
    congr 1
    refine Zin _ B ⟨(id, { B with cells := Zci (Zei e nid (σ'.length - σ.length)) L' }), ?_, rfl⟩ ?_
    · unfold Zb5
      refine List.mem_append_left _ (List.mem_filterMap.2 ⟨(some (id, sh), L, L'), ?_, ?_⟩)
      · rw [List.mem_iff_getElem?]
        exact ⟨i, by rw [List.getElem?_zip_eq_some]; exact ⟨h1, by rw [List.getElem?_zip_eq_some]; exact ⟨h2, h3⟩⟩⟩
      · simp [h4, h5]
    · intro q hq he
      rcases hmem q hq with ⟨i', id', sh', L1, L1', B', g1, g2, g3, g4, g5, rfl⟩ | ⟨k', L1, g1, rfl⟩
      · simp only at he
        subst he
        by_cases hii : i = i'
        · subst hii
          rw [h3] at g3; injection g3 with g3; subst g3
          rw [h5] at g5; injection g5 with g5; subst g5; rfl
        · exact absurd g1 (hE.dist i i' id' sh sh' L hii h1 h2 h4)
      · simp only at he
        have hk : σ.length + k' < σ'.length := (List.getElem?_eq_some_iff.1 g1).1
        obtain ⟨x, hx, hx0⟩ := hholes k' (by omega)
        rw [he, h5] at hx; injection hx with hx; subst hx
        obtain ⟨B', hB', hsz, _⟩ := hE.one i _ L h1 h2
        rw [h5] at hB'; injection hB' with hB'; subst hB'
        have := hsz.2.1; omega
  · intro b h1 h2
    rw [hget]
    cases hb : H[b]? with
    | none => rfl
    | some y =>
      rw [Option.map_some]
      congr 1
      refine Zcj _ _ fun q hq he => ?_
      rcases hmem q hq with ⟨i, id, sh, L, L', B, g1, g2, g3, g4, g5, rfl⟩ | ⟨k, L, g1, rfl⟩
      · simp only at he; subst he
        have := h2 i sh L g1 g2
        rw [g4] at this; cases this
      · simp only at he
        have hk : σ.length + k < σ'.length := (List.getElem?_eq_some_iff.1 g1).1
        exact h1 k (by omega) he.symm

def Zqo (e : Emb) (σ : List Blk) : List Nat := (e.zip σ).filterMap fun p => if p.2.wr then p.1.map (·.1) else none
def killX (k : Option Nat) (e : Emb) (σ : List Blk) (H : List Blk) : List Blk := match k with | none => H | some b => H.mapIdx fun i x => if (Zqo e σ).contains i then x else Zbz (· != b) x
theorem Zeb (k : Option Nat) (e : Emb) (σ : List Blk) (H : List Blk) (b : Nat) : (killX k e σ H)[b]? = (H[b]?).map fun x => match k with | none => x | some q => if (Zqo e σ).contains b then x else Zbz (· != q) x := by
  cases k with
  | none => simp [killX]
  | some q => simp [killX, List.getElem?_mapIdx]
theorem Zxc (k : Option Nat) (e : Emb) (σ : List Blk) (H : List Blk) : (killX k e σ H).length = H.length := by cases k <;> simp [killX]
theorem HRel.killX {G : Glob} {m : MapM} {H : List Blk} {w : World} (h : HRel G m H w) (k : Option Nat) (e : Emb) (σ : List Blk) : HRel G m (Flat.killX k e σ H) w := by
  cases k with
  | none => exact h
  | some q =>
    have hk := h.kill (· != q)
    have hg : ∀ b : Nat, (Flat.killX (some q) e σ H)[b]? = H[b]? ∨ (Flat.killX (some q) e σ H)[b]? = (H.map (Zbz (· != q)))[b]? := by
      intro b
      rw [Zeb]
      cases hb : H[b]? with
      | none => left; rfl
      | some x =>
        simp only [Option.map_some]
        split
        · left; rfl
        · right; simp [hb]
    refine ⟨?_, ?_, ?_, ?_, h.own, h.clean, h.dis, h.glob, h.gwr⟩
    · intro b r hr
      rcases hg b with hb | hb
      · rw [hb]; exact h.reg b r hr
      · rw [hb]; exact hk.reg b r hr
    · intro b x hx hz
      rcases hg b with hb | hb
      · rw [hb] at hx; exact h.live b x hx hz
      · rw [hb] at hx; exact hk.live b x hx hz
    · intro b x r i v hx hr hv
      rcases hg b with hb | hb
      · rw [hb] at hx; exact h.cell b x r i v hx hr hv
      · rw [hb] at hx; exact hk.cell b x r i v hx hr hv
    · intro b x hx hp
      rcases hg b with hb | hb
      · rw [hb] at hx; exact h.pur b x hx hp
      · rw [hb] at hx; exact hk.pur b x hx hp
theorem Zqp {e : Emb} {σ : List Blk} {b : Nat} : b ∈ Zqo e σ ↔ ∃ (i sh : Nat) (L : Blk), e[i]? = some (some (b, sh)) ∧ σ[i]? = some L ∧ L.wr = true := by
 unfold Zqo
 rw [List.mem_filterMap]
 constructor
 ·rintro ⟨⟨p, L⟩, hp, hq⟩
  obtain ⟨i, hi⟩ := List.getElem?_of_mem hp
  rw [List.getElem?_zip_eq_some] at hi
  simp only at hq
  split at hq
  ·rename_i hw
   cases p with
   | none => simp at hq
   | some p => simp at hq; subst hq; exact ⟨i, p.2, L, hi.1, hi.2, hw⟩
  ·cases hq
 ·rintro ⟨i, sh, L, h1, h2, h3⟩
  exact ⟨(some (b, sh), L), by rw [List.mem_iff_getElem?]; exact ⟨i, by rw [List.getElem?_zip_eq_some]; exact ⟨h1, h2⟩⟩, by simp [h3]⟩
def Zhj (H : List Blk) (e : Emb) (σ : List Blk) (res : Value) (σ' : List Blk) (nid : Nat) : Delta :=
  { val := Zmq (Zei e nid (σ'.length - σ.length)) res, sets := Zb5 (killX (Za8 e σ).head? e σ H) e σ σ' nid, kill := (Za8 e σ).head?, foot := Zso e ++ (List.range (σ'.length - σ.length)).map (nid + ·) }

structure CallOK (H : List Blk) (e : Emb) (argsL argsC : List Value) (σ σ' : List Blk) (nid : Nat) : Prop where
  args : Zix e argsL argsC
  emb : Zhu (killX (Za8 e σ).head? e σ H) e e σ
  dist : Zil e σ = true
  names : Zf7 e σ = true
  shape : Zgr (killX (Za8 e σ).head? e σ H) σ σ' nid = true
  one : (Za8 e σ).length ≤ 1

theorem Zqc {e : Emb} {σ : List Blk} {i b : Nat} (h : Zga e σ i b) : b ∈ Za8 e σ := by
 obtain ⟨sh, L, h1, h2, h3, h4⟩ := h
 refine List.mem_filterMap.2 ⟨(some (b, sh), L), ?_, by simp [h3, h4]⟩
 rw [List.mem_iff_getElem?]
 exact ⟨i, by rw [List.getElem?_zip_eq_some]; exact ⟨h1, h2⟩⟩

theorem Znj {m : MapM} {xs : Array Value} {ys : Array Value} (h : L2 (CR0 m) xs.toList ys.toList) (hx : xs.toList.all Zdy = true) : L2 (VR m) xs.toList ys.toList := by
 simp only [List.all_eq_true] at hx
 refine h.mono fun x hxm y hxy => ?_
 have := hx x hxm
 simp only [Zdy, Bool.and_eq_true, Bool.not_eq_true'] at this
 exact Zns (by rw [Zi7 this.2]; exact hxy) this.1

theorem Zm9.call {P : Program} {G : Glob} {nt : Nat} {ops : Array Oper} {o : Oper} {s : St} {f : Operand} {args : Array Operand} {ts : Array TypeId} {k : FuncId} {first captured : Array Value}
    (ho : o.op = .call { callee := .value f, args := args, argTypes := ts }) (hf : s.eval f = .func (.func k) first captured) (hcap : first.toList.all Zdy = true ∧ captured.toList.all Zdy = true) (hk : Zd6 P k = true) (hg : Zc3 nt s (Zc5 ops o) = some true) (hd : Zbb nt o.dst = true)
    {argsL : List Value} {σ σ' : List Blk} {res : Value} (hC : Z6 P G k argsL σ res σ') (e : Emb) (nid : Nat)
    (hok : CallOK s.heap e argsL (first.toList ++ args.toList.map s.eval ++ captured.toList) σ σ' nid) :
    Zm9 P G nt ops o s ((Zhj s.heap e σ res σ' nid).apply o.dst s) := by
  intro E m a w hr K Q hK
  rw [Zgo hg hr, if_pos rfl]
  have hfv := hr.eval f
  rw [hf] at hfv
  obtain ⟨first', captured', hf', hL1, hL2⟩ := hfv
  have hex := Zp1 (P := P) ho hf' hk w
  have hargsC : L2 (VR m) (first.toList ++ args.toList.map s.eval ++ captured.toList) (first' ++ args.map a.eval ++ captured').toList := by
    simp only [Array.toList_append, Array.toList_map]
    refine ((Znj hL1 hcap.1).append ?_).append (Znj hL2 hcap.2)
    refine ⟨by simp, fun i x y hx hy => ?_⟩
    simp only [List.getElem?_map, Option.map_eq_some_iff] at hx hy
    obtain ⟨p, hp1, rfl⟩ := hx
    obtain ⟨q, hq1, rfl⟩ := hy
    rw [hp1] at hq1; injection hq1 with hq1; subst hq1
    exact hr.eval p
  -- the heap, and who may be named
  obtain ⟨p, hp1, hp2⟩ : ∃ p : Nat → Bool, (∀ b, p b = true → ¬ ∃ i, Zga e σ i b) ∧ ((Za8 e σ).head? = none ∧ (p = fun _ => true) ∨ ∃ b, (Za8 e σ).head? = some b ∧ (p = (· != b))) := by
    have h1 := hok.one
    cases hm : Za8 e σ with
    | nil =>
      refine ⟨fun _ => true, fun b _ ⟨i, hi⟩ => ?_, .inl ⟨rfl, rfl⟩⟩
      have := Zqc hi
      rw [hm] at this; cases this
    | cons b l =>
      rw [hm] at h1
      have hl : l = [] := by simpa using h1
      subst hl
      refine ⟨(· != b), fun b' hb' ⟨i, hi⟩ => ?_, .inr ⟨b, rfl, rfl⟩⟩
      have := Zqc hi
      rw [hm] at this
      simp at this hb'
      exact hb' this
  have hH1 : HRel G m (killX (Za8 e σ).head? e σ s.heap) w := hr.heap.killX _ _ _
  have hN : ∀ (i : Nat) (x : Blk), (killX (Za8 e σ).head? e σ s.heap)[i]? = some x → Zgs e σ i → ∀ v, v ∈ x.cells → Zan p v = true := by
    rcases hp2 with ⟨h1, rfl⟩ | ⟨b, h1, rfl⟩
    · exact fun i x hx _ v hv => Zge (fun _ => rfl) v
    · intro i x hx hu v hv
      rw [h1, Zeb] at hx
      simp only [Option.map_eq_some_iff] at hx
      obtain ⟨y, hy, hyx⟩ := hx
      have hni : (Zqo e σ).contains i = false := by
        cases hc : (Zqo e σ).contains i with
        | false => rfl
        | true =>
          obtain ⟨q, sh, L, g1, g2, g3⟩ := Zqp.1 (by simpa using hc)
          have := hu q sh L g1 g2
          rw [g3] at this; cases this
      rw [hni] at hyx
      simp only [Bool.false_eq_true, if_false] at hyx
      subst hyx
      exact hr.heap.named_kill (· != b) i _ (by simp [hy]) v hv
  obtain ⟨hel, hone⟩ := Zes hok.emb
  have hE : EmbOK (killX (Za8 e σ).head? e σ s.heap) e σ := ⟨hel, hone, Znl (H := killX (Za8 e σ).head? e σ s.heap) hok.dist⟩
  have hnm : ∀ (i : Nat) (L : Blk), σ[i]? = some L → L.pur = true ∨ ∀ v, v ∈ L.cells → Zan (inE e) v = true := by
    intro i L hL
    have := hok.names
    simp only [Zf7, List.all_eq_true, Bool.or_eq_true] at this
    exact this L (List.mem_of_getElem? hL)
  have hargs := Zni hH1 hE _ _ _ hok.args hargsC
  have hemb := hH1.embed hE hnm
  obtain ⟨hA, hin⟩ := Zyk hE hok.shape
  have hcall := hC (mE m e σ) w (first' ++ args.map a.eval ++ captured').toList hemb hargs
  rw [Array.toArray_toList] at hcall
  unfold Oper.wp
  rw [hex]
  show Calls P k (first' ++ args.map a.eval ++ captured') w _
  refine hcall.mono ?_
  rintro en w' ⟨v', m', rfl, h', hv, hF⟩
  obtain ⟨g1, g2, g3⟩ := Zwv hH1 hr.frame hE hA h' hF hp1 hN
  have hval := Z4b hH1 hE hA hF hv
  refine hK (mB m m' e σ σ' nid) _ w' ?_
  have hsets : ∀ b, (Za8 e σ).head? = some b → Zd0 (killX (some b) e σ s.heap) (Zb5 (killX (some b) e σ s.heap) e σ σ' nid) = Zd0 (s.kill (· != b)).heap (Zb5 (killX (some b) e σ s.heap) e σ σ' nid) := by
    intro b hb
    rw [hb] at hin hA
    have hin1 : ∀ q, q ∈ Zb5 (killX (some b) e σ s.heap) e σ σ' nid → q.1 < (killX (some b) e σ s.heap).length := hin
    refine List.ext_getElem? fun i => ?_
    rw [Zgy _ _ hin1, Zgy _ _ (fun q hq => by have := hin1 q hq; rw [Zxc] at this; simpa [St.kill] using this)]
    rw [Zeb]
    simp only [St.kill, List.getElem?_map]
    cases hy : s.heap[i]? with
    | none => rfl
    | some y =>
      simp only [Option.map_some]
      congr 1
      split
      · rename_i hc
        obtain ⟨q, sh, L, a1, a2, a3⟩ := Zqp.1 (by simpa using hc)
        have hql : q < σ'.length := by have := (List.getElem?_eq_some_iff.1 a2).1; have := hA.len; omega
        have hmemS : ∃ z, (i, z) ∈ Zb5 (killX (some b) e σ s.heap) e σ σ' nid := by
          refine ⟨{ y with cells := Zci (Zei e nid (σ'.length - σ.length)) σ'[q] }, ?_⟩
          unfold Zb5
          refine List.mem_append_left _ (List.mem_filterMap.2 ⟨(some (i, sh), (L, σ'[q])), ?_, ?_⟩)
          · rw [List.mem_iff_getElem?]
            exact ⟨q, by rw [List.getElem?_zip_eq_some]; exact ⟨a1, by rw [List.getElem?_zip_eq_some]; exact ⟨a2, by simp [hql]⟩⟩⟩
          · simp only [a3, if_true, Zeb, hy, hc, Option.map_some]
        have key : ∀ (l : List (Nat × Blk)) (u u' : Blk), (∃ z, (i, z) ∈ l) → l.foldl (fun x p => if p.1 = i then p.2 else x) u = l.foldl (fun x p => if p.1 = i then p.2 else x) u' := by
          intro l
          induction l with
          | nil => rintro u u' ⟨z, hz⟩; cases hz
          | cons p l ih =>
            rintro u u' ⟨z, hz⟩
            simp only [List.foldl_cons]
            by_cases hp : p.1 = i
            · rw [if_pos hp, if_pos hp]
            · rw [if_neg hp, if_neg hp]
              refine ih _ _ ⟨z, ?_⟩
              rcases List.mem_cons.1 hz with h | h
              · subst h; exact absurd rfl hp
              · exact h
        exact key _ _ _ hmemS
      · rfl
  unfold Delta.apply Zhj
  rcases hp2 with ⟨h1, rfl⟩ | ⟨b, h1, rfl⟩
  · simp only [h1]
    refine SRel.put ?_ hd hval
    refine ⟨hr.size, fun i => (hr.tmps i).mono fun b r hb => g3 b r rfl hb, hr.defers, ?_, g2⟩
    rw [h1] at g1; exact g1
  · simp only [h1]
    refine SRel.put ?_ hd hval
    refine ⟨hr.size, fun i => ((hr.tmps i).killV (· != b)).congr (p := (· != b)) (fun q r hq hb => g3 q r hq hb) (Zgd _ _), hr.defers, ?_, g2⟩
    rw [h1] at g1
    show HRel G _ (Zd0 (s.kill (· != b)).heap _) w'
    rw [← hsets b h1]; exact g1

end Go.Flat
end
section
/- Operations that do the same wherever their part of the state is the same. -/
namespace Go.Flat
section
variable {P : Program} {G : Glob} {nt : Nat} {ops : Array Oper} {o : Oper} {s : St}

def Zbx : Value → List Nat
  | .pointer (some ⟨b, _, none⟩) => [b]
  | .slice (some ⟨b, _, _⟩) _ _ => [b]
  | _ => []

theorem Z9 {s s' : St} {foot : List Nat} (h : Agree ops o foot s s') {x : Operand} (hx : x ∈ o.op.operands) : s'.eval x = s.eval x := by
 cases x with
 | tmp t =>
  refine h.tmps t ?_
  unfold Oper.looksAt
  exact List.mem_append_left _ (List.mem_filterMap.2 ⟨.tmp t, by simpa using hx, rfl⟩)
 | _ => rfl
theorem Zjf {s s' : St} {foot : List Nat} (h : Agree ops o foot s s') : Zc3 nt s' (Zc5 ops o) = Zc3 nt s (Zc5 ops o) := by
 unfold Zc5
 cases hg : o.guard with
 | none => rfl
 | some p =>
  obtain ⟨j, want⟩ := p
  simp only [Option.map_some]
  cases ht : (ops[j]?).bind (·.dst) with
  | none => rfl
  | some t =>
   have := h.tmps t (by
    unfold Oper.looksAt
    exact List.mem_append_right _ (by simp [hg, ht]))
   simp only [Zc3, this]

theorem Zae.run {δ : Delta} (hg : Zc3 nt s (Zc5 ops o) = some true) (hd : Zbb nt o.dst = true) (h : ∀ s', Agree ops o δ.foot s s' → Z1d P G o s' (δ.apply o.dst s')) : Zae P G nt ops o s δ :=
 fun s' ha => Zm9.run (by rw [Zjf ha]; exact hg) hd (h s' ha)
theorem Zae.skip (hg : Zc3 nt s (Zc5 ops o) = some false) (hd : Zbb nt o.dst = true) : Zae P G nt ops o s { val := undef } := by
 intro s' ha
 have := Zm9.skip (P := P) (G := G) (nt := nt) (ops := ops) (o := o) (s := s') (by rw [Zjf ha]; exact hg) hd
 simpa [Delta.apply, Zd0] using this
theorem Zae.value {v : Value} {sets : List (Nat × Blk)} {foot : List Nat} (hg : Zc3 nt s (Zc5 ops o) = some true) (hd : Zbb nt o.dst = true) (h : ∀ s', Agree ops o foot s s' → Zas P G o s' v sets) : Zae P G nt ops o s { val := v, sets := sets, foot := foot } :=
 Zae.run hg hd fun s' ha => (h s' ha).opOK

variable (hg : Zc3 nt s (Zc5 ops o) = some true) (hd : Zbb nt o.dst = true)
include hg hd

theorem Zzq {x : Operand} (ho : o.op = .move x ∨ o.op = .assign x) {v : Value} (h : s.eval x = v) : Zae P G nt ops o s { val := v } :=
  Zae.value hg hd fun s' ha => by
    have he : s'.eval x = v := by rw [Z9 ha (by rcases ho with ho | ho <;> rw [ho] <;> simp [Op.operands])]; exact h
    rw [← he]; exact Zu9 ho
theorem Z4m {c x y : Operand} {v : Value} (ho : o.op = .pick c x y) (h : Zqf s c x y = some v) : Zae P G nt ops o s { val := v } :=
 Zae.value hg hd fun s' ha => Zvb ho (by
  have e := fun z hz => Z9 (x := z) ha (by rw [ho]; exact hz)
  unfold Zqf at h ⊢
  rw [e c (by simp [Op.operands]), e x (by simp [Op.operands]), e y (by simp [Op.operands])]; exact h)
theorem Z2c {t : TypeId} {nid : Nat} {x : Blk} (ho : o.op = .alloc t) (h : Zl7 P s.heap t nid = some x) : Zae P G nt ops o s { val := Zdv nid, sets := [(nid, x)], foot := [nid] } :=
 Zae.value hg hd fun s' ha => Ztm ho (by
  unfold Zl7 at h ⊢
  rw [show Zby s'.heap nid = Zby s.heap nid from by unfold Zby; rw [ha.heap nid (by simp), ha.len]]; exact h)
theorem Z5l {t : TypeId} {x : Operand} {nid : Nat} {b : Blk} (ho : o.op = .box t x) (h : Znz s.heap (s.eval x) nid = some b) : Zae P G nt ops o s { val := Zdv nid, sets := [(nid, b)], foot := [nid] } :=
 Zae.value hg hd fun s' ha => Zx5 ho (by
  unfold Znz at h ⊢
  rw [Z9 ha (x := x) (by rw [ho]; simp [Op.operands]), show Zby s'.heap nid = Zby s.heap nid from by unfold Zby; rw [ha.heap nid (by simp), ha.len]]; exact h)
theorem Z4j {t : TypeId} {x : Operand} {v : Value} (ho : o.op = .load t x) (h : Zde P G t s.heap (s.eval x) = some v) : Zae P G nt ops o s { val := v, foot := Zbx (s.eval x) } :=
 Zae.value hg hd fun s' ha => Zu7 ho (by
  rw [Z9 ha (x := x) (by rw [ho]; simp [Op.operands])]
  have hh := ha.heap
  generalize s.eval x = v at h hh ⊢
  unfold Zde at h ⊢
  split at h
  ·rename_i ag n b of hk
   rw [hh b (by simp [Zbx])]; exact h
  ·rename_i ag n g of q hk
   exact h
  ·cases h)
theorem Z2i {t : TypeId} {x y : Operand} {b : Nat} {blk : Blk} (ho : o.op = .store t x y) (h : Zfn P t s.heap (s.eval x) (s.eval y) = some (b, blk)) : Zae P G nt ops o s { val := undef, sets := [(b, blk)], foot := Zbx (s.eval x) } :=
 Zae.value hg hd fun s' ha => Ztr ho (by
  rw [Z9 ha (x := x) (by rw [ho]; simp [Op.operands]), Z9 ha (x := y) (by rw [ho]; simp [Op.operands])]
  have hh := ha.heap
  generalize s.eval x = v at h hh ⊢
  unfold Zfn at h ⊢
  split at h
  ·rename_i ag n b' of hk
   rw [hh b' (by simp [Zbx])]; exact h
  ·cases h)
theorem Z5k {op : BinOp} {t yt : TypeId} {x y : Operand} {v : Value} (ho : o.op = .binOp op t x y yt) (h : Zcf P op t x y (s.eval x) (s.eval y) = some v) : Zae P G nt ops o s { val := v } :=
 Zae.value hg hd fun s' ha => Zx4 ho (by rw [Z9 ha (x := x) (by rw [ho]; simp [Op.operands]), Z9 ha (x := y) (by rw [ho]; simp [Op.operands])]; exact h)
theorem Z6o {op : UnOp} {t : TypeId} {x : Operand} {v : Value} (ho : o.op = .unOp op t x) (h : unD P op (s.eval x) = some v) : Zae P G nt ops o s { val := v } :=
 Zae.value hg hd fun s' ha => Z0x ho (by rw [Z9 ha (x := x) (by rw [ho]; simp [Op.operands])]; exact h)
theorem Z4g {src dst : TypeId} {x : Operand} {v : Value} (ho : o.op = .convert src dst x) (h : Zj8 P src dst (s.eval x) = some v) : Zae P G nt ops o s { val := v } :=
 Zae.value hg hd fun s' ha => Zu4 ho (by rw [Z9 ha (x := x) (by rw [ho]; simp [Op.operands])]; exact h)
theorem Zst {t : TypeId} {x : Operand} {f : Nat} {v : Value} (ho : o.op = .fieldAddr t x f) (h : Zq4 P t (s.eval x) f = some v) : Zae P G nt ops o s { val := v } :=
 Zae.value hg hd fun s' ha => Zne ho (by rw [Z9 ha (x := x) (by rw [ho]; simp [Op.operands])]; exact h)
theorem Zsu {t : TypeId} {x y : Operand} {v : Value} (ho : o.op = .indexAddr t x y) (h : Zw8 P t (s.eval x) (s.eval y) = some v) : Zae P G nt ops o s { val := v } :=
 Zae.value hg hd fun s' ha => Znf ho (by rw [Z9 ha (x := x) (by rw [ho]; simp [Op.operands]), Z9 ha (x := y) (by rw [ho]; simp [Op.operands])]; exact h)
theorem Z2f {t : TypeId} {x : Operand} {f : Nat} {v : Value} (ho : o.op = .field t x f) (h : Zq5 P t (s.eval x) f = some v) : Zae P G nt ops o s { val := v } :=
 Zae.value hg hd fun s' ha => Zto ho (by rw [Z9 ha (x := x) (by rw [ho]; simp [Op.operands])]; exact h)
theorem Z2g {t : TypeId} {x y : Operand} {v : Value} (ho : o.op = .index t x y) (h : Zmg P t (s.eval x) (s.eval y) = some v) : Zae P G nt ops o s { val := v } :=
 Zae.value hg hd fun s' ha => Ztp ho (by rw [Z9 ha (x := x) (by rw [ho]; simp [Op.operands]), Z9 ha (x := y) (by rw [ho]; simp [Op.operands])]; exact h)
theorem Z2d {t : TypeId} {ps : Array (Nat × Operand)} {v : Value} (ho : o.op = .build t ps) (h : Zqx P t (ps.toList.map fun p => (p.1, s.eval p.2)) = some v) : Zae P G nt ops o s { val := v } :=
 Zae.value hg hd fun s' ha => Ztn ho (by
  rw [List.map_congr_left (fun p hp => by rw [Z9 ha (x := p.2) (by rw [ho]; simp only [Op.operands]; simpa using ⟨p.1, by simpa using hp⟩)])]; exact h)
theorem Z5o {t : TypeId} {n : Nat} {ps : Array (Nat × Operand)} {nid : Nat} {v : Value} {b : Blk} (ho : o.op = .buildSlice t n ps) (h : Zzx P s.heap t n (ps.toList.map fun p => (p.1, s.eval p.2)) nid = some (v, b)) : Zae P G nt ops o s { val := v, sets := [(nid, b)], foot := [nid] } :=
 Zae.value hg hd fun s' ha => Zx8 ho (by
  rw [List.map_congr_left (fun p hp => by rw [Z9 ha (x := p.2) (by rw [ho]; simp only [Op.operands]; simpa using ⟨p.1, by simpa using hp⟩)])]
  unfold Zzx at h ⊢
  rw [show Zby s'.heap nid = Zby s.heap nid from by unfold Zby; rw [ha.heap nid (by simp), ha.len]]; exact h)
theorem Zuj {f : Fn} {xs ys : Array Operand} {v : Value} (ho : o.op = .makeFunc f xs ys) (h : Zp3 s f xs ys = some v) : Zae P G nt ops o s { val := v } :=
 Zae.value hg hd fun s' ha => Zo2 ho (by
  have e := fun z hz => Z9 (x := z) ha (by rw [ho]; exact hz)
  have e1 : xs.map s'.eval = xs.map s.eval := Array.map_congr_left fun z hz => e z (by simp [Op.operands, hz])
  have e2 : ys.map s'.eval = ys.map s.eval := Array.map_congr_left fun z hz => e z (by simp [Op.operands, hz])
  unfold Zp3 at h ⊢
  rw [e1, e2]
  have e3 : (xs.toList.all fun x => Zdy (s'.eval x)) = xs.toList.all fun x => Zdy (s.eval x) := by
   rw [Bool.eq_iff_iff]; simp only [List.all_eq_true]
   exact ⟨fun hh z hz => by rw [← e z (by simp [Op.operands, Array.mem_toList_iff.1 hz])]; exact hh z hz, fun hh z hz => by rw [e z (by simp [Op.operands, Array.mem_toList_iff.1 hz])]; exact hh z hz⟩
  have e4 : (ys.toList.all fun x => Zdy (s'.eval x)) = ys.toList.all fun x => Zdy (s.eval x) := by
   rw [Bool.eq_iff_iff]; simp only [List.all_eq_true]
   exact ⟨fun hh z hz => by rw [← e z (by simp [Op.operands, Array.mem_toList_iff.1 hz])]; exact hh z hz, fun hh z hz => by rw [e z (by simp [Op.operands, Array.mem_toList_iff.1 hz])]; exact hh z hz⟩
  rw [e3, e4]; exact h)
theorem Zxe {x : Operand} {i : Nat} {v : Value} (ho : o.op = .extract x i) (h : Zy9 (s.eval x) i = some v) : Zae P G nt ops o s { val := v } :=
 Zae.value hg hd fun s' ha => Zpl ho (by rw [Z9 ha (x := x) (by rw [ho]; simp [Op.operands])]; exact h)
theorem Zuk {x : Operand} {v : Value} (ho : o.op = .nilCheck x) (h : Zz6 (s.eval x) = some v) : Zae P G nt ops o s { val := v } :=
 Zae.value hg hd fun s' ha => Zo3 ho (by rw [Z9 ha (x := x) (by rw [ho]; simp [Op.operands])]; exact h)
theorem Z2h {t : TypeId} {x : Operand} {lo hi : Option Operand} {v : Value} (ho : o.op = .slice t x lo hi none) (h : Zg7 P s.heap t (s.eval x) (lo.map s.eval) (hi.map s.eval) = some v) : Zae P G nt ops o s { val := v, foot := Zbx (s.eval x) } :=
  Zae.value hg hd fun s' ha => Ztq ho (by
    have e := fun z hz => Z9 (x := z) ha (by rw [ho]; exact hz)
    rw [e x (by simp [Op.operands]), show lo.map s'.eval = lo.map s.eval from by cases lo with | none => rfl | some z => simp [e z (by simp [Op.operands])],
      show hi.map s'.eval = hi.map s.eval from by cases hi with | none => rfl | some z => simp [e z (by simp [Op.operands])]]
    have hh := ha.heap
    generalize s.eval x = v at h hh ⊢
    unfold Zg7 at h ⊢
    split at h
    · rename_i b hu; exact h
    · rename_i e' b o' n c hu
      have : ∀ sz, Zm6 s'.heap b sz = Zm6 s.heap b sz := fun sz => by unfold Zm6; rw [hh b (by simp [Zbx])]
      simp only [this]; exact h
    · rename_i e' n c hu; exact h
    · rename_i n e' b o' hu
      have : Znw s'.heap b = Znw s.heap b := by unfold Znw; rw [hh b (by simp [Zbx])]
      simp only [this]; exact h
    · cases h)
theorem Z4k {t : TypeId} {x y : Operand} {nid : Nat} {v : Value} {b : Blk} (ho : o.op = .makeSlice t x y) (h : Zoq P s.heap t (s.eval x) (s.eval y) nid = some (v, b)) : Zae P G nt ops o s { val := v, sets := [(nid, b)], foot := [nid] } :=
 Zae.value hg hd fun s' ha => Zu8 ho (by
  rw [Z9 ha (x := x) (by rw [ho]; simp [Op.operands]), Z9 ha (x := y) (by rw [ho]; simp [Op.operands])]
  unfold Zoq at h ⊢
  rw [show Zby s'.heap nid = Zby s.heap nid from by unfold Zby; rw [ha.heap nid (by simp), ha.len]]; exact h)
theorem Z5p {src dst : TypeId} {x : Operand} {v : Value} (ho : o.op = .convert src dst x) (h : Zrp P s.heap src dst (s.eval x) = some v) : Zae P G nt ops o s { val := v, foot := Zbx (s.eval x) } :=
 Zae.value hg hd fun s' ha => Zx9 ho (by
  rw [Z9 ha (x := x) (by rw [ho]; simp [Op.operands])]
  have hh := ha.heap
  generalize s.eval x = v at h hh ⊢
  unfold Zrp at h ⊢
  split at h
  ·rename_i e' b of n c hu1 hu2
   rw [hh b (by simp [Zbx])]; exact h
  ·rename_i e' n c hu1 hu2; exact h
  ·cases h)
theorem Z5n {t : TypeId} {x : Operand} {v : Value} (ho : o.op = .call { callee := .builtin .len, args := #[x], argTypes := #[t] }) (h : Zzw P t (s.eval x) = some v) : Zae P G nt ops o s { val := v } :=
 Zae.value hg hd fun s' ha => Zx7 ho (by rw [Z9 ha (x := x) (by rw [ho]; simp [Op.operands, Call.operands])]; exact h)
theorem Z6n {b : Builtin} {xs : Array Operand} {ts : Array TypeId} {v : Value} (ho : o.op = .call { callee := .builtin b, args := xs, argTypes := ts }) (h : mmD P b ts o.type (xs.toList.map s.eval) = some v) : Zae P G nt ops o s { val := v } :=
 Zae.value hg hd fun s' ha => Z0w ho (by
  rw [List.map_congr_left (fun z hz => Z9 ha (x := z) (by rw [ho]; simp [Op.operands, Call.operands]; simpa using hz))]; exact h)
omit hg hd in
theorem Zkq {σ σ' : List Blk} {sz : Nat} {v : Value} (h : ∀ b, b ∈ Zbx v → σ'[b]? = σ[b]?) : Zg8 σ' sz v = Zg8 σ sz v := by
 unfold Zg8
 split
 ·rename_i b of n c; rw [h b (by simp [Zbx])]
 ·rfl
 ·rfl
 ·rfl
theorem Z4h {t u : TypeId} {x y : Operand} {v : Value} {b : Nat} {blk' : Blk} (ho : o.op = .call { callee := .builtin .copy, args := #[x, y], argTypes := #[t, u] }) (h : Zsc P s.heap t (s.eval x) (s.eval y) = some (v, b, blk')) : Zae P G nt ops o s { val := v, sets := [(b, blk')], foot := Zbx (s.eval x) ++ Zbx (s.eval y) } :=
 Zae.value hg hd fun s' ha => Zu5 ho (by
  rw [Z9 ha (x := x) (by rw [ho]; simp [Op.operands, Call.operands]), Z9 ha (x := y) (by rw [ho]; simp [Op.operands, Call.operands])]
  have hh := ha.heap
  unfold Zsc at h ⊢
  split at h
  ·rename_i sz zc by_ b' of dn c ht hx
   try simp only [ht, hx]
   rw [Zkq (σ := s.heap) (σ' := s'.heap) (fun q hq => hh q (by simp [hq])), hh b' (by simp [hx, Zbx])]; exact h
  ·cases h)
theorem Z4d {t u : TypeId} {x y : Operand} {v : Value} {nid : Nat} {b : Blk} {d : TypeDesc} (ho : o.op = .call { callee := .builtin .append, args := #[x, y], argTypes := #[t, u] })
  (hu : P.underlying u = some d) (hdd : (∃ e2, d = .slice e2) ∨ d = .string) (h : Zym P s.heap t (s.eval x) (s.eval y) nid = some (v, b)) : Zae P G nt ops o s { val := v, sets := [(nid, b)], foot := nid :: Zbx (s.eval y) } :=
 Zae.value hg hd fun s' ha => Zu1 ho hu hdd (by
  rw [Z9 ha (x := x) (by rw [ho]; simp [Op.operands, Call.operands]), Z9 ha (x := y) (by rw [ho]; simp [Op.operands, Call.operands])]
  have hh := ha.heap
  unfold Zym at h ⊢
  rw [show Zby s'.heap nid = Zby s.heap nid from by unfold Zby; rw [ha.heap nid (by simp), ha.len]]
  split at h
  ·rename_i sz zc by_ n c ht hx
   try simp only [ht, hx]
   rw [Zkq (σ := s.heap) (σ' := s'.heap) (fun q hq => hh q (by simp [hq]))]; exact h
  ·cases h)
theorem Zzo {t u : TypeId} {x y : Operand} {v : Value} {b : Nat} {blk' : Blk} {d : TypeDesc} (ho : o.op = .call { callee := .builtin .append, args := #[x, y], argTypes := #[t, u] })
  (hu : P.underlying u = some d) (hdd : (∃ e2, d = .slice e2) ∨ d = .string) (h : Znt P s.heap t (s.eval x) (s.eval y) = some (v, b, blk')) : Zae P G nt ops o s { val := v, sets := [(b, blk')], kill := some b, foot := Zbx (s.eval x) ++ Zbx (s.eval y) } :=
 Zae.run hg hd fun s' ha => Zxr ho hu hdd (by
  rw [Z9 ha (x := x) (by rw [ho]; simp [Op.operands, Call.operands]), Z9 ha (x := y) (by rw [ho]; simp [Op.operands, Call.operands])]
  have hh := ha.heap
  unfold Znt at h ⊢
  split at h
  ·rename_i sz zc by_ b' of n c ht hx
   try simp only [ht, hx]
   rw [Zkq (σ := s.heap) (σ' := s'.heap) (fun q hq => hh q (by simp [hq])), hh b' (by simp [hx, Zbx])]; exact h
  ·cases h)
end
end Go.Flat
end
section
/- Calls among others; code; a contract out of a Zbh. -/
namespace Go.Flat
section
variable {P : Program} {G : Glob}


theorem Zk3 {H H' : List Blk} {e : Emb} : ∀ {ps : Emb} {Ls : List Blk}, (∀ p, p ∈ ps → ∀ q, p = some q → H'[q.1]? = H[q.1]?) → Zhu H e ps Ls → Zhu H' e ps Ls
 | [], [], _, h => trivial
 | p :: ps, L :: Ls, hh, h => by
  refine ⟨?_, Zk3 (fun p hp => hh p (by simp [hp])) h.2⟩
  have h1 := h.1
  cases p with
  | none => exact h1
  | some q =>
   obtain ⟨id, sh⟩ := q
   unfold Zd3 at h1 ⊢
   simp only at h1 ⊢
   have := hh (some (id, sh)) (by simp) (id, sh) rfl
   simp only at this
   rw [this]; exact h1
 | [], _ :: _, _, h => h.elim
 | _ :: _, [], _, h => h.elim

theorem Zh5 {α β : Type} {f g : α → Option β} : ∀ {l : List α}, (∀ x, x ∈ l → f x = g x) → l.filterMap f = l.filterMap g
 | [], _ => rfl
 | x :: l, h => by
  rw [List.filterMap_cons, List.filterMap_cons, h x (by simp), Zh5 (fun y hy => h y (by simp [hy]))]

theorem Zt8 {H H' : List Blk} {e : Emb} {argsL argsC : List Value} {σ σ' : List Blk} {res : Value} {nid : Nat} (h : ∀ b, b ∈ (Zhj H e σ res σ' nid).foot → H'[b]? = H[b]?) (hok : CallOK H e argsL argsC σ σ' nid) :
  CallOK H' e argsL argsC σ σ' nid ∧ Zhj H' e σ res σ' nid = Zhj H e σ res σ' nid := by
 have hid : ∀ p, p ∈ e → ∀ q, p = some q → H'[q.1]? = H[q.1]? := by
  rintro p hp q rfl
  refine h q.1 ?_
  simp only [Zhj]
  exact List.mem_append_left _ (List.mem_filterMap.2 ⟨some q, hp, rfl⟩)
 have hnew : ∀ k, k < σ'.length - σ.length → H'[nid + k]? = H[nid + k]? := by
  intro k hk
  refine h _ ?_
  simp only [Zhj]
  exact List.mem_append_right _ (List.mem_map.2 ⟨k, by simpa using hk, rfl⟩)
 have hidK : ∀ p, p ∈ e → ∀ q, p = some q → (killX (Za8 e σ).head? e σ H')[q.1]? = (killX (Za8 e σ).head? e σ H)[q.1]? := fun p hp q hq => by
  rw [Zeb, Zeb, hid p hp q hq]
 have hshape : Zgr (killX (Za8 e σ).head? e σ H') σ σ' nid = Zgr (killX (Za8 e σ).head? e σ H) σ σ' nid := by
  unfold Zgr
  congr 1
  rw [Bool.eq_iff_iff]
  simp only [List.all_eq_true, List.mem_range]
  constructor
  ·intro hh k hk
   have := hh k hk
   rw [Zeb, hnew k hk, ← Zeb] at this; exact this
  ·intro hh k hk
   have := hh k hk
   rw [Zeb, hnew k hk, ← Zeb]; exact this
 refine ⟨⟨hok.args, Zk3 hidK hok.emb, hok.dist, hok.names, by rw [hshape]; exact hok.shape, hok.one⟩, ?_⟩
 unfold Zhj
 congr 1
 unfold Zb5
 congr 1
 refine Zh5 fun p hp => ?_
 obtain ⟨i, hi⟩ := List.getElem?_of_mem hp
 rw [List.getElem?_zip_eq_some] at hi
 cases hp1 : p.1 with
 | none => rfl
 | some q =>
  obtain ⟨id, sh⟩ := q
  have := hidK (some (id, sh)) (by rw [← hp1]; exact List.mem_of_getElem? hi.1) (id, sh) rfl
  simp only at this
  simp only [this]

theorem Zzp {nt : Nat} {ops : Array Oper} {o : Oper} {s : St} (hg : Zc3 nt s (Zc5 ops o) = some true) (hd : Zbb nt o.dst = true) {f : Operand} {args : Array Operand} {ts : Array TypeId} {k : FuncId} {first captured : Array Value}
  (ho : o.op = .call { callee := .value f, args := args, argTypes := ts }) (hf : s.eval f = .func (.func k) first captured) (hcap : first.toList.all Zdy = true ∧ captured.toList.all Zdy = true) (hk : Zd6 P k = true)
  {argsL : List Value} {σ σ' : List Blk} {res : Value} (hC : Z6 P G k argsL σ res σ') (e : Emb) (nid : Nat)
  (hok : CallOK s.heap e argsL (first.toList ++ args.toList.map s.eval ++ captured.toList) σ σ' nid) : Zae P G nt ops o s (Zhj s.heap e σ res σ' nid) := by
 intro s' ha
 have hop : ∀ x, x ∈ o.op.operands → s'.eval x = s.eval x := fun x hx => Z9 ha hx
 have hf' : s'.eval f = .func (.func k) first captured := by rw [hop f (by rw [ho]; simp [Op.operands, Call.operands])]; exact hf
 have hargs : args.toList.map s'.eval = args.toList.map s.eval := List.map_congr_left fun x hx => hop x (by rw [ho]; simp [Op.operands, Call.operands]; exact .inr (by simpa using hx))
 obtain ⟨h1, h2⟩ := Zt8 (H := s.heap) (H' := s'.heap) (res := res) ha.heap hok
 have := Zm9.call (P := P) (G := G) (nt := nt) (ops := ops) ho hf' hcap hk (by rw [Zjf ha]; exact hg) hd hC e nid (s := s') (by rw [hargs]; exact h1)
 rw [h2] at this
 exact this


def Zbg (P : Program) (G : Glob) (nt : Nat) (ops : Array Oper) (K : Trace → St → Prop) : List Oper → Trace → St → Prop
  | [], tr, s => K tr s
  | o :: l, tr, s => ∃ δ, Zae P G nt ops o s δ ∧ Zbg P G nt ops K l (tr ++ [(o, δ)]) (δ.apply o.dst s)

theorem Zbg.step {nt : Nat} {ops : Array Oper} {K : Trace → St → Prop} {o : Oper} {l : List Oper} {tr : Trace} {s : St} {δ : Delta} (h : Zae P G nt ops o s δ) (h2 : Zbg P G nt ops K l (tr ++ [(o, δ)]) (δ.apply o.dst s)) : Zbg P G nt ops K (o :: l) tr s := ⟨δ, h, h2⟩

theorem Zae.opTo {nt : Nat} {ops : Array Oper} {o : Oper} {s : St} {δ : Delta} (h : Zae P G nt ops o s δ) : Zm9 P G nt ops o s (δ.apply o.dst s) := h s ⟨fun _ _ => rfl, fun _ _ => rfl, rfl⟩

theorem Zbg.seq {nt : Nat} {ops : Array Oper} {K : Trace → St → Prop} : ∀ {l : List Oper} {tr : Trace} {s : St}, Zbg P G nt ops K l tr s → Zgb P G nt ops (fun s => ∃ tr, K tr s) l s
 | [], tr, s, h => ⟨tr, h⟩
 | o :: l, tr, s, ⟨δ, h1, h2⟩ => ⟨_, h1.opTo, Zbg.seq h2⟩

theorem Ztt {S : Nat → Bool} : ∀ (l : Trace) (k : Nat) (s : St) (p : Oper × Delta), S (k + l.length) = true → stS s S (l ++ [p]) k = p.2.apply p.1.dst (stS s S l k)
 | [], k, s, p, h => by simp [stS] at h ⊢; rw [h]; simp
 | (o, δ) :: l, k, s, p, h => by
  simp only [List.cons_append, stS]
  exact Ztt l (k + 1) _ p (by rw [← h]; congr 1; simp; omega)

theorem Zbg.drawn {nt : Nat} {ops : Array Oper} {K : Trace → St → Prop} {s0 : St} : ∀ {l : List Oper} {tr : Trace} {s : St}, Zbg P G nt ops K l tr s → s = stS s0 (fun _ => true) tr 0 →
    (∀ (i : Nat) (o : Oper) (δ : Delta), tr[i]? = some (o, δ) → Zae P G nt ops o (stS s0 (fun _ => true) (tr.take i) 0) δ) →
    ∃ tr' : Trace, tr'.map (·.1) = tr.map (·.1) ++ l ∧ K tr' (stS s0 (fun _ => true) tr' 0) ∧ ∀ (i : Nat) (o : Oper) (δ : Delta), tr'[i]? = some (o, δ) → Zae P G nt ops o (stS s0 (fun _ => true) (tr'.take i) 0) δ
  | [], tr, s, h, hs, hl => ⟨tr, by simp, by subst hs; exact h, hl⟩
  | o :: l, tr, s, ⟨δ, h1, h2⟩, hs, hl => by
    obtain ⟨tr', g1, g2, g3⟩ := Zbg.drawn (s0 := s0) h2 (by rw [Ztt _ _ _ _ rfl, hs]) (by
      intro i o' δ' hi
      rcases Nat.lt_or_ge i tr.length with hlt | hge
      · rw [List.getElem?_append_left hlt] at hi
        rw [List.take_append_of_le_length (by omega)]
        exact hl i o' δ' hi
      · rw [List.getElem?_append_right hge] at hi
        have : i - tr.length = 0 := by
          rcases Nat.eq_zero_or_pos (i - tr.length) with h0 | h0
          · exact h0
          · rw [List.getElem?_eq_none (by simp; omega)] at hi; cases hi
        rw [this] at hi
        simp at hi
        obtain ⟨rfl, rfl⟩ := hi
        have hie : i = tr.length := by omega
        subst hie
        rw [List.take_append_of_le_length (Nat.le_refl _), List.take_length, ← hs]
        exact h1)
    exact ⟨tr', by rw [g1]; simp, g2, g3⟩


def Zpd (G : Glob) (nt : Nat) (E : Ent) (Q : Exit → St → Prop) : Exit → Act → World → Prop := fun e a w => ∃ s m, Q e s ∧ SRel G nt E m s a w

def WpL (P : Program) (G : Glob) (nt n0 : Nat) (c : Code) (Q : Exit → St → Prop) (s : St) : Prop :=
  ∀ E m a w, (∀ b, n0 ≤ b → E.m b = none) → SRel G nt E m s a w → c.wp P (Zpd G nt E Q) a w

def Zea (next : St → Prop) (Q : Exit → St → Prop) : Exit → St → Prop
  | .normal, s => next s
  | e, s => Q e s
def Zee (id : Nat) (Q : Exit → St → Prop) : Exit → St → Prop
  | .exit id', s => if id' = id then Q .normal s else Q (.exit id') s
  | e, s => Q e s

variable {nt n0 : Nat} {Q : Exit → St → Prop} {s : St}
theorem WpL.mono {c : Code} {Q' : Exit → St → Prop} (h : WpL P G nt n0 c Q s) (hq : ∀ e s, Q e s → Q' e s) : WpL P G nt n0 c Q' s :=
 fun E m a w h0 hr => wp_mono (h E m a w h0 hr) fun e a w ⟨s, m, h1, h2⟩ => ⟨s, m, hq _ _ h1, h2⟩
theorem WpL.skip (h : Q .normal s) : WpL P G nt n0 .skip Q s := fun E m a w h0 hr => wp_skip ⟨s, m, h, hr⟩
theorem WpL.label {l : Nat} (h : Q .normal s) : WpL P G nt n0 (.label l) Q s := fun E m a w h0 hr => wp_label ⟨s, m, h, hr⟩
theorem WpL.exit {i : Nat} (h : Q (.exit i) s) : WpL P G nt n0 (.exit i) Q s := fun E m a w h0 hr => wp_exit ⟨s, m, h, hr⟩
theorem WpL.goto {l : Nat} (h : Q (.goto l) s) : WpL P G nt n0 (.goto l) Q s := fun E m a w h0 hr => wp_goto ⟨s, m, h, hr⟩
theorem WpL.ret (h : Q .ret s) : WpL P G nt n0 .ret Q s := fun E m a w h0 hr => wp_ret ⟨s, m, h, hr⟩
theorem WpL.seq {x y : Code} (h : ∀ K : St → Prop, (∀ s, WpL P G nt n0 y Q s → K s) → WpL P G nt n0 x (Zea K Q) s) : WpL P G nt n0 (.seq x y) Q s := by
 intro E m a w h0 hr
 refine wp_seq (wp_mono (h _ (fun s hs => hs) E m a w h0 hr) ?_)
 rintro e a' w' ⟨s', m', h1, h2⟩
 cases e with
 | normal => exact h1 E m' a' w' h0 h2
 | _ => exact ⟨s', m', h1, h2⟩
theorem WpL.cond {c : Operand} {x y : Code} {t : Bool} (hc : s.eval c = .bool t) (h : WpL P G nt n0 (if t then x else y) Q s) : WpL P G nt n0 (.cond c x y) Q s := by
 intro E m a w h0 hr
 refine wp_cond (t := t) ?_ (h E m a w h0 hr)
 rw [Za6 hr (by rw [hc]; rfl), hc]
theorem WpL.cond_t {c : Operand} {x y : Code} (hc : s.eval c = .bool true) (h : WpL P G nt n0 x Q s) : WpL P G nt n0 (.cond c x y) Q s := WpL.cond hc h
theorem WpL.cond_f {c : Operand} {x y : Code} (hc : s.eval c = .bool false) (h : WpL P G nt n0 y Q s) : WpL P G nt n0 (.cond c x y) Q s := WpL.cond hc h
theorem WpL.block {i : Nat} {c : Code} (h : WpL P G nt n0 c (Zee i Q) s) : WpL P G nt n0 (.block i c) Q s := by
 intro E m a w h0 hr
 refine wp_block (wp_mono (h E m a w h0 hr) ?_)
 rintro e a' w' ⟨s', m', h1, h2⟩
 cases e with
 | exit i' =>
  by_cases he : i' = i
  ·simp only [Zee, if_pos he] at h1
   simp only [Exit.inBlock, if_pos he]
   exact ⟨s', m', h1, h2⟩
  ·simp only [Zee, if_neg he] at h1
   simp only [Exit.inBlock, if_neg he]
   exact ⟨s', m', h1, h2⟩
 | _ => exact ⟨s', m', h1, h2⟩
theorem WpL.region {i : Nat} {ops : Array Oper} (h : Zbg P G nt ops (fun _ s => Q .normal s) ops.toList [] s) : WpL P G nt n0 (.region i ops false) Q s := by
 intro E m a w h0 hr
 refine wp_region_list ?_
 exact Zgb.sound (Q := Zpd G nt E Q) (K := fun s => ∃ tr : Trace, Q .normal s) (fun s m a w ⟨_, h1⟩ h2 => ⟨s, m, h1, h2⟩) _ _ h.seq m a w hr
theorem WpL.drawn {i : Nat} {ops : Array Oper} (hm : P.follows .mixedOrders = true) (h : Zbg P G nt ops (fun tr s' => Zf5 ops tr s.heap.length = true ∧ Q .normal s') ops.toList [] s) : WpL P G nt n0 (.region i ops true) Q s := by
 intro E m a w h0 hr
 obtain ⟨tr, g1, ⟨g2, g4⟩, g3⟩ := Zbg.drawn (s0 := s) h rfl (by simp)
 exact Zsf hm (by simpa using g1) g2 g3 hr (fun m a w hr => ⟨_, m, g4, hr⟩)


def Za7 (G : Glob) (nt n0 : Nat) (s s' : St) : Prop := ∀ E m a w, (∀ b, n0 ≤ b → E.m b = none) → SRel G nt E m s a w → ∃ m', SRel G nt E m' s' a w
theorem Za7.refl (s : St) : Za7 G nt n0 s s := fun E m a w h0 hr => ⟨m, hr⟩
theorem Za7.trans {s s' s'' : St} (h : Za7 G nt n0 s s') (h' : Za7 G nt n0 s' s'') : Za7 G nt n0 s s'' := fun E m a w h0 hr => let ⟨m', h1⟩ := h E m a w h0 hr; h' E m' a w h0 h1
theorem WpL.weak {c : Code} {s' : St} (hw : Za7 G nt n0 s s') (h : WpL P G nt n0 c Q s') : WpL P G nt n0 c Q s := fun E m a w h0 hr => let ⟨m', h1⟩ := hw E m a w h0 hr; h E m' a w h0 h1

theorem Za7.reserve (s : St) (n : Nat) : Za7 G nt n0 s { s with heap := s.heap ++ List.replicate n hole } := by
 intro E m a w h0 hr
 refine ⟨m, hr.size, hr.tmps, hr.defers, ?_, hr.frame⟩
 induction n with
 | zero => simpa using hr.heap
 | succ n ih =>
  have := ih.reserve hole rfl rfl
  rw [List.append_assoc] at this
  have e : List.replicate n hole ++ [hole] = List.replicate (n + 1) hole := by rw [List.replicate_succ']
  rw [e] at this
  exact this

def Zzj (n : Nat) (s s' : St) : Prop := ∀ i, s'.tmps i = dead ∨ (s'.tmps i = s.tmps i ∧ Zdx (fun b => decide (b < n)) (s.tmps i) = true)
theorem Za7.take {s s' : St} (n : Nat) (hn : n0 ≤ n) (ht : Zzj n s s') (hh : s'.heap = s.heap.take n) (hb : (s'.heap.all fun x => x.pur || x.cells.all (Zan fun b => decide (b < n))) = true) : Za7 G nt n0 s s' := by
  intro E m a w h0 hr
  have hag : ∀ b r, decide (b < n) = true → m b = some r → (fun b => if b < n then m b else none) b = some r := by
    intro b r hb' hr'
    simp only at hb' ⊢
    rw [if_pos (by simpa using hb')]; exact hr'
  have hsub : ∀ b r, (if b < n then m b else none) = some r → b < n ∧ m b = some r := by
    intro b r h
    split at h
    · rename_i hlt; exact ⟨hlt, h⟩
    · cases h
  simp only [List.all_eq_true, Bool.or_eq_true] at hb
  have hget : ∀ b, b < n → s'.heap[b]? = s.heap[b]? := fun b hb' => by rw [hh, List.getElem?_take, if_pos hb']
  refine ⟨fun b => if b < n then m b else none, hr.size, fun i => ?_, hr.defers, ⟨?_, ?_, ?_, ?_, ?_, ?_, ?_, ?_, ?_⟩, ?_⟩
  · rcases ht i with h1 | ⟨h1, h2⟩
    · rw [h1]; exact VR.dead
    · rw [h1]; exact (hr.tmps i).congr hag h2
  · intro b r h
    obtain ⟨h1, h2⟩ := hsub b r h
    obtain ⟨blk, g1, g2⟩ := hr.heap.reg b r h2
    exact ⟨blk, by rw [hget b h1]; exact g1, g2⟩
  · intro b blk h1 h2
    have hlt : b < n := by have := (List.getElem?_eq_some_iff.1 h1).1; rw [hh, List.length_take] at this; omega
    rw [hget b hlt] at h1
    obtain ⟨r, hr'⟩ := hr.heap.live b blk h1 h2
    exact ⟨r, by rw [if_pos hlt]; exact hr'⟩
  · intro b blk r i v h1 h2 h3
    obtain ⟨g1, g2⟩ := hsub b r h2
    have h1' := h1
    rw [hget b g1] at h1
    obtain ⟨v', g3, g4⟩ := hr.heap.cell b blk r i v h1 g2 h3
    refine ⟨v', g3, ?_⟩
    rcases hb blk (List.mem_of_getElem? h1') with hp | hp
    · have := hr.heap.pur b blk h1 hp v (List.mem_of_getElem? h3)
      rw [g4.pure this]; exact CR.of_pure this
    · exact g4.congr hag (hp v (List.mem_of_getElem? h3))
  · intro b blk h1 h2
    have hlt : b < n := by have := (List.getElem?_eq_some_iff.1 h1).1; rw [hh, List.length_take] at this; omega
    rw [hget b hlt] at h1
    exact hr.heap.pur b blk h1 h2
  · intro b r h hw
    exact hr.heap.own b r (hsub b r h).2 hw
  · intro b r h hw
    exact hr.heap.clean b r (hsub b r h).2 hw
  · intro b b' r r' hne h h' hw
    exact hr.heap.dis b b' r r' hne (hsub b r h).2 (hsub b' r' h').2 hw
  · exact hr.heap.glob
  · intro b r j h hw
    exact hr.heap.gwr b r j (hsub b r h).2 hw
  · refine ⟨hr.frame.os, hr.frame.tape, hr.frame.output, hr.frame.size, hr.frame.block, fun b r h hw hlt => hr.frame.reg b r (hsub b r h).2 hw hlt, fun b r h hk => ?_⟩
    have hb' : b < n := by
      rcases Nat.lt_or_ge b n0 with h1 | h1
      · omega
      · rw [h0 b h1] at h; cases h
    rw [if_pos hb']
    exact hr.frame.keep b r h hk

theorem WpL.loop {α : Type} {c : Code} (st : α → St) (φ : α → Prop) (μ : α → Nat) (x0 : α) (h0 : φ x0) (hs : Za7 G nt n0 s (st x0))
  (round : ∀ x, φ x → WpL P G nt n0 c (Zea (fun s1 => ∃ y, φ y ∧ μ y < μ x ∧ Za7 G nt n0 s1 (st y)) Q) (st x)) : WpL P G nt n0 (.loop c) Q s := by
 intro E m a w hE hr
 obtain ⟨m1, hr1⟩ := hs E m a w hE hr
 refine wp_loop_ghost (fun n a w => ∃ x m, φ x ∧ μ x = n ∧ SRel G nt E m (st x) a w) (μ x0) ⟨x0, m1, h0, rfl, hr1⟩ ?_
 rintro n a w ⟨x, m, hx, rfl, hr⟩
 refine wp_mono (round x hx E m a w hE hr) ?_
 rintro e a' w' ⟨s', m', h1, h2⟩
 cases e with
 | normal =>
  obtain ⟨y, hy1, hy2, hy3⟩ := h1
  obtain ⟨m2, hr2⟩ := hy3 E m' a' w' hE h2
  exact ⟨μ y, hy2, y, m2, hy1, rfl, hr2⟩
 | _ => exact ⟨s', m', h1, h2⟩


def Zfi (P : Program) (G : Glob) (s : St) : ResultVar → Option Value
  | .tmp t => some (s.tmps t)
  | .cell p ty => Zde P G ty s.heap (s.tmps p)
def rvM (a : Act) : ResultVar → Sem Value
  | .tmp t => pure (a.tmps.getD t undef)
  | .cell p t => do loadVar t (← asAddr (a.tmps.getD p undef))

theorem Zex {E : Ent} {m : MapM} {a : Act} {w : World} (hr : SRel G nt E m s a w) {r : ResultVar} {v : Value} (h1 : Zfi P G s r = some v) :
  ∃ v', (rvM a r).run P w = .ok v' w ∧ VR m v v' := by
 cases r with
 | tmp t =>
  simp only [Zfi, Option.some.injEq] at h1
  subst h1
  exact ⟨a.tmps.getD t undef, rfl, hr.tmps t⟩
 | cell p ty =>
  simp only [Zfi] at h1
  obtain ⟨u, f1, f2⟩ := Zm1 hr.heap h1 (hr.tmps p)
  have hp : ∃ ad, a.tmps.getD p undef = .pointer (some ad) := by
   have hv := hr.tmps p
   unfold Zde at h1
   split at h1
   ·rename_i ag n b o hk he
    rw [he] at hv
    obtain ⟨r, _, h3⟩ := hv
    exact ⟨_, h3⟩
   ·rename_i ag n b o q hk he
    rw [he] at hv
    exact ⟨_, hv⟩
   ·cases h1
  obtain ⟨ad, hp⟩ := hp
  rw [hp] at f1
  refine ⟨u, ?_, f2⟩
  simp only [Instr.loadAt, Instr.sureAddr, Sem.run_bind, Sem.run_pure, Result.andThen_ok] at f1
  simp only [rvM, Sem.run_bind, Sem.run_pure, Result.andThen_ok, hp, asAddr, f1]

def Zd9 (P : Program) (G : Glob) (fn : Func) (s : St) : Option Value :=
  match fn.results.toList with
  | [] => some (.tuple #[])
  | [r] => Zfi P G s r
  | [r1, r2] => (Zfi P G s r1).bind fun v1 => (Zfi P G s r2).bind fun v2 => if Zhw v1 || Zhw v2 then none else some (.tuple #[v1, v2])
  | [r1, r2, r3] => (Zfi P G s r1).bind fun v1 => (Zfi P G s r2).bind fun v2 => (Zfi P G s r3).bind fun v3 => if Zhw v1 || Zhw v2 || Zhw v3 then none else some (.tuple #[v1, v2, v3])
  | _ => none

theorem Zec {E : Ent} {m : MapM} {a : Act} {w : World} (hr : SRel G nt E m s a w) {fn : Func} {v : Value} (h : Zd9 P G fn s = some v) : ∃ v', (results fn a.tmps).run P w = .ok v' w ∧ VR m v v' := by
  have hres : results fn a.tmps = (do let vs ← fn.results.mapM (rvM a); pure (if h : vs.size = 1 then vs[0] else .tuple vs)) := by
    unfold results
    congr 1
  unfold Zd9 at h
  split at h
  · rename_i hl
    have : fn.results = #[] := by cases hh : fn.results; simp_all
    injection h with h; subst h
    exact ⟨.tuple #[], by rw [hres, this]; simp, by simp [VR]; exact L2.nil⟩
  · rename_i r hl
    have : fn.results = #[r] := by cases hh : fn.results; simp_all
    obtain ⟨v', f1, f2⟩ := Zex hr h
    exact ⟨v', by rw [hres, this]; simp [f1], f2⟩
  · rename_i r1 r2 hl
    have : fn.results = #[r1, r2] := by cases hh : fn.results; simp_all
    cases h1 : Zfi P G s r1 with
    | none => simp [h1] at h
    | some v1 =>
      cases h2 : Zfi P G s r2 with
      | none => simp [h1, h2] at h
      | some v2 =>
        simp only [h1, h2, Option.bind_some] at h
        split at h
        · cases h
        · injection h with h; subst h
          obtain ⟨u1, f1, f2⟩ := Zex hr h1
          obtain ⟨u2, g1, g2⟩ := Zex hr h2
          rename_i hb
          simp only [Bool.or_eq_true, not_or, Bool.not_eq_true] at hb
          rw [Zfp hb.1] at f2
          rw [Zfp hb.2] at g2
          exact ⟨.tuple #[u1, u2], by rw [hres, this]; simp [f1, g1], _, rfl, L2.cons f2 (L2.cons g2 L2.nil)⟩
  · rename_i r1 r2 r3 hl
    have : fn.results = #[r1, r2, r3] := by cases hh : fn.results; simp_all
    cases h1 : Zfi P G s r1 with
    | none => simp [h1] at h
    | some v1 =>
      cases h2 : Zfi P G s r2 with
      | none => simp [h1, h2] at h
      | some v2 =>
        cases h3 : Zfi P G s r3 with
        | none => simp [h1, h2, h3] at h
        | some v3 =>
        simp only [h1, h2, h3, Option.bind_some] at h
        split at h
        · cases h
        · injection h with h; subst h
          obtain ⟨u1, f1, f2⟩ := Zex hr h1
          obtain ⟨u2, g1, g2⟩ := Zex hr h2
          obtain ⟨u3, k1, k2⟩ := Zex hr h3
          rename_i hb
          simp only [Bool.or_eq_true, not_or, Bool.not_eq_true] at hb
          rw [Zfp hb.1.1] at f2
          rw [Zfp hb.1.2] at g2
          rw [Zfp hb.2] at k2
          exact ⟨.tuple #[u1, u2, u3], by rw [hres, this]; simp [f1, g1, k1], _, rfl, L2.cons f2 (L2.cons g2 (L2.cons k2 L2.nil))⟩
  · cases h

end
end Go.Flat
end
section
/- A contract out of a Zbh; rules on forgetting. -/
namespace Go.Flat
section
variable {P : Program} {G : Glob}

structure FirstOK (H : List Blk) (e : Emb) (σ σ' : List Blk) : Prop where
  le : σ.length ≤ σ'.length
  at_ : ∀ (b : Nat) (L : Blk), b < σ.length → σ'[b]? = some L → ∃ B, H[b]? = some B ∧ e[b]? = some (some (b, 0)) ∧ L.wr = B.wr ∧ L.fix = B.fix ∧ L.mv = B.mv ∧ L.sz = B.sz ∧ L.cells.length = B.cells.length

def Zku (e : Emb) (res v : Value) : Prop := match res with
  | .tuple xs => (match v with | .tuple ys => Zix e xs.toList ys.toList | _ => False)
  | res => Zii e res v
structure EndOK (P : Program) (G : Glob) (fn : Func) (σ : List Blk) (res : Value) (σ' : List Blk) (s : St) (v : Value) (e : Emb) : Prop where
  out : Zd9 P G fn s = some v
  emb : EmbOK s.heap e σ'
  nm : ∀ (i : Nat) (L : Blk), σ'[i]? = some L → L.pur = true ∨ ∀ v, v ∈ L.cells → Zan (inE e) v = true
  val : Zku e res v
  first : FirstOK s.heap e σ σ'

theorem Zvp {e : Emb} {x y : Value} (h : Zii e x y) : Zhw x = false := by
  cases x
  case tuple => unfold Zii at h; split at h
                · rename_i hp; cases hp
                · cases h
  all_goals rfl
theorem Zyo {e : Emb} {x y : Value} (h : Zii e x y) : Zhw y = false := by
 have hx := Zvp h
 unfold Zii at h
 split at h
 ·subst h; exact hx
 ·split at h
  ·split at h
   ·rfl
   ·cases h
  ·cases h
  ·rename_i hna hnt
   have h1 : Zhe x = false := by cases x <;> first | rfl | exact absurd rfl (hna _)
   exact (Zps h h1 hx).2
theorem Znv {mc : MapM} {H : List Blk} {G : Glob} {w : World} {e : Emb} {σ : List Blk} (hH : HRel G mc H w) (hE : EmbOK H e σ) : ∀ (xs ys zs : List Value), Zix e xs ys → L2 (VR1 mc) ys zs → L2 (VR1 (mE mc e σ)) xs zs
 | [], [], zs, _, h => by have := h.nil_inv; subst this; exact L2.nil
 | x :: xs, y :: ys, zs, ha, h => by
  obtain ⟨z, zs', rfl, h1, h2⟩ := h.inv
  refine L2.cons ?_ (Znv hH hE xs ys zs' ha.2 h2)
  have := Znu hH hE ha.1 (v' := z) (by rw [Zfp (Zyo ha.1)]; exact h1)
  rw [Zfp (Zvp ha.1)] at this; exact this
 | [], _ :: _, _, ha, _ => ha.elim
 | _ :: _, [], _, ha, _ => ha.elim

theorem EndOK.back {mc : MapM} {w' : World} {fn : Func} {σ σ' : List Blk} {res v v' : Value} {s : St} {e : Emb} {m : MapM} {w : World} {ds ds' : List Deferred}
    (h : EndOK P G fn σ res σ' s v e) (hm : ∀ b, σ.length ≤ b → m b = none) (hH : HRel G mc s.heap w') (hF : Frame ⟨m, w, ds⟩ mc w') (hv : VR mc v v') :
    HRel G (mE mc e σ') σ' w' ∧ VR (mE mc e σ') res v' ∧ Frame ⟨m, w, ds'⟩ (mE mc e σ') w' := by
  refine ⟨hH.embed h.emb h.nm, ?_, ?_⟩
  · have h1 := h.val
    unfold Zku at h1
    split at h1
    · split at h1
      · obtain ⟨ys', rfl, h2⟩ := hv
        exact ⟨ys', rfl, Znv hH h.emb _ _ _ h1 h2⟩
      · cases h1
    · exact Znu hH h.emb h1 hv
  · refine ⟨hF.os, hF.tape, hF.output, hF.size, hF.block, ?_, ?_⟩
    · intro b r hr hw hlt
      rcases Zd8 h.emb hr with ⟨id, sh, L, r0, B, h1, h2, h3, rfl, hB, _⟩ | ⟨L, h1, h2, rfl, hw', _⟩
      · unfold Zbn at hw hlt ⊢
        by_cases hL : L.wr = true
        · rw [if_pos hL] at hw hlt ⊢
          exact hF.reg id r0 h3 hw hlt
        · rw [if_neg hL] at hw; cases hw
      · simp only [Zdu] at hw; rw [hw'] at hw; cases hw
    · intro b r hr hk
      have hb : b < σ.length := by
        rcases Nat.lt_or_ge b σ.length with h1 | h1
        · exact h1
        · have := hm b h1
          simp only at hr
          rw [this] at hr; cases hr
      have hlt : b < σ'.length := by have := h.first.le; omega
      obtain ⟨B, h1, h2, h3, h4, h5, h6, h7⟩ := h.first.at_ b _ hb (by simp [hlt] : σ'[b]? = some σ'[b])
      have hk' := hF.keep b r hr hk
      obtain ⟨_, g1, g2, g3, g4, g5⟩ := hH.at_ h1 hk'
      rw [Zff h2 (by simp [hlt] : σ'[b]? = some σ'[b]), hk', Option.map_some]
      congr 1
      unfold Zbn
      obtain ⟨rg, rlo, rhi, rlen, rsz, rwr, rfix, rmv⟩ := r
      simp only at g1 g2 g3 g4 g5
      split
      · rw [h5, g5]
      · rename_i hw
        rw [h3] at hw
        simp only [h7, g3, h6, g4, h4, g2, h5, g5, Nat.add_zero]
        congr 1
        rw [g1]
        cases hB : B.wr with
        | false => rfl
        | true => exact absurd hB hw

def Zih (args : List Value) : Nat → Value := fun i => (args[i]?).getD undef

theorem L2.at_ {α β : Type} {R : α → β → Prop} {xs : List α} {ys : List β} (h : L2 R xs ys) (i : Nat) : (∃ x y, xs[i]? = some x ∧ ys[i]? = some y ∧ R x y) ∨ (xs[i]? = none ∧ ys[i]? = none) := by
 rcases Nat.lt_or_ge i xs.length with hi | hi
 ·have hj : i < ys.length := by rw [← h.1]; exact hi
  exact .inl ⟨xs[i], ys[i], by simp [hi], by simp [hj], h.2 i _ _ (by simp [hi]) (by simp [hj])⟩
 ·exact .inr ⟨by simp [hi], by have := h.1; simp; omega⟩

def Zqg (P : Program) (G : Glob) (fn : Func) (σ : List Blk) (res : Value) (σ' : List Blk) : Exit → St → Prop
  | .normal, s | .ret, s => ∃ v e, EndOK P G fn σ res σ' s v e
  | _, _ => False

theorem Z6.intro {f : FuncId} {fn : Func} {c : Code} {args : List Value} {σ σ' : List Blk} {res : Value} (hf : P.funcs[f]? = some fn) (hb : fn.body = some c) (hn : args.length ≤ fn.ntmps)
  (h : WpL P G fn.ntmps σ.length c (Zqg P G fn σ res σ') ⟨Zih args, σ⟩) : Z6 P G f args σ res σ' := by
 intro m w args' hH hA
 refine calls_of_wp hf hb ?_
 have hl := hA.1
 have hdom : ∀ b, σ.length ≤ b → m b = none := fun b hb => hH.dom hb
 have h0 := h ⟨m, w, []⟩ m { tmps := args'.toArray ++ Array.replicate (fn.ntmps - args'.toArray.size) undef, defers := [] } w hdom
  ⟨by simp; omega, fun i => by
   rcases hA.at_ i with ⟨x, y, h1, h2, h3⟩ | ⟨h1, h2⟩
   ·have hi : i < args'.length := (List.getElem?_eq_some_iff.1 h2).1
    simp only [Zih, h1, Option.getD_some]
    rw [Array.getD_eq_getD_getElem?, Array.getElem?_append_left (by simpa using hi)]
    simp only [List.getElem?_toArray, h2, Option.getD_some]
    exact h3
   ·simp only [Zih, h1, Option.getD_none]
    have : args'.length ≤ i := by simpa using h2
    rw [Array.getD_eq_getD_getElem?, Array.getElem?_append_right (by simpa using this)]
    rw [Array.getElem?_replicate]
    split <;> exact VR.undef, rfl, hH, Frame.refl [] hH⟩
 refine wp_mono h0 ?_
 rintro e a w' ⟨s, m', hq, hr⟩
 have key : (∃ v e, EndOK P G fn σ res σ' s v e) → a.defers = [] ∧ ∃ v, (results fn a.tmps).run P w' = .ok v w' ∧ ∃ v' m', Ending.returned v = .returned v' ∧ HRel G m' σ' w' ∧ VR m' res v' ∧ Frame ⟨m, w, []⟩ m' w' := by
  rintro ⟨v, e, hE⟩
  obtain ⟨v', g1, g2⟩ := Zec hr hE.out
  obtain ⟨k1, k2, k3⟩ := hE.back hdom hr.heap hr.frame g2 (ds' := [])
  exact ⟨hr.defers, v', g1, v', _, rfl, k1, k2, k3⟩
 cases e with
 | normal => exact key hq
 | ret => exact key hq
 | _ => exact hq.elim

end
end Go.Flat
end
section
/- Rules in the form in which the walks use them. -/
namespace Go.Flat
section
variable {P : Program} {G : Glob} {nt : Nat} {ops : Array Oper} {K : Trace → St → Prop} {o : Oper} {l : List Oper} {tr : Trace} {T : Nat → Value} {H : List Blk}

theorem Zbg.val {v : Value} {d : Tmp} (h : Zae P G nt ops o ⟨T, H⟩ { val := v }) (hd : o.dst = some d) (k : Zbg P G nt ops K l (tr ++ [(o, { val := v })]) ⟨upd T d v, H⟩) : Zbg P G nt ops K (o :: l) tr ⟨T, H⟩ :=
 ⟨_, h, by simpa [Delta.apply, Zd0, hd, St.put] using k⟩
theorem Zbg.valF {v : Value} {d : Tmp} {foot : List Nat} (h : Zae P G nt ops o ⟨T, H⟩ { val := v, foot := foot }) (hd : o.dst = some d) (k : Zbg P G nt ops K l (tr ++ [(o, { val := v, foot := foot })]) ⟨upd T d v, H⟩) : Zbg P G nt ops K (o :: l) tr ⟨T, H⟩ :=
 ⟨_, h, by simpa [Delta.apply, Zd0, hd, St.put] using k⟩
theorem Zbg.sto {v : Value} {b : Nat} {x : Blk} {foot : List Nat} {H' : List Blk} (h : Zae P G nt ops o ⟨T, H⟩ { val := v, sets := [(b, x)], foot := foot }) (hd : o.dst = none) (hH : Zeo H b x = H') (k : Zbg P G nt ops K l (tr ++ [(o, { val := v, sets := [(b, x)], foot := foot })]) ⟨T, H'⟩) : Zbg P G nt ops K (o :: l) tr ⟨T, H⟩ :=
 ⟨_, h, by subst hH; simpa [Delta.apply, Zd0, hd, St.put] using k⟩
theorem Zbg.new {v : Value} {d : Tmp} {b : Nat} {x : Blk} {foot : List Nat} {H' : List Blk} (h : Zae P G nt ops o ⟨T, H⟩ { val := v, sets := [(b, x)], foot := foot }) (hd : o.dst = some d) (hH : Zeo H b x = H') (k : Zbg P G nt ops K l (tr ++ [(o, { val := v, sets := [(b, x)], foot := foot })]) ⟨upd T d v, H'⟩) : Zbg P G nt ops K (o :: l) tr ⟨T, H⟩ :=
 ⟨_, h, by subst hH; simpa [Delta.apply, Zd0, hd, St.put] using k⟩
theorem Zbg.skip {d : Tmp} (hg : Zc3 nt ⟨T, H⟩ (Zc5 ops o) = some false) (hn : Zbb nt o.dst = true) (hd : o.dst = some d) (k : Zbg P G nt ops K l (tr ++ [(o, { val := undef })]) ⟨upd T d undef, H⟩) : Zbg P G nt ops K (o :: l) tr ⟨T, H⟩ :=
 Zbg.val (Zae.skip hg hn) hd k
theorem Zbg.done {s : St} (h : K tr s) : Zbg P G nt ops K [] tr s := h


section
variable {op : BinOp} {t : TypeId} {x y : Operand} {k : IntKind} {a b : Int}
theorem Zp5 (op : BinOp) (t : TypeId) (x y : Operand) (k k' : IntKind) (a b : Int) : eqGuard op t x y (.int k a) (.int k' b) = pure () := by cases op <;> rfl
theorem Zdj {v : Value} (h : Z0 P (binOp op t (.int k a) (.int k b)) = some v) (hp : Za2 v = true) : Zcf P op t x y (.int k a) (.int k b) = some v := by
 unfold Zcf
 rw [if_pos (show (Za2 (.int k a) && Za2 (.int k b)) = true from rfl), Zp5, Zaa, Z4, Option.bind_some, h, Option.bind_some, if_pos hp]
theorem Zvz : Zcf P .lss t x y (.int k a) (.int k b) = some (.bool (decide (a < b))) := Zdj (by simp [binOp, Op.intCmp, Z4]) rfl
theorem Zvy : Zcf P .leq t x y (.int k a) (.int k b) = some (.bool (decide (a ≤ b))) := Zdj (by simp [binOp, Op.intCmp, Z4]) rfl
theorem Zvx : Zcf P .gtr t x y (.int k a) (.int k b) = some (.bool (decide (b < a))) := Zdj (by simp [binOp, Op.intCmp, Z4]) rfl
theorem Zvw : Zcf P .geq t x y (.int k a) (.int k b) = some (.bool (decide (b ≤ a))) := Zdj (by simp [binOp, Op.intCmp, Z4]) rfl
theorem Zvv : Zcf P .eql t x y (.int k a) (.int k b) = some (.bool (decide (a = b))) := Zdj (by simp [binOp, Op.intCmp, Z4]; rfl) rfl
theorem Zv1 : Zcf P .neq t x y (.int k a) (.int k b) = some (.bool (decide (a ≠ b))) := Zdj (by simp [binOp, Op.intCmp, Z4]; by_cases h : a = b <;> simp [h]) rfl
theorem wrap_i64 {n : Int} (h1 : -9223372036854775808 ≤ n) (h2 : n ≤ 9223372036854775807) : IntKind.i64.wrap n = n := by
 simp only [IntKind.wrap, IntKind.bits, IntKind.signed, Bool.true_and]
 split
 ·rename_i h; simp at h; omega
 ·rename_i h; simp at h; omega
theorem Zak {c : Int} (hc : a + b = c) (h1 : -9223372036854775808 ≤ c) (h2 : c ≤ 9223372036854775807) : Zcf P .add t x y (.int .i64 a) (.int .i64 b) = some (.int .i64 c) := Zdj (by subst hc; simp [binOp, Op.intArith, Z4, wrap_i64 h1 h2]) rfl
theorem Zhh {c : Int} (hc : a - b = c) (h1 : -9223372036854775808 ≤ c) (h2 : c ≤ 9223372036854775807) : Zcf P .sub t x y (.int .i64 a) (.int .i64 b) = some (.int .i64 c) := Zdj (by subst hc; simp [binOp, Op.intArith, Z4, wrap_i64 h1 h2]) rfl
theorem Zv0 {c : Int} (hc : a * b = c) (h1 : -9223372036854775808 ≤ c) (h2 : c ≤ 9223372036854775807) : Zcf P .mul t x y (.int .i64 a) (.int .i64 b) = some (.int .i64 c) := Zdj (by subst hc; simp [binOp, Op.intArith, Z4, wrap_i64 h1 h2]) rfl
end
theorem Zcq {b : Bool} : unD P .not (.bool b) = some (.bool !b) := by
 unfold unD
 rw [if_pos (show Za2 (.bool b) = true from rfl)]
 rfl
end
end Go.Flat
end
section
/- Rules in the form in which the walks use them, II. -/
namespace Go.Flat
section
variable {P : Program} {G : Glob} {nt n0 : Nat} {ops : Array Oper} {o : Oper} {s : St} {Q : Exit → St → Prop} {x y z : Code} {c : Operand}


theorem Zo7 {next : St → Prop} {e : Exit} (h : Q e s) (he : e ≠ .normal) : Zea next Q e s := by cases e <;> first | exact h | exact absurd rfl he
theorem Zqn {next : St → Prop} {e : Exit} (h : Zea next Q e s) : (e = .normal ∧ next s) ∨ (e ≠ .normal ∧ Q e s) := by cases e <;> first | exact .inl ⟨rfl, h⟩ | exact .inr ⟨by simp, h⟩
theorem Z5v (h : WpL P G nt n0 x (Zea (WpL P G nt n0 y Q) Q) s) : WpL P G nt n0 (.seq x y) Q s :=
 WpL.seq fun K hK => h.mono fun e s hq => by
  rcases Zqn hq with ⟨rfl, h1⟩ | ⟨h1, h2⟩
  ·exact hK _ h1
  ·exact Zo7 h2 h1
theorem Z6i {i : Nat} (h : Q .normal s) : Zee i Q (.exit i) s := by simp only [Zee, if_pos]; exact h
theorem Z6j {i j : Nat} (hne : (j == i) = false) (h : Q (.exit j) s) : Zee i Q (.exit j) s := by
 simp only [Zee]; rw [if_neg (by simpa using hne)]; exact h

section
variable {op : BinOp} {t : TypeId} {u v : Operand} {k : IntKind} {a b : Int}
theorem Zck (h : a < b) : Zcf P .lss t u v (.int k a) (.int k b) = some (.bool true) := by rw [Zvz]; simp [h]
theorem Zcd (h : ¬ a < b) : Zcf P .lss t u v (.int k a) (.int k b) = some (.bool false) := by rw [Zvz]; simp [h]
theorem Zlg (h : a ≤ b) : Zcf P .leq t u v (.int k a) (.int k b) = some (.bool true) := by rw [Zvy]; simp [h]
theorem Zlf (h : ¬ a ≤ b) : Zcf P .leq t u v (.int k a) (.int k b) = some (.bool false) := by rw [Zvy]; simp [h]
theorem Zfs (h : b < a) : Zcf P .gtr t u v (.int k a) (.int k b) = some (.bool true) := by rw [Zvx]; simp [h]
theorem Zfr (h : ¬ b < a) : Zcf P .gtr t u v (.int k a) (.int k b) = some (.bool false) := by rw [Zvx]; simp [h]
theorem Zoe (h : b ≤ a) : Zcf P .geq t u v (.int k a) (.int k b) = some (.bool true) := by rw [Zvw]; simp [h]
theorem Zod (h : ¬ b ≤ a) : Zcf P .geq t u v (.int k a) (.int k b) = some (.bool false) := by rw [Zvw]; simp [h]
theorem Zdp (h : a = b) : Zcf P .eql t u v (.int k a) (.int k b) = some (.bool true) := by rw [Zvv]; simp [h]
theorem Zef (h : ¬ a = b) : Zcf P .eql t u v (.int k a) (.int k b) = some (.bool false) := by rw [Zvv]; simp [h]
theorem Zfw (h : a = b) : Zcf P .neq t u v (.int k a) (.int k b) = some (.bool false) := by rw [Zv1]; simp [h]
theorem Zgf (h : ¬ a = b) : Zcf P .neq t u v (.int k a) (.int k b) = some (.bool true) := by rw [Zv1]; simp [h]
end
def Z6h : Op → Option Operand | .move x | .assign x => some x | _ => none
section
variable {K : Trace → St → Prop} {l : List Oper} {tr : Trace} {T : Nat → Value} {H : List Blk}
theorem Z2e (hg : Zc3 nt s (Zc5 ops o) = some true) (hd : Zbb nt o.dst = true) {f : Operand} {args : Array Operand} {ts : Array TypeId} {k : FuncId} (ho : o.op = .call { callee := .value f, args := args, argTypes := ts })
  (hf : s.eval f = .func (.func k) #[] #[]) (hk : Zd6 P k = true) {vals : List Value} {res res' : Value} (hC : Z6 P G k vals [] res []) (ha : args.toList.map s.eval = vals) (hp : vals.all Za2 = true) (hr : Zmq [] res = res') : Zae P G nt ops o s { val := res' } := by
 subst hr
 have hA : ∀ l : List Value, l.all Za2 = true → Zix [] l l := by
  intro l
  induction l with
  | nil => exact fun _ => trivial
  | cons v l ih =>
   intro h
   simp only [List.all_cons, Bool.and_eq_true] at h
   exact ⟨by unfold Zii; rw [if_pos h.1], ih h.2⟩
 have := Zzp (P := P) (G := G) (nt := nt) (ops := ops) (o := o) (s := s) hg hd ho hf ⟨rfl, rfl⟩ hk hC [] 0 ⟨by simpa [ha] using hA vals hp, trivial, rfl, rfl, by simp [Zgr], by simp [Za8]⟩
 simpa [Zhj, Zb5, Zei, Zso, Za8] using this
end


theorem Z6l {fn : Func} {σ σ' : List Blk} {res v : Value} (e : Emb) (hr : Zd9 P G fn s = some v) (he : Zhu s.heap e e σ') (hd : Zil e σ' = true) (hn : Zf7 e σ' = true) (hv : Zku e res v) (hf : FirstOK s.heap e σ σ') : ∃ v e, EndOK P G fn σ res σ' s v e := by
 obtain ⟨h1, h2⟩ := Zes he
 refine ⟨v, e, hr, ⟨h1, h2, Znl (H := s.heap) hd⟩, fun i L hL => ?_, hv, hf⟩
 unfold Zf7 at hn
 simp only [List.all_eq_true, Bool.or_eq_true] at hn
 exact hn L (List.mem_of_getElem? hL)
theorem Z5h {fn : Func} {res v : Value} (hr : Zd9 P G fn s = some v) (hv : Zku [] res v) : ∃ v e, EndOK P G fn [] res [] s v e :=
 Z6l [] hr trivial rfl rfl hv ⟨Nat.le_refl _, fun b L hb => by simp at hb⟩
theorem Zkh {fn : Func} {res v : Value} (hr : Zd9 P G fn s = some v) (hp : Za2 res = true) (hv : res = v) : ∃ v e, EndOK P G fn [] res [] s v e := by
  refine Z5h hr ?_
  subst hv
  have ht := Zgp hp
  cases res <;> first | (show Zii _ _ _; unfold Zii; rw [if_pos hp]) | cases ht
theorem Z4f (hg : Zc3 nt s (Zc5 ops o) = some true) (hd : Zbb nt o.dst = true) {op : BinOp} {t yt : TypeId} {x y : Operand} {v vx vy : Value} (ho : o.op = .binOp op t x y yt) (hx : s.eval x = vx) (hy : s.eval y = vy) (h : Zcf P op t x y vx vy = some v) : Zae P G nt ops o s { val := v } :=
 Z5k hg hd ho (by rw [hx, hy]; exact h)
end
end Go.Flat
end
section
/- The rules of the walks, told apart by their heads. -/
namespace Go.Flat
structure C (P : Program) (G : Glob) (nt n0 : Nat) (c : Code) (Q : Exit → St → Prop) (s : St) : Prop where
  h : WpL P G nt n0 c Q s
structure X (Q : Exit → St → Prop) (e : Exit) (s : St) : Prop where
  h : Q e s
structure R (P : Program) (G : Glob) (nt : Nat) (ops : List Oper) (K : Trace → St → Prop) (l : List Oper) (tr : Trace) (T : Nat → Value) (H : List Blk) : Prop where
  h : Zbg P G nt ops.toArray K l tr ⟨T, H⟩
def Zyi (P : Program) (G : Glob) (nt n0 : Nat) (c : Code) (Q : Exit → St → Prop) : Exit → St → Prop := Zea (C P G nt n0 c Q) Q

section
variable {P : Program} {G : Glob} {nt n0 : Nat} {Q : Exit → St → Prop} {s : St} {x y z : Code} {c : Operand}
theorem Zf (h : C P G nt n0 x (Zyi P G nt n0 y Q) s) : C P G nt n0 (.seq x y) Q s := ⟨Z5v (h.h.mono fun e s hq => by
 rcases Zqn hq with ⟨rfl, h1⟩ | ⟨h1, h2⟩
 ·exact h1.h
 ·exact Zo7 h2 h1)⟩
theorem Zg {i : Nat} {L : List Oper} {T : Nat → Value} {H : List Blk} (h : R P G nt L (fun _ s => X Q .normal s) L [] T H) : C P G nt n0 (.region i L.toArray false) Q ⟨T, H⟩ := ⟨WpL.region (by
 have : ∀ (l : List Oper) (tr : Trace) (s : St), Zbg P G nt L.toArray (fun _ s => X Q .normal s) l tr s → Zbg P G nt L.toArray (fun _ s => Q .normal s) l tr s := by
  intro l
  induction l with
  | nil => exact fun tr s h => h.h
  | cons o l ih => exact fun tr s ⟨δ, h1, h2⟩ => ⟨δ, h1, ih _ _ h2⟩
 exact this _ _ _ h.h)⟩
theorem Zgh {i : Nat} {L : List Oper} (hm : P.follows .mixedOrders = true) {T : Nat → Value} {H : List Blk} (h : R P G nt L (fun tr s' => Zf5 L.toArray tr H.length = true ∧ X Q .normal s') L [] T H) : C P G nt n0 (.region i L.toArray true) Q ⟨T, H⟩ := ⟨WpL.drawn hm (by
 have : ∀ (l : List Oper) (tr : Trace) (s1 : St), Zbg P G nt L.toArray (fun tr s' => Zf5 L.toArray tr H.length = true ∧ X Q .normal s') l tr s1 → Zbg P G nt L.toArray (fun tr s' => Zf5 L.toArray tr H.length = true ∧ Q .normal s') l tr s1 := by
  intro l
  induction l with
  | nil => exact fun tr s h => ⟨h.1, h.2.h⟩
  | cons o l ih => exact fun tr s ⟨δ, h1, h2⟩ => ⟨δ, h1, ih _ _ h2⟩
 exact this _ _ _ h.h)⟩
theorem Zz (h : X Q .normal s) : C P G nt n0 .skip Q s := ⟨WpL.skip h.h⟩
theorem Z1o {i : Nat} (h : X Q .normal s) : C P G nt n0 (.label i) Q s := ⟨WpL.label h.h⟩
theorem Zbm {i : Nat} (h : X Q (.exit i) s) : C P G nt n0 (.exit i) Q s := ⟨WpL.exit h.h⟩
theorem Zke {i : Nat} (h : X Q (.goto i) s) : C P G nt n0 (.goto i) Q s := ⟨WpL.goto h.h⟩
theorem Zr (h : X Q .ret s) : C P G nt n0 .ret Q s := ⟨WpL.ret h.h⟩
theorem Zy (hc : s.eval c = .bool true) (h : C P G nt n0 x Q s) : C P G nt n0 (.cond c x y) Q s := ⟨WpL.cond_t hc h.h⟩
theorem Zu (hc : s.eval c = .bool false) (h : C P G nt n0 y Q s) : C P G nt n0 (.cond c x y) Q s := ⟨WpL.cond_f hc h.h⟩
theorem Z8 {i : Nat} (h : C P G nt n0 x (Zee i Q) s) : C P G nt n0 (.block i x) Q s := ⟨WpL.block h.h⟩
theorem Zca {s' : St} (hw : Za7 G nt n0 s s') (h : C P G nt n0 x Q s') : C P G nt n0 x Q s := ⟨WpL.weak hw h.h⟩
theorem Zaf (n : Nat) {T : Nat → Value} {H H' : List Blk} (hH : H ++ List.replicate n hole = H') (h : C P G nt n0 x Q ⟨T, H'⟩) : C P G nt n0 x Q ⟨T, H⟩ := by subst hH; exact Zca (Za7.reserve ⟨T, H⟩ n) h
theorem Zc (h : C P G nt n0 x Q s) : X (Zyi P G nt n0 x Q) .normal s := ⟨h⟩
theorem Zaq {i : Nat} (h : X Q (.exit i) s) : X (Zyi P G nt n0 x Q) (.exit i) s := ⟨h.h⟩
theorem Z2 (h : X Q .ret s) : X (Zyi P G nt n0 x Q) .ret s := ⟨h.h⟩
theorem Ziw {i : Nat} (h : X Q (.goto i) s) : X (Zyi P G nt n0 x Q) (.goto i) s := ⟨h.h⟩
theorem Zav {i j : Nat} (he : (j == i) = true) (h : X Q .normal s) : X (Zee i Q) (.exit j) s := by
 have : j = i := by simpa using he
 subst this; exact ⟨Z6i h.h⟩
theorem Zm8 {i j : Nat} (he : (j == i) = false) (h : X Q (.exit j) s) : X (Zee i Q) (.exit j) s := ⟨Z6j he h.h⟩
theorem Z7 {i : Nat} (h : X Q .normal s) : X (Zee i Q) .normal s := ⟨h.h⟩
theorem Zar {i : Nat} (h : X Q .ret s) : X (Zee i Q) .ret s := ⟨h.h⟩
theorem Zt {fn : Func} {σ σ' : List Blk} {res : Value} (h : ∃ v e, EndOK P G fn σ res σ' s v e) : X (Zqg P G fn σ res σ') .ret s := ⟨h⟩
theorem Zkr {fn : Func} {σ σ' : List Blk} {res : Value} (h : ∃ v e, EndOK P G fn σ res σ' s v e) : X (Zqg P G fn σ res σ') .normal s := ⟨h⟩
theorem Zbh {f : FuncId} {fn : Func} {c : Code} {args : List Value} {σ σ' : List Blk} {res : Value} (hf : P.funcs[f]? = some fn) (hb : fn.body = some c) {nt : Nat} (hn : fn.ntmps = nt) (hl : decide (args.length ≤ nt) = true)
  (h : C P G nt σ.length c (Zqg P G fn σ res σ') ⟨Zih args, σ⟩) : Z6 P G f args σ res σ' := by subst hn; exact Z6.intro hf hb (by simpa using hl) h.h
theorem Z32 {α : Type} (st : α → St) (φ : α → Prop) (μ : α → Nat) (x0 : α) (h0 : φ x0) (hs : Za7 G nt n0 s (st x0))
  (round : ∀ x, φ x → C P G nt n0 y (Zea (fun s1 => ∃ y, φ y ∧ μ y < μ x ∧ Za7 G nt n0 s1 (st y)) Q) (st x)) : C P G nt n0 (.loop y) Q s := ⟨WpL.loop st φ μ x0 h0 hs fun x hx => (round x hx).h⟩
theorem Zag {next : St → Prop} (h : next s) : X (Zea next Q) .normal s := ⟨h⟩
theorem Zwm {next : St → Prop} {e : Exit} (he : (match e with | .normal => false | _ => true) = true) (h : X Q e s) : X (Zea next Q) e s := ⟨Zo7 h.h (by cases e <;> simp at he ⊢)⟩


variable {ops l : List Oper} {K : Trace → St → Prop} {tr : Trace} {T : Nat → Value} {H H' : List Blk} {d : Tmp} {ty : TypeId} {ps : String} {af : Array Edge} {g : Option (Nat × Bool)}
theorem Zrh (h : K tr ⟨T, H⟩) : R P G nt ops K [] tr T H := ⟨h⟩
def gd (nt : Nat) (T : Nat → Value) (ops : List Oper) : Option (Nat × Bool) → Option Bool
  | none => some true
  | some (j, want) => match (ops[j]?).bind (·.dst) with
    | none => some false
    | some t => if t < nt then (match T t with | .bool b => some (b == want) | .tuple _ => some false | _ => none) else some false
theorem Zcw {o : Oper} : Zc3 nt ⟨T, H⟩ (Zc5 ops.toArray o) = gd nt T ops o.guard := by
 unfold Zc5 gd
 cases h : o.guard with
 | none => rfl
 | some p =>
  obtain ⟨j, want⟩ := p
  simp only [Option.map_some, List.getElem?_toArray]
  cases (ops[j]?).bind (·.dst) <;> rfl
theorem Zoy {op : Op} (hg : gd nt T ops g = some false) (hd : Zbb nt (some d) = true) (k : R P G nt ops K l (tr ++ [(⟨some d, op, ty, ps, af, g⟩, { val := undef })]) (upd T d undef) H) : R P G nt ops K (⟨some d, op, ty, ps, af, g⟩ :: l) tr T H :=
 ⟨Zbg.val (Zae.skip (by rw [Zcw]; exact hg) hd) rfl k.h⟩
section
variable {nid : Nat} (hg : gd nt T ops g = some true) (hd : Zbb nt (some d) = true)
include hg hd
theorem Zcg {x : Operand} (v : Value) (h : St.eval ⟨T, H⟩ x = v) (k : R P G nt ops K l (tr ++ [(⟨some d, .move x, ty, ps, af, g⟩, { val := v })]) (upd T d v) H) : R P G nt ops K (⟨some d, .move x, ty, ps, af, g⟩ :: l) tr T H :=
 ⟨Zbg.val (Zzq (by rw [Zcw]; exact hg) hd (.inl rfl) h) rfl k.h⟩
theorem Zc7 {x : Operand} (v : Value) (h : St.eval ⟨T, H⟩ x = v) (k : R P G nt ops K l (tr ++ [(⟨some d, .assign x, ty, ps, af, g⟩, { val := v })]) (upd T d v) H) : R P G nt ops K (⟨some d, .assign x, ty, ps, af, g⟩ :: l) tr T H :=
 ⟨Zbg.val (Zzq (by rw [Zcw]; exact hg) hd (.inr rfl) h) rfl k.h⟩
theorem Zjl {c x y : Operand} (v : Value) (h : Zqf ⟨T, H⟩ c x y = some v) (k : R P G nt ops K l (tr ++ [(⟨some d, .pick c x y, ty, ps, af, g⟩, { val := v })]) (upd T d v) H) : R P G nt ops K (⟨some d, .pick c x y, ty, ps, af, g⟩ :: l) tr T H :=
 ⟨Zbg.val (Z4m (by rw [Zcw]; exact hg) hd rfl h) rfl k.h⟩
theorem Zl {op : BinOp} {t yt : TypeId} {x y : Operand} (v : Value) {vx vy : Value} (hx : St.eval ⟨T, H⟩ x = vx) (hy : St.eval ⟨T, H⟩ y = vy) (h : Zcf P op t x y vx vy = some v) (k : R P G nt ops K l (tr ++ [(⟨some d, .binOp op t x y yt, ty, ps, af, g⟩, { val := v })]) (upd T d v) H) : R P G nt ops K (⟨some d, .binOp op t x y yt, ty, ps, af, g⟩ :: l) tr T H :=
 ⟨Zbg.val (Z4f (by rw [Zcw]; exact hg) hd rfl hx hy h) rfl k.h⟩
theorem Zfb {op : UnOp} {t : TypeId} {x : Operand} (v : Value) {vx : Value} (hx : St.eval ⟨T, H⟩ x = vx) (h : unD P op vx = some v) (k : R P G nt ops K l (tr ++ [(⟨some d, .unOp op t x, ty, ps, af, g⟩, { val := v })]) (upd T d v) H) : R P G nt ops K (⟨some d, .unOp op t x, ty, ps, af, g⟩ :: l) tr T H :=
 ⟨Zbg.val (Z6o (by rw [Zcw]; exact hg) hd rfl (by rw [hx]; exact h)) rfl k.h⟩
theorem Zbl {t : TypeId} {x : Operand} {f n b o o' : Nat} {q : Option Nat} (hx : St.eval ⟨T, H⟩ x = .pointer (some ⟨b, o, q⟩)) (hn : Z2n P t f = some n) (ho : o + n = o') (k : R P G nt ops K l (tr ++ [(⟨some d, .fieldAddr t x f, ty, ps, af, g⟩, { val := .pointer (some ⟨b, o', q⟩) })]) (upd T d (.pointer (some ⟨b, o', q⟩))) H) : R P G nt ops K (⟨some d, .fieldAddr t x f, ty, ps, af, g⟩ :: l) tr T H :=
 ⟨Zbg.val (Zst (by rw [Zcw]; exact hg) hd rfl (by rw [hx, Zq4, hn, ← ho]; rfl)) rfl k.h⟩
theorem Zal {t : TypeId} {x : Operand} {v p : Value} (hx : St.eval ⟨T, H⟩ x = p) (h : Zde P G t H p = some v) (k : R P G nt ops K l (tr ++ [(⟨some d, .load t x, ty, ps, af, g⟩, { val := v, foot := Zbx p })]) (upd T d v) H) : R P G nt ops K (⟨some d, .load t x, ty, ps, af, g⟩ :: l) tr T H := by
 subst hx; exact ⟨Zbg.valF (Z4j (by rw [Zcw]; exact hg) hd rfl h) rfl k.h⟩
theorem Z0i {t : TypeId} {x : Operand} {v : Value} {b : Blk} (hx : St.eval ⟨T, H⟩ x = v) (h : Znz H v nid = some b) (hH : Zeo H nid b = H') (k : R P G nt ops K l (tr ++ [(⟨some d, .box t x, ty, ps, af, g⟩, { val := Zdv nid, sets := [(nid, b)], foot := [nid] })]) (upd T d (.pointer (some ⟨nid, 0, none⟩))) H') : R P G nt ops K (⟨some d, .box t x, ty, ps, af, g⟩ :: l) tr T H :=
 ⟨Zbg.new (Z5l (by rw [Zcw]; exact hg) hd rfl (by rw [hx]; exact h)) rfl hH k.h⟩
theorem Zew {t : TypeId} {b : Blk} (h : Zl7 P H t nid = some b) (hH : Zeo H nid b = H') (k : R P G nt ops K l (tr ++ [(⟨some d, .alloc t, ty, ps, af, g⟩, { val := Zdv nid, sets := [(nid, b)], foot := [nid] })]) (upd T d (.pointer (some ⟨nid, 0, none⟩))) H') : R P G nt ops K (⟨some d, .alloc t, ty, ps, af, g⟩ :: l) tr T H :=
 ⟨Zbg.new (Z2c (by rw [Zcw]; exact hg) hd rfl h) rfl hH k.h⟩
theorem Zxy {x : Operand} {i : Nat} {vs : Array Value} {v : Value} (hx : St.eval ⟨T, H⟩ x = .tuple vs) (h : Zy9 (.tuple vs) i = some v) (k : R P G nt ops K l (tr ++ [(⟨some d, .extract x i, ty, ps, af, g⟩, { val := v })]) (upd T d v) H) : R P G nt ops K (⟨some d, .extract x i, ty, ps, af, g⟩ :: l) tr T H :=
 ⟨Zbg.val (Zxe (by rw [Zcw]; exact hg) hd rfl (by rw [hx]; exact h)) rfl k.h⟩
theorem Ziz {t : TypeId} {x : Operand} {p v : Value} (hx : St.eval ⟨T, H⟩ x = p) (h : Zzw P t p = some v) (k : R P G nt ops K l (tr ++ [(⟨some d, .call { callee := .builtin .len, args := #[x], argTypes := #[t] }, ty, ps, af, g⟩, { val := v })]) (upd T d v) H) : R P G nt ops K (⟨some d, .call { callee := .builtin .len, args := #[x], argTypes := #[t] }, ty, ps, af, g⟩ :: l) tr T H :=
 ⟨Zbg.val (Z5n (by rw [Zcw]; exact hg) hd rfl (by rw [hx]; exact h)) rfl k.h⟩
theorem Z3n {t : TypeId} {x y : Operand} {v p i : Value} (hx : St.eval ⟨T, H⟩ x = p) (hy : St.eval ⟨T, H⟩ y = i) (h : Zw8 P t p i = some v) (k : R P G nt ops K l (tr ++ [(⟨some d, .indexAddr t x y, ty, ps, af, g⟩, { val := v })]) (upd T d v) H) : R P G nt ops K (⟨some d, .indexAddr t x y, ty, ps, af, g⟩ :: l) tr T H :=
 ⟨Zbg.val (Zsu (by rw [Zcw]; exact hg) hd rfl (by rw [hx, hy]; exact h)) rfl k.h⟩
end
theorem Zc0 {t : TypeId} {x y : Operand} {p v : Value} {b : Nat} {blk : Blk} (hg : gd nt T ops g = some true) (hx : St.eval ⟨T, H⟩ x = p) (hy : St.eval ⟨T, H⟩ y = v) (h : Zfn P t H p v = some (b, blk)) (hH : Zeo H b blk = H') (k : R P G nt ops K l (tr ++ [(⟨none, .store t x y, ty, ps, af, g⟩, { val := undef, sets := [(b, blk)], foot := Zbx p })]) T H') : R P G nt ops K (⟨none, .store t x y, ty, ps, af, g⟩ :: l) tr T H := by
 subst hx; subst hy; exact ⟨Zbg.sto (Z2i (by rw [Zcw]; exact hg) rfl rfl h) rfl hH k.h⟩
theorem Zs {args : Array Operand} {ts : Array TypeId} {f : FuncId} {vals : List Value} {res : Value} (hC : Z6 P G f vals [] res []) (hg : gd nt T ops g = some true) (hd : Zbb nt (some d) = true) (hk : Zd6 P f = true) (ha : args.toList.map (St.eval ⟨T, H⟩) = vals) (hp : vals.all Za2 = true) {res' : Value} (hr : Zmq [] res = res')
  (k : R P G nt ops K l (tr ++ [(⟨some d, .call { callee := .value (.func f), args := args, argTypes := ts }, ty, ps, af, g⟩, { val := res' })]) (upd T d res') H) : R P G nt ops K (⟨some d, .call { callee := .value (.func f), args := args, argTypes := ts }, ty, ps, af, g⟩ :: l) tr T H :=
 ⟨Zbg.val (Z2e (by rw [Zcw]; exact hg) hd rfl rfl hk hC ha hp hr) rfl k.h⟩
end
end Go.Flat
end
section
/- Words: unsigned integers as bit vectors. -/
namespace Go.Flat
section
variable {P : Program} {t : TypeId} {u v : Operand} {x y : Int}
theorem ofI (w : Nat) (a : BitVec w) : BitVec.ofInt w (a.toNat : Int) = a := by
 apply BitVec.eq_of_toNat_eq
 rw [BitVec.toNat_ofInt]
 have := a.isLt
 have h : ((a.toNat : Int) % ((2 ^ w : Nat) : Int)) = ((a.toNat : Nat) : Int) := by exact_mod_cast congrArg (Nat.cast (R := Int)) (Nat.mod_eq_of_lt this)
 rw [h, Int.toNat_natCast]
theorem Zh2 {k : IntKind} (hs : k.signed = false) (z : Int) : k.wrap z = ((BitVec.ofInt k.bits z).toNat : Int) := by
 simp only [IntKind.wrap, hs, Bool.false_and, Bool.false_eq_true, if_false, BitVec.toNat_ofInt]
 have h : 0 ≤ z % (2 ^ k.bits : Int) := Int.emod_nonneg _ (by (have : (0 : Int) < 2 ^ k.bits := Int.pow_pos (by decide)); omega)
 rw [Int.toNat_of_nonneg (by simpa using h)]
 simp

variable {k : IntKind} (hs : k.signed = false) {a b : BitVec k.bits} (hx : BitVec.ofInt k.bits x = a) (hy : BitVec.ofInt k.bits y = b)
include hs hx hy
theorem Z5b : Zcf P .add t u v (.int k x) (.int k y) = some (.int k ((a + b).toNat : Int)) := Zdj (by
 subst hx; subst hy; simp [binOp, Op.intArith, Z4, Zh2 hs, BitVec.ofInt_add]) rfl
theorem Z6r : Zcf P .mul t u v (.int k x) (.int k y) = some (.int k ((a * b).toNat : Int)) := Zdj (by
 subst hx; subst hy; simp [binOp, Op.intArith, Z4, Zh2 hs, BitVec.ofInt_mul]) rfl
theorem Z67 : Zcf P .sub t u v (.int k x) (.int k y) = some (.int k ((a - b).toNat : Int)) := Zdj (by
 subst hx; subst hy
 simp only [binOp, ne_eq, not_true_eq_false, if_false, Op.intArith, Z4, Zh2 hs]
 rw [Int.sub_eq_add_neg, BitVec.ofInt_add, BitVec.ofInt_neg, ← BitVec.sub_eq_add_neg]) rfl
theorem Z5d : Zcf P .and t u v (.int k x) (.int k y) = some (.int k ((a &&& b).toNat : Int)) := Zdj (by
 subst hx; subst hy; simp only [binOp, ne_eq, not_true_eq_false, if_false, Op.intBits, Z4]; rw [Zh2 hs, ofI]) rfl
theorem orU : Zcf P .or t u v (.int k x) (.int k y) = some (.int k ((a ||| b).toNat : Int)) := Zdj (by
 subst hx; subst hy; simp only [binOp, ne_eq, not_true_eq_false, if_false, Op.intBits, Z4]; rw [Zh2 hs, ofI]) rfl
theorem Z69 : Zcf P .xor t u v (.int k x) (.int k y) = some (.int k ((a ^^^ b).toNat : Int)) := Zdj (by
 subst hx; subst hy; simp only [binOp, ne_eq, not_true_eq_false, if_false, Op.intBits, Z4]; rw [Zh2 hs, ofI]) rfl
end
section
variable {P : Program} {t : TypeId} {u v : Operand} {x y : Int} {k : IntKind} (hs : k.signed = false) {a : BitVec k.bits} (hx : BitVec.ofInt k.bits x = a)
theorem Zma {op : BinOp} {yk : IntKind} {r : Value} (ho : op = .shl ∨ op = .shr) (h : Z0 P (Op.shift op k x yk y) = some r) (hp : Za2 r = true) : Zcf P op t u v (.int k x) (.int yk y) = some r := by
  unfold Zcf
  rw [if_pos (show (Za2 (.int k x) && Za2 (.int yk y)) = true from rfl), Zp5, Zaa, Z4, Option.bind_some]
  have : binOp op t (.int k x) (.int yk y) = Op.shift op k x yk y := by rcases ho with rfl | rfl <;> rfl
  rw [this, h, Option.bind_some, if_pos hp]
omit hs hx in
theorem Z21 {w : Nat} (a : BitVec w) (n : Nat) : a <<< (min n w) = a <<< n := by
 rcases Nat.le_total n w with h | h
 ·rw [Nat.min_eq_left h]
 ·rw [Nat.min_eq_right h]
  apply BitVec.eq_of_getLsbD_eq
  intro i hi
  simp [BitVec.getLsbD_shiftLeft]
  omega
omit hs hx in
theorem Zz5 {w m : Nat} (a : BitVec w) : a * BitVec.ofInt w (2 ^ m) = a <<< m := by
 apply BitVec.eq_of_toNat_eq
 have : BitVec.ofInt w (2 ^ m) = BitVec.ofNat w (2 ^ m) := by
  rw [show ((2 : Int) ^ m) = ((2 ^ m : Nat) : Int) from by simp, BitVec.ofInt_natCast]
 rw [this, BitVec.toNat_mul, BitVec.toNat_shiftLeft, BitVec.toNat_ofNat, Nat.shiftLeft_eq, Nat.mul_mod_mod]
include hs hx
theorem Z65 {yk : IntKind} (hy : 0 ≤ y) : Zcf P .shl t u v (.int k x) (.int yk y) = some (.int k ((a <<< y.toNat).toNat : Int)) := Zma (.inl rfl) (by
 subst hx
 simp only [Op.shift]
 rw [if_neg (by omega)]
 simp only [Z4, Zh2 hs]
 rw [BitVec.ofInt_mul, ← Z21 (w := k.bits), Zz5]) rfl
omit hs in
theorem Z5z {yk : IntKind} (hy : 0 ≤ y) (h0 : 0 ≤ x) (h1 : x < 2 ^ k.bits) : Zcf P .shr t u v (.int k x) (.int yk y) = some (.int k ((a >>> y.toNat).toNat : Int)) := Zma (.inr rfl) (by
 subst hx
 simp only [Op.shift]
 rw [if_neg (by omega)]
 simp only [Z4]
 obtain ⟨X, rfl⟩ : ∃ X : Nat, x = X := ⟨x.toNat, by omega⟩
 have hX : X < 2 ^ k.bits := by exact_mod_cast h1
 congr 2
 rw [BitVec.ofInt_natCast, BitVec.toNat_ushiftRight, BitVec.toNat_ofNat, Nat.mod_eq_of_lt hX, Nat.shiftRight_eq_div_pow]
 rw [Int.fdiv_eq_ediv_of_nonneg _ (by exact_mod_cast Nat.zero_le _)]
 rcases Nat.le_total y.toNat k.bits with h | h
 ·rw [Nat.min_eq_left h]; simp
 ·rw [Nat.min_eq_right h, Nat.div_eq_of_lt (Nat.lt_of_lt_of_le hX (Nat.pow_le_pow_right (by decide) h))]
  have := Nat.div_eq_of_lt hX
  have h2 : ((X : Int) / 2 ^ k.bits) = ((X / 2 ^ k.bits : Nat) : Int) := by simp
  rw [h2, this]) rfl
end

section
variable {P : Program} {t : TypeId} {u v : Operand} {x y : Int}
theorem Z3d {a b : BitVec 32} (hx : BitVec.ofInt 32 x = a) (hy : BitVec.ofInt 32 y = b) : Zcf P .add t u v (.int .u32 x) (.int .u32 y) = some (.int .u32 ((a + b).toNat : Int)) := Z5b (k := .u32) rfl hx hy
theorem Z5a {a b : BitVec 64} (hx : BitVec.ofInt 64 x = a) (hy : BitVec.ofInt 64 y = b) : Zcf P .add t u v (.int .u64 x) (.int .u64 y) = some (.int .u64 ((a + b).toNat : Int)) := Z5b (k := .u64) rfl hx hy
theorem Z50 {a b : BitVec 64} (hx : BitVec.ofInt 64 x = a) (hy : BitVec.ofInt 64 y = b) : Zcf P .sub t u v (.int .u64 x) (.int .u64 y) = some (.int .u64 ((a - b).toNat : Int)) := Z67 (k := .u64) rfl hx hy
theorem Z3j {a b : BitVec 64} (hx : BitVec.ofInt 64 x = a) (hy : BitVec.ofInt 64 y = b) : Zcf P .mul t u v (.int .u64 x) (.int .u64 y) = some (.int .u64 ((a * b).toNat : Int)) := Z6r (k := .u64) rfl hx hy
theorem Z5c {a b : BitVec 32} (hx : BitVec.ofInt 32 x = a) (hy : BitVec.ofInt 32 y = b) : Zcf P .and t u v (.int .u32 x) (.int .u32 y) = some (.int .u32 ((a &&& b).toNat : Int)) := Z5d (k := .u32) rfl hx hy
theorem Z3f {a b : BitVec 64} (hx : BitVec.ofInt 64 x = a) (hy : BitVec.ofInt 64 y = b) : Zcf P .and t u v (.int .u64 x) (.int .u64 y) = some (.int .u64 ((a &&& b).toNat : Int)) := Z5d (k := .u64) rfl hx hy
theorem Z5q {a b : BitVec 32} (hx : BitVec.ofInt 32 x = a) (hy : BitVec.ofInt 32 y = b) : Zcf P .or t u v (.int .u32 x) (.int .u32 y) = some (.int .u32 ((a ||| b).toNat : Int)) := orU (k := .u32) rfl hx hy
theorem Z3t {a b : BitVec 32} (hx : BitVec.ofInt 32 x = a) (hy : BitVec.ofInt 32 y = b) : Zcf P .xor t u v (.int .u32 x) (.int .u32 y) = some (.int .u32 ((a ^^^ b).toNat : Int)) := Z69 (k := .u32) rfl hx hy
theorem Z3p {yk : IntKind} {a : BitVec 32} (hx : BitVec.ofInt 32 x = a) (hy : 0 ≤ y) : Zcf P .shl t u v (.int .u32 x) (.int yk y) = some (.int .u32 ((a <<< y.toNat).toNat : Int)) := Z65 (k := .u32) rfl hx hy
theorem Z0u {yk : IntKind} {a : BitVec 32} (hy : 0 ≤ y) : Zcf P .shr t u v (.int .u32 (a.toNat : Int)) (.int yk y) = some (.int .u32 ((a >>> y.toNat).toNat : Int)) := Z5z (k := .u32) (ofI 32 a) hy (by omega) (by have := a.isLt; simp only [IntKind.bits]; omega)
theorem Z3q {yk : IntKind} {a : BitVec 64} (hy : 0 ≤ y) : Zcf P .shr t u v (.int .u64 (a.toNat : Int)) (.int yk y) = some (.int .u64 ((a >>> y.toNat).toNat : Int)) := Z5z (k := .u64) (ofI 64 a) hy (by omega) (by have := a.isLt; simp only [IntKind.bits]; omega)
theorem Z5s {k : IntKind} (h0 : 0 ≤ x) (h1 : 0 < y) (hm : x ≤ k.max) : Zcf P .quo t u v (.int k x) (.int k y) = some (.int k (x / y)) := Zdj (by
 have hw : k.wrap (x.tdiv y) = x / y := by
  rw [Int.tdiv_eq_ediv_of_nonneg h0]
  have a1 : 0 ≤ x / y := Int.ediv_nonneg h0 (by omega)
  have a2 : x / y ≤ x := Int.ediv_le_self _ h0
  cases k <;> simp [IntKind.wrap, IntKind.max, IntKind.bits, IntKind.signed] at hm ⊢ <;> (try split) <;> omega
 simp [binOp, Op.intDiv, Z4, show y ≠ 0 by omega, hw]) rfl
theorem Z0j {k : IntKind} (h0 : 0 ≤ x) (h1 : 0 < y) : Zcf P .rem t u v (.int k x) (.int k y) = some (.int k (x % y)) := Zdj (by
 have hw : x.tmod y = x % y := Int.tmod_eq_emod_of_nonneg h0
 simp [binOp, Op.intDiv, Z4, show y ≠ 0 by omega, hw]) rfl
end
theorem Zk0 {P : Program} {src dst : TypeId} {k k' : IntKind} {d : TypeDesc} {n : Int} (h1 : P.underlying src = some d) (h2 : P.underlying dst = some (.int k)) : Zj8 P src dst (.int k' n) = some (.int k (k.wrap n)) := by
 unfold Zj8
 rw [if_pos (show Za2 (.int k' n) = true from rfl)]
 have : Z0 P (convert src dst (.int k' n)) = some (.int k (k.wrap n)) := by
  unfold convert
  rw [Zaa, Zbk h1, Option.bind_some, Zaa, Zbk h2, Option.bind_some]
  cases d <;> rfl
 rw [this]; rfl
theorem Z47 (z : Int) : IntKind.u32.wrap z = ((BitVec.ofInt 32 z).toNat : Int) := Zh2 (k := .u32) rfl z
theorem Z07 (z : Int) : IntKind.u64.wrap z = ((BitVec.ofInt 64 z).toNat : Int) := Zh2 (k := .u64) rfl z
theorem Z57 (z : Int) : IntKind.u8.wrap z = ((BitVec.ofInt 8 z).toNat : Int) := Zh2 (k := .u8) rfl z
theorem Z46 {P : Program} {n : Int} {c : Int} (hc : 0 - n = c) (h1 : -9223372036854775808 ≤ c) (h2 : c ≤ 9223372036854775807) : unD P .neg (.int .i64 n) = some (.int .i64 c) := by
 subst hc
 unfold unD
 rw [if_pos (show Za2 (.int .i64 n) = true from rfl)]
 have : Z0 P (Op.unary .neg (.int .i64 n)) = some (.int .i64 (IntKind.i64.wrap (0 - n))) := rfl
 rw [this, wrap_i64 h1 h2]; rfl
end Go.Flat
end
section
/- More rules for operations. -/
namespace Go.Flat
theorem Zlm {w w' : Nat} (a : BitVec w) : BitVec.ofInt w' (a.toNat : Int) = a.setWidth w' := by
 apply BitVec.eq_of_toNat_eq
 rw [BitVec.ofInt_natCast, BitVec.toNat_ofNat, BitVec.toNat_setWidth]
section
variable {P : Program} {src dst : TypeId} {k' : IntKind} {d : TypeDesc} {n : Int} (h1 : P.underlying src = some d)
include h1
theorem Zn4 {a : BitVec 8} (h2 : P.underlying dst = some (.int .u8)) (h : BitVec.ofInt 8 n = a) : Zj8 P src dst (.int k' n) = some (.int .u8 (a.toNat : Int)) := by rw [Zk0 h1 h2, Z57, h]
theorem Z34 {a : BitVec 32} (h2 : P.underlying dst = some (.int .u32)) (h : BitVec.ofInt 32 n = a) : Zj8 P src dst (.int k' n) = some (.int .u32 (a.toNat : Int)) := by rw [Zk0 h1 h2, Z47, h]
theorem Zud {a : BitVec 64} (h2 : P.underlying dst = some (.int .u64)) (h : BitVec.ofInt 64 n = a) : Zj8 P src dst (.int k' n) = some (.int .u64 (a.toNat : Int)) := by rw [Zk0 h1 h2, Z07, h]
theorem Z5g (h2 : P.underlying dst = some (.int .i64)) (g1 : -9223372036854775808 ≤ n) (g2 : n ≤ 9223372036854775807) : Zj8 P src dst (.int k' n) = some (.int .i64 n) := by rw [Zk0 h1 h2, wrap_i64 g1 g2]
end
section
variable {P : Program} {G : Glob} {nt : Nat} {ops l : List Oper} {K : Trace → St → Prop} {tr : Trace} {T : Nat → Value} {H H' : List Blk} {d : Tmp} {ty : TypeId} {ps : String} {af : Array Edge} {g : Option (Nat × Bool)}
variable {nid : Nat} (hg : gd nt T ops g = some true) (hd : Zbb nt (some d) = true)
include hg hd
theorem Zgj {src dst : TypeId} {x : Operand} {v w : Value} (hx : St.eval ⟨T, H⟩ x = w) (h : Zj8 P src dst w = some v) (k : R P G nt ops K l (tr ++ [(⟨some d, .convert src dst x, ty, ps, af, g⟩, { val := v })]) (upd T d (v)) H) : R P G nt ops K (⟨some d, .convert src dst x, ty, ps, af, g⟩ :: l) tr T H := by
 subst hx; exact ⟨Zbg.val (Z4g (by rw [Zcw]; exact hg) hd rfl h) rfl k.h⟩
theorem Zwf {t : TypeId} {x y : Operand} {v p i : Value} (hx : St.eval ⟨T, H⟩ x = p) (hy : St.eval ⟨T, H⟩ y = i) (h : Zmg P t p i = some v) (k : R P G nt ops K l (tr ++ [(⟨some d, .index t x y, ty, ps, af, g⟩, { val := v })]) (upd T d (v)) H) : R P G nt ops K (⟨some d, .index t x y, ty, ps, af, g⟩ :: l) tr T H := by
 subst hx; subst hy; exact ⟨Zbg.val (Z2g (by rw [Zcw]; exact hg) hd rfl h) rfl k.h⟩
theorem Z2s {t : TypeId} {x : Operand} {f : Nat} {v p : Value} (hx : St.eval ⟨T, H⟩ x = p) (h : Zq5 P t p f = some v) (k : R P G nt ops K l (tr ++ [(⟨some d, .field t x f, ty, ps, af, g⟩, { val := v })]) (upd T d (v)) H) : R P G nt ops K (⟨some d, .field t x f, ty, ps, af, g⟩ :: l) tr T H := by
 subst hx; exact ⟨Zbg.val (Z2f (by rw [Zcw]; exact hg) hd rfl h) rfl k.h⟩
theorem Zdb {t : TypeId} {qs : Array (Nat × Operand)} {v : Value} {vs : List (Nat × Value)} (hx : (qs.toList.map fun p => (p.1, St.eval ⟨T, H⟩ p.2)) = vs) (h : Zqx P t vs = some v) (k : R P G nt ops K l (tr ++ [(⟨some d, .build t qs, ty, ps, af, g⟩, { val := v })]) (upd T d (v)) H) : R P G nt ops K (⟨some d, .build t qs, ty, ps, af, g⟩ :: l) tr T H := by
 subst hx; exact ⟨Zbg.val (Z2d (by rw [Zcw]; exact hg) hd rfl h) rfl k.h⟩
theorem Zux {f : Fn} {xs ys : Array Operand} {v : Value} (h : Zp3 ⟨T, H⟩ f xs ys = some v) (k : R P G nt ops K l (tr ++ [(⟨some d, .makeFunc f xs ys, ty, ps, af, g⟩, { val := v })]) (upd T d (v)) H) : R P G nt ops K (⟨some d, .makeFunc f xs ys, ty, ps, af, g⟩ :: l) tr T H := by
 exact ⟨Zbg.val (Zuj (by rw [Zcw]; exact hg) hd rfl h) rfl k.h⟩
theorem Zf2 {x : Operand} {v p : Value} (hx : St.eval ⟨T, H⟩ x = p) (h : Zz6 p = some v) (k : R P G nt ops K l (tr ++ [(⟨some d, .nilCheck x, ty, ps, af, g⟩, { val := v })]) (upd T d (v)) H) : R P G nt ops K (⟨some d, .nilCheck x, ty, ps, af, g⟩ :: l) tr T H := by
 subst hx; exact ⟨Zbg.val (Zuk (by rw [Zcw]; exact hg) hd rfl h) rfl k.h⟩
theorem Zcz {t : TypeId} {x : Operand} {lo hi : Option Operand} {v p : Value} {vl vh : Option Value} (hx : St.eval ⟨T, H⟩ x = p) (hlo : lo.map (St.eval ⟨T, H⟩) = vl) (hhi : hi.map (St.eval ⟨T, H⟩) = vh) (h : Zg7 P H t p vl vh = some v) (k : R P G nt ops K l (tr ++ [(⟨some d, .slice t x lo hi none, ty, ps, af, g⟩, { val := v, foot := Zbx p })]) (upd T d (v)) H) : R P G nt ops K (⟨some d, .slice t x lo hi none, ty, ps, af, g⟩ :: l) tr T H := by
 subst hx; subst hlo; subst hhi; exact ⟨Zbg.valF (Z2h (by rw [Zcw]; exact hg) hd rfl h) rfl k.h⟩
theorem Zjm {src dst : TypeId} {x : Operand} {v p : Value} (hx : St.eval ⟨T, H⟩ x = p) (h : Zrp P H src dst p = some v) (k : R P G nt ops K l (tr ++ [(⟨some d, .convert src dst x, ty, ps, af, g⟩, { val := v, foot := Zbx p })]) (upd T d (v)) H) : R P G nt ops K (⟨some d, .convert src dst x, ty, ps, af, g⟩ :: l) tr T H := by
 subst hx; exact ⟨Zbg.valF (Z5p (by rw [Zcw]; exact hg) hd rfl h) rfl k.h⟩
theorem Z40 {b : Builtin} {xs : Array Operand} {ts : Array TypeId} {v : Value} {vs : List Value} (hx : xs.toList.map (St.eval ⟨T, H⟩) = vs) (h : mmD P b ts ty vs = some v) (k : R P G nt ops K l (tr ++ [(⟨some d, .call { callee := .builtin b, args := xs, argTypes := ts }, ty, ps, af, g⟩, { val := v })]) (upd T d (v)) H) : R P G nt ops K (⟨some d, .call { callee := .builtin b, args := xs, argTypes := ts }, ty, ps, af, g⟩ :: l) tr T H := by
 subst hx; exact ⟨Zbg.val (Z6n (by rw [Zcw]; exact hg) hd rfl h) rfl k.h⟩
theorem Z4z {t : TypeId} {x y : Operand} {v i j : Value} {blk : Blk} (hx : St.eval ⟨T, H⟩ x = i) (hy : St.eval ⟨T, H⟩ y = j) (h : Zoq P H t i j nid = some (v, blk)) (hH : Zeo H nid blk = H') (k : R P G nt ops K l (tr ++ [(⟨some d, .makeSlice t x y, ty, ps, af, g⟩, { val := v, sets := [(nid, blk)], foot := [nid] })]) (upd T d (v)) H') : R P G nt ops K (⟨some d, .makeSlice t x y, ty, ps, af, g⟩ :: l) tr T H := by
 subst hx; subst hy; exact ⟨Zbg.new (Z4k (by rw [Zcw]; exact hg) hd rfl h) rfl hH k.h⟩
theorem Zep {t : TypeId} {n : Nat} {qs : Array (Nat × Operand)} {v : Value} {vs : List (Nat × Value)} {blk : Blk} (hx : (qs.toList.map fun p => (p.1, St.eval ⟨T, H⟩ p.2)) = vs) (h : Zzx P H t n vs nid = some (v, blk)) (hH : Zeo H nid blk = H') (k : R P G nt ops K l (tr ++ [(⟨some d, .buildSlice t n qs, ty, ps, af, g⟩, { val := v, sets := [(nid, blk)], foot := [nid] })]) (upd T d (v)) H') : R P G nt ops K (⟨some d, .buildSlice t n qs, ty, ps, af, g⟩ :: l) tr T H := by
 subst hx; exact ⟨Zbg.new (Z5o (by rw [Zcw]; exact hg) hd rfl h) rfl hH k.h⟩
theorem Zox {t u : TypeId} {x y : Operand} {v p q : Value} {b : Nat} {blk : Blk} (hx : St.eval ⟨T, H⟩ x = p) (hy : St.eval ⟨T, H⟩ y = q) (h : Zsc P H t p q = some (v, b, blk)) (hH : Zeo H b blk = H') (k : R P G nt ops K l (tr ++ [(⟨some d, .call { callee := .builtin .copy, args := #[x, y], argTypes := #[t, u] }, ty, ps, af, g⟩, { val := v, sets := [(b, blk)], foot := Zbx p ++ Zbx q })]) (upd T d (v)) H') : R P G nt ops K (⟨some d, .call { callee := .builtin .copy, args := #[x, y], argTypes := #[t, u] }, ty, ps, af, g⟩ :: l) tr T H := by
 subst hx; subst hy; exact ⟨Zbg.new (Z4h (by rw [Zcw]; exact hg) hd rfl h) rfl hH k.h⟩
theorem Z4v {t u : TypeId} {x y : Operand} {v p q : Value} {blk : Blk} {de : TypeDesc} (hu : P.underlying u = some de) (hdd : (∃ e2, de = .slice e2) ∨ de = .string) (hx : St.eval ⟨T, H⟩ x = p) (hy : St.eval ⟨T, H⟩ y = q) (h : Zym P H t p q nid = some (v, blk)) (hH : Zeo H nid blk = H') (k : R P G nt ops K l (tr ++ [(⟨some d, .call { callee := .builtin .append, args := #[x, y], argTypes := #[t, u] }, ty, ps, af, g⟩, { val := v, sets := [(nid, blk)], foot := nid :: Zbx q })]) (upd T d (v)) H') : R P G nt ops K (⟨some d, .call { callee := .builtin .append, args := #[x, y], argTypes := #[t, u] }, ty, ps, af, g⟩ :: l) tr T H := by
 subst hx; subst hy; exact ⟨Zbg.new (Z4d (by rw [Zcw]; exact hg) hd rfl hu hdd h) rfl hH k.h⟩
theorem Zc6 {t u : TypeId} {x y : Operand} {v p q : Value} {b : Nat} {blk : Blk} {de : TypeDesc} {T' : Nat → Value} (hu : P.underlying u = some de) (hdd : (∃ e2, de = .slice e2) ∨ de = .string) (hx : St.eval ⟨T, H⟩ x = p) (hy : St.eval ⟨T, H⟩ y = q) (h : Znt P H t p q = some (v, b, blk))
    (hT : (fun i => killV (· != b) (T i)) = T') (hH : Zeo (H.map (Zbz (· != b))) b blk = H') (k : R P G nt ops K l (tr ++ [(⟨some d, .call { callee := .builtin .append, args := #[x, y], argTypes := #[t, u] }, ty, ps, af, g⟩, { val := v, sets := [(b, blk)], kill := some b, foot := Zbx p ++ Zbx q })]) (upd T' d v) H') : R P G nt ops K (⟨some d, .call { callee := .builtin .append, args := #[x, y], argTypes := #[t, u] }, ty, ps, af, g⟩ :: l) tr T H := by
  subst hx; subst hy; subst hT; subst hH
  exact ⟨⟨_, Zzo (by rw [Zcw]; exact hg) hd rfl hu hdd h, by simpa [Delta.apply, Zd0, St.put, St.kill] using k.h⟩⟩
end
section
variable {P : Program} {G : Glob} {nt : Nat} {ops l : List Oper} {K : Trace → St → Prop} {tr : Trace} {T : Nat → Value} {H H' : List Blk} {d : Tmp} {ty : TypeId} {ps : String} {af : Array Edge} {g : Option (Nat × Bool)}
def Zzl (k : Option Nat) (H : List Blk) : List Blk := match k with | none => H | some b => H.map (Zbz (· != b))
theorem Zcp {f : Operand} {args : Array Operand} {ts : Array TypeId} {k : FuncId} {first captured : Array Value} {argsL vals : List Value} {σ σ' : List Blk} {res v : Value} {e : Emb} {nid : Nat} (hC : Z6 P G k argsL σ res σ') (hg : gd nt T ops g = some true) (hd : Zbb nt (some d) = true) (hf : St.eval ⟨T, H⟩ f = .func (.func k) first captured) (hcap : (first.toList.all Zdy && captured.toList.all Zdy) = true) (hk : Zd6 P k = true)
    (ha : first.toList ++ args.toList.map (St.eval ⟨T, H⟩) ++ captured.toList = vals) (hok : CallOK H e argsL vals σ σ' nid) {T' : Nat → Value} (hv : Zmq (Zei e nid (σ'.length - σ.length)) res = v)
    (hT : (fun i => match (Za8 e σ).head? with | none => T i | some b => killV (· != b) (T i)) = T') (hH : Zd0 (Zzl (Za8 e σ).head? H) (Zb5 (killX (Za8 e σ).head? e σ H) e σ σ' nid) = H')
    (kk : R P G nt ops K l (tr ++ [(⟨some d, .call { callee := .value f, args := args, argTypes := ts }, ty, ps, af, g⟩, Zhj H e σ res σ' nid)]) (upd T' d v) H') : R P G nt ops K (⟨some d, .call { callee := .value f, args := args, argTypes := ts }, ty, ps, af, g⟩ :: l) tr T H := by
  subst ha; subst hv; subst hT; subst hH
  simp only [Bool.and_eq_true] at hcap
  refine ⟨⟨_, Zzp (by rw [Zcw]; exact hg) hd rfl hf hcap hk hC e nid hok, ?_⟩⟩
  have := kk.h
  unfold Zhj at this ⊢
  cases hm : (Za8 e σ).head? with
  | none => simpa [Delta.apply, St.put, hm, killX, Zzl] using this
  | some b => simpa [Delta.apply, St.put, hm, killX, Zzl, St.kill] using this
end
end Go.Flat
end
section
/- Rows by a function; states by a list; forgetting. -/
namespace Go.Flat

def Zah {α : Type} (enc : α → Value) (n : Nat) (w : Nat → α) : List Value := (List.range n).map fun k => enc (w k)
def Zhb {α : Type} (w : Nat → α) (i : Nat) (x : α) : Nat → α := fun k => if k = i then x else w k
section
variable {α : Type} {enc : α → Value} {n : Nat} {w : Nat → α}
theorem Zcs : (Zah enc n w).length = n := by simp [Zah]
theorem Zc9 {i : Nat} (h : i < n) : (Zah enc n w)[i]? = some (enc (w i)) := by simp [Zah, h]
theorem Z0s {w' : Nat → α} (h : ∀ i, i < n → w i = w' i) : Zah enc n w = Zah enc n w' := by
 unfold Zah
 exact List.map_congr_left fun i hi => by rw [h i (by simpa using hi)]
theorem Ztj {i : Nat} (h : i < n) (x : α) : splice (Zah enc n w) i [enc x] = Zah enc n (Zhb w i x) := by
 apply List.ext_getElem?
 intro j
 unfold splice
 have hl : ((Zah enc n w).take i).length = i := by simp [Zcs]; omega
 rcases Nat.lt_trichotomy j i with h1 | h1 | h1
 ·rw [List.getElem?_append_left (by simp [Zcs]; omega), List.getElem?_append_left (by omega), List.getElem?_take, if_pos h1, Zc9 (by omega), Zc9 (by omega)]
  simp [Zhb, Nat.ne_of_lt h1]
 ·subst h1
  rw [List.getElem?_append_left (by simp [Zcs]; omega), List.getElem?_append_right (by omega), hl, Zc9 h]
  simp [Zhb]
 ·rw [List.getElem?_append_right (by simp [Zcs]; omega)]
  rcases Nat.lt_or_ge j n with h2 | h2
  ·rw [Zc9 h2, List.getElem?_drop]
   have : i + [enc x].length + (j - (List.take i (Zah enc n w) ++ [enc x]).length) = j := by simp [Zcs]; omega
   rw [this, Zc9 h2]
   simp [Zhb, Nat.ne_of_gt h1]
  ·rw [List.getElem?_eq_none (by simp [Zcs]; omega), List.getElem?_eq_none (by rw [Zcs]; omega)]
theorem Z0r {p : Value → Bool} (h : ∀ x, p (enc x) = true) : (Zah enc n w).all p = true := by
 simp [Zah, List.all_eq_true, h]
variable {P : Program} {G : Glob} {t : TypeId} {m : Nat} {H : List Blk} {b i : Nat} {blk : Blk}
theorem Zqb (hk : Zdw P t = some (false, m)) (hb : H[b]? = some blk) (hc : blk.cells = Zah enc n w) (hi : i < n) (h1 : ∀ x, Zhf (enc x) = true) : Zde P G t H (.pointer (some ⟨b, i, none⟩)) = some (enc (w i)) := by
 unfold Zde
 rw [hk]
 simp only [hb, Option.bind_some, rdA, hc, Zc9 hi, h1, if_true]
 rfl
theorem Zum {ag : Bool} {g o q : Nat} {cs : List Value} {v : Value} (hk : Zdw P t = some (ag, m)) (hG : G g = some cs) (hr : rdA ag m cs o = some v) : Zde P G t H (.pointer (some ⟨g, o, some q⟩)) = some v := by
 unfold Zde
 rw [hk]
 simp only [hG, Option.bind_some, hr]
theorem Zg9 {x : α} {val : Value} (hk : Zdw P t = some (false, 1)) (hb : H[b]? = some blk) (hw : blk.wr = true) (hc : blk.cells = Zah enc n w) (hv : enc x = val) (hi : i < n) (h1 : (enc x).cells = #[enc x]) (h2 : (if blk.pur then Zba (enc x) else Zi1 (enc x)) = true) :
  Zfn P t H (.pointer (some ⟨b, i, none⟩)) val = some (b, { blk with cells := Zah enc n (Zhb w i x) }) := by
 subst hv
 unfold Zfn
 rw [hk]
 simp only [hb, Option.bind_some, hw, h1, hc]
 rw [if_pos]
 ·rw [Ztj hi]
 ·simp only [Zdr, Bool.true_and, Bool.and_eq_true, decide_eq_true_eq, beq_iff_eq, Zcs]
  refine ⟨⟨rfl, ?_⟩, by omega⟩
  by_cases hp : blk.pur = true
  ·rw [if_pos hp] at h2 ⊢; simpa using h2
  ·rw [if_neg hp] at h2 ⊢; simpa using h2
theorem Zoo {rest : List Value} (hk : Zdw P t = some (false, m)) (hb : H[b]? = some blk) (hc : blk.cells = Zah enc n w ++ rest) (hi : i < n) (h1 : ∀ x, Zhf (enc x) = true) : Zde P G t H (.pointer (some ⟨b, i, none⟩)) = some (enc (w i)) := by
 unfold Zde
 rw [hk]
 simp only [hb, Option.bind_some, rdA, hc]
 rw [List.getElem?_append_left (by rw [Zcs]; exact hi), Zc9 hi]
 simp [h1]
theorem Ztv {x : α} {val : Value} {rest : List Value} (hk : Zdw P t = some (false, 1)) (hb : H[b]? = some blk) (hw : blk.wr = true) (hc : blk.cells = Zah enc n w ++ rest) (hv : enc x = val) (hi : i < n) (h1 : (enc x).cells = #[enc x]) (h2 : (if blk.pur then Zba (enc x) else Zi1 (enc x)) = true) :
  Zfn P t H (.pointer (some ⟨b, i, none⟩)) val = some (b, { blk with cells := Zah enc n (Zhb w i x) ++ rest }) := by
 subst hv
 unfold Zfn
 rw [hk]
 simp only [hb, Option.bind_some, hw, h1, hc]
 rw [if_pos]
 ·rw [← Ztj hi]
  unfold splice
  have e1 : i ≤ (Zah enc n w).length := by rw [Zcs]; omega
  have e2 : i + [enc x].length ≤ (Zah enc n w).length := by rw [Zcs]; simp; omega
  rw [List.take_append_of_le_length e1, List.drop_append_of_le_length e2]
  simp
 ·simp only [Zdr, Bool.true_and, Bool.and_eq_true, decide_eq_true_eq, beq_iff_eq, List.length_append, Zcs]
  refine ⟨⟨rfl, ?_⟩, by omega⟩
  by_cases hp : blk.pur = true
  ·rw [if_pos hp] at h2 ⊢; simpa using h2
  ·rw [if_neg hp] at h2 ⊢; simpa using h2
end


def Tl (l : List Value) : Nat → Value := fun i => (l[i]?).getD dead
def Zwc (n : Nat) (T : Nat → Value) : Nat → List Value → Prop
  | _, [] => True
  | i, v :: l => (v = dead ∨ (v = T i ∧ Zdx (fun b => decide (b < n)) (T i) = true)) ∧ Zwc n T (i + 1) l
theorem Zp7 {n : Nat} {T : Nat → Value} : ∀ {l : List Value} {i : Nat}, Zwc n T i l → ∀ (j : Nat) (v : Value), l[j]? = some v → v = dead ∨ (v = T (i + j) ∧ Zdx (fun b => decide (b < n)) (T (i + j)) = true)
 | [], _, _, j, v, h => by simp at h
 | x :: l, i, hk, 0, v, h => by simp at h; subst h; exact hk.1
 | x :: l, i, hk, j + 1, v, h => by
  have := Zp7 hk.2 j v (by simpa using h)
  rw [show i + (j + 1) = i + 1 + j by omega]; exact this
theorem Zxb {n : Nat} {T : Nat → Value} {H H' : List Blk} {l : List Value} (h : Zwc n T 0 l) : Zzj n ⟨T, H⟩ ⟨Tl l, H'⟩ := by
 intro i
 simp only [Tl]
 cases hl : l[i]? with
 | none => exact .inl rfl
 | some v =>
  have := Zp7 h i v hl
  simpa using this
theorem Zaj {G : Glob} {nt n0 n : Nat} {T : Nat → Value} {H H' : List Blk} {l : List Value} (hn : decide (n0 ≤ n) = true) (ht : Zwc n T 0 l) (hh : H.take n = H') (hb : (H'.all fun x => x.pur || x.cells.all (Zan fun b => decide (b < n))) = true) : Za7 G nt n0 ⟨T, H⟩ ⟨Tl l, H'⟩ := by
 refine Za7.take n (by simpa using hn) (Zxb ht) ?_ hb
 exact hh.symm

section
variable {P : Program} {G : Glob} {nt n0 : Nat} {Q : Exit → St → Prop} {ops : List Oper} {tr : Trace} {T : Nat → Value} {H : List Blk}
theorem Za (h : X Q .normal ⟨T, H⟩) : R P G nt ops (fun _ s => X Q .normal s) [] tr T H := Zrh h
theorem Zdm {n : Nat} (h1 : Zf5 ops.toArray tr n = true) (h : X Q .normal ⟨T, H⟩) : R P G nt ops (fun tr s' => Zf5 ops.toArray tr n = true ∧ X Q .normal s') [] tr T H := Zrh ⟨h1, h⟩
theorem Zbt {α : Type} {y : Code} (st : α → List Value) (hp : α → List Blk) (φ : α → Prop) (μ : α → Nat) (x0 : α) (h0 : φ x0) (hs : Za7 G nt n0 ⟨T, H⟩ ⟨Tl (st x0), hp x0⟩)
  (round : ∀ x, φ x → C P G nt n0 y (Zea (fun s1 => ∃ y, φ y ∧ μ y < μ x ∧ Za7 G nt n0 s1 ⟨Tl (st y), hp y⟩) Q) ⟨Tl (st x), hp x⟩) : C P G nt n0 (.loop y) Q ⟨T, H⟩ :=
 Z32 (fun x => ⟨Tl (st x), hp x⟩) φ μ x0 h0 hs round
theorem Zax {next : St → Prop} {i : Nat} {s : St} (h : X Q (.exit i) s) : X (Zea next Q) (.exit i) s := Zwm rfl h
theorem Zcy {next : St → Prop} {s : St} (h : X Q .ret s) : X (Zea next Q) .ret s := Zwm rfl h
end
end Go.Flat
end
section
/- Places of rows and slices. -/
namespace Go.Flat
section
variable {P : Program} {G : Glob} {nt : Nat} {ops l : List Oper} {K : Trace → St → Prop} {tr : Trace} {T : Nat → Value} {H H' : List Blk} {d : Tmp} {ty : TypeId} {ps : String} {af : Array Edge} {g : Option (Nat × Bool)}
theorem Zdn {t : TypeId} {x y : Operand} {b o j n sz : Nat} {i : Int} {k : IntKind} {q : Option Nat} (hg : gd nt T ops g = some true) (hd : Zbb nt (some d) = true) (hx : St.eval ⟨T, H⟩ x = .pointer (some ⟨b, o, q⟩)) (hy : St.eval ⟨T, H⟩ y = .int k i) (he : Zn8 P t = some (some n, sz)) (h0 : 0 ≤ i) (h1 : i < n) (hj : o + i.toNat * sz = j)
  (kk : R P G nt ops K l (tr ++ [(⟨some d, .indexAddr t x y, ty, ps, af, g⟩, { val := .pointer (some ⟨b, j, q⟩) })]) (upd T d (.pointer (some ⟨b, j, q⟩))) H) : R P G nt ops K (⟨some d, .indexAddr t x y, ty, ps, af, g⟩ :: l) tr T H :=
 Z3n hg hd hx hy (by unfold Zw8; rw [he]; simp only; rw [if_pos ⟨h0, h1⟩, hj]) kk
theorem Zbo {t : TypeId} {x y : Operand} {b o j m c sz : Nat} {i : Int} {k : IntKind} (hg : gd nt T ops g = some true) (hd : Zbb nt (some d) = true) (hx : St.eval ⟨T, H⟩ x = .slice (some ⟨b, o, none⟩) m c) (hy : St.eval ⟨T, H⟩ y = .int k i) (he : Zn8 P t = some (none, sz)) (h0 : 0 ≤ i) (h1 : i < m) (hj : o + i.toNat * sz = j)
  (kk : R P G nt ops K l (tr ++ [(⟨some d, .indexAddr t x y, ty, ps, af, g⟩, { val := .pointer (some ⟨b, j, none⟩) })]) (upd T d (.pointer (some ⟨b, j, none⟩))) H) : R P G nt ops K (⟨some d, .indexAddr t x y, ty, ps, af, g⟩ :: l) tr T H :=
 Z3n hg hd hx hy (by unfold Zw8; rw [he]; simp only; rw [if_pos ⟨h0, h1⟩, hj]) kk
theorem Zog {α : Type} {enc : α → Value} {w : Nat → α} {t : TypeId} {cs : Array Value} {n i : Nat} {m : Nat} {k : IntKind} {ix : Int} (he : Zy6 P t = some (m, false, 1)) (hc : cs.toList = Zah enc n w) (hi : ix = (i : Int)) (hin : i < n) (him : i < m) (h1 : ∀ x, Zhf (enc x) = true) : Zmg P t (.agg cs) (.int k ix) = some (enc (w i)) := by
 subst hi
 unfold Zmg
 rw [he]
 simp only
 rw [if_pos ⟨by omega, by omega⟩, hc]
 simp only [rdA, Int.toNat_natCast, Nat.mul_one, Zc9 hin, Option.bind_some, h1, if_true]
 rfl
end
theorem Z3l {P : Program} {t : TypeId} {u v : Operand} {x y : Int} (h0 : 0 ≤ x) (h1 : 0 < y) (hm : x ≤ 9223372036854775807) : Zcf P .quo t u v (.int .i64 x) (.int .i64 y) = some (.int .i64 (x / y)) := Z5s h0 h1 (by show x ≤ (9223372036854775807 : Int); exact hm)
abbrev w32 (x : BitVec 32) : Value := .int .u32 (x.toNat : Int)
abbrev w64 (x : BitVec 64) : Value := .int .u64 (x.toNat : Int)
abbrev w8 (x : BitVec 8) : Value := .int .u8 (x.toNat : Int)
end Go.Flat
end
section
namespace Go.Flat
variable {P : Program} {G : Glob} {nt : Nat} {ops l : List Oper} {K : Trace → St → Prop} {tr : Trace} {T : Nat → Value} {H H' : List Blk} {d : Tmp} {ty : TypeId} {ps : String} {af : Array Edge} {g : Option (Nat × Bool)} {nid : Nat}
theorem Zd {x : Operand}  (v : Value) (k : R P G nt ops K l (tr ++ [(⟨some d, .move x, ty, ps, af, g⟩, { val := v })]) (upd T d v) H) (hg : gd nt T ops g = some true := by exact rfl) (hd : Zbb nt (some d) = true := by exact rfl) (h : St.eval ⟨T, H⟩ x = v := by exact rfl) : R P G nt ops K (⟨some d, .move x, ty, ps, af, g⟩ :: l) tr T H := Zcg hg hd v h k
theorem Zb {x : Operand}  (v : Value) (k : R P G nt ops K l (tr ++ [(⟨some d, .assign x, ty, ps, af, g⟩, { val := v })]) (upd T d v) H) (hg : gd nt T ops g = some true := by exact rfl) (hd : Zbb nt (some d) = true := by exact rfl) (h : St.eval ⟨T, H⟩ x = v := by exact rfl) : R P G nt ops K (⟨some d, .assign x, ty, ps, af, g⟩ :: l) tr T H := Zc7 hg hd v h k
theorem Zk {c x y : Operand}  (v : Value) (k : R P G nt ops K l (tr ++ [(⟨some d, .pick c x y, ty, ps, af, g⟩, { val := v })]) (upd T d v) H) (hg : gd nt T ops g = some true := by exact rfl) (hd : Zbb nt (some d) = true := by exact rfl) (h : Zqf ⟨T, H⟩ c x y = some v := by exact rfl) : R P G nt ops K (⟨some d, .pick c x y, ty, ps, af, g⟩ :: l) tr T H := Zjl hg hd v h k
theorem Ze {op : Op} (k : R P G nt ops K l (tr ++ [(⟨some d, op, ty, ps, af, g⟩, { val := undef })]) (upd T d undef) H) (hg : gd nt T ops g = some false := by exact rfl) (hd : Zbb nt (some d) = true := by exact rfl) : R P G nt ops K (⟨some d, op, ty, ps, af, g⟩ :: l) tr T H := Zoy hg hd k
theorem Zh {t : TypeId} {x : Operand} {f n b o o' : Nat} {q : Option Nat} (k : R P G nt ops K l (tr ++ [(⟨some d, .fieldAddr t x f, ty, ps, af, g⟩, { val := .pointer (some ⟨b, o', q⟩) })]) (upd T d (.pointer (some ⟨b, o', q⟩))) H) (hg : gd nt T ops g = some true := by exact rfl) (hd : Zbb nt (some d) = true := by exact rfl) (hx : St.eval ⟨T, H⟩ x = .pointer (some ⟨b, o, q⟩) := by exact rfl) (hn : Z2n P t f = some n := by exact rfl) (ho : o + n = o' := by exact rfl) : R P G nt ops K (⟨some d, .fieldAddr t x f, ty, ps, af, g⟩ :: l) tr T H := Zbl hg hd hx hn ho k
theorem Zn {t : TypeId} {x : Operand} {v p : Value} (k : R P G nt ops K l (tr ++ [(⟨some d, .load t x, ty, ps, af, g⟩, { val := v, foot := Zbx p })]) (upd T d v) H) (hg : gd nt T ops g = some true := by exact rfl) (hd : Zbb nt (some d) = true := by exact rfl) (hx : St.eval ⟨T, H⟩ x = p := by exact rfl) (h : Zde P G t H p = some v := by kernel_rfl) : R P G nt ops K (⟨some d, .load t x, ty, ps, af, g⟩ :: l) tr T H := Zal hg hd hx h k
theorem Zab {t : TypeId} {x y : Operand} {p v : Value} {b : Nat} {blk : Blk} (k : R P G nt ops K l (tr ++ [(⟨none, .store t x y, ty, ps, af, g⟩, { val := undef, sets := [(b, blk)], foot := Zbx p })]) T H') (hg : gd nt T ops g = some true := by exact rfl) (hx : St.eval ⟨T, H⟩ x = p := by exact rfl) (hy : St.eval ⟨T, H⟩ y = v := by exact rfl) (h : Zfn P t H p v = some (b, blk) := by kernel_rfl) (hH : Zeo H b blk = H' := by kernel_rfl) : R P G nt ops K (⟨none, .store t x y, ty, ps, af, g⟩ :: l) tr T H := Zc0 hg hx hy h hH k
theorem Z1 {x : Operand} {i : Nat} {vs : Array Value} {v : Value} (k : R P G nt ops K l (tr ++ [(⟨some d, .extract x i, ty, ps, af, g⟩, { val := v })]) (upd T d v) H) (hg : gd nt T ops g = some true := by exact rfl) (hd : Zbb nt (some d) = true := by exact rfl) (hx : St.eval ⟨T, H⟩ x = .tuple vs := by exact rfl) (h : Zy9 (.tuple vs) i = some v := by exact rfl) : R P G nt ops K (⟨some d, .extract x i, ty, ps, af, g⟩ :: l) tr T H := Zxy hg hd hx h k
theorem Za9 {t : TypeId} {b : Blk} (k : R P G nt ops K l (tr ++ [(⟨some d, .alloc t, ty, ps, af, g⟩, { val := Zdv nid, sets := [(nid, b)], foot := [nid] })]) (upd T d (.pointer (some ⟨nid, 0, none⟩))) H') (hg : gd nt T ops g = some true := by exact rfl) (hd : Zbb nt (some d) = true := by exact rfl) (h : Zl7 P H t nid = some b := by kernel_rfl) (hH : Zeo H nid b = H' := by kernel_rfl) : R P G nt ops K (⟨some d, .alloc t, ty, ps, af, g⟩ :: l) tr T H := Zew hg hd h hH k
theorem Zb7 {t : TypeId} {x : Operand} {v : Value} {b : Blk} (k : R P G nt ops K l (tr ++ [(⟨some d, .box t x, ty, ps, af, g⟩, { val := Zdv nid, sets := [(nid, b)], foot := [nid] })]) (upd T d (.pointer (some ⟨nid, 0, none⟩))) H') (hg : gd nt T ops g = some true := by exact rfl) (hd : Zbb nt (some d) = true := by exact rfl) (hx : St.eval ⟨T, H⟩ x = v := by exact rfl) (h : Znz H v nid = some b := by kernel_rfl) (hH : Zeo H nid b = H' := by kernel_rfl) : R P G nt ops K (⟨some d, .box t x, ty, ps, af, g⟩ :: l) tr T H := Z0i hg hd hx h hH k
theorem Zeq {x : Operand} {v p : Value} (k : R P G nt ops K l (tr ++ [(⟨some d, .nilCheck x, ty, ps, af, g⟩, { val := v })]) (upd T d (v)) H) (hg : gd nt T ops g = some true := by exact rfl) (hd : Zbb nt (some d) = true := by exact rfl) (hx : St.eval ⟨T, H⟩ x = p := by exact rfl) (h : Zz6 p = some v := by exact rfl) : R P G nt ops K (⟨some d, .nilCheck x, ty, ps, af, g⟩ :: l) tr T H := Zf2 hg hd hx h k
theorem Zaw {t : TypeId} {x : Operand} {p v : Value} (k : R P G nt ops K l (tr ++ [(⟨some d, .call { callee := .builtin .len, args := #[x], argTypes := #[t] }, ty, ps, af, g⟩, { val := v })]) (upd T d v) H) (hg : gd nt T ops g = some true := by exact rfl) (hd : Zbb nt (some d) = true := by exact rfl) (hx : St.eval ⟨T, H⟩ x = p := by exact rfl) (h : Zzw P t p = some v := by exact rfl) : R P G nt ops K (⟨some d, .call { callee := .builtin .len, args := #[x], argTypes := #[t] }, ty, ps, af, g⟩ :: l) tr T H := Ziz hg hd hx h k
end Go.Flat
end
