/- Walks. -/
import Derived.Test.YtfjkagjbanhdlaaDoorFlatA
import Derived.KernelRfl
set_option linter.unusedVariables false
set_option linter.unusedSimpArgs false
set_option linter.unusedSectionVars false
section
/- Calls: a contract over a small heap, used in a greater one. -/
namespace Go.Flat

def Z9 (P : Program) (G : Glob) (f : FuncId) (args : List Value) (σ : List Blk) (res : Value) (σ' : List Blk) : Prop :=
  ∀ m w args', HRel G m σ w → L2 (VR m) args args' →
    Calls P f args'.toArray w fun e w' => ∃ v' m', e = .returned v' ∧ HRel G m' σ' w' ∧ VR m' res v' ∧ Frame ⟨m, w, []⟩ m' w'


abbrev Emb := List (Option (Nat × Nat))

def Zdn (e : Emb) : Value → Value
  | .pointer (some ⟨b, o, none⟩) => match (e[b]?).bind id with | some (i, sh) => .pointer (some ⟨i, sh + o, none⟩) | none => dead
  | .slice (some ⟨b, o, _⟩) n c => match (e[b]?).bind id with | some (i, sh) => .slice (some ⟨i, sh + o, none⟩) n c | none => dead
  | v => v
def Zfv (e : Emb) : Value → Value
  | .func f xs ys => .func f (xs.map (Zdn e)) (ys.map (Zdn e))
  | v => Zdn e v
def Z6i (e : Emb) : Value → Value
  | .agg cs => .agg (cs.map (Zfv e))
  | v => Zfv e v
def Zqf (e : Emb) (v : Value) : Value := if Zbl v then v else Z6i e v
def Zs6 (e : Emb) (v : Value) : Value := match v with | .tuple vs => .tuple (vs.map (Zqf e)) | v => Zqf e v
def Zco (e : Emb) (L : Blk) : List Value := if L.pur then L.cells else L.cells.map (Zfv e)

def Zc4 (r : Reg) (sh : Nat) (L : Blk) : Reg := if L.wr then { r with mv := L.mv } else ⟨r.g, r.lo + sh, r.hi, L.cells.length, L.sz, false, L.fix, L.mv⟩
def Zei (L : Blk) : Reg := ⟨0, 0, 0, 0, L.sz, L.wr, L.fix, L.mv⟩
def mE (mc : MapM) (e : Emb) (σ : List Blk) : MapM := fun i =>
  match e[i]?, σ[i]? with
  | some (some (id, sh)), some L => (mc id).map fun r => Zc4 r sh L
  | some none, some L => some (Zei L)
  | _, _ => none

def Zsp (H : List Blk) (e : Emb) (p : Option (Nat × Nat)) (L : Blk) : Prop :=
  match p with
  | none => L.wr = false ∧ L.cells = [] ∧ 0 < L.sz
  | some (id, sh) => ∃ B, H[id]? = some B ∧ (0 < L.sz ∧ 0 < B.sz ∧ (B.fix = true → B.mv = false)) ∧ L.fix = B.fix ∧ (L.fix = false → L.sz = B.sz) ∧ (L.pur = true → B.pur = true) ∧ sh + L.cells.length ≤ B.cells.length ∧
      (L.wr = true → B.wr = true ∧ sh = 0 ∧ L.sz = B.sz ∧ (L.mv = true → B.mv = true) ∧ L.pur = B.pur ∧ L.cells.length = B.cells.length) ∧
      (B.cells.drop sh).take L.cells.length = Zco e L
structure EmbOK (H : List Blk) (e : Emb) (σ : List Blk) : Prop where
  len : e.length = σ.length
  one : ∀ (i : Nat) (p : Option (Nat × Nat)) (L : Blk), e[i]? = some p → σ[i]? = some L → Zsp H e p L
  dist : ∀ (i j : Nat) (id sh sh' : Nat) (L : Blk), i ≠ j → e[i]? = some (some (id, sh)) → σ[i]? = some L → L.wr = true → e[j]? ≠ some (some (id, sh'))

theorem Zk0 {mc : MapM} {e : Emb} {σ : List Blk} {i id sh : Nat} {L : Blk} (h1 : e[i]? = some (some (id, sh))) (h2 : σ[i]? = some L) : mE mc e σ i = (mc id).map fun r => Zc4 r sh L := by simp [mE, h1, h2]

theorem Zfh {mc : MapM} {H : List Blk} {e : Emb} {σ : List Blk} (hE : EmbOK H e σ) {i : Nat} {r : Reg} (h : mE mc e σ i = some r) :
  (∃ id sh L r0 B, e[i]? = some (some (id, sh)) ∧ σ[i]? = some L ∧ mc id = some r0 ∧ r = Zc4 r0 sh L ∧ H[id]? = some B ∧ (0 < L.sz ∧ 0 < B.sz ∧ (B.fix = true → B.mv = false)) ∧ L.fix = B.fix ∧ (L.fix = false → L.sz = B.sz) ∧ (L.pur = true → B.pur = true) ∧ sh + L.cells.length ≤ B.cells.length ∧
   (L.wr = true → B.wr = true ∧ sh = 0 ∧ L.sz = B.sz ∧ (L.mv = true → B.mv = true) ∧ L.pur = B.pur ∧ L.cells.length = B.cells.length) ∧ (B.cells.drop sh).take L.cells.length = Zco e L) ∨
  (∃ L, e[i]? = some none ∧ σ[i]? = some L ∧ r = Zei L ∧ L.wr = false ∧ L.cells = [] ∧ 0 < L.sz) := by
 unfold mE at h
 split at h
 ·rename_i id sh L h1 h2
  cases hm : mc id with
  | none => simp [hm] at h
  | some r0 =>
   simp only [hm, Option.map_some] at h
   injection h with h
   obtain ⟨B, hB, rest⟩ := hE.one i _ L h1 h2
   exact .inl ⟨id, sh, L, r0, B, h1, h2, hm, h.symm, hB, rest⟩
 ·rename_i L h1 h2
  injection h with h
  exact .inr ⟨L, h1, h2, h.symm, hE.one i _ L h1 h2⟩
 ·cases h

def inE (e : Emb) (b : Nat) : Bool := match e[b]? with | some (some _) => true | _ => false
theorem Zug {e : Emb} {b : Nat} (h : inE e b = true) : ∃ i sh, e[b]? = some (some (i, sh)) := by
 unfold inE at h
 split at h
 ·rename_i p hp; obtain ⟨i, sh⟩ := p; exact ⟨i, sh, hp⟩
 ·cases h
theorem Zpe {mc : MapM} {H : List Blk} {G : Glob} {w : World} {e : Emb} {σ : List Blk} (hH : HRel G mc H w) (hE : EmbOK H e σ) {v v' : Value} (h : CR0 mc (Zdn e v) v') (hok : Zef (inE e) v = true) : CR0 (mE mc e σ) v v' := by
  cases v
  case pointer a =>
    rcases a with _ | ⟨b, o, _ | q⟩
    · exact h
    · obtain ⟨id, sh, he⟩ := Zug (e := e) (b := b) hok
      simp only [Zdn, he, Option.bind_some, _root_.id] at h
      obtain ⟨r, hr, rfl⟩ : ∃ r, mc id = some r ∧ v' = .pointer (some ⟨r.g, r.lo + (sh + o), none⟩) := h
      have hb : b < σ.length := by rw [← hE.len]; exact (List.getElem?_eq_some_iff.1 he).1
      obtain ⟨B, hB, _, _, _, _, _, hw, _⟩ := hE.one b _ σ[b] he (by simp [hb])
      refine ⟨Zc4 r sh σ[b], by rw [Zk0 he (by simp [hb] : σ[b]? = some σ[b]), hr]; rfl, ?_⟩
      unfold Zc4
      split
      · rename_i hwr
        have := (hw hwr).2.1
        subst this; simp
      · simp [Nat.add_assoc]
    · exact h
  case slice a n c =>
    rcases a with _ | ⟨b, o, q⟩
    · exact h
    · obtain ⟨id, sh, he⟩ := Zug (e := e) (b := b) hok
      simp only [Zdn, he, Option.bind_some, _root_.id] at h
      obtain ⟨r, a', c', hr, rfl, hs⟩ : ∃ r a' c', mc id = some r ∧ v' = .slice a' n c' ∧ Zlk r (sh + o) n c a' c' := h
      have hb : b < σ.length := by rw [← hE.len]; exact (List.getElem?_eq_some_iff.1 he).1
      obtain ⟨B, hB, hsz, hfx, hfs, _, _, hw, _⟩ := hE.one b _ σ[b] he (by simp [hb])
      obtain ⟨_, hrw, hrf, hrl, hrs, hrm⟩ := hH.at_ hB hr
      refine ⟨Zc4 r sh σ[b], a', c', by rw [Zk0 he (by simp [hb] : σ[b]? = some σ[b]), hr]; rfl, rfl, hs.1, hs.2.1, fun h0 => ?_⟩
      obtain ⟨h1, h2⟩ := hs.2.2 h0
      unfold Zc4
      split
      · rename_i hwr
        have := (hw hwr).2.1
        subst this
        exact ⟨by rw [h1]; simp, fun hf => by have := h2.1 hf; simpa using this, fun _ hf hv => by
          simp only at hf hv
          have h3 := (hw hwr).2.2.2.1 hv
          rw [hsz.2.2 (by rw [← hrf]; exact hf)] at h3; cases h3⟩
      · refine ⟨by rw [h1, Nat.add_assoc], fun hf => ?_, fun hc => by simp at hc⟩
        simp only at hf ⊢
        have := h2.1 (by rw [hrf, ← hfx]; exact hf)
        rw [hfs hf, ← hrs]; omega
  all_goals exact h

theorem Zka {e : Emb} {v : Value} (h : Zwu v = false) : Zfv e v = Zdn e v := by cases v <;> first | rfl | cases h
theorem Znz {e : Emb} {v : Value} (h : Zwu v = false) : Zwu (Zdn e v) = false := by
  cases v
  case pointer a => rcases a with _ | ⟨b, o, _ | q⟩ <;> simp only [Zdn] <;> first | rfl | (split <;> rfl)
  case slice a n c => rcases a with _ | ⟨b, o, q⟩ <;> simp only [Zdn] <;> first | rfl | (split <;> rfl)
  case func => cases h
  all_goals rfl

theorem Zsg {mc : MapM} {H : List Blk} {G : Glob} {w : World} {e : Emb} {σ : List Blk} (hH : HRel G mc H w) (hE : EmbOK H e σ) {v v' : Value} (h : CR mc (Zfv e v) v') (hok : Za9 (inE e) v = true) : CR (mE mc e σ) v v' := by
 revert h hok
 refine Ze4 (P := fun v => CR mc (Zfv e v) v' → Za9 (inE e) v = true → CR (mE mc e σ) v v') ?_ ?_ v
 ·intro v hf h hok
  rw [Zka hf, Zj2 (Znz hf)] at h
  rw [Zj2 hf]
  rw [Ziy hf] at hok
  exact Zpe hH hE h hok
 ·intro f xs ys h hok
  obtain ⟨xs', ys', rfl, h1, h2⟩ := h
  simp only [Za9, Bool.and_eq_true, List.all_eq_true] at hok
  simp only [Array.toList_map] at h1 h2
  exact ⟨xs', ys', rfl, h1.of_map_left fun x hx y hxy => Zpe hH hE hxy (hok.1 x hx), h2.of_map_left fun x hx y hxy => Zpe hH hE hxy (hok.2 x hx)⟩

def Zv8 (e : Emb) (vL vC : Value) : Prop :=
  match vL with
  | .slice (some ⟨b, o, none⟩) n c => match e[b]? with
    | some (some (i, sh)) => (match vC with | .slice (some ⟨i2, o2, none⟩) n2 c2 => i2 = i ∧ o2 = sh + o ∧ n2 = n ∧ c ≤ c2 ∧ n ≤ c | _ => False)
    | some none => vC = .slice none 0 0 ∧ o = 0 ∧ n = 0 ∧ c = 0
    | none => False
  | vL => vC = Zfv e vL ∧ Za9 (inE e) vL = true
def Zoe (e : Emb) : List Value → List Value → Prop
  | [], [] => True
  | x :: xs, y :: ys => Zv8 e x y ∧ Zoe e xs ys
  | _, _ => False
def Zjx (e : Emb) (vL vC : Value) : Prop :=
  if Zbl vL then vC = vL else match vL with
  | .agg cs => (match vC with | .agg ds => Zoe e cs.toList ds.toList | _ => False)
  | .tuple _ => False
  | v => Zv8 e v vC
def Zjs (e : Emb) : List Value → List Value → Prop
  | [], [] => True
  | x :: xs, y :: ys => Zjx e x y ∧ Zjs e xs ys
  | _, _ => False

theorem Z0w {mc : MapM} {H : List Blk} {G : Glob} {w : World} {e : Emb} {σ : List Blk} (hH : HRel G mc H w) (hE : EmbOK H e σ) {vL vC v' : Value} (ha : Zv8 e vL vC) (h : CR mc vC v') : CR (mE mc e σ) vL v' := by
  unfold Zv8 at ha
  split at ha
  · rename_i b o n c
    split at ha
    · rename_i i sh he
      split at ha
      · rename_i i2 o2 n2 c2
        obtain ⟨rfl, rfl, rfl, hc, hn⟩ := ha
        obtain ⟨r, a', c', hr, rfl, hs⟩ : ∃ r a' c', mc i2 = some r ∧ v' = .slice a' n2 c' ∧ Zlk r (sh + o) n2 c2 a' c' := h
        have h2 : CR mc (Zfv e (.slice (some ⟨b, o, none⟩) n2 c2)) (.slice a' n2 c') := by
          rw [Zka rfl, Zj2 (Znz rfl)]
          simp only [Zdn, he, Option.bind_some, id]
          exact ⟨r, a', c', hr, rfl, hs⟩
        obtain ⟨r1, a1, c1, g1, g2, g3⟩ : ∃ r a1 c1, mE mc e σ b = some r ∧ Value.slice a' n2 c' = .slice a1 n2 c1 ∧ Zlk r o n2 c2 a1 c1 := Zsg hH hE h2 (by show inE e b = true; simp [inE, he])
        refine ⟨r1, a1, c1, g1, g2, hn, Nat.le_trans hc g3.2.1, fun h0 => ⟨(g3.2.2 h0).1, (g3.2.2 h0).2.1, fun e1 e2 e3 => ?_⟩⟩
        rcases Zfh hE g1 with ⟨id', sh', L, r0, B, k1, k2, k3, rfl, hB, hsz, hfx, hfs, hpu, hle, hw, hcc⟩ | ⟨L, k1, k2, rfl, hw, hce, hsz⟩
        · unfold Zc4 at e1 e2 e3
          by_cases hL : L.wr = true
          · rw [if_pos hL] at e1 e2 e3
            simp only at e1 e2 e3
            obtain ⟨_, _, hrf, _⟩ := hH.at_ hB k3
            have h3 := (hw hL).2.2.2.1 e3
            rw [hsz.2.2 (by rw [← hrf]; exact e2)] at h3; cases h3
          · rw [if_neg hL] at e1; cases e1
        · simp only [Zei] at e1; rw [hw] at e1; cases e1
      · cases ha
    · rename_i he
      obtain ⟨rfl, rfl, rfl, rfl⟩ := ha
      have hv : v' = .slice none 0 0 := h
      subst hv
      have hb : b < σ.length := by rw [← hE.len]; exact (List.getElem?_eq_some_iff.1 he).1
      refine ⟨Zei σ[b], none, 0, by simp [mE, he, hb], rfl, Nat.le_refl _, Nat.le_refl _, fun h => by omega⟩
    · cases ha
  · obtain ⟨rfl, hok⟩ := ha
    exact Zsg hH hE h hok

theorem Zx0 {mc : MapM} {H : List Blk} {G : Glob} {w : World} {e : Emb} {σ : List Blk} (hH : HRel G mc H w) (hE : EmbOK H e σ) : ∀ (xs ys zs : List Value), Zoe e xs ys → L2 (CR mc) ys zs → L2 (CR (mE mc e σ)) xs zs
 | [], [], zs, _, h => by have := h.nil_inv; subst this; exact L2.nil
 | x :: xs, y :: ys, zs, ha, h => by
  obtain ⟨z, zs', rfl, h1, h2⟩ := h.inv
  exact L2.cons (Z0w hH hE ha.1 h1) (Zx0 hH hE xs ys zs' ha.2 h2)
 | [], _ :: _, _, ha, _ => ha.elim
 | _ :: _, [], _, ha, _ => ha.elim

theorem Zyw {e : Emb} {v : Value} (h : Zhu v = false) : Z6i e v = Zfv e v := by cases v <;> first | rfl | cases h
theorem Zk7 (e : Emb) (v : Value) : Zhu (Zfv e v) = Zhu v ∧ Zik (Zfv e v) = Zik v := by
 cases v
 case pointer a =>
  rcases a with _ | ⟨b, o, _ | q⟩
  ·exact ⟨rfl, rfl⟩
  ·simp only [Zfv, Zdn]
   cases (e[b]?).bind id <;> exact ⟨rfl, rfl⟩
  ·exact ⟨rfl, rfl⟩
 case slice a n c =>
  rcases a with _ | ⟨b, o, q⟩
  ·exact ⟨rfl, rfl⟩
  ·simp only [Zfv, Zdn]
   cases (e[b]?).bind id <;> exact ⟨rfl, rfl⟩
 all_goals exact ⟨rfl, rfl⟩
theorem Zra {e : Emb} {vL vC : Value} (ha : Zv8 e vL vC) (h : Zhu vL = false) (h' : Zik vL = false) : Zhu vC = false ∧ Zik vC = false := by
 unfold Zv8 at ha
 split at ha
 ·split at ha
  ·split at ha
   ·exact ⟨rfl, rfl⟩
   ·cases ha
  ·obtain ⟨rfl, _⟩ := ha; exact ⟨rfl, rfl⟩
  ·cases ha
 ·obtain ⟨rfl, hok⟩ := ha
  exact ⟨by rw [(Zk7 e vL).1, h], by rw [(Zk7 e vL).2, h']⟩

theorem Zv9 {mc : MapM} {H : List Blk} {G : Glob} {w : World} {e : Emb} {σ : List Blk} (hH : HRel G mc H w) (hE : EmbOK H e σ) {vL vC v' : Value} (ha : Zjx e vL vC) (h : VR mc vC v') : VR (mE mc e σ) vL v' := by
 unfold Zjx at ha
 split at ha
 ·rename_i hp
  subst ha
  have := h.pure hp
  subst this
  exact VR.of_pure hp
 ·split at ha
  ·rename_i cs
   split at ha
   ·rename_i ds
    obtain ⟨ds', rfl, h1⟩ := h
    exact ⟨ds', rfl, Zx0 hH hE _ _ _ ha h1⟩
   ·cases ha
  ·cases ha
  ·rename_i hna hnt
   have h1 : Zhu vL = false := by cases vL <;> first | rfl | exact absurd rfl (hna _)
   have h2 : Zik vL = false := by cases vL <;> first | rfl | exact absurd rfl (hnt _)
   obtain ⟨h3, h4⟩ := Zra ha h1 h2
   rw [Zf5 h2, Zie h1]
   rw [Zf5 h4, Zie h3] at h
   exact Z0w hH hE ha h
theorem Zox {mc : MapM} {H : List Blk} {G : Glob} {w : World} {e : Emb} {σ : List Blk} (hH : HRel G mc H w) (hE : EmbOK H e σ) : ∀ (xs ys zs : List Value), Zjs e xs ys → L2 (VR mc) ys zs → L2 (VR (mE mc e σ)) xs zs
 | [], [], zs, _, h => by have := h.nil_inv; subst this; exact L2.nil
 | x :: xs, y :: ys, zs, ha, h => by
  obtain ⟨z, zs', rfl, h1, h2⟩ := h.inv
  exact L2.cons (Zv9 hH hE ha.1 h1) (Zox hH hE xs ys zs' ha.2 h2)
 | [], _ :: _, _, ha, _ => ha.elim
 | _ :: _, [], _, ha, _ => ha.elim

theorem HRel.embed {mc : MapM} {H : List Blk} {G : Glob} {w : World} {e : Emb} {σ : List Blk} (hH : HRel G mc H w) (hE : EmbOK H e σ)
    (hnm : ∀ (i : Nat) (L : Blk), σ[i]? = some L → L.pur = true ∨ ∀ v, v ∈ L.cells → Za9 (inE e) v = true) : HRel G (mE mc e σ) σ w := by
  refine ⟨?_, ?_, ?_, ?_, ?_, ?_, ?_, ?_, ?_⟩
  · intro i r hr
    rcases Zfh hE hr with ⟨id, sh, L, r0, B, h1, h2, h3, rfl, hB, hsz, hfx, hfs, hpu, hle, hw, hc⟩ | ⟨L, h1, h2, rfl, hw, hce, hsz⟩
    · obtain ⟨_, hrw, hrf, hrl, hrs, hrm⟩ := hH.at_ hB h3
      refine ⟨L, h2, hsz.1, ?_⟩
      unfold Zc4
      by_cases hwr : L.wr = true
      · obtain ⟨g1, g2, g3, g4, g5, g6⟩ := hw hwr
        rw [if_pos hwr]
        exact ⟨by rw [hwr]; simp only; rw [hrw, g1], by simp only; rw [hrf, hfx], by simp only; rw [hrl, g6], by simp only; rw [hrs, g3], rfl⟩
      · rw [if_neg hwr]
        exact ⟨by simpa using hwr, rfl, rfl, rfl, rfl⟩
    · exact ⟨L, h2, hsz, rfl, rfl, by rw [hce]; rfl, rfl, rfl⟩
  · intro i L hL hsz
    have hi : i < σ.length := (List.getElem?_eq_some_iff.1 hL).1
    obtain ⟨p, hp'⟩ : ∃ p, e[i]? = some p := ⟨e[i]'(by rw [hE.len]; exact hi), by simp [hE.len, hi]⟩
    cases p with
    | none => exact ⟨Zei L, by simp [mE, hp', hL]⟩
    | some p =>
      obtain ⟨id, sh⟩ := p
      obtain ⟨B, hB, hsz2, _⟩ := hE.one i _ L hp' hL
      obtain ⟨r, hr⟩ := hH.live id B hB hsz2.2.1
      exact ⟨Zc4 r sh L, by rw [Zk0 hp' hL, hr]; rfl⟩
  · intro i L r j v hL hr hv
    rcases Zfh hE hr with ⟨id, sh, L', r0, B, h1, h2, h3, rfl, hB, hsz, hfx, hfs, hpu, hle, hw, hc⟩ | ⟨L', h1, h2, rfl, hw, hce, hsz⟩
    · rw [hL] at h2; injection h2 with h2; subst h2
      have hj : j < L.cells.length := (List.getElem?_eq_some_iff.1 hv).1
      have hcj : B.cells[sh + j]? = (Zco e L)[j]? := by
        rw [← hc, List.getElem?_take, if_pos hj, List.getElem?_drop]
      have haddr : (⟨(Zc4 r0 sh L).g, (Zc4 r0 sh L).lo + j, none⟩ : Addr) = ⟨r0.g, r0.lo + (sh + j), none⟩ := by
        unfold Zc4
        split
        · rename_i hwr; have := (hw hwr).2.1; subst this; simp
        · simp [Nat.add_assoc]
      rw [haddr]
      unfold Zco at hcj
      by_cases hp : L.pur = true
      · rw [if_pos hp, hv] at hcj
        obtain ⟨v', g1, g2⟩ := hH.cell id B r0 _ v hB h3 hcj
        have hpv := hH.pur id B hB (hpu hp) v (List.mem_of_getElem? hcj)
        refine ⟨v', g1, ?_⟩
        rw [g2.pure hpv]; exact CR.of_pure hpv
      · rw [if_neg hp, List.getElem?_map, hv, Option.map_some] at hcj
        obtain ⟨v', g1, g2⟩ := hH.cell id B r0 _ _ hB h3 hcj
        refine ⟨v', g1, Zsg hH hE g2 ?_⟩
        rcases hnm i L hL with h | h
        · exact absurd h hp
        · exact h v (List.mem_of_getElem? hv)
    · rw [hL] at h2; injection h2 with h2; subst h2
      rw [hce] at hv; simp at hv
  · intro i L hL hp v hv
    have hi : i < σ.length := (List.getElem?_eq_some_iff.1 hL).1
    obtain ⟨p, hp'⟩ : ∃ p, e[i]? = some p := ⟨e[i]'(by rw [hE.len]; exact hi), by simp [hE.len, hi]⟩
    have h1 := hE.one i p L hp' hL
    cases p with
    | none => have := h1.2.1; rw [this] at hv; cases hv
    | some p =>
      obtain ⟨id, sh⟩ := p
      obtain ⟨B, hB, hsz, hfx, hfs, hpu, hle, hw, hc⟩ := h1
      unfold Zco at hc
      rw [if_pos hp] at hc
      rw [← hc] at hv
      exact hH.pur id B hB (hpu hp) v (List.mem_of_mem_drop (List.mem_of_mem_take hv))
  · intro i r hr hwr
    rcases Zfh hE hr with ⟨id, sh, L, r0, B, h1, h2, h3, rfl, hB, hsz, hfx, hfs, hpu, hle, hw, hc⟩ | ⟨L, h1, h2, rfl, hw, hce, hsz⟩
    · unfold Zc4 at hwr ⊢
      by_cases hL : L.wr = true
      · obtain ⟨_, hrw, _⟩ := hH.at_ hB h3
        rw [if_pos hL] at hwr ⊢
        exact hH.own id r0 h3 hwr
      · rw [if_neg hL] at hwr; cases hwr
    · simp only [Zei] at hwr; rw [hw] at hwr; cases hwr
  · intro i r hr hwr hs1 hlh
    rcases Zfh hE hr with ⟨id, sh, L, r0, B, h1, h2, h3, rfl, hB, hsz, hfx, hfs, hpu, hle, hw, hc⟩ | ⟨L, h1, h2, rfl, hw, hce, hsz⟩
    · unfold Zc4 at hwr hs1 hlh ⊢
      by_cases hL : L.wr = true
      · rw [if_pos hL] at hwr hs1 hlh ⊢
        exact hH.clean id r0 h3 hwr hs1 hlh
      · rw [if_neg hL] at hwr; cases hwr
    · simp only [Zei] at hwr; rw [hw] at hwr; cases hwr
  · intro i j r r' hij hr hr' hwr hg q h1 h2 h3 h4
    rcases Zfh hE hr with ⟨id, sh, L, r0, B, e1, e2, e3, rfl, hB, hsz, hfx, hfs, hpu, hle, hw, hc⟩ | ⟨L, e1, e2, rfl, hw, hce, hsz⟩
    · unfold Zc4 at hwr hg h1 h2
      by_cases hL : L.wr = true
      · rw [if_pos hL] at hwr hg h1 h2
        simp only at hg h1 h2 hwr
        rcases Zfh hE hr' with ⟨id', sh', L', r0', B', f1, f2, f3, rfl, hB', hsz', hfx', hfs', hpu', hle', hw', hc'⟩ | ⟨L', f1, f2, rfl, hw', hce', hsz'⟩
        · have hne : id ≠ id' := by
            rintro rfl
            exact hE.dist i j id sh sh' L hij e1 e2 hL f1
          obtain ⟨_, grw, _, grl, _⟩ := hH.at_ hB' f3
          unfold Zc4 Reg.ext at h4
          unfold Zc4 at hg h3
          by_cases hL' : L'.wr = true
          · simp only [if_pos hL'] at hg h3 h4
            exact hH.dis id id' r0 r0' hne e3 f3 hwr hg q h1 h2 h3 (by unfold Reg.ext; exact h4)
          · simp only [if_neg hL'] at hg h3 h4
            simp only [Bool.false_eq_true, if_false] at h4
            refine hH.dis id id' r0 r0' hne e3 f3 hwr hg q h1 h2 (by omega) ?_
            unfold Reg.ext
            split
            · rename_i hww; have := (hH.own id' r0' f3 hww).1; omega
            · omega
        · simp only [Zei, Reg.ext, hw', hce', Bool.false_eq_true, if_false] at h4 h3
          omega
      · rw [if_neg hL] at hwr; cases hwr
    · simp only [Zei] at hwr; rw [hw] at hwr; cases hwr
  · exact hH.glob
  · intro i r q hr hwr h1 h2
    rcases Zfh hE hr with ⟨id, sh, L, r0, B, e1, e2, e3, rfl, hB, hsz, hfx, hfs, hpu, hle, hw, hc⟩ | ⟨L, e1, e2, rfl, hw, hce, hsz⟩
    · unfold Zc4 at hwr h1 h2 ⊢
      by_cases hL : L.wr = true
      · rw [if_pos hL] at hwr h1 h2 ⊢
        exact hH.gwr id r0 q e3 hwr h1 h2
      · rw [if_neg hL] at hwr; cases hwr
    · simp only [Zei] at hwr; rw [hw] at hwr; cases hwr

theorem Zk9.embed {mc : MapM} {H : List Blk} {G : Glob} {w : World} {e : Emb} {σ : List Blk} (hH : HRel G mc H w) (hE : EmbOK H e σ) {g j : Nat} (h : Zk9 (mE mc e σ) g j) :
    ∃ (i id sh : Nat) (L : Blk) (r0 : Reg), e[i]? = some (some (id, sh)) ∧ σ[i]? = some L ∧ L.wr = true ∧ mc id = some r0 ∧ r0.wr = true ∧ r0.g = g ∧ r0.lo ≤ j ∧ j < r0.hi := by
  obtain ⟨i, r, hr, hwr, hg, h1, h2⟩ := h
  rcases Zfh hE hr with ⟨id, sh, L, r0, B, e1, e2, e3, rfl, hB, hsz, hfx, hfs, hpu, hle, hw, hc⟩ | ⟨L, e1, e2, rfl, hw, hce, hsz⟩
  · unfold Zc4 at hwr hg h1 h2
    by_cases hL : L.wr = true
    · rw [if_pos hL] at hwr hg h1 h2
      exact ⟨i, id, sh, L, r0, e1, e2, hL, e3, hwr, hg, h1, h2⟩
    · rw [if_neg hL] at hwr; cases hwr
  · simp only [Zei] at hwr; rw [hw] at hwr; cases hwr

end Go.Flat
end
section
/- What a call leaves, in the caller's heap. -/
namespace Go.Flat

def Zgk (e : Emb) (σ : List Blk) (i b : Nat) : Prop := ∃ (sh : Nat) (L : Blk), e[i]? = some (some (b, sh)) ∧ σ[i]? = some L ∧ L.wr = true ∧ L.mv = true
def Zfl (e : Emb) (nid n : Nat) : Emb := e ++ (List.range n).map fun k => some (nid + k, 0)

structure After (H H' : List Blk) (e : Emb) (σ σ' : List Blk) (nid : Nat) : Prop where
  len : σ.length ≤ σ'.length
  hlen : H'.length = H.length
  flags : ∀ (i : Nat) (L L' : Blk), σ[i]? = some L → σ'[i]? = some L' → L'.wr = L.wr ∧ L'.fix = L.fix ∧ L'.mv = L.mv ∧ L'.sz = L.sz ∧ L'.pur = L.pur
  wrs : ∀ (i : Nat) (L : Blk), σ.length ≤ i → σ'[i]? = some L → L.wr = true
  holes : ∀ k, k < σ'.length - σ.length → ∃ x, H[nid + k]? = some x ∧ x.sz = 0
  new : ∀ (k : Nat) (L : Blk), σ'[σ.length + k]? = some L → H'[nid + k]? = some { L with cells := Zco (Zfl e nid (σ'.length - σ.length)) L }
  rep : ∀ (i id sh : Nat) (L L' B : Blk), e[i]? = some (some (id, sh)) → σ[i]? = some L → σ'[i]? = some L' → L.wr = true → H[id]? = some B → H'[id]? = some { B with cells := Zco (Zfl e nid (σ'.length - σ.length)) L' }
  same : ∀ b, (∀ k, k < σ'.length - σ.length → b ≠ nid + k) → (∀ (i sh : Nat) (L : Blk), e[i]? = some (some (b, sh)) → σ[i]? = some L → L.wr = false) → H'[b]? = H[b]?

open Classical in
noncomputable def mB (mc m' : MapM) (e : Emb) (σ σ' : List Blk) (nid : Nat) : MapM := fun b =>
  if nid ≤ b ∧ b < nid + (σ'.length - σ.length) then m' (σ.length + (b - nid))
  else if h : ∃ i, Zgk e σ i b then m' (Classical.choose h) else mc b

section
variable {G : Glob} {mc m' : MapM} {H H' : List Blk} {w w' : World} {e : Emb} {σ σ' : List Blk} {nid : Nat} {E : Ent}

theorem Zgk.unique (hE : EmbOK H e σ) {i j b : Nat} (h1 : Zgk e σ i b) (h2 : Zgk e σ j b) : i = j := by
 obtain ⟨sh, L, a1, a2, a3, _⟩ := h1
 obtain ⟨sh', L', b1, b2, b3, _⟩ := h2
 rcases Nat.decEq i j with h | h
 ·exact absurd b1 (hE.dist i j b sh sh' L h a1 a2 a3)
 ·exact h

theorem Zw0 {k : Nat} (hk : k < σ'.length - σ.length) : mB mc m' e σ σ' nid (nid + k) = m' (σ.length + k) := by
 unfold mB
 rw [if_pos (by omega), show nid + k - nid = k from by omega]
theorem Zp1 (hE : EmbOK H e σ) (hA : After H H' e σ σ' nid) {i b : Nat} (h : Zgk e σ i b) : mB mc m' e σ σ' nid b = m' i := by
 have hb : ¬ (nid ≤ b ∧ b < nid + (σ'.length - σ.length)) := by
  intro hh
  obtain ⟨sh, L, a1, a2, a3, _⟩ := h
  obtain ⟨x, hx, hx0⟩ := hA.holes (b - nid) (by omega)
  obtain ⟨B, hB, hsz, _, _, _, _, hw, _⟩ := hE.one i _ L a1 a2
  rw [show nid + (b - nid) = b from by omega, hB] at hx
  injection hx with hx; subst hx
  have := hsz.2.1
  omega
 unfold mB
 rw [if_neg hb]
 have hex : ∃ i, Zgk e σ i b := ⟨i, h⟩
 rw [dif_pos hex]
 congr 1
 exact Zgk.unique hE (Classical.choose_spec hex) h
theorem Zkc {b : Nat} (h1 : ∀ k, k < σ'.length - σ.length → b ≠ nid + k) (h2 : ¬ ∃ i, Zgk e σ i b) : mB mc m' e σ σ' nid b = mc b := by
 have hb : ¬ (nid ≤ b ∧ b < nid + (σ'.length - σ.length)) := fun hh => h1 (b - nid) (by omega) (by omega)
 unfold mB
 rw [if_neg hb, dif_neg h2]

theorem Zur (hE : EmbOK H e σ) (hA : After H H' e σ σ' nid) {b : Nat} {r : Reg} (h : mB mc m' e σ σ' nid b = some r) :
  (∃ k, k < σ'.length - σ.length ∧ b = nid + k ∧ m' (σ.length + k) = some r) ∨ (∃ i, Zgk e σ i b ∧ m' i = some r) ∨
  ((∀ k, k < σ'.length - σ.length → b ≠ nid + k) ∧ (¬ ∃ i, Zgk e σ i b) ∧ mc b = some r) := by
 by_cases hb : nid ≤ b ∧ b < nid + (σ'.length - σ.length)
 ·have : b = nid + (b - nid) := by omega
  rw [this, Zw0 (by omega)] at h
  exact .inl ⟨b - nid, by omega, this, h⟩
 ·have h1 : ∀ k, k < σ'.length - σ.length → b ≠ nid + k := fun k hk he => hb (by omega)
  by_cases hm : ∃ i, Zgk e σ i b
  ·obtain ⟨i, hi⟩ := hm
   rw [Zp1 hE hA hi] at h
   exact .inr (.inl ⟨i, hi, h⟩)
  ·rw [Zkc h1 hm] at h
   exact .inr (.inr ⟨h1, hm, h⟩)

theorem Z36 {i n : Nat} (h : i < e.length) : (Zfl e nid n)[i]? = e[i]? := by
 unfold Zfl; rw [List.getElem?_append_left h]
theorem Z35 {i n : Nat} {p : Option (Nat × Nat)} (h : e.length ≤ i) (hp : (Zfl e nid n)[i]? = some p) : i - e.length < n ∧ p = some (nid + (i - e.length), 0) := by
 unfold Zfl at hp
 rw [List.getElem?_append_right h, List.getElem?_map] at hp
 rcases Nat.lt_or_ge (i - e.length) n with h1 | h1
 ·rw [List.getElem?_range h1] at hp
  simp at hp
  exact ⟨h1, hp.symm⟩
 ·rw [List.getElem?_eq_none (by simpa using h1)] at hp
  cases hp

theorem Z5g (hH : HRel G mc H w) (hE : EmbOK H e σ) (hA : After H H' e σ σ' nid) (hF : Frame ⟨mE mc e σ, w, []⟩ m' w') {i id sh : Nat} (hi : (Zfl e nid (σ'.length - σ.length))[i]? = some (some (id, sh))) {r' : Reg} (hr : m' i = some r') :
    ∃ r, mB mc m' e σ σ' nid id = some r ∧ r.g = r'.g ∧ r.lo + sh = r'.lo ∧ r.hi = r'.hi ∧ r.fix = r'.fix ∧ (r'.fix = false → r.sz = r'.sz) ∧ (r.wr = true → r.fix = true → r.mv = true → r'.wr = true ∧ r'.fix = true ∧ r'.mv = true) := by
  rcases Nat.lt_or_ge i e.length with hlt | hge
  · rw [Z36 hlt] at hi
    have hlt' : i < σ.length := by rw [← hE.len]; exact hlt
    have hL : σ[i]? = some σ[i] := by simp [hlt']
    obtain ⟨B, hB, hsz, hfx, hfs, hpu, hle, hw, hc⟩ := hE.one i _ _ hi hL
    by_cases hm : σ[i].wr = true ∧ σ[i].mv = true
    · have hmv : Zgk e σ i id := ⟨sh, _, hi, hL, hm.1, hm.2⟩
      have := (hw hm.1).2.1
      subst this
      exact ⟨r', by rw [Zp1 hE hA hmv]; exact hr, rfl, by simp, rfl, rfl, fun _ => rfl, fun h1 h2 h3 => ⟨h1, h2, h3⟩⟩
    · obtain ⟨r0, hr0⟩ := hH.live id B hB hsz.2.1
      have hk : m' i = some (Zc4 r0 sh σ[i]) := by
        refine hF.keep i (Zc4 r0 sh σ[i]) (by show mE mc e σ i = _; rw [Zk0 hi hL, hr0]; rfl) ?_
        unfold Zc4
        by_cases hwr : σ[i].wr = true
        · rw [if_pos hwr]; right
          simp only
          cases hmm : σ[i].mv with
          | true => exact absurd ⟨hwr, hmm⟩ hm
          | false => rfl
        · rw [if_neg hwr]; left; rfl
      rw [hr] at hk; injection hk with hk
      have hno : ¬ ∃ j, Zgk e σ j id := by
        rintro ⟨j, sh', L', a1, a2, a3, a4⟩
        by_cases hij : j = i
        · subst hij; rw [hL] at a2; injection a2 with a2; subst a2; exact hm ⟨a3, a4⟩
        · exact hE.dist j i id sh' sh L' hij a1 a2 a3 hi
      have hnew : ∀ k, k < σ'.length - σ.length → id ≠ nid + k := by
        rintro k hk' rfl
        obtain ⟨x, hx, hx0⟩ := hA.holes k hk'
        rw [hB] at hx; injection hx with hx; subst hx
        have := hsz.2.1; omega
      obtain ⟨_, hrw, hrf, hrl, hrs, hrm⟩ := hH.at_ hB hr0
      refine ⟨r0, by rw [Zkc hnew hno]; exact hr0, ?_⟩
      subst hk
      unfold Zc4
      by_cases hwr : σ[i].wr = true
      · have := (hw hwr).2.1
        subst this
        rw [if_pos hwr]
        exact ⟨rfl, by simp, rfl, rfl, fun _ => rfl, fun _ e2 e3 => by rw [hrm, hsz.2.2 (by rw [← hrf]; exact e2)] at e3; cases e3⟩
      · rw [if_neg hwr]
        exact ⟨rfl, rfl, rfl, by rw [hrf, hfx], fun hf => by simp only at hf ⊢; rw [hrs, hfs hf], fun _ e2 e3 => by rw [hrm, hsz.2.2 (by rw [← hrf]; exact e2)] at e3; cases e3⟩
  · obtain ⟨h1, h2⟩ := Z35 hge hi
    injection h2 with h2; injection h2 with h2 h3
    subst h2; subst h3
    have : i = σ.length + (i - e.length) := by rw [← hE.len]; omega
    exact ⟨r', by rw [Zw0 h1, ← this]; exact hr, rfl, by simp, rfl, rfl, fun _ => rfl, fun h1 h2 h3 => ⟨h1, h2, h3⟩⟩

theorem Zsv (hH : HRel G mc H w) (hE : EmbOK H e σ) (hA : After H H' e σ σ' nid) (hF : Frame ⟨mE mc e σ, w, []⟩ m' w') {v v' : Value} (h : CR0 m' v v') : CR0 (mB mc m' e σ σ' nid) (Zdn (Zfl e nid (σ'.length - σ.length)) v) v' := by
 cases v
 case pointer a =>
  rcases a with _ | ⟨b, o, _ | q⟩
  ·exact h
  ·obtain ⟨r', hr, rfl⟩ := h
   simp only [Zdn]
   rcases hp : (Zfl e nid (σ'.length - σ.length))[b]? with _ | _ | ⟨id, sh⟩
   ·trivial
   ·trivial
   ·obtain ⟨r, h1, h2, h3, _⟩ := Z5g hH hE hA hF hp hr
    simp only [Option.bind_some, _root_.id]
    exact ⟨r, h1, by rw [h2, ← h3, Nat.add_assoc]⟩
  ·exact h
 case slice a n c =>
  rcases a with _ | ⟨b, o, q⟩
  ·exact h
  ·obtain ⟨r', a', c', hr, rfl, hs⟩ := h
   simp only [Zdn]
   rcases hp : (Zfl e nid (σ'.length - σ.length))[b]? with _ | _ | ⟨id, sh⟩
   ·trivial
   ·trivial
   ·obtain ⟨r, h1, h2, h3, h4, h5, h6, h7⟩ := Z5g hH hE hA hF hp hr
    simp only [Option.bind_some, _root_.id]
    refine ⟨r, a', c', h1, rfl, hs.1, hs.2.1, fun h0 => ?_⟩
    obtain ⟨g1, g2, g3⟩ := hs.2.2 h0
    refine ⟨by rw [g1, h2, ← h3, Nat.add_assoc], fun hf => ?_, fun e1 e2 e3 => g3 (h7 e1 e2 e3).1 (h7 e1 e2 e3).2.1 (h7 e1 e2 e3).2.2⟩
    have hf' : r'.fix = false := by rw [← h5]; exact hf
    have := g2 hf'
    simp only at this ⊢
    rw [h6 hf', h4]; omega
 all_goals exact h
theorem Zwo (hH : HRel G mc H w) (hE : EmbOK H e σ) (hA : After H H' e σ σ' nid) (hF : Frame ⟨mE mc e σ, w, []⟩ m' w') {v v' : Value} (h : CR m' v v') : CR (mB mc m' e σ σ' nid) (Zfv (Zfl e nid (σ'.length - σ.length)) v) v' := by
 revert h
 refine Ze4 (P := fun v => CR m' v v' → CR (mB mc m' e σ σ' nid) (Zfv (Zfl e nid (σ'.length - σ.length)) v) v') ?_ ?_ v
 ·intro v hf h
  rw [Zka hf, Zj2 (Znz hf)]
  rw [Zj2 hf] at h
  exact Zsv hH hE hA hF h
 ·intro f xs ys h
  obtain ⟨xs', ys', rfl, h1, h2⟩ := h
  refine ⟨xs', ys', rfl, ?_, ?_⟩
  ·simp only [Array.toList_map]; exact h1.map_left fun x _ y hxy => Zsv hH hE hA hF hxy
  ·simp only [Array.toList_map]; exact h2.map_left fun x _ y hxy => Zsv hH hE hA hF hxy
theorem Zyj (hH : HRel G mc H w) (hE : EmbOK H e σ) (hA : After H H' e σ σ' nid) (hF : Frame ⟨mE mc e σ, w, []⟩ m' w') {v v' : Value} (h : VR1 m' v v') : VR1 (mB mc m' e σ σ' nid) (Zqf (Zfl e nid (σ'.length - σ.length)) v) v' := by
 unfold Zqf
 split
 ·rename_i hp
  rw [h.pure hp]; exact VR1.of_pure hp
 ·rename_i hp
  revert h
  refine Zhl (P := fun v => VR1 m' v v' → VR1 (mB mc m' e σ σ' nid) (Z6i (Zfl e nid (σ'.length - σ.length)) v) v') ?_ ?_ v
  ·intro v hf h
   rw [Zyw hf, Zie (by rw [(Zk7 _ v).1]; exact hf)]
   rw [Zie hf] at h
   exact Zwo hH hE hA hF h
  ·intro cs h
   obtain ⟨cs', rfl, h1⟩ := h
   refine ⟨cs', rfl, ?_⟩
   simp only [Array.toList_map]
   exact h1.map_left fun x _ y hxy => Zwo hH hE hA hF hxy
theorem Zu8 (e : Emb) (v : Value) (h : Zik v = false) : Zik (Zqf e v) = false := by
  unfold Zqf
  split
  · exact h
  · by_cases ha : Zhu v = true
    · cases v <;> first | rfl | cases ha
    · rw [Zyw (by simpa using ha), (Zk7 _ v).2]; exact h
theorem Z53 (hH : HRel G mc H w) (hE : EmbOK H e σ) (hA : After H H' e σ σ' nid) (hF : Frame ⟨mE mc e σ, w, []⟩ m' w') {v v' : Value} (h : VR m' v v') : VR (mB mc m' e σ σ' nid) (Zs6 (Zfl e nid (σ'.length - σ.length)) v) v' := by
  revert h
  refine Zlr (P := fun v => VR m' v v' → VR (mB mc m' e σ σ' nid) (Zs6 (Zfl e nid (σ'.length - σ.length)) v) v') ?_ ?_ v
  · intro v hf h
    have : Zs6 (Zfl e nid (σ'.length - σ.length)) v = Zqf (Zfl e nid (σ'.length - σ.length)) v := by cases v <;> first | rfl | cases hf
    rw [this, Zf5 (Zu8 _ _ hf)]
    rw [Zf5 hf] at h
    exact Zyj hH hE hA hF h
  · intro cs h
    obtain ⟨cs', rfl, h1⟩ := h
    refine ⟨cs', rfl, ?_⟩
    simp only [Array.toList_map]
    exact h1.map_left fun x _ y hxy => Zyj hH hE hA hF hxy


theorem Zif (e : Emb) (L : Blk) : (Zco e L).length = L.cells.length := by unfold Zco; split <;> simp

structure KindA (mc m' : MapM) (H H' : List Blk) (e : Emb) (σ σ' : List Blk) (nid b : Nat) (r : Reg) (i : Nat) (L' : Blk) : Prop where
  loc : ∃ r', m' i = some r' ∧ r.g = r'.g ∧ r.lo = r'.lo ∧ r.hi = r'.hi ∧ r.len = r'.len ∧ r'.wr = true
  wr : r.wr = true
  blk : σ'[i]? = some L'
  here : ∃ x, H'[b]? = some x ∧ x.cells = Zco (Zfl e nid (σ'.length - σ.length)) L' ∧ x.pur = L'.pur ∧ 0 < x.sz ∧ r.wr = x.wr ∧ r.fix = x.fix ∧ r.len = x.cells.length ∧ r.sz = x.sz ∧ r.mv = x.mv
  idx : (σ.length ≤ i ∧ b = nid + (i - σ.length)) ∨ (∃ (sh : Nat) (L : Blk), e[i]? = some (some (b, sh)) ∧ σ[i]? = some L ∧ L.wr = true)
  old : (∃ r', m' i = some r' ∧ r = r') ∨ mc b = some r

def Zg6 (e : Emb) (σ : List Blk) (b : Nat) : Prop := ∀ (i sh : Nat) (L : Blk), e[i]? = some (some (b, sh)) → σ[i]? = some L → L.wr = false

theorem Zmm (hH : HRel G mc H w) (hE : EmbOK H e σ) (hA : After H H' e σ σ' nid) (h' : HRel G m' σ' w') (hF : Frame ⟨mE mc e σ, w, []⟩ m' w') {b : Nat} {r : Reg} (h : mB mc m' e σ σ' nid b = some r) :
  (∃ i L', KindA mc m' H H' e σ σ' nid b r i L') ∨ (mc b = some r ∧ H'[b]? = H[b]? ∧ Zg6 e σ b) := by
 rcases Zur hE hA h with ⟨k, hk, rfl, hr⟩ | ⟨i, hmv, hr⟩ | ⟨h1, h2, hr⟩
 ·left
  obtain ⟨L', g1, g2, g3, g4, g5, g6, g7⟩ := h'.reg _ r hr
  have hw := hA.wrs _ L' (by omega) g1
  refine ⟨σ.length + k, L', ⟨⟨r, hr, rfl, rfl, rfl, rfl, by rw [g3]; exact hw⟩, by rw [g3]; exact hw, g1, ⟨_, hA.new k L' g1, rfl, rfl, g2, g3, g4, by simp only; rw [Zif]; exact g5, g6, g7⟩, .inl ⟨by omega, by omega⟩, .inl ⟨r, hr, rfl⟩⟩⟩
 ·left
  obtain ⟨sh, L, a1, a2, a3, a4⟩ := hmv
  obtain ⟨L', g1, g2, g3, g4, g5, g6, g7⟩ := h'.reg _ r hr
  obtain ⟨f1, f2, f3, f4, f5⟩ := hA.flags i L L' a2 g1
  obtain ⟨B, hB, hsz, hfx, hfs, hpu, hle, hw, hc⟩ := hE.one i _ L a1 a2
  obtain ⟨b1, b2, b3, b4, b5, b6⟩ := hw a3
  refine ⟨i, L', ⟨⟨r, hr, rfl, rfl, rfl, rfl, by rw [g3, f1]; exact a3⟩, by rw [g3, f1]; exact a3, g1, ⟨_, hA.rep i b sh L L' B a1 a2 g1 a3 hB, rfl, by simp only; rw [f5, b5], hsz.2.1, by simp only; rw [g3, f1, a3, b1], by simp only; rw [g4, f2, hfx], by simp only; rw [Zif]; exact g5, by simp only; rw [g6, f4, b3], by simp only; rw [g7, f3, a4, b4 a4]⟩, .inr ⟨sh, L, a1, a2, a3⟩, .inl ⟨r, hr, rfl⟩⟩⟩
 ·by_cases hex : ∃ (i sh : Nat) (L : Blk), e[i]? = some (some (b, sh)) ∧ σ[i]? = some L ∧ L.wr = true
  ·left
   obtain ⟨i, sh, L, a1, a2, a3⟩ := hex
   have a4 : L.mv = false := by
    cases hm : L.mv with
    | false => rfl
    | true => exact absurd ⟨i, sh, L, a1, a2, a3, hm⟩ h2
   obtain ⟨B, hB, hsz, hfx, hfs, hpu, hle, hw, hc⟩ := hE.one i _ L a1 a2
   obtain ⟨b1, b2, b3, b4, b5, b6⟩ := hw a3
   subst b2
   obtain ⟨_, hrw, hrf, hrl, hrs, hrm⟩ := hH.at_ hB hr
   have hk : m' i = some { r with mv := L.mv } := hF.keep i _ (by show mE mc e σ i = _; rw [Zk0 a1 a2, hr]; simp [Zc4, a3]) (.inr (by simp only; exact a4))
   obtain ⟨L', g1, g2, g3, g4, g5, g6, g7⟩ := h'.reg _ _ hk
   obtain ⟨f1, f2, f3, f4, f5⟩ := hA.flags i L L' a2 g1
   refine ⟨i, L', ⟨⟨_, hk, rfl, rfl, rfl, rfl, by simp only; rw [hrw]; exact b1⟩, by rw [hrw]; exact b1, g1, ⟨_, hA.rep i b 0 L L' B a1 a2 g1 a3 hB, rfl, by simp only; rw [f5, b5], hsz.2.1, hrw, hrf, by simp only; rw [Zif]; exact g5, hrs, hrm⟩, .inr ⟨0, L, a1, a2, a3⟩, .inr hr⟩⟩
  ·right
   have hun : Zg6 e σ b := fun i sh L h3 h4 => by
    cases hw : L.wr with
    | false => rfl
    | true => exact absurd ⟨i, sh, L, h3, h4, hw⟩ hex
   exact ⟨hr, hA.same b h1 hun, hun⟩

theorem Z5n (hH : HRel G mc H w) (hE : EmbOK H e σ) (hF : Frame ⟨mE mc e σ, w, []⟩ m' w') {b : Nat} {r : Reg} (hr : mc b = some r) (hu : Zg6 e σ b) {j : Nat} (h1 : r.lo ≤ j) (h2 : j < r.ext) :
    w'.cell? ⟨r.g, j, none⟩ = w.cell? ⟨r.g, j, none⟩ ∧ w'.frozen? ⟨r.g, j, none⟩ = w.frozen? ⟨r.g, j, none⟩ := by
  obtain ⟨v, hv⟩ := hH.there hr h1 h2
  obtain ⟨c, t, fr, hc⟩ := Zph hv
  obtain ⟨o', ho', hfo⟩ := hF.block r.g _ hc
  have hnw : ¬ Zk9 (mE mc e σ) r.g j := by
    intro hw
    obtain ⟨i, id, sh, L, r0, a1, a2, a3, a4, a5, a6, a7, a8⟩ := hw.embed hH hE
    have hne : id ≠ b := by
      rintro rfl
      have := hu i sh L a1 a2
      rw [a3] at this; cases this
    exact hH.dis id b r0 r hne a4 hr a5 a6 j a7 a8 h1 h2
  rcases hfo with rfl | ⟨c1, t1, fr1, c', he, rfl, hs, hcells⟩
  · exact ⟨World.cell?_of_block (w := w) (by rw [ho', hc]), World.frozen?_of_block (w := w) (by rw [ho', hc])⟩
  · injection he with e1 e2 e3
    subst e1; subst e2; subst e3
    refine ⟨?_, ?_⟩
    · rw [cell_of_row _ _ _ _ _ _ ho', cell_of_row _ _ _ _ _ _ hc]; exact hcells j hnw
    · simp only [World.frozen?, ho', hc]

theorem Zza (hH : HRel G mc H w) (hFE : Frame E mc w) (hE : EmbOK H e σ) (hA : After H H' e σ σ' nid) (h' : HRel G m' σ' w') (hF : Frame ⟨mE mc e σ, w, []⟩ m' w')
    {p : Nat → Bool} (hp : ∀ b, p b = true → ¬ ∃ i, Zgk e σ i b) (hN : ∀ (i : Nat) (x : Blk), H[i]? = some x → Zg6 e σ i → ∀ v, v ∈ x.cells → Za9 p v = true) : HRel G (mB mc m' e σ σ' nid) H' w' ∧ Frame E (mB mc m' e σ σ' nid) w' ∧
      ∀ b r, p b = true → mc b = some r → mB mc m' e σ σ' nid b = some r := by
  have hmono : ∀ b r, p b = true → mc b = some r → mB mc m' e σ σ' nid b = some r := by
    intro b r hpb hr
    rw [Zkc ?_ (hp b hpb)]
    · exact hr
    · rintro k hk rfl
      obtain ⟨x, hx, hx0⟩ := hA.holes k hk
      have := hH.hole hx hx0
      rw [this] at hr; cases hr
  -- an A-region's cell is not one of an untouched block
  have hAB : ∀ (b : Nat) (r : Reg) (i : Nat) (L' : Blk), KindA mc m' H H' e σ σ' nid b r i L' → ∀ (b' : Nat) (r1 : Reg), mc b' = some r1 → Zg6 e σ b' → b ≠ b' → r.g = r1.g → ∀ j, r.lo ≤ j → j < r.hi → r1.lo ≤ j → ¬ j < r1.ext := by
    intro b r i L' hk b' r1 hr1 hu hne hg j h1 h2 h3 h4
    rcases hk.old with ⟨r', hr', rfl⟩ | hmc
    · rcases hF.reg i r hr' hk.wr (by omega) with hfr | hwr
      · obtain ⟨v, hv⟩ := hH.there hr1 h3 h4
        have := Zo0 hv
        simp only at hfr
        omega
      · obtain ⟨i2, id, sh, L, r0, a1, a2, a3, a4, a5, a6, a7, a8⟩ := (hwr j h1 h2).embed hH hE
        have hne2 : id ≠ b' := by
          rintro rfl
          have := hu i2 sh L a1 a2
          rw [a3] at this; cases this
        exact hH.dis id b' r0 r1 hne2 a4 hr1 a5 (a6.trans hg) j a7 a8 h3 h4
    · exact hH.dis b b' r r1 hne hmc hr1 hk.wr hg j h1 h2 h3 h4
  have hidx : ∀ (b b' : Nat) (r r1 : Reg) (i i' : Nat) (L L' : Blk), KindA mc m' H H' e σ σ' nid b r i L → KindA mc m' H H' e σ σ' nid b' r1 i' L' → b ≠ b' → i ≠ i' := by
    rintro b b' r r1 i i' L L' hk hk' hne rfl
    rcases hk.idx with ⟨a1, a2⟩ | ⟨sh, L1, a1, a2, _⟩
    · rcases hk'.idx with ⟨b1, b2⟩ | ⟨sh', L2, b1, b2, _⟩
      · omega
      · have := (List.getElem?_eq_some_iff.1 b2).1; omega
    · rcases hk'.idx with ⟨b1, b2⟩ | ⟨sh', L2, b1, b2, _⟩
      · have := (List.getElem?_eq_some_iff.1 a2).1; omega
      · rw [a1] at b1; injection b1 with b1; injection b1 with b1; injection b1 with b1 _; exact hne b1
  refine ⟨⟨?_, ?_, ?_, ?_, ?_, ?_, ?_, ?_, ?_⟩, ?_, hmono⟩
  · intro b r hr
    rcases Zmm hH hE hA h' hF hr with ⟨i, L', hk⟩ | ⟨hr, hb, hu⟩
    · obtain ⟨x, h1, _, _, h4, h5, h6, h7, h8, h9⟩ := hk.here
      exact ⟨x, h1, h4, h5, h6, h7, h8, h9⟩
    · obtain ⟨B, h1⟩ := hH.reg b r hr
      exact ⟨B, by rw [hb]; exact h1.1, h1.2⟩
  · intro b x hx hsz
    by_cases hnew : ∃ k, k < σ'.length - σ.length ∧ b = nid + k
    · obtain ⟨k, hk, rfl⟩ := hnew
      have hlt : σ.length + k < σ'.length := by omega
      have hL : σ'[σ.length + k]? = some σ'[σ.length + k] := by simp [hlt]
      have := hA.new k _ hL
      rw [hx] at this; injection this with this
      obtain ⟨r, hr⟩ := h'.live _ _ hL (by rw [this] at hsz; exact hsz)
      exact ⟨r, by rw [Zw0 hk]; exact hr⟩
    · have hno : ∀ k, k < σ'.length - σ.length → b ≠ nid + k := fun k hk he => hnew ⟨k, hk, he⟩
      by_cases hmv : ∃ i, Zgk e σ i b
      · obtain ⟨i, hi⟩ := hmv
        rw [Zp1 hE hA hi]
        obtain ⟨sh, L, a1, a2, a3, a4⟩ := hi
        have hlt : i < σ'.length := by have := (List.getElem?_eq_some_iff.1 a2).1; have := hA.len; omega
        have hL : σ'[i]? = some σ'[i] := by simp [hlt]
        obtain ⟨_, _, _, f4, _⟩ := hA.flags i L _ a2 hL
        obtain ⟨B, hB, hsz2, _⟩ := hE.one i _ L a1 a2
        exact h'.live i _ hL (by rw [f4]; exact hsz2.1)
      · rw [Zkc hno hmv]
        have hb : b < H.length := by have := (List.getElem?_eq_some_iff.1 hx).1; rw [hA.hlen] at this; exact this
        have hB : H[b]? = some H[b] := by simp [hb]
        by_cases hex : ∃ (i sh : Nat) (L : Blk), e[i]? = some (some (b, sh)) ∧ σ[i]? = some L ∧ L.wr = true
        · obtain ⟨i, sh, L, a1, a2, a3⟩ := hex
          obtain ⟨B, hB', hsz2, _⟩ := hE.one i _ L a1 a2
          exact hH.live b B hB' hsz2.2.1
        · have := hA.same b hno (fun i sh L h3 h4 => by
            cases hw : L.wr with
            | false => rfl
            | true => exact absurd ⟨i, sh, L, h3, h4, hw⟩ hex)
          rw [this] at hx
          exact hH.live b x hx hsz
  · intro b x r j v hx hr hv
    rcases Zmm hH hE hA h' hF hr with ⟨i, L', hk⟩ | ⟨hr1, hb, hu⟩
    · obtain ⟨x', h1, h2, h3, _⟩ := hk.here
      rw [hx] at h1; injection h1 with h1; subst h1
      obtain ⟨r', hr', g1, g2, g3, g4, g5⟩ := hk.loc
      rw [h2] at hv
      unfold Zco at hv
      rw [g1, g2]
      by_cases hpu : L'.pur = true
      · rw [if_pos hpu] at hv
        obtain ⟨v', f1, f2⟩ := h'.cell i L' r' j v hk.blk hr' hv
        have hpv := h'.pur i L' hk.blk hpu v (List.mem_of_getElem? hv)
        exact ⟨v', f1, by rw [f2.pure hpv]; exact CR.of_pure hpv⟩
      · rw [if_neg hpu, List.getElem?_map] at hv
        simp only [Option.map_eq_some_iff] at hv
        obtain ⟨u, hu1, rfl⟩ := hv
        obtain ⟨v', f1, f2⟩ := h'.cell i L' r' j u hk.blk hr' hu1
        exact ⟨v', f1, Zwo hH hE hA hF f2⟩
    · rw [hb] at hx
      obtain ⟨v', f1, f2⟩ := hH.cell b x r j v hx hr1 hv
      obtain ⟨_, _, _, hl, _⟩ := hH.at_ hx hr1
      have hj : j < x.cells.length := (List.getElem?_eq_some_iff.1 hv).1
      have hext : r.lo + j < r.ext := by
        unfold Reg.ext
        split
        · rename_i hw; have := (hH.own b r hr1 hw).1; omega
        · omega
      exact ⟨v', by rw [(Z5n hH hE hF hr1 hu (by omega) hext).1]; exact f1, f2.congr hmono (hN b x hx hu v (List.mem_of_getElem? hv))⟩
  · intro b x hx hpu v hv
    by_cases hnew : ∃ k, k < σ'.length - σ.length ∧ b = nid + k
    · obtain ⟨k, hk, rfl⟩ := hnew
      have hlt : σ.length + k < σ'.length := by omega
      have hL : σ'[σ.length + k]? = some σ'[σ.length + k] := by simp [hlt]
      have := hA.new k _ hL
      rw [hx] at this; injection this with this
      subst this
      simp only at hpu hv
      unfold Zco at hv
      rw [if_pos hpu] at hv
      exact h'.pur _ _ hL hpu v hv
    · have hno : ∀ k, k < σ'.length - σ.length → b ≠ nid + k := fun k hk he => hnew ⟨k, hk, he⟩
      by_cases hex : ∃ (i sh : Nat) (L : Blk), e[i]? = some (some (b, sh)) ∧ σ[i]? = some L ∧ L.wr = true
      · obtain ⟨i, sh, L, a1, a2, a3⟩ := hex
        have hlt : i < σ'.length := by have := (List.getElem?_eq_some_iff.1 a2).1; have := hA.len; omega
        have hL : σ'[i]? = some σ'[i] := by simp [hlt]
        obtain ⟨B, hB, hsz, hfx, hfs, hpu', hle, hw, hc⟩ := hE.one i _ L a1 a2
        have := hA.rep i b sh L _ B a1 a2 hL a3 hB
        rw [hx] at this; injection this with this
        subst this
        simp only at hpu hv
        obtain ⟨_, _, _, _, f5⟩ := hA.flags i L _ a2 hL
        have hpL : σ'[i].pur = true := by rw [f5, (hw a3).2.2.2.2.1]; exact hpu
        unfold Zco at hv
        rw [if_pos hpL] at hv
        exact h'.pur _ _ hL hpL v hv
      · rw [hA.same b hno (fun i sh L h3 h4 => by
            cases hw : L.wr with
            | false => rfl
            | true => exact absurd ⟨i, sh, L, h3, h4, hw⟩ hex)] at hx
        exact hH.pur b x hx hpu v hv
  · intro b r hr hw
    rcases Zmm hH hE hA h' hF hr with ⟨i, L', hk⟩ | ⟨hr1, hb, hu⟩
    · obtain ⟨r', hr', g1, g2, g3, g4, g5⟩ := hk.loc
      have := h'.own i r' hr' g5
      rw [g1, g2, g3, g4]; exact this
    · obtain ⟨f1, f2⟩ := hH.own b r hr1 hw
      refine ⟨f1, fun j h1 h2 => ?_⟩
      obtain ⟨v, f3, f4⟩ := f2 j h1 h2
      obtain ⟨s1, s2⟩ := Z5n hH hE hF hr1 hu h1 (by simp [Reg.ext, hw]; exact h2)
      exact ⟨v, by rw [s1]; exact f3, by rw [s2]; exact f4⟩
  · intro b r hr hw hs1 hlh
    rcases Zmm hH hE hA h' hF hr with ⟨i, L', hk⟩ | ⟨hr1, hb, hu⟩
    · obtain ⟨r', hr', g1, g2, g3, g4, g5⟩ := hk.loc
      rcases hk.old with ⟨r2, k1, rfl⟩ | k1
      · exact h'.clean i _ k1 hw hs1 hlh
      · obtain ⟨c, t, k2⟩ := hH.clean b r k1 hw hs1 hlh
        obtain ⟨o', k3, k4⟩ := hF.block _ _ k2
        rcases k4 with rfl | ⟨c0, t0, fr0, c', k5, rfl, _⟩
        · exact ⟨c, t, k3⟩
        · injection k5 with k5 k6 k7; subst k6; subst k7; exact ⟨c', _, k3⟩
    · obtain ⟨c, t, k2⟩ := hH.clean b r hr1 hw hs1 hlh
      obtain ⟨o', k3, k4⟩ := hF.block _ _ k2
      rcases k4 with rfl | ⟨c0, t0, fr0, c', k5, rfl, _⟩
      · exact ⟨c, t, k3⟩
      · injection k5 with k5 k6 k7; subst k6; subst k7; exact ⟨c', _, k3⟩
  · intro b b' r r1 hne hr hr' hw hg j h1 h2 h3 h4
    rcases Zmm hH hE hA h' hF hr with ⟨i, L', hk⟩ | ⟨hr1, hb, hu⟩
    · rcases Zmm hH hE hA h' hF hr' with ⟨i', L1, hk'⟩ | ⟨hr1', hb', hu'⟩
      · obtain ⟨q, hq, g1, g2, g3, g4, g5⟩ := hk.loc
        obtain ⟨q', hq', g1', g2', g3', g4', g5'⟩ := hk'.loc
        have hext : r1.ext = q'.ext := by unfold Reg.ext; rw [hk'.wr, g5']; simp [g3']
        exact h'.dis i i' q q' (hidx _ _ _ _ _ _ _ _ hk hk' hne) hq hq' g5 (by rw [← g1, ← g1']; exact hg) j (by omega) (by omega) (by omega) (by rw [← hext]; exact h4)
      · exact hAB b r i L' hk b' r1 hr1' hu' hne hg j h1 h2 h3 h4
    · rcases Zmm hH hE hA h' hF hr' with ⟨i', L1, hk'⟩ | ⟨hr1', hb', hu'⟩
      · have hh : j < r1.hi := by simpa [Reg.ext, hk'.wr] using h4
        exact hAB b' r1 i' L1 hk' b r hr1 hu (fun e => hne e.symm) hg.symm j h3 hh h1 (by simp [Reg.ext, hw]; exact h2)
      · exact hH.dis b b' r r1 hne hr1 hr1' hw hg j h1 h2 h3 h4
  · intro g cs hg
    obtain ⟨h1, h2⟩ := hH.glob g cs hg
    refine ⟨Nat.lt_of_lt_of_le h1 hF.size, fun j v hj => ⟨?_, (h2 j v hj).2⟩⟩
    obtain ⟨hv, _⟩ := h2 j v hj
    obtain ⟨c, t, fr, hc⟩ := Zph hv
    obtain ⟨o', ho', hfo⟩ := hF.block g _ hc
    have hnw : ¬ Zk9 (mE mc e σ) g j := by
      intro hw
      obtain ⟨i, id, sh, L, r0, a1, a2, a3, a4, a5, a6, a7, a8⟩ := hw.embed hH hE
      have := hH.gwr id r0 j a4 a5 a7 a8
      rw [a6, hg] at this; cases this
    rcases hfo with rfl | ⟨c1, t1, fr1, c', he, rfl, hs, hcells⟩
    · rw [World.cell?_of_block (w := w) (by rw [ho', hc])]; exact hv
    · injection he with e1 e2 e3
      subst e1; subst e2; subst e3
      rw [cell_of_row _ _ _ _ _ _ ho', hcells j hnw, ← cell_of_row _ _ _ _ _ _ hc]; exact hv
  · intro b r j hr hw h1 h2
    rcases Zmm hH hE hA h' hF hr with ⟨i, L', hk⟩ | ⟨hr1, hb, hu⟩
    · obtain ⟨q, hq, g1, g2, g3, g4, g5⟩ := hk.loc
      have := h'.gwr i q j hq g5 (by omega) (by omega)
      rw [g1]; exact this
    · exact hH.gwr b r j hr1 hw h1 h2
  · refine hFE.trans hF (fun g j hw => ?_) (fun b r hr hw => ?_) (fun b r hr hk => ?_)
    · obtain ⟨i, id, sh, L, r0, a1, a2, a3, a4, a5, a6, a7, a8⟩ := hw.embed hH hE
      exact ⟨id, r0, a4, a5, a6, a7, a8⟩
    · rcases Zur hE hA hr with ⟨k, hk, _, hq⟩ | ⟨i, hmv, hq⟩ | ⟨h1, h2, hq⟩
      · exact .inr ⟨_, hq⟩
      · exact .inr ⟨_, hq⟩
      · exact .inl hq
    · have h1 := hFE.keep b r hr hk
      rw [Zkc]
      · exact h1
      · rintro k hk' rfl
        obtain ⟨x, hx, hx0⟩ := hA.holes k hk'
        rw [hH.hole hx hx0] at h1; cases h1
      · rintro ⟨i, sh, L, a1, a2, a3, a4⟩
        obtain ⟨B, hB, hsz, hfx, hfs, hpu, hle, hw, hc⟩ := hE.one i _ L a1 a2
        obtain ⟨b1, b2, b3, b4, b5, b6⟩ := hw a3
        obtain ⟨_, hrw, _, _, _, hrm⟩ := hH.at_ hB h1
        rcases hk with hk | hk
        · rw [hrw, b1] at hk; cases hk
        · rw [hrm, b4 a4] at hk; cases hk
end
end Go.Flat
end
section
/- The rule for calls. -/
namespace Go.Flat

def Zc6 (P : Program) (k : FuncId) : Bool := match P.funcs[k]? with | some fn => fn.name != "runtime.NumGoroutine" && fn.body.isSome | none => false
theorem Zjq {P : Program} {k : FuncId} (h : Zc6 P k = true) (args : Array Value) (w : World) : (callFunc k args).run P w = .ok (.enter k args) w := by
  unfold Zc6 at h
  cases hf : P.funcs[k]? with
  | none => rw [hf] at h; cases h
  | some fn =>
    rw [hf] at h
    simp only [Bool.and_eq_true, bne_iff_ne, ne_eq] at h
    obtain ⟨h1, h3⟩ := h
    cases hb : fn.body with
    | none => rw [hb] at h3; cases h3
    | some c => simp [callFunc, hf, h1, hb]

theorem Zns {P : Program} {o : Oper} {ρ : Operand → Value} {f : Operand} {args : Array Operand} {ts : Array TypeId} {k : FuncId} {first captured : Array Value} (ho : o.op = .call { callee := .value f, args := args, argTypes := ts })
  (hf : ρ f = .func (.func k) first captured) (hk : Zc6 P k = true) (w : World) : (execOp ρ o).run P w = .ok (.enter k (first ++ args.map ρ ++ captured)) w := by
 simp only [execOp, ho, resolve, hf, Deferred.ofValue, Sem.run_bind, Sem.run_pure, Result.andThen_ok, invoke]
 exact Zjq hk _ w


def Zdp (H : List Blk) (e : Emb) (p : Option (Nat × Nat)) (L : Blk) : Prop :=
  match p with
  | none => L.wr = false ∧ L.cells = [] ∧ 0 < L.sz
  | some (id, sh) => match H[id]? with
    | none => False
    | some B => (0 < L.sz ∧ 0 < B.sz ∧ (B.fix = true → B.mv = false)) ∧ L.fix = B.fix ∧ (L.fix = false → L.sz = B.sz) ∧ (L.pur = true → B.pur = true) ∧ sh + L.cells.length ≤ B.cells.length ∧
      (L.wr = true → B.wr = true ∧ sh = 0 ∧ L.sz = B.sz ∧ (L.mv = true → B.mv = true) ∧ L.pur = B.pur ∧ L.cells.length = B.cells.length) ∧
      (B.cells.drop sh).take L.cells.length = Zco e L
def Zii (H : List Blk) (e : Emb) : Emb → List Blk → Prop
  | [], [] => True
  | p :: ps, L :: Ls => Zdp H e p L ∧ Zii H e ps Ls
  | _, _ => False

theorem Zlf {H : List Blk} {e : Emb} {p : Option (Nat × Nat)} {L : Blk} (h : Zdp H e p L) : Zsp H e p L := by
 unfold Zdp at h
 unfold Zsp
 split at h
 ·exact h
 ·split at h
  ·cases h
  ·rename_i B hB; exact ⟨B, hB, h⟩
theorem Zg1 {H : List Blk} {e : Emb} : ∀ {ps : Emb} {Ls : List Blk}, Zii H e ps Ls → ps.length = Ls.length ∧ ∀ (i : Nat) (p : Option (Nat × Nat)) (L : Blk), ps[i]? = some p → Ls[i]? = some L → Zsp H e p L
 | [], [], _ => ⟨rfl, by simp⟩
 | p :: ps, L :: Ls, h => by
  obtain ⟨h1, h2⟩ := Zg1 h.2
  refine ⟨by simp [h1], fun i q M hq hM => ?_⟩
  cases i with
  | zero => simp at hq hM; subst hq; subst hM; exact Zlf h.1
  | succ i => exact h2 i q M (by simpa using hq) (by simpa using hM)
 | [], _ :: _, h => h.elim
 | _ :: _, [], h => h.elim

def Zrj (e : Emb) : List Nat := e.filterMap fun p => p.map (·.1)
def Zj6 (e : Emb) (σ : List Blk) : Bool :=
  (e.zip σ).zipIdx.all fun p => !p.1.2.wr || e.zipIdx.all fun q => q.2 == p.2 || q.1.map (·.1) != p.1.1.map (·.1)
def Zbp (e : Emb) (σ : List Blk) : List Nat := (e.zip σ).filterMap fun p => if p.2.wr && p.2.mv then p.1.map (·.1) else none
def Zic (H : List Blk) (σ σ' : List Blk) (nid : Nat) : Bool :=
  decide (σ.length ≤ σ'.length) && ((σ.zip σ').all fun p => p.2.wr == p.1.wr && p.2.fix == p.1.fix && p.2.mv == p.1.mv && p.2.sz == p.1.sz && p.2.pur == p.1.pur) && ((σ'.drop σ.length).all fun L => L.wr) &&
  ((List.range (σ'.length - σ.length)).all fun k => match H[nid + k]? with | some x => x.sz == 0 | none => false)
def Zg4 (e : Emb) (σ : List Blk) : Bool := σ.all fun L => L.pur || L.cells.all (Za9 (inE e))
def Zcn (H : List Blk) (e : Emb) (σ σ' : List Blk) (nid : Nat) : List (Nat × Blk) :=
  ((e.zip (σ.zip σ')).filterMap fun p => match p.1 with
    | some (id, _) => if p.2.1.wr then (H[id]?).map fun B => (id, { B with cells := Zco (Zfl e nid (σ'.length - σ.length)) p.2.2 }) else none
    | none => none) ++
  ((σ'.drop σ.length).zipIdx.map fun p => (nid + p.2, { p.1 with cells := Zco (Zfl e nid (σ'.length - σ.length)) p.1 }))

theorem Zjf {b : Nat} {x : Blk} : ∀ (l : List (Nat × Blk)) (y : Blk), (∃ q, q ∈ l ∧ q.1 = b) → (∀ q, q ∈ l → q.1 = b → q.2 = x) → l.foldl (fun x p => if p.1 = b then p.2 else x) y = x
  | [], y, h, _ => by obtain ⟨q, hq, _⟩ := h; cases hq
  | q :: l, y, h, hu => by
    rw [List.foldl_cons]
    by_cases hl : ∃ q', q' ∈ l ∧ q'.1 = b
    · exact Zjf l _ hl fun q' hq' => hu q' (by simp [hq'])
    · rw [Zcp l _ fun p hp e => hl ⟨p, hp, e⟩]
      obtain ⟨q', hq', he⟩ := h
      rcases List.mem_cons.1 hq' with rfl | hq'
      · rw [if_pos he]; exact hu _ (by simp) he
      · exact absurd ⟨q', hq', he⟩ hl

theorem Zsm {H : List Blk} {e : Emb} {σ : List Blk} (h : Zj6 e σ = true) : ∀ (i j : Nat) (id sh sh' : Nat) (L : Blk), i ≠ j → e[i]? = some (some (id, sh)) → σ[i]? = some L → L.wr = true → e[j]? ≠ some (some (id, sh')) := by
 intro i j id sh sh' L hij h1 h2 hw h3
 simp only [Zj6, List.all_eq_true] at h
 have h4 := h ((some (id, sh), L), i) (by rw [List.mem_iff_getElem?]; exact ⟨i, by simp [List.getElem?_zipIdx, List.getElem?_zip_eq_some, h1, h2]⟩)
 simp only [hw, Bool.not_true, Bool.false_or, List.all_eq_true] at h4
 have h5 := h4 (some (id, sh'), j) (by rw [List.mem_iff_getElem?]; exact ⟨j, by simp [List.getElem?_zipIdx, h3]⟩)
 simp at h5
 exact hij h5.symm

theorem Z0u {H : List Blk} {e : Emb} {σ σ' : List Blk} {nid : Nat} (hE : EmbOK H e σ) (hs : Zic H σ σ' nid = true) : After H (Zd7 H (Zcn H e σ σ' nid)) e σ σ' nid ∧ (∀ p, p ∈ Zcn H e σ σ' nid → p.1 < H.length) := by
  simp only [Zic, Bool.and_eq_true, decide_eq_true_eq, List.all_eq_true] at hs
  obtain ⟨⟨⟨hlen, hfl⟩, hwr⟩, hho⟩ := hs
  have hflags : ∀ (i : Nat) (L L' : Blk), σ[i]? = some L → σ'[i]? = some L' → L'.wr = L.wr ∧ L'.fix = L.fix ∧ L'.mv = L.mv ∧ L'.sz = L.sz ∧ L'.pur = L.pur := by
    intro i L L' h1 h2
    have := hfl (L, L') (by rw [List.mem_iff_getElem?]; exact ⟨i, by simp [List.getElem?_zip_eq_some, h1, h2]⟩)
    simp only [beq_iff_eq] at this
    exact ⟨this.1.1.1.1, this.1.1.1.2, this.1.1.2, this.1.2, this.2⟩
  have hholes : ∀ k, k < σ'.length - σ.length → ∃ x, H[nid + k]? = some x ∧ x.sz = 0 := by
    intro k hk
    have := hho k (by simpa using hk)
    split at this
    · rename_i x hx; exact ⟨x, hx, by simpa using this⟩
    · cases this
  -- the two Zmm of what is set
  have hmem : ∀ q, q ∈ Zcn H e σ σ' nid → (∃ (i id sh : Nat) (L L' B : Blk), e[i]? = some (some (id, sh)) ∧ σ[i]? = some L ∧ σ'[i]? = some L' ∧ L.wr = true ∧ H[id]? = some B ∧ q = (id, { B with cells := Zco (Zfl e nid (σ'.length - σ.length)) L' })) ∨
      (∃ (k : Nat) (L : Blk), σ'[σ.length + k]? = some L ∧ q = (nid + k, { L with cells := Zco (Zfl e nid (σ'.length - σ.length)) L })) := by
    intro q hq
    unfold Zcn at hq
    rcases List.mem_append.1 hq with hq | hq
    · left
      simp only [List.mem_filterMap] at hq
      obtain ⟨⟨p, L, L'⟩, hp, hq⟩ := hq
      obtain ⟨i, hi⟩ := List.getElem?_of_mem hp
      rw [List.getElem?_zip_eq_some] at hi
      obtain ⟨hi1, hi2⟩ := hi
      rw [List.getElem?_zip_eq_some] at hi2
      obtain ⟨hi2, hi3⟩ := hi2
      cases p with
      | none => simp at hq
      | some p =>
        obtain ⟨id, sh⟩ := p
        simp only at hq
        split at hq
        · rename_i hw
          simp only [Option.map_eq_some_iff] at hq
          obtain ⟨B, hB, rfl⟩ := hq
          exact ⟨i, id, sh, L, L', B, hi1, hi2, hi3, hw, hB, rfl⟩
        · cases hq
    · right
      simp only [List.mem_map] at hq
      obtain ⟨⟨L, k⟩, hp, rfl⟩ := hq
      obtain ⟨i, hi⟩ := List.getElem?_of_mem hp
      simp only [List.getElem?_zipIdx, Option.map_eq_some_iff] at hi
      obtain ⟨L1, hL1, he⟩ := hi
      injection he with he1 he2
      subst he1
      rw [List.getElem?_drop] at hL1
      exact ⟨k, L1, by rw [← he2, Nat.zero_add]; exact hL1, rfl⟩
  have hin : ∀ p, p ∈ Zcn H e σ σ' nid → p.1 < H.length := by
    intro q hq
    rcases hmem q hq with ⟨i, id, sh, L, L', B, h1, h2, h3, h4, h5, rfl⟩ | ⟨k, L, h1, rfl⟩
    · exact (List.getElem?_eq_some_iff.1 h5).1
    · have hk : σ.length + k < σ'.length := (List.getElem?_eq_some_iff.1 h1).1
      obtain ⟨x, hx, _⟩ := hholes k (by omega)
      exact (List.getElem?_eq_some_iff.1 hx).1
  have hget := Zhb (Zcn H e σ σ' nid) H hin
  refine ⟨⟨hlen, Zg5 _ _ hin, hflags, ?_, hholes, ?_, ?_, ?_⟩, hin⟩
  · intro i L hi hL
    exact hwr L (by rw [List.mem_iff_getElem?]; exact ⟨i - σ.length, by rw [List.getElem?_drop, show σ.length + (i - σ.length) = i from by omega]; exact hL⟩)
  · intro k L hL
    have hk : σ.length + k < σ'.length := (List.getElem?_eq_some_iff.1 hL).1
    obtain ⟨x, hx, hx0⟩ := hholes k (by omega)
    rw [hget, hx, Option.map_some]
    congr 1
    refine Zjf _ x ⟨(nid + k, { L with cells := Zco (Zfl e nid (σ'.length - σ.length)) L }), ?_, rfl⟩ ?_
    · unfold Zcn
      refine List.mem_append_right _ (List.mem_map.2 ⟨(L, k), ?_, rfl⟩)
      rw [List.mem_iff_getElem?]
      exact ⟨k, by simp [List.getElem?_zipIdx, List.getElem?_drop, hL]⟩
    · intro q hq he
      rcases hmem q hq with ⟨i, id, sh, L1, L', B, h1, h2, h3, h4, h5, rfl⟩ | ⟨k', L1, h1, rfl⟩
      · simp only at he
        subst he
        rw [hx] at h5; injection h5 with h5; subst h5
        obtain ⟨B, hB, hsz, _⟩ := hE.one i _ L1 h1 h2
        rw [hx] at hB; injection hB with hB; subst hB
        have := hsz.2.1; omega
      · simp only at he
        have : k' = k := by omega
        subst this
        rw [hL] at h1; injection h1 with h1; subst h1; rfl
  · intro i id sh L L' B h1 h2 h3 h4 h5
    rw [hget, h5, Option.map_some]
    congr 1
    refine Zjf _ B ⟨(id, { B with cells := Zco (Zfl e nid (σ'.length - σ.length)) L' }), ?_, rfl⟩ ?_
    · unfold Zcn
      refine List.mem_append_left _ (List.mem_filterMap.2 ⟨(some (id, sh), L, L'), ?_, ?_⟩)
      · rw [List.mem_iff_getElem?]
        exact ⟨i, by rw [List.getElem?_zip_eq_some]; exact ⟨h1, by rw [List.getElem?_zip_eq_some]; exact ⟨h2, h3⟩⟩⟩
      · simp [h4, h5]
    · intro q hq he
      rcases hmem q hq with ⟨i', id', sh', L1, L1', B', g1, g2, g3, g4, g5, rfl⟩ | ⟨k', L1, g1, rfl⟩
      · simp only at he
        subst he
        by_cases hii : i = i'
        · subst hii
          rw [h3] at g3; injection g3 with g3; subst g3
          rw [h5] at g5; injection g5 with g5; subst g5; rfl
        · exact absurd g1 (hE.dist i i' id' sh sh' L hii h1 h2 h4)
      · simp only at he
        have hk : σ.length + k' < σ'.length := (List.getElem?_eq_some_iff.1 g1).1
        obtain ⟨x, hx, hx0⟩ := hholes k' (by omega)
        rw [he, h5] at hx; injection hx with hx; subst hx
        obtain ⟨B', hB', hsz, _⟩ := hE.one i _ L h1 h2
        rw [h5] at hB'; injection hB' with hB'; subst hB'
        have := hsz.2.1; omega
  · intro b h1 h2
    rw [hget]
    cases hb : H[b]? with
    | none => rfl
    | some y =>
      rw [Option.map_some]
      congr 1
      refine Zcp _ _ fun q hq he => ?_
      rcases hmem q hq with ⟨i, id, sh, L, L', B, g1, g2, g3, g4, g5, rfl⟩ | ⟨k, L, g1, rfl⟩
      · simp only at he; subst he
        have := h2 i sh L g1 g2
        rw [g4] at this; cases this
      · simp only at he
        have hk : σ.length + k < σ'.length := (List.getElem?_eq_some_iff.1 g1).1
        exact h1 k (by omega) he.symm

def Zr5 (e : Emb) (σ : List Blk) : List Nat := (e.zip σ).filterMap fun p => if p.2.wr then p.1.map (·.1) else none
def killX (k : Option Nat) (e : Emb) (σ : List Blk) (H : List Blk) : List Blk := match k with | none => H | some b => H.mapIdx fun i x => if (Zr5 e σ).contains i then x else Zce (· != b) x
theorem Zeq (k : Option Nat) (e : Emb) (σ : List Blk) (H : List Blk) (b : Nat) : (killX k e σ H)[b]? = (H[b]?).map fun x => match k with | none => x | some q => if (Zr5 e σ).contains b then x else Zce (· != q) x := by
  cases k with
  | none => simp [killX]
  | some q => simp [killX, List.getElem?_mapIdx]
theorem Zzk (k : Option Nat) (e : Emb) (σ : List Blk) (H : List Blk) : (killX k e σ H).length = H.length := by cases k <;> simp [killX]
theorem HRel.killX {G : Glob} {m : MapM} {H : List Blk} {w : World} (h : HRel G m H w) (k : Option Nat) (e : Emb) (σ : List Blk) : HRel G m (Flat.killX k e σ H) w := by
  cases k with
  | none => exact h
  | some q =>
    have hk := h.kill (· != q)
    have hg : ∀ b : Nat, (Flat.killX (some q) e σ H)[b]? = H[b]? ∨ (Flat.killX (some q) e σ H)[b]? = (H.map (Zce (· != q)))[b]? := by
      intro b
      rw [Zeq]
      cases hb : H[b]? with
      | none => left; rfl
      | some x =>
        simp only [Option.map_some]
        split
        · left; rfl
        · right; simp [hb]
    refine ⟨?_, ?_, ?_, ?_, h.own, h.clean, h.dis, h.glob, h.gwr⟩
    · intro b r hr
      rcases hg b with hb | hb
      · rw [hb]; exact h.reg b r hr
      · rw [hb]; exact hk.reg b r hr
    · intro b x hx hz
      rcases hg b with hb | hb
      · rw [hb] at hx; exact h.live b x hx hz
      · rw [hb] at hx; exact hk.live b x hx hz
    · intro b x r i v hx hr hv
      rcases hg b with hb | hb
      · rw [hb] at hx; exact h.cell b x r i v hx hr hv
      · rw [hb] at hx; exact hk.cell b x r i v hx hr hv
    · intro b x hx hp
      rcases hg b with hb | hb
      · rw [hb] at hx; exact h.pur b x hx hp
      · rw [hb] at hx; exact hk.pur b x hx hp
theorem Zr6 {e : Emb} {σ : List Blk} {b : Nat} : b ∈ Zr5 e σ ↔ ∃ (i sh : Nat) (L : Blk), e[i]? = some (some (b, sh)) ∧ σ[i]? = some L ∧ L.wr = true := by
 unfold Zr5
 rw [List.mem_filterMap]
 constructor
 ·rintro ⟨⟨p, L⟩, hp, hq⟩
  obtain ⟨i, hi⟩ := List.getElem?_of_mem hp
  rw [List.getElem?_zip_eq_some] at hi
  simp only at hq
  split at hq
  ·rename_i hw
   cases p with
   | none => simp at hq
   | some p => simp at hq; subst hq; exact ⟨i, p.2, L, hi.1, hi.2, hw⟩
  ·cases hq
 ·rintro ⟨i, sh, L, h1, h2, h3⟩
  exact ⟨(some (b, sh), L), by rw [List.mem_iff_getElem?]; exact ⟨i, by rw [List.getElem?_zip_eq_some]; exact ⟨h1, h2⟩⟩, by simp [h3]⟩
def Zh1 (H : List Blk) (e : Emb) (σ : List Blk) (res : Value) (σ' : List Blk) (nid : Nat) : Delta :=
  { val := Zs6 (Zfl e nid (σ'.length - σ.length)) res, sets := Zcn (killX (Zbp e σ).head? e σ H) e σ σ' nid, kill := (Zbp e σ).head?, foot := Zrj e ++ (List.range (σ'.length - σ.length)).map (nid + ·) }

structure CallOK (H : List Blk) (e : Emb) (argsL argsC : List Value) (σ σ' : List Blk) (nid : Nat) : Prop where
  args : Zjs e argsL argsC
  emb : Zii (killX (Zbp e σ).head? e σ H) e e σ
  dist : Zj6 e σ = true
  names : Zg4 e σ = true
  shape : Zic (killX (Zbp e σ).head? e σ H) σ σ' nid = true
  one : (Zbp e σ).length ≤ 1

theorem Zrp {e : Emb} {σ : List Blk} {i b : Nat} (h : Zgk e σ i b) : b ∈ Zbp e σ := by
 obtain ⟨sh, L, h1, h2, h3, h4⟩ := h
 refine List.mem_filterMap.2 ⟨(some (b, sh), L), ?_, by simp [h3, h4]⟩
 rw [List.mem_iff_getElem?]
 exact ⟨i, by rw [List.getElem?_zip_eq_some]; exact ⟨h1, h2⟩⟩

theorem Zkv {m : MapM} {xs : Array Value} {ys : Array Value} (h : L2 (CR0 m) xs.toList ys.toList) (hx : xs.toList.all Zc8 = true) : L2 (VR m) xs.toList ys.toList := by
 simp only [List.all_eq_true] at hx
 refine h.mono fun x hxm y hxy => ?_
 have := hx x hxm
 simp only [Zc8, Bool.and_eq_true, Bool.not_eq_true'] at this
 exact Zpa (by rw [Zj2 this.2]; exact hxy) this.1

theorem Zlj.call {P : Program} {G : Glob} {nt : Nat} {ops : Array Oper} {o : Oper} {s : St} {f : Operand} {args : Array Operand} {ts : Array TypeId} {k : FuncId} {first captured : Array Value}
    (ho : o.op = .call { callee := .value f, args := args, argTypes := ts }) (hf : s.eval f = .func (.func k) first captured) (hcap : first.toList.all Zc8 = true ∧ captured.toList.all Zc8 = true) (hk : Zc6 P k = true) (hg : Zds nt s (Zdz ops o) = some true) (hd : Zb1 nt o.dst = true)
    {argsL : List Value} {σ σ' : List Blk} {res : Value} (hC : Z9 P G k argsL σ res σ') (e : Emb) (nid : Nat)
    (hok : CallOK s.heap e argsL (first.toList ++ args.toList.map s.eval ++ captured.toList) σ σ' nid) :
    Zlj P G nt ops o s ((Zh1 s.heap e σ res σ' nid).apply o.dst s) := by
  intro E m a w hr K Q hK
  rw [Zfb hg hr, if_pos rfl]
  have hfv := hr.eval f
  rw [hf] at hfv
  obtain ⟨first', captured', hf', hL1, hL2⟩ := hfv
  have hex := Zns (P := P) ho hf' hk w
  have hargsC : L2 (VR m) (first.toList ++ args.toList.map s.eval ++ captured.toList) (first' ++ args.map a.eval ++ captured').toList := by
    simp only [Array.toList_append, Array.toList_map]
    refine ((Zkv hL1 hcap.1).append ?_).append (Zkv hL2 hcap.2)
    refine ⟨by simp, fun i x y hx hy => ?_⟩
    simp only [List.getElem?_map, Option.map_eq_some_iff] at hx hy
    obtain ⟨p, hp1, rfl⟩ := hx
    obtain ⟨q, hq1, rfl⟩ := hy
    rw [hp1] at hq1; injection hq1 with hq1; subst hq1
    exact hr.eval p
  -- the heap, and who may be named
  obtain ⟨p, hp1, hp2⟩ : ∃ p : Nat → Bool, (∀ b, p b = true → ¬ ∃ i, Zgk e σ i b) ∧ ((Zbp e σ).head? = none ∧ (p = fun _ => true) ∨ ∃ b, (Zbp e σ).head? = some b ∧ (p = (· != b))) := by
    have h1 := hok.one
    cases hm : Zbp e σ with
    | nil =>
      refine ⟨fun _ => true, fun b _ ⟨i, hi⟩ => ?_, .inl ⟨rfl, rfl⟩⟩
      have := Zrp hi
      rw [hm] at this; cases this
    | cons b l =>
      rw [hm] at h1
      have hl : l = [] := by simpa using h1
      subst hl
      refine ⟨(· != b), fun b' hb' ⟨i, hi⟩ => ?_, .inr ⟨b, rfl, rfl⟩⟩
      have := Zrp hi
      rw [hm] at this
      simp at this hb'
      exact hb' this
  have hH1 : HRel G m (killX (Zbp e σ).head? e σ s.heap) w := hr.heap.killX _ _ _
  have hN : ∀ (i : Nat) (x : Blk), (killX (Zbp e σ).head? e σ s.heap)[i]? = some x → Zg6 e σ i → ∀ v, v ∈ x.cells → Za9 p v = true := by
    rcases hp2 with ⟨h1, rfl⟩ | ⟨b, h1, rfl⟩
    · exact fun i x hx _ v hv => Zgq (fun _ => rfl) v
    · intro i x hx hu v hv
      rw [h1, Zeq] at hx
      simp only [Option.map_eq_some_iff] at hx
      obtain ⟨y, hy, hyx⟩ := hx
      have hni : (Zr5 e σ).contains i = false := by
        cases hc : (Zr5 e σ).contains i with
        | false => rfl
        | true =>
          obtain ⟨q, sh, L, g1, g2, g3⟩ := Zr6.1 (by simpa using hc)
          have := hu q sh L g1 g2
          rw [g3] at this; cases this
      rw [hni] at hyx
      simp only [Bool.false_eq_true, if_false] at hyx
      subst hyx
      exact hr.heap.named_kill (· != b) i _ (by simp [hy]) v hv
  obtain ⟨hel, hone⟩ := Zg1 hok.emb
  have hE : EmbOK (killX (Zbp e σ).head? e σ s.heap) e σ := ⟨hel, hone, Zsm (H := killX (Zbp e σ).head? e σ s.heap) hok.dist⟩
  have hnm : ∀ (i : Nat) (L : Blk), σ[i]? = some L → L.pur = true ∨ ∀ v, v ∈ L.cells → Za9 (inE e) v = true := by
    intro i L hL
    have := hok.names
    simp only [Zg4, List.all_eq_true, Bool.or_eq_true] at this
    exact this L (List.mem_of_getElem? hL)
  have hargs := Zox hH1 hE _ _ _ hok.args hargsC
  have hemb := hH1.embed hE hnm
  obtain ⟨hA, hin⟩ := Z0u hE hok.shape
  have hcall := hC (mE m e σ) w (first' ++ args.map a.eval ++ captured').toList hemb hargs
  rw [Array.toArray_toList] at hcall
  unfold Oper.wp
  rw [hex]
  show Calls P k (first' ++ args.map a.eval ++ captured') w _
  refine hcall.mono ?_
  rintro en w' ⟨v', m', rfl, h', hv, hF⟩
  obtain ⟨g1, g2, g3⟩ := Zza hH1 hr.frame hE hA h' hF hp1 hN
  have hval := Z53 hH1 hE hA hF hv
  refine hK (mB m m' e σ σ' nid) _ w' ?_
  have hsets : ∀ b, (Zbp e σ).head? = some b → Zd7 (killX (some b) e σ s.heap) (Zcn (killX (some b) e σ s.heap) e σ σ' nid) = Zd7 (s.kill (· != b)).heap (Zcn (killX (some b) e σ s.heap) e σ σ' nid) := by
    intro b hb
    rw [hb] at hin hA
    have hin1 : ∀ q, q ∈ Zcn (killX (some b) e σ s.heap) e σ σ' nid → q.1 < (killX (some b) e σ s.heap).length := hin
    refine List.ext_getElem? fun i => ?_
    rw [Zhb _ _ hin1, Zhb _ _ (fun q hq => by have := hin1 q hq; rw [Zzk] at this; simpa [St.kill] using this)]
    rw [Zeq]
    simp only [St.kill, List.getElem?_map]
    cases hy : s.heap[i]? with
    | none => rfl
    | some y =>
      simp only [Option.map_some]
      congr 1
      split
      · rename_i hc
        obtain ⟨q, sh, L, a1, a2, a3⟩ := Zr6.1 (by simpa using hc)
        have hql : q < σ'.length := by have := (List.getElem?_eq_some_iff.1 a2).1; have := hA.len; omega
        have hmemS : ∃ z, (i, z) ∈ Zcn (killX (some b) e σ s.heap) e σ σ' nid := by
          refine ⟨{ y with cells := Zco (Zfl e nid (σ'.length - σ.length)) σ'[q] }, ?_⟩
          unfold Zcn
          refine List.mem_append_left _ (List.mem_filterMap.2 ⟨(some (i, sh), (L, σ'[q])), ?_, ?_⟩)
          · rw [List.mem_iff_getElem?]
            exact ⟨q, by rw [List.getElem?_zip_eq_some]; exact ⟨a1, by rw [List.getElem?_zip_eq_some]; exact ⟨a2, by simp [hql]⟩⟩⟩
          · simp only [a3, if_true, Zeq, hy, hc, Option.map_some]
        have key : ∀ (l : List (Nat × Blk)) (u u' : Blk), (∃ z, (i, z) ∈ l) → l.foldl (fun x p => if p.1 = i then p.2 else x) u = l.foldl (fun x p => if p.1 = i then p.2 else x) u' := by
          intro l
          induction l with
          | nil => rintro u u' ⟨z, hz⟩; cases hz
          | cons p l ih =>
            rintro u u' ⟨z, hz⟩
            simp only [List.foldl_cons]
            by_cases hp : p.1 = i
            · rw [if_pos hp, if_pos hp]
            · rw [if_neg hp, if_neg hp]
              refine ih _ _ ⟨z, ?_⟩
              rcases List.mem_cons.1 hz with h | h
              · subst h; exact absurd rfl hp
              · exact h
        exact key _ _ _ hmemS
      · rfl
  unfold Delta.apply Zh1
  rcases hp2 with ⟨h1, rfl⟩ | ⟨b, h1, rfl⟩
  · simp only [h1]
    refine SRel.put ?_ hd hval
    refine ⟨hr.size, fun i => (hr.tmps i).mono fun b r hb => g3 b r rfl hb, hr.defers, ?_, g2⟩
    rw [h1] at g1; exact g1
  · simp only [h1]
    refine SRel.put ?_ hd hval
    refine ⟨hr.size, fun i => ((hr.tmps i).killV (· != b)).congr (p := (· != b)) (fun q r hq hb => g3 q r hq hb) (Zgp _ _), hr.defers, ?_, g2⟩
    rw [h1] at g1
    show HRel G _ (Zd7 (s.kill (· != b)).heap _) w'
    rw [← hsets b h1]; exact g1

end Go.Flat
end
section
/- Operations that do the same wherever their part of the state is the same. -/
namespace Go.Flat
section
variable {P : Program} {G : Glob} {nt : Nat} {ops : Array Oper} {o : Oper} {s : St}

def Zd4 : Value → List Nat
  | .pointer (some ⟨b, _, none⟩) => [b]
  | .slice (some ⟨b, _, _⟩) _ _ => [b]
  | _ => []

theorem Zag {s s' : St} {foot : List Nat} (h : Agree ops o foot s s') {x : Operand} (hx : x ∈ o.op.operands) : s'.eval x = s.eval x := by
 cases x with
 | tmp t =>
  refine h.tmps t ?_
  unfold Oper.looksAt
  exact List.mem_append_left _ (List.mem_filterMap.2 ⟨.tmp t, by simpa using hx, rfl⟩)
 | _ => rfl
theorem Zgo {s s' : St} {foot : List Nat} (h : Agree ops o foot s s') : Zds nt s' (Zdz ops o) = Zds nt s (Zdz ops o) := by
 unfold Zdz
 cases hg : o.guard with
 | none => rfl
 | some p =>
  obtain ⟨j, want⟩ := p
  simp only [Option.map_some]
  cases ht : (ops[j]?).bind (·.dst) with
  | none => rfl
  | some t =>
   have := h.tmps t (by
    unfold Oper.looksAt
    exact List.mem_append_right _ (by simp [hg, ht]))
   simp only [Zds, this]

theorem Zau.run {δ : Delta} (hg : Zds nt s (Zdz ops o) = some true) (hd : Zb1 nt o.dst = true) (h : ∀ s', Agree ops o δ.foot s s' → Z3l P G o s' (δ.apply o.dst s')) : Zau P G nt ops o s δ :=
 fun s' ha => Zlj.run (by rw [Zgo ha]; exact hg) hd (h s' ha)
theorem Zau.skip (hg : Zds nt s (Zdz ops o) = some false) (hd : Zb1 nt o.dst = true) : Zau P G nt ops o s { val := undef } := by
 intro s' ha
 have := Zlj.skip (P := P) (G := G) (nt := nt) (ops := ops) (o := o) (s := s') (by rw [Zgo ha]; exact hg) hd
 simpa [Delta.apply, Zd7] using this
theorem Zau.value {v : Value} {sets : List (Nat × Blk)} {foot : List Nat} (hg : Zds nt s (Zdz ops o) = some true) (hd : Zb1 nt o.dst = true) (h : ∀ s', Agree ops o foot s s' → Zbi P G o s' v sets) : Zau P G nt ops o s { val := v, sets := sets, foot := foot } :=
 Zau.run hg hd fun s' ha => (h s' ha).opOK

variable (hg : Zds nt s (Zdz ops o) = some true) (hd : Zb1 nt o.dst = true)
include hg hd

theorem Z1y {x : Operand} (ho : o.op = .move x ∨ o.op = .assign x) {v : Value} (h : s.eval x = v) : Zau P G nt ops o s { val := v } :=
  Zau.value hg hd fun s' ha => by
    have he : s'.eval x = v := by rw [Zag ha (by rcases ho with ho | ho <;> rw [ho] <;> simp [Op.operands])]; exact h
    rw [← he]; exact Zxh ho
theorem Z59 {c x y : Operand} {v : Value} (ho : o.op = .pick c x y) (h : Zrs s c x y = some v) : Zau P G nt ops o s { val := v } :=
 Zau.value hg hd fun s' ha => Zxi ho (by
  have e := fun z hz => Zag (x := z) ha (by rw [ho]; exact hz)
  unfold Zrs at h ⊢
  rw [e c (by simp [Op.operands]), e x (by simp [Op.operands]), e y (by simp [Op.operands])]; exact h)
theorem Z4a {t : TypeId} {nid : Nat} {x : Blk} (ho : o.op = .alloc t) (h : Znn P s.heap t nid = some x) : Zau P G nt ops o s { val := Zd5 nid, sets := [(nid, x)], foot := [nid] } :=
 Zau.value hg hd fun s' ha => Zve ho (by
  unfold Znn at h ⊢
  rw [show Zc5 s'.heap nid = Zc5 s.heap nid from by unfold Zc5; rw [ha.heap nid (by simp), ha.len]]; exact h)
theorem Z62 {t : TypeId} {x : Operand} {nid : Nat} {b : Blk} (ho : o.op = .box t x) (h : Zpf s.heap (s.eval x) nid = some b) : Zau P G nt ops o s { val := Zd5 nid, sets := [(nid, b)], foot := [nid] } :=
 Zau.value hg hd fun s' ha => Zz5 ho (by
  unfold Zpf at h ⊢
  rw [Zag ha (x := x) (by rw [ho]; simp [Op.operands]), show Zc5 s'.heap nid = Zc5 s.heap nid from by unfold Zc5; rw [ha.heap nid (by simp), ha.len]]; exact h)
theorem Z57 {t : TypeId} {x : Operand} {v : Value} (ho : o.op = .load t x) (h : Zdx P G t s.heap (s.eval x) = some v) : Zau P G nt ops o s { val := v, foot := Zd4 (s.eval x) } :=
 Zau.value hg hd fun s' ha => Zxf ho (by
  rw [Zag ha (x := x) (by rw [ho]; simp [Op.operands])]
  have hh := ha.heap
  generalize s.eval x = v at h hh ⊢
  unfold Zdx at h ⊢
  split at h
  ·rename_i ag n b of hk
   rw [hh b (by simp [Zd4])]; exact h
  ·rename_i ag n g of q hk
   exact h
  ·cases h)
theorem Z4f {t : TypeId} {x y : Operand} {b : Nat} {blk : Blk} (ho : o.op = .store t x y) (h : Zfg P t s.heap (s.eval x) (s.eval y) = some (b, blk)) : Zau P G nt ops o s { val := undef, sets := [(b, blk)], foot := Zd4 (s.eval x) } :=
 Zau.value hg hd fun s' ha => Zvi ho (by
  rw [Zag ha (x := x) (by rw [ho]; simp [Op.operands]), Zag ha (x := y) (by rw [ho]; simp [Op.operands])]
  have hh := ha.heap
  generalize s.eval x = v at h hh ⊢
  unfold Zfg at h ⊢
  split at h
  ·rename_i ag n b' of hk
   rw [hh b' (by simp [Zd4])]; exact h
  ·cases h)
theorem Z61 {op : BinOp} {t yt : TypeId} {x y : Operand} {v : Value} (ho : o.op = .binOp op t x y yt) (h : Zb0 P op t x y (s.eval x) (s.eval y) = some v) : Zau P G nt ops o s { val := v } :=
 Zau.value hg hd fun s' ha => Zz4 ho (by rw [Zag ha (x := x) (by rw [ho]; simp [Op.operands]), Zag ha (x := y) (by rw [ho]; simp [Op.operands])]; exact h)
theorem l_un {op : UnOp} {t : TypeId} {x : Operand} {v : Value} (ho : o.op = .unOp op t x) (h : unD P op (s.eval x) = some v) : Zau P G nt ops o s { val := v } :=
 Zau.value hg hd fun s' ha => Z21 ho (by rw [Zag ha (x := x) (by rw [ho]; simp [Op.operands])]; exact h)
theorem Z55 {src dst : TypeId} {x : Operand} {v : Value} (ho : o.op = .convert src dst x) (h : Zle P src dst (s.eval x) = some v) : Zau P G nt ops o s { val := v } :=
 Zau.value hg hd fun s' ha => Zxd ho (by rw [Zag ha (x := x) (by rw [ho]; simp [Op.operands])]; exact h)
theorem Zul {t : TypeId} {x : Operand} {f : Nat} {v : Value} (ho : o.op = .fieldAddr t x f) (h : Zst P t (s.eval x) f = some v) : Zau P G nt ops o s { val := v } :=
 Zau.value hg hd fun s' ha => Zot ho (by rw [Zag ha (x := x) (by rw [ho]; simp [Op.operands])]; exact h)
theorem Zum {t : TypeId} {x y : Operand} {v : Value} (ho : o.op = .indexAddr t x y) (h : Zzi P t (s.eval x) (s.eval y) = some v) : Zau P G nt ops o s { val := v } :=
 Zau.value hg hd fun s' ha => Zou ho (by rw [Zag ha (x := x) (by rw [ho]; simp [Op.operands]), Zag ha (x := y) (by rw [ho]; simp [Op.operands])]; exact h)
theorem Z4d {t : TypeId} {x y : Operand} {v : Value} (ho : o.op = .index t x y) (h : Znx P t (s.eval x) (s.eval y) = some v) : Zau P G nt ops o s { val := v } :=
 Zau.value hg hd fun s' ha => Zvg ho (by rw [Zag ha (x := x) (by rw [ho]; simp [Op.operands]), Zag ha (x := y) (by rw [ho]; simp [Op.operands])]; exact h)
theorem Z1z {t : TypeId} {x y : Operand} {v : Value} (ho : o.op = .index t x y) (h : Zl2 P t (s.eval x) (s.eval y) = some v) : Zau P G nt ops o s { val := v } :=
 Zau.value hg hd fun s' ha => Zs9 ho (by rw [Zag ha (x := x) (by rw [ho]; simp [Op.operands]), Zag ha (x := y) (by rw [ho]; simp [Op.operands])]; exact h)
theorem Z4b {t : TypeId} {ps : Array (Nat × Operand)} {v : Value} (ho : o.op = .build t ps) (h : Zsi P t (ps.toList.map fun p => (p.1, s.eval p.2)) = some v) : Zau P G nt ops o s { val := v } :=
 Zau.value hg hd fun s' ha => Zvf ho (by
  rw [List.map_congr_left (fun p hp => by rw [Zag ha (x := p.2) (by rw [ho]; simp only [Op.operands]; simpa using ⟨p.1, by simpa using hp⟩)])]; exact h)
theorem Z64 {t : TypeId} {n : Nat} {ps : Array (Nat × Operand)} {nid : Nat} {v : Value} {b : Blk} (ho : o.op = .buildSlice t n ps) (h : Z15 P s.heap t n (ps.toList.map fun p => (p.1, s.eval p.2)) nid = some (v, b)) : Zau P G nt ops o s { val := v, sets := [(nid, b)], foot := [nid] } :=
 Zau.value hg hd fun s' ha => Zz7 ho (by
  rw [List.map_congr_left (fun p hp => by rw [Zag ha (x := p.2) (by rw [ho]; simp only [Op.operands]; simpa using ⟨p.1, by simpa using hp⟩)])]
  unfold Z15 at h ⊢
  rw [show Zc5 s'.heap nid = Zc5 s.heap nid from by unfold Zc5; rw [ha.heap nid (by simp), ha.len]]; exact h)
theorem Zwx {f : Fn} {xs ys : Array Operand} {v : Value} (ho : o.op = .makeFunc f xs ys) (h : Zrg s f xs ys = some v) : Zau P G nt ops o s { val := v } :=
 Zau.value hg hd fun s' ha => Zqk ho (by
  have e := fun z hz => Zag (x := z) ha (by rw [ho]; exact hz)
  have e1 : xs.map s'.eval = xs.map s.eval := Array.map_congr_left fun z hz => e z (by simp [Op.operands, hz])
  have e2 : ys.map s'.eval = ys.map s.eval := Array.map_congr_left fun z hz => e z (by simp [Op.operands, hz])
  unfold Zrg at h ⊢
  rw [e1, e2]
  have e3 : (xs.toList.all fun x => Zc8 (s'.eval x)) = xs.toList.all fun x => Zc8 (s.eval x) := by
   rw [Bool.eq_iff_iff]; simp only [List.all_eq_true]
   exact ⟨fun hh z hz => by rw [← e z (by simp [Op.operands, Array.mem_toList_iff.1 hz])]; exact hh z hz, fun hh z hz => by rw [e z (by simp [Op.operands, Array.mem_toList_iff.1 hz])]; exact hh z hz⟩
  have e4 : (ys.toList.all fun x => Zc8 (s'.eval x)) = ys.toList.all fun x => Zc8 (s.eval x) := by
   rw [Bool.eq_iff_iff]; simp only [List.all_eq_true]
   exact ⟨fun hh z hz => by rw [← e z (by simp [Op.operands, Array.mem_toList_iff.1 hz])]; exact hh z hz, fun hh z hz => by rw [e z (by simp [Op.operands, Array.mem_toList_iff.1 hz])]; exact hh z hz⟩
  rw [e3, e4]; exact h)
theorem Zzl {x : Operand} {i : Nat} {v : Value} (ho : o.op = .extract x i) (h : Z1g (s.eval x) i = some v) : Zau P G nt ops o s { val := v } :=
 Zau.value hg hd fun s' ha => Zq2 ho (by rw [Zag ha (x := x) (by rw [ho]; simp [Op.operands])]; exact h)
theorem Zwy {x : Operand} {v : Value} (ho : o.op = .nilCheck x) (h : Z2a (s.eval x) = some v) : Zau P G nt ops o s { val := v } :=
 Zau.value hg hd fun s' ha => Zql ho (by rw [Zag ha (x := x) (by rw [ho]; simp [Op.operands])]; exact h)
theorem Zor {t : TypeId} {x : Operand} {v : Value} (ho : o.op = .makeInterface t x) (h : Zsw P t (s.eval x) = some v) : Zau P G nt ops o s { val := v } :=
 Zau.value hg hd fun s' ha => Zlb ho (by rw [Zag ha (x := x) (by rw [ho]; simp [Op.operands])]; exact h)
theorem Z4e {t : TypeId} {x : Operand} {lo hi : Option Operand} {v : Value} (ho : o.op = .slice t x lo hi none) (h : Zho P s.heap t (s.eval x) (lo.map s.eval) (hi.map s.eval) = some v) : Zau P G nt ops o s { val := v, foot := Zd4 (s.eval x) } :=
  Zau.value hg hd fun s' ha => Zvh ho (by
    have e := fun z hz => Zag (x := z) ha (by rw [ho]; exact hz)
    rw [e x (by simp [Op.operands]), show lo.map s'.eval = lo.map s.eval from by cases lo with | none => rfl | some z => simp [e z (by simp [Op.operands])],
      show hi.map s'.eval = hi.map s.eval from by cases hi with | none => rfl | some z => simp [e z (by simp [Op.operands])]]
    have hh := ha.heap
    generalize s.eval x = v at h hh ⊢
    unfold Zho at h ⊢
    split at h
    · rename_i b hu; exact h
    · rename_i e' b o' n c hu
      have : ∀ sz, Zol s'.heap b sz = Zol s.heap b sz := fun sz => by unfold Zol; rw [hh b (by simp [Zd4])]
      simp only [this]; exact h
    · rename_i e' n c hu; exact h
    · rename_i n e' b o' hu
      have : Zpd s'.heap b = Zpd s.heap b := by unfold Zpd; rw [hh b (by simp [Zd4])]
      simp only [this]; exact h
    · cases h)
theorem Z58 {t : TypeId} {x y : Operand} {nid : Nat} {v : Value} {b : Blk} (ho : o.op = .makeSlice t x y) (h : Zp2 P s.heap t (s.eval x) (s.eval y) nid = some (v, b)) : Zau P G nt ops o s { val := v, sets := [(nid, b)], foot := [nid] } :=
 Zau.value hg hd fun s' ha => Zxg ho (by
  rw [Zag ha (x := x) (by rw [ho]; simp [Op.operands]), Zag ha (x := y) (by rw [ho]; simp [Op.operands])]
  unfold Zp2 at h ⊢
  rw [show Zc5 s'.heap nid = Zc5 s.heap nid from by unfold Zc5; rw [ha.heap nid (by simp), ha.len]]; exact h)
theorem Z65 {src dst : TypeId} {x : Operand} {v : Value} (ho : o.op = .convert src dst x) (h : Ztb P s.heap src dst (s.eval x) = some v) : Zau P G nt ops o s { val := v, foot := Zd4 (s.eval x) } :=
 Zau.value hg hd fun s' ha => Zz8 ho (by
  rw [Zag ha (x := x) (by rw [ho]; simp [Op.operands])]
  have hh := ha.heap
  generalize s.eval x = v at h hh ⊢
  unfold Ztb at h ⊢
  split at h
  ·rename_i e' b of n c hu1 hu2
   rw [hh b (by simp [Zd4])]; exact h
  ·rename_i e' n c hu1 hu2; exact h
  ·cases h)
theorem Z63 {t : TypeId} {x : Operand} {v : Value} (ho : o.op = .call { callee := .builtin .len, args := #[x], argTypes := #[t] }) (h : Z13 P t (s.eval x) = some v) : Zau P G nt ops o s { val := v } :=
 Zau.value hg hd fun s' ha => Zz6 ho (by rw [Zag ha (x := x) (by rw [ho]; simp [Op.operands, Call.operands])]; exact h)
omit hg hd in
theorem Zqm {σ σ' : List Blk} {sz : Nat} {v : Value} (h : ∀ b, b ∈ Zd4 v → σ'[b]? = σ[b]?) : Zhw σ' sz v = Zhw σ sz v := by
 unfold Zhw
 split
 ·rename_i b of n c; rw [h b (by simp [Zd4])]
 ·rfl
 ·rfl
 ·rfl
theorem Z56 {t u : TypeId} {x y : Operand} {v : Value} {b : Nat} {blk' : Blk} (ho : o.op = .call { callee := .builtin .copy, args := #[x, y], argTypes := #[t, u] }) (h : Ztz P s.heap t (s.eval x) (s.eval y) = some (v, b, blk')) : Zau P G nt ops o s { val := v, sets := [(b, blk')], foot := Zd4 (s.eval x) ++ Zd4 (s.eval y) } :=
 Zau.value hg hd fun s' ha => Zxe ho (by
  rw [Zag ha (x := x) (by rw [ho]; simp [Op.operands, Call.operands]), Zag ha (x := y) (by rw [ho]; simp [Op.operands, Call.operands])]
  have hh := ha.heap
  unfold Ztz at h ⊢
  split at h
  ·rename_i sz zc by_ b' of dn c ht hx
   try simp only [ht, hx]
   rw [Zqm (σ := s.heap) (σ' := s'.heap) (fun q hq => hh q (by simp [hq])), hh b' (by simp [hx, Zd4])]; exact h
  ·cases h)
theorem Z1v {t u : TypeId} {x y : Operand} {v : Value} {b : Nat} {blk' : Blk} {d : TypeDesc} (ho : o.op = .call { callee := .builtin .append, args := #[x, y], argTypes := #[t, u] })
  (hu : P.underlying u = some d) (hdd : (∃ e2, d = .slice e2) ∨ d = .string) (h : Zpb P s.heap t (s.eval x) (s.eval y) = some (v, b, blk')) : Zau P G nt ops o s { val := v, sets := [(b, blk')], kill := some b, foot := Zd4 (s.eval x) ++ Zd4 (s.eval y) } :=
 Zau.run hg hd fun s' ha => Zzu ho hu hdd (by
  rw [Zag ha (x := x) (by rw [ho]; simp [Op.operands, Call.operands]), Zag ha (x := y) (by rw [ho]; simp [Op.operands, Call.operands])]
  have hh := ha.heap
  unfold Zpb at h ⊢
  split at h
  ·rename_i sz zc by_ b' of n c ht hx
   try simp only [ht, hx]
   rw [Zqm (σ := s.heap) (σ' := s'.heap) (fun q hq => hh q (by simp [hq])), hh b' (by simp [hx, Zd4])]; exact h
  ·cases h)
end
end Go.Flat
end
section
/- Calls among others; code; a contract out of a Zbu. -/
namespace Go.Flat
section
variable {P : Program} {G : Glob}


theorem Zjb {H H' : List Blk} {e : Emb} : ∀ {ps : Emb} {Ls : List Blk}, (∀ p, p ∈ ps → ∀ q, p = some q → H'[q.1]? = H[q.1]?) → Zii H e ps Ls → Zii H' e ps Ls
 | [], [], _, h => trivial
 | p :: ps, L :: Ls, hh, h => by
  refine ⟨?_, Zjb (fun p hp => hh p (by simp [hp])) h.2⟩
  have h1 := h.1
  cases p with
  | none => exact h1
  | some q =>
   obtain ⟨id, sh⟩ := q
   unfold Zdp at h1 ⊢
   simp only at h1 ⊢
   have := hh (some (id, sh)) (by simp) (id, sh) rfl
   simp only at this
   rw [this]; exact h1
 | [], _ :: _, _, h => h.elim
 | _ :: _, [], _, h => h.elim

theorem Ziu {α β : Type} {f g : α → Option β} : ∀ {l : List α}, (∀ x, x ∈ l → f x = g x) → l.filterMap f = l.filterMap g
 | [], _ => rfl
 | x :: l, h => by
  rw [List.filterMap_cons, List.filterMap_cons, h x (by simp), Ziu (fun y hy => h y (by simp [hy]))]

theorem Zwe {H H' : List Blk} {e : Emb} {argsL argsC : List Value} {σ σ' : List Blk} {res : Value} {nid : Nat} (h : ∀ b, b ∈ (Zh1 H e σ res σ' nid).foot → H'[b]? = H[b]?) (hok : CallOK H e argsL argsC σ σ' nid) :
  CallOK H' e argsL argsC σ σ' nid ∧ Zh1 H' e σ res σ' nid = Zh1 H e σ res σ' nid := by
 have hid : ∀ p, p ∈ e → ∀ q, p = some q → H'[q.1]? = H[q.1]? := by
  rintro p hp q rfl
  refine h q.1 ?_
  simp only [Zh1]
  exact List.mem_append_left _ (List.mem_filterMap.2 ⟨some q, hp, rfl⟩)
 have hnew : ∀ k, k < σ'.length - σ.length → H'[nid + k]? = H[nid + k]? := by
  intro k hk
  refine h _ ?_
  simp only [Zh1]
  exact List.mem_append_right _ (List.mem_map.2 ⟨k, by simpa using hk, rfl⟩)
 have hidK : ∀ p, p ∈ e → ∀ q, p = some q → (killX (Zbp e σ).head? e σ H')[q.1]? = (killX (Zbp e σ).head? e σ H)[q.1]? := fun p hp q hq => by
  rw [Zeq, Zeq, hid p hp q hq]
 have hshape : Zic (killX (Zbp e σ).head? e σ H') σ σ' nid = Zic (killX (Zbp e σ).head? e σ H) σ σ' nid := by
  unfold Zic
  congr 1
  rw [Bool.eq_iff_iff]
  simp only [List.all_eq_true, List.mem_range]
  constructor
  ·intro hh k hk
   have := hh k hk
   rw [Zeq, hnew k hk, ← Zeq] at this; exact this
  ·intro hh k hk
   have := hh k hk
   rw [Zeq, hnew k hk, ← Zeq]; exact this
 refine ⟨⟨hok.args, Zjb hidK hok.emb, hok.dist, hok.names, by rw [hshape]; exact hok.shape, hok.one⟩, ?_⟩
 unfold Zh1
 congr 1
 unfold Zcn
 congr 1
 refine Ziu fun p hp => ?_
 obtain ⟨i, hi⟩ := List.getElem?_of_mem hp
 rw [List.getElem?_zip_eq_some] at hi
 cases hp1 : p.1 with
 | none => rfl
 | some q =>
  obtain ⟨id, sh⟩ := q
  have := hidK (some (id, sh)) (by rw [← hp1]; exact List.mem_of_getElem? hi.1) (id, sh) rfl
  simp only at this
  simp only [this]

theorem Z1w {nt : Nat} {ops : Array Oper} {o : Oper} {s : St} (hg : Zds nt s (Zdz ops o) = some true) (hd : Zb1 nt o.dst = true) {f : Operand} {args : Array Operand} {ts : Array TypeId} {k : FuncId} {first captured : Array Value}
  (ho : o.op = .call { callee := .value f, args := args, argTypes := ts }) (hf : s.eval f = .func (.func k) first captured) (hcap : first.toList.all Zc8 = true ∧ captured.toList.all Zc8 = true) (hk : Zc6 P k = true)
  {argsL : List Value} {σ σ' : List Blk} {res : Value} (hC : Z9 P G k argsL σ res σ') (e : Emb) (nid : Nat)
  (hok : CallOK s.heap e argsL (first.toList ++ args.toList.map s.eval ++ captured.toList) σ σ' nid) : Zau P G nt ops o s (Zh1 s.heap e σ res σ' nid) := by
 intro s' ha
 have hop : ∀ x, x ∈ o.op.operands → s'.eval x = s.eval x := fun x hx => Zag ha hx
 have hf' : s'.eval f = .func (.func k) first captured := by rw [hop f (by rw [ho]; simp [Op.operands, Call.operands])]; exact hf
 have hargs : args.toList.map s'.eval = args.toList.map s.eval := List.map_congr_left fun x hx => hop x (by rw [ho]; simp [Op.operands, Call.operands]; exact .inr (by simpa using hx))
 obtain ⟨h1, h2⟩ := Zwe (H := s.heap) (H' := s'.heap) (res := res) ha.heap hok
 have := Zlj.call (P := P) (G := G) (nt := nt) (ops := ops) ho hf' hcap hk (by rw [Zgo ha]; exact hg) hd hC e nid (s := s') (by rw [hargs]; exact h1)
 rw [h2] at this
 exact this


def Zbv (P : Program) (G : Glob) (nt : Nat) (ops : Array Oper) (K : Trace → St → Prop) : List Oper → Trace → St → Prop
  | [], tr, s => K tr s
  | o :: l, tr, s => ∃ δ, Zau P G nt ops o s δ ∧ Zbv P G nt ops K l (tr ++ [(o, δ)]) (δ.apply o.dst s)

theorem Zbv.step {nt : Nat} {ops : Array Oper} {K : Trace → St → Prop} {o : Oper} {l : List Oper} {tr : Trace} {s : St} {δ : Delta} (h : Zau P G nt ops o s δ) (h2 : Zbv P G nt ops K l (tr ++ [(o, δ)]) (δ.apply o.dst s)) : Zbv P G nt ops K (o :: l) tr s := ⟨δ, h, h2⟩

theorem Zau.opTo {nt : Nat} {ops : Array Oper} {o : Oper} {s : St} {δ : Delta} (h : Zau P G nt ops o s δ) : Zlj P G nt ops o s (δ.apply o.dst s) := h s ⟨fun _ _ => rfl, fun _ _ => rfl, rfl⟩

theorem Zbv.seq {nt : Nat} {ops : Array Oper} {K : Trace → St → Prop} : ∀ {l : List Oper} {tr : Trace} {s : St}, Zbv P G nt ops K l tr s → Zeh P G nt ops (fun s => ∃ tr, K tr s) l s
 | [], tr, s, h => ⟨tr, h⟩
 | o :: l, tr, s, ⟨δ, h1, h2⟩ => ⟨_, h1.opTo, Zbv.seq h2⟩

theorem Zvl {S : Nat → Bool} : ∀ (l : Trace) (k : Nat) (s : St) (p : Oper × Delta), S (k + l.length) = true → stS s S (l ++ [p]) k = p.2.apply p.1.dst (stS s S l k)
 | [], k, s, p, h => by simp [stS] at h ⊢; rw [h]; simp
 | (o, δ) :: l, k, s, p, h => by
  simp only [List.cons_append, stS]
  exact Zvl l (k + 1) _ p (by rw [← h]; congr 1; simp; omega)

theorem Zbv.drawn {nt : Nat} {ops : Array Oper} {K : Trace → St → Prop} {s0 : St} : ∀ {l : List Oper} {tr : Trace} {s : St}, Zbv P G nt ops K l tr s → s = stS s0 (fun _ => true) tr 0 →
    (∀ (i : Nat) (o : Oper) (δ : Delta), tr[i]? = some (o, δ) → Zau P G nt ops o (stS s0 (fun _ => true) (tr.take i) 0) δ) →
    ∃ tr' : Trace, tr'.map (·.1) = tr.map (·.1) ++ l ∧ K tr' (stS s0 (fun _ => true) tr' 0) ∧ ∀ (i : Nat) (o : Oper) (δ : Delta), tr'[i]? = some (o, δ) → Zau P G nt ops o (stS s0 (fun _ => true) (tr'.take i) 0) δ
  | [], tr, s, h, hs, hl => ⟨tr, by simp, by subst hs; exact h, hl⟩
  | o :: l, tr, s, ⟨δ, h1, h2⟩, hs, hl => by
    obtain ⟨tr', g1, g2, g3⟩ := Zbv.drawn (s0 := s0) h2 (by rw [Zvl _ _ _ _ rfl, hs]) (by
      intro i o' δ' hi
      rcases Nat.lt_or_ge i tr.length with hlt | hge
      · rw [List.getElem?_append_left hlt] at hi
        rw [List.take_append_of_le_length (by omega)]
        exact hl i o' δ' hi
      · rw [List.getElem?_append_right hge] at hi
        have : i - tr.length = 0 := by
          rcases Nat.eq_zero_or_pos (i - tr.length) with h0 | h0
          · exact h0
          · rw [List.getElem?_eq_none (by simp; omega)] at hi; cases hi
        rw [this] at hi
        simp at hi
        obtain ⟨rfl, rfl⟩ := hi
        have hie : i = tr.length := by omega
        subst hie
        rw [List.take_append_of_le_length (Nat.le_refl _), List.take_length, ← hs]
        exact h1)
    exact ⟨tr', by rw [g1]; simp, g2, g3⟩


def Zqu (G : Glob) (nt : Nat) (E : Ent) (Q : Exit → St → Prop) : Exit → Act → World → Prop := fun e a w => ∃ s m, Q e s ∧ SRel G nt E m s a w

def WpL (P : Program) (G : Glob) (nt n0 : Nat) (c : Code) (Q : Exit → St → Prop) (s : St) : Prop :=
  ∀ E m a w, (∀ b, n0 ≤ b → E.m b = none) → SRel G nt E m s a w → c.wp P (Zqu G nt E Q) a w

def Zea (next : St → Prop) (Q : Exit → St → Prop) : Exit → St → Prop
  | .normal, s => next s
  | e, s => Q e s
def Zed (id : Nat) (Q : Exit → St → Prop) : Exit → St → Prop
  | .exit id', s => if id' = id then Q .normal s else Q (.exit id') s
  | e, s => Q e s

variable {nt n0 : Nat} {Q : Exit → St → Prop} {s : St}
theorem WpL.mono {c : Code} {Q' : Exit → St → Prop} (h : WpL P G nt n0 c Q s) (hq : ∀ e s, Q e s → Q' e s) : WpL P G nt n0 c Q' s :=
 fun E m a w h0 hr => wp_mono (h E m a w h0 hr) fun e a w ⟨s, m, h1, h2⟩ => ⟨s, m, hq _ _ h1, h2⟩
theorem WpL.skip (h : Q .normal s) : WpL P G nt n0 .skip Q s := fun E m a w h0 hr => wp_skip ⟨s, m, h, hr⟩
theorem WpL.label {l : Nat} (h : Q .normal s) : WpL P G nt n0 (.label l) Q s := fun E m a w h0 hr => wp_label ⟨s, m, h, hr⟩
theorem WpL.exit {i : Nat} (h : Q (.exit i) s) : WpL P G nt n0 (.exit i) Q s := fun E m a w h0 hr => wp_exit ⟨s, m, h, hr⟩
theorem WpL.goto {l : Nat} (h : Q (.goto l) s) : WpL P G nt n0 (.goto l) Q s := fun E m a w h0 hr => wp_goto ⟨s, m, h, hr⟩
theorem WpL.ret (h : Q .ret s) : WpL P G nt n0 .ret Q s := fun E m a w h0 hr => wp_ret ⟨s, m, h, hr⟩
theorem WpL.seq {x y : Code} (h : ∀ K : St → Prop, (∀ s, WpL P G nt n0 y Q s → K s) → WpL P G nt n0 x (Zea K Q) s) : WpL P G nt n0 (.seq x y) Q s := by
 intro E m a w h0 hr
 refine wp_seq (wp_mono (h _ (fun s hs => hs) E m a w h0 hr) ?_)
 rintro e a' w' ⟨s', m', h1, h2⟩
 cases e with
 | normal => exact h1 E m' a' w' h0 h2
 | _ => exact ⟨s', m', h1, h2⟩
theorem WpL.cond {c : Operand} {x y : Code} {t : Bool} (hc : s.eval c = .bool t) (h : WpL P G nt n0 (if t then x else y) Q s) : WpL P G nt n0 (.cond c x y) Q s := by
 intro E m a w h0 hr
 refine wp_cond (t := t) ?_ (h E m a w h0 hr)
 rw [Zbg hr (by rw [hc]; rfl), hc]
theorem WpL.cond_t {c : Operand} {x y : Code} (hc : s.eval c = .bool true) (h : WpL P G nt n0 x Q s) : WpL P G nt n0 (.cond c x y) Q s := WpL.cond hc h
theorem WpL.cond_f {c : Operand} {x y : Code} (hc : s.eval c = .bool false) (h : WpL P G nt n0 y Q s) : WpL P G nt n0 (.cond c x y) Q s := WpL.cond hc h
theorem WpL.block {i : Nat} {c : Code} (h : WpL P G nt n0 c (Zed i Q) s) : WpL P G nt n0 (.block i c) Q s := by
 intro E m a w h0 hr
 refine wp_block (wp_mono (h E m a w h0 hr) ?_)
 rintro e a' w' ⟨s', m', h1, h2⟩
 cases e with
 | exit i' =>
  by_cases he : i' = i
  ·simp only [Zed, if_pos he] at h1
   simp only [Exit.inBlock, if_pos he]
   exact ⟨s', m', h1, h2⟩
  ·simp only [Zed, if_neg he] at h1
   simp only [Exit.inBlock, if_neg he]
   exact ⟨s', m', h1, h2⟩
 | _ => exact ⟨s', m', h1, h2⟩
theorem WpL.region {i : Nat} {ops : Array Oper} (h : Zbv P G nt ops (fun _ s => Q .normal s) ops.toList [] s) : WpL P G nt n0 (.region i ops false) Q s := by
 intro E m a w h0 hr
 refine wp_region_list ?_
 exact Zeh.sound (Q := Zqu G nt E Q) (K := fun s => ∃ tr : Trace, Q .normal s) (fun s m a w ⟨_, h1⟩ h2 => ⟨s, m, h1, h2⟩) _ _ h.seq m a w hr
theorem WpL.drawn {i : Nat} {ops : Array Oper} (hm : P.follows .mixedOrders = true) (h : Zbv P G nt ops (fun tr s' => Zev ops tr s.heap.length = true ∧ Q .normal s') ops.toList [] s) : WpL P G nt n0 (.region i ops true) Q s := by
 intro E m a w h0 hr
 obtain ⟨tr, g1, ⟨g2, g4⟩, g3⟩ := Zbv.drawn (s0 := s) h rfl (by simp)
 exact Zt2 hm (by simpa using g1) g2 g3 hr (fun m a w hr => ⟨_, m, g4, hr⟩)


def Zbo (G : Glob) (nt n0 : Nat) (s s' : St) : Prop := ∀ E m a w, (∀ b, n0 ≤ b → E.m b = none) → SRel G nt E m s a w → ∃ m', SRel G nt E m' s' a w
theorem Zbo.refl (s : St) : Zbo G nt n0 s s := fun E m a w h0 hr => ⟨m, hr⟩
theorem Zbo.trans {s s' s'' : St} (h : Zbo G nt n0 s s') (h' : Zbo G nt n0 s' s'') : Zbo G nt n0 s s'' := fun E m a w h0 hr => let ⟨m', h1⟩ := h E m a w h0 hr; h' E m' a w h0 h1
theorem WpL.weak {c : Code} {s' : St} (hw : Zbo G nt n0 s s') (h : WpL P G nt n0 c Q s') : WpL P G nt n0 c Q s := fun E m a w h0 hr => let ⟨m', h1⟩ := hw E m a w h0 hr; h E m' a w h0 h1

theorem Zbo.reserve (s : St) (n : Nat) : Zbo G nt n0 s { s with heap := s.heap ++ List.replicate n hole } := by
 intro E m a w h0 hr
 refine ⟨m, hr.size, hr.tmps, hr.defers, ?_, hr.frame⟩
 induction n with
 | zero => simpa using hr.heap
 | succ n ih =>
  have := ih.reserve hole rfl rfl
  rw [List.append_assoc] at this
  have e : List.replicate n hole ++ [hole] = List.replicate (n + 1) hole := by rw [List.replicate_succ']
  rw [e] at this
  exact this

def Z1q (n : Nat) (s s' : St) : Prop := ∀ i, s'.tmps i = dead ∨ (s'.tmps i = s.tmps i ∧ Zeg (fun b => decide (b < n)) (s.tmps i) = true)
theorem Zbo.take {s s' : St} (n : Nat) (hn : n0 ≤ n) (ht : Z1q n s s') (hh : s'.heap = s.heap.take n) (hb : (s'.heap.all fun x => x.pur || x.cells.all (Za9 fun b => decide (b < n))) = true) : Zbo G nt n0 s s' := by
  intro E m a w h0 hr
  have hag : ∀ b r, decide (b < n) = true → m b = some r → (fun b => if b < n then m b else none) b = some r := by
    intro b r hb' hr'
    simp only at hb' ⊢
    rw [if_pos (by simpa using hb')]; exact hr'
  have hsub : ∀ b r, (if b < n then m b else none) = some r → b < n ∧ m b = some r := by
    intro b r h
    split at h
    · rename_i hlt; exact ⟨hlt, h⟩
    · cases h
  simp only [List.all_eq_true, Bool.or_eq_true] at hb
  have hget : ∀ b, b < n → s'.heap[b]? = s.heap[b]? := fun b hb' => by rw [hh, List.getElem?_take, if_pos hb']
  refine ⟨fun b => if b < n then m b else none, hr.size, fun i => ?_, hr.defers, ⟨?_, ?_, ?_, ?_, ?_, ?_, ?_, ?_, ?_⟩, ?_⟩
  · rcases ht i with h1 | ⟨h1, h2⟩
    · rw [h1]; exact VR.dead
    · rw [h1]; exact (hr.tmps i).congr hag h2
  · intro b r h
    obtain ⟨h1, h2⟩ := hsub b r h
    obtain ⟨blk, g1, g2⟩ := hr.heap.reg b r h2
    exact ⟨blk, by rw [hget b h1]; exact g1, g2⟩
  · intro b blk h1 h2
    have hlt : b < n := by have := (List.getElem?_eq_some_iff.1 h1).1; rw [hh, List.length_take] at this; omega
    rw [hget b hlt] at h1
    obtain ⟨r, hr'⟩ := hr.heap.live b blk h1 h2
    exact ⟨r, by rw [if_pos hlt]; exact hr'⟩
  · intro b blk r i v h1 h2 h3
    obtain ⟨g1, g2⟩ := hsub b r h2
    have h1' := h1
    rw [hget b g1] at h1
    obtain ⟨v', g3, g4⟩ := hr.heap.cell b blk r i v h1 g2 h3
    refine ⟨v', g3, ?_⟩
    rcases hb blk (List.mem_of_getElem? h1') with hp | hp
    · have := hr.heap.pur b blk h1 hp v (List.mem_of_getElem? h3)
      rw [g4.pure this]; exact CR.of_pure this
    · exact g4.congr hag (hp v (List.mem_of_getElem? h3))
  · intro b blk h1 h2
    have hlt : b < n := by have := (List.getElem?_eq_some_iff.1 h1).1; rw [hh, List.length_take] at this; omega
    rw [hget b hlt] at h1
    exact hr.heap.pur b blk h1 h2
  · intro b r h hw
    exact hr.heap.own b r (hsub b r h).2 hw
  · intro b r h hw
    exact hr.heap.clean b r (hsub b r h).2 hw
  · intro b b' r r' hne h h' hw
    exact hr.heap.dis b b' r r' hne (hsub b r h).2 (hsub b' r' h').2 hw
  · exact hr.heap.glob
  · intro b r j h hw
    exact hr.heap.gwr b r j (hsub b r h).2 hw
  · refine ⟨hr.frame.os, hr.frame.tape, hr.frame.output, hr.frame.size, hr.frame.block, fun b r h hw hlt => hr.frame.reg b r (hsub b r h).2 hw hlt, fun b r h hk => ?_⟩
    have hb' : b < n := by
      rcases Nat.lt_or_ge b n0 with h1 | h1
      · omega
      · rw [h0 b h1] at h; cases h
    rw [if_pos hb']
    exact hr.frame.keep b r h hk

theorem WpL.loop {α : Type} {c : Code} (st : α → St) (φ : α → Prop) (μ : α → Nat) (x0 : α) (h0 : φ x0) (hs : Zbo G nt n0 s (st x0))
  (round : ∀ x, φ x → WpL P G nt n0 c (Zea (fun s1 => ∃ y, φ y ∧ μ y < μ x ∧ Zbo G nt n0 s1 (st y)) Q) (st x)) : WpL P G nt n0 (.loop c) Q s := by
 intro E m a w hE hr
 obtain ⟨m1, hr1⟩ := hs E m a w hE hr
 refine wp_loop_ghost (fun n a w => ∃ x m, φ x ∧ μ x = n ∧ SRel G nt E m (st x) a w) (μ x0) ⟨x0, m1, h0, rfl, hr1⟩ ?_
 rintro n a w ⟨x, m, hx, rfl, hr⟩
 refine wp_mono (round x hx E m a w hE hr) ?_
 rintro e a' w' ⟨s', m', h1, h2⟩
 cases e with
 | normal =>
  obtain ⟨y, hy1, hy2, hy3⟩ := h1
  obtain ⟨m2, hr2⟩ := hy3 E m' a' w' hE h2
  exact ⟨μ y, hy2, y, m2, hy1, rfl, hr2⟩
 | _ => exact ⟨s', m', h1, h2⟩


def Zf0 (P : Program) (G : Glob) (s : St) : ResultVar → Option Value
  | .tmp t => some (s.tmps t)
  | .cell p ty => Zdx P G ty s.heap (s.tmps p)
def rvM (a : Act) : ResultVar → Sem Value
  | .tmp t => pure (a.tmps.getD t undef)
  | .cell p t => do loadVar t (← asAddr (a.tmps.getD p undef))

theorem Zfd {E : Ent} {m : MapM} {a : Act} {w : World} (hr : SRel G nt E m s a w) {r : ResultVar} {v : Value} (h1 : Zf0 P G s r = some v) :
  ∃ v', (rvM a r).run P w = .ok v' w ∧ VR m v v' := by
 cases r with
 | tmp t =>
  simp only [Zf0, Option.some.injEq] at h1
  subst h1
  exact ⟨a.tmps.getD t undef, rfl, hr.tmps t⟩
 | cell p ty =>
  simp only [Zf0] at h1
  obtain ⟨u, f1, f2⟩ := Zoi hr.heap h1 (hr.tmps p)
  have hp : ∃ ad, a.tmps.getD p undef = .pointer (some ad) := by
   have hv := hr.tmps p
   unfold Zdx at h1
   split at h1
   ·rename_i ag n b o hk he
    rw [he] at hv
    obtain ⟨r, _, h3⟩ := hv
    exact ⟨_, h3⟩
   ·rename_i ag n b o q hk he
    rw [he] at hv
    exact ⟨_, hv⟩
   ·cases h1
  obtain ⟨ad, hp⟩ := hp
  rw [hp] at f1
  refine ⟨u, ?_, f2⟩
  simp only [Instr.loadAt, Instr.sureAddr, Sem.run_bind, Sem.run_pure, Result.andThen_ok] at f1
  simp only [rvM, Sem.run_bind, Sem.run_pure, Result.andThen_ok, hp, asAddr, f1]

def Zem (P : Program) (G : Glob) (fn : Func) (s : St) : Option Value :=
  match fn.results.toList with
  | [] => some (.tuple #[])
  | [r] => Zf0 P G s r
  | [r1, r2] => (Zf0 P G s r1).bind fun v1 => (Zf0 P G s r2).bind fun v2 => if Zik v1 || Zik v2 then none else some (.tuple #[v1, v2])
  | [r1, r2, r3] => (Zf0 P G s r1).bind fun v1 => (Zf0 P G s r2).bind fun v2 => (Zf0 P G s r3).bind fun v3 => if Zik v1 || Zik v2 || Zik v3 then none else some (.tuple #[v1, v2, v3])
  | _ => none

theorem Zdl {E : Ent} {m : MapM} {a : Act} {w : World} (hr : SRel G nt E m s a w) {fn : Func} {v : Value} (h : Zem P G fn s = some v) : ∃ v', (results fn a.tmps).run P w = .ok v' w ∧ VR m v v' := by
  have hres : results fn a.tmps = (do let vs ← fn.results.mapM (rvM a); pure (if h : vs.size = 1 then vs[0] else .tuple vs)) := by
    unfold results
    congr 1
  unfold Zem at h
  split at h
  · rename_i hl
    have : fn.results = #[] := by cases hh : fn.results; simp_all
    injection h with h; subst h
    exact ⟨.tuple #[], by rw [hres, this]; simp, by simp [VR]; exact L2.nil⟩
  · rename_i r hl
    have : fn.results = #[r] := by cases hh : fn.results; simp_all
    obtain ⟨v', f1, f2⟩ := Zfd hr h
    exact ⟨v', by rw [hres, this]; simp [f1], f2⟩
  · rename_i r1 r2 hl
    have : fn.results = #[r1, r2] := by cases hh : fn.results; simp_all
    cases h1 : Zf0 P G s r1 with
    | none => simp [h1] at h
    | some v1 =>
      cases h2 : Zf0 P G s r2 with
      | none => simp [h1, h2] at h
      | some v2 =>
        simp only [h1, h2, Option.bind_some] at h
        split at h
        · cases h
        · injection h with h; subst h
          obtain ⟨u1, f1, f2⟩ := Zfd hr h1
          obtain ⟨u2, g1, g2⟩ := Zfd hr h2
          rename_i hb
          simp only [Bool.or_eq_true, not_or, Bool.not_eq_true] at hb
          rw [Zf5 hb.1] at f2
          rw [Zf5 hb.2] at g2
          exact ⟨.tuple #[u1, u2], by rw [hres, this]; simp [f1, g1], _, rfl, L2.cons f2 (L2.cons g2 L2.nil)⟩
  · rename_i r1 r2 r3 hl
    have : fn.results = #[r1, r2, r3] := by cases hh : fn.results; simp_all
    cases h1 : Zf0 P G s r1 with
    | none => simp [h1] at h
    | some v1 =>
      cases h2 : Zf0 P G s r2 with
      | none => simp [h1, h2] at h
      | some v2 =>
        cases h3 : Zf0 P G s r3 with
        | none => simp [h1, h2, h3] at h
        | some v3 =>
        simp only [h1, h2, h3, Option.bind_some] at h
        split at h
        · cases h
        · injection h with h; subst h
          obtain ⟨u1, f1, f2⟩ := Zfd hr h1
          obtain ⟨u2, g1, g2⟩ := Zfd hr h2
          obtain ⟨u3, k1, k2⟩ := Zfd hr h3
          rename_i hb
          simp only [Bool.or_eq_true, not_or, Bool.not_eq_true] at hb
          rw [Zf5 hb.1.1] at f2
          rw [Zf5 hb.1.2] at g2
          rw [Zf5 hb.2] at k2
          exact ⟨.tuple #[u1, u2, u3], by rw [hres, this]; simp [f1, g1, k1], _, rfl, L2.cons f2 (L2.cons g2 (L2.cons k2 L2.nil))⟩
  · cases h

end
end Go.Flat
end
section
/- A contract out of a Zbu; rules on forgetting. -/
namespace Go.Flat
section
variable {P : Program} {G : Glob}

structure FirstOK (H : List Blk) (e : Emb) (σ σ' : List Blk) : Prop where
  le : σ.length ≤ σ'.length
  at_ : ∀ (b : Nat) (L : Blk), b < σ.length → σ'[b]? = some L → ∃ B, H[b]? = some B ∧ e[b]? = some (some (b, 0)) ∧ L.wr = B.wr ∧ L.fix = B.fix ∧ L.mv = B.mv ∧ L.sz = B.sz ∧ L.cells.length = B.cells.length

def Zpc (e : Emb) (res v : Value) : Prop := match res with
  | .tuple xs => (match v with | .tuple ys => Zjs e xs.toList ys.toList | _ => False)
  | res => Zjx e res v
structure EndOK (P : Program) (G : Glob) (fn : Func) (σ : List Blk) (res : Value) (σ' : List Blk) (s : St) (v : Value) (e : Emb) : Prop where
  out : Zem P G fn s = some v
  emb : EmbOK s.heap e σ'
  nm : ∀ (i : Nat) (L : Blk), σ'[i]? = some L → L.pur = true ∨ ∀ v, v ∈ L.cells → Za9 (inE e) v = true
  val : Zpc e res v
  first : FirstOK s.heap e σ σ'

theorem Zxz {e : Emb} {x y : Value} (h : Zjx e x y) : Zik x = false := by
  cases x
  case tuple => unfold Zjx at h; split at h
                · rename_i hp; cases hp
                · cases h
  all_goals rfl
theorem Z0v {e : Emb} {x y : Value} (h : Zjx e x y) : Zik y = false := by
 have hx := Zxz h
 unfold Zjx at h
 split at h
 ·subst h; exact hx
 ·split at h
  ·split at h
   ·rfl
   ·cases h
  ·cases h
  ·rename_i hna hnt
   have h1 : Zhu x = false := by cases x <;> first | rfl | exact absurd rfl (hna _)
   exact (Zra h h1 hx).2
theorem Zto {mc : MapM} {H : List Blk} {G : Glob} {w : World} {e : Emb} {σ : List Blk} (hH : HRel G mc H w) (hE : EmbOK H e σ) : ∀ (xs ys zs : List Value), Zjs e xs ys → L2 (VR1 mc) ys zs → L2 (VR1 (mE mc e σ)) xs zs
 | [], [], zs, _, h => by have := h.nil_inv; subst this; exact L2.nil
 | x :: xs, y :: ys, zs, ha, h => by
  obtain ⟨z, zs', rfl, h1, h2⟩ := h.inv
  refine L2.cons ?_ (Zto hH hE xs ys zs' ha.2 h2)
  have := Zv9 hH hE ha.1 (v' := z) (by rw [Zf5 (Z0v ha.1)]; exact h1)
  rw [Zf5 (Zxz ha.1)] at this; exact this
 | [], _ :: _, _, ha, _ => ha.elim
 | _ :: _, [], _, ha, _ => ha.elim

theorem EndOK.back {mc : MapM} {w' : World} {fn : Func} {σ σ' : List Blk} {res v v' : Value} {s : St} {e : Emb} {m : MapM} {w : World} {ds ds' : List Deferred}
    (h : EndOK P G fn σ res σ' s v e) (hm : ∀ b, σ.length ≤ b → m b = none) (hH : HRel G mc s.heap w') (hF : Frame ⟨m, w, ds⟩ mc w') (hv : VR mc v v') :
    HRel G (mE mc e σ') σ' w' ∧ VR (mE mc e σ') res v' ∧ Frame ⟨m, w, ds'⟩ (mE mc e σ') w' := by
  refine ⟨hH.embed h.emb h.nm, ?_, ?_⟩
  · have h1 := h.val
    unfold Zpc at h1
    split at h1
    · split at h1
      · obtain ⟨ys', rfl, h2⟩ := hv
        exact ⟨ys', rfl, Zto hH h.emb _ _ _ h1 h2⟩
      · cases h1
    · exact Zv9 hH h.emb h1 hv
  · refine ⟨hF.os, hF.tape, hF.output, hF.size, hF.block, ?_, ?_⟩
    · intro b r hr hw hlt
      rcases Zfh h.emb hr with ⟨id, sh, L, r0, B, h1, h2, h3, rfl, hB, _⟩ | ⟨L, h1, h2, rfl, hw', _⟩
      · unfold Zc4 at hw hlt ⊢
        by_cases hL : L.wr = true
        · rw [if_pos hL] at hw hlt ⊢
          exact hF.reg id r0 h3 hw hlt
        · rw [if_neg hL] at hw; cases hw
      · simp only [Zei] at hw; rw [hw'] at hw; cases hw
    · intro b r hr hk
      have hb : b < σ.length := by
        rcases Nat.lt_or_ge b σ.length with h1 | h1
        · exact h1
        · have := hm b h1
          simp only at hr
          rw [this] at hr; cases hr
      have hlt : b < σ'.length := by have := h.first.le; omega
      obtain ⟨B, h1, h2, h3, h4, h5, h6, h7⟩ := h.first.at_ b _ hb (by simp [hlt] : σ'[b]? = some σ'[b])
      have hk' := hF.keep b r hr hk
      obtain ⟨_, g1, g2, g3, g4, g5⟩ := hH.at_ h1 hk'
      rw [Zk0 h2 (by simp [hlt] : σ'[b]? = some σ'[b]), hk', Option.map_some]
      congr 1
      unfold Zc4
      obtain ⟨rg, rlo, rhi, rlen, rsz, rwr, rfix, rmv⟩ := r
      simp only at g1 g2 g3 g4 g5
      split
      · rw [h5, g5]
      · rename_i hw
        rw [h3] at hw
        simp only [h7, g3, h6, g4, h4, g2, h5, g5, Nat.add_zero]
        congr 1
        rw [g1]
        cases hB : B.wr with
        | false => rfl
        | true => exact absurd hB hw

def Zht (args : List Value) : Nat → Value := fun i => (args[i]?).getD undef

theorem L2.at_ {α β : Type} {R : α → β → Prop} {xs : List α} {ys : List β} (h : L2 R xs ys) (i : Nat) : (∃ x y, xs[i]? = some x ∧ ys[i]? = some y ∧ R x y) ∨ (xs[i]? = none ∧ ys[i]? = none) := by
 rcases Nat.lt_or_ge i xs.length with hi | hi
 ·have hj : i < ys.length := by rw [← h.1]; exact hi
  exact .inl ⟨xs[i], ys[i], by simp [hi], by simp [hj], h.2 i _ _ (by simp [hi]) (by simp [hj])⟩
 ·exact .inr ⟨by simp [hi], by have := h.1; simp; omega⟩

def Zqb (P : Program) (G : Glob) (fn : Func) (σ : List Blk) (res : Value) (σ' : List Blk) : Exit → St → Prop
  | .normal, s | .ret, s => ∃ v e, EndOK P G fn σ res σ' s v e
  | _, _ => False

theorem Z9.intro {f : FuncId} {fn : Func} {c : Code} {args : List Value} {σ σ' : List Blk} {res : Value} (hf : P.funcs[f]? = some fn) (hb : fn.body = some c) (hn : args.length ≤ fn.ntmps)
  (h : WpL P G fn.ntmps σ.length c (Zqb P G fn σ res σ') ⟨Zht args, σ⟩) : Z9 P G f args σ res σ' := by
 intro m w args' hH hA
 refine calls_of_wp hf hb ?_
 have hl := hA.1
 have hdom : ∀ b, σ.length ≤ b → m b = none := fun b hb => hH.dom hb
 have h0 := h ⟨m, w, []⟩ m { tmps := args'.toArray ++ Array.replicate (fn.ntmps - args'.toArray.size) undef, defers := [] } w hdom
  ⟨by simp; omega, fun i => by
   rcases hA.at_ i with ⟨x, y, h1, h2, h3⟩ | ⟨h1, h2⟩
   ·have hi : i < args'.length := (List.getElem?_eq_some_iff.1 h2).1
    simp only [Zht, h1, Option.getD_some]
    rw [Array.getD_eq_getD_getElem?, Array.getElem?_append_left (by simpa using hi)]
    simp only [List.getElem?_toArray, h2, Option.getD_some]
    exact h3
   ·simp only [Zht, h1, Option.getD_none]
    have : args'.length ≤ i := by simpa using h2
    rw [Array.getD_eq_getD_getElem?, Array.getElem?_append_right (by simpa using this)]
    rw [Array.getElem?_replicate]
    split <;> exact VR.undef, rfl, hH, Frame.refl [] hH⟩
 refine wp_mono h0 ?_
 rintro e a w' ⟨s, m', hq, hr⟩
 have key : (∃ v e, EndOK P G fn σ res σ' s v e) → a.defers = [] ∧ ∃ v, (results fn a.tmps).run P w' = .ok v w' ∧ ∃ v' m', Ending.returned v = .returned v' ∧ HRel G m' σ' w' ∧ VR m' res v' ∧ Frame ⟨m, w, []⟩ m' w' := by
  rintro ⟨v, e, hE⟩
  obtain ⟨v', g1, g2⟩ := Zdl hr hE.out
  obtain ⟨k1, k2, k3⟩ := hE.back hdom hr.heap hr.frame g2 (ds' := [])
  exact ⟨hr.defers, v', g1, v', _, rfl, k1, k2, k3⟩
 cases e with
 | normal => exact key hq
 | ret => exact key hq
 | _ => exact hq.elim

end
end Go.Flat
end
section
/- Rules in the form in which the walks use them. -/
namespace Go.Flat
section
variable {P : Program} {G : Glob} {nt : Nat} {ops : Array Oper} {K : Trace → St → Prop} {o : Oper} {l : List Oper} {tr : Trace} {T : Nat → Value} {H : List Blk}

theorem Zbv.val {v : Value} {d : Tmp} (h : Zau P G nt ops o ⟨T, H⟩ { val := v }) (hd : o.dst = some d) (k : Zbv P G nt ops K l (tr ++ [(o, { val := v })]) ⟨upd T d v, H⟩) : Zbv P G nt ops K (o :: l) tr ⟨T, H⟩ :=
 ⟨_, h, by simpa [Delta.apply, Zd7, hd, St.put] using k⟩
theorem Zbv.valF {v : Value} {d : Tmp} {foot : List Nat} (h : Zau P G nt ops o ⟨T, H⟩ { val := v, foot := foot }) (hd : o.dst = some d) (k : Zbv P G nt ops K l (tr ++ [(o, { val := v, foot := foot })]) ⟨upd T d v, H⟩) : Zbv P G nt ops K (o :: l) tr ⟨T, H⟩ :=
 ⟨_, h, by simpa [Delta.apply, Zd7, hd, St.put] using k⟩
theorem Zbv.sto {v : Value} {b : Nat} {x : Blk} {foot : List Nat} {H' : List Blk} (h : Zau P G nt ops o ⟨T, H⟩ { val := v, sets := [(b, x)], foot := foot }) (hd : o.dst = none) (hH : Zfn H b x = H') (k : Zbv P G nt ops K l (tr ++ [(o, { val := v, sets := [(b, x)], foot := foot })]) ⟨T, H'⟩) : Zbv P G nt ops K (o :: l) tr ⟨T, H⟩ :=
 ⟨_, h, by subst hH; simpa [Delta.apply, Zd7, hd, St.put] using k⟩
theorem Zbv.new {v : Value} {d : Tmp} {b : Nat} {x : Blk} {foot : List Nat} {H' : List Blk} (h : Zau P G nt ops o ⟨T, H⟩ { val := v, sets := [(b, x)], foot := foot }) (hd : o.dst = some d) (hH : Zfn H b x = H') (k : Zbv P G nt ops K l (tr ++ [(o, { val := v, sets := [(b, x)], foot := foot })]) ⟨upd T d v, H'⟩) : Zbv P G nt ops K (o :: l) tr ⟨T, H⟩ :=
 ⟨_, h, by subst hH; simpa [Delta.apply, Zd7, hd, St.put] using k⟩
theorem Zbv.skip {d : Tmp} (hg : Zds nt ⟨T, H⟩ (Zdz ops o) = some false) (hn : Zb1 nt o.dst = true) (hd : o.dst = some d) (k : Zbv P G nt ops K l (tr ++ [(o, { val := undef })]) ⟨upd T d undef, H⟩) : Zbv P G nt ops K (o :: l) tr ⟨T, H⟩ :=
 Zbv.val (Zau.skip hg hn) hd k
theorem Zbv.done {s : St} (h : K tr s) : Zbv P G nt ops K [] tr s := h


section
variable {op : BinOp} {t : TypeId} {x y : Operand} {k : IntKind} {a b : Int}
theorem Zri (op : BinOp) (t : TypeId) (x y : Operand) (k k' : IntKind) (a b : Int) : eqGuard op t x y (.int k a) (.int k' b) = pure () := by cases op <;> rfl
theorem Zdu {v : Value} (h : Z3 P (binOp op t (.int k a) (.int k b)) = some v) (hp : Zbl v = true) : Zb0 P op t x y (.int k a) (.int k b) = some v := by
 unfold Zb0
 rw [if_pos (show (Zbl (.int k a) && Zbl (.int k b)) = true from rfl), Zri, Z7, Z8, Option.bind_some, h, Option.bind_some, if_pos hp]
theorem Zx6 : Zb0 P .lss t x y (.int k a) (.int k b) = some (.bool (decide (a < b))) := Zdu (by simp [binOp, Op.intCmp, Z8]) rfl
theorem Zx5 : Zb0 P .leq t x y (.int k a) (.int k b) = some (.bool (decide (a ≤ b))) := Zdu (by simp [binOp, Op.intCmp, Z8]) rfl
theorem Zx4 : Zb0 P .gtr t x y (.int k a) (.int k b) = some (.bool (decide (b < a))) := Zdu (by simp [binOp, Op.intCmp, Z8]) rfl
theorem Zx3 : Zb0 P .geq t x y (.int k a) (.int k b) = some (.bool (decide (b ≤ a))) := Zdu (by simp [binOp, Op.intCmp, Z8]) rfl
theorem Zsh : Zb0 P .eql t x y (.int k a) (.int k b) = some (.bool (decide (a = b))) := Zdu (by simp [binOp, Op.intCmp, Z8]; rfl) rfl
theorem Zx8 : Zb0 P .neq t x y (.int k a) (.int k b) = some (.bool (decide (a ≠ b))) := Zdu (by simp [binOp, Op.intCmp, Z8]; by_cases h : a = b <;> simp [h]) rfl
theorem Zi4 {n : Int} (h1 : -9223372036854775808 ≤ n) (h2 : n ≤ 9223372036854775807) : IntKind.i64.wrap n = n := by
 simp only [IntKind.wrap, IntKind.bits, IntKind.signed, Bool.true_and]
 split
 ·rename_i h; simp at h; omega
 ·rename_i h; simp at h; omega
theorem Za0 {c : Int} (hc : a + b = c) (h1 : -9223372036854775808 ≤ c) (h2 : c ≤ 9223372036854775807) : Zb0 P .add t x y (.int .i64 a) (.int .i64 b) = some (.int .i64 c) := Zdu (by subst hc; simp [binOp, Op.intArith, Z8, Zi4 h1 h2]) rfl
theorem Zdg {c : Int} (hc : a - b = c) (h1 : -9223372036854775808 ≤ c) (h2 : c ≤ 9223372036854775807) : Zb0 P .sub t x y (.int .i64 a) (.int .i64 b) = some (.int .i64 c) := Zdu (by subst hc; simp [binOp, Op.intArith, Z8, Zi4 h1 h2]) rfl
theorem Zx7 {c : Int} (hc : a * b = c) (h1 : -9223372036854775808 ≤ c) (h2 : c ≤ 9223372036854775807) : Zb0 P .mul t x y (.int .i64 a) (.int .i64 b) = some (.int .i64 c) := Zdu (by subst hc; simp [binOp, Op.intArith, Z8, Zi4 h1 h2]) rfl
end
theorem Zeu {b : Bool} : unD P .not (.bool b) = some (.bool !b) := by
 unfold unD
 rw [if_pos (show Zbl (.bool b) = true from rfl)]
 rfl
end
end Go.Flat
end
section
/- Rules in the form in which the walks use them, II. -/
namespace Go.Flat
section
variable {P : Program} {G : Glob} {nt n0 : Nat} {ops : Array Oper} {o : Oper} {s : St} {Q : Exit → St → Prop} {x y z : Code} {c : Operand}


theorem Zqo {next : St → Prop} {e : Exit} (h : Q e s) (he : e ≠ .normal) : Zea next Q e s := by cases e <;> first | exact h | exact absurd rfl he
theorem Zr4 {next : St → Prop} {e : Exit} (h : Zea next Q e s) : (e = .normal ∧ next s) ∨ (e ≠ .normal ∧ Q e s) := by cases e <;> first | exact .inl ⟨rfl, h⟩ | exact .inr ⟨by simp, h⟩
theorem Z7b (h : WpL P G nt n0 x (Zea (WpL P G nt n0 y Q) Q) s) : WpL P G nt n0 (.seq x y) Q s :=
 WpL.seq fun K hK => h.mono fun e s hq => by
  rcases Zr4 hq with ⟨rfl, h1⟩ | ⟨h1, h2⟩
  ·exact hK _ h1
  ·exact Zqo h2 h1
theorem Z7s {i : Nat} (h : Q .normal s) : Zed i Q (.exit i) s := by simp only [Zed, if_pos]; exact h
theorem Z7t {i j : Nat} (hne : (j == i) = false) (h : Q (.exit j) s) : Zed i Q (.exit j) s := by
 simp only [Zed]; rw [if_neg (by simpa using hne)]; exact h

section
variable {op : BinOp} {t : TypeId} {u v : Operand} {k : IntKind} {a b : Int}
theorem Zdd (h : a < b) : Zb0 P .lss t u v (.int k a) (.int k b) = some (.bool true) := by rw [Zx6]; simp [h]
theorem Zcw (h : ¬ a < b) : Zb0 P .lss t u v (.int k a) (.int k b) = some (.bool false) := by rw [Zx6]; simp [h]
theorem Zup (h : a ≤ b) : Zb0 P .leq t u v (.int k a) (.int k b) = some (.bool true) := by rw [Zx5]; simp [h]
theorem Zuo (h : ¬ a ≤ b) : Zb0 P .leq t u v (.int k a) (.int k b) = some (.bool false) := by rw [Zx5]; simp [h]
theorem Ze3 (h : b < a) : Zb0 P .gtr t u v (.int k a) (.int k b) = some (.bool true) := by rw [Zx4]; simp [h]
theorem Ze2 (h : ¬ b < a) : Zb0 P .gtr t u v (.int k a) (.int k b) = some (.bool false) := by rw [Zx4]; simp [h]
theorem Zgy (h : b ≤ a) : Zb0 P .geq t u v (.int k a) (.int k b) = some (.bool true) := by rw [Zx3]; simp [h]
theorem Zhi (h : ¬ b ≤ a) : Zb0 P .geq t u v (.int k a) (.int k b) = some (.bool false) := by rw [Zx3]; simp [h]
theorem Zeb (h : a = b) : Zb0 P .eql t u v (.int k a) (.int k b) = some (.bool true) := by rw [Zsh]; simp [h]
theorem Zgm (h : ¬ a = b) : Zb0 P .eql t u v (.int k a) (.int k b) = some (.bool false) := by rw [Zsh]; simp [h]
theorem Zd6 (h : a = b) : Zb0 P .neq t u v (.int k a) (.int k b) = some (.bool false) := by rw [Zx8]; simp [h]
theorem Zek (h : ¬ a = b) : Zb0 P .neq t u v (.int k a) (.int k b) = some (.bool true) := by rw [Zx8]; simp [h]
end
def Z7r : Op → Option Operand | .move x | .assign x => some x | _ => none
section
variable {K : Trace → St → Prop} {l : List Oper} {tr : Trace} {T : Nat → Value} {H : List Blk}
theorem Z4c (hg : Zds nt s (Zdz ops o) = some true) (hd : Zb1 nt o.dst = true) {f : Operand} {args : Array Operand} {ts : Array TypeId} {k : FuncId} (ho : o.op = .call { callee := .value f, args := args, argTypes := ts })
  (hf : s.eval f = .func (.func k) #[] #[]) (hk : Zc6 P k = true) {vals : List Value} {res res' : Value} (hC : Z9 P G k vals [] res []) (ha : args.toList.map s.eval = vals) (hp : vals.all Zbl = true) (hr : Zs6 [] res = res') : Zau P G nt ops o s { val := res' } := by
 subst hr
 have hA : ∀ l : List Value, l.all Zbl = true → Zjs [] l l := by
  intro l
  induction l with
  | nil => exact fun _ => trivial
  | cons v l ih =>
   intro h
   simp only [List.all_cons, Bool.and_eq_true] at h
   exact ⟨by unfold Zjx; rw [if_pos h.1], ih h.2⟩
 have := Z1w (P := P) (G := G) (nt := nt) (ops := ops) (o := o) (s := s) hg hd ho hf ⟨rfl, rfl⟩ hk hC [] 0 ⟨by simpa [ha] using hA vals hp, trivial, rfl, rfl, by simp [Zic], by simp [Zbp]⟩
 simpa [Zh1, Zcn, Zfl, Zrj, Zbp] using this
end


theorem Z7y {fn : Func} {σ σ' : List Blk} {res v : Value} (e : Emb) (hr : Zem P G fn s = some v) (he : Zii s.heap e e σ') (hd : Zj6 e σ' = true) (hn : Zg4 e σ' = true) (hv : Zpc e res v) (hf : FirstOK s.heap e σ σ') : ∃ v e, EndOK P G fn σ res σ' s v e := by
 obtain ⟨h1, h2⟩ := Zg1 he
 refine ⟨v, e, hr, ⟨h1, h2, Zsm (H := s.heap) hd⟩, fun i L hL => ?_, hv, hf⟩
 unfold Zg4 at hn
 simp only [List.all_eq_true, Bool.or_eq_true] at hn
 exact hn L (List.mem_of_getElem? hL)
theorem Z6x {fn : Func} {res v : Value} (hr : Zem P G fn s = some v) (hv : Zpc [] res v) : ∃ v e, EndOK P G fn [] res [] s v e :=
 Z7y [] hr trivial rfl rfl hv ⟨Nat.le_refl _, fun b L hb => by simp at hb⟩
theorem Zet {fn : Func} {res v : Value} (hr : Zem P G fn s = some v) (hp : Zbl res = true) (hv : res = v) : ∃ v e, EndOK P G fn [] res [] s v e := by
  refine Z6x hr ?_
  subst hv
  have ht := Zg3 hp
  cases res <;> first | (show Zjx _ _ _; unfold Zjx; rw [if_pos hp]) | cases ht
theorem Z54 (hg : Zds nt s (Zdz ops o) = some true) (hd : Zb1 nt o.dst = true) {op : BinOp} {t yt : TypeId} {x y : Operand} {v vx vy : Value} (ho : o.op = .binOp op t x y yt) (hx : s.eval x = vx) (hy : s.eval y = vy) (h : Zb0 P op t x y vx vy = some v) : Zau P G nt ops o s { val := v } :=
 Z61 hg hd ho (by rw [hx, hy]; exact h)
end
end Go.Flat
end
section
/- The rules of the walks, told apart by their heads. -/
namespace Go.Flat
structure C (P : Program) (G : Glob) (nt n0 : Nat) (c : Code) (Q : Exit → St → Prop) (s : St) : Prop where
  h : WpL P G nt n0 c Q s
structure X (Q : Exit → St → Prop) (e : Exit) (s : St) : Prop where
  h : Q e s
structure R (P : Program) (G : Glob) (nt : Nat) (ops : List Oper) (K : Trace → St → Prop) (l : List Oper) (tr : Trace) (T : Nat → Value) (H : List Blk) : Prop where
  h : Zbv P G nt ops.toArray K l tr ⟨T, H⟩
def Z0s (P : Program) (G : Glob) (nt n0 : Nat) (c : Code) (Q : Exit → St → Prop) : Exit → St → Prop := Zea (C P G nt n0 c Q) Q

section
variable {P : Program} {G : Glob} {nt n0 : Nat} {Q : Exit → St → Prop} {s : St} {x y z : Code} {c : Operand}
theorem Ze (h : C P G nt n0 x (Z0s P G nt n0 y Q) s) : C P G nt n0 (.seq x y) Q s := ⟨Z7b (h.h.mono fun e s hq => by
 rcases Zr4 hq with ⟨rfl, h1⟩ | ⟨h1, h2⟩
 ·exact h1.h
 ·exact Zqo h2 h1)⟩
theorem Zf {i : Nat} {L : List Oper} {T : Nat → Value} {H : List Blk} (h : R P G nt L (fun _ s => X Q .normal s) L [] T H) : C P G nt n0 (.region i L.toArray false) Q ⟨T, H⟩ := ⟨WpL.region (by
 have : ∀ (l : List Oper) (tr : Trace) (s : St), Zbv P G nt L.toArray (fun _ s => X Q .normal s) l tr s → Zbv P G nt L.toArray (fun _ s => Q .normal s) l tr s := by
  intro l
  induction l with
  | nil => exact fun tr s h => h.h
  | cons o l ih => exact fun tr s ⟨δ, h1, h2⟩ => ⟨δ, h1, ih _ _ h2⟩
 exact this _ _ _ h.h)⟩
theorem Zer {i : Nat} {L : List Oper} (hm : P.follows .mixedOrders = true) {T : Nat → Value} {H : List Blk} (h : R P G nt L (fun tr s' => Zev L.toArray tr H.length = true ∧ X Q .normal s') L [] T H) : C P G nt n0 (.region i L.toArray true) Q ⟨T, H⟩ := ⟨WpL.drawn hm (by
 have : ∀ (l : List Oper) (tr : Trace) (s1 : St), Zbv P G nt L.toArray (fun tr s' => Zev L.toArray tr H.length = true ∧ X Q .normal s') l tr s1 → Zbv P G nt L.toArray (fun tr s' => Zev L.toArray tr H.length = true ∧ Q .normal s') l tr s1 := by
  intro l
  induction l with
  | nil => exact fun tr s h => ⟨h.1, h.2.h⟩
  | cons o l ih => exact fun tr s ⟨δ, h1, h2⟩ => ⟨δ, h1, ih _ _ h2⟩
 exact this _ _ _ h.h)⟩
theorem Z0 (h : X Q .normal s) : C P G nt n0 .skip Q s := ⟨WpL.skip h.h⟩
theorem Zoy {i : Nat} (h : X Q .normal s) : C P G nt n0 (.label i) Q s := ⟨WpL.label h.h⟩
theorem Zbn {i : Nat} (h : X Q (.exit i) s) : C P G nt n0 (.exit i) Q s := ⟨WpL.exit h.h⟩
theorem Zs (h : X Q .ret s) : C P G nt n0 .ret Q s := ⟨WpL.ret h.h⟩
theorem Zv (hc : s.eval c = .bool true) (h : C P G nt n0 x Q s) : C P G nt n0 (.cond c x y) Q s := ⟨WpL.cond_t hc h.h⟩
theorem Zt (hc : s.eval c = .bool false) (h : C P G nt n0 y Q s) : C P G nt n0 (.cond c x y) Q s := ⟨WpL.cond_f hc h.h⟩
theorem Z5 {i : Nat} (h : C P G nt n0 x (Zed i Q) s) : C P G nt n0 (.block i x) Q s := ⟨WpL.block h.h⟩
theorem Zb5 {s' : St} (hw : Zbo G nt n0 s s') (h : C P G nt n0 x Q s') : C P G nt n0 x Q s := ⟨WpL.weak hw h.h⟩
theorem Zaj (n : Nat) {T : Nat → Value} {H H' : List Blk} (hH : H ++ List.replicate n hole = H') (h : C P G nt n0 x Q ⟨T, H'⟩) : C P G nt n0 x Q ⟨T, H⟩ := by subst hH; exact Zb5 (Zbo.reserve ⟨T, H⟩ n) h
theorem Zc (h : C P G nt n0 x Q s) : X (Z0s P G nt n0 x Q) .normal s := ⟨h⟩
theorem Zat {i : Nat} (h : X Q (.exit i) s) : X (Z0s P G nt n0 x Q) (.exit i) s := ⟨h.h⟩
theorem Zaa (h : X Q .ret s) : X (Z0s P G nt n0 x Q) .ret s := ⟨h.h⟩
theorem Zay {i j : Nat} (he : (j == i) = true) (h : X Q .normal s) : X (Zed i Q) (.exit j) s := by
 have : j = i := by simpa using he
 subst this; exact ⟨Z7s h.h⟩
theorem Zhs {i j : Nat} (he : (j == i) = false) (h : X Q (.exit j) s) : X (Zed i Q) (.exit j) s := ⟨Z7t he h.h⟩
theorem Zz {i : Nat} (h : X Q .normal s) : X (Zed i Q) .normal s := ⟨h.h⟩
theorem Zct {i : Nat} (h : X Q .ret s) : X (Zed i Q) .ret s := ⟨h.h⟩
theorem Zu {fn : Func} {σ σ' : List Blk} {res : Value} (h : ∃ v e, EndOK P G fn σ res σ' s v e) : X (Zqb P G fn σ res σ') .ret s := ⟨h⟩
theorem Zkr {fn : Func} {σ σ' : List Blk} {res : Value} (h : ∃ v e, EndOK P G fn σ res σ' s v e) : X (Zqb P G fn σ res σ') .normal s := ⟨h⟩
theorem Zbu {f : FuncId} {fn : Func} {c : Code} {args : List Value} {σ σ' : List Blk} {res : Value} (hf : P.funcs[f]? = some fn) (hb : fn.body = some c) {nt : Nat} (hn : fn.ntmps = nt) (hl : decide (args.length ≤ nt) = true)
  (h : C P G nt σ.length c (Zqb P G fn σ res σ') ⟨Zht args, σ⟩) : Z9 P G f args σ res σ' := by subst hn; exact Z9.intro hf hb (by simpa using hl) h.h
theorem Z5v {α : Type} (st : α → St) (φ : α → Prop) (μ : α → Nat) (x0 : α) (h0 : φ x0) (hs : Zbo G nt n0 s (st x0))
  (round : ∀ x, φ x → C P G nt n0 y (Zea (fun s1 => ∃ y, φ y ∧ μ y < μ x ∧ Zbo G nt n0 s1 (st y)) Q) (st x)) : C P G nt n0 (.loop y) Q s := ⟨WpL.loop st φ μ x0 h0 hs fun x hx => (round x hx).h⟩
theorem Zas {next : St → Prop} (h : next s) : X (Zea next Q) .normal s := ⟨h⟩
theorem Zy2 {next : St → Prop} {e : Exit} (he : (match e with | .normal => false | _ => true) = true) (h : X Q e s) : X (Zea next Q) e s := ⟨Zqo h.h (by cases e <;> simp at he ⊢)⟩


variable {ops l : List Oper} {K : Trace → St → Prop} {tr : Trace} {T : Nat → Value} {H H' : List Blk} {d : Tmp} {ty : TypeId} {ps : String} {af : Array Edge} {g : Option (Nat × Bool)}
theorem Zkj (h : K tr ⟨T, H⟩) : R P G nt ops K [] tr T H := ⟨h⟩
def gd (nt : Nat) (T : Nat → Value) (ops : List Oper) : Option (Nat × Bool) → Option Bool
  | none => some true
  | some (j, want) => match (ops[j]?).bind (·.dst) with
    | none => some false
    | some t => if t < nt then (match T t with | .bool b => some (b == want) | .tuple _ => some false | _ => none) else some false
theorem Zc7 {o : Oper} : Zds nt ⟨T, H⟩ (Zdz ops.toArray o) = gd nt T ops o.guard := by
 unfold Zdz gd
 cases h : o.guard with
 | none => rfl
 | some p =>
  obtain ⟨j, want⟩ := p
  simp only [Option.map_some, List.getElem?_toArray]
  cases (ops[j]?).bind (·.dst) <;> rfl
theorem Zlv {op : Op} (hg : gd nt T ops g = some false) (hd : Zb1 nt (some d) = true) (k : R P G nt ops K l (tr ++ [(⟨some d, op, ty, ps, af, g⟩, { val := undef })]) (upd T d undef) H) : R P G nt ops K (⟨some d, op, ty, ps, af, g⟩ :: l) tr T H :=
 ⟨Zbv.val (Zau.skip (by rw [Zc7]; exact hg) hd) rfl k.h⟩
section
variable {nid : Nat} (hg : gd nt T ops g = some true) (hd : Zb1 nt (some d) = true)
include hg hd
theorem Zan {x : Operand} (v : Value) (h : St.eval ⟨T, H⟩ x = v) (k : R P G nt ops K l (tr ++ [(⟨some d, .move x, ty, ps, af, g⟩, { val := v })]) (upd T d v) H) : R P G nt ops K (⟨some d, .move x, ty, ps, af, g⟩ :: l) tr T H :=
 ⟨Zbv.val (Z1y (by rw [Zc7]; exact hg) hd (.inl rfl) h) rfl k.h⟩
theorem Zak {x : Operand} (v : Value) (h : St.eval ⟨T, H⟩ x = v) (k : R P G nt ops K l (tr ++ [(⟨some d, .assign x, ty, ps, af, g⟩, { val := v })]) (upd T d v) H) : R P G nt ops K (⟨some d, .assign x, ty, ps, af, g⟩ :: l) tr T H :=
 ⟨Zbv.val (Z1y (by rw [Zc7]; exact hg) hd (.inr rfl) h) rfl k.h⟩
theorem Zgx {c x y : Operand} (v : Value) (h : Zrs ⟨T, H⟩ c x y = some v) (k : R P G nt ops K l (tr ++ [(⟨some d, .pick c x y, ty, ps, af, g⟩, { val := v })]) (upd T d v) H) : R P G nt ops K (⟨some d, .pick c x y, ty, ps, af, g⟩ :: l) tr T H :=
 ⟨Zbv.val (Z59 (by rw [Zc7]; exact hg) hd rfl h) rfl k.h⟩
theorem Zj {op : BinOp} {t yt : TypeId} {x y : Operand} (v : Value) {vx vy : Value} (hx : St.eval ⟨T, H⟩ x = vx) (hy : St.eval ⟨T, H⟩ y = vy) (h : Zb0 P op t x y vx vy = some v) (k : R P G nt ops K l (tr ++ [(⟨some d, .binOp op t x y yt, ty, ps, af, g⟩, { val := v })]) (upd T d v) H) : R P G nt ops K (⟨some d, .binOp op t x y yt, ty, ps, af, g⟩ :: l) tr T H :=
 ⟨Zbv.val (Z54 (by rw [Zc7]; exact hg) hd rfl hx hy h) rfl k.h⟩
theorem Zi1 {op : UnOp} {t : TypeId} {x : Operand} (v : Value) {vx : Value} (hx : St.eval ⟨T, H⟩ x = vx) (h : unD P op vx = some v) (k : R P G nt ops K l (tr ++ [(⟨some d, .unOp op t x, ty, ps, af, g⟩, { val := v })]) (upd T d v) H) : R P G nt ops K (⟨some d, .unOp op t x, ty, ps, af, g⟩ :: l) tr T H :=
 ⟨Zbv.val (l_un (by rw [Zc7]; exact hg) hd rfl (by rw [hx]; exact h)) rfl k.h⟩
theorem Za2 {t : TypeId} {x : Operand} {f n b o o' : Nat} {q : Option Nat} (hx : St.eval ⟨T, H⟩ x = .pointer (some ⟨b, o, q⟩)) (hn : Z4m P t f = some n) (ho : o + n = o') (k : R P G nt ops K l (tr ++ [(⟨some d, .fieldAddr t x f, ty, ps, af, g⟩, { val := .pointer (some ⟨b, o', q⟩) })]) (upd T d (.pointer (some ⟨b, o', q⟩))) H) : R P G nt ops K (⟨some d, .fieldAddr t x f, ty, ps, af, g⟩ :: l) tr T H :=
 ⟨Zbv.val (Zul (by rw [Zc7]; exact hg) hd rfl (by rw [hx, Zst, hn, ← ho]; rfl)) rfl k.h⟩
theorem Zal {t : TypeId} {x : Operand} {v p : Value} (hx : St.eval ⟨T, H⟩ x = p) (h : Zdx P G t H p = some v) (k : R P G nt ops K l (tr ++ [(⟨some d, .load t x, ty, ps, af, g⟩, { val := v, foot := Zd4 p })]) (upd T d v) H) : R P G nt ops K (⟨some d, .load t x, ty, ps, af, g⟩ :: l) tr T H := by
 subst hx; exact ⟨Zbv.valF (Z57 (by rw [Zc7]; exact hg) hd rfl h) rfl k.h⟩
theorem Zrw {t : TypeId} {x : Operand} {v : Value} {b : Blk} (hx : St.eval ⟨T, H⟩ x = v) (h : Zpf H v nid = some b) (hH : Zfn H nid b = H') (k : R P G nt ops K l (tr ++ [(⟨some d, .box t x, ty, ps, af, g⟩, { val := Zd5 nid, sets := [(nid, b)], foot := [nid] })]) (upd T d (.pointer (some ⟨nid, 0, none⟩))) H') : R P G nt ops K (⟨some d, .box t x, ty, ps, af, g⟩ :: l) tr T H :=
 ⟨Zbv.new (Z62 (by rw [Zc7]; exact hg) hd rfl (by rw [hx]; exact h)) rfl hH k.h⟩
theorem Zcb {t : TypeId} {b : Blk} (h : Znn P H t nid = some b) (hH : Zfn H nid b = H') (k : R P G nt ops K l (tr ++ [(⟨some d, .alloc t, ty, ps, af, g⟩, { val := Zd5 nid, sets := [(nid, b)], foot := [nid] })]) (upd T d (.pointer (some ⟨nid, 0, none⟩))) H') : R P G nt ops K (⟨some d, .alloc t, ty, ps, af, g⟩ :: l) tr T H :=
 ⟨Zbv.new (Z4a (by rw [Zc7]; exact hg) hd rfl h) rfl hH k.h⟩
theorem Zgb {x : Operand} {i : Nat} {vs : Array Value} {v : Value} (hx : St.eval ⟨T, H⟩ x = .tuple vs) (h : Z1g (.tuple vs) i = some v) (k : R P G nt ops K l (tr ++ [(⟨some d, .extract x i, ty, ps, af, g⟩, { val := v })]) (upd T d v) H) : R P G nt ops K (⟨some d, .extract x i, ty, ps, af, g⟩ :: l) tr T H :=
 ⟨Zbv.val (Zzl (by rw [Zc7]; exact hg) hd rfl (by rw [hx]; exact h)) rfl k.h⟩
theorem Ze6 {t : TypeId} {x : Operand} {p v : Value} (hx : St.eval ⟨T, H⟩ x = p) (h : Z13 P t p = some v) (k : R P G nt ops K l (tr ++ [(⟨some d, .call { callee := .builtin .len, args := #[x], argTypes := #[t] }, ty, ps, af, g⟩, { val := v })]) (upd T d v) H) : R P G nt ops K (⟨some d, .call { callee := .builtin .len, args := #[x], argTypes := #[t] }, ty, ps, af, g⟩ :: l) tr T H :=
 ⟨Zbv.val (Z63 (by rw [Zc7]; exact hg) hd rfl (by rw [hx]; exact h)) rfl k.h⟩
theorem Z5k {t : TypeId} {x y : Operand} {v p i : Value} (hx : St.eval ⟨T, H⟩ x = p) (hy : St.eval ⟨T, H⟩ y = i) (h : Zzi P t p i = some v) (k : R P G nt ops K l (tr ++ [(⟨some d, .indexAddr t x y, ty, ps, af, g⟩, { val := v })]) (upd T d v) H) : R P G nt ops K (⟨some d, .indexAddr t x y, ty, ps, af, g⟩ :: l) tr T H :=
 ⟨Zbv.val (Zum (by rw [Zc7]; exact hg) hd rfl (by rw [hx, hy]; exact h)) rfl k.h⟩
end
theorem Za1 {t : TypeId} {x y : Operand} {p v : Value} {b : Nat} {blk : Blk} (hg : gd nt T ops g = some true) (hx : St.eval ⟨T, H⟩ x = p) (hy : St.eval ⟨T, H⟩ y = v) (h : Zfg P t H p v = some (b, blk)) (hH : Zfn H b blk = H') (k : R P G nt ops K l (tr ++ [(⟨none, .store t x y, ty, ps, af, g⟩, { val := undef, sets := [(b, blk)], foot := Zd4 p })]) T H') : R P G nt ops K (⟨none, .store t x y, ty, ps, af, g⟩ :: l) tr T H := by
 subst hx; subst hy; exact ⟨Zbv.sto (Z4f (by rw [Zc7]; exact hg) rfl rfl h) rfl hH k.h⟩
theorem Zp {args : Array Operand} {ts : Array TypeId} {f : FuncId} {vals : List Value} {res : Value} (hC : Z9 P G f vals [] res []) (hg : gd nt T ops g = some true) (hd : Zb1 nt (some d) = true) (hk : Zc6 P f = true) (ha : args.toList.map (St.eval ⟨T, H⟩) = vals) (hp : vals.all Zbl = true) {res' : Value} (hr : Zs6 [] res = res')
  (k : R P G nt ops K l (tr ++ [(⟨some d, .call { callee := .value (.func f), args := args, argTypes := ts }, ty, ps, af, g⟩, { val := res' })]) (upd T d res') H) : R P G nt ops K (⟨some d, .call { callee := .value (.func f), args := args, argTypes := ts }, ty, ps, af, g⟩ :: l) tr T H :=
 ⟨Zbv.val (Z4c (by rw [Zc7]; exact hg) hd rfl rfl hk hC ha hp hr) rfl k.h⟩
end
end Go.Flat
end
section
/- Words: unsigned integers as bit vectors. -/
namespace Go.Flat
section
variable {P : Program} {t : TypeId} {u v : Operand} {x y : Int}
theorem ofI (w : Nat) (a : BitVec w) : BitVec.ofInt w (a.toNat : Int) = a := by
 apply BitVec.eq_of_toNat_eq
 rw [BitVec.toNat_ofInt]
 have := a.isLt
 have h : ((a.toNat : Int) % ((2 ^ w : Nat) : Int)) = ((a.toNat : Nat) : Int) := by exact_mod_cast congrArg (Nat.cast (R := Int)) (Nat.mod_eq_of_lt this)
 rw [h, Int.toNat_natCast]
theorem Ziq {k : IntKind} (hs : k.signed = false) (z : Int) : k.wrap z = ((BitVec.ofInt k.bits z).toNat : Int) := by
 simp only [IntKind.wrap, hs, Bool.false_and, Bool.false_eq_true, if_false, BitVec.toNat_ofInt]
 have h : 0 ≤ z % (2 ^ k.bits : Int) := Int.emod_nonneg _ (by (have : (0 : Int) < 2 ^ k.bits := Int.pow_pos (by decide)); omega)
 rw [Int.toNat_of_nonneg (by simpa using h)]
 simp

variable {k : IntKind} (hs : k.signed = false) {a b : BitVec k.bits} (hx : BitVec.ofInt k.bits x = a) (hy : BitVec.ofInt k.bits y = b)
include hs hx hy
theorem Z6r : Zb0 P .add t u v (.int k x) (.int k y) = some (.int k ((a + b).toNat : Int)) := Zdu (by
 subst hx; subst hy; simp [binOp, Op.intArith, Z8, Ziq hs, BitVec.ofInt_add]) rfl
theorem mulU : Zb0 P .mul t u v (.int k x) (.int k y) = some (.int k ((a * b).toNat : Int)) := Zdu (by
 subst hx; subst hy; simp [binOp, Op.intArith, Z8, Ziq hs, BitVec.ofInt_mul]) rfl
theorem subU : Zb0 P .sub t u v (.int k x) (.int k y) = some (.int k ((a - b).toNat : Int)) := Zdu (by
 subst hx; subst hy
 simp only [binOp, ne_eq, not_true_eq_false, if_false, Op.intArith, Z8, Ziq hs]
 rw [Int.sub_eq_add_neg, BitVec.ofInt_add, BitVec.ofInt_neg, ← BitVec.sub_eq_add_neg]) rfl
theorem Z6t : Zb0 P .and t u v (.int k x) (.int k y) = some (.int k ((a &&& b).toNat : Int)) := Zdu (by
 subst hx; subst hy; simp only [binOp, ne_eq, not_true_eq_false, if_false, Op.intBits, Z8]; rw [Ziq hs, ofI]) rfl
theorem orU : Zb0 P .or t u v (.int k x) (.int k y) = some (.int k ((a ||| b).toNat : Int)) := Zdu (by
 subst hx; subst hy; simp only [binOp, ne_eq, not_true_eq_false, if_false, Op.intBits, Z8]; rw [Ziq hs, ofI]) rfl
theorem Z7o : Zb0 P .xor t u v (.int k x) (.int k y) = some (.int k ((a ^^^ b).toNat : Int)) := Zdu (by
 subst hx; subst hy; simp only [binOp, ne_eq, not_true_eq_false, if_false, Op.intBits, Z8]; rw [Ziq hs, ofI]) rfl
end
section
variable {P : Program} {t : TypeId} {u v : Operand} {x y : Int} {k : IntKind} (hs : k.signed = false) {a : BitVec k.bits} (hx : BitVec.ofInt k.bits x = a)
theorem Zkt {op : BinOp} {yk : IntKind} {r : Value} (ho : op = .shl ∨ op = .shr) (h : Z3 P (Op.shift op k x yk y) = some r) (hp : Zbl r = true) : Zb0 P op t u v (.int k x) (.int yk y) = some r := by
  unfold Zb0
  rw [if_pos (show (Zbl (.int k x) && Zbl (.int yk y)) = true from rfl), Zri, Z7, Z8, Option.bind_some]
  have : binOp op t (.int k x) (.int yk y) = Op.shift op k x yk y := by rcases ho with rfl | rfl <;> rfl
  rw [this, h, Option.bind_some, if_pos hp]
omit hs hx in
theorem Z4y {w : Nat} (a : BitVec w) (n : Nat) : a <<< (min n w) = a <<< n := by
 rcases Nat.le_total n w with h | h
 ·rw [Nat.min_eq_left h]
 ·rw [Nat.min_eq_right h]
  apply BitVec.eq_of_getLsbD_eq
  intro i hi
  simp [BitVec.getLsbD_shiftLeft]
  omega
omit hs hx in
theorem Z19 {w m : Nat} (a : BitVec w) : a * BitVec.ofInt w (2 ^ m) = a <<< m := by
 apply BitVec.eq_of_toNat_eq
 have : BitVec.ofInt w (2 ^ m) = BitVec.ofNat w (2 ^ m) := by
  rw [show ((2 : Int) ^ m) = ((2 ^ m : Nat) : Int) from by simp, BitVec.ofInt_natCast]
 rw [this, BitVec.toNat_mul, BitVec.toNat_shiftLeft, BitVec.toNat_ofNat, Nat.shiftLeft_eq, Nat.mul_mod_mod]
include hs hx
theorem shlU {yk : IntKind} (hy : 0 ≤ y) : Zb0 P .shl t u v (.int k x) (.int yk y) = some (.int k ((a <<< y.toNat).toNat : Int)) := Zkt (.inl rfl) (by
 subst hx
 simp only [Op.shift]
 rw [if_neg (by omega)]
 simp only [Z8, Ziq hs]
 rw [BitVec.ofInt_mul, ← Z4y (w := k.bits), Z19]) rfl
omit hs in
theorem Z7f {yk : IntKind} (hy : 0 ≤ y) (h0 : 0 ≤ x) (h1 : x < 2 ^ k.bits) : Zb0 P .shr t u v (.int k x) (.int yk y) = some (.int k ((a >>> y.toNat).toNat : Int)) := Zkt (.inr rfl) (by
 subst hx
 simp only [Op.shift]
 rw [if_neg (by omega)]
 simp only [Z8]
 obtain ⟨X, rfl⟩ : ∃ X : Nat, x = X := ⟨x.toNat, by omega⟩
 have hX : X < 2 ^ k.bits := by exact_mod_cast h1
 congr 2
 rw [BitVec.ofInt_natCast, BitVec.toNat_ushiftRight, BitVec.toNat_ofNat, Nat.mod_eq_of_lt hX, Nat.shiftRight_eq_div_pow]
 rw [Int.fdiv_eq_ediv_of_nonneg _ (by exact_mod_cast Nat.zero_le _)]
 rcases Nat.le_total y.toNat k.bits with h | h
 ·rw [Nat.min_eq_left h]; simp
 ·rw [Nat.min_eq_right h, Nat.div_eq_of_lt (Nat.lt_of_lt_of_le hX (Nat.pow_le_pow_right (by decide) h))]
  have := Nat.div_eq_of_lt hX
  have h2 : ((X : Int) / 2 ^ k.bits) = ((X / 2 ^ k.bits : Nat) : Int) := by simp
  rw [h2, this]) rfl
end

section
variable {P : Program} {t : TypeId} {u v : Operand} {x y : Int}
theorem Z5d {a b : BitVec 32} (hx : BitVec.ofInt 32 x = a) (hy : BitVec.ofInt 32 y = b) : Zb0 P .add t u v (.int .u32 x) (.int .u32 y) = some (.int .u32 ((a + b).toNat : Int)) := Z6r (k := .u32) rfl hx hy
theorem Z6q {a b : BitVec 64} (hx : BitVec.ofInt 64 x = a) (hy : BitVec.ofInt 64 y = b) : Zb0 P .add t u v (.int .u64 x) (.int .u64 y) = some (.int .u64 ((a + b).toNat : Int)) := Z6r (k := .u64) rfl hx hy
theorem Z7g {a b : BitVec 64} (hx : BitVec.ofInt 64 x = a) (hy : BitVec.ofInt 64 y = b) : Zb0 P .sub t u v (.int .u64 x) (.int .u64 y) = some (.int .u64 ((a - b).toNat : Int)) := subU (k := .u64) rfl hx hy
theorem Z5h {a b : BitVec 64} (hx : BitVec.ofInt 64 x = a) (hy : BitVec.ofInt 64 y = b) : Zb0 P .mul t u v (.int .u64 x) (.int .u64 y) = some (.int .u64 ((a * b).toNat : Int)) := mulU (k := .u64) rfl hx hy
theorem Z6s {a b : BitVec 32} (hx : BitVec.ofInt 32 x = a) (hy : BitVec.ofInt 32 y = b) : Zb0 P .and t u v (.int .u32 x) (.int .u32 y) = some (.int .u32 ((a &&& b).toNat : Int)) := Z6t (k := .u32) rfl hx hy
theorem Z5f {a b : BitVec 64} (hx : BitVec.ofInt 64 x = a) (hy : BitVec.ofInt 64 y = b) : Zb0 P .and t u v (.int .u64 x) (.int .u64 y) = some (.int .u64 ((a &&& b).toNat : Int)) := Z6t (k := .u64) rfl hx hy
theorem Z67 {a b : BitVec 32} (hx : BitVec.ofInt 32 x = a) (hy : BitVec.ofInt 32 y = b) : Zb0 P .or t u v (.int .u32 x) (.int .u32 y) = some (.int .u32 ((a ||| b).toNat : Int)) := orU (k := .u32) rfl hx hy
theorem Z5p {a b : BitVec 32} (hx : BitVec.ofInt 32 x = a) (hy : BitVec.ofInt 32 y = b) : Zb0 P .xor t u v (.int .u32 x) (.int .u32 y) = some (.int .u32 ((a ^^^ b).toNat : Int)) := Z7o (k := .u32) rfl hx hy
theorem Z5m {yk : IntKind} {a : BitVec 32} (hx : BitVec.ofInt 32 x = a) (hy : 0 ≤ y) : Zb0 P .shl t u v (.int .u32 x) (.int yk y) = some (.int .u32 ((a <<< y.toNat).toNat : Int)) := shlU (k := .u32) rfl hx hy
theorem Z2y {yk : IntKind} {a : BitVec 32} (hy : 0 ≤ y) : Zb0 P .shr t u v (.int .u32 (a.toNat : Int)) (.int yk y) = some (.int .u32 ((a >>> y.toNat).toNat : Int)) := Z7f (k := .u32) (ofI 32 a) hy (by omega) (by have := a.isLt; simp only [IntKind.bits]; omega)
theorem Zna {yk : IntKind} {a : BitVec 64} (hy : 0 ≤ y) : Zb0 P .shr t u v (.int .u64 (a.toNat : Int)) (.int yk y) = some (.int .u64 ((a >>> y.toNat).toNat : Int)) := Z7f (k := .u64) (ofI 64 a) hy (by omega) (by have := a.isLt; simp only [IntKind.bits]; omega)
theorem Z69 {k : IntKind} (h0 : 0 ≤ x) (h1 : 0 < y) (hm : x ≤ k.max) : Zb0 P .quo t u v (.int k x) (.int k y) = some (.int k (x / y)) := Zdu (by
 have hw : k.wrap (x.tdiv y) = x / y := by
  rw [Int.tdiv_eq_ediv_of_nonneg h0]
  have a1 : 0 ≤ x / y := Int.ediv_nonneg h0 (by omega)
  have a2 : x / y ≤ x := Int.ediv_le_self _ h0
  cases k <;> simp [IntKind.wrap, IntKind.max, IntKind.bits, IntKind.signed] at hm ⊢ <;> (try split) <;> omega
 simp [binOp, Op.intDiv, Z8, show y ≠ 0 by omega, hw]) rfl
theorem Z2o {k : IntKind} (h0 : 0 ≤ x) (h1 : 0 < y) : Zb0 P .rem t u v (.int k x) (.int k y) = some (.int k (x % y)) := Zdu (by
 have hw : x.tmod y = x % y := Int.tmod_eq_emod_of_nonneg h0
 simp [binOp, Op.intDiv, Z8, show y ≠ 0 by omega, hw]) rfl
end
theorem Zl9 {P : Program} {src dst : TypeId} {k k' : IntKind} {d : TypeDesc} {n : Int} (h1 : P.underlying src = some d) (h2 : P.underlying dst = some (.int k)) : Zle P src dst (.int k' n) = some (.int k (k.wrap n)) := by
 unfold Zle
 rw [if_pos (show Zbl (.int k' n) = true from rfl)]
 have : Z3 P (convert src dst (.int k' n)) = some (.int k (k.wrap n)) := by
  unfold convert
  rw [Z7, Zbx h1, Option.bind_some, Z7, Zbx h2, Option.bind_some]
  cases d <;> rfl
 rw [this]; rfl
theorem Z6n (z : Int) : IntKind.u32.wrap z = ((BitVec.ofInt 32 z).toNat : Int) := Ziq (k := .u32) rfl z
theorem Z3e (z : Int) : IntKind.u64.wrap z = ((BitVec.ofInt 64 z).toNat : Int) := Ziq (k := .u64) rfl z
theorem Z7m (z : Int) : IntKind.u8.wrap z = ((BitVec.ofInt 8 z).toNat : Int) := Ziq (k := .u8) rfl z
theorem Z6l {P : Program} {n : Int} {c : Int} (hc : 0 - n = c) (h1 : -9223372036854775808 ≤ c) (h2 : c ≤ 9223372036854775807) : unD P .neg (.int .i64 n) = some (.int .i64 c) := by
 subst hc
 unfold unD
 rw [if_pos (show Zbl (.int .i64 n) = true from rfl)]
 have : Z3 P (Op.unary .neg (.int .i64 n)) = some (.int .i64 (IntKind.i64.wrap (0 - n))) := rfl
 rw [this, Zi4 h1 h2]; rfl
end Go.Flat
end
section
/- More rules for operations. -/
namespace Go.Flat
theorem Zfc {w w' : Nat} (a : BitVec w) : BitVec.ofInt w' (a.toNat : Int) = a.setWidth w' := by
 apply BitVec.eq_of_toNat_eq
 rw [BitVec.ofInt_natCast, BitVec.toNat_ofNat, BitVec.toNat_setWidth]
section
variable {P : Program} {src dst : TypeId} {k' : IntKind} {d : TypeDesc} {n : Int} (h1 : P.underlying src = some d)
include h1
theorem Zgl {a : BitVec 8} (h2 : P.underlying dst = some (.int .u8)) (h : BitVec.ofInt 8 n = a) : Zle P src dst (.int k' n) = some (.int .u8 (a.toNat : Int)) := by rw [Zl9 h1 h2, Z7m, h]
theorem Z5y {a : BitVec 32} (h2 : P.underlying dst = some (.int .u32)) (h : BitVec.ofInt 32 n = a) : Zle P src dst (.int k' n) = some (.int .u32 (a.toNat : Int)) := by rw [Zl9 h1 h2, Z6n, h]
theorem Zsl {a : BitVec 64} (h2 : P.underlying dst = some (.int .u64)) (h : BitVec.ofInt 64 n = a) : Zle P src dst (.int k' n) = some (.int .u64 (a.toNat : Int)) := by rw [Zl9 h1 h2, Z3e, h]
theorem Zl8 (h2 : P.underlying dst = some (.int .i64)) (g1 : -9223372036854775808 ≤ n) (g2 : n ≤ 9223372036854775807) : Zle P src dst (.int k' n) = some (.int .i64 n) := by rw [Zl9 h1 h2, Zi4 g1 g2]
end
section
variable {P : Program} {G : Glob} {nt : Nat} {ops l : List Oper} {K : Trace → St → Prop} {tr : Trace} {T : Nat → Value} {H H' : List Blk} {d : Tmp} {ty : TypeId} {ps : String} {af : Array Edge} {g : Option (Nat × Bool)}
variable {nid : Nat} (hg : gd nt T ops g = some true) (hd : Zb1 nt (some d) = true)
include hg hd
theorem Zdm {src dst : TypeId} {x : Operand} {v w : Value} (hx : St.eval ⟨T, H⟩ x = w) (h : Zle P src dst w = some v) (k : R P G nt ops K l (tr ++ [(⟨some d, .convert src dst x, ty, ps, af, g⟩, { val := v })]) (upd T d (v)) H) : R P G nt ops K (⟨some d, .convert src dst x, ty, ps, af, g⟩ :: l) tr T H := by
 subst hx; exact ⟨Zbv.val (Z55 (by rw [Zc7]; exact hg) hd rfl h) rfl k.h⟩
theorem Zyv {t : TypeId} {x y : Operand} {v p i : Value} (hx : St.eval ⟨T, H⟩ x = p) (hy : St.eval ⟨T, H⟩ y = i) (h : Znx P t p i = some v) (k : R P G nt ops K l (tr ++ [(⟨some d, .index t x y, ty, ps, af, g⟩, { val := v })]) (upd T d (v)) H) : R P G nt ops K (⟨some d, .index t x y, ty, ps, af, g⟩ :: l) tr T H := by
 subst hx; subst hy; exact ⟨Zbv.val (Z4d (by rw [Zc7]; exact hg) hd rfl h) rfl k.h⟩
theorem Zgs {t : TypeId} {x y : Operand} {v p i : Value} (hx : St.eval ⟨T, H⟩ x = p) (hy : St.eval ⟨T, H⟩ y = i) (h : Zl2 P t p i = some v) (k : R P G nt ops K l (tr ++ [(⟨some d, .index t x y, ty, ps, af, g⟩, { val := v })]) (upd T d (v)) H) : R P G nt ops K (⟨some d, .index t x y, ty, ps, af, g⟩ :: l) tr T H := by
 subst hx; subst hy; exact ⟨Zbv.val (Z1z (by rw [Zc7]; exact hg) hd rfl h) rfl k.h⟩
theorem Zbm {t : TypeId} {qs : Array (Nat × Operand)} {v : Value} {vs : List (Nat × Value)} (hx : (qs.toList.map fun p => (p.1, St.eval ⟨T, H⟩ p.2)) = vs) (h : Zsi P t vs = some v) (k : R P G nt ops K l (tr ++ [(⟨some d, .build t qs, ty, ps, af, g⟩, { val := v })]) (upd T d (v)) H) : R P G nt ops K (⟨some d, .build t qs, ty, ps, af, g⟩ :: l) tr T H := by
 subst hx; exact ⟨Zbv.val (Z4b (by rw [Zc7]; exact hg) hd rfl h) rfl k.h⟩
theorem Zw9 {f : Fn} {xs ys : Array Operand} {v : Value} (h : Zrg ⟨T, H⟩ f xs ys = some v) (k : R P G nt ops K l (tr ++ [(⟨some d, .makeFunc f xs ys, ty, ps, af, g⟩, { val := v })]) (upd T d (v)) H) : R P G nt ops K (⟨some d, .makeFunc f xs ys, ty, ps, af, g⟩ :: l) tr T H := by
 exact ⟨Zbv.val (Zwx (by rw [Zc7]; exact hg) hd rfl h) rfl k.h⟩
theorem Zgc {x : Operand} {v p : Value} (hx : St.eval ⟨T, H⟩ x = p) (h : Z2a p = some v) (k : R P G nt ops K l (tr ++ [(⟨some d, .nilCheck x, ty, ps, af, g⟩, { val := v })]) (upd T d (v)) H) : R P G nt ops K (⟨some d, .nilCheck x, ty, ps, af, g⟩ :: l) tr T H := by
 subst hx; exact ⟨Zbv.val (Zwy (by rw [Zc7]; exact hg) hd rfl h) rfl k.h⟩
theorem Zjv {t : TypeId} {x : Operand} {v p : Value} (hx : St.eval ⟨T, H⟩ x = p) (h : Zsw P t p = some v) (k : R P G nt ops K l (tr ++ [(⟨some d, .makeInterface t x, ty, ps, af, g⟩, { val := v })]) (upd T d (v)) H) : R P G nt ops K (⟨some d, .makeInterface t x, ty, ps, af, g⟩ :: l) tr T H := by
 subst hx; exact ⟨Zbv.val (Zor (by rw [Zc7]; exact hg) hd rfl h) rfl k.h⟩
theorem Zda {t : TypeId} {x : Operand} {lo hi : Option Operand} {v p : Value} {vl vh : Option Value} (hx : St.eval ⟨T, H⟩ x = p) (hlo : lo.map (St.eval ⟨T, H⟩) = vl) (hhi : hi.map (St.eval ⟨T, H⟩) = vh) (h : Zho P H t p vl vh = some v) (k : R P G nt ops K l (tr ++ [(⟨some d, .slice t x lo hi none, ty, ps, af, g⟩, { val := v, foot := Zd4 p })]) (upd T d (v)) H) : R P G nt ops K (⟨some d, .slice t x lo hi none, ty, ps, af, g⟩ :: l) tr T H := by
 subst hx; subst hlo; subst hhi; exact ⟨Zbv.valF (Z4e (by rw [Zc7]; exact hg) hd rfl h) rfl k.h⟩
theorem Zfs {src dst : TypeId} {x : Operand} {v p : Value} (hx : St.eval ⟨T, H⟩ x = p) (h : Ztb P H src dst p = some v) (k : R P G nt ops K l (tr ++ [(⟨some d, .convert src dst x, ty, ps, af, g⟩, { val := v, foot := Zd4 p })]) (upd T d (v)) H) : R P G nt ops K (⟨some d, .convert src dst x, ty, ps, af, g⟩ :: l) tr T H := by
 subst hx; exact ⟨Zbv.valF (Z65 (by rw [Zc7]; exact hg) hd rfl h) rfl k.h⟩
theorem Zw8 {t : TypeId} {x y : Operand} {v i j : Value} {blk : Blk} (hx : St.eval ⟨T, H⟩ x = i) (hy : St.eval ⟨T, H⟩ y = j) (h : Zp2 P H t i j nid = some (v, blk)) (hH : Zfn H nid blk = H') (k : R P G nt ops K l (tr ++ [(⟨some d, .makeSlice t x y, ty, ps, af, g⟩, { val := v, sets := [(nid, blk)], foot := [nid] })]) (upd T d (v)) H') : R P G nt ops K (⟨some d, .makeSlice t x y, ty, ps, af, g⟩ :: l) tr T H := by
 subst hx; subst hy; exact ⟨Zbv.new (Z58 (by rw [Zc7]; exact hg) hd rfl h) rfl hH k.h⟩
theorem Zel {t : TypeId} {n : Nat} {qs : Array (Nat × Operand)} {v : Value} {vs : List (Nat × Value)} {blk : Blk} (hx : (qs.toList.map fun p => (p.1, St.eval ⟨T, H⟩ p.2)) = vs) (h : Z15 P H t n vs nid = some (v, blk)) (hH : Zfn H nid blk = H') (k : R P G nt ops K l (tr ++ [(⟨some d, .buildSlice t n qs, ty, ps, af, g⟩, { val := v, sets := [(nid, blk)], foot := [nid] })]) (upd T d (v)) H') : R P G nt ops K (⟨some d, .buildSlice t n qs, ty, ps, af, g⟩ :: l) tr T H := by
 subst hx; exact ⟨Zbv.new (Z64 (by rw [Zc7]; exact hg) hd rfl h) rfl hH k.h⟩
theorem Z2n {t u : TypeId} {x y : Operand} {v p q : Value} {b : Nat} {blk : Blk} (hx : St.eval ⟨T, H⟩ x = p) (hy : St.eval ⟨T, H⟩ y = q) (h : Ztz P H t p q = some (v, b, blk)) (hH : Zfn H b blk = H') (k : R P G nt ops K l (tr ++ [(⟨some d, .call { callee := .builtin .copy, args := #[x, y], argTypes := #[t, u] }, ty, ps, af, g⟩, { val := v, sets := [(b, blk)], foot := Zd4 p ++ Zd4 q })]) (upd T d (v)) H') : R P G nt ops K (⟨some d, .call { callee := .builtin .copy, args := #[x, y], argTypes := #[t, u] }, ty, ps, af, g⟩ :: l) tr T H := by
 subst hx; subst hy; exact ⟨Zbv.new (Z56 (by rw [Zc7]; exact hg) hd rfl h) rfl hH k.h⟩
theorem Zc9 {t u : TypeId} {x y : Operand} {v p q : Value} {b : Nat} {blk : Blk} {de : TypeDesc} {T' : Nat → Value} (hu : P.underlying u = some de) (hdd : (∃ e2, de = .slice e2) ∨ de = .string) (hx : St.eval ⟨T, H⟩ x = p) (hy : St.eval ⟨T, H⟩ y = q) (h : Zpb P H t p q = some (v, b, blk))
    (hT : (fun i => killV (· != b) (T i)) = T') (hH : Zfn (H.map (Zce (· != b))) b blk = H') (k : R P G nt ops K l (tr ++ [(⟨some d, .call { callee := .builtin .append, args := #[x, y], argTypes := #[t, u] }, ty, ps, af, g⟩, { val := v, sets := [(b, blk)], kill := some b, foot := Zd4 p ++ Zd4 q })]) (upd T' d v) H') : R P G nt ops K (⟨some d, .call { callee := .builtin .append, args := #[x, y], argTypes := #[t, u] }, ty, ps, af, g⟩ :: l) tr T H := by
  subst hx; subst hy; subst hT; subst hH
  exact ⟨⟨_, Z1v (by rw [Zc7]; exact hg) hd rfl hu hdd h, by simpa [Delta.apply, Zd7, St.put, St.kill] using k.h⟩⟩
end
section
variable {P : Program} {G : Glob} {nt : Nat} {ops l : List Oper} {K : Trace → St → Prop} {tr : Trace} {T : Nat → Value} {H H' : List Blk} {d : Tmp} {ty : TypeId} {ps : String} {af : Array Edge} {g : Option (Nat × Bool)}
def Z1s (k : Option Nat) (H : List Blk) : List Blk := match k with | none => H | some b => H.map (Zce (· != b))
theorem Zc2 {f : Operand} {args : Array Operand} {ts : Array TypeId} {k : FuncId} {first captured : Array Value} {argsL vals : List Value} {σ σ' : List Blk} {res v : Value} {e : Emb} {nid : Nat} (hC : Z9 P G k argsL σ res σ') (hg : gd nt T ops g = some true) (hd : Zb1 nt (some d) = true) (hf : St.eval ⟨T, H⟩ f = .func (.func k) first captured) (hcap : (first.toList.all Zc8 && captured.toList.all Zc8) = true) (hk : Zc6 P k = true)
    (ha : first.toList ++ args.toList.map (St.eval ⟨T, H⟩) ++ captured.toList = vals) (hok : CallOK H e argsL vals σ σ' nid) {T' : Nat → Value} (hv : Zs6 (Zfl e nid (σ'.length - σ.length)) res = v)
    (hT : (fun i => match (Zbp e σ).head? with | none => T i | some b => killV (· != b) (T i)) = T') (hH : Zd7 (Z1s (Zbp e σ).head? H) (Zcn (killX (Zbp e σ).head? e σ H) e σ σ' nid) = H')
    (kk : R P G nt ops K l (tr ++ [(⟨some d, .call { callee := .value f, args := args, argTypes := ts }, ty, ps, af, g⟩, Zh1 H e σ res σ' nid)]) (upd T' d v) H') : R P G nt ops K (⟨some d, .call { callee := .value f, args := args, argTypes := ts }, ty, ps, af, g⟩ :: l) tr T H := by
  subst ha; subst hv; subst hT; subst hH
  simp only [Bool.and_eq_true] at hcap
  refine ⟨⟨_, Z1w (by rw [Zc7]; exact hg) hd rfl hf hcap hk hC e nid hok, ?_⟩⟩
  have := kk.h
  unfold Zh1 at this ⊢
  cases hm : (Zbp e σ).head? with
  | none => simpa [Delta.apply, St.put, hm, killX, Z1s] using this
  | some b => simpa [Delta.apply, St.put, hm, killX, Z1s, St.kill] using this
end
end Go.Flat
end
section
/- Rows by a function; states by a list; forgetting. -/
namespace Go.Flat

def Z6 {α : Type} (enc : α → Value) (n : Nat) (w : Nat → α) : List Value := (List.range n).map fun k => enc (w k)
def Zhx {α : Type} (w : Nat → α) (i : Nat) (x : α) : Nat → α := fun k => if k = i then x else w k
section
variable {α : Type} {enc : α → Value} {n : Nat} {w : Nat → α}
theorem Zbt : (Z6 enc n w).length = n := by simp [Z6]
theorem Zdo {i : Nat} (h : i < n) : (Z6 enc n w)[i]? = some (enc (w i)) := by simp [Z6, h]
theorem Z2w {w' : Nat → α} (h : ∀ i, i < n → w i = w' i) : Z6 enc n w = Z6 enc n w' := by
 unfold Z6
 exact List.map_congr_left fun i hi => by rw [h i (by simpa using hi)]
theorem Zva {i : Nat} (h : i < n) (x : α) : splice (Z6 enc n w) i [enc x] = Z6 enc n (Zhx w i x) := by
 apply List.ext_getElem?
 intro j
 unfold splice
 have hl : ((Z6 enc n w).take i).length = i := by simp [Zbt]; omega
 rcases Nat.lt_trichotomy j i with h1 | h1 | h1
 ·rw [List.getElem?_append_left (by simp [Zbt]; omega), List.getElem?_append_left (by omega), List.getElem?_take, if_pos h1, Zdo (by omega), Zdo (by omega)]
  simp [Zhx, Nat.ne_of_lt h1]
 ·subst h1
  rw [List.getElem?_append_left (by simp [Zbt]; omega), List.getElem?_append_right (by omega), hl, Zdo h]
  simp [Zhx]
 ·rw [List.getElem?_append_right (by simp [Zbt]; omega)]
  rcases Nat.lt_or_ge j n with h2 | h2
  ·rw [Zdo h2, List.getElem?_drop]
   have : i + [enc x].length + (j - (List.take i (Z6 enc n w) ++ [enc x]).length) = j := by simp [Zbt]; omega
   rw [this, Zdo h2]
   simp [Zhx, Nat.ne_of_gt h1]
  ·rw [List.getElem?_eq_none (by simp [Zbt]; omega), List.getElem?_eq_none (by rw [Zbt]; omega)]
theorem Zqi {p : Value → Bool} (h : ∀ x, p (enc x) = true) : (Z6 enc n w).all p = true := by
 simp [Z6, List.all_eq_true, h]
variable {P : Program} {G : Glob} {t : TypeId} {m : Nat} {H : List Blk} {b i : Nat} {blk : Blk}
theorem Ziw (hk : Zej P t = some (false, m)) (hb : H[b]? = some blk) (hc : blk.cells = Z6 enc n w) (hi : i < n) (h1 : ∀ x, Ziz (enc x) = true) : Zdx P G t H (.pointer (some ⟨b, i, none⟩)) = some (enc (w i)) := by
 unfold Zdx
 rw [hk]
 simp only [hb, Option.bind_some, rdA, hc, Zdo hi, h1, if_true]
 rfl
theorem Zwz {ag : Bool} {g o q : Nat} {cs : List Value} {v : Value} (hk : Zej P t = some (ag, m)) (hG : G g = some cs) (hr : rdA ag m cs o = some v) : Zdx P G t H (.pointer (some ⟨g, o, some q⟩)) = some v := by
 unfold Zdx
 rw [hk]
 simp only [hG, Option.bind_some, hr]
theorem Zhq {x : α} {val : Value} (hk : Zej P t = some (false, 1)) (hb : H[b]? = some blk) (hw : blk.wr = true) (hc : blk.cells = Z6 enc n w) (hv : enc x = val) (hi : i < n) (h1 : (enc x).cells = #[enc x]) (h2 : (if blk.pur then Zbj (enc x) else Zi2 (enc x)) = true) :
  Zfg P t H (.pointer (some ⟨b, i, none⟩)) val = some (b, { blk with cells := Z6 enc n (Zhx w i x) }) := by
 subst hv
 unfold Zfg
 rw [hk]
 simp only [hb, Option.bind_some, hw, h1, hc]
 rw [if_pos]
 ·rw [Zva hi]
 ·simp only [Zdy, Bool.true_and, Bool.and_eq_true, decide_eq_true_eq, beq_iff_eq, Zbt]
  refine ⟨⟨rfl, ?_⟩, by omega⟩
  by_cases hp : blk.pur = true
  ·rw [if_pos hp] at h2 ⊢; simpa using h2
  ·rw [if_neg hp] at h2 ⊢; simpa using h2
theorem Zp0 {rest : List Value} (hk : Zej P t = some (false, m)) (hb : H[b]? = some blk) (hc : blk.cells = Z6 enc n w ++ rest) (hi : i < n) (h1 : ∀ x, Ziz (enc x) = true) : Zdx P G t H (.pointer (some ⟨b, i, none⟩)) = some (enc (w i)) := by
 unfold Zdx
 rw [hk]
 simp only [hb, Option.bind_some, rdA, hc]
 rw [List.getElem?_append_left (by rw [Zbt]; exact hi), Zdo hi]
 simp [h1]
theorem Zvn {x : α} {val : Value} {rest : List Value} (hk : Zej P t = some (false, 1)) (hb : H[b]? = some blk) (hw : blk.wr = true) (hc : blk.cells = Z6 enc n w ++ rest) (hv : enc x = val) (hi : i < n) (h1 : (enc x).cells = #[enc x]) (h2 : (if blk.pur then Zbj (enc x) else Zi2 (enc x)) = true) :
  Zfg P t H (.pointer (some ⟨b, i, none⟩)) val = some (b, { blk with cells := Z6 enc n (Zhx w i x) ++ rest }) := by
 subst hv
 unfold Zfg
 rw [hk]
 simp only [hb, Option.bind_some, hw, h1, hc]
 rw [if_pos]
 ·rw [← Zva hi]
  unfold splice
  have e1 : i ≤ (Z6 enc n w).length := by rw [Zbt]; omega
  have e2 : i + [enc x].length ≤ (Z6 enc n w).length := by rw [Zbt]; simp; omega
  rw [List.take_append_of_le_length e1, List.drop_append_of_le_length e2]
  simp
 ·simp only [Zdy, Bool.true_and, Bool.and_eq_true, decide_eq_true_eq, beq_iff_eq, List.length_append, Zbt]
  refine ⟨⟨rfl, ?_⟩, by omega⟩
  by_cases hp : blk.pur = true
  ·rw [if_pos hp] at h2 ⊢; simpa using h2
  ·rw [if_neg hp] at h2 ⊢; simpa using h2
end


def Tl (l : List Value) : Nat → Value := fun i => (l[i]?).getD dead
def Zym (n : Nat) (T : Nat → Value) : Nat → List Value → Prop
  | _, [] => True
  | i, v :: l => (v = dead ∨ (v = T i ∧ Zeg (fun b => decide (b < n)) (T i) = true)) ∧ Zym n T (i + 1) l
theorem Zrl {n : Nat} {T : Nat → Value} : ∀ {l : List Value} {i : Nat}, Zym n T i l → ∀ (j : Nat) (v : Value), l[j]? = some v → v = dead ∨ (v = T (i + j) ∧ Zeg (fun b => decide (b < n)) (T (i + j)) = true)
 | [], _, _, j, v, h => by simp at h
 | x :: l, i, hk, 0, v, h => by simp at h; subst h; exact hk.1
 | x :: l, i, hk, j + 1, v, h => by
  have := Zrl hk.2 j v (by simpa using h)
  rw [show i + (j + 1) = i + 1 + j by omega]; exact this
theorem Zzj {n : Nat} {T : Nat → Value} {H H' : List Blk} {l : List Value} (h : Zym n T 0 l) : Z1q n ⟨T, H⟩ ⟨Tl l, H'⟩ := by
 intro i
 simp only [Tl]
 cases hl : l[i]? with
 | none => exact .inl rfl
 | some v =>
  have := Zrl h i v hl
  simpa using this
theorem Zam {G : Glob} {nt n0 n : Nat} {T : Nat → Value} {H H' : List Blk} {l : List Value} (hn : decide (n0 ≤ n) = true) (ht : Zym n T 0 l) (hh : H.take n = H') (hb : (H'.all fun x => x.pur || x.cells.all (Za9 fun b => decide (b < n))) = true) : Zbo G nt n0 ⟨T, H⟩ ⟨Tl l, H'⟩ := by
 refine Zbo.take n (by simpa using hn) (Zzj ht) ?_ hb
 exact hh.symm

section
variable {P : Program} {G : Glob} {nt n0 : Nat} {Q : Exit → St → Prop} {ops : List Oper} {tr : Trace} {T : Nat → Value} {H : List Blk}
theorem Za (h : X Q .normal ⟨T, H⟩) : R P G nt ops (fun _ s => X Q .normal s) [] tr T H := Zkj h
theorem Zdq {n : Nat} (h1 : Zev ops.toArray tr n = true) (h : X Q .normal ⟨T, H⟩) : R P G nt ops (fun tr s' => Zev ops.toArray tr n = true ∧ X Q .normal s') [] tr T H := Zkj ⟨h1, h⟩
theorem Zck {α : Type} {y : Code} (st : α → List Value) (hp : α → List Blk) (φ : α → Prop) (μ : α → Nat) (x0 : α) (h0 : φ x0) (hs : Zbo G nt n0 ⟨T, H⟩ ⟨Tl (st x0), hp x0⟩)
  (round : ∀ x, φ x → C P G nt n0 y (Zea (fun s1 => ∃ y, φ y ∧ μ y < μ x ∧ Zbo G nt n0 s1 ⟨Tl (st y), hp y⟩) Q) ⟨Tl (st x), hp x⟩) : C P G nt n0 (.loop y) Q ⟨T, H⟩ :=
 Z5v (fun x => ⟨Tl (st x), hp x⟩) φ μ x0 h0 hs round
theorem Za3 {next : St → Prop} {i : Nat} {s : St} (h : X Q (.exit i) s) : X (Zea next Q) (.exit i) s := Zy2 rfl h
theorem Zen {next : St → Prop} {s : St} (h : X Q .ret s) : X (Zea next Q) .ret s := Zy2 rfl h
end
end Go.Flat
end
section
/- Places of rows and slices. -/
namespace Go.Flat
section
variable {P : Program} {G : Glob} {nt : Nat} {ops l : List Oper} {K : Trace → St → Prop} {tr : Trace} {T : Nat → Value} {H H' : List Blk} {d : Tmp} {ty : TypeId} {ps : String} {af : Array Edge} {g : Option (Nat × Bool)}
theorem Zd0 {t : TypeId} {x y : Operand} {b o j n sz : Nat} {i : Int} {k : IntKind} {q : Option Nat} (hg : gd nt T ops g = some true) (hd : Zb1 nt (some d) = true) (hx : St.eval ⟨T, H⟩ x = .pointer (some ⟨b, o, q⟩)) (hy : St.eval ⟨T, H⟩ y = .int k i) (he : Zpo P t = some (some n, sz)) (h0 : 0 ≤ i) (h1 : i < n) (hj : o + i.toNat * sz = j)
  (kk : R P G nt ops K l (tr ++ [(⟨some d, .indexAddr t x y, ty, ps, af, g⟩, { val := .pointer (some ⟨b, j, q⟩) })]) (upd T d (.pointer (some ⟨b, j, q⟩))) H) : R P G nt ops K (⟨some d, .indexAddr t x y, ty, ps, af, g⟩ :: l) tr T H :=
 Z5k hg hd hx hy (by unfold Zzi; rw [he]; simp only; rw [if_pos ⟨h0, h1⟩, hj]) kk
theorem Zbs {t : TypeId} {x y : Operand} {b o j m c sz : Nat} {i : Int} {k : IntKind} (hg : gd nt T ops g = some true) (hd : Zb1 nt (some d) = true) (hx : St.eval ⟨T, H⟩ x = .slice (some ⟨b, o, none⟩) m c) (hy : St.eval ⟨T, H⟩ y = .int k i) (he : Zpo P t = some (none, sz)) (h0 : 0 ≤ i) (h1 : i < m) (hj : o + i.toNat * sz = j)
  (kk : R P G nt ops K l (tr ++ [(⟨some d, .indexAddr t x y, ty, ps, af, g⟩, { val := .pointer (some ⟨b, j, none⟩) })]) (upd T d (.pointer (some ⟨b, j, none⟩))) H) : R P G nt ops K (⟨some d, .indexAddr t x y, ty, ps, af, g⟩ :: l) tr T H :=
 Z5k hg hd hx hy (by unfold Zzi; rw [he]; simp only; rw [if_pos ⟨h0, h1⟩, hj]) kk
theorem Zpu {α : Type} {enc : α → Value} {w : Nat → α} {t : TypeId} {cs : Array Value} {n i : Nat} {m : Nat} {k : IntKind} {ix : Int} (he : Z09 P t = some (m, false, 1)) (hc : cs.toList = Z6 enc n w) (hi : ix = (i : Int)) (hin : i < n) (him : i < m) (h1 : ∀ x, Ziz (enc x) = true) : Znx P t (.agg cs) (.int k ix) = some (enc (w i)) := by
 subst hi
 unfold Znx
 rw [he]
 simp only
 rw [if_pos ⟨by omega, by omega⟩, hc]
 simp only [rdA, Int.toNat_natCast, Nat.mul_one, Zdo hin, Option.bind_some, h1, if_true]
 rfl
end
theorem Z5j {P : Program} {t : TypeId} {u v : Operand} {x y : Int} (h0 : 0 ≤ x) (h1 : 0 < y) (hm : x ≤ 9223372036854775807) : Zb0 P .quo t u v (.int .i64 x) (.int .i64 y) = some (.int .i64 (x / y)) := Z69 h0 h1 (by show x ≤ (9223372036854775807 : Int); exact hm)
abbrev w32 (x : BitVec 32) : Value := .int .u32 (x.toNat : Int)
abbrev w64 (x : BitVec 64) : Value := .int .u64 (x.toNat : Int)
abbrev w8 (x : BitVec 8) : Value := .int .u8 (x.toNat : Int)
end Go.Flat
end
section
namespace Go.Flat
variable {P : Program} {G : Glob} {nt : Nat} {ops l : List Oper} {K : Trace → St → Prop} {tr : Trace} {T : Nat → Value} {H H' : List Blk} {d : Tmp} {ty : TypeId} {ps : String} {af : Array Edge} {g : Option (Nat × Bool)} {nid : Nat}
theorem Zd {x : Operand}  (v : Value) (k : R P G nt ops K l (tr ++ [(⟨some d, .move x, ty, ps, af, g⟩, { val := v })]) (upd T d v) H) (hg : gd nt T ops g = some true := by exact rfl) (hd : Zb1 nt (some d) = true := by exact rfl) (h : St.eval ⟨T, H⟩ x = v := by exact rfl) : R P G nt ops K (⟨some d, .move x, ty, ps, af, g⟩ :: l) tr T H := Zan hg hd v h k
theorem Zb {x : Operand}  (v : Value) (k : R P G nt ops K l (tr ++ [(⟨some d, .assign x, ty, ps, af, g⟩, { val := v })]) (upd T d v) H) (hg : gd nt T ops g = some true := by exact rfl) (hd : Zb1 nt (some d) = true := by exact rfl) (h : St.eval ⟨T, H⟩ x = v := by exact rfl) : R P G nt ops K (⟨some d, .assign x, ty, ps, af, g⟩ :: l) tr T H := Zak hg hd v h k
theorem Zl {c x y : Operand}  (v : Value) (k : R P G nt ops K l (tr ++ [(⟨some d, .pick c x y, ty, ps, af, g⟩, { val := v })]) (upd T d v) H) (hg : gd nt T ops g = some true := by exact rfl) (hd : Zb1 nt (some d) = true := by exact rfl) (h : Zrs ⟨T, H⟩ c x y = some v := by exact rfl) : R P G nt ops K (⟨some d, .pick c x y, ty, ps, af, g⟩ :: l) tr T H := Zgx hg hd v h k
theorem Zg {op : Op} (k : R P G nt ops K l (tr ++ [(⟨some d, op, ty, ps, af, g⟩, { val := undef })]) (upd T d undef) H) (hg : gd nt T ops g = some false := by exact rfl) (hd : Zb1 nt (some d) = true := by exact rfl) : R P G nt ops K (⟨some d, op, ty, ps, af, g⟩ :: l) tr T H := Zlv hg hd k
theorem Zi {t : TypeId} {x : Operand} {f n b o o' : Nat} {q : Option Nat} (k : R P G nt ops K l (tr ++ [(⟨some d, .fieldAddr t x f, ty, ps, af, g⟩, { val := .pointer (some ⟨b, o', q⟩) })]) (upd T d (.pointer (some ⟨b, o', q⟩))) H) (hg : gd nt T ops g = some true := by exact rfl) (hd : Zb1 nt (some d) = true := by exact rfl) (hx : St.eval ⟨T, H⟩ x = .pointer (some ⟨b, o, q⟩) := by exact rfl) (hn : Z4m P t f = some n := by exact rfl) (ho : o + n = o' := by exact rfl) : R P G nt ops K (⟨some d, .fieldAddr t x f, ty, ps, af, g⟩ :: l) tr T H := Za2 hg hd hx hn ho k
theorem Zn {t : TypeId} {x : Operand} {v p : Value} (k : R P G nt ops K l (tr ++ [(⟨some d, .load t x, ty, ps, af, g⟩, { val := v, foot := Zd4 p })]) (upd T d v) H) (hg : gd nt T ops g = some true := by exact rfl) (hd : Zb1 nt (some d) = true := by exact rfl) (hx : St.eval ⟨T, H⟩ x = p := by exact rfl) (h : Zdx P G t H p = some v := by kernel_rfl) : R P G nt ops K (⟨some d, .load t x, ty, ps, af, g⟩ :: l) tr T H := Zal hg hd hx h k
theorem Z2 {t : TypeId} {x y : Operand} {p v : Value} {b : Nat} {blk : Blk} (k : R P G nt ops K l (tr ++ [(⟨none, .store t x y, ty, ps, af, g⟩, { val := undef, sets := [(b, blk)], foot := Zd4 p })]) T H') (hg : gd nt T ops g = some true := by exact rfl) (hx : St.eval ⟨T, H⟩ x = p := by exact rfl) (hy : St.eval ⟨T, H⟩ y = v := by exact rfl) (h : Zfg P t H p v = some (b, blk) := by kernel_rfl) (hH : Zfn H b blk = H' := by kernel_rfl) : R P G nt ops K (⟨none, .store t x y, ty, ps, af, g⟩ :: l) tr T H := Za1 hg hx hy h hH k
theorem Zq {x : Operand} {i : Nat} {vs : Array Value} {v : Value} (k : R P G nt ops K l (tr ++ [(⟨some d, .extract x i, ty, ps, af, g⟩, { val := v })]) (upd T d v) H) (hg : gd nt T ops g = some true := by exact rfl) (hd : Zb1 nt (some d) = true := by exact rfl) (hx : St.eval ⟨T, H⟩ x = .tuple vs := by exact rfl) (h : Z1g (.tuple vs) i = some v := by exact rfl) : R P G nt ops K (⟨some d, .extract x i, ty, ps, af, g⟩ :: l) tr T H := Zgb hg hd hx h k
theorem Zai {t : TypeId} {b : Blk} (k : R P G nt ops K l (tr ++ [(⟨some d, .alloc t, ty, ps, af, g⟩, { val := Zd5 nid, sets := [(nid, b)], foot := [nid] })]) (upd T d (.pointer (some ⟨nid, 0, none⟩))) H') (hg : gd nt T ops g = some true := by exact rfl) (hd : Zb1 nt (some d) = true := by exact rfl) (h : Znn P H t nid = some b := by kernel_rfl) (hH : Zfn H nid b = H' := by kernel_rfl) : R P G nt ops K (⟨some d, .alloc t, ty, ps, af, g⟩ :: l) tr T H := Zcb hg hd h hH k
theorem Zci {t : TypeId} {x : Operand} {v : Value} {b : Blk} (k : R P G nt ops K l (tr ++ [(⟨some d, .box t x, ty, ps, af, g⟩, { val := Zd5 nid, sets := [(nid, b)], foot := [nid] })]) (upd T d (.pointer (some ⟨nid, 0, none⟩))) H') (hg : gd nt T ops g = some true := by exact rfl) (hd : Zb1 nt (some d) = true := by exact rfl) (hx : St.eval ⟨T, H⟩ x = v := by exact rfl) (h : Zpf H v nid = some b := by kernel_rfl) (hH : Zfn H nid b = H' := by kernel_rfl) : R P G nt ops K (⟨some d, .box t x, ty, ps, af, g⟩ :: l) tr T H := Zrw hg hd hx h hH k
theorem Ze7 {x : Operand} {v p : Value} (k : R P G nt ops K l (tr ++ [(⟨some d, .nilCheck x, ty, ps, af, g⟩, { val := v })]) (upd T d (v)) H) (hg : gd nt T ops g = some true := by exact rfl) (hd : Zb1 nt (some d) = true := by exact rfl) (hx : St.eval ⟨T, H⟩ x = p := by exact rfl) (h : Z2a p = some v := by exact rfl) : R P G nt ops K (⟨some d, .nilCheck x, ty, ps, af, g⟩ :: l) tr T H := Zgc hg hd hx h k
theorem Zc3 {t : TypeId} {x : Operand} {p v : Value} (k : R P G nt ops K l (tr ++ [(⟨some d, .call { callee := .builtin .len, args := #[x], argTypes := #[t] }, ty, ps, af, g⟩, { val := v })]) (upd T d v) H) (hg : gd nt T ops g = some true := by exact rfl) (hd : Zb1 nt (some d) = true := by exact rfl) (hx : St.eval ⟨T, H⟩ x = p := by exact rfl) (h : Z13 P t p = some v := by exact rfl) : R P G nt ops K (⟨some d, .call { callee := .builtin .len, args := #[x], argTypes := #[t] }, ty, ps, af, g⟩ :: l) tr T H := Ze6 hg hd hx h k
end Go.Flat
end
