/- Walks. -/
import Derived.Test.YtlnggiomppkjmaaDoorFlatA
import Derived.KernelRfl
set_option linter.unusedVariables false
set_option linter.unusedSimpArgs false
set_option linter.unusedSectionVars false
section
/- Calls: a contract over a small heap, used in a greater one. -/
namespace Go.Flat

def Z4 (P : Program) (G : Glob) (f : FuncId) (args : List Value) (σ : List Blk) (res : Value) (σ' : List Blk) : Prop :=
  ∀ m w args', HRel G m σ w → L2 (VR m) args args' →
    Calls P f args'.toArray w fun e w' => ∃ v' m', e = .returned v' ∧ HRel G m' σ' w' ∧ VR m' res v' ∧ Frame ⟨m, w, []⟩ m' w'


abbrev Emb := List (Option (Nat × Nat))

def Zc6 (e : Emb) : Value → Value
  | .pointer (some ⟨b, o, none⟩) => match (e[b]?).bind id with | some (i, sh) => .pointer (some ⟨i, sh + o, none⟩) | none => dead
  | .slice (some ⟨b, o, _⟩) n c => match (e[b]?).bind id with | some (i, sh) => .slice (some ⟨i, sh + o, none⟩) n c | none => dead
  | v => v
def Ze0 (e : Emb) : Value → Value
  | .func f xs ys => .func f (xs.map (Zc6 e)) (ys.map (Zc6 e))
  | v => Zc6 e v
def Z19 (e : Emb) : Value → Value
  | .agg cs => .agg (cs.map (Ze0 e))
  | v => Ze0 e v
def Zj6 (e : Emb) (v : Value) : Value := if Za0 v then v else Z19 e v
def Zoi (e : Emb) (v : Value) : Value := match v with | .tuple vs => .tuple (vs.map (Zj6 e)) | v => Zj6 e v
def Zcc (e : Emb) (L : Blk) : List Value := if L.pur then L.cells else L.cells.map (Ze0 e)

def Zbl (r : Reg) (sh : Nat) (L : Blk) : Reg := if L.wr then { r with mv := L.mv } else ⟨r.g, r.lo + sh, r.hi, L.cells.length, L.sz, false, L.fix, L.mv⟩
def Zdp (L : Blk) : Reg := ⟨0, 0, 0, 0, L.sz, L.wr, L.fix, L.mv⟩
def mE (mc : MapM) (e : Emb) (σ : List Blk) : MapM := fun i =>
  match e[i]?, σ[i]? with
  | some (some (id, sh)), some L => (mc id).map fun r => Zbl r sh L
  | some none, some L => some (Zdp L)
  | _, _ => none

def Zns (H : List Blk) (e : Emb) (p : Option (Nat × Nat)) (L : Blk) : Prop :=
  match p with
  | none => L.wr = false ∧ L.cells = [] ∧ 0 < L.sz
  | some (id, sh) => ∃ B, H[id]? = some B ∧ (0 < L.sz ∧ 0 < B.sz ∧ (B.fix = true → B.mv = false)) ∧ L.fix = B.fix ∧ (L.fix = false → L.sz = B.sz) ∧ (L.pur = true → B.pur = true) ∧ sh + L.cells.length ≤ B.cells.length ∧
      (L.wr = true → B.wr = true ∧ sh = 0 ∧ L.sz = B.sz ∧ (L.mv = true → B.mv = true) ∧ L.pur = B.pur ∧ L.cells.length = B.cells.length) ∧
      (B.cells.drop sh).take L.cells.length = Zcc e L
structure EmbOK (H : List Blk) (e : Emb) (σ : List Blk) : Prop where
  len : e.length = σ.length
  one : ∀ (i : Nat) (p : Option (Nat × Nat)) (L : Blk), e[i]? = some p → σ[i]? = some L → Zns H e p L
  dist : ∀ (i j : Nat) (id sh sh' : Nat) (L : Blk), i ≠ j → e[i]? = some (some (id, sh)) → σ[i]? = some L → L.wr = true → e[j]? ≠ some (some (id, sh'))

theorem Zfb {mc : MapM} {e : Emb} {σ : List Blk} {i id sh : Nat} {L : Blk} (h1 : e[i]? = some (some (id, sh))) (h2 : σ[i]? = some L) : mE mc e σ i = (mc id).map fun r => Zbl r sh L := by simp [mE, h1, h2]

theorem Zd5 {mc : MapM} {H : List Blk} {e : Emb} {σ : List Blk} (hE : EmbOK H e σ) {i : Nat} {r : Reg} (h : mE mc e σ i = some r) :
  (∃ id sh L r0 B, e[i]? = some (some (id, sh)) ∧ σ[i]? = some L ∧ mc id = some r0 ∧ r = Zbl r0 sh L ∧ H[id]? = some B ∧ (0 < L.sz ∧ 0 < B.sz ∧ (B.fix = true → B.mv = false)) ∧ L.fix = B.fix ∧ (L.fix = false → L.sz = B.sz) ∧ (L.pur = true → B.pur = true) ∧ sh + L.cells.length ≤ B.cells.length ∧
   (L.wr = true → B.wr = true ∧ sh = 0 ∧ L.sz = B.sz ∧ (L.mv = true → B.mv = true) ∧ L.pur = B.pur ∧ L.cells.length = B.cells.length) ∧ (B.cells.drop sh).take L.cells.length = Zcc e L) ∨
  (∃ L, e[i]? = some none ∧ σ[i]? = some L ∧ r = Zdp L ∧ L.wr = false ∧ L.cells = [] ∧ 0 < L.sz) := by
 unfold mE at h
 split at h
 ·rename_i id sh L h1 h2
  cases hm : mc id with
  | none => simp [hm] at h
  | some r0 =>
   simp only [hm, Option.map_some] at h
   injection h with h
   obtain ⟨B, hB, rest⟩ := hE.one i _ L h1 h2
   exact .inl ⟨id, sh, L, r0, B, h1, h2, hm, h.symm, hB, rest⟩
 ·rename_i L h1 h2
  injection h with h
  exact .inr ⟨L, h1, h2, h.symm, hE.one i _ L h1 h2⟩
 ·cases h

def inE (e : Emb) (b : Nat) : Bool := match e[b]? with | some (some _) => true | _ => false
theorem Zsb {e : Emb} {b : Nat} (h : inE e b = true) : ∃ i sh, e[b]? = some (some (i, sh)) := by
 unfold inE at h
 split at h
 ·rename_i p hp; obtain ⟨i, sh⟩ := p; exact ⟨i, sh, hp⟩
 ·cases h
theorem Zng {mc : MapM} {H : List Blk} {G : Glob} {w : World} {e : Emb} {σ : List Blk} (hH : HRel G mc H w) (hE : EmbOK H e σ) {v v' : Value} (h : CR0 mc (Zc6 e v) v') (hok : Zcp (inE e) v = true) : CR0 (mE mc e σ) v v' := by
  cases v
  case pointer a =>
    rcases a with _ | ⟨b, o, _ | q⟩
    · exact h
    · obtain ⟨id, sh, he⟩ := Zsb (e := e) (b := b) hok
      simp only [Zc6, he, Option.bind_some, _root_.id] at h
      obtain ⟨r, hr, rfl⟩ : ∃ r, mc id = some r ∧ v' = .pointer (some ⟨r.g, r.lo + (sh + o), none⟩) := h
      have hb : b < σ.length := by rw [← hE.len]; exact (List.getElem?_eq_some_iff.1 he).1
      obtain ⟨B, hB, _, _, _, _, _, hw, _⟩ := hE.one b _ σ[b] he (by simp [hb])
      refine ⟨Zbl r sh σ[b], by rw [Zfb he (by simp [hb] : σ[b]? = some σ[b]), hr]; rfl, ?_⟩
      unfold Zbl
      split
      · rename_i hwr
        have := (hw hwr).2.1
        subst this; simp
      · simp [Nat.add_assoc]
    · exact h
  case slice a n c =>
    rcases a with _ | ⟨b, o, q⟩
    · exact h
    · obtain ⟨id, sh, he⟩ := Zsb (e := e) (b := b) hok
      simp only [Zc6, he, Option.bind_some, _root_.id] at h
      obtain ⟨r, a', c', hr, rfl, hs⟩ : ∃ r a' c', mc id = some r ∧ v' = .slice a' n c' ∧ Zg6 r (sh + o) n c a' c' := h
      have hb : b < σ.length := by rw [← hE.len]; exact (List.getElem?_eq_some_iff.1 he).1
      obtain ⟨B, hB, hsz, hfx, hfs, _, _, hw, _⟩ := hE.one b _ σ[b] he (by simp [hb])
      obtain ⟨_, hrw, hrf, hrl, hrs, hrm⟩ := hH.at_ hB hr
      refine ⟨Zbl r sh σ[b], a', c', by rw [Zfb he (by simp [hb] : σ[b]? = some σ[b]), hr]; rfl, rfl, hs.1, hs.2.1, fun h0 => ?_⟩
      obtain ⟨h1, h2⟩ := hs.2.2 h0
      unfold Zbl
      split
      · rename_i hwr
        have := (hw hwr).2.1
        subst this
        exact ⟨by rw [h1]; simp, fun hf => by have := h2.1 hf; simpa using this, fun _ hf hv => by
          simp only at hf hv
          have h3 := (hw hwr).2.2.2.1 hv
          rw [hsz.2.2 (by rw [← hrf]; exact hf)] at h3; cases h3⟩
      · refine ⟨by rw [h1, Nat.add_assoc], fun hf => ?_, fun hc => by simp at hc⟩
        simp only at hf ⊢
        have := h2.1 (by rw [hrf, ← hfx]; exact hf)
        rw [hfs hf, ← hrs]; omega
  all_goals exact h

theorem Zi9 {e : Emb} {v : Value} (h : Zt0 v = false) : Ze0 e v = Zc6 e v := by cases v <;> first | rfl | cases h
theorem Zl6 {e : Emb} {v : Value} (h : Zt0 v = false) : Zt0 (Zc6 e v) = false := by
  cases v
  case pointer a => rcases a with _ | ⟨b, o, _ | q⟩ <;> simp only [Zc6] <;> first | rfl | (split <;> rfl)
  case slice a n c => rcases a with _ | ⟨b, o, q⟩ <;> simp only [Zc6] <;> first | rfl | (split <;> rfl)
  case func => cases h
  all_goals rfl

theorem Zqh {mc : MapM} {H : List Blk} {G : Glob} {w : World} {e : Emb} {σ : List Blk} (hH : HRel G mc H w) (hE : EmbOK H e σ) {v v' : Value} (h : CR mc (Ze0 e v) v') (hok : Zal (inE e) v = true) : CR (mE mc e σ) v v' := by
 revert h hok
 refine Zel (P := fun v => CR mc (Ze0 e v) v' → Zal (inE e) v = true → CR (mE mc e σ) v v') ?_ ?_ v
 ·intro v hf h hok
  rw [Zi9 hf, Ziz (Zl6 hf)] at h
  rw [Ziz hf]
  rw [Zhz hf] at hok
  exact Zng hH hE h hok
 ·intro f xs ys h hok
  obtain ⟨xs', ys', rfl, h1, h2⟩ := h
  simp only [Zal, Bool.and_eq_true, List.all_eq_true] at hok
  simp only [Array.toList_map] at h1 h2
  exact ⟨xs', ys', rfl, h1.of_map_left fun x hx y hxy => Zng hH hE hxy (hok.1 x hx), h2.of_map_left fun x hx y hxy => Zng hH hE hxy (hok.2 x hx)⟩

def Zo0 (e : Emb) (vL vC : Value) : Prop :=
  match vL with
  | .slice (some ⟨b, o, none⟩) n c => match e[b]? with
    | some (some (i, sh)) => (match vC with | .slice (some ⟨i2, o2, none⟩) n2 c2 => i2 = i ∧ o2 = sh + o ∧ n2 = n ∧ c ≤ c2 ∧ n ≤ c | _ => False)
    | some none => vC = .slice none 0 0 ∧ o = 0 ∧ n = 0 ∧ c = 0
    | none => False
  | vL => vC = Ze0 e vL ∧ Zal (inE e) vL = true
def Zu9 (e : Emb) : List Value → List Value → Prop
  | [], [] => True
  | x :: xs, y :: ys => Zo0 e x y ∧ Zu9 e xs ys
  | _, _ => False
def Zh8 (e : Emb) (vL vC : Value) : Prop :=
  if Za0 vL then vC = vL else match vL with
  | .agg cs => (match vC with | .agg ds => Zu9 e cs.toList ds.toList | _ => False)
  | .tuple _ => False
  | v => Zo0 e v vC
def Ziq (e : Emb) : List Value → List Value → Prop
  | [], [] => True
  | x :: xs, y :: ys => Zh8 e x y ∧ Ziq e xs ys
  | _, _ => False

theorem Zx8 {mc : MapM} {H : List Blk} {G : Glob} {w : World} {e : Emb} {σ : List Blk} (hH : HRel G mc H w) (hE : EmbOK H e σ) {vL vC v' : Value} (ha : Zo0 e vL vC) (h : CR mc vC v') : CR (mE mc e σ) vL v' := by
  unfold Zo0 at ha
  split at ha
  · rename_i b o n c
    split at ha
    · rename_i i sh he
      split at ha
      · rename_i i2 o2 n2 c2
        obtain ⟨rfl, rfl, rfl, hc, hn⟩ := ha
        obtain ⟨r, a', c', hr, rfl, hs⟩ : ∃ r a' c', mc i2 = some r ∧ v' = .slice a' n2 c' ∧ Zg6 r (sh + o) n2 c2 a' c' := h
        have h2 : CR mc (Ze0 e (.slice (some ⟨b, o, none⟩) n2 c2)) (.slice a' n2 c') := by
          rw [Zi9 rfl, Ziz (Zl6 rfl)]
          simp only [Zc6, he, Option.bind_some, id]
          exact ⟨r, a', c', hr, rfl, hs⟩
        obtain ⟨r1, a1, c1, g1, g2, g3⟩ : ∃ r a1 c1, mE mc e σ b = some r ∧ Value.slice a' n2 c' = .slice a1 n2 c1 ∧ Zg6 r o n2 c2 a1 c1 := Zqh hH hE h2 (by show inE e b = true; simp [inE, he])
        refine ⟨r1, a1, c1, g1, g2, hn, Nat.le_trans hc g3.2.1, fun h0 => ⟨(g3.2.2 h0).1, (g3.2.2 h0).2.1, fun e1 e2 e3 => ?_⟩⟩
        rcases Zd5 hE g1 with ⟨id', sh', L, r0, B, k1, k2, k3, rfl, hB, hsz, hfx, hfs, hpu, hle, hw, hcc⟩ | ⟨L, k1, k2, rfl, hw, hce, hsz⟩
        · unfold Zbl at e1 e2 e3
          by_cases hL : L.wr = true
          · rw [if_pos hL] at e1 e2 e3
            simp only at e1 e2 e3
            obtain ⟨_, _, hrf, _⟩ := hH.at_ hB k3
            have h3 := (hw hL).2.2.2.1 e3
            rw [hsz.2.2 (by rw [← hrf]; exact e2)] at h3; cases h3
          · rw [if_neg hL] at e1; cases e1
        · simp only [Zdp] at e1; rw [hw] at e1; cases e1
      · cases ha
    · rename_i he
      obtain ⟨rfl, rfl, rfl, rfl⟩ := ha
      have hv : v' = .slice none 0 0 := h
      subst hv
      have hb : b < σ.length := by rw [← hE.len]; exact (List.getElem?_eq_some_iff.1 he).1
      refine ⟨Zdp σ[b], none, 0, by simp [mE, he, hb], rfl, Nat.le_refl _, Nat.le_refl _, fun h => by omega⟩
    · cases ha
  · obtain ⟨rfl, hok⟩ := ha
    exact Zqh hH hE h hok

theorem Zvb {mc : MapM} {H : List Blk} {G : Glob} {w : World} {e : Emb} {σ : List Blk} (hH : HRel G mc H w) (hE : EmbOK H e σ) : ∀ (xs ys zs : List Value), Zu9 e xs ys → L2 (CR mc) ys zs → L2 (CR (mE mc e σ)) xs zs
 | [], [], zs, _, h => by have := h.nil_inv; subst this; exact L2.nil
 | x :: xs, y :: ys, zs, ha, h => by
  obtain ⟨z, zs', rfl, h1, h2⟩ := h.inv
  exact L2.cons (Zx8 hH hE ha.1 h1) (Zvb hH hE xs ys zs' ha.2 h2)
 | [], _ :: _, _, ha, _ => ha.elim
 | _ :: _, [], _, ha, _ => ha.elim

theorem Zv1 {e : Emb} {v : Value} (h : Zg7 v = false) : Z19 e v = Ze0 e v := by cases v <;> first | rfl | cases h
theorem Zjs (e : Emb) (v : Value) : Zg7 (Ze0 e v) = Zg7 v ∧ Zhn (Ze0 e v) = Zhn v := by
 cases v
 case pointer a =>
  rcases a with _ | ⟨b, o, _ | q⟩
  ·exact ⟨rfl, rfl⟩
  ·simp only [Ze0, Zc6]
   cases (e[b]?).bind id <;> exact ⟨rfl, rfl⟩
  ·exact ⟨rfl, rfl⟩
 case slice a n c =>
  rcases a with _ | ⟨b, o, q⟩
  ·exact ⟨rfl, rfl⟩
  ·simp only [Ze0, Zc6]
   cases (e[b]?).bind id <;> exact ⟨rfl, rfl⟩
 all_goals exact ⟨rfl, rfl⟩
theorem Zpe {e : Emb} {vL vC : Value} (ha : Zo0 e vL vC) (h : Zg7 vL = false) (h' : Zhn vL = false) : Zg7 vC = false ∧ Zhn vC = false := by
 unfold Zo0 at ha
 split at ha
 ·split at ha
  ·split at ha
   ·exact ⟨rfl, rfl⟩
   ·cases ha
  ·obtain ⟨rfl, _⟩ := ha; exact ⟨rfl, rfl⟩
  ·cases ha
 ·obtain ⟨rfl, hok⟩ := ha
  exact ⟨by rw [(Zjs e vL).1, h], by rw [(Zjs e vL).2, h']⟩

theorem Znd {mc : MapM} {H : List Blk} {G : Glob} {w : World} {e : Emb} {σ : List Blk} (hH : HRel G mc H w) (hE : EmbOK H e σ) {vL vC v' : Value} (ha : Zh8 e vL vC) (h : VR mc vC v') : VR (mE mc e σ) vL v' := by
 unfold Zh8 at ha
 split at ha
 ·rename_i hp
  subst ha
  have := h.pure hp
  subst this
  exact VR.of_pure hp
 ·split at ha
  ·rename_i cs
   split at ha
   ·rename_i ds
    obtain ⟨ds', rfl, h1⟩ := h
    exact ⟨ds', rfl, Zvb hH hE _ _ _ ha h1⟩
   ·cases ha
  ·cases ha
  ·rename_i hna hnt
   have h1 : Zg7 vL = false := by cases vL <;> first | rfl | exact absurd rfl (hna _)
   have h2 : Zhn vL = false := by cases vL <;> first | rfl | exact absurd rfl (hnt _)
   obtain ⟨h3, h4⟩ := Zpe ha h1 h2
   rw [Zfl h2, Zhh h1]
   rw [Zfl h4, Zhh h3] at h
   exact Zx8 hH hE ha h
theorem Zm2 {mc : MapM} {H : List Blk} {G : Glob} {w : World} {e : Emb} {σ : List Blk} (hH : HRel G mc H w) (hE : EmbOK H e σ) : ∀ (xs ys zs : List Value), Ziq e xs ys → L2 (VR mc) ys zs → L2 (VR (mE mc e σ)) xs zs
 | [], [], zs, _, h => by have := h.nil_inv; subst this; exact L2.nil
 | x :: xs, y :: ys, zs, ha, h => by
  obtain ⟨z, zs', rfl, h1, h2⟩ := h.inv
  exact L2.cons (Znd hH hE ha.1 h1) (Zm2 hH hE xs ys zs' ha.2 h2)
 | [], _ :: _, _, ha, _ => ha.elim
 | _ :: _, [], _, ha, _ => ha.elim

theorem HRel.embed {mc : MapM} {H : List Blk} {G : Glob} {w : World} {e : Emb} {σ : List Blk} (hH : HRel G mc H w) (hE : EmbOK H e σ)
    (hnm : ∀ (i : Nat) (L : Blk), σ[i]? = some L → L.pur = true ∨ ∀ v, v ∈ L.cells → Zal (inE e) v = true) : HRel G (mE mc e σ) σ w := by
  refine ⟨?_, ?_, ?_, ?_, ?_, ?_, ?_, ?_, ?_⟩
  · intro i r hr
    rcases Zd5 hE hr with ⟨id, sh, L, r0, B, h1, h2, h3, rfl, hB, hsz, hfx, hfs, hpu, hle, hw, hc⟩ | ⟨L, h1, h2, rfl, hw, hce, hsz⟩
    · obtain ⟨_, hrw, hrf, hrl, hrs, hrm⟩ := hH.at_ hB h3
      refine ⟨L, h2, hsz.1, ?_⟩
      unfold Zbl
      by_cases hwr : L.wr = true
      · obtain ⟨g1, g2, g3, g4, g5, g6⟩ := hw hwr
        rw [if_pos hwr]
        exact ⟨by rw [hwr]; simp only; rw [hrw, g1], by simp only; rw [hrf, hfx], by simp only; rw [hrl, g6], by simp only; rw [hrs, g3], rfl⟩
      · rw [if_neg hwr]
        exact ⟨by simpa using hwr, rfl, rfl, rfl, rfl⟩
    · exact ⟨L, h2, hsz, rfl, rfl, by rw [hce]; rfl, rfl, rfl⟩
  · intro i L hL hsz
    have hi : i < σ.length := (List.getElem?_eq_some_iff.1 hL).1
    obtain ⟨p, hp'⟩ : ∃ p, e[i]? = some p := ⟨e[i]'(by rw [hE.len]; exact hi), by simp [hE.len, hi]⟩
    cases p with
    | none => exact ⟨Zdp L, by simp [mE, hp', hL]⟩
    | some p =>
      obtain ⟨id, sh⟩ := p
      obtain ⟨B, hB, hsz2, _⟩ := hE.one i _ L hp' hL
      obtain ⟨r, hr⟩ := hH.live id B hB hsz2.2.1
      exact ⟨Zbl r sh L, by rw [Zfb hp' hL, hr]; rfl⟩
  · intro i L r j v hL hr hv
    rcases Zd5 hE hr with ⟨id, sh, L', r0, B, h1, h2, h3, rfl, hB, hsz, hfx, hfs, hpu, hle, hw, hc⟩ | ⟨L', h1, h2, rfl, hw, hce, hsz⟩
    · rw [hL] at h2; injection h2 with h2; subst h2
      have hj : j < L.cells.length := (List.getElem?_eq_some_iff.1 hv).1
      have hcj : B.cells[sh + j]? = (Zcc e L)[j]? := by
        rw [← hc, List.getElem?_take, if_pos hj, List.getElem?_drop]
      have haddr : (⟨(Zbl r0 sh L).g, (Zbl r0 sh L).lo + j, none⟩ : Addr) = ⟨r0.g, r0.lo + (sh + j), none⟩ := by
        unfold Zbl
        split
        · rename_i hwr; have := (hw hwr).2.1; subst this; simp
        · simp [Nat.add_assoc]
      rw [haddr]
      unfold Zcc at hcj
      by_cases hp : L.pur = true
      · rw [if_pos hp, hv] at hcj
        obtain ⟨v', g1, g2⟩ := hH.cell id B r0 _ v hB h3 hcj
        have hpv := hH.pur id B hB (hpu hp) v (List.mem_of_getElem? hcj)
        refine ⟨v', g1, ?_⟩
        rw [g2.pure hpv]; exact CR.of_pure hpv
      · rw [if_neg hp, List.getElem?_map, hv, Option.map_some] at hcj
        obtain ⟨v', g1, g2⟩ := hH.cell id B r0 _ _ hB h3 hcj
        refine ⟨v', g1, Zqh hH hE g2 ?_⟩
        rcases hnm i L hL with h | h
        · exact absurd h hp
        · exact h v (List.mem_of_getElem? hv)
    · rw [hL] at h2; injection h2 with h2; subst h2
      rw [hce] at hv; simp at hv
  · intro i L hL hp v hv
    have hi : i < σ.length := (List.getElem?_eq_some_iff.1 hL).1
    obtain ⟨p, hp'⟩ : ∃ p, e[i]? = some p := ⟨e[i]'(by rw [hE.len]; exact hi), by simp [hE.len, hi]⟩
    have h1 := hE.one i p L hp' hL
    cases p with
    | none => have := h1.2.1; rw [this] at hv; cases hv
    | some p =>
      obtain ⟨id, sh⟩ := p
      obtain ⟨B, hB, hsz, hfx, hfs, hpu, hle, hw, hc⟩ := h1
      unfold Zcc at hc
      rw [if_pos hp] at hc
      rw [← hc] at hv
      exact hH.pur id B hB (hpu hp) v (List.mem_of_mem_drop (List.mem_of_mem_take hv))
  · intro i r hr hwr
    rcases Zd5 hE hr with ⟨id, sh, L, r0, B, h1, h2, h3, rfl, hB, hsz, hfx, hfs, hpu, hle, hw, hc⟩ | ⟨L, h1, h2, rfl, hw, hce, hsz⟩
    · unfold Zbl at hwr ⊢
      by_cases hL : L.wr = true
      · obtain ⟨_, hrw, _⟩ := hH.at_ hB h3
        rw [if_pos hL] at hwr ⊢
        exact hH.own id r0 h3 hwr
      · rw [if_neg hL] at hwr; cases hwr
    · simp only [Zdp] at hwr; rw [hw] at hwr; cases hwr
  · intro i r hr hwr hs1 hlh
    rcases Zd5 hE hr with ⟨id, sh, L, r0, B, h1, h2, h3, rfl, hB, hsz, hfx, hfs, hpu, hle, hw, hc⟩ | ⟨L, h1, h2, rfl, hw, hce, hsz⟩
    · unfold Zbl at hwr hs1 hlh ⊢
      by_cases hL : L.wr = true
      · rw [if_pos hL] at hwr hs1 hlh ⊢
        exact hH.clean id r0 h3 hwr hs1 hlh
      · rw [if_neg hL] at hwr; cases hwr
    · simp only [Zdp] at hwr; rw [hw] at hwr; cases hwr
  · intro i j r r' hij hr hr' hwr hg q h1 h2 h3 h4
    rcases Zd5 hE hr with ⟨id, sh, L, r0, B, e1, e2, e3, rfl, hB, hsz, hfx, hfs, hpu, hle, hw, hc⟩ | ⟨L, e1, e2, rfl, hw, hce, hsz⟩
    · unfold Zbl at hwr hg h1 h2
      by_cases hL : L.wr = true
      · rw [if_pos hL] at hwr hg h1 h2
        simp only at hg h1 h2 hwr
        rcases Zd5 hE hr' with ⟨id', sh', L', r0', B', f1, f2, f3, rfl, hB', hsz', hfx', hfs', hpu', hle', hw', hc'⟩ | ⟨L', f1, f2, rfl, hw', hce', hsz'⟩
        · have hne : id ≠ id' := by
            rintro rfl
            exact hE.dist i j id sh sh' L hij e1 e2 hL f1
          obtain ⟨_, grw, _, grl, _⟩ := hH.at_ hB' f3
          unfold Zbl Reg.ext at h4
          unfold Zbl at hg h3
          by_cases hL' : L'.wr = true
          · simp only [if_pos hL'] at hg h3 h4
            exact hH.dis id id' r0 r0' hne e3 f3 hwr hg q h1 h2 h3 (by unfold Reg.ext; exact h4)
          · simp only [if_neg hL'] at hg h3 h4
            simp only [Bool.false_eq_true, if_false] at h4
            refine hH.dis id id' r0 r0' hne e3 f3 hwr hg q h1 h2 (by omega) ?_
            unfold Reg.ext
            split
            · rename_i hww; have := (hH.own id' r0' f3 hww).1; omega
            · omega
        · simp only [Zdp, Reg.ext, hw', hce', Bool.false_eq_true, if_false] at h4 h3
          omega
      · rw [if_neg hL] at hwr; cases hwr
    · simp only [Zdp] at hwr; rw [hw] at hwr; cases hwr
  · exact hH.glob
  · intro i r q hr hwr h1 h2
    rcases Zd5 hE hr with ⟨id, sh, L, r0, B, e1, e2, e3, rfl, hB, hsz, hfx, hfs, hpu, hle, hw, hc⟩ | ⟨L, e1, e2, rfl, hw, hce, hsz⟩
    · unfold Zbl at hwr h1 h2 ⊢
      by_cases hL : L.wr = true
      · rw [if_pos hL] at hwr h1 h2 ⊢
        exact hH.gwr id r0 q e3 hwr h1 h2
      · rw [if_neg hL] at hwr; cases hwr
    · simp only [Zdp] at hwr; rw [hw] at hwr; cases hwr

theorem Zjv.embed {mc : MapM} {H : List Blk} {G : Glob} {w : World} {e : Emb} {σ : List Blk} (hH : HRel G mc H w) (hE : EmbOK H e σ) {g j : Nat} (h : Zjv (mE mc e σ) g j) :
    ∃ (i id sh : Nat) (L : Blk) (r0 : Reg), e[i]? = some (some (id, sh)) ∧ σ[i]? = some L ∧ L.wr = true ∧ mc id = some r0 ∧ r0.wr = true ∧ r0.g = g ∧ r0.lo ≤ j ∧ j < r0.hi := by
  obtain ⟨i, r, hr, hwr, hg, h1, h2⟩ := h
  rcases Zd5 hE hr with ⟨id, sh, L, r0, B, e1, e2, e3, rfl, hB, hsz, hfx, hfs, hpu, hle, hw, hc⟩ | ⟨L, e1, e2, rfl, hw, hce, hsz⟩
  · unfold Zbl at hwr hg h1 h2
    by_cases hL : L.wr = true
    · rw [if_pos hL] at hwr hg h1 h2
      exact ⟨i, id, sh, L, r0, e1, e2, hL, e3, hwr, hg, h1, h2⟩
    · rw [if_neg hL] at hwr; cases hwr
  · simp only [Zdp] at hwr; rw [hw] at hwr; cases hwr

end Go.Flat
end
section
/- What a call leaves, in the caller's heap. -/
namespace Go.Flat

def Zf1 (e : Emb) (σ : List Blk) (i b : Nat) : Prop := ∃ (sh : Nat) (L : Blk), e[i]? = some (some (b, sh)) ∧ σ[i]? = some L ∧ L.wr = true ∧ L.mv = true
def Zeh (e : Emb) (nid n : Nat) : Emb := e ++ (List.range n).map fun k => some (nid + k, 0)

structure After (H H' : List Blk) (e : Emb) (σ σ' : List Blk) (nid : Nat) : Prop where
  len : σ.length ≤ σ'.length
  hlen : H'.length = H.length
  flags : ∀ (i : Nat) (L L' : Blk), σ[i]? = some L → σ'[i]? = some L' → L'.wr = L.wr ∧ L'.fix = L.fix ∧ L'.mv = L.mv ∧ L'.sz = L.sz ∧ L'.pur = L.pur
  wrs : ∀ (i : Nat) (L : Blk), σ.length ≤ i → σ'[i]? = some L → L.wr = true
  holes : ∀ k, k < σ'.length - σ.length → ∃ x, H[nid + k]? = some x ∧ x.sz = 0
  new : ∀ (k : Nat) (L : Blk), σ'[σ.length + k]? = some L → H'[nid + k]? = some { L with cells := Zcc (Zeh e nid (σ'.length - σ.length)) L }
  rep : ∀ (i id sh : Nat) (L L' B : Blk), e[i]? = some (some (id, sh)) → σ[i]? = some L → σ'[i]? = some L' → L.wr = true → H[id]? = some B → H'[id]? = some { B with cells := Zcc (Zeh e nid (σ'.length - σ.length)) L' }
  same : ∀ b, (∀ k, k < σ'.length - σ.length → b ≠ nid + k) → (∀ (i sh : Nat) (L : Blk), e[i]? = some (some (b, sh)) → σ[i]? = some L → L.wr = false) → H'[b]? = H[b]?

open Classical in
noncomputable def mB (mc m' : MapM) (e : Emb) (σ σ' : List Blk) (nid : Nat) : MapM := fun b =>
  if nid ≤ b ∧ b < nid + (σ'.length - σ.length) then m' (σ.length + (b - nid))
  else if h : ∃ i, Zf1 e σ i b then m' (Classical.choose h) else mc b

section
variable {G : Glob} {mc m' : MapM} {H H' : List Blk} {w w' : World} {e : Emb} {σ σ' : List Blk} {nid : Nat} {E : Ent}

theorem Zf1.unique (hE : EmbOK H e σ) {i j b : Nat} (h1 : Zf1 e σ i b) (h2 : Zf1 e σ j b) : i = j := by
 obtain ⟨sh, L, a1, a2, a3, _⟩ := h1
 obtain ⟨sh', L', b1, b2, b3, _⟩ := h2
 rcases Nat.decEq i j with h | h
 ·exact absurd b1 (hE.dist i j b sh sh' L h a1 a2 a3)
 ·exact h

theorem Zt7 {k : Nat} (hk : k < σ'.length - σ.length) : mB mc m' e σ σ' nid (nid + k) = m' (σ.length + k) := by
 unfold mB
 rw [if_pos (by omega), show nid + k - nid = k from by omega]
theorem Zoa (hE : EmbOK H e σ) (hA : After H H' e σ σ' nid) {i b : Nat} (h : Zf1 e σ i b) : mB mc m' e σ σ' nid b = m' i := by
 have hb : ¬ (nid ≤ b ∧ b < nid + (σ'.length - σ.length)) := by
  intro hh
  obtain ⟨sh, L, a1, a2, a3, _⟩ := h
  obtain ⟨x, hx, hx0⟩ := hA.holes (b - nid) (by omega)
  obtain ⟨B, hB, hsz, _, _, _, _, hw, _⟩ := hE.one i _ L a1 a2
  rw [show nid + (b - nid) = b from by omega, hB] at hx
  injection hx with hx; subst hx
  have := hsz.2.1
  omega
 unfold mB
 rw [if_neg hb]
 have hex : ∃ i, Zf1 e σ i b := ⟨i, h⟩
 rw [dif_pos hex]
 congr 1
 exact Zf1.unique hE (Classical.choose_spec hex) h
theorem Zjb {b : Nat} (h1 : ∀ k, k < σ'.length - σ.length → b ≠ nid + k) (h2 : ¬ ∃ i, Zf1 e σ i b) : mB mc m' e σ σ' nid b = mc b := by
 have hb : ¬ (nid ≤ b ∧ b < nid + (σ'.length - σ.length)) := fun hh => h1 (b - nid) (by omega) (by omega)
 unfold mB
 rw [if_neg hb, dif_neg h2]

theorem Zsj (hE : EmbOK H e σ) (hA : After H H' e σ σ' nid) {b : Nat} {r : Reg} (h : mB mc m' e σ σ' nid b = some r) :
  (∃ k, k < σ'.length - σ.length ∧ b = nid + k ∧ m' (σ.length + k) = some r) ∨ (∃ i, Zf1 e σ i b ∧ m' i = some r) ∨
  ((∀ k, k < σ'.length - σ.length → b ≠ nid + k) ∧ (¬ ∃ i, Zf1 e σ i b) ∧ mc b = some r) := by
 by_cases hb : nid ≤ b ∧ b < nid + (σ'.length - σ.length)
 ·have : b = nid + (b - nid) := by omega
  rw [this, Zt7 (by omega)] at h
  exact .inl ⟨b - nid, by omega, this, h⟩
 ·have h1 : ∀ k, k < σ'.length - σ.length → b ≠ nid + k := fun k hk he => hb (by omega)
  by_cases hm : ∃ i, Zf1 e σ i b
  ·obtain ⟨i, hi⟩ := hm
   rw [Zoa hE hA hi] at h
   exact .inr (.inl ⟨i, hi, h⟩)
  ·rw [Zjb h1 hm] at h
   exact .inr (.inr ⟨h1, hm, h⟩)

theorem Z1n {i n : Nat} (h : i < e.length) : (Zeh e nid n)[i]? = e[i]? := by
 unfold Zeh; rw [List.getElem?_append_left h]
theorem Z1m {i n : Nat} {p : Option (Nat × Nat)} (h : e.length ≤ i) (hp : (Zeh e nid n)[i]? = some p) : i - e.length < n ∧ p = some (nid + (i - e.length), 0) := by
 unfold Zeh at hp
 rw [List.getElem?_append_right h, List.getElem?_map] at hp
 rcases Nat.lt_or_ge (i - e.length) n with h1 | h1
 ·rw [List.getElem?_range h1] at hp
  simp at hp
  exact ⟨h1, hp.symm⟩
 ·rw [List.getElem?_eq_none (by simpa using h1)] at hp
  cases hp

theorem Z2x (hH : HRel G mc H w) (hE : EmbOK H e σ) (hA : After H H' e σ σ' nid) (hF : Frame ⟨mE mc e σ, w, []⟩ m' w') {i id sh : Nat} (hi : (Zeh e nid (σ'.length - σ.length))[i]? = some (some (id, sh))) {r' : Reg} (hr : m' i = some r') :
    ∃ r, mB mc m' e σ σ' nid id = some r ∧ r.g = r'.g ∧ r.lo + sh = r'.lo ∧ r.hi = r'.hi ∧ r.fix = r'.fix ∧ (r'.fix = false → r.sz = r'.sz) ∧ (r.wr = true → r.fix = true → r.mv = true → r'.wr = true ∧ r'.fix = true ∧ r'.mv = true) := by
  rcases Nat.lt_or_ge i e.length with hlt | hge
  · rw [Z1n hlt] at hi
    have hlt' : i < σ.length := by rw [← hE.len]; exact hlt
    have hL : σ[i]? = some σ[i] := by simp [hlt']
    obtain ⟨B, hB, hsz, hfx, hfs, hpu, hle, hw, hc⟩ := hE.one i _ _ hi hL
    by_cases hm : σ[i].wr = true ∧ σ[i].mv = true
    · have hmv : Zf1 e σ i id := ⟨sh, _, hi, hL, hm.1, hm.2⟩
      have := (hw hm.1).2.1
      subst this
      exact ⟨r', by rw [Zoa hE hA hmv]; exact hr, rfl, by simp, rfl, rfl, fun _ => rfl, fun h1 h2 h3 => ⟨h1, h2, h3⟩⟩
    · obtain ⟨r0, hr0⟩ := hH.live id B hB hsz.2.1
      have hk : m' i = some (Zbl r0 sh σ[i]) := by
        refine hF.keep i (Zbl r0 sh σ[i]) (by show mE mc e σ i = _; rw [Zfb hi hL, hr0]; rfl) ?_
        unfold Zbl
        by_cases hwr : σ[i].wr = true
        · rw [if_pos hwr]; right
          simp only
          cases hmm : σ[i].mv with
          | true => exact absurd ⟨hwr, hmm⟩ hm
          | false => rfl
        · rw [if_neg hwr]; left; rfl
      rw [hr] at hk; injection hk with hk
      have hno : ¬ ∃ j, Zf1 e σ j id := by
        rintro ⟨j, sh', L', a1, a2, a3, a4⟩
        by_cases hij : j = i
        · subst hij; rw [hL] at a2; injection a2 with a2; subst a2; exact hm ⟨a3, a4⟩
        · exact hE.dist j i id sh' sh L' hij a1 a2 a3 hi
      have hnew : ∀ k, k < σ'.length - σ.length → id ≠ nid + k := by
        rintro k hk' rfl
        obtain ⟨x, hx, hx0⟩ := hA.holes k hk'
        rw [hB] at hx; injection hx with hx; subst hx
        have := hsz.2.1; omega
      obtain ⟨_, hrw, hrf, hrl, hrs, hrm⟩ := hH.at_ hB hr0
      refine ⟨r0, by rw [Zjb hnew hno]; exact hr0, ?_⟩
      subst hk
      unfold Zbl
      by_cases hwr : σ[i].wr = true
      · have := (hw hwr).2.1
        subst this
        rw [if_pos hwr]
        exact ⟨rfl, by simp, rfl, rfl, fun _ => rfl, fun _ e2 e3 => by rw [hrm, hsz.2.2 (by rw [← hrf]; exact e2)] at e3; cases e3⟩
      · rw [if_neg hwr]
        exact ⟨rfl, rfl, rfl, by rw [hrf, hfx], fun hf => by simp only at hf ⊢; rw [hrs, hfs hf], fun _ e2 e3 => by rw [hrm, hsz.2.2 (by rw [← hrf]; exact e2)] at e3; cases e3⟩
  · obtain ⟨h1, h2⟩ := Z1m hge hi
    injection h2 with h2; injection h2 with h2 h3
    subst h2; subst h3
    have : i = σ.length + (i - e.length) := by rw [← hE.len]; omega
    exact ⟨r', by rw [Zt7 h1, ← this]; exact hr, rfl, by simp, rfl, rfl, fun _ => rfl, fun h1 h2 h3 => ⟨h1, h2, h3⟩⟩

theorem Zqr (hH : HRel G mc H w) (hE : EmbOK H e σ) (hA : After H H' e σ σ' nid) (hF : Frame ⟨mE mc e σ, w, []⟩ m' w') {v v' : Value} (h : CR0 m' v v') : CR0 (mB mc m' e σ σ' nid) (Zc6 (Zeh e nid (σ'.length - σ.length)) v) v' := by
 cases v
 case pointer a =>
  rcases a with _ | ⟨b, o, _ | q⟩
  ·exact h
  ·obtain ⟨r', hr, rfl⟩ := h
   simp only [Zc6]
   rcases hp : (Zeh e nid (σ'.length - σ.length))[b]? with _ | _ | ⟨id, sh⟩
   ·trivial
   ·trivial
   ·obtain ⟨r, h1, h2, h3, _⟩ := Z2x hH hE hA hF hp hr
    simp only [Option.bind_some, _root_.id]
    exact ⟨r, h1, by rw [h2, ← h3, Nat.add_assoc]⟩
  ·exact h
 case slice a n c =>
  rcases a with _ | ⟨b, o, q⟩
  ·exact h
  ·obtain ⟨r', a', c', hr, rfl, hs⟩ := h
   simp only [Zc6]
   rcases hp : (Zeh e nid (σ'.length - σ.length))[b]? with _ | _ | ⟨id, sh⟩
   ·trivial
   ·trivial
   ·obtain ⟨r, h1, h2, h3, h4, h5, h6, h7⟩ := Z2x hH hE hA hF hp hr
    simp only [Option.bind_some, _root_.id]
    refine ⟨r, a', c', h1, rfl, hs.1, hs.2.1, fun h0 => ?_⟩
    obtain ⟨g1, g2, g3⟩ := hs.2.2 h0
    refine ⟨by rw [g1, h2, ← h3, Nat.add_assoc], fun hf => ?_, fun e1 e2 e3 => g3 (h7 e1 e2 e3).1 (h7 e1 e2 e3).2.1 (h7 e1 e2 e3).2.2⟩
    have hf' : r'.fix = false := by rw [← h5]; exact hf
    have := g2 hf'
    simp only at this ⊢
    rw [h6 hf', h4]; omega
 all_goals exact h
theorem Zty (hH : HRel G mc H w) (hE : EmbOK H e σ) (hA : After H H' e σ σ' nid) (hF : Frame ⟨mE mc e σ, w, []⟩ m' w') {v v' : Value} (h : CR m' v v') : CR (mB mc m' e σ σ' nid) (Ze0 (Zeh e nid (σ'.length - σ.length)) v) v' := by
 revert h
 refine Zel (P := fun v => CR m' v v' → CR (mB mc m' e σ σ' nid) (Ze0 (Zeh e nid (σ'.length - σ.length)) v) v') ?_ ?_ v
 ·intro v hf h
  rw [Zi9 hf, Ziz (Zl6 hf)]
  rw [Ziz hf] at h
  exact Zqr hH hE hA hF h
 ·intro f xs ys h
  obtain ⟨xs', ys', rfl, h1, h2⟩ := h
  refine ⟨xs', ys', rfl, ?_, ?_⟩
  ·simp only [Array.toList_map]; exact h1.map_left fun x _ y hxy => Zqr hH hE hA hF hxy
  ·simp only [Array.toList_map]; exact h2.map_left fun x _ y hxy => Zqr hH hE hA hF hxy
theorem Zvu (hH : HRel G mc H w) (hE : EmbOK H e σ) (hA : After H H' e σ σ' nid) (hF : Frame ⟨mE mc e σ, w, []⟩ m' w') {v v' : Value} (h : VR1 m' v v') : VR1 (mB mc m' e σ σ' nid) (Zj6 (Zeh e nid (σ'.length - σ.length)) v) v' := by
 unfold Zj6
 split
 ·rename_i hp
  rw [h.pure hp]; exact VR1.of_pure hp
 ·rename_i hp
  revert h
  refine Zgv (P := fun v => VR1 m' v v' → VR1 (mB mc m' e σ σ' nid) (Z19 (Zeh e nid (σ'.length - σ.length)) v) v') ?_ ?_ v
  ·intro v hf h
   rw [Zv1 hf, Zhh (by rw [(Zjs _ v).1]; exact hf)]
   rw [Zhh hf] at h
   exact Zty hH hE hA hF h
  ·intro cs h
   obtain ⟨cs', rfl, h1⟩ := h
   refine ⟨cs', rfl, ?_⟩
   simp only [Array.toList_map]
   exact h1.map_left fun x _ y hxy => Zty hH hE hA hF hxy
theorem Zs2 (e : Emb) (v : Value) (h : Zhn v = false) : Zhn (Zj6 e v) = false := by
  unfold Zj6
  split
  · exact h
  · by_cases ha : Zg7 v = true
    · cases v <;> first | rfl | cases ha
    · rw [Zv1 (by simpa using ha), (Zjs _ v).2]; exact h
theorem Z3p (hH : HRel G mc H w) (hE : EmbOK H e σ) (hA : After H H' e σ σ' nid) (hF : Frame ⟨mE mc e σ, w, []⟩ m' w') {v v' : Value} (h : VR m' v v') : VR (mB mc m' e σ σ' nid) (Zoi (Zeh e nid (σ'.length - σ.length)) v) v' := by
  revert h
  refine Zke (P := fun v => VR m' v v' → VR (mB mc m' e σ σ' nid) (Zoi (Zeh e nid (σ'.length - σ.length)) v) v') ?_ ?_ v
  · intro v hf h
    have : Zoi (Zeh e nid (σ'.length - σ.length)) v = Zj6 (Zeh e nid (σ'.length - σ.length)) v := by cases v <;> first | rfl | cases hf
    rw [this, Zfl (Zs2 _ _ hf)]
    rw [Zfl hf] at h
    exact Zvu hH hE hA hF h
  · intro cs h
    obtain ⟨cs', rfl, h1⟩ := h
    refine ⟨cs', rfl, ?_⟩
    simp only [Array.toList_map]
    exact h1.map_left fun x _ y hxy => Zvu hH hE hA hF hxy


theorem Zhi (e : Emb) (L : Blk) : (Zcc e L).length = L.cells.length := by unfold Zcc; split <;> simp

structure KindA (mc m' : MapM) (H H' : List Blk) (e : Emb) (σ σ' : List Blk) (nid b : Nat) (r : Reg) (i : Nat) (L' : Blk) : Prop where
  loc : ∃ r', m' i = some r' ∧ r.g = r'.g ∧ r.lo = r'.lo ∧ r.hi = r'.hi ∧ r.len = r'.len ∧ r'.wr = true
  wr : r.wr = true
  blk : σ'[i]? = some L'
  here : ∃ x, H'[b]? = some x ∧ x.cells = Zcc (Zeh e nid (σ'.length - σ.length)) L' ∧ x.pur = L'.pur ∧ 0 < x.sz ∧ r.wr = x.wr ∧ r.fix = x.fix ∧ r.len = x.cells.length ∧ r.sz = x.sz ∧ r.mv = x.mv
  idx : (σ.length ≤ i ∧ b = nid + (i - σ.length)) ∨ (∃ (sh : Nat) (L : Blk), e[i]? = some (some (b, sh)) ∧ σ[i]? = some L ∧ L.wr = true)
  old : (∃ r', m' i = some r' ∧ r = r') ∨ mc b = some r

def Zgh (e : Emb) (σ : List Blk) (b : Nat) : Prop := ∀ (i sh : Nat) (L : Blk), e[i]? = some (some (b, sh)) → σ[i]? = some L → L.wr = false

theorem Zk4 (hH : HRel G mc H w) (hE : EmbOK H e σ) (hA : After H H' e σ σ' nid) (h' : HRel G m' σ' w') (hF : Frame ⟨mE mc e σ, w, []⟩ m' w') {b : Nat} {r : Reg} (h : mB mc m' e σ σ' nid b = some r) :
  (∃ i L', KindA mc m' H H' e σ σ' nid b r i L') ∨ (mc b = some r ∧ H'[b]? = H[b]? ∧ Zgh e σ b) := by
 rcases Zsj hE hA h with ⟨k, hk, rfl, hr⟩ | ⟨i, hmv, hr⟩ | ⟨h1, h2, hr⟩
 ·left
  obtain ⟨L', g1, g2, g3, g4, g5, g6, g7⟩ := h'.reg _ r hr
  have hw := hA.wrs _ L' (by omega) g1
  refine ⟨σ.length + k, L', ⟨⟨r, hr, rfl, rfl, rfl, rfl, by rw [g3]; exact hw⟩, by rw [g3]; exact hw, g1, ⟨_, hA.new k L' g1, rfl, rfl, g2, g3, g4, by simp only; rw [Zhi]; exact g5, g6, g7⟩, .inl ⟨by omega, by omega⟩, .inl ⟨r, hr, rfl⟩⟩⟩
 ·left
  obtain ⟨sh, L, a1, a2, a3, a4⟩ := hmv
  obtain ⟨L', g1, g2, g3, g4, g5, g6, g7⟩ := h'.reg _ r hr
  obtain ⟨f1, f2, f3, f4, f5⟩ := hA.flags i L L' a2 g1
  obtain ⟨B, hB, hsz, hfx, hfs, hpu, hle, hw, hc⟩ := hE.one i _ L a1 a2
  obtain ⟨b1, b2, b3, b4, b5, b6⟩ := hw a3
  refine ⟨i, L', ⟨⟨r, hr, rfl, rfl, rfl, rfl, by rw [g3, f1]; exact a3⟩, by rw [g3, f1]; exact a3, g1, ⟨_, hA.rep i b sh L L' B a1 a2 g1 a3 hB, rfl, by simp only; rw [f5, b5], hsz.2.1, by simp only; rw [g3, f1, a3, b1], by simp only; rw [g4, f2, hfx], by simp only; rw [Zhi]; exact g5, by simp only; rw [g6, f4, b3], by simp only; rw [g7, f3, a4, b4 a4]⟩, .inr ⟨sh, L, a1, a2, a3⟩, .inl ⟨r, hr, rfl⟩⟩⟩
 ·by_cases hex : ∃ (i sh : Nat) (L : Blk), e[i]? = some (some (b, sh)) ∧ σ[i]? = some L ∧ L.wr = true
  ·left
   obtain ⟨i, sh, L, a1, a2, a3⟩ := hex
   have a4 : L.mv = false := by
    cases hm : L.mv with
    | false => rfl
    | true => exact absurd ⟨i, sh, L, a1, a2, a3, hm⟩ h2
   obtain ⟨B, hB, hsz, hfx, hfs, hpu, hle, hw, hc⟩ := hE.one i _ L a1 a2
   obtain ⟨b1, b2, b3, b4, b5, b6⟩ := hw a3
   subst b2
   obtain ⟨_, hrw, hrf, hrl, hrs, hrm⟩ := hH.at_ hB hr
   have hk : m' i = some { r with mv := L.mv } := hF.keep i _ (by show mE mc e σ i = _; rw [Zfb a1 a2, hr]; simp [Zbl, a3]) (.inr (by simp only; exact a4))
   obtain ⟨L', g1, g2, g3, g4, g5, g6, g7⟩ := h'.reg _ _ hk
   obtain ⟨f1, f2, f3, f4, f5⟩ := hA.flags i L L' a2 g1
   refine ⟨i, L', ⟨⟨_, hk, rfl, rfl, rfl, rfl, by simp only; rw [hrw]; exact b1⟩, by rw [hrw]; exact b1, g1, ⟨_, hA.rep i b 0 L L' B a1 a2 g1 a3 hB, rfl, by simp only; rw [f5, b5], hsz.2.1, hrw, hrf, by simp only; rw [Zhi]; exact g5, hrs, hrm⟩, .inr ⟨0, L, a1, a2, a3⟩, .inr hr⟩⟩
  ·right
   have hun : Zgh e σ b := fun i sh L h3 h4 => by
    cases hw : L.wr with
    | false => rfl
    | true => exact absurd ⟨i, sh, L, h3, h4, hw⟩ hex
   exact ⟨hr, hA.same b h1 hun, hun⟩

theorem Z25 (hH : HRel G mc H w) (hE : EmbOK H e σ) (hF : Frame ⟨mE mc e σ, w, []⟩ m' w') {b : Nat} {r : Reg} (hr : mc b = some r) (hu : Zgh e σ b) {j : Nat} (h1 : r.lo ≤ j) (h2 : j < r.ext) :
    w'.cell? ⟨r.g, j, none⟩ = w.cell? ⟨r.g, j, none⟩ ∧ w'.frozen? ⟨r.g, j, none⟩ = w.frozen? ⟨r.g, j, none⟩ := by
  obtain ⟨v, hv⟩ := hH.there hr h1 h2
  obtain ⟨c, t, fr, hc⟩ := Znj hv
  obtain ⟨o', ho', hfo⟩ := hF.block r.g _ hc
  have hnw : ¬ Zjv (mE mc e σ) r.g j := by
    intro hw
    obtain ⟨i, id, sh, L, r0, a1, a2, a3, a4, a5, a6, a7, a8⟩ := hw.embed hH hE
    have hne : id ≠ b := by
      rintro rfl
      have := hu i sh L a1 a2
      rw [a3] at this; cases this
    exact hH.dis id b r0 r hne a4 hr a5 a6 j a7 a8 h1 h2
  rcases hfo with rfl | ⟨c1, t1, fr1, c', he, rfl, hs, hcells⟩
  · exact ⟨World.cell?_of_block (w := w) (by rw [ho', hc]), World.frozen?_of_block (w := w) (by rw [ho', hc])⟩
  · injection he with e1 e2 e3
    subst e1; subst e2; subst e3
    refine ⟨?_, ?_⟩
    · rw [cell_of_row _ _ _ _ _ _ ho', cell_of_row _ _ _ _ _ _ hc]; exact hcells j hnw
    · simp only [World.frozen?, ho', hc]

theorem Zwg (hH : HRel G mc H w) (hFE : Frame E mc w) (hE : EmbOK H e σ) (hA : After H H' e σ σ' nid) (h' : HRel G m' σ' w') (hF : Frame ⟨mE mc e σ, w, []⟩ m' w')
    {p : Nat → Bool} (hp : ∀ b, p b = true → ¬ ∃ i, Zf1 e σ i b) (hN : ∀ (i : Nat) (x : Blk), H[i]? = some x → Zgh e σ i → ∀ v, v ∈ x.cells → Zal p v = true) : HRel G (mB mc m' e σ σ' nid) H' w' ∧ Frame E (mB mc m' e σ σ' nid) w' ∧
      ∀ b r, p b = true → mc b = some r → mB mc m' e σ σ' nid b = some r := by
  have hmono : ∀ b r, p b = true → mc b = some r → mB mc m' e σ σ' nid b = some r := by
    intro b r hpb hr
    rw [Zjb ?_ (hp b hpb)]
    · exact hr
    · rintro k hk rfl
      obtain ⟨x, hx, hx0⟩ := hA.holes k hk
      have := hH.hole hx hx0
      rw [this] at hr; cases hr
  -- an A-region's cell is not one of an untouched block
  have hAB : ∀ (b : Nat) (r : Reg) (i : Nat) (L' : Blk), KindA mc m' H H' e σ σ' nid b r i L' → ∀ (b' : Nat) (r1 : Reg), mc b' = some r1 → Zgh e σ b' → b ≠ b' → r.g = r1.g → ∀ j, r.lo ≤ j → j < r.hi → r1.lo ≤ j → ¬ j < r1.ext := by
    intro b r i L' hk b' r1 hr1 hu hne hg j h1 h2 h3 h4
    rcases hk.old with ⟨r', hr', rfl⟩ | hmc
    · rcases hF.reg i r hr' hk.wr (by omega) with hfr | hwr
      · obtain ⟨v, hv⟩ := hH.there hr1 h3 h4
        have := Zm4 hv
        simp only at hfr
        omega
      · obtain ⟨i2, id, sh, L, r0, a1, a2, a3, a4, a5, a6, a7, a8⟩ := (hwr j h1 h2).embed hH hE
        have hne2 : id ≠ b' := by
          rintro rfl
          have := hu i2 sh L a1 a2
          rw [a3] at this; cases this
        exact hH.dis id b' r0 r1 hne2 a4 hr1 a5 (a6.trans hg) j a7 a8 h3 h4
    · exact hH.dis b b' r r1 hne hmc hr1 hk.wr hg j h1 h2 h3 h4
  have hidx : ∀ (b b' : Nat) (r r1 : Reg) (i i' : Nat) (L L' : Blk), KindA mc m' H H' e σ σ' nid b r i L → KindA mc m' H H' e σ σ' nid b' r1 i' L' → b ≠ b' → i ≠ i' := by
    rintro b b' r r1 i i' L L' hk hk' hne rfl
    rcases hk.idx with ⟨a1, a2⟩ | ⟨sh, L1, a1, a2, _⟩
    · rcases hk'.idx with ⟨b1, b2⟩ | ⟨sh', L2, b1, b2, _⟩
      · omega
      · have := (List.getElem?_eq_some_iff.1 b2).1; omega
    · rcases hk'.idx with ⟨b1, b2⟩ | ⟨sh', L2, b1, b2, _⟩
      · have := (List.getElem?_eq_some_iff.1 a2).1; omega
      · rw [a1] at b1; injection b1 with b1; injection b1 with b1; injection b1 with b1 _; exact hne b1
  refine ⟨⟨?_, ?_, ?_, ?_, ?_, ?_, ?_, ?_, ?_⟩, ?_, hmono⟩
  · intro b r hr
    rcases Zk4 hH hE hA h' hF hr with ⟨i, L', hk⟩ | ⟨hr, hb, hu⟩
    · obtain ⟨x, h1, _, _, h4, h5, h6, h7, h8, h9⟩ := hk.here
      exact ⟨x, h1, h4, h5, h6, h7, h8, h9⟩
    · obtain ⟨B, h1⟩ := hH.reg b r hr
      exact ⟨B, by rw [hb]; exact h1.1, h1.2⟩
  · intro b x hx hsz
    by_cases hnew : ∃ k, k < σ'.length - σ.length ∧ b = nid + k
    · obtain ⟨k, hk, rfl⟩ := hnew
      have hlt : σ.length + k < σ'.length := by omega
      have hL : σ'[σ.length + k]? = some σ'[σ.length + k] := by simp [hlt]
      have := hA.new k _ hL
      rw [hx] at this; injection this with this
      obtain ⟨r, hr⟩ := h'.live _ _ hL (by rw [this] at hsz; exact hsz)
      exact ⟨r, by rw [Zt7 hk]; exact hr⟩
    · have hno : ∀ k, k < σ'.length - σ.length → b ≠ nid + k := fun k hk he => hnew ⟨k, hk, he⟩
      by_cases hmv : ∃ i, Zf1 e σ i b
      · obtain ⟨i, hi⟩ := hmv
        rw [Zoa hE hA hi]
        obtain ⟨sh, L, a1, a2, a3, a4⟩ := hi
        have hlt : i < σ'.length := by have := (List.getElem?_eq_some_iff.1 a2).1; have := hA.len; omega
        have hL : σ'[i]? = some σ'[i] := by simp [hlt]
        obtain ⟨_, _, _, f4, _⟩ := hA.flags i L _ a2 hL
        obtain ⟨B, hB, hsz2, _⟩ := hE.one i _ L a1 a2
        exact h'.live i _ hL (by rw [f4]; exact hsz2.1)
      · rw [Zjb hno hmv]
        have hb : b < H.length := by have := (List.getElem?_eq_some_iff.1 hx).1; rw [hA.hlen] at this; exact this
        have hB : H[b]? = some H[b] := by simp [hb]
        by_cases hex : ∃ (i sh : Nat) (L : Blk), e[i]? = some (some (b, sh)) ∧ σ[i]? = some L ∧ L.wr = true
        · obtain ⟨i, sh, L, a1, a2, a3⟩ := hex
          obtain ⟨B, hB', hsz2, _⟩ := hE.one i _ L a1 a2
          exact hH.live b B hB' hsz2.2.1
        · have := hA.same b hno (fun i sh L h3 h4 => by
            cases hw : L.wr with
            | false => rfl
            | true => exact absurd ⟨i, sh, L, h3, h4, hw⟩ hex)
          rw [this] at hx
          exact hH.live b x hx hsz
  · intro b x r j v hx hr hv
    rcases Zk4 hH hE hA h' hF hr with ⟨i, L', hk⟩ | ⟨hr1, hb, hu⟩
    · obtain ⟨x', h1, h2, h3, _⟩ := hk.here
      rw [hx] at h1; injection h1 with h1; subst h1
      obtain ⟨r', hr', g1, g2, g3, g4, g5⟩ := hk.loc
      rw [h2] at hv
      unfold Zcc at hv
      rw [g1, g2]
      by_cases hpu : L'.pur = true
      · rw [if_pos hpu] at hv
        obtain ⟨v', f1, f2⟩ := h'.cell i L' r' j v hk.blk hr' hv
        have hpv := h'.pur i L' hk.blk hpu v (List.mem_of_getElem? hv)
        exact ⟨v', f1, by rw [f2.pure hpv]; exact CR.of_pure hpv⟩
      · rw [if_neg hpu, List.getElem?_map] at hv
        simp only [Option.map_eq_some_iff] at hv
        obtain ⟨u, hu1, rfl⟩ := hv
        obtain ⟨v', f1, f2⟩ := h'.cell i L' r' j u hk.blk hr' hu1
        exact ⟨v', f1, Zty hH hE hA hF f2⟩
    · rw [hb] at hx
      obtain ⟨v', f1, f2⟩ := hH.cell b x r j v hx hr1 hv
      obtain ⟨_, _, _, hl, _⟩ := hH.at_ hx hr1
      have hj : j < x.cells.length := (List.getElem?_eq_some_iff.1 hv).1
      have hext : r.lo + j < r.ext := by
        unfold Reg.ext
        split
        · rename_i hw; have := (hH.own b r hr1 hw).1; omega
        · omega
      exact ⟨v', by rw [(Z25 hH hE hF hr1 hu (by omega) hext).1]; exact f1, f2.congr hmono (hN b x hx hu v (List.mem_of_getElem? hv))⟩
  · intro b x hx hpu v hv
    by_cases hnew : ∃ k, k < σ'.length - σ.length ∧ b = nid + k
    · obtain ⟨k, hk, rfl⟩ := hnew
      have hlt : σ.length + k < σ'.length := by omega
      have hL : σ'[σ.length + k]? = some σ'[σ.length + k] := by simp [hlt]
      have := hA.new k _ hL
      rw [hx] at this; injection this with this
      subst this
      simp only at hpu hv
      unfold Zcc at hv
      rw [if_pos hpu] at hv
      exact h'.pur _ _ hL hpu v hv
    · have hno : ∀ k, k < σ'.length - σ.length → b ≠ nid + k := fun k hk he => hnew ⟨k, hk, he⟩
      by_cases hex : ∃ (i sh : Nat) (L : Blk), e[i]? = some (some (b, sh)) ∧ σ[i]? = some L ∧ L.wr = true
      · obtain ⟨i, sh, L, a1, a2, a3⟩ := hex
        have hlt : i < σ'.length := by have := (List.getElem?_eq_some_iff.1 a2).1; have := hA.len; omega
        have hL : σ'[i]? = some σ'[i] := by simp [hlt]
        obtain ⟨B, hB, hsz, hfx, hfs, hpu', hle, hw, hc⟩ := hE.one i _ L a1 a2
        have := hA.rep i b sh L _ B a1 a2 hL a3 hB
        rw [hx] at this; injection this with this
        subst this
        simp only at hpu hv
        obtain ⟨_, _, _, _, f5⟩ := hA.flags i L _ a2 hL
        have hpL : σ'[i].pur = true := by rw [f5, (hw a3).2.2.2.2.1]; exact hpu
        unfold Zcc at hv
        rw [if_pos hpL] at hv
        exact h'.pur _ _ hL hpL v hv
      · rw [hA.same b hno (fun i sh L h3 h4 => by
            cases hw : L.wr with
            | false => rfl
            | true => exact absurd ⟨i, sh, L, h3, h4, hw⟩ hex)] at hx
        exact hH.pur b x hx hpu v hv
  · intro b r hr hw
    rcases Zk4 hH hE hA h' hF hr with ⟨i, L', hk⟩ | ⟨hr1, hb, hu⟩
    · obtain ⟨r', hr', g1, g2, g3, g4, g5⟩ := hk.loc
      have := h'.own i r' hr' g5
      rw [g1, g2, g3, g4]; exact this
    · obtain ⟨f1, f2⟩ := hH.own b r hr1 hw
      refine ⟨f1, fun j h1 h2 => ?_⟩
      obtain ⟨v, f3, f4⟩ := f2 j h1 h2
      obtain ⟨s1, s2⟩ := Z25 hH hE hF hr1 hu h1 (by simp [Reg.ext, hw]; exact h2)
      exact ⟨v, by rw [s1]; exact f3, by rw [s2]; exact f4⟩
  · intro b r hr hw hs1 hlh
    rcases Zk4 hH hE hA h' hF hr with ⟨i, L', hk⟩ | ⟨hr1, hb, hu⟩
    · obtain ⟨r', hr', g1, g2, g3, g4, g5⟩ := hk.loc
      rcases hk.old with ⟨r2, k1, rfl⟩ | k1
      · exact h'.clean i _ k1 hw hs1 hlh
      · obtain ⟨c, t, k2⟩ := hH.clean b r k1 hw hs1 hlh
        obtain ⟨o', k3, k4⟩ := hF.block _ _ k2
        rcases k4 with rfl | ⟨c0, t0, fr0, c', k5, rfl, _⟩
        · exact ⟨c, t, k3⟩
        · injection k5 with k5 k6 k7; subst k6; subst k7; exact ⟨c', _, k3⟩
    · obtain ⟨c, t, k2⟩ := hH.clean b r hr1 hw hs1 hlh
      obtain ⟨o', k3, k4⟩ := hF.block _ _ k2
      rcases k4 with rfl | ⟨c0, t0, fr0, c', k5, rfl, _⟩
      · exact ⟨c, t, k3⟩
      · injection k5 with k5 k6 k7; subst k6; subst k7; exact ⟨c', _, k3⟩
  · intro b b' r r1 hne hr hr' hw hg j h1 h2 h3 h4
    rcases Zk4 hH hE hA h' hF hr with ⟨i, L', hk⟩ | ⟨hr1, hb, hu⟩
    · rcases Zk4 hH hE hA h' hF hr' with ⟨i', L1, hk'⟩ | ⟨hr1', hb', hu'⟩
      · obtain ⟨q, hq, g1, g2, g3, g4, g5⟩ := hk.loc
        obtain ⟨q', hq', g1', g2', g3', g4', g5'⟩ := hk'.loc
        have hext : r1.ext = q'.ext := by unfold Reg.ext; rw [hk'.wr, g5']; simp [g3']
        exact h'.dis i i' q q' (hidx _ _ _ _ _ _ _ _ hk hk' hne) hq hq' g5 (by rw [← g1, ← g1']; exact hg) j (by omega) (by omega) (by omega) (by rw [← hext]; exact h4)
      · exact hAB b r i L' hk b' r1 hr1' hu' hne hg j h1 h2 h3 h4
    · rcases Zk4 hH hE hA h' hF hr' with ⟨i', L1, hk'⟩ | ⟨hr1', hb', hu'⟩
      · have hh : j < r1.hi := by simpa [Reg.ext, hk'.wr] using h4
        exact hAB b' r1 i' L1 hk' b r hr1 hu (fun e => hne e.symm) hg.symm j h3 hh h1 (by simp [Reg.ext, hw]; exact h2)
      · exact hH.dis b b' r r1 hne hr1 hr1' hw hg j h1 h2 h3 h4
  · intro g cs hg
    obtain ⟨h1, h2⟩ := hH.glob g cs hg
    refine ⟨Nat.lt_of_lt_of_le h1 hF.size, fun j v hj => ⟨?_, (h2 j v hj).2⟩⟩
    obtain ⟨hv, _⟩ := h2 j v hj
    obtain ⟨c, t, fr, hc⟩ := Znj hv
    obtain ⟨o', ho', hfo⟩ := hF.block g _ hc
    have hnw : ¬ Zjv (mE mc e σ) g j := by
      intro hw
      obtain ⟨i, id, sh, L, r0, a1, a2, a3, a4, a5, a6, a7, a8⟩ := hw.embed hH hE
      have := hH.gwr id r0 j a4 a5 a7 a8
      rw [a6, hg] at this; cases this
    rcases hfo with rfl | ⟨c1, t1, fr1, c', he, rfl, hs, hcells⟩
    · rw [World.cell?_of_block (w := w) (by rw [ho', hc])]; exact hv
    · injection he with e1 e2 e3
      subst e1; subst e2; subst e3
      rw [cell_of_row _ _ _ _ _ _ ho', hcells j hnw, ← cell_of_row _ _ _ _ _ _ hc]; exact hv
  · intro b r j hr hw h1 h2
    rcases Zk4 hH hE hA h' hF hr with ⟨i, L', hk⟩ | ⟨hr1, hb, hu⟩
    · obtain ⟨q, hq, g1, g2, g3, g4, g5⟩ := hk.loc
      have := h'.gwr i q j hq g5 (by omega) (by omega)
      rw [g1]; exact this
    · exact hH.gwr b r j hr1 hw h1 h2
  · refine hFE.trans hF (fun g j hw => ?_) (fun b r hr hw => ?_) (fun b r hr hk => ?_)
    · obtain ⟨i, id, sh, L, r0, a1, a2, a3, a4, a5, a6, a7, a8⟩ := hw.embed hH hE
      exact ⟨id, r0, a4, a5, a6, a7, a8⟩
    · rcases Zsj hE hA hr with ⟨k, hk, _, hq⟩ | ⟨i, hmv, hq⟩ | ⟨h1, h2, hq⟩
      · exact .inr ⟨_, hq⟩
      · exact .inr ⟨_, hq⟩
      · exact .inl hq
    · have h1 := hFE.keep b r hr hk
      rw [Zjb]
      · exact h1
      · rintro k hk' rfl
        obtain ⟨x, hx, hx0⟩ := hA.holes k hk'
        rw [hH.hole hx hx0] at h1; cases h1
      · rintro ⟨i, sh, L, a1, a2, a3, a4⟩
        obtain ⟨B, hB, hsz, hfx, hfs, hpu, hle, hw, hc⟩ := hE.one i _ L a1 a2
        obtain ⟨b1, b2, b3, b4, b5, b6⟩ := hw a3
        obtain ⟨_, hrw, _, _, _, hrm⟩ := hH.at_ hB h1
        rcases hk with hk | hk
        · rw [hrw, b1] at hk; cases hk
        · rw [hrm, b4 a4] at hk; cases hk
end
end Go.Flat
end
section
/- The rule for calls. -/
namespace Go.Flat

def Zd2 (P : Program) (k : FuncId) : Bool := match P.funcs[k]? with | some fn => fn.name != "runtime.NumGoroutine" && fn.body.isSome | none => false
theorem Zlh {P : Program} {k : FuncId} (h : Zd2 P k = true) (args : Array Value) (w : World) : (callFunc k args).run P w = .ok (.enter k args) w := by
  unfold Zd2 at h
  cases hf : P.funcs[k]? with
  | none => rw [hf] at h; cases h
  | some fn =>
    rw [hf] at h
    simp only [Bool.and_eq_true, bne_iff_ne, ne_eq] at h
    obtain ⟨h1, h3⟩ := h
    cases hb : fn.body with
    | none => rw [hb] at h3; cases h3
    | some c => simp [callFunc, hf, h1, hb]

theorem Zpn {P : Program} {o : Oper} {ρ : Operand → Value} {f : Operand} {args : Array Operand} {ts : Array TypeId} {k : FuncId} {first captured : Array Value} (ho : o.op = .call { callee := .value f, args := args, argTypes := ts })
  (hf : ρ f = .func (.func k) first captured) (hk : Zd2 P k = true) (w : World) : (execOp ρ o).run P w = .ok (.enter k (first ++ args.map ρ ++ captured)) w := by
 simp only [execOp, ho, resolve, hf, Deferred.ofValue, Sem.run_bind, Sem.run_pure, Result.andThen_ok, invoke]
 exact Zlh hk _ w


def Zdz (H : List Blk) (e : Emb) (p : Option (Nat × Nat)) (L : Blk) : Prop :=
  match p with
  | none => L.wr = false ∧ L.cells = [] ∧ 0 < L.sz
  | some (id, sh) => match H[id]? with
    | none => False
    | some B => (0 < L.sz ∧ 0 < B.sz ∧ (B.fix = true → B.mv = false)) ∧ L.fix = B.fix ∧ (L.fix = false → L.sz = B.sz) ∧ (L.pur = true → B.pur = true) ∧ sh + L.cells.length ≤ B.cells.length ∧
      (L.wr = true → B.wr = true ∧ sh = 0 ∧ L.sz = B.sz ∧ (L.mv = true → B.mv = true) ∧ L.pur = B.pur ∧ L.cells.length = B.cells.length) ∧
      (B.cells.drop sh).take L.cells.length = Zcc e L
def Zhl (H : List Blk) (e : Emb) : Emb → List Blk → Prop
  | [], [] => True
  | p :: ps, L :: Ls => Zdz H e p L ∧ Zhl H e ps Ls
  | _, _ => False

theorem Zhm {H : List Blk} {e : Emb} {p : Option (Nat × Nat)} {L : Blk} (h : Zdz H e p L) : Zns H e p L := by
 unfold Zdz at h
 unfold Zns
 split at h
 ·exact h
 ·split at h
  ·cases h
  ·rename_i B hB; exact ⟨B, hB, h⟩
theorem Zeq {H : List Blk} {e : Emb} : ∀ {ps : Emb} {Ls : List Blk}, Zhl H e ps Ls → ps.length = Ls.length ∧ ∀ (i : Nat) (p : Option (Nat × Nat)) (L : Blk), ps[i]? = some p → Ls[i]? = some L → Zns H e p L
 | [], [], _ => ⟨rfl, by simp⟩
 | p :: ps, L :: Ls, h => by
  obtain ⟨h1, h2⟩ := Zeq h.2
  refine ⟨by simp [h1], fun i q M hq hM => ?_⟩
  cases i with
  | zero => simp at hq hM; subst hq; subst hM; exact Zhm h.1
  | succ i => exact h2 i q M (by simpa using hq) (by simpa using hM)
 | [], _ :: _, h => h.elim
 | _ :: _, [], h => h.elim

def Zr9 (e : Emb) : List Nat := e.filterMap fun p => p.map (·.1)
def Zib (e : Emb) (σ : List Blk) : Bool :=
  (e.zip σ).zipIdx.all fun p => !p.1.2.wr || e.zipIdx.all fun q => q.2 == p.2 || q.1.map (·.1) != p.1.1.map (·.1)
def Za7 (e : Emb) (σ : List Blk) : List Nat := (e.zip σ).filterMap fun p => if p.2.wr && p.2.mv then p.1.map (·.1) else none
def Zgg (H : List Blk) (σ σ' : List Blk) (nid : Nat) : Bool :=
  decide (σ.length ≤ σ'.length) && ((σ.zip σ').all fun p => p.2.wr == p.1.wr && p.2.fix == p.1.fix && p.2.mv == p.1.mv && p.2.sz == p.1.sz && p.2.pur == p.1.pur) && ((σ'.drop σ.length).all fun L => L.wr) &&
  ((List.range (σ'.length - σ.length)).all fun k => match H[nid + k]? with | some x => x.sz == 0 | none => false)
def Zfx (e : Emb) (σ : List Blk) : Bool := σ.all fun L => L.pur || L.cells.all (Zal (inE e))
def Zb0 (H : List Blk) (e : Emb) (σ σ' : List Blk) (nid : Nat) : List (Nat × Blk) :=
  ((e.zip (σ.zip σ')).filterMap fun p => match p.1 with
    | some (id, _) => if p.2.1.wr then (H[id]?).map fun B => (id, { B with cells := Zcc (Zeh e nid (σ'.length - σ.length)) p.2.2 }) else none
    | none => none) ++
  ((σ'.drop σ.length).zipIdx.map fun p => (nid + p.2, { p.1 with cells := Zcc (Zeh e nid (σ'.length - σ.length)) p.1 }))

theorem Zid {b : Nat} {x : Blk} : ∀ (l : List (Nat × Blk)) (y : Blk), (∃ q, q ∈ l ∧ q.1 = b) → (∀ q, q ∈ l → q.1 = b → q.2 = x) → l.foldl (fun x p => if p.1 = b then p.2 else x) y = x
  | [], y, h, _ => by obtain ⟨q, hq, _⟩ := h; cases hq
  | q :: l, y, h, hu => by
    rw [List.foldl_cons]
    by_cases hl : ∃ q', q' ∈ l ∧ q'.1 = b
    · exact Zid l _ hl fun q' hq' => hu q' (by simp [hq'])
    · rw [Zcd l _ fun p hp e => hl ⟨p, hp, e⟩]
      obtain ⟨q', hq', he⟩ := h
      rcases List.mem_cons.1 hq' with rfl | hq'
      · rw [if_pos he]; exact hu _ (by simp) he
      · exact absurd ⟨q', hq', he⟩ hl

theorem Zm5 {H : List Blk} {e : Emb} {σ : List Blk} (h : Zib e σ = true) : ∀ (i j : Nat) (id sh sh' : Nat) (L : Blk), i ≠ j → e[i]? = some (some (id, sh)) → σ[i]? = some L → L.wr = true → e[j]? ≠ some (some (id, sh')) := by
 intro i j id sh sh' L hij h1 h2 hw h3
 simp only [Zib, List.all_eq_true] at h
 have h4 := h ((some (id, sh), L), i) (by rw [List.mem_iff_getElem?]; exact ⟨i, by simp [List.getElem?_zipIdx, List.getElem?_zip_eq_some, h1, h2]⟩)
 simp only [hw, Bool.not_true, Bool.false_or, List.all_eq_true] at h4
 have h5 := h4 (some (id, sh'), j) (by rw [List.mem_iff_getElem?]; exact ⟨j, by simp [List.getElem?_zipIdx, h3]⟩)
 simp at h5
 exact hij h5.symm

theorem Zx3 {H : List Blk} {e : Emb} {σ σ' : List Blk} {nid : Nat} (hE : EmbOK H e σ) (hs : Zgg H σ σ' nid = true) : After H (Zdt H (Zb0 H e σ σ' nid)) e σ σ' nid ∧ (∀ p, p ∈ Zb0 H e σ σ' nid → p.1 < H.length) := by
  simp only [Zgg, Bool.and_eq_true, decide_eq_true_eq, List.all_eq_true] at hs
  obtain ⟨⟨⟨hlen, hfl⟩, hwr⟩, hho⟩ := hs
  have hflags : ∀ (i : Nat) (L L' : Blk), σ[i]? = some L → σ'[i]? = some L' → L'.wr = L.wr ∧ L'.fix = L.fix ∧ L'.mv = L.mv ∧ L'.sz = L.sz ∧ L'.pur = L.pur := by
    intro i L L' h1 h2
    have := hfl (L, L') (by rw [List.mem_iff_getElem?]; exact ⟨i, by simp [List.getElem?_zip_eq_some, h1, h2]⟩)
    simp only [beq_iff_eq] at this
    exact ⟨this.1.1.1.1, this.1.1.1.2, this.1.1.2, this.1.2, this.2⟩
  have hholes : ∀ k, k < σ'.length - σ.length → ∃ x, H[nid + k]? = some x ∧ x.sz = 0 := by
    intro k hk
    have := hho k (by simpa using hk)
    split at this
    · rename_i x hx; exact ⟨x, hx, by simpa using this⟩
    · cases this
  -- the two Zk4 of what is set
  have hmem : ∀ q, q ∈ Zb0 H e σ σ' nid → (∃ (i id sh : Nat) (L L' B : Blk), e[i]? = some (some (id, sh)) ∧ σ[i]? = some L ∧ σ'[i]? = some L' ∧ L.wr = true ∧ H[id]? = some B ∧ q = (id, { B with cells := Zcc (Zeh e nid (σ'.length - σ.length)) L' })) ∨
      (∃ (k : Nat) (L : Blk), σ'[σ.length + k]? = some L ∧ q = (nid + k, { L with cells := Zcc (Zeh e nid (σ'.length - σ.length)) L })) := by
    intro q hq
    unfold Zb0 at hq
    rcases List.mem_append.1 hq with hq | hq
    · left
      simp only [List.mem_filterMap] at hq
      obtain ⟨⟨p, L, L'⟩, hp, hq⟩ := hq
      obtain ⟨i, hi⟩ := List.getElem?_of_mem hp
      rw [List.getElem?_zip_eq_some] at hi
      obtain ⟨hi1, hi2⟩ := hi
      rw [List.getElem?_zip_eq_some] at hi2
      obtain ⟨hi2, hi3⟩ := hi2
      cases p with
      | none => simp at hq
      | some p =>
        obtain ⟨id, sh⟩ := p
        simp only at hq
        split at hq
        · rename_i hw
          simp only [Option.map_eq_some_iff] at hq
          obtain ⟨B, hB, rfl⟩ := hq
          exact ⟨i, id, sh, L, L', B, hi1, hi2, hi3, hw, hB, rfl⟩
        · cases hq
    · right
      simp only [List.mem_map] at hq
      obtain ⟨⟨L, k⟩, hp, rfl⟩ := hq
      obtain ⟨i, hi⟩ := List.getElem?_of_mem hp
      simp only [List.getElem?_zipIdx, Option.map_eq_some_iff] at hi
      obtain ⟨L1, hL1, he⟩ := hi
      injection he with he1 he2
      subst he1
      rw [List.getElem?_drop] at hL1
      exact ⟨k, L1, by rw [← he2, Nat.zero_add]; exact hL1, rfl⟩
  have hin : ∀ p, p ∈ Zb0 H e σ σ' nid → p.1 < H.length := by
    intro q hq
    rcases hmem q hq with ⟨i, id, sh, L, L', B, h1, h2, h3, h4, h5, rfl⟩ | ⟨k, L, h1, rfl⟩
    · exact (List.getElem?_eq_some_iff.1 h5).1
    · have hk : σ.length + k < σ'.length := (List.getElem?_eq_some_iff.1 h1).1
      obtain ⟨x, hx, _⟩ := hholes k (by omega)
      exact (List.getElem?_eq_some_iff.1 hx).1
  have hget := Zgn (Zb0 H e σ σ' nid) H hin
  refine ⟨⟨hlen, Zgf _ _ hin, hflags, ?_, hholes, ?_, ?_, ?_⟩, hin⟩
  · intro i L hi hL
    exact hwr L (by rw [List.mem_iff_getElem?]; exact ⟨i - σ.length, by rw [List.getElem?_drop, show σ.length + (i - σ.length) = i from by omega]; exact hL⟩)
  · intro k L hL
    have hk : σ.length + k < σ'.length := (List.getElem?_eq_some_iff.1 hL).1
    obtain ⟨x, hx, hx0⟩ := hholes k (by omega)
    rw [hget, hx, Option.map_some]
    congr 1
    refine Zid _ x ⟨(nid + k, { L with cells := Zcc (Zeh e nid (σ'.length - σ.length)) L }), ?_, rfl⟩ ?_
    · unfold Zb0
      refine List.mem_append_right _ (List.mem_map.2 ⟨(L, k), ?_, rfl⟩)
      rw [List.mem_iff_getElem?]
      exact ⟨k, by simp [List.getElem?_zipIdx, List.getElem?_drop, hL]⟩
    · intro q hq he
      rcases hmem q hq with ⟨i, id, sh, L1, L', B, h1, h2, h3, h4, h5, rfl⟩ | ⟨k', L1, h1, rfl⟩
      · simp only at he
        subst he
        rw [hx] at h5; injection h5 with h5; subst h5
        obtain ⟨B, hB, hsz, _⟩ := hE.one i _ L1 h1 h2
        rw [hx] at hB; injection hB with hB; subst hB
        have := hsz.2.1; omega
      · simp only at he
        have : k' = k := by omega
        subst this
        rw [hL] at h1; injection h1 with h1; subst h1; rfl
  · intro i id sh L L' B h1 h2 h3 h4 h5
    rw [hget, h5, Option.map_some]
    congr 1
    refine Zid _ B ⟨(id, { B with cells := Zcc (Zeh e nid (σ'.length - σ.length)) L' }), ?_, rfl⟩ ?_
    · unfold Zb0
      refine List.mem_append_left _ (List.mem_filterMap.2 ⟨(some (id, sh), L, L'), ?_, ?_⟩)
      · rw [List.mem_iff_getElem?]
        exact ⟨i, by rw [List.getElem?_zip_eq_some]; exact ⟨h1, by rw [List.getElem?_zip_eq_some]; exact ⟨h2, h3⟩⟩⟩
      · simp [h4, h5]
    · intro q hq he
      rcases hmem q hq with ⟨i', id', sh', L1, L1', B', g1, g2, g3, g4, g5, rfl⟩ | ⟨k', L1, g1, rfl⟩
      · simp only at he
        subst he
        by_cases hii : i = i'
        · subst hii
          rw [h3] at g3; injection g3 with g3; subst g3
          rw [h5] at g5; injection g5 with g5; subst g5; rfl
        · exact absurd g1 (hE.dist i i' id' sh sh' L hii h1 h2 h4)
      · simp only at he
        have hk : σ.length + k' < σ'.length := (List.getElem?_eq_some_iff.1 g1).1
        obtain ⟨x, hx, hx0⟩ := hholes k' (by omega)
        rw [he, h5] at hx; injection hx with hx; subst hx
        obtain ⟨B', hB', hsz, _⟩ := hE.one i _ L h1 h2
        rw [h5] at hB'; injection hB' with hB'; subst hB'
        have := hsz.2.1; omega
  · intro b h1 h2
    rw [hget]
    cases hb : H[b]? with
    | none => rfl
    | some y =>
      rw [Option.map_some]
      congr 1
      refine Zcd _ _ fun q hq he => ?_
      rcases hmem q hq with ⟨i, id, sh, L, L', B, g1, g2, g3, g4, g5, rfl⟩ | ⟨k, L, g1, rfl⟩
      · simp only at he; subst he
        have := h2 i sh L g1 g2
        rw [g4] at this; cases this
      · simp only at he
        have hk : σ.length + k < σ'.length := (List.getElem?_eq_some_iff.1 g1).1
        exact h1 k (by omega) he.symm

def Zp9 (e : Emb) (σ : List Blk) : List Nat := (e.zip σ).filterMap fun p => if p.2.wr then p.1.map (·.1) else none
def killX (k : Option Nat) (e : Emb) (σ : List Blk) (H : List Blk) : List Blk := match k with | none => H | some b => H.mapIdx fun i x => if (Zp9 e σ).contains i then x else Zbv (· != b) x
theorem Zd9 (k : Option Nat) (e : Emb) (σ : List Blk) (H : List Blk) (b : Nat) : (killX k e σ H)[b]? = (H[b]?).map fun x => match k with | none => x | some q => if (Zp9 e σ).contains b then x else Zbv (· != q) x := by
  cases k with
  | none => simp [killX]
  | some q => simp [killX, List.getElem?_mapIdx]
theorem Zwy (k : Option Nat) (e : Emb) (σ : List Blk) (H : List Blk) : (killX k e σ H).length = H.length := by cases k <;> simp [killX]
theorem HRel.killX {G : Glob} {m : MapM} {H : List Blk} {w : World} (h : HRel G m H w) (k : Option Nat) (e : Emb) (σ : List Blk) : HRel G m (Flat.killX k e σ H) w := by
  cases k with
  | none => exact h
  | some q =>
    have hk := h.kill (· != q)
    have hg : ∀ b : Nat, (Flat.killX (some q) e σ H)[b]? = H[b]? ∨ (Flat.killX (some q) e σ H)[b]? = (H.map (Zbv (· != q)))[b]? := by
      intro b
      rw [Zd9]
      cases hb : H[b]? with
      | none => left; rfl
      | some x =>
        simp only [Option.map_some]
        split
        · left; rfl
        · right; simp [hb]
    refine ⟨?_, ?_, ?_, ?_, h.own, h.clean, h.dis, h.glob, h.gwr⟩
    · intro b r hr
      rcases hg b with hb | hb
      · rw [hb]; exact h.reg b r hr
      · rw [hb]; exact hk.reg b r hr
    · intro b x hx hz
      rcases hg b with hb | hb
      · rw [hb] at hx; exact h.live b x hx hz
      · rw [hb] at hx; exact hk.live b x hx hz
    · intro b x r i v hx hr hv
      rcases hg b with hb | hb
      · rw [hb] at hx; exact h.cell b x r i v hx hr hv
      · rw [hb] at hx; exact hk.cell b x r i v hx hr hv
    · intro b x hx hp
      rcases hg b with hb | hb
      · rw [hb] at hx; exact h.pur b x hx hp
      · rw [hb] at hx; exact hk.pur b x hx hp
theorem Zqa {e : Emb} {σ : List Blk} {b : Nat} : b ∈ Zp9 e σ ↔ ∃ (i sh : Nat) (L : Blk), e[i]? = some (some (b, sh)) ∧ σ[i]? = some L ∧ L.wr = true := by
 unfold Zp9
 rw [List.mem_filterMap]
 constructor
 ·rintro ⟨⟨p, L⟩, hp, hq⟩
  obtain ⟨i, hi⟩ := List.getElem?_of_mem hp
  rw [List.getElem?_zip_eq_some] at hi
  simp only at hq
  split at hq
  ·rename_i hw
   cases p with
   | none => simp at hq
   | some p => simp at hq; subst hq; exact ⟨i, p.2, L, hi.1, hi.2, hw⟩
  ·cases hq
 ·rintro ⟨i, sh, L, h1, h2, h3⟩
  exact ⟨(some (b, sh), L), by rw [List.mem_iff_getElem?]; exact ⟨i, by rw [List.getElem?_zip_eq_some]; exact ⟨h1, h2⟩⟩, by simp [h3]⟩
def Zhb (H : List Blk) (e : Emb) (σ : List Blk) (res : Value) (σ' : List Blk) (nid : Nat) : Delta :=
  { val := Zoi (Zeh e nid (σ'.length - σ.length)) res, sets := Zb0 (killX (Za7 e σ).head? e σ H) e σ σ' nid, kill := (Za7 e σ).head?, foot := Zr9 e ++ (List.range (σ'.length - σ.length)).map (nid + ·) }

structure CallOK (H : List Blk) (e : Emb) (argsL argsC : List Value) (σ σ' : List Blk) (nid : Nat) : Prop where
  args : Ziq e argsL argsC
  emb : Zhl (killX (Za7 e σ).head? e σ H) e e σ
  dist : Zib e σ = true
  names : Zfx e σ = true
  shape : Zgg (killX (Za7 e σ).head? e σ H) σ σ' nid = true
  one : (Za7 e σ).length ≤ 1

theorem Zpy {e : Emb} {σ : List Blk} {i b : Nat} (h : Zf1 e σ i b) : b ∈ Za7 e σ := by
 obtain ⟨sh, L, h1, h2, h3, h4⟩ := h
 refine List.mem_filterMap.2 ⟨(some (b, sh), L), ?_, by simp [h3, h4]⟩
 rw [List.mem_iff_getElem?]
 exact ⟨i, by rw [List.getElem?_zip_eq_some]; exact ⟨h1, h2⟩⟩

theorem Zm3 {m : MapM} {xs : Array Value} {ys : Array Value} (h : L2 (CR0 m) xs.toList ys.toList) (hx : xs.toList.all Zds = true) : L2 (VR m) xs.toList ys.toList := by
 simp only [List.all_eq_true] at hx
 refine h.mono fun x hxm y hxy => ?_
 have := hx x hxm
 simp only [Zds, Bool.and_eq_true, Bool.not_eq_true'] at this
 exact Znb (by rw [Ziz this.2]; exact hxy) this.1

theorem Zmt.call {P : Program} {G : Glob} {nt : Nat} {ops : Array Oper} {o : Oper} {s : St} {f : Operand} {args : Array Operand} {ts : Array TypeId} {k : FuncId} {first captured : Array Value}
    (ho : o.op = .call { callee := .value f, args := args, argTypes := ts }) (hf : s.eval f = .func (.func k) first captured) (hcap : first.toList.all Zds = true ∧ captured.toList.all Zds = true) (hk : Zd2 P k = true) (hg : Zcy nt s (Zc3 ops o) = some true) (hd : Zbb nt o.dst = true)
    {argsL : List Value} {σ σ' : List Blk} {res : Value} (hC : Z4 P G k argsL σ res σ') (e : Emb) (nid : Nat)
    (hok : CallOK s.heap e argsL (first.toList ++ args.toList.map s.eval ++ captured.toList) σ σ' nid) :
    Zmt P G nt ops o s ((Zhb s.heap e σ res σ' nid).apply o.dst s) := by
  intro E m a w hr K Q hK
  rw [Zgd hg hr, if_pos rfl]
  have hfv := hr.eval f
  rw [hf] at hfv
  obtain ⟨first', captured', hf', hL1, hL2⟩ := hfv
  have hex := Zpn (P := P) ho hf' hk w
  have hargsC : L2 (VR m) (first.toList ++ args.toList.map s.eval ++ captured.toList) (first' ++ args.map a.eval ++ captured').toList := by
    simp only [Array.toList_append, Array.toList_map]
    refine ((Zm3 hL1 hcap.1).append ?_).append (Zm3 hL2 hcap.2)
    refine ⟨by simp, fun i x y hx hy => ?_⟩
    simp only [List.getElem?_map, Option.map_eq_some_iff] at hx hy
    obtain ⟨p, hp1, rfl⟩ := hx
    obtain ⟨q, hq1, rfl⟩ := hy
    rw [hp1] at hq1; injection hq1 with hq1; subst hq1
    exact hr.eval p
  -- the heap, and who may be named
  obtain ⟨p, hp1, hp2⟩ : ∃ p : Nat → Bool, (∀ b, p b = true → ¬ ∃ i, Zf1 e σ i b) ∧ ((Za7 e σ).head? = none ∧ (p = fun _ => true) ∨ ∃ b, (Za7 e σ).head? = some b ∧ (p = (· != b))) := by
    have h1 := hok.one
    cases hm : Za7 e σ with
    | nil =>
      refine ⟨fun _ => true, fun b _ ⟨i, hi⟩ => ?_, .inl ⟨rfl, rfl⟩⟩
      have := Zpy hi
      rw [hm] at this; cases this
    | cons b l =>
      rw [hm] at h1
      have hl : l = [] := by simpa using h1
      subst hl
      refine ⟨(· != b), fun b' hb' ⟨i, hi⟩ => ?_, .inr ⟨b, rfl, rfl⟩⟩
      have := Zpy hi
      rw [hm] at this
      simp at this hb'
      exact hb' this
  have hH1 : HRel G m (killX (Za7 e σ).head? e σ s.heap) w := hr.heap.killX _ _ _
  have hN : ∀ (i : Nat) (x : Blk), (killX (Za7 e σ).head? e σ s.heap)[i]? = some x → Zgh e σ i → ∀ v, v ∈ x.cells → Zal p v = true := by
    rcases hp2 with ⟨h1, rfl⟩ | ⟨b, h1, rfl⟩
    · exact fun i x hx _ v hv => Zf6 (fun _ => rfl) v
    · intro i x hx hu v hv
      rw [h1, Zd9] at hx
      simp only [Option.map_eq_some_iff] at hx
      obtain ⟨y, hy, hyx⟩ := hx
      have hni : (Zp9 e σ).contains i = false := by
        cases hc : (Zp9 e σ).contains i with
        | false => rfl
        | true =>
          obtain ⟨q, sh, L, g1, g2, g3⟩ := Zqa.1 (by simpa using hc)
          have := hu q sh L g1 g2
          rw [g3] at this; cases this
      rw [hni] at hyx
      simp only [Bool.false_eq_true, if_false] at hyx
      subst hyx
      exact hr.heap.named_kill (· != b) i _ (by simp [hy]) v hv
  obtain ⟨hel, hone⟩ := Zeq hok.emb
  have hE : EmbOK (killX (Za7 e σ).head? e σ s.heap) e σ := ⟨hel, hone, Zm5 (H := killX (Za7 e σ).head? e σ s.heap) hok.dist⟩
  have hnm : ∀ (i : Nat) (L : Blk), σ[i]? = some L → L.pur = true ∨ ∀ v, v ∈ L.cells → Zal (inE e) v = true := by
    intro i L hL
    have := hok.names
    simp only [Zfx, List.all_eq_true, Bool.or_eq_true] at this
    exact this L (List.mem_of_getElem? hL)
  have hargs := Zm2 hH1 hE _ _ _ hok.args hargsC
  have hemb := hH1.embed hE hnm
  obtain ⟨hA, hin⟩ := Zx3 hE hok.shape
  have hcall := hC (mE m e σ) w (first' ++ args.map a.eval ++ captured').toList hemb hargs
  rw [Array.toArray_toList] at hcall
  unfold Oper.wp
  rw [hex]
  show Calls P k (first' ++ args.map a.eval ++ captured') w _
  refine hcall.mono ?_
  rintro en w' ⟨v', m', rfl, h', hv, hF⟩
  obtain ⟨g1, g2, g3⟩ := Zwg hH1 hr.frame hE hA h' hF hp1 hN
  have hval := Z3p hH1 hE hA hF hv
  refine hK (mB m m' e σ σ' nid) _ w' ?_
  have hsets : ∀ b, (Za7 e σ).head? = some b → Zdt (killX (some b) e σ s.heap) (Zb0 (killX (some b) e σ s.heap) e σ σ' nid) = Zdt (s.kill (· != b)).heap (Zb0 (killX (some b) e σ s.heap) e σ σ' nid) := by
    intro b hb
    rw [hb] at hin hA
    have hin1 : ∀ q, q ∈ Zb0 (killX (some b) e σ s.heap) e σ σ' nid → q.1 < (killX (some b) e σ s.heap).length := hin
    refine List.ext_getElem? fun i => ?_
    rw [Zgn _ _ hin1, Zgn _ _ (fun q hq => by have := hin1 q hq; rw [Zwy] at this; simpa [St.kill] using this)]
    rw [Zd9]
    simp only [St.kill, List.getElem?_map]
    cases hy : s.heap[i]? with
    | none => rfl
    | some y =>
      simp only [Option.map_some]
      congr 1
      split
      · rename_i hc
        obtain ⟨q, sh, L, a1, a2, a3⟩ := Zqa.1 (by simpa using hc)
        have hql : q < σ'.length := by have := (List.getElem?_eq_some_iff.1 a2).1; have := hA.len; omega
        have hmemS : ∃ z, (i, z) ∈ Zb0 (killX (some b) e σ s.heap) e σ σ' nid := by
          refine ⟨{ y with cells := Zcc (Zeh e nid (σ'.length - σ.length)) σ'[q] }, ?_⟩
          unfold Zb0
          refine List.mem_append_left _ (List.mem_filterMap.2 ⟨(some (i, sh), (L, σ'[q])), ?_, ?_⟩)
          · rw [List.mem_iff_getElem?]
            exact ⟨q, by rw [List.getElem?_zip_eq_some]; exact ⟨a1, by rw [List.getElem?_zip_eq_some]; exact ⟨a2, by simp [hql]⟩⟩⟩
          · simp only [a3, if_true, Zd9, hy, hc, Option.map_some]
        have key : ∀ (l : List (Nat × Blk)) (u u' : Blk), (∃ z, (i, z) ∈ l) → l.foldl (fun x p => if p.1 = i then p.2 else x) u = l.foldl (fun x p => if p.1 = i then p.2 else x) u' := by
          intro l
          induction l with
          | nil => rintro u u' ⟨z, hz⟩; cases hz
          | cons p l ih =>
            rintro u u' ⟨z, hz⟩
            simp only [List.foldl_cons]
            by_cases hp : p.1 = i
            · rw [if_pos hp, if_pos hp]
            · rw [if_neg hp, if_neg hp]
              refine ih _ _ ⟨z, ?_⟩
              rcases List.mem_cons.1 hz with h | h
              · subst h; exact absurd rfl hp
              · exact h
        exact key _ _ _ hmemS
      · rfl
  unfold Delta.apply Zhb
  rcases hp2 with ⟨h1, rfl⟩ | ⟨b, h1, rfl⟩
  · simp only [h1]
    refine SRel.put ?_ hd hval
    refine ⟨hr.size, fun i => (hr.tmps i).mono fun b r hb => g3 b r rfl hb, hr.defers, ?_, g2⟩
    rw [h1] at g1; exact g1
  · simp only [h1]
    refine SRel.put ?_ hd hval
    refine ⟨hr.size, fun i => ((hr.tmps i).killV (· != b)).congr (p := (· != b)) (fun q r hq hb => g3 q r hq hb) (Zf5 _ _), hr.defers, ?_, g2⟩
    rw [h1] at g1
    show HRel G _ (Zdt (s.kill (· != b)).heap _) w'
    rw [← hsets b h1]; exact g1

end Go.Flat
end
section
/- Operations that do the same wherever their part of the state is the same. -/
namespace Go.Flat
section
variable {P : Program} {G : Glob} {nt : Nat} {ops : Array Oper} {o : Oper} {s : St}

def Zbu : Value → List Nat
  | .pointer (some ⟨b, _, none⟩) => [b]
  | .slice (some ⟨b, _, _⟩) _ _ => [b]
  | _ => []

theorem Z5 {s s' : St} {foot : List Nat} (h : Agree ops o foot s s') {x : Operand} (hx : x ∈ o.op.operands) : s'.eval x = s.eval x := by
 cases x with
 | tmp t =>
  refine h.tmps t ?_
  unfold Oper.looksAt
  exact List.mem_append_left _ (List.mem_filterMap.2 ⟨.tmp t, by simpa using hx, rfl⟩)
 | _ => rfl
theorem Zi7 {s s' : St} {foot : List Nat} (h : Agree ops o foot s s') : Zcy nt s' (Zc3 ops o) = Zcy nt s (Zc3 ops o) := by
 unfold Zc3
 cases hg : o.guard with
 | none => rfl
 | some p =>
  obtain ⟨j, want⟩ := p
  simp only [Option.map_some]
  cases ht : (ops[j]?).bind (·.dst) with
  | none => rfl
  | some t =>
   have := h.tmps t (by
    unfold Oper.looksAt
    exact List.mem_append_right _ (by simp [hg, ht]))
   simp only [Zcy, this]

theorem Zaf.run {δ : Delta} (hg : Zcy nt s (Zc3 ops o) = some true) (hd : Zbb nt o.dst = true) (h : ∀ s', Agree ops o δ.foot s s' → Z0s P G o s' (δ.apply o.dst s')) : Zaf P G nt ops o s δ :=
 fun s' ha => Zmt.run (by rw [Zi7 ha]; exact hg) hd (h s' ha)
theorem Zaf.skip (hg : Zcy nt s (Zc3 ops o) = some false) (hd : Zbb nt o.dst = true) : Zaf P G nt ops o s { val := undef } := by
 intro s' ha
 have := Zmt.skip (P := P) (G := G) (nt := nt) (ops := ops) (o := o) (s := s') (by rw [Zi7 ha]; exact hg) hd
 simpa [Delta.apply, Zdt] using this
theorem Zaf.value {v : Value} {sets : List (Nat × Blk)} {foot : List Nat} (hg : Zcy nt s (Zc3 ops o) = some true) (hd : Zbb nt o.dst = true) (h : ∀ s', Agree ops o foot s s' → Zas P G o s' v sets) : Zaf P G nt ops o s { val := v, sets := sets, foot := foot } :=
 Zaf.run hg hd fun s' ha => (h s' ha).opOK

variable (hg : Zcy nt s (Zc3 ops o) = some true) (hd : Zbb nt o.dst = true)
include hg hd

theorem Zy8 {x : Operand} (ho : o.op = .move x ∨ o.op = .assign x) {v : Value} (h : s.eval x = v) : Zaf P G nt ops o s { val := v } :=
  Zaf.value hg hd fun s' ha => by
    have he : s'.eval x = v := by rw [Z5 ha (by rcases ho with ho | ho <;> rw [ho] <;> simp [Op.operands])]; exact h
    rw [← he]; exact Zut ho
theorem Z30 {c x y : Operand} {v : Value} (ho : o.op = .pick c x y) (h : Zp1 s c x y = some v) : Zaf P G nt ops o s { val := v } :=
 Zaf.value hg hd fun s' ha => Zuv ho (by
  have e := fun z hz => Z5 (x := z) ha (by rw [ho]; exact hz)
  unfold Zp1 at h ⊢
  rw [e c (by simp [Op.operands]), e x (by simp [Op.operands]), e y (by simp [Op.operands])]; exact h)
theorem Z1r {t : TypeId} {nid : Nat} {x : Blk} (ho : o.op = .alloc t) (h : Zlw P s.heap t nid = some x) : Zaf P G nt ops o s { val := Zek nid, sets := [(nid, x)], foot := [nid] } :=
 Zaf.value hg hd fun s' ha => Zs6 ho (by
  unfold Zlw at h ⊢
  rw [show Zb4 s'.heap nid = Zb4 s.heap nid from by unfold Zb4; rw [ha.heap nid (by simp), ha.len]]; exact h)
theorem Z4z {t : TypeId} {x : Operand} {nid : Nat} {b : Blk} (ho : o.op = .box t x) (h : Znh s.heap (s.eval x) nid = some b) : Zaf P G nt ops o s { val := Zek nid, sets := [(nid, b)], foot := [nid] } :=
 Zaf.value hg hd fun s' ha => Zxp ho (by
  unfold Znh at h ⊢
  rw [Z5 ha (x := x) (by rw [ho]; simp [Op.operands]), show Zb4 s'.heap nid = Zb4 s.heap nid from by unfold Zb4; rw [ha.heap nid (by simp), ha.len]]; exact h)
theorem Z3x {t : TypeId} {x : Operand} {v : Value} (ho : o.op = .load t x) (h : Zdq P G t s.heap (s.eval x) = some v) : Zaf P G nt ops o s { val := v, foot := Zbu (s.eval x) } :=
 Zaf.value hg hd fun s' ha => Zur ho (by
  rw [Z5 ha (x := x) (by rw [ho]; simp [Op.operands])]
  have hh := ha.heap
  generalize s.eval x = v at h hh ⊢
  unfold Zdq at h ⊢
  split at h
  ·rename_i ag n b of hk
   rw [hh b (by simp [Zbu])]; exact h
  ·rename_i ag n g of q hk
   exact h
  ·cases h)
theorem Z1x {t : TypeId} {x y : Operand} {b : Nat} {blk : Blk} (ho : o.op = .store t x y) (h : Zfi P t s.heap (s.eval x) (s.eval y) = some (b, blk)) : Zaf P G nt ops o s { val := undef, sets := [(b, blk)], foot := Zbu (s.eval x) } :=
 Zaf.value hg hd fun s' ha => Ztb ho (by
  rw [Z5 ha (x := x) (by rw [ho]; simp [Op.operands]), Z5 ha (x := y) (by rw [ho]; simp [Op.operands])]
  have hh := ha.heap
  generalize s.eval x = v at h hh ⊢
  unfold Zfi at h ⊢
  split at h
  ·rename_i ag n b' of hk
   rw [hh b' (by simp [Zbu])]; exact h
  ·cases h)
theorem Z4y {op : BinOp} {t yt : TypeId} {x y : Operand} {v : Value} (ho : o.op = .binOp op t x y yt) (h : Zb9 P op t x y (s.eval x) (s.eval y) = some v) : Zaf P G nt ops o s { val := v } :=
 Zaf.value hg hd fun s' ha => Zxo ho (by rw [Z5 ha (x := x) (by rw [ho]; simp [Op.operands]), Z5 ha (x := y) (by rw [ho]; simp [Op.operands])]; exact h)
theorem Z53 {op : UnOp} {t : TypeId} {x : Operand} {v : Value} (ho : o.op = .unOp op t x) (h : unD P op (s.eval x) = some v) : Zaf P G nt ops o s { val := v } :=
 Zaf.value hg hd fun s' ha => Z0d ho (by rw [Z5 ha (x := x) (by rw [ho]; simp [Op.operands])]; exact h)
theorem Z3u {src dst : TypeId} {x : Operand} {v : Value} (ho : o.op = .convert src dst x) (h : Zj1 P src dst (s.eval x) = some v) : Zaf P G nt ops o s { val := v } :=
 Zaf.value hg hd fun s' ha => Zuo ho (by rw [Z5 ha (x := x) (by rw [ho]; simp [Op.operands])]; exact h)
theorem Zse {t : TypeId} {x : Operand} {f : Nat} {v : Value} (ho : o.op = .fieldAddr t x f) (h : Zqp P t (s.eval x) f = some v) : Zaf P G nt ops o s { val := v } :=
 Zaf.value hg hd fun s' ha => Zmz ho (by rw [Z5 ha (x := x) (by rw [ho]; simp [Op.operands])]; exact h)
theorem Zsf {t : TypeId} {x y : Operand} {v : Value} (ho : o.op = .indexAddr t x y) (h : Zwt P t (s.eval x) (s.eval y) = some v) : Zaf P G nt ops o s { val := v } :=
 Zaf.value hg hd fun s' ha => Zm0 ho (by rw [Z5 ha (x := x) (by rw [ho]; simp [Op.operands]), Z5 ha (x := y) (by rw [ho]; simp [Op.operands])]; exact h)
theorem Z1u {t : TypeId} {x : Operand} {f : Nat} {v : Value} (ho : o.op = .field t x f) (h : Zqq P t (s.eval x) f = some v) : Zaf P G nt ops o s { val := v } :=
 Zaf.value hg hd fun s' ha => Zs8 ho (by rw [Z5 ha (x := x) (by rw [ho]; simp [Op.operands])]; exact h)
theorem Z1v {t : TypeId} {x y : Operand} {v : Value} (ho : o.op = .index t x y) (h : Zl4 P t (s.eval x) (s.eval y) = some v) : Zaf P G nt ops o s { val := v } :=
 Zaf.value hg hd fun s' ha => Zs9 ho (by rw [Z5 ha (x := x) (by rw [ho]; simp [Op.operands]), Z5 ha (x := y) (by rw [ho]; simp [Op.operands])]; exact h)
theorem Z1s {t : TypeId} {ps : Array (Nat × Operand)} {v : Value} (ho : o.op = .build t ps) (h : Zqj P t (ps.toList.map fun p => (p.1, s.eval p.2)) = some v) : Zaf P G nt ops o s { val := v } :=
 Zaf.value hg hd fun s' ha => Zs7 ho (by
  rw [List.map_congr_left (fun p hp => by rw [Z5 ha (x := p.2) (by rw [ho]; simp only [Op.operands]; simpa using ⟨p.1, by simpa using hp⟩)])]; exact h)
theorem Z42 {t : TypeId} {n : Nat} {ps : Array (Nat × Operand)} {nid : Nat} {v : Value} {b : Blk} (ho : o.op = .buildSlice t n ps) (h : Zzg P s.heap t n (ps.toList.map fun p => (p.1, s.eval p.2)) nid = some (v, b)) : Zaf P G nt ops o s { val := v, sets := [(nid, b)], foot := [nid] } :=
 Zaf.value hg hd fun s' ha => Zxs ho (by
  rw [List.map_congr_left (fun p hp => by rw [Z5 ha (x := p.2) (by rw [ho]; simp only [Op.operands]; simpa using ⟨p.1, by simpa using hp⟩)])]
  unfold Zzg at h ⊢
  rw [show Zb4 s'.heap nid = Zb4 s.heap nid from by unfold Zb4; rw [ha.heap nid (by simp), ha.len]]; exact h)
theorem Zt3 {f : Fn} {xs ys : Array Operand} {v : Value} (ho : o.op = .makeFunc f xs ys) (h : Zpp s f xs ys = some v) : Zaf P G nt ops o s { val := v } :=
 Zaf.value hg hd fun s' ha => Zon ho (by
  have e := fun z hz => Z5 (x := z) ha (by rw [ho]; exact hz)
  have e1 : xs.map s'.eval = xs.map s.eval := Array.map_congr_left fun z hz => e z (by simp [Op.operands, hz])
  have e2 : ys.map s'.eval = ys.map s.eval := Array.map_congr_left fun z hz => e z (by simp [Op.operands, hz])
  unfold Zpp at h ⊢
  rw [e1, e2]
  have e3 : (xs.toList.all fun x => Zds (s'.eval x)) = xs.toList.all fun x => Zds (s.eval x) := by
   rw [Bool.eq_iff_iff]; simp only [List.all_eq_true]
   exact ⟨fun hh z hz => by rw [← e z (by simp [Op.operands, Array.mem_toList_iff.1 hz])]; exact hh z hz, fun hh z hz => by rw [e z (by simp [Op.operands, Array.mem_toList_iff.1 hz])]; exact hh z hz⟩
  have e4 : (ys.toList.all fun x => Zds (s'.eval x)) = ys.toList.all fun x => Zds (s.eval x) := by
   rw [Bool.eq_iff_iff]; simp only [List.all_eq_true]
   exact ⟨fun hh z hz => by rw [← e z (by simp [Op.operands, Array.mem_toList_iff.1 hz])]; exact hh z hz, fun hh z hz => by rw [e z (by simp [Op.operands, Array.mem_toList_iff.1 hz])]; exact hh z hz⟩
  rw [e3, e4]; exact h)
theorem Zw0 {x : Operand} {i : Nat} {v : Value} (ho : o.op = .extract x i) (h : Zys (s.eval x) i = some v) : Zaf P G nt ops o s { val := v } :=
 Zaf.value hg hd fun s' ha => Zo6 ho (by rw [Z5 ha (x := x) (by rw [ho]; simp [Op.operands])]; exact h)
theorem Zt4 {x : Operand} {v : Value} (ho : o.op = .nilCheck x) (h : Zzo (s.eval x) = some v) : Zaf P G nt ops o s { val := v } :=
 Zaf.value hg hd fun s' ha => Zoo ho (by rw [Z5 ha (x := x) (by rw [ho]; simp [Op.operands])]; exact h)
theorem Z1w {t : TypeId} {x : Operand} {lo hi : Option Operand} {v : Value} (ho : o.op = .slice t x lo hi none) (h : Zg0 P s.heap t (s.eval x) (lo.map s.eval) (hi.map s.eval) = some v) : Zaf P G nt ops o s { val := v, foot := Zbu (s.eval x) } :=
  Zaf.value hg hd fun s' ha => Zta ho (by
    have e := fun z hz => Z5 (x := z) ha (by rw [ho]; exact hz)
    rw [e x (by simp [Op.operands]), show lo.map s'.eval = lo.map s.eval from by cases lo with | none => rfl | some z => simp [e z (by simp [Op.operands])],
      show hi.map s'.eval = hi.map s.eval from by cases hi with | none => rfl | some z => simp [e z (by simp [Op.operands])]]
    have hh := ha.heap
    generalize s.eval x = v at h hh ⊢
    unfold Zg0 at h ⊢
    split at h
    · rename_i b hu; exact h
    · rename_i e' b o' n c hu
      have : ∀ sz, Zmq s'.heap b sz = Zmq s.heap b sz := fun sz => by unfold Zmq; rw [hh b (by simp [Zbu])]
      simp only [this]; exact h
    · rename_i e' n c hu; exact h
    · rename_i n e' b o' hu
      have : Znf s'.heap b = Znf s.heap b := by unfold Znf; rw [hh b (by simp [Zbu])]
      simp only [this]; exact h
    · cases h)
theorem Z3y {t : TypeId} {x y : Operand} {nid : Nat} {v : Value} {b : Blk} (ho : o.op = .makeSlice t x y) (h : Zob P s.heap t (s.eval x) (s.eval y) nid = some (v, b)) : Zaf P G nt ops o s { val := v, sets := [(nid, b)], foot := [nid] } :=
 Zaf.value hg hd fun s' ha => Zus ho (by
  rw [Z5 ha (x := x) (by rw [ho]; simp [Op.operands]), Z5 ha (x := y) (by rw [ho]; simp [Op.operands])]
  unfold Zob at h ⊢
  rw [show Zb4 s'.heap nid = Zb4 s.heap nid from by unfold Zb4; rw [ha.heap nid (by simp), ha.len]]; exact h)
theorem Z43 {src dst : TypeId} {x : Operand} {v : Value} (ho : o.op = .convert src dst x) (h : Zq9 P s.heap src dst (s.eval x) = some v) : Zaf P G nt ops o s { val := v, foot := Zbu (s.eval x) } :=
 Zaf.value hg hd fun s' ha => Zxt ho (by
  rw [Z5 ha (x := x) (by rw [ho]; simp [Op.operands])]
  have hh := ha.heap
  generalize s.eval x = v at h hh ⊢
  unfold Zq9 at h ⊢
  split at h
  ·rename_i e' b of n c hu1 hu2
   rw [hh b (by simp [Zbu])]; exact h
  ·rename_i e' n c hu1 hu2; exact h
  ·cases h)
theorem Z41 {t : TypeId} {x : Operand} {v : Value} (ho : o.op = .call { callee := .builtin .len, args := #[x], argTypes := #[t] }) (h : Zzf P t (s.eval x) = some v) : Zaf P G nt ops o s { val := v } :=
 Zaf.value hg hd fun s' ha => Zxr ho (by rw [Z5 ha (x := x) (by rw [ho]; simp [Op.operands, Call.operands])]; exact h)
theorem Z52 {b : Builtin} {xs : Array Operand} {ts : Array TypeId} {v : Value} (ho : o.op = .call { callee := .builtin b, args := xs, argTypes := ts }) (h : mmD P b ts o.type (xs.toList.map s.eval) = some v) : Zaf P G nt ops o s { val := v } :=
 Zaf.value hg hd fun s' ha => Z0c ho (by
  rw [List.map_congr_left (fun z hz => Z5 ha (x := z) (by rw [ho]; simp [Op.operands, Call.operands]; simpa using hz))]; exact h)
omit hg hd in
theorem Zkn {σ σ' : List Blk} {sz : Nat} {v : Value} (h : ∀ b, b ∈ Zbu v → σ'[b]? = σ[b]?) : Zg1 σ' sz v = Zg1 σ sz v := by
 unfold Zg1
 split
 ·rename_i b of n c; rw [h b (by simp [Zbu])]
 ·rfl
 ·rfl
 ·rfl
theorem Z3v {t u : TypeId} {x y : Operand} {v : Value} {b : Nat} {blk' : Blk} (ho : o.op = .call { callee := .builtin .copy, args := #[x, y], argTypes := #[t, u] }) (h : Zrx P s.heap t (s.eval x) (s.eval y) = some (v, b, blk')) : Zaf P G nt ops o s { val := v, sets := [(b, blk')], foot := Zbu (s.eval x) ++ Zbu (s.eval y) } :=
 Zaf.value hg hd fun s' ha => Zup ho (by
  rw [Z5 ha (x := x) (by rw [ho]; simp [Op.operands, Call.operands]), Z5 ha (x := y) (by rw [ho]; simp [Op.operands, Call.operands])]
  have hh := ha.heap
  unfold Zrx at h ⊢
  split at h
  ·rename_i sz zc by_ b' of dn c ht hx
   try simp only [ht, hx]
   rw [Zkn (σ := s.heap) (σ' := s'.heap) (fun q hq => hh q (by simp [hq])), hh b' (by simp [hx, Zbu])]; exact h
  ·cases h)
theorem Z3r {t u : TypeId} {x y : Operand} {v : Value} {nid : Nat} {b : Blk} {d : TypeDesc} (ho : o.op = .call { callee := .builtin .append, args := #[x, y], argTypes := #[t, u] })
  (hu : P.underlying u = some d) (hdd : (∃ e2, d = .slice e2) ∨ d = .string) (h : Zx5 P s.heap t (s.eval x) (s.eval y) nid = some (v, b)) : Zaf P G nt ops o s { val := v, sets := [(nid, b)], foot := nid :: Zbu (s.eval y) } :=
 Zaf.value hg hd fun s' ha => Zum ho hu hdd (by
  rw [Z5 ha (x := x) (by rw [ho]; simp [Op.operands, Call.operands]), Z5 ha (x := y) (by rw [ho]; simp [Op.operands, Call.operands])]
  have hh := ha.heap
  unfold Zx5 at h ⊢
  rw [show Zb4 s'.heap nid = Zb4 s.heap nid from by unfold Zb4; rw [ha.heap nid (by simp), ha.len]]
  split at h
  ·rename_i sz zc by_ n c ht hx
   try simp only [ht, hx]
   rw [Zkn (σ := s.heap) (σ' := s'.heap) (fun q hq => hh q (by simp [hq]))]; exact h
  ·cases h)
theorem Zy6 {t u : TypeId} {x y : Operand} {v : Value} {b : Nat} {blk' : Blk} {d : TypeDesc} (ho : o.op = .call { callee := .builtin .append, args := #[x, y], argTypes := #[t, u] })
  (hu : P.underlying u = some d) (hdd : (∃ e2, d = .slice e2) ∨ d = .string) (h : Znc P s.heap t (s.eval x) (s.eval y) = some (v, b, blk')) : Zaf P G nt ops o s { val := v, sets := [(b, blk')], kill := some b, foot := Zbu (s.eval x) ++ Zbu (s.eval y) } :=
 Zaf.run hg hd fun s' ha => Zxb ho hu hdd (by
  rw [Z5 ha (x := x) (by rw [ho]; simp [Op.operands, Call.operands]), Z5 ha (x := y) (by rw [ho]; simp [Op.operands, Call.operands])]
  have hh := ha.heap
  unfold Znc at h ⊢
  split at h
  ·rename_i sz zc by_ b' of n c ht hx
   try simp only [ht, hx]
   rw [Zkn (σ := s.heap) (σ' := s'.heap) (fun q hq => hh q (by simp [hq])), hh b' (by simp [hx, Zbu])]; exact h
  ·cases h)
end
end Go.Flat
end
section
/- Calls among others; code; a contract out of a Zbd. -/
namespace Go.Flat
section
variable {P : Program} {G : Glob}


theorem Zkv {H H' : List Blk} {e : Emb} : ∀ {ps : Emb} {Ls : List Blk}, (∀ p, p ∈ ps → ∀ q, p = some q → H'[q.1]? = H[q.1]?) → Zhl H e ps Ls → Zhl H' e ps Ls
 | [], [], _, h => trivial
 | p :: ps, L :: Ls, hh, h => by
  refine ⟨?_, Zkv (fun p hp => hh p (by simp [hp])) h.2⟩
  have h1 := h.1
  cases p with
  | none => exact h1
  | some q =>
   obtain ⟨id, sh⟩ := q
   unfold Zdz at h1 ⊢
   simp only at h1 ⊢
   have := hh (some (id, sh)) (by simp) (id, sh) rfl
   simp only at this
   rw [this]; exact h1
 | [], _ :: _, _, h => h.elim
 | _ :: _, [], _, h => h.elim

theorem Zhv {α β : Type} {f g : α → Option β} : ∀ {l : List α}, (∀ x, x ∈ l → f x = g x) → l.filterMap f = l.filterMap g
 | [], _ => rfl
 | x :: l, h => by
  rw [List.filterMap_cons, List.filterMap_cons, h x (by simp), Zhv (fun y hy => h y (by simp [hy]))]

theorem Ztr {H H' : List Blk} {e : Emb} {argsL argsC : List Value} {σ σ' : List Blk} {res : Value} {nid : Nat} (h : ∀ b, b ∈ (Zhb H e σ res σ' nid).foot → H'[b]? = H[b]?) (hok : CallOK H e argsL argsC σ σ' nid) :
  CallOK H' e argsL argsC σ σ' nid ∧ Zhb H' e σ res σ' nid = Zhb H e σ res σ' nid := by
 have hid : ∀ p, p ∈ e → ∀ q, p = some q → H'[q.1]? = H[q.1]? := by
  rintro p hp q rfl
  refine h q.1 ?_
  simp only [Zhb]
  exact List.mem_append_left _ (List.mem_filterMap.2 ⟨some q, hp, rfl⟩)
 have hnew : ∀ k, k < σ'.length - σ.length → H'[nid + k]? = H[nid + k]? := by
  intro k hk
  refine h _ ?_
  simp only [Zhb]
  exact List.mem_append_right _ (List.mem_map.2 ⟨k, by simpa using hk, rfl⟩)
 have hidK : ∀ p, p ∈ e → ∀ q, p = some q → (killX (Za7 e σ).head? e σ H')[q.1]? = (killX (Za7 e σ).head? e σ H)[q.1]? := fun p hp q hq => by
  rw [Zd9, Zd9, hid p hp q hq]
 have hshape : Zgg (killX (Za7 e σ).head? e σ H') σ σ' nid = Zgg (killX (Za7 e σ).head? e σ H) σ σ' nid := by
  unfold Zgg
  congr 1
  rw [Bool.eq_iff_iff]
  simp only [List.all_eq_true, List.mem_range]
  constructor
  ·intro hh k hk
   have := hh k hk
   rw [Zd9, hnew k hk, ← Zd9] at this; exact this
  ·intro hh k hk
   have := hh k hk
   rw [Zd9, hnew k hk, ← Zd9]; exact this
 refine ⟨⟨hok.args, Zkv hidK hok.emb, hok.dist, hok.names, by rw [hshape]; exact hok.shape, hok.one⟩, ?_⟩
 unfold Zhb
 congr 1
 unfold Zb0
 congr 1
 refine Zhv fun p hp => ?_
 obtain ⟨i, hi⟩ := List.getElem?_of_mem hp
 rw [List.getElem?_zip_eq_some] at hi
 cases hp1 : p.1 with
 | none => rfl
 | some q =>
  obtain ⟨id, sh⟩ := q
  have := hidK (some (id, sh)) (by rw [← hp1]; exact List.mem_of_getElem? hi.1) (id, sh) rfl
  simp only at this
  simp only [this]

theorem Zy7 {nt : Nat} {ops : Array Oper} {o : Oper} {s : St} (hg : Zcy nt s (Zc3 ops o) = some true) (hd : Zbb nt o.dst = true) {f : Operand} {args : Array Operand} {ts : Array TypeId} {k : FuncId} {first captured : Array Value}
  (ho : o.op = .call { callee := .value f, args := args, argTypes := ts }) (hf : s.eval f = .func (.func k) first captured) (hcap : first.toList.all Zds = true ∧ captured.toList.all Zds = true) (hk : Zd2 P k = true)
  {argsL : List Value} {σ σ' : List Blk} {res : Value} (hC : Z4 P G k argsL σ res σ') (e : Emb) (nid : Nat)
  (hok : CallOK s.heap e argsL (first.toList ++ args.toList.map s.eval ++ captured.toList) σ σ' nid) : Zaf P G nt ops o s (Zhb s.heap e σ res σ' nid) := by
 intro s' ha
 have hop : ∀ x, x ∈ o.op.operands → s'.eval x = s.eval x := fun x hx => Z5 ha hx
 have hf' : s'.eval f = .func (.func k) first captured := by rw [hop f (by rw [ho]; simp [Op.operands, Call.operands])]; exact hf
 have hargs : args.toList.map s'.eval = args.toList.map s.eval := List.map_congr_left fun x hx => hop x (by rw [ho]; simp [Op.operands, Call.operands]; exact .inr (by simpa using hx))
 obtain ⟨h1, h2⟩ := Ztr (H := s.heap) (H' := s'.heap) (res := res) ha.heap hok
 have := Zmt.call (P := P) (G := G) (nt := nt) (ops := ops) ho hf' hcap hk (by rw [Zi7 ha]; exact hg) hd hC e nid (s := s') (by rw [hargs]; exact h1)
 rw [h2] at this
 exact this


def Zbf (P : Program) (G : Glob) (nt : Nat) (ops : Array Oper) (K : Trace → St → Prop) : List Oper → Trace → St → Prop
  | [], tr, s => K tr s
  | o :: l, tr, s => ∃ δ, Zaf P G nt ops o s δ ∧ Zbf P G nt ops K l (tr ++ [(o, δ)]) (δ.apply o.dst s)

theorem Zbf.step {nt : Nat} {ops : Array Oper} {K : Trace → St → Prop} {o : Oper} {l : List Oper} {tr : Trace} {s : St} {δ : Delta} (h : Zaf P G nt ops o s δ) (h2 : Zbf P G nt ops K l (tr ++ [(o, δ)]) (δ.apply o.dst s)) : Zbf P G nt ops K (o :: l) tr s := ⟨δ, h, h2⟩

theorem Zaf.opTo {nt : Nat} {ops : Array Oper} {o : Oper} {s : St} {δ : Delta} (h : Zaf P G nt ops o s δ) : Zmt P G nt ops o s (δ.apply o.dst s) := h s ⟨fun _ _ => rfl, fun _ _ => rfl, rfl⟩

theorem Zbf.seq {nt : Nat} {ops : Array Oper} {K : Trace → St → Prop} : ∀ {l : List Oper} {tr : Trace} {s : St}, Zbf P G nt ops K l tr s → Zf2 P G nt ops (fun s => ∃ tr, K tr s) l s
 | [], tr, s, h => ⟨tr, h⟩
 | o :: l, tr, s, ⟨δ, h1, h2⟩ => ⟨_, h1.opTo, Zbf.seq h2⟩

theorem Ztd {S : Nat → Bool} : ∀ (l : Trace) (k : Nat) (s : St) (p : Oper × Delta), S (k + l.length) = true → stS s S (l ++ [p]) k = p.2.apply p.1.dst (stS s S l k)
 | [], k, s, p, h => by simp [stS] at h ⊢; rw [h]; simp
 | (o, δ) :: l, k, s, p, h => by
  simp only [List.cons_append, stS]
  exact Ztd l (k + 1) _ p (by rw [← h]; congr 1; simp; omega)

theorem Zbf.drawn {nt : Nat} {ops : Array Oper} {K : Trace → St → Prop} {s0 : St} : ∀ {l : List Oper} {tr : Trace} {s : St}, Zbf P G nt ops K l tr s → s = stS s0 (fun _ => true) tr 0 →
    (∀ (i : Nat) (o : Oper) (δ : Delta), tr[i]? = some (o, δ) → Zaf P G nt ops o (stS s0 (fun _ => true) (tr.take i) 0) δ) →
    ∃ tr' : Trace, tr'.map (·.1) = tr.map (·.1) ++ l ∧ K tr' (stS s0 (fun _ => true) tr' 0) ∧ ∀ (i : Nat) (o : Oper) (δ : Delta), tr'[i]? = some (o, δ) → Zaf P G nt ops o (stS s0 (fun _ => true) (tr'.take i) 0) δ
  | [], tr, s, h, hs, hl => ⟨tr, by simp, by subst hs; exact h, hl⟩
  | o :: l, tr, s, ⟨δ, h1, h2⟩, hs, hl => by
    obtain ⟨tr', g1, g2, g3⟩ := Zbf.drawn (s0 := s0) h2 (by rw [Ztd _ _ _ _ rfl, hs]) (by
      intro i o' δ' hi
      rcases Nat.lt_or_ge i tr.length with hlt | hge
      · rw [List.getElem?_append_left hlt] at hi
        rw [List.take_append_of_le_length (by omega)]
        exact hl i o' δ' hi
      · rw [List.getElem?_append_right hge] at hi
        have : i - tr.length = 0 := by
          rcases Nat.eq_zero_or_pos (i - tr.length) with h0 | h0
          · exact h0
          · rw [List.getElem?_eq_none (by simp; omega)] at hi; cases hi
        rw [this] at hi
        simp at hi
        obtain ⟨rfl, rfl⟩ := hi
        have hie : i = tr.length := by omega
        subst hie
        rw [List.take_append_of_le_length (Nat.le_refl _), List.take_length, ← hs]
        exact h1)
    exact ⟨tr', by rw [g1]; simp, g2, g3⟩


def Zoz (G : Glob) (nt : Nat) (E : Ent) (Q : Exit → St → Prop) : Exit → Act → World → Prop := fun e a w => ∃ s m, Q e s ∧ SRel G nt E m s a w

def WpL (P : Program) (G : Glob) (nt n0 : Nat) (c : Code) (Q : Exit → St → Prop) (s : St) : Prop :=
  ∀ E m a w, (∀ b, n0 ≤ b → E.m b = none) → SRel G nt E m s a w → c.wp P (Zoz G nt E Q) a w

def Zd7 (next : St → Prop) (Q : Exit → St → Prop) : Exit → St → Prop
  | .normal, s => next s
  | e, s => Q e s
def Zec (id : Nat) (Q : Exit → St → Prop) : Exit → St → Prop
  | .exit id', s => if id' = id then Q .normal s else Q (.exit id') s
  | e, s => Q e s

variable {nt n0 : Nat} {Q : Exit → St → Prop} {s : St}
theorem WpL.mono {c : Code} {Q' : Exit → St → Prop} (h : WpL P G nt n0 c Q s) (hq : ∀ e s, Q e s → Q' e s) : WpL P G nt n0 c Q' s :=
 fun E m a w h0 hr => wp_mono (h E m a w h0 hr) fun e a w ⟨s, m, h1, h2⟩ => ⟨s, m, hq _ _ h1, h2⟩
theorem WpL.skip (h : Q .normal s) : WpL P G nt n0 .skip Q s := fun E m a w h0 hr => wp_skip ⟨s, m, h, hr⟩
theorem WpL.label {l : Nat} (h : Q .normal s) : WpL P G nt n0 (.label l) Q s := fun E m a w h0 hr => wp_label ⟨s, m, h, hr⟩
theorem WpL.exit {i : Nat} (h : Q (.exit i) s) : WpL P G nt n0 (.exit i) Q s := fun E m a w h0 hr => wp_exit ⟨s, m, h, hr⟩
theorem WpL.goto {l : Nat} (h : Q (.goto l) s) : WpL P G nt n0 (.goto l) Q s := fun E m a w h0 hr => wp_goto ⟨s, m, h, hr⟩
theorem WpL.ret (h : Q .ret s) : WpL P G nt n0 .ret Q s := fun E m a w h0 hr => wp_ret ⟨s, m, h, hr⟩
theorem WpL.seq {x y : Code} (h : ∀ K : St → Prop, (∀ s, WpL P G nt n0 y Q s → K s) → WpL P G nt n0 x (Zd7 K Q) s) : WpL P G nt n0 (.seq x y) Q s := by
 intro E m a w h0 hr
 refine wp_seq (wp_mono (h _ (fun s hs => hs) E m a w h0 hr) ?_)
 rintro e a' w' ⟨s', m', h1, h2⟩
 cases e with
 | normal => exact h1 E m' a' w' h0 h2
 | _ => exact ⟨s', m', h1, h2⟩
theorem WpL.cond {c : Operand} {x y : Code} {t : Bool} (hc : s.eval c = .bool t) (h : WpL P G nt n0 (if t then x else y) Q s) : WpL P G nt n0 (.cond c x y) Q s := by
 intro E m a w h0 hr
 refine wp_cond (t := t) ?_ (h E m a w h0 hr)
 rw [Za4 hr (by rw [hc]; rfl), hc]
theorem WpL.cond_t {c : Operand} {x y : Code} (hc : s.eval c = .bool true) (h : WpL P G nt n0 x Q s) : WpL P G nt n0 (.cond c x y) Q s := WpL.cond hc h
theorem WpL.cond_f {c : Operand} {x y : Code} (hc : s.eval c = .bool false) (h : WpL P G nt n0 y Q s) : WpL P G nt n0 (.cond c x y) Q s := WpL.cond hc h
theorem WpL.block {i : Nat} {c : Code} (h : WpL P G nt n0 c (Zec i Q) s) : WpL P G nt n0 (.block i c) Q s := by
 intro E m a w h0 hr
 refine wp_block (wp_mono (h E m a w h0 hr) ?_)
 rintro e a' w' ⟨s', m', h1, h2⟩
 cases e with
 | exit i' =>
  by_cases he : i' = i
  ·simp only [Zec, if_pos he] at h1
   simp only [Exit.inBlock, if_pos he]
   exact ⟨s', m', h1, h2⟩
  ·simp only [Zec, if_neg he] at h1
   simp only [Exit.inBlock, if_neg he]
   exact ⟨s', m', h1, h2⟩
 | _ => exact ⟨s', m', h1, h2⟩
theorem WpL.region {i : Nat} {ops : Array Oper} (h : Zbf P G nt ops (fun _ s => Q .normal s) ops.toList [] s) : WpL P G nt n0 (.region i ops false) Q s := by
 intro E m a w h0 hr
 refine wp_region_list ?_
 exact Zf2.sound (Q := Zoz G nt E Q) (K := fun s => ∃ tr : Trace, Q .normal s) (fun s m a w ⟨_, h1⟩ h2 => ⟨s, m, h1, h2⟩) _ _ h.seq m a w hr
theorem WpL.drawn {i : Nat} {ops : Array Oper} (hm : P.follows .mixedOrders = true) (h : Zbf P G nt ops (fun tr s' => Zfw ops tr s.heap.length = true ∧ Q .normal s') ops.toList [] s) : WpL P G nt n0 (.region i ops true) Q s := by
 intro E m a w h0 hr
 obtain ⟨tr, g1, ⟨g2, g4⟩, g3⟩ := Zbf.drawn (s0 := s) h rfl (by simp)
 exact Zr0 hm (by simpa using g1) g2 g3 hr (fun m a w hr => ⟨_, m, g4, hr⟩)


def Zbe (G : Glob) (nt n0 : Nat) (s s' : St) : Prop := ∀ E m a w, (∀ b, n0 ≤ b → E.m b = none) → SRel G nt E m s a w → ∃ m', SRel G nt E m' s' a w
theorem Zbe.refl (s : St) : Zbe G nt n0 s s := fun E m a w h0 hr => ⟨m, hr⟩
theorem Zbe.trans {s s' s'' : St} (h : Zbe G nt n0 s s') (h' : Zbe G nt n0 s' s'') : Zbe G nt n0 s s'' := fun E m a w h0 hr => let ⟨m', h1⟩ := h E m a w h0 hr; h' E m' a w h0 h1
theorem WpL.weak {c : Code} {s' : St} (hw : Zbe G nt n0 s s') (h : WpL P G nt n0 c Q s') : WpL P G nt n0 c Q s := fun E m a w h0 hr => let ⟨m', h1⟩ := hw E m a w h0 hr; h E m' a w h0 h1

theorem Zbe.reserve (s : St) (n : Nat) : Zbe G nt n0 s { s with heap := s.heap ++ List.replicate n hole } := by
 intro E m a w h0 hr
 refine ⟨m, hr.size, hr.tmps, hr.defers, ?_, hr.frame⟩
 induction n with
 | zero => simpa using hr.heap
 | succ n ih =>
  have := ih.reserve hole rfl rfl
  rw [List.append_assoc] at this
  have e : List.replicate n hole ++ [hole] = List.replicate (n + 1) hole := by rw [List.replicate_succ']
  rw [e] at this
  exact this

def Zy1 (n : Nat) (s s' : St) : Prop := ∀ i, s'.tmps i = dead ∨ (s'.tmps i = s.tmps i ∧ Zdr (fun b => decide (b < n)) (s.tmps i) = true)
theorem Zbe.take {s s' : St} (n : Nat) (hn : n0 ≤ n) (ht : Zy1 n s s') (hh : s'.heap = s.heap.take n) (hb : (s'.heap.all fun x => x.pur || x.cells.all (Zal fun b => decide (b < n))) = true) : Zbe G nt n0 s s' := by
  intro E m a w h0 hr
  have hag : ∀ b r, decide (b < n) = true → m b = some r → (fun b => if b < n then m b else none) b = some r := by
    intro b r hb' hr'
    simp only at hb' ⊢
    rw [if_pos (by simpa using hb')]; exact hr'
  have hsub : ∀ b r, (if b < n then m b else none) = some r → b < n ∧ m b = some r := by
    intro b r h
    split at h
    · rename_i hlt; exact ⟨hlt, h⟩
    · cases h
  simp only [List.all_eq_true, Bool.or_eq_true] at hb
  have hget : ∀ b, b < n → s'.heap[b]? = s.heap[b]? := fun b hb' => by rw [hh, List.getElem?_take, if_pos hb']
  refine ⟨fun b => if b < n then m b else none, hr.size, fun i => ?_, hr.defers, ⟨?_, ?_, ?_, ?_, ?_, ?_, ?_, ?_, ?_⟩, ?_⟩
  · rcases ht i with h1 | ⟨h1, h2⟩
    · rw [h1]; exact VR.dead
    · rw [h1]; exact (hr.tmps i).congr hag h2
  · intro b r h
    obtain ⟨h1, h2⟩ := hsub b r h
    obtain ⟨blk, g1, g2⟩ := hr.heap.reg b r h2
    exact ⟨blk, by rw [hget b h1]; exact g1, g2⟩
  · intro b blk h1 h2
    have hlt : b < n := by have := (List.getElem?_eq_some_iff.1 h1).1; rw [hh, List.length_take] at this; omega
    rw [hget b hlt] at h1
    obtain ⟨r, hr'⟩ := hr.heap.live b blk h1 h2
    exact ⟨r, by rw [if_pos hlt]; exact hr'⟩
  · intro b blk r i v h1 h2 h3
    obtain ⟨g1, g2⟩ := hsub b r h2
    have h1' := h1
    rw [hget b g1] at h1
    obtain ⟨v', g3, g4⟩ := hr.heap.cell b blk r i v h1 g2 h3
    refine ⟨v', g3, ?_⟩
    rcases hb blk (List.mem_of_getElem? h1') with hp | hp
    · have := hr.heap.pur b blk h1 hp v (List.mem_of_getElem? h3)
      rw [g4.pure this]; exact CR.of_pure this
    · exact g4.congr hag (hp v (List.mem_of_getElem? h3))
  · intro b blk h1 h2
    have hlt : b < n := by have := (List.getElem?_eq_some_iff.1 h1).1; rw [hh, List.length_take] at this; omega
    rw [hget b hlt] at h1
    exact hr.heap.pur b blk h1 h2
  · intro b r h hw
    exact hr.heap.own b r (hsub b r h).2 hw
  · intro b r h hw
    exact hr.heap.clean b r (hsub b r h).2 hw
  · intro b b' r r' hne h h' hw
    exact hr.heap.dis b b' r r' hne (hsub b r h).2 (hsub b' r' h').2 hw
  · exact hr.heap.glob
  · intro b r j h hw
    exact hr.heap.gwr b r j (hsub b r h).2 hw
  · refine ⟨hr.frame.os, hr.frame.tape, hr.frame.output, hr.frame.size, hr.frame.block, fun b r h hw hlt => hr.frame.reg b r (hsub b r h).2 hw hlt, fun b r h hk => ?_⟩
    have hb' : b < n := by
      rcases Nat.lt_or_ge b n0 with h1 | h1
      · omega
      · rw [h0 b h1] at h; cases h
    rw [if_pos hb']
    exact hr.frame.keep b r h hk

theorem WpL.loop {α : Type} {c : Code} (st : α → St) (φ : α → Prop) (μ : α → Nat) (x0 : α) (h0 : φ x0) (hs : Zbe G nt n0 s (st x0))
  (round : ∀ x, φ x → WpL P G nt n0 c (Zd7 (fun s1 => ∃ y, φ y ∧ μ y < μ x ∧ Zbe G nt n0 s1 (st y)) Q) (st x)) : WpL P G nt n0 (.loop c) Q s := by
 intro E m a w hE hr
 obtain ⟨m1, hr1⟩ := hs E m a w hE hr
 refine wp_loop_ghost (fun n a w => ∃ x m, φ x ∧ μ x = n ∧ SRel G nt E m (st x) a w) (μ x0) ⟨x0, m1, h0, rfl, hr1⟩ ?_
 rintro n a w ⟨x, m, hx, rfl, hr⟩
 refine wp_mono (round x hx E m a w hE hr) ?_
 rintro e a' w' ⟨s', m', h1, h2⟩
 cases e with
 | normal =>
  obtain ⟨y, hy1, hy2, hy3⟩ := h1
  obtain ⟨m2, hr2⟩ := hy3 E m' a' w' hE h2
  exact ⟨μ y, hy2, y, m2, hy1, rfl, hr2⟩
 | _ => exact ⟨s', m', h1, h2⟩


def Zfe (P : Program) (G : Glob) (s : St) : ResultVar → Option Value
  | .tmp t => some (s.tmps t)
  | .cell p ty => Zdq P G ty s.heap (s.tmps p)
def rvM (a : Act) : ResultVar → Sem Value
  | .tmp t => pure (a.tmps.getD t undef)
  | .cell p t => do loadVar t (← asAddr (a.tmps.getD p undef))

theorem Zeu {E : Ent} {m : MapM} {a : Act} {w : World} (hr : SRel G nt E m s a w) {r : ResultVar} {v : Value} (h1 : Zfe P G s r = some v) :
  ∃ v', (rvM a r).run P w = .ok v' w ∧ VR m v v' := by
 cases r with
 | tmp t =>
  simp only [Zfe, Option.some.injEq] at h1
  subst h1
  exact ⟨a.tmps.getD t undef, rfl, hr.tmps t⟩
 | cell p ty =>
  simp only [Zfe] at h1
  obtain ⟨u, f1, f2⟩ := Zmm hr.heap h1 (hr.tmps p)
  have hp : ∃ ad, a.tmps.getD p undef = .pointer (some ad) := by
   have hv := hr.tmps p
   unfold Zdq at h1
   split at h1
   ·rename_i ag n b o hk he
    rw [he] at hv
    obtain ⟨r, _, h3⟩ := hv
    exact ⟨_, h3⟩
   ·rename_i ag n b o q hk he
    rw [he] at hv
    exact ⟨_, hv⟩
   ·cases h1
  obtain ⟨ad, hp⟩ := hp
  rw [hp] at f1
  refine ⟨u, ?_, f2⟩
  simp only [Instr.loadAt, Instr.sureAddr, Sem.run_bind, Sem.run_pure, Result.andThen_ok] at f1
  simp only [rvM, Sem.run_bind, Sem.run_pure, Result.andThen_ok, hp, asAddr, f1]

def Zd6 (P : Program) (G : Glob) (fn : Func) (s : St) : Option Value :=
  match fn.results.toList with
  | [] => some (.tuple #[])
  | [r] => Zfe P G s r
  | [r1, r2] => (Zfe P G s r1).bind fun v1 => (Zfe P G s r2).bind fun v2 => if Zhn v1 || Zhn v2 then none else some (.tuple #[v1, v2])
  | [r1, r2, r3] => (Zfe P G s r1).bind fun v1 => (Zfe P G s r2).bind fun v2 => (Zfe P G s r3).bind fun v3 => if Zhn v1 || Zhn v2 || Zhn v3 then none else some (.tuple #[v1, v2, v3])
  | _ => none

theorem Zea {E : Ent} {m : MapM} {a : Act} {w : World} (hr : SRel G nt E m s a w) {fn : Func} {v : Value} (h : Zd6 P G fn s = some v) : ∃ v', (results fn a.tmps).run P w = .ok v' w ∧ VR m v v' := by
  have hres : results fn a.tmps = (do let vs ← fn.results.mapM (rvM a); pure (if h : vs.size = 1 then vs[0] else .tuple vs)) := by
    unfold results
    congr 1
  unfold Zd6 at h
  split at h
  · rename_i hl
    have : fn.results = #[] := by cases hh : fn.results; simp_all
    injection h with h; subst h
    exact ⟨.tuple #[], by rw [hres, this]; simp, by simp [VR]; exact L2.nil⟩
  · rename_i r hl
    have : fn.results = #[r] := by cases hh : fn.results; simp_all
    obtain ⟨v', f1, f2⟩ := Zeu hr h
    exact ⟨v', by rw [hres, this]; simp [f1], f2⟩
  · rename_i r1 r2 hl
    have : fn.results = #[r1, r2] := by cases hh : fn.results; simp_all
    cases h1 : Zfe P G s r1 with
    | none => simp [h1] at h
    | some v1 =>
      cases h2 : Zfe P G s r2 with
      | none => simp [h1, h2] at h
      | some v2 =>
        simp only [h1, h2, Option.bind_some] at h
        split at h
        · cases h
        · injection h with h; subst h
          obtain ⟨u1, f1, f2⟩ := Zeu hr h1
          obtain ⟨u2, g1, g2⟩ := Zeu hr h2
          rename_i hb
          simp only [Bool.or_eq_true, not_or, Bool.not_eq_true] at hb
          rw [Zfl hb.1] at f2
          rw [Zfl hb.2] at g2
          exact ⟨.tuple #[u1, u2], by rw [hres, this]; simp [f1, g1], _, rfl, L2.cons f2 (L2.cons g2 L2.nil)⟩
  · rename_i r1 r2 r3 hl
    have : fn.results = #[r1, r2, r3] := by cases hh : fn.results; simp_all
    cases h1 : Zfe P G s r1 with
    | none => simp [h1] at h
    | some v1 =>
      cases h2 : Zfe P G s r2 with
      | none => simp [h1, h2] at h
      | some v2 =>
        cases h3 : Zfe P G s r3 with
        | none => simp [h1, h2, h3] at h
        | some v3 =>
        simp only [h1, h2, h3, Option.bind_some] at h
        split at h
        · cases h
        · injection h with h; subst h
          obtain ⟨u1, f1, f2⟩ := Zeu hr h1
          obtain ⟨u2, g1, g2⟩ := Zeu hr h2
          obtain ⟨u3, k1, k2⟩ := Zeu hr h3
          rename_i hb
          simp only [Bool.or_eq_true, not_or, Bool.not_eq_true] at hb
          rw [Zfl hb.1.1] at f2
          rw [Zfl hb.1.2] at g2
          rw [Zfl hb.2] at k2
          exact ⟨.tuple #[u1, u2, u3], by rw [hres, this]; simp [f1, g1, k1], _, rfl, L2.cons f2 (L2.cons g2 (L2.cons k2 L2.nil))⟩
  · cases h

end
end Go.Flat
end
section
/- A contract out of a Zbd; rules on forgetting. -/
namespace Go.Flat
section
variable {P : Program} {G : Glob}

structure FirstOK (H : List Blk) (e : Emb) (σ σ' : List Blk) : Prop where
  le : σ.length ≤ σ'.length
  at_ : ∀ (b : Nat) (L : Blk), b < σ.length → σ'[b]? = some L → ∃ B, H[b]? = some B ∧ e[b]? = some (some (b, 0)) ∧ L.wr = B.wr ∧ L.fix = B.fix ∧ L.mv = B.mv ∧ L.sz = B.sz ∧ L.cells.length = B.cells.length

def Zkr (e : Emb) (res v : Value) : Prop := match res with
  | .tuple xs => (match v with | .tuple ys => Ziq e xs.toList ys.toList | _ => False)
  | res => Zh8 e res v
structure EndOK (P : Program) (G : Glob) (fn : Func) (σ : List Blk) (res : Value) (σ' : List Blk) (s : St) (v : Value) (e : Emb) : Prop where
  out : Zd6 P G fn s = some v
  emb : EmbOK s.heap e σ'
  nm : ∀ (i : Nat) (L : Blk), σ'[i]? = some L → L.pur = true ∨ ∀ v, v ∈ L.cells → Zal (inE e) v = true
  val : Zkr e res v
  first : FirstOK s.heap e σ σ'

theorem Zva {e : Emb} {x y : Value} (h : Zh8 e x y) : Zhn x = false := by
  cases x
  case tuple => unfold Zh8 at h; split at h
                · rename_i hp; cases hp
                · cases h
  all_goals rfl
theorem Zx7 {e : Emb} {x y : Value} (h : Zh8 e x y) : Zhn y = false := by
 have hx := Zva h
 unfold Zh8 at h
 split at h
 ·subst h; exact hx
 ·split at h
  ·split at h
   ·rfl
   ·cases h
  ·cases h
  ·rename_i hna hnt
   have h1 : Zg7 x = false := by cases x <;> first | rfl | exact absurd rfl (hna _)
   exact (Zpe h h1 hx).2
theorem Zne {mc : MapM} {H : List Blk} {G : Glob} {w : World} {e : Emb} {σ : List Blk} (hH : HRel G mc H w) (hE : EmbOK H e σ) : ∀ (xs ys zs : List Value), Ziq e xs ys → L2 (VR1 mc) ys zs → L2 (VR1 (mE mc e σ)) xs zs
 | [], [], zs, _, h => by have := h.nil_inv; subst this; exact L2.nil
 | x :: xs, y :: ys, zs, ha, h => by
  obtain ⟨z, zs', rfl, h1, h2⟩ := h.inv
  refine L2.cons ?_ (Zne hH hE xs ys zs' ha.2 h2)
  have := Znd hH hE ha.1 (v' := z) (by rw [Zfl (Zx7 ha.1)]; exact h1)
  rw [Zfl (Zva ha.1)] at this; exact this
 | [], _ :: _, _, ha, _ => ha.elim
 | _ :: _, [], _, ha, _ => ha.elim

theorem EndOK.back {mc : MapM} {w' : World} {fn : Func} {σ σ' : List Blk} {res v v' : Value} {s : St} {e : Emb} {m : MapM} {w : World} {ds ds' : List Deferred}
    (h : EndOK P G fn σ res σ' s v e) (hm : ∀ b, σ.length ≤ b → m b = none) (hH : HRel G mc s.heap w') (hF : Frame ⟨m, w, ds⟩ mc w') (hv : VR mc v v') :
    HRel G (mE mc e σ') σ' w' ∧ VR (mE mc e σ') res v' ∧ Frame ⟨m, w, ds'⟩ (mE mc e σ') w' := by
  refine ⟨hH.embed h.emb h.nm, ?_, ?_⟩
  · have h1 := h.val
    unfold Zkr at h1
    split at h1
    · split at h1
      · obtain ⟨ys', rfl, h2⟩ := hv
        exact ⟨ys', rfl, Zne hH h.emb _ _ _ h1 h2⟩
      · cases h1
    · exact Znd hH h.emb h1 hv
  · refine ⟨hF.os, hF.tape, hF.output, hF.size, hF.block, ?_, ?_⟩
    · intro b r hr hw hlt
      rcases Zd5 h.emb hr with ⟨id, sh, L, r0, B, h1, h2, h3, rfl, hB, _⟩ | ⟨L, h1, h2, rfl, hw', _⟩
      · unfold Zbl at hw hlt ⊢
        by_cases hL : L.wr = true
        · rw [if_pos hL] at hw hlt ⊢
          exact hF.reg id r0 h3 hw hlt
        · rw [if_neg hL] at hw; cases hw
      · simp only [Zdp] at hw; rw [hw'] at hw; cases hw
    · intro b r hr hk
      have hb : b < σ.length := by
        rcases Nat.lt_or_ge b σ.length with h1 | h1
        · exact h1
        · have := hm b h1
          simp only at hr
          rw [this] at hr; cases hr
      have hlt : b < σ'.length := by have := h.first.le; omega
      obtain ⟨B, h1, h2, h3, h4, h5, h6, h7⟩ := h.first.at_ b _ hb (by simp [hlt] : σ'[b]? = some σ'[b])
      have hk' := hF.keep b r hr hk
      obtain ⟨_, g1, g2, g3, g4, g5⟩ := hH.at_ h1 hk'
      rw [Zfb h2 (by simp [hlt] : σ'[b]? = some σ'[b]), hk', Option.map_some]
      congr 1
      unfold Zbl
      obtain ⟨rg, rlo, rhi, rlen, rsz, rwr, rfix, rmv⟩ := r
      simp only at g1 g2 g3 g4 g5
      split
      · rw [h5, g5]
      · rename_i hw
        rw [h3] at hw
        simp only [h7, g3, h6, g4, h4, g2, h5, g5, Nat.add_zero]
        congr 1
        rw [g1]
        cases hB : B.wr with
        | false => rfl
        | true => exact absurd hB hw

def Zh7 (args : List Value) : Nat → Value := fun i => (args[i]?).getD undef

theorem L2.at_ {α β : Type} {R : α → β → Prop} {xs : List α} {ys : List β} (h : L2 R xs ys) (i : Nat) : (∃ x y, xs[i]? = some x ∧ ys[i]? = some y ∧ R x y) ∨ (xs[i]? = none ∧ ys[i]? = none) := by
 rcases Nat.lt_or_ge i xs.length with hi | hi
 ·have hj : i < ys.length := by rw [← h.1]; exact hi
  exact .inl ⟨xs[i], ys[i], by simp [hi], by simp [hj], h.2 i _ _ (by simp [hi]) (by simp [hj])⟩
 ·exact .inr ⟨by simp [hi], by have := h.1; simp; omega⟩

def Zp2 (P : Program) (G : Glob) (fn : Func) (σ : List Blk) (res : Value) (σ' : List Blk) : Exit → St → Prop
  | .normal, s | .ret, s => ∃ v e, EndOK P G fn σ res σ' s v e
  | _, _ => False

theorem Z4.intro {f : FuncId} {fn : Func} {c : Code} {args : List Value} {σ σ' : List Blk} {res : Value} (hf : P.funcs[f]? = some fn) (hb : fn.body = some c) (hn : args.length ≤ fn.ntmps)
  (h : WpL P G fn.ntmps σ.length c (Zp2 P G fn σ res σ') ⟨Zh7 args, σ⟩) : Z4 P G f args σ res σ' := by
 intro m w args' hH hA
 refine calls_of_wp hf hb ?_
 have hl := hA.1
 have hdom : ∀ b, σ.length ≤ b → m b = none := fun b hb => hH.dom hb
 have h0 := h ⟨m, w, []⟩ m { tmps := args'.toArray ++ Array.replicate (fn.ntmps - args'.toArray.size) undef, defers := [] } w hdom
  ⟨by simp; omega, fun i => by
   rcases hA.at_ i with ⟨x, y, h1, h2, h3⟩ | ⟨h1, h2⟩
   ·have hi : i < args'.length := (List.getElem?_eq_some_iff.1 h2).1
    simp only [Zh7, h1, Option.getD_some]
    rw [Array.getD_eq_getD_getElem?, Array.getElem?_append_left (by simpa using hi)]
    simp only [List.getElem?_toArray, h2, Option.getD_some]
    exact h3
   ·simp only [Zh7, h1, Option.getD_none]
    have : args'.length ≤ i := by simpa using h2
    rw [Array.getD_eq_getD_getElem?, Array.getElem?_append_right (by simpa using this)]
    rw [Array.getElem?_replicate]
    split <;> exact VR.undef, rfl, hH, Frame.refl [] hH⟩
 refine wp_mono h0 ?_
 rintro e a w' ⟨s, m', hq, hr⟩
 have key : (∃ v e, EndOK P G fn σ res σ' s v e) → a.defers = [] ∧ ∃ v, (results fn a.tmps).run P w' = .ok v w' ∧ ∃ v' m', Ending.returned v = .returned v' ∧ HRel G m' σ' w' ∧ VR m' res v' ∧ Frame ⟨m, w, []⟩ m' w' := by
  rintro ⟨v, e, hE⟩
  obtain ⟨v', g1, g2⟩ := Zea hr hE.out
  obtain ⟨k1, k2, k3⟩ := hE.back hdom hr.heap hr.frame g2 (ds' := [])
  exact ⟨hr.defers, v', g1, v', _, rfl, k1, k2, k3⟩
 cases e with
 | normal => exact key hq
 | ret => exact key hq
 | _ => exact hq.elim

end
end Go.Flat
end
section
/- Rules in the form in which the walks use them. -/
namespace Go.Flat
section
variable {P : Program} {G : Glob} {nt : Nat} {ops : Array Oper} {K : Trace → St → Prop} {o : Oper} {l : List Oper} {tr : Trace} {T : Nat → Value} {H : List Blk}

theorem Zbf.val {v : Value} {d : Tmp} (h : Zaf P G nt ops o ⟨T, H⟩ { val := v }) (hd : o.dst = some d) (k : Zbf P G nt ops K l (tr ++ [(o, { val := v })]) ⟨upd T d v, H⟩) : Zbf P G nt ops K (o :: l) tr ⟨T, H⟩ :=
 ⟨_, h, by simpa [Delta.apply, Zdt, hd, St.put] using k⟩
theorem Zbf.valF {v : Value} {d : Tmp} {foot : List Nat} (h : Zaf P G nt ops o ⟨T, H⟩ { val := v, foot := foot }) (hd : o.dst = some d) (k : Zbf P G nt ops K l (tr ++ [(o, { val := v, foot := foot })]) ⟨upd T d v, H⟩) : Zbf P G nt ops K (o :: l) tr ⟨T, H⟩ :=
 ⟨_, h, by simpa [Delta.apply, Zdt, hd, St.put] using k⟩
theorem Zbf.sto {v : Value} {b : Nat} {x : Blk} {foot : List Nat} {H' : List Blk} (h : Zaf P G nt ops o ⟨T, H⟩ { val := v, sets := [(b, x)], foot := foot }) (hd : o.dst = none) (hH : Zer H b x = H') (k : Zbf P G nt ops K l (tr ++ [(o, { val := v, sets := [(b, x)], foot := foot })]) ⟨T, H'⟩) : Zbf P G nt ops K (o :: l) tr ⟨T, H⟩ :=
 ⟨_, h, by subst hH; simpa [Delta.apply, Zdt, hd, St.put] using k⟩
theorem Zbf.new {v : Value} {d : Tmp} {b : Nat} {x : Blk} {foot : List Nat} {H' : List Blk} (h : Zaf P G nt ops o ⟨T, H⟩ { val := v, sets := [(b, x)], foot := foot }) (hd : o.dst = some d) (hH : Zer H b x = H') (k : Zbf P G nt ops K l (tr ++ [(o, { val := v, sets := [(b, x)], foot := foot })]) ⟨upd T d v, H'⟩) : Zbf P G nt ops K (o :: l) tr ⟨T, H⟩ :=
 ⟨_, h, by subst hH; simpa [Delta.apply, Zdt, hd, St.put] using k⟩
theorem Zbf.skip {d : Tmp} (hg : Zcy nt ⟨T, H⟩ (Zc3 ops o) = some false) (hn : Zbb nt o.dst = true) (hd : o.dst = some d) (k : Zbf P G nt ops K l (tr ++ [(o, { val := undef })]) ⟨upd T d undef, H⟩) : Zbf P G nt ops K (o :: l) tr ⟨T, H⟩ :=
 Zbf.val (Zaf.skip hg hn) hd k
theorem Zbf.done {s : St} (h : K tr s) : Zbf P G nt ops K [] tr s := h


section
variable {op : BinOp} {t : TypeId} {x y : Operand} {k : IntKind} {a b : Int}
theorem Zpr (op : BinOp) (t : TypeId) (x y : Operand) (k k' : IntKind) (a b : Int) : eqGuard op t x y (.int k a) (.int k' b) = pure () := by cases op <;> rfl
theorem Zdd {v : Value} (h : Zw P (binOp op t (.int k a) (.int k b)) = some v) (hp : Za0 v = true) : Zb9 P op t x y (.int k a) (.int k b) = some v := by
 unfold Zb9
 rw [if_pos (show (Za0 (.int k a) && Za0 (.int k b)) = true from rfl), Zpr, Z6, Z2, Option.bind_some, h, Option.bind_some, if_pos hp]
theorem Zvi : Zb9 P .lss t x y (.int k a) (.int k b) = some (.bool (decide (a < b))) := Zdd (by simp [binOp, Op.intCmp, Z2]) rfl
theorem Zvh : Zb9 P .leq t x y (.int k a) (.int k b) = some (.bool (decide (a ≤ b))) := Zdd (by simp [binOp, Op.intCmp, Z2]) rfl
theorem Zvg : Zb9 P .gtr t x y (.int k a) (.int k b) = some (.bool (decide (b < a))) := Zdd (by simp [binOp, Op.intCmp, Z2]) rfl
theorem Zvf : Zb9 P .geq t x y (.int k a) (.int k b) = some (.bool (decide (b ≤ a))) := Zdd (by simp [binOp, Op.intCmp, Z2]) rfl
theorem Zve : Zb9 P .eql t x y (.int k a) (.int k b) = some (.bool (decide (a = b))) := Zdd (by simp [binOp, Op.intCmp, Z2]; rfl) rfl
theorem Zvk : Zb9 P .neq t x y (.int k a) (.int k b) = some (.bool (decide (a ≠ b))) := Zdd (by simp [binOp, Op.intCmp, Z2]; by_cases h : a = b <;> simp [h]) rfl
theorem wrap_i64 {n : Int} (h1 : -9223372036854775808 ≤ n) (h2 : n ≤ 9223372036854775807) : IntKind.i64.wrap n = n := by
 simp only [IntKind.wrap, IntKind.bits, IntKind.signed, Bool.true_and]
 split
 ·rename_i h; simp at h; omega
 ·rename_i h; simp at h; omega
theorem Zan {c : Int} (hc : a + b = c) (h1 : -9223372036854775808 ≤ c) (h2 : c ≤ 9223372036854775807) : Zb9 P .add t x y (.int .i64 a) (.int .i64 b) = some (.int .i64 c) := Zdd (by subst hc; simp [binOp, Op.intArith, Z2, wrap_i64 h1 h2]) rfl
theorem Zg8 {c : Int} (hc : a - b = c) (h1 : -9223372036854775808 ≤ c) (h2 : c ≤ 9223372036854775807) : Zb9 P .sub t x y (.int .i64 a) (.int .i64 b) = some (.int .i64 c) := Zdd (by subst hc; simp [binOp, Op.intArith, Z2, wrap_i64 h1 h2]) rfl
theorem Zvj {c : Int} (hc : a * b = c) (h1 : -9223372036854775808 ≤ c) (h2 : c ≤ 9223372036854775807) : Zb9 P .mul t x y (.int .i64 a) (.int .i64 b) = some (.int .i64 c) := Zdd (by subst hc; simp [binOp, Op.intArith, Z2, wrap_i64 h1 h2]) rfl
end
theorem Zdk {b : Bool} : unD P .not (.bool b) = some (.bool !b) := by
 unfold unD
 rw [if_pos (show Za0 (.bool b) = true from rfl)]
 rfl
end
end Go.Flat
end
section
/- Rules in the form in which the walks use them, II. -/
namespace Go.Flat
section
variable {P : Program} {G : Glob} {nt n0 : Nat} {ops : Array Oper} {o : Oper} {s : St} {Q : Exit → St → Prop} {x y z : Code} {c : Operand}


theorem Zos {next : St → Prop} {e : Exit} (h : Q e s) (he : e ≠ .normal) : Zd7 next Q e s := by cases e <;> first | exact h | exact absurd rfl he
theorem Zp8 {next : St → Prop} {e : Exit} (h : Zd7 next Q e s) : (e = .normal ∧ next s) ∨ (e ≠ .normal ∧ Q e s) := by cases e <;> first | exact .inl ⟨rfl, h⟩ | exact .inr ⟨by simp, h⟩
theorem Z49 (h : WpL P G nt n0 x (Zd7 (WpL P G nt n0 y Q) Q) s) : WpL P G nt n0 (.seq x y) Q s :=
 WpL.seq fun K hK => h.mono fun e s hq => by
  rcases Zp8 hq with ⟨rfl, h1⟩ | ⟨h1, h2⟩
  ·exact hK _ h1
  ·exact Zos h2 h1
theorem Z5x {i : Nat} (h : Q .normal s) : Zec i Q (.exit i) s := by simp only [Zec, if_pos]; exact h
theorem Z5y {i j : Nat} (hne : (j == i) = false) (h : Q (.exit j) s) : Zec i Q (.exit j) s := by
 simp only [Zec]; rw [if_neg (by simpa using hne)]; exact h

section
variable {op : BinOp} {t : TypeId} {u v : Operand} {k : IntKind} {a b : Int}
theorem Zc0 (h : a < b) : Zb9 P .lss t u v (.int k a) (.int k b) = some (.bool true) := by rw [Zvi]; simp [h]
theorem Zct (h : ¬ a < b) : Zb9 P .lss t u v (.int k a) (.int k b) = some (.bool false) := by rw [Zvi]; simp [h]
theorem Zj3 (h : a ≤ b) : Zb9 P .leq t u v (.int k a) (.int k b) = some (.bool true) := by rw [Zvh]; simp [h]
theorem Zj2 (h : ¬ a ≤ b) : Zb9 P .leq t u v (.int k a) (.int k b) = some (.bool false) := by rw [Zvh]; simp [h]
theorem Zgu (h : b < a) : Zb9 P .gtr t u v (.int k a) (.int k b) = some (.bool true) := by rw [Zvg]; simp [h]
theorem Zgt (h : ¬ b < a) : Zb9 P .gtr t u v (.int k a) (.int k b) = some (.bool false) := by rw [Zvg]; simp [h]
theorem Znx (h : b ≤ a) : Zb9 P .geq t u v (.int k a) (.int k b) = some (.bool true) := by rw [Zvf]; simp [h]
theorem Znw (h : ¬ b ≤ a) : Zb9 P .geq t u v (.int k a) (.int k b) = some (.bool false) := by rw [Zvf]; simp [h]
theorem Zc2 (h : a = b) : Zb9 P .eql t u v (.int k a) (.int k b) = some (.bool true) := by rw [Zve]; simp [h]
theorem Zed (h : ¬ a = b) : Zb9 P .eql t u v (.int k a) (.int k b) = some (.bool false) := by rw [Zve]; simp [h]
theorem Ze3 (h : a = b) : Zb9 P .neq t u v (.int k a) (.int k b) = some (.bool false) := by rw [Zvk]; simp [h]
theorem Zfc (h : ¬ a = b) : Zb9 P .neq t u v (.int k a) (.int k b) = some (.bool true) := by rw [Zvk]; simp [h]
end
def Z5w : Op → Option Operand | .move x | .assign x => some x | _ => none
section
variable {K : Trace → St → Prop} {l : List Oper} {tr : Trace} {T : Nat → Value} {H : List Blk}
theorem Z1t (hg : Zcy nt s (Zc3 ops o) = some true) (hd : Zbb nt o.dst = true) {f : Operand} {args : Array Operand} {ts : Array TypeId} {k : FuncId} (ho : o.op = .call { callee := .value f, args := args, argTypes := ts })
  (hf : s.eval f = .func (.func k) #[] #[]) (hk : Zd2 P k = true) {vals : List Value} {res res' : Value} (hC : Z4 P G k vals [] res []) (ha : args.toList.map s.eval = vals) (hp : vals.all Za0 = true) (hr : Zoi [] res = res') : Zaf P G nt ops o s { val := res' } := by
 subst hr
 have hA : ∀ l : List Value, l.all Za0 = true → Ziq [] l l := by
  intro l
  induction l with
  | nil => exact fun _ => trivial
  | cons v l ih =>
   intro h
   simp only [List.all_cons, Bool.and_eq_true] at h
   exact ⟨by unfold Zh8; rw [if_pos h.1], ih h.2⟩
 have := Zy7 (P := P) (G := G) (nt := nt) (ops := ops) (o := o) (s := s) hg hd ho hf ⟨rfl, rfl⟩ hk hC [] 0 ⟨by simpa [ha] using hA vals hp, trivial, rfl, rfl, by simp [Zgg], by simp [Za7]⟩
 simpa [Zhb, Zb0, Zeh, Zr9, Za7] using this
end


theorem Z50 {fn : Func} {σ σ' : List Blk} {res v : Value} (e : Emb) (hr : Zd6 P G fn s = some v) (he : Zhl s.heap e e σ') (hd : Zib e σ' = true) (hn : Zfx e σ' = true) (hv : Zkr e res v) (hf : FirstOK s.heap e σ σ') : ∃ v e, EndOK P G fn σ res σ' s v e := by
 obtain ⟨h1, h2⟩ := Zeq he
 refine ⟨v, e, hr, ⟨h1, h2, Zm5 (H := s.heap) hd⟩, fun i L hL => ?_, hv, hf⟩
 unfold Zfx at hn
 simp only [List.all_eq_true, Bool.or_eq_true] at hn
 exact hn L (List.mem_of_getElem? hL)
theorem Z4v {fn : Func} {res v : Value} (hr : Zd6 P G fn s = some v) (hv : Zkr [] res v) : ∃ v e, EndOK P G fn [] res [] s v e :=
 Z50 [] hr trivial rfl rfl hv ⟨Nat.le_refl _, fun b L hb => by simp at hb⟩
theorem Zkc {fn : Func} {res v : Value} (hr : Zd6 P G fn s = some v) (hp : Za0 res = true) (hv : res = v) : ∃ v e, EndOK P G fn [] res [] s v e := by
  refine Z4v hr ?_
  subst hv
  have ht := Zge hp
  cases res <;> first | (show Zh8 _ _ _; unfold Zh8; rw [if_pos hp]) | cases ht
theorem Z3t (hg : Zcy nt s (Zc3 ops o) = some true) (hd : Zbb nt o.dst = true) {op : BinOp} {t yt : TypeId} {x y : Operand} {v vx vy : Value} (ho : o.op = .binOp op t x y yt) (hx : s.eval x = vx) (hy : s.eval y = vy) (h : Zb9 P op t x y vx vy = some v) : Zaf P G nt ops o s { val := v } :=
 Z4y hg hd ho (by rw [hx, hy]; exact h)
end
end Go.Flat
end
section
/- The rules of the walks, told apart by their heads. -/
namespace Go.Flat
structure C (P : Program) (G : Glob) (nt n0 : Nat) (c : Code) (Q : Exit → St → Prop) (s : St) : Prop where
  h : WpL P G nt n0 c Q s
structure X (Q : Exit → St → Prop) (e : Exit) (s : St) : Prop where
  h : Q e s
structure R (P : Program) (G : Glob) (nt : Nat) (ops : List Oper) (K : Trace → St → Prop) (l : List Oper) (tr : Trace) (T : Nat → Value) (H : List Blk) : Prop where
  h : Zbf P G nt ops.toArray K l tr ⟨T, H⟩
def Zx1 (P : Program) (G : Glob) (nt n0 : Nat) (c : Code) (Q : Exit → St → Prop) : Exit → St → Prop := Zd7 (C P G nt n0 c Q) Q

section
variable {P : Program} {G : Glob} {nt n0 : Nat} {Q : Exit → St → Prop} {s : St} {x y z : Code} {c : Operand}
theorem Ze (h : C P G nt n0 x (Zx1 P G nt n0 y Q) s) : C P G nt n0 (.seq x y) Q s := ⟨Z49 (h.h.mono fun e s hq => by
 rcases Zp8 hq with ⟨rfl, h1⟩ | ⟨h1, h2⟩
 ·exact h1.h
 ·exact Zos h2 h1)⟩
theorem Zg {i : Nat} {L : List Oper} {T : Nat → Value} {H : List Blk} (h : R P G nt L (fun _ s => X Q .normal s) L [] T H) : C P G nt n0 (.region i L.toArray false) Q ⟨T, H⟩ := ⟨WpL.region (by
 have : ∀ (l : List Oper) (tr : Trace) (s : St), Zbf P G nt L.toArray (fun _ s => X Q .normal s) l tr s → Zbf P G nt L.toArray (fun _ s => Q .normal s) l tr s := by
  intro l
  induction l with
  | nil => exact fun tr s h => h.h
  | cons o l ih => exact fun tr s ⟨δ, h1, h2⟩ => ⟨δ, h1, ih _ _ h2⟩
 exact this _ _ _ h.h)⟩
theorem Zgo {i : Nat} {L : List Oper} (hm : P.follows .mixedOrders = true) {T : Nat → Value} {H : List Blk} (h : R P G nt L (fun tr s' => Zfw L.toArray tr H.length = true ∧ X Q .normal s') L [] T H) : C P G nt n0 (.region i L.toArray true) Q ⟨T, H⟩ := ⟨WpL.drawn hm (by
 have : ∀ (l : List Oper) (tr : Trace) (s1 : St), Zbf P G nt L.toArray (fun tr s' => Zfw L.toArray tr H.length = true ∧ X Q .normal s') l tr s1 → Zbf P G nt L.toArray (fun tr s' => Zfw L.toArray tr H.length = true ∧ Q .normal s') l tr s1 := by
  intro l
  induction l with
  | nil => exact fun tr s h => ⟨h.1, h.2.h⟩
  | cons o l ih => exact fun tr s ⟨δ, h1, h2⟩ => ⟨δ, h1, ih _ _ h2⟩
 exact this _ _ _ h.h)⟩
theorem Zx (h : X Q .normal s) : C P G nt n0 .skip Q s := ⟨WpL.skip h.h⟩
theorem Z02 {i : Nat} (h : X Q .normal s) : C P G nt n0 (.label i) Q s := ⟨WpL.label h.h⟩
theorem Zbp {i : Nat} (h : X Q (.exit i) s) : C P G nt n0 (.exit i) Q s := ⟨WpL.exit h.h⟩
theorem Zj9 {i : Nat} (h : X Q (.goto i) s) : C P G nt n0 (.goto i) Q s := ⟨WpL.goto h.h⟩
theorem Zr (h : X Q .ret s) : C P G nt n0 .ret Q s := ⟨WpL.ret h.h⟩
theorem Zy (hc : s.eval c = .bool true) (h : C P G nt n0 x Q s) : C P G nt n0 (.cond c x y) Q s := ⟨WpL.cond_t hc h.h⟩
theorem Zt (hc : s.eval c = .bool false) (h : C P G nt n0 y Q s) : C P G nt n0 (.cond c x y) Q s := ⟨WpL.cond_f hc h.h⟩
theorem Z7 {i : Nat} (h : C P G nt n0 x (Zec i Q) s) : C P G nt n0 (.block i x) Q s := ⟨WpL.block h.h⟩
theorem Zb6 {s' : St} (hw : Zbe G nt n0 s s') (h : C P G nt n0 x Q s') : C P G nt n0 x Q s := ⟨WpL.weak hw h.h⟩
theorem Zae (n : Nat) {T : Nat → Value} {H H' : List Blk} (hH : H ++ List.replicate n hole = H') (h : C P G nt n0 x Q ⟨T, H'⟩) : C P G nt n0 x Q ⟨T, H⟩ := by subst hH; exact Zb6 (Zbe.reserve ⟨T, H⟩ n) h
theorem Zb (h : C P G nt n0 x Q s) : X (Zx1 P G nt n0 x Q) .normal s := ⟨h⟩
theorem Zau {i : Nat} (h : X Q (.exit i) s) : X (Zx1 P G nt n0 x Q) (.exit i) s := ⟨h.h⟩
theorem Z3 (h : X Q .ret s) : X (Zx1 P G nt n0 x Q) .ret s := ⟨h.h⟩
theorem Zip {i : Nat} (h : X Q (.goto i) s) : X (Zx1 P G nt n0 x Q) (.goto i) s := ⟨h.h⟩
theorem Za1 {i j : Nat} (he : (j == i) = true) (h : X Q .normal s) : X (Zec i Q) (.exit j) s := by
 have : j = i := by simpa using he
 subst this; exact ⟨Z5x h.h⟩
theorem Zms {i j : Nat} (he : (j == i) = false) (h : X Q (.exit j) s) : X (Zec i Q) (.exit j) s := ⟨Z5y he h.h⟩
theorem Z8 {i : Nat} (h : X Q .normal s) : X (Zec i Q) .normal s := ⟨h.h⟩
theorem Zbg {i : Nat} (h : X Q .ret s) : X (Zec i Q) .ret s := ⟨h.h⟩
theorem Zs {fn : Func} {σ σ' : List Blk} {res : Value} (h : ∃ v e, EndOK P G fn σ res σ' s v e) : X (Zp2 P G fn σ res σ') .ret s := ⟨h⟩
theorem Zko {fn : Func} {σ σ' : List Blk} {res : Value} (h : ∃ v e, EndOK P G fn σ res σ' s v e) : X (Zp2 P G fn σ res σ') .normal s := ⟨h⟩
theorem Zbd {f : FuncId} {fn : Func} {c : Code} {args : List Value} {σ σ' : List Blk} {res : Value} (hf : P.funcs[f]? = some fn) (hb : fn.body = some c) {nt : Nat} (hn : fn.ntmps = nt) (hl : decide (args.length ≤ nt) = true)
  (h : C P G nt σ.length c (Zp2 P G fn σ res σ') ⟨Zh7 args, σ⟩) : Z4 P G f args σ res σ' := by subst hn; exact Z4.intro hf hb (by simpa using hl) h.h
theorem Z3g {α : Type} (st : α → St) (φ : α → Prop) (μ : α → Nat) (x0 : α) (h0 : φ x0) (hs : Zbe G nt n0 s (st x0))
  (round : ∀ x, φ x → C P G nt n0 y (Zd7 (fun s1 => ∃ y, φ y ∧ μ y < μ x ∧ Zbe G nt n0 s1 (st y)) Q) (st x)) : C P G nt n0 (.loop y) Q s := ⟨WpL.loop st φ μ x0 h0 hs fun x hx => (round x hx).h⟩
theorem Zak {next : St → Prop} (h : next s) : X (Zd7 next Q) .normal s := ⟨h⟩
theorem Zv8 {next : St → Prop} {e : Exit} (he : (match e with | .normal => false | _ => true) = true) (h : X Q e s) : X (Zd7 next Q) e s := ⟨Zos h.h (by cases e <;> simp at he ⊢)⟩


variable {ops l : List Oper} {K : Trace → St → Prop} {tr : Trace} {T : Nat → Value} {H H' : List Blk} {d : Tmp} {ty : TypeId} {ps : String} {af : Array Edge} {g : Option (Nat × Bool)}
theorem Zq1 (h : K tr ⟨T, H⟩) : R P G nt ops K [] tr T H := ⟨h⟩
def gd (nt : Nat) (T : Nat → Value) (ops : List Oper) : Option (Nat × Bool) → Option Bool
  | none => some true
  | some (j, want) => match (ops[j]?).bind (·.dst) with
    | none => some false
    | some t => if t < nt then (match T t with | .bool b => some (b == want) | .tuple _ => some false | _ => none) else some false
theorem Zcq {o : Oper} : Zcy nt ⟨T, H⟩ (Zc3 ops.toArray o) = gd nt T ops o.guard := by
 unfold Zc3 gd
 cases h : o.guard with
 | none => rfl
 | some p =>
  obtain ⟨j, want⟩ := p
  simp only [Option.map_some, List.getElem?_toArray]
  cases (ops[j]?).bind (·.dst) <;> rfl
theorem Zoh {op : Op} (hg : gd nt T ops g = some false) (hd : Zbb nt (some d) = true) (k : R P G nt ops K l (tr ++ [(⟨some d, op, ty, ps, af, g⟩, { val := undef })]) (upd T d undef) H) : R P G nt ops K (⟨some d, op, ty, ps, af, g⟩ :: l) tr T H :=
 ⟨Zbf.val (Zaf.skip (by rw [Zcq]; exact hg) hd) rfl k.h⟩
section
variable {nid : Nat} (hg : gd nt T ops g = some true) (hd : Zbb nt (some d) = true)
include hg hd
theorem Zci {x : Operand} (v : Value) (h : St.eval ⟨T, H⟩ x = v) (k : R P G nt ops K l (tr ++ [(⟨some d, .move x, ty, ps, af, g⟩, { val := v })]) (upd T d v) H) : R P G nt ops K (⟨some d, .move x, ty, ps, af, g⟩ :: l) tr T H :=
 ⟨Zbf.val (Zy8 (by rw [Zcq]; exact hg) hd (.inl rfl) h) rfl k.h⟩
theorem Zc5 {x : Operand} (v : Value) (h : St.eval ⟨T, H⟩ x = v) (k : R P G nt ops K l (tr ++ [(⟨some d, .assign x, ty, ps, af, g⟩, { val := v })]) (upd T d v) H) : R P G nt ops K (⟨some d, .assign x, ty, ps, af, g⟩ :: l) tr T H :=
 ⟨Zbf.val (Zy8 (by rw [Zcq]; exact hg) hd (.inr rfl) h) rfl k.h⟩
theorem Zq2 {c x y : Operand} (v : Value) (h : Zp1 ⟨T, H⟩ c x y = some v) (k : R P G nt ops K l (tr ++ [(⟨some d, .pick c x y, ty, ps, af, g⟩, { val := v })]) (upd T d v) H) : R P G nt ops K (⟨some d, .pick c x y, ty, ps, af, g⟩ :: l) tr T H :=
 ⟨Zbf.val (Z30 (by rw [Zcq]; exact hg) hd rfl h) rfl k.h⟩
theorem Zl {op : BinOp} {t yt : TypeId} {x y : Operand} (v : Value) {vx vy : Value} (hx : St.eval ⟨T, H⟩ x = vx) (hy : St.eval ⟨T, H⟩ y = vy) (h : Zb9 P op t x y vx vy = some v) (k : R P G nt ops K l (tr ++ [(⟨some d, .binOp op t x y yt, ty, ps, af, g⟩, { val := v })]) (upd T d v) H) : R P G nt ops K (⟨some d, .binOp op t x y yt, ty, ps, af, g⟩ :: l) tr T H :=
 ⟨Zbf.val (Z3t (by rw [Zcq]; exact hg) hd rfl hx hy h) rfl k.h⟩
theorem Zgz {op : UnOp} {t : TypeId} {x : Operand} (v : Value) {vx : Value} (hx : St.eval ⟨T, H⟩ x = vx) (h : unD P op vx = some v) (k : R P G nt ops K l (tr ++ [(⟨some d, .unOp op t x, ty, ps, af, g⟩, { val := v })]) (upd T d v) H) : R P G nt ops K (⟨some d, .unOp op t x, ty, ps, af, g⟩ :: l) tr T H :=
 ⟨Zbf.val (Z53 (by rw [Zcq]; exact hg) hd rfl (by rw [hx]; exact h)) rfl k.h⟩
theorem Zbk {t : TypeId} {x : Operand} {f n b o o' : Nat} {q : Option Nat} (hx : St.eval ⟨T, H⟩ x = .pointer (some ⟨b, o, q⟩)) (hn : Z12 P t f = some n) (ho : o + n = o') (k : R P G nt ops K l (tr ++ [(⟨some d, .fieldAddr t x f, ty, ps, af, g⟩, { val := .pointer (some ⟨b, o', q⟩) })]) (upd T d (.pointer (some ⟨b, o', q⟩))) H) : R P G nt ops K (⟨some d, .fieldAddr t x f, ty, ps, af, g⟩ :: l) tr T H :=
 ⟨Zbf.val (Zse (by rw [Zcq]; exact hg) hd rfl (by rw [hx, Zqp, hn, ← ho]; rfl)) rfl k.h⟩
theorem Zaj {t : TypeId} {x : Operand} {v p : Value} (hx : St.eval ⟨T, H⟩ x = p) (h : Zdq P G t H p = some v) (k : R P G nt ops K l (tr ++ [(⟨some d, .load t x, ty, ps, af, g⟩, { val := v, foot := Zbu p })]) (upd T d v) H) : R P G nt ops K (⟨some d, .load t x, ty, ps, af, g⟩ :: l) tr T H := by
 subst hx; exact ⟨Zbf.valF (Z3x (by rw [Zcq]; exact hg) hd rfl h) rfl k.h⟩
theorem Zz1 {t : TypeId} {x : Operand} {v : Value} {b : Blk} (hx : St.eval ⟨T, H⟩ x = v) (h : Znh H v nid = some b) (hH : Zer H nid b = H') (k : R P G nt ops K l (tr ++ [(⟨some d, .box t x, ty, ps, af, g⟩, { val := Zek nid, sets := [(nid, b)], foot := [nid] })]) (upd T d (.pointer (some ⟨nid, 0, none⟩))) H') : R P G nt ops K (⟨some d, .box t x, ty, ps, af, g⟩ :: l) tr T H :=
 ⟨Zbf.new (Z4z (by rw [Zcq]; exact hg) hd rfl (by rw [hx]; exact h)) rfl hH k.h⟩
theorem Zes {t : TypeId} {b : Blk} (h : Zlw P H t nid = some b) (hH : Zer H nid b = H') (k : R P G nt ops K l (tr ++ [(⟨some d, .alloc t, ty, ps, af, g⟩, { val := Zek nid, sets := [(nid, b)], foot := [nid] })]) (upd T d (.pointer (some ⟨nid, 0, none⟩))) H') : R P G nt ops K (⟨some d, .alloc t, ty, ps, af, g⟩ :: l) tr T H :=
 ⟨Zbf.new (Z1r (by rw [Zcq]; exact hg) hd rfl h) rfl hH k.h⟩
theorem Zxh {x : Operand} {i : Nat} {vs : Array Value} {v : Value} (hx : St.eval ⟨T, H⟩ x = .tuple vs) (h : Zys (.tuple vs) i = some v) (k : R P G nt ops K l (tr ++ [(⟨some d, .extract x i, ty, ps, af, g⟩, { val := v })]) (upd T d v) H) : R P G nt ops K (⟨some d, .extract x i, ty, ps, af, g⟩ :: l) tr T H :=
 ⟨Zbf.val (Zw0 (by rw [Zcq]; exact hg) hd rfl (by rw [hx]; exact h)) rfl k.h⟩
theorem Zis {t : TypeId} {x : Operand} {p v : Value} (hx : St.eval ⟨T, H⟩ x = p) (h : Zzf P t p = some v) (k : R P G nt ops K l (tr ++ [(⟨some d, .call { callee := .builtin .len, args := #[x], argTypes := #[t] }, ty, ps, af, g⟩, { val := v })]) (upd T d v) H) : R P G nt ops K (⟨some d, .call { callee := .builtin .len, args := #[x], argTypes := #[t] }, ty, ps, af, g⟩ :: l) tr T H :=
 ⟨Zbf.val (Z41 (by rw [Zcq]; exact hg) hd rfl (by rw [hx]; exact h)) rfl k.h⟩
theorem Z21 {t : TypeId} {x y : Operand} {v p i : Value} (hx : St.eval ⟨T, H⟩ x = p) (hy : St.eval ⟨T, H⟩ y = i) (h : Zwt P t p i = some v) (k : R P G nt ops K l (tr ++ [(⟨some d, .indexAddr t x y, ty, ps, af, g⟩, { val := v })]) (upd T d v) H) : R P G nt ops K (⟨some d, .indexAddr t x y, ty, ps, af, g⟩ :: l) tr T H :=
 ⟨Zbf.val (Zsf (by rw [Zcq]; exact hg) hd rfl (by rw [hx, hy]; exact h)) rfl k.h⟩
end
theorem Zcv {t : TypeId} {x y : Operand} {p v : Value} {b : Nat} {blk : Blk} (hg : gd nt T ops g = some true) (hx : St.eval ⟨T, H⟩ x = p) (hy : St.eval ⟨T, H⟩ y = v) (h : Zfi P t H p v = some (b, blk)) (hH : Zer H b blk = H') (k : R P G nt ops K l (tr ++ [(⟨none, .store t x y, ty, ps, af, g⟩, { val := undef, sets := [(b, blk)], foot := Zbu p })]) T H') : R P G nt ops K (⟨none, .store t x y, ty, ps, af, g⟩ :: l) tr T H := by
 subst hx; subst hy; exact ⟨Zbf.sto (Z1x (by rw [Zcq]; exact hg) rfl rfl h) rfl hH k.h⟩
theorem Zq {args : Array Operand} {ts : Array TypeId} {f : FuncId} {vals : List Value} {res : Value} (hC : Z4 P G f vals [] res []) (hg : gd nt T ops g = some true) (hd : Zbb nt (some d) = true) (hk : Zd2 P f = true) (ha : args.toList.map (St.eval ⟨T, H⟩) = vals) (hp : vals.all Za0 = true) {res' : Value} (hr : Zoi [] res = res')
  (k : R P G nt ops K l (tr ++ [(⟨some d, .call { callee := .value (.func f), args := args, argTypes := ts }, ty, ps, af, g⟩, { val := res' })]) (upd T d res') H) : R P G nt ops K (⟨some d, .call { callee := .value (.func f), args := args, argTypes := ts }, ty, ps, af, g⟩ :: l) tr T H :=
 ⟨Zbf.val (Z1t (by rw [Zcq]; exact hg) hd rfl rfl hk hC ha hp hr) rfl k.h⟩
end
end Go.Flat
end
section
/- Words: unsigned integers as bit vectors. -/
namespace Go.Flat
section
variable {P : Program} {t : TypeId} {u v : Operand} {x y : Int}
theorem ofI (w : Nat) (a : BitVec w) : BitVec.ofInt w (a.toNat : Int) = a := by
 apply BitVec.eq_of_toNat_eq
 rw [BitVec.toNat_ofInt]
 have := a.isLt
 have h : ((a.toNat : Int) % ((2 ^ w : Nat) : Int)) = ((a.toNat : Nat) : Int) := by exact_mod_cast congrArg (Nat.cast (R := Int)) (Nat.mod_eq_of_lt this)
 rw [h, Int.toNat_natCast]
theorem Zhr {k : IntKind} (hs : k.signed = false) (z : Int) : k.wrap z = ((BitVec.ofInt k.bits z).toNat : Int) := by
 simp only [IntKind.wrap, hs, Bool.false_and, Bool.false_eq_true, if_false, BitVec.toNat_ofInt]
 have h : 0 ≤ z % (2 ^ k.bits : Int) := Int.emod_nonneg _ (by (have : (0 : Int) < 2 ^ k.bits := Int.pow_pos (by decide)); omega)
 rw [Int.toNat_of_nonneg (by simpa using h)]
 simp

variable {k : IntKind} (hs : k.signed = false) {a b : BitVec k.bits} (hx : BitVec.ofInt k.bits x = a) (hy : BitVec.ofInt k.bits y = b)
include hs hx hy
theorem Z4p : Zb9 P .add t u v (.int k x) (.int k y) = some (.int k ((a + b).toNat : Int)) := Zdd (by
 subst hx; subst hy; simp [binOp, Op.intArith, Z2, Zhr hs, BitVec.ofInt_add]) rfl
theorem Z56 : Zb9 P .mul t u v (.int k x) (.int k y) = some (.int k ((a * b).toNat : Int)) := Zdd (by
 subst hx; subst hy; simp [binOp, Op.intArith, Z2, Zhr hs, BitVec.ofInt_mul]) rfl
theorem Z6l : Zb9 P .sub t u v (.int k x) (.int k y) = some (.int k ((a - b).toNat : Int)) := Zdd (by
 subst hx; subst hy
 simp only [binOp, ne_eq, not_true_eq_false, if_false, Op.intArith, Z2, Zhr hs]
 rw [Int.sub_eq_add_neg, BitVec.ofInt_add, BitVec.ofInt_neg, ← BitVec.sub_eq_add_neg]) rfl
theorem Z4r : Zb9 P .and t u v (.int k x) (.int k y) = some (.int k ((a &&& b).toNat : Int)) := Zdd (by
 subst hx; subst hy; simp only [binOp, ne_eq, not_true_eq_false, if_false, Op.intBits, Z2]; rw [Zhr hs, ofI]) rfl
theorem orU : Zb9 P .or t u v (.int k x) (.int k y) = some (.int k ((a ||| b).toNat : Int)) := Zdd (by
 subst hx; subst hy; simp only [binOp, ne_eq, not_true_eq_false, if_false, Op.intBits, Z2]; rw [Zhr hs, ofI]) rfl
theorem Z6n : Zb9 P .xor t u v (.int k x) (.int k y) = some (.int k ((a ^^^ b).toNat : Int)) := Zdd (by
 subst hx; subst hy; simp only [binOp, ne_eq, not_true_eq_false, if_false, Op.intBits, Z2]; rw [Zhr hs, ofI]) rfl
end
section
variable {P : Program} {t : TypeId} {u v : Operand} {x y : Int} {k : IntKind} (hs : k.signed = false) {a : BitVec k.bits} (hx : BitVec.ofInt k.bits x = a)
theorem Zly {op : BinOp} {yk : IntKind} {r : Value} (ho : op = .shl ∨ op = .shr) (h : Zw P (Op.shift op k x yk y) = some r) (hp : Za0 r = true) : Zb9 P op t u v (.int k x) (.int yk y) = some r := by
  unfold Zb9
  rw [if_pos (show (Za0 (.int k x) && Za0 (.int yk y)) = true from rfl), Zpr, Z6, Z2, Option.bind_some]
  have : binOp op t (.int k x) (.int yk y) = Op.shift op k x yk y := by rcases ho with rfl | rfl <;> rfl
  rw [this, h, Option.bind_some, if_pos hp]
omit hs hx in
theorem Z2g {w : Nat} (a : BitVec w) (n : Nat) : a <<< (min n w) = a <<< n := by
 rcases Nat.le_total n w with h | h
 ·rw [Nat.min_eq_left h]
 ·rw [Nat.min_eq_right h]
  apply BitVec.eq_of_getLsbD_eq
  intro i hi
  simp [BitVec.getLsbD_shiftLeft]
  omega
omit hs hx in
theorem Zzn {w m : Nat} (a : BitVec w) : a * BitVec.ofInt w (2 ^ m) = a <<< m := by
 apply BitVec.eq_of_toNat_eq
 have : BitVec.ofInt w (2 ^ m) = BitVec.ofNat w (2 ^ m) := by
  rw [show ((2 : Int) ^ m) = ((2 ^ m : Nat) : Int) from by simp, BitVec.ofInt_natCast]
 rw [this, BitVec.toNat_mul, BitVec.toNat_shiftLeft, BitVec.toNat_ofNat, Nat.shiftLeft_eq, Nat.mul_mod_mod]
include hs hx
theorem Z6j {yk : IntKind} (hy : 0 ≤ y) : Zb9 P .shl t u v (.int k x) (.int yk y) = some (.int k ((a <<< y.toNat).toNat : Int)) := Zly (.inl rfl) (by
 subst hx
 simp only [Op.shift]
 rw [if_neg (by omega)]
 simp only [Z2, Zhr hs]
 rw [BitVec.ofInt_mul, ← Z2g (w := k.bits), Zzn]) rfl
omit hs in
theorem Z5d {yk : IntKind} (hy : 0 ≤ y) (h0 : 0 ≤ x) (h1 : x < 2 ^ k.bits) : Zb9 P .shr t u v (.int k x) (.int yk y) = some (.int k ((a >>> y.toNat).toNat : Int)) := Zly (.inr rfl) (by
 subst hx
 simp only [Op.shift]
 rw [if_neg (by omega)]
 simp only [Z2]
 obtain ⟨X, rfl⟩ : ∃ X : Nat, x = X := ⟨x.toNat, by omega⟩
 have hX : X < 2 ^ k.bits := by exact_mod_cast h1
 congr 2
 rw [BitVec.ofInt_natCast, BitVec.toNat_ushiftRight, BitVec.toNat_ofNat, Nat.mod_eq_of_lt hX, Nat.shiftRight_eq_div_pow]
 rw [Int.fdiv_eq_ediv_of_nonneg _ (by exact_mod_cast Nat.zero_le _)]
 rcases Nat.le_total y.toNat k.bits with h | h
 ·rw [Nat.min_eq_left h]; simp
 ·rw [Nat.min_eq_right h, Nat.div_eq_of_lt (Nat.lt_of_lt_of_le hX (Nat.pow_le_pow_right (by decide) h))]
  have := Nat.div_eq_of_lt hX
  have h2 : ((X : Int) / 2 ^ k.bits) = ((X / 2 ^ k.bits : Nat) : Int) := by simp
  rw [h2, this]) rfl
end

section
variable {P : Program} {t : TypeId} {u v : Operand} {x y : Int}
theorem Z2s {a b : BitVec 32} (hx : BitVec.ofInt 32 x = a) (hy : BitVec.ofInt 32 y = b) : Zb9 P .add t u v (.int .u32 x) (.int .u32 y) = some (.int .u32 ((a + b).toNat : Int)) := Z4p (k := .u32) rfl hx hy
theorem Z4o {a b : BitVec 64} (hx : BitVec.ofInt 64 x = a) (hy : BitVec.ofInt 64 y = b) : Zb9 P .add t u v (.int .u64 x) (.int .u64 y) = some (.int .u64 ((a + b).toNat : Int)) := Z4p (k := .u64) rfl hx hy
theorem Z5e {a b : BitVec 64} (hx : BitVec.ofInt 64 x = a) (hy : BitVec.ofInt 64 y = b) : Zb9 P .sub t u v (.int .u64 x) (.int .u64 y) = some (.int .u64 ((a - b).toNat : Int)) := Z6l (k := .u64) rfl hx hy
theorem Z2y {a b : BitVec 64} (hx : BitVec.ofInt 64 x = a) (hy : BitVec.ofInt 64 y = b) : Zb9 P .mul t u v (.int .u64 x) (.int .u64 y) = some (.int .u64 ((a * b).toNat : Int)) := Z56 (k := .u64) rfl hx hy
theorem Z4q {a b : BitVec 32} (hx : BitVec.ofInt 32 x = a) (hy : BitVec.ofInt 32 y = b) : Zb9 P .and t u v (.int .u32 x) (.int .u32 y) = some (.int .u32 ((a &&& b).toNat : Int)) := Z4r (k := .u32) rfl hx hy
theorem Z2u {a b : BitVec 64} (hx : BitVec.ofInt 64 x = a) (hy : BitVec.ofInt 64 y = b) : Zb9 P .and t u v (.int .u64 x) (.int .u64 y) = some (.int .u64 ((a &&& b).toNat : Int)) := Z4r (k := .u64) rfl hx hy
theorem Z44 {a b : BitVec 32} (hx : BitVec.ofInt 32 x = a) (hy : BitVec.ofInt 32 y = b) : Zb9 P .or t u v (.int .u32 x) (.int .u32 y) = some (.int .u32 ((a ||| b).toNat : Int)) := orU (k := .u32) rfl hx hy
theorem Z27 {a b : BitVec 32} (hx : BitVec.ofInt 32 x = a) (hy : BitVec.ofInt 32 y = b) : Zb9 P .xor t u v (.int .u32 x) (.int .u32 y) = some (.int .u32 ((a ^^^ b).toNat : Int)) := Z6n (k := .u32) rfl hx hy
theorem Z23 {yk : IntKind} {a : BitVec 32} (hx : BitVec.ofInt 32 x = a) (hy : 0 ≤ y) : Zb9 P .shl t u v (.int .u32 x) (.int yk y) = some (.int .u32 ((a <<< y.toNat).toNat : Int)) := Z6j (k := .u32) rfl hx hy
theorem Z0a {yk : IntKind} {a : BitVec 32} (hy : 0 ≤ y) : Zb9 P .shr t u v (.int .u32 (a.toNat : Int)) (.int yk y) = some (.int .u32 ((a >>> y.toNat).toNat : Int)) := Z5d (k := .u32) (ofI 32 a) hy (by omega) (by have := a.isLt; simp only [IntKind.bits]; omega)
theorem Z24 {yk : IntKind} {a : BitVec 64} (hy : 0 ≤ y) : Zb9 P .shr t u v (.int .u64 (a.toNat : Int)) (.int yk y) = some (.int .u64 ((a >>> y.toNat).toNat : Int)) := Z5d (k := .u64) (ofI 64 a) hy (by omega) (by have := a.isLt; simp only [IntKind.bits]; omega)
theorem Z46 {k : IntKind} (h0 : 0 ≤ x) (h1 : 0 < y) (hm : x ≤ k.max) : Zb9 P .quo t u v (.int k x) (.int k y) = some (.int k (x / y)) := Zdd (by
 have hw : k.wrap (x.tdiv y) = x / y := by
  rw [Int.tdiv_eq_ediv_of_nonneg h0]
  have a1 : 0 ≤ x / y := Int.ediv_nonneg h0 (by omega)
  have a2 : x / y ≤ x := Int.ediv_le_self _ h0
  cases k <;> simp [IntKind.wrap, IntKind.max, IntKind.bits, IntKind.signed] at hm ⊢ <;> (try split) <;> omega
 simp [binOp, Op.intDiv, Z2, show y ≠ 0 by omega, hw]) rfl
theorem Zz2 {k : IntKind} (h0 : 0 ≤ x) (h1 : 0 < y) : Zb9 P .rem t u v (.int k x) (.int k y) = some (.int k (x % y)) := Zdd (by
 have hw : x.tmod y = x % y := Int.tmod_eq_emod_of_nonneg h0
 simp [binOp, Op.intDiv, Z2, show y ≠ 0 by omega, hw]) rfl
end
theorem Zku {P : Program} {src dst : TypeId} {k k' : IntKind} {d : TypeDesc} {n : Int} (h1 : P.underlying src = some d) (h2 : P.underlying dst = some (.int k)) : Zj1 P src dst (.int k' n) = some (.int k (k.wrap n)) := by
 unfold Zj1
 rw [if_pos (show Za0 (.int k' n) = true from rfl)]
 have : Zw P (convert src dst (.int k' n)) = some (.int k (k.wrap n)) := by
  unfold convert
  rw [Z6, Zbj h1, Option.bind_some, Z6, Zbj h2, Option.bind_some]
  cases d <;> rfl
 rw [this]; rfl
theorem Z4l (z : Int) : IntKind.u32.wrap z = ((BitVec.ofInt 32 z).toNat : Int) := Zhr (k := .u32) rfl z
theorem Z0n (z : Int) : IntKind.u64.wrap z = ((BitVec.ofInt 64 z).toNat : Int) := Zhr (k := .u64) rfl z
theorem Z5l (z : Int) : IntKind.u8.wrap z = ((BitVec.ofInt 8 z).toNat : Int) := Zhr (k := .u8) rfl z
theorem Z4k {P : Program} {n : Int} {c : Int} (hc : 0 - n = c) (h1 : -9223372036854775808 ≤ c) (h2 : c ≤ 9223372036854775807) : unD P .neg (.int .i64 n) = some (.int .i64 c) := by
 subst hc
 unfold unD
 rw [if_pos (show Za0 (.int .i64 n) = true from rfl)]
 have : Zw P (Op.unary .neg (.int .i64 n)) = some (.int .i64 (IntKind.i64.wrap (0 - n))) := rfl
 rw [this, wrap_i64 h1 h2]; rfl
end Go.Flat
end
section
/- More rules for operations. -/
namespace Go.Flat
theorem Zla {w w' : Nat} (a : BitVec w) : BitVec.ofInt w' (a.toNat : Int) = a.setWidth w' := by
 apply BitVec.eq_of_toNat_eq
 rw [BitVec.ofInt_natCast, BitVec.toNat_ofNat, BitVec.toNat_setWidth]
section
variable {P : Program} {src dst : TypeId} {k' : IntKind} {d : TypeDesc} {n : Int} (h1 : P.underlying src = some d)
include h1
theorem Znm {a : BitVec 8} (h2 : P.underlying dst = some (.int .u8)) (h : BitVec.ofInt 8 n = a) : Zj1 P src dst (.int k' n) = some (.int .u8 (a.toNat : Int)) := by rw [Zku h1 h2, Z5l, h]
theorem Z3i {a : BitVec 32} (h2 : P.underlying dst = some (.int .u32)) (h : BitVec.ofInt 32 n = a) : Zj1 P src dst (.int k' n) = some (.int .u32 (a.toNat : Int)) := by rw [Zku h1 h2, Z4l, h]
theorem Ztw {a : BitVec 64} (h2 : P.underlying dst = some (.int .u64)) (h : BitVec.ofInt 64 n = a) : Zj1 P src dst (.int k' n) = some (.int .u64 (a.toNat : Int)) := by rw [Zku h1 h2, Z0n, h]
theorem Z4u (h2 : P.underlying dst = some (.int .i64)) (g1 : -9223372036854775808 ≤ n) (g2 : n ≤ 9223372036854775807) : Zj1 P src dst (.int k' n) = some (.int .i64 n) := by rw [Zku h1 h2, wrap_i64 g1 g2]
end
section
variable {P : Program} {G : Glob} {nt : Nat} {ops l : List Oper} {K : Trace → St → Prop} {tr : Trace} {T : Nat → Value} {H H' : List Blk} {d : Tmp} {ty : TypeId} {ps : String} {af : Array Edge} {g : Option (Nat × Bool)}
variable {nid : Nat} (hg : gd nt T ops g = some true) (hd : Zbb nt (some d) = true)
include hg hd
theorem Zf9 {src dst : TypeId} {x : Operand} {v w : Value} (hx : St.eval ⟨T, H⟩ x = w) (h : Zj1 P src dst w = some v) (k : R P G nt ops K l (tr ++ [(⟨some d, .convert src dst x, ty, ps, af, g⟩, { val := v })]) (upd T d (v)) H) : R P G nt ops K (⟨some d, .convert src dst x, ty, ps, af, g⟩ :: l) tr T H := by
 subst hx; exact ⟨Zbf.val (Z3u (by rw [Zcq]; exact hg) hd rfl h) rfl k.h⟩
theorem Zv0 {t : TypeId} {x y : Operand} {v p i : Value} (hx : St.eval ⟨T, H⟩ x = p) (hy : St.eval ⟨T, H⟩ y = i) (h : Zl4 P t p i = some v) (k : R P G nt ops K l (tr ++ [(⟨some d, .index t x y, ty, ps, af, g⟩, { val := v })]) (upd T d (v)) H) : R P G nt ops K (⟨some d, .index t x y, ty, ps, af, g⟩ :: l) tr T H := by
 subst hx; subst hy; exact ⟨Zbf.val (Z1v (by rw [Zcq]; exact hg) hd rfl h) rfl k.h⟩
theorem Z17 {t : TypeId} {x : Operand} {f : Nat} {v p : Value} (hx : St.eval ⟨T, H⟩ x = p) (h : Zqq P t p f = some v) (k : R P G nt ops K l (tr ++ [(⟨some d, .field t x f, ty, ps, af, g⟩, { val := v })]) (upd T d (v)) H) : R P G nt ops K (⟨some d, .field t x f, ty, ps, af, g⟩ :: l) tr T H := by
 subst hx; exact ⟨Zbf.val (Z1u (by rw [Zcq]; exact hg) hd rfl h) rfl k.h⟩
theorem Zcz {t : TypeId} {qs : Array (Nat × Operand)} {v : Value} {vs : List (Nat × Value)} (hx : (qs.toList.map fun p => (p.1, St.eval ⟨T, H⟩ p.2)) = vs) (h : Zqj P t vs = some v) (k : R P G nt ops K l (tr ++ [(⟨some d, .build t qs, ty, ps, af, g⟩, { val := v })]) (upd T d (v)) H) : R P G nt ops K (⟨some d, .build t qs, ty, ps, af, g⟩ :: l) tr T H := by
 subst hx; exact ⟨Zbf.val (Z1s (by rw [Zcq]; exact hg) hd rfl h) rfl k.h⟩
theorem Zui {f : Fn} {xs ys : Array Operand} {v : Value} (h : Zpp ⟨T, H⟩ f xs ys = some v) (k : R P G nt ops K l (tr ++ [(⟨some d, .makeFunc f xs ys, ty, ps, af, g⟩, { val := v })]) (upd T d (v)) H) : R P G nt ops K (⟨some d, .makeFunc f xs ys, ty, ps, af, g⟩ :: l) tr T H := by
 exact ⟨Zbf.val (Zt3 (by rw [Zcq]; exact hg) hd rfl h) rfl k.h⟩
theorem Zft {x : Operand} {v p : Value} (hx : St.eval ⟨T, H⟩ x = p) (h : Zzo p = some v) (k : R P G nt ops K l (tr ++ [(⟨some d, .nilCheck x, ty, ps, af, g⟩, { val := v })]) (upd T d (v)) H) : R P G nt ops K (⟨some d, .nilCheck x, ty, ps, af, g⟩ :: l) tr T H := by
 subst hx; exact ⟨Zbf.val (Zt4 (by rw [Zcq]; exact hg) hd rfl h) rfl k.h⟩
theorem Zcu {t : TypeId} {x : Operand} {lo hi : Option Operand} {v p : Value} {vl vh : Option Value} (hx : St.eval ⟨T, H⟩ x = p) (hlo : lo.map (St.eval ⟨T, H⟩) = vl) (hhi : hi.map (St.eval ⟨T, H⟩) = vh) (h : Zg0 P H t p vl vh = some v) (k : R P G nt ops K l (tr ++ [(⟨some d, .slice t x lo hi none, ty, ps, af, g⟩, { val := v, foot := Zbu p })]) (upd T d (v)) H) : R P G nt ops K (⟨some d, .slice t x lo hi none, ty, ps, af, g⟩ :: l) tr T H := by
 subst hx; subst hlo; subst hhi; exact ⟨Zbf.valF (Z1w (by rw [Zcq]; exact hg) hd rfl h) rfl k.h⟩
theorem Zjd {src dst : TypeId} {x : Operand} {v p : Value} (hx : St.eval ⟨T, H⟩ x = p) (h : Zq9 P H src dst p = some v) (k : R P G nt ops K l (tr ++ [(⟨some d, .convert src dst x, ty, ps, af, g⟩, { val := v, foot := Zbu p })]) (upd T d (v)) H) : R P G nt ops K (⟨some d, .convert src dst x, ty, ps, af, g⟩ :: l) tr T H := by
 subst hx; exact ⟨Zbf.valF (Z43 (by rw [Zcq]; exact hg) hd rfl h) rfl k.h⟩
theorem Z4d {b : Builtin} {xs : Array Operand} {ts : Array TypeId} {v : Value} {vs : List Value} (hx : xs.toList.map (St.eval ⟨T, H⟩) = vs) (h : mmD P b ts ty vs = some v) (k : R P G nt ops K l (tr ++ [(⟨some d, .call { callee := .builtin b, args := xs, argTypes := ts }, ty, ps, af, g⟩, { val := v })]) (upd T d (v)) H) : R P G nt ops K (⟨some d, .call { callee := .builtin b, args := xs, argTypes := ts }, ty, ps, af, g⟩ :: l) tr T H := by
 subst hx; exact ⟨Zbf.val (Z52 (by rw [Zcq]; exact hg) hd rfl h) rfl k.h⟩
theorem Z4c {t : TypeId} {x y : Operand} {v i j : Value} {blk : Blk} (hx : St.eval ⟨T, H⟩ x = i) (hy : St.eval ⟨T, H⟩ y = j) (h : Zob P H t i j nid = some (v, blk)) (hH : Zer H nid blk = H') (k : R P G nt ops K l (tr ++ [(⟨some d, .makeSlice t x y, ty, ps, af, g⟩, { val := v, sets := [(nid, blk)], foot := [nid] })]) (upd T d (v)) H') : R P G nt ops K (⟨some d, .makeSlice t x y, ty, ps, af, g⟩ :: l) tr T H := by
 subst hx; subst hy; exact ⟨Zbf.new (Z3y (by rw [Zcq]; exact hg) hd rfl h) rfl hH k.h⟩
theorem Zen {t : TypeId} {n : Nat} {qs : Array (Nat × Operand)} {v : Value} {vs : List (Nat × Value)} {blk : Blk} (hx : (qs.toList.map fun p => (p.1, St.eval ⟨T, H⟩ p.2)) = vs) (h : Zzg P H t n vs nid = some (v, blk)) (hH : Zer H nid blk = H') (k : R P G nt ops K l (tr ++ [(⟨some d, .buildSlice t n qs, ty, ps, af, g⟩, { val := v, sets := [(nid, blk)], foot := [nid] })]) (upd T d (v)) H') : R P G nt ops K (⟨some d, .buildSlice t n qs, ty, ps, af, g⟩ :: l) tr T H := by
 subst hx; exact ⟨Zbf.new (Z42 (by rw [Zcq]; exact hg) hd rfl h) rfl hH k.h⟩
theorem Zog {t u : TypeId} {x y : Operand} {v p q : Value} {b : Nat} {blk : Blk} (hx : St.eval ⟨T, H⟩ x = p) (hy : St.eval ⟨T, H⟩ y = q) (h : Zrx P H t p q = some (v, b, blk)) (hH : Zer H b blk = H') (k : R P G nt ops K l (tr ++ [(⟨some d, .call { callee := .builtin .copy, args := #[x, y], argTypes := #[t, u] }, ty, ps, af, g⟩, { val := v, sets := [(b, blk)], foot := Zbu p ++ Zbu q })]) (upd T d (v)) H') : R P G nt ops K (⟨some d, .call { callee := .builtin .copy, args := #[x, y], argTypes := #[t, u] }, ty, ps, af, g⟩ :: l) tr T H := by
 subst hx; subst hy; exact ⟨Zbf.new (Z3v (by rw [Zcq]; exact hg) hd rfl h) rfl hH k.h⟩
theorem Z39 {t u : TypeId} {x y : Operand} {v p q : Value} {blk : Blk} {de : TypeDesc} (hu : P.underlying u = some de) (hdd : (∃ e2, de = .slice e2) ∨ de = .string) (hx : St.eval ⟨T, H⟩ x = p) (hy : St.eval ⟨T, H⟩ y = q) (h : Zx5 P H t p q nid = some (v, blk)) (hH : Zer H nid blk = H') (k : R P G nt ops K l (tr ++ [(⟨some d, .call { callee := .builtin .append, args := #[x, y], argTypes := #[t, u] }, ty, ps, af, g⟩, { val := v, sets := [(nid, blk)], foot := nid :: Zbu q })]) (upd T d (v)) H') : R P G nt ops K (⟨some d, .call { callee := .builtin .append, args := #[x, y], argTypes := #[t, u] }, ty, ps, af, g⟩ :: l) tr T H := by
 subst hx; subst hy; exact ⟨Zbf.new (Z3r (by rw [Zcq]; exact hg) hd rfl hu hdd h) rfl hH k.h⟩
theorem Zc4 {t u : TypeId} {x y : Operand} {v p q : Value} {b : Nat} {blk : Blk} {de : TypeDesc} {T' : Nat → Value} (hu : P.underlying u = some de) (hdd : (∃ e2, de = .slice e2) ∨ de = .string) (hx : St.eval ⟨T, H⟩ x = p) (hy : St.eval ⟨T, H⟩ y = q) (h : Znc P H t p q = some (v, b, blk))
    (hT : (fun i => killV (· != b) (T i)) = T') (hH : Zer (H.map (Zbv (· != b))) b blk = H') (k : R P G nt ops K l (tr ++ [(⟨some d, .call { callee := .builtin .append, args := #[x, y], argTypes := #[t, u] }, ty, ps, af, g⟩, { val := v, sets := [(b, blk)], kill := some b, foot := Zbu p ++ Zbu q })]) (upd T' d v) H') : R P G nt ops K (⟨some d, .call { callee := .builtin .append, args := #[x, y], argTypes := #[t, u] }, ty, ps, af, g⟩ :: l) tr T H := by
  subst hx; subst hy; subst hT; subst hH
  exact ⟨⟨_, Zy6 (by rw [Zcq]; exact hg) hd rfl hu hdd h, by simpa [Delta.apply, Zdt, St.put, St.kill] using k.h⟩⟩
end
section
variable {P : Program} {G : Glob} {nt : Nat} {ops l : List Oper} {K : Trace → St → Prop} {tr : Trace} {T : Nat → Value} {H H' : List Blk} {d : Tmp} {ty : TypeId} {ps : String} {af : Array Edge} {g : Option (Nat × Bool)}
def Zy3 (k : Option Nat) (H : List Blk) : List Blk := match k with | none => H | some b => H.map (Zbv (· != b))
theorem Zch {f : Operand} {args : Array Operand} {ts : Array TypeId} {k : FuncId} {first captured : Array Value} {argsL vals : List Value} {σ σ' : List Blk} {res v : Value} {e : Emb} {nid : Nat} (hC : Z4 P G k argsL σ res σ') (hg : gd nt T ops g = some true) (hd : Zbb nt (some d) = true) (hf : St.eval ⟨T, H⟩ f = .func (.func k) first captured) (hcap : (first.toList.all Zds && captured.toList.all Zds) = true) (hk : Zd2 P k = true)
    (ha : first.toList ++ args.toList.map (St.eval ⟨T, H⟩) ++ captured.toList = vals) (hok : CallOK H e argsL vals σ σ' nid) {T' : Nat → Value} (hv : Zoi (Zeh e nid (σ'.length - σ.length)) res = v)
    (hT : (fun i => match (Za7 e σ).head? with | none => T i | some b => killV (· != b) (T i)) = T') (hH : Zdt (Zy3 (Za7 e σ).head? H) (Zb0 (killX (Za7 e σ).head? e σ H) e σ σ' nid) = H')
    (kk : R P G nt ops K l (tr ++ [(⟨some d, .call { callee := .value f, args := args, argTypes := ts }, ty, ps, af, g⟩, Zhb H e σ res σ' nid)]) (upd T' d v) H') : R P G nt ops K (⟨some d, .call { callee := .value f, args := args, argTypes := ts }, ty, ps, af, g⟩ :: l) tr T H := by
  subst ha; subst hv; subst hT; subst hH
  simp only [Bool.and_eq_true] at hcap
  refine ⟨⟨_, Zy7 (by rw [Zcq]; exact hg) hd rfl hf hcap hk hC e nid hok, ?_⟩⟩
  have := kk.h
  unfold Zhb at this ⊢
  cases hm : (Za7 e σ).head? with
  | none => simpa [Delta.apply, St.put, hm, killX, Zy3] using this
  | some b => simpa [Delta.apply, St.put, hm, killX, Zy3, St.kill] using this
end
end Go.Flat
end
section
/- Rows by a function; states by a list; forgetting. -/
namespace Go.Flat

def Zag {α : Type} (enc : α → Value) (n : Nat) (w : Nat → α) : List Value := (List.range n).map fun k => enc (w k)
def Zg4 {α : Type} (w : Nat → α) (i : Nat) (x : α) : Nat → α := fun k => if k = i then x else w k
section
variable {α : Type} {enc : α → Value} {n : Nat} {w : Nat → α}
theorem Zcj : (Zag enc n w).length = n := by simp [Zag]
theorem Zc7 {i : Nat} (h : i < n) : (Zag enc n w)[i]? = some (enc (w i)) := by simp [Zag, h]
theorem Zz8 {w' : Nat → α} (h : ∀ i, i < n → w i = w' i) : Zag enc n w = Zag enc n w' := by
 unfold Zag
 exact List.map_congr_left fun i hi => by rw [h i (by simpa using hi)]
theorem Zs3 {i : Nat} (h : i < n) (x : α) : splice (Zag enc n w) i [enc x] = Zag enc n (Zg4 w i x) := by
 apply List.ext_getElem?
 intro j
 unfold splice
 have hl : ((Zag enc n w).take i).length = i := by simp [Zcj]; omega
 rcases Nat.lt_trichotomy j i with h1 | h1 | h1
 ·rw [List.getElem?_append_left (by simp [Zcj]; omega), List.getElem?_append_left (by omega), List.getElem?_take, if_pos h1, Zc7 (by omega), Zc7 (by omega)]
  simp [Zg4, Nat.ne_of_lt h1]
 ·subst h1
  rw [List.getElem?_append_left (by simp [Zcj]; omega), List.getElem?_append_right (by omega), hl, Zc7 h]
  simp [Zg4]
 ·rw [List.getElem?_append_right (by simp [Zcj]; omega)]
  rcases Nat.lt_or_ge j n with h2 | h2
  ·rw [Zc7 h2, List.getElem?_drop]
   have : i + [enc x].length + (j - (List.take i (Zag enc n w) ++ [enc x]).length) = j := by simp [Zcj]; omega
   rw [this, Zc7 h2]
   simp [Zg4, Nat.ne_of_gt h1]
  ·rw [List.getElem?_eq_none (by simp [Zcj]; omega), List.getElem?_eq_none (by rw [Zcj]; omega)]
theorem Zz7 {p : Value → Bool} (h : ∀ x, p (enc x) = true) : (Zag enc n w).all p = true := by
 simp [Zag, List.all_eq_true, h]
variable {P : Program} {G : Glob} {t : TypeId} {m : Nat} {H : List Blk} {b i : Nat} {blk : Blk}
theorem Zpx (hk : Zd4 P t = some (false, m)) (hb : H[b]? = some blk) (hc : blk.cells = Zag enc n w) (hi : i < n) (h1 : ∀ x, Zh1 (enc x) = true) : Zdq P G t H (.pointer (some ⟨b, i, none⟩)) = some (enc (w i)) := by
 unfold Zdq
 rw [hk]
 simp only [hb, Option.bind_some, rdA, hc, Zc7 hi, h1, if_true]
 rfl
theorem Zt6 {ag : Bool} {g o q : Nat} {cs : List Value} {v : Value} (hk : Zd4 P t = some (ag, m)) (hG : G g = some cs) (hr : rdA ag m cs o = some v) : Zdq P G t H (.pointer (some ⟨g, o, some q⟩)) = some v := by
 unfold Zdq
 rw [hk]
 simp only [hG, Option.bind_some, hr]
theorem Zg2 {x : α} {val : Value} (hk : Zd4 P t = some (false, 1)) (hb : H[b]? = some blk) (hw : blk.wr = true) (hc : blk.cells = Zag enc n w) (hv : enc x = val) (hi : i < n) (h1 : (enc x).cells = #[enc x]) (h2 : (if blk.pur then Za8 (enc x) else Ziu (enc x)) = true) :
  Zfi P t H (.pointer (some ⟨b, i, none⟩)) val = some (b, { blk with cells := Zag enc n (Zg4 w i x) }) := by
 subst hv
 unfold Zfi
 rw [hk]
 simp only [hb, Option.bind_some, hw, h1, hc]
 rw [if_pos]
 ·rw [Zs3 hi]
 ·simp only [Zdn, Bool.true_and, Bool.and_eq_true, decide_eq_true_eq, beq_iff_eq, Zcj]
  refine ⟨⟨rfl, ?_⟩, by omega⟩
  by_cases hp : blk.pur = true
  ·rw [if_pos hp] at h2 ⊢; simpa using h2
  ·rw [if_neg hp] at h2 ⊢; simpa using h2
theorem Zn9 {rest : List Value} (hk : Zd4 P t = some (false, m)) (hb : H[b]? = some blk) (hc : blk.cells = Zag enc n w ++ rest) (hi : i < n) (h1 : ∀ x, Zh1 (enc x) = true) : Zdq P G t H (.pointer (some ⟨b, i, none⟩)) = some (enc (w i)) := by
 unfold Zdq
 rw [hk]
 simp only [hb, Option.bind_some, rdA, hc]
 rw [List.getElem?_append_left (by rw [Zcj]; exact hi), Zc7 hi]
 simp [h1]
theorem Ztf {x : α} {val : Value} {rest : List Value} (hk : Zd4 P t = some (false, 1)) (hb : H[b]? = some blk) (hw : blk.wr = true) (hc : blk.cells = Zag enc n w ++ rest) (hv : enc x = val) (hi : i < n) (h1 : (enc x).cells = #[enc x]) (h2 : (if blk.pur then Za8 (enc x) else Ziu (enc x)) = true) :
  Zfi P t H (.pointer (some ⟨b, i, none⟩)) val = some (b, { blk with cells := Zag enc n (Zg4 w i x) ++ rest }) := by
 subst hv
 unfold Zfi
 rw [hk]
 simp only [hb, Option.bind_some, hw, h1, hc]
 rw [if_pos]
 ·rw [← Zs3 hi]
  unfold splice
  have e1 : i ≤ (Zag enc n w).length := by rw [Zcj]; omega
  have e2 : i + [enc x].length ≤ (Zag enc n w).length := by rw [Zcj]; simp; omega
  rw [List.take_append_of_le_length e1, List.drop_append_of_le_length e2]
  simp
 ·simp only [Zdn, Bool.true_and, Bool.and_eq_true, decide_eq_true_eq, beq_iff_eq, List.length_append, Zcj]
  refine ⟨⟨rfl, ?_⟩, by omega⟩
  by_cases hp : blk.pur = true
  ·rw [if_pos hp] at h2 ⊢; simpa using h2
  ·rw [if_neg hp] at h2 ⊢; simpa using h2
end


def Tl (l : List Value) : Nat → Value := fun i => (l[i]?).getD dead
def Zvv (n : Nat) (T : Nat → Value) : Nat → List Value → Prop
  | _, [] => True
  | i, v :: l => (v = dead ∨ (v = T i ∧ Zdr (fun b => decide (b < n)) (T i) = true)) ∧ Zvv n T (i + 1) l
theorem Zpt {n : Nat} {T : Nat → Value} : ∀ {l : List Value} {i : Nat}, Zvv n T i l → ∀ (j : Nat) (v : Value), l[j]? = some v → v = dead ∨ (v = T (i + j) ∧ Zdr (fun b => decide (b < n)) (T (i + j)) = true)
 | [], _, _, j, v, h => by simp at h
 | x :: l, i, hk, 0, v, h => by simp at h; subst h; exact hk.1
 | x :: l, i, hk, j + 1, v, h => by
  have := Zpt hk.2 j v (by simpa using h)
  rw [show i + (j + 1) = i + 1 + j by omega]; exact this
theorem Zww {n : Nat} {T : Nat → Value} {H H' : List Blk} {l : List Value} (h : Zvv n T 0 l) : Zy1 n ⟨T, H⟩ ⟨Tl l, H'⟩ := by
 intro i
 simp only [Tl]
 cases hl : l[i]? with
 | none => exact .inl rfl
 | some v =>
  have := Zpt h i v hl
  simpa using this
theorem Zah {G : Glob} {nt n0 n : Nat} {T : Nat → Value} {H H' : List Blk} {l : List Value} (hn : decide (n0 ≤ n) = true) (ht : Zvv n T 0 l) (hh : H.take n = H') (hb : (H'.all fun x => x.pur || x.cells.all (Zal fun b => decide (b < n))) = true) : Zbe G nt n0 ⟨T, H⟩ ⟨Tl l, H'⟩ := by
 refine Zbe.take n (by simpa using hn) (Zww ht) ?_ hb
 exact hh.symm

section
variable {P : Program} {G : Glob} {nt n0 : Nat} {Q : Exit → St → Prop} {ops : List Oper} {tr : Trace} {T : Nat → Value} {H : List Blk}
theorem Za (h : X Q .normal ⟨T, H⟩) : R P G nt ops (fun _ s => X Q .normal s) [] tr T H := Zq1 h
theorem Zef {n : Nat} (h1 : Zfw ops.toArray tr n = true) (h : X Q .normal ⟨T, H⟩) : R P G nt ops (fun tr s' => Zfw ops.toArray tr n = true ∧ X Q .normal s') [] tr T H := Zq1 ⟨h1, h⟩
theorem Zb2 {α : Type} {y : Code} (st : α → List Value) (hp : α → List Blk) (φ : α → Prop) (μ : α → Nat) (x0 : α) (h0 : φ x0) (hs : Zbe G nt n0 ⟨T, H⟩ ⟨Tl (st x0), hp x0⟩)
  (round : ∀ x, φ x → C P G nt n0 y (Zd7 (fun s1 => ∃ y, φ y ∧ μ y < μ x ∧ Zbe G nt n0 s1 ⟨Tl (st y), hp y⟩) Q) ⟨Tl (st x), hp x⟩) : C P G nt n0 (.loop y) Q ⟨T, H⟩ :=
 Z3g (fun x => ⟨Tl (st x), hp x⟩) φ μ x0 h0 hs round
theorem Za2 {next : St → Prop} {i : Nat} {s : St} (h : X Q (.exit i) s) : X (Zd7 next Q) (.exit i) s := Zv8 rfl h
theorem Zdu {next : St → Prop} {s : St} (h : X Q .ret s) : X (Zd7 next Q) .ret s := Zv8 rfl h
end
end Go.Flat
end
section
/- Places of rows and slices. -/
namespace Go.Flat
section
variable {P : Program} {G : Glob} {nt : Nat} {ops l : List Oper} {K : Trace → St → Prop} {tr : Trace} {T : Nat → Value} {H H' : List Blk} {d : Tmp} {ty : TypeId} {ps : String} {af : Array Edge} {g : Option (Nat × Bool)}
theorem Zdi {t : TypeId} {x y : Operand} {b o j n sz : Nat} {i : Int} {k : IntKind} {q : Option Nat} (hg : gd nt T ops g = some true) (hd : Zbb nt (some d) = true) (hx : St.eval ⟨T, H⟩ x = .pointer (some ⟨b, o, q⟩)) (hy : St.eval ⟨T, H⟩ y = .int k i) (he : Znr P t = some (some n, sz)) (h0 : 0 ≤ i) (h1 : i < n) (hj : o + i.toNat * sz = j)
  (kk : R P G nt ops K l (tr ++ [(⟨some d, .indexAddr t x y, ty, ps, af, g⟩, { val := .pointer (some ⟨b, j, q⟩) })]) (upd T d (.pointer (some ⟨b, j, q⟩))) H) : R P G nt ops K (⟨some d, .indexAddr t x y, ty, ps, af, g⟩ :: l) tr T H :=
 Z21 hg hd hx hy (by unfold Zwt; rw [he]; simp only; rw [if_pos ⟨h0, h1⟩, hj]) kk
theorem Zb1 {t : TypeId} {x y : Operand} {b o j m c sz : Nat} {i : Int} {k : IntKind} (hg : gd nt T ops g = some true) (hd : Zbb nt (some d) = true) (hx : St.eval ⟨T, H⟩ x = .slice (some ⟨b, o, none⟩) m c) (hy : St.eval ⟨T, H⟩ y = .int k i) (he : Znr P t = some (none, sz)) (h0 : 0 ≤ i) (h1 : i < m) (hj : o + i.toNat * sz = j)
  (kk : R P G nt ops K l (tr ++ [(⟨some d, .indexAddr t x y, ty, ps, af, g⟩, { val := .pointer (some ⟨b, j, none⟩) })]) (upd T d (.pointer (some ⟨b, j, none⟩))) H) : R P G nt ops K (⟨some d, .indexAddr t x y, ty, ps, af, g⟩ :: l) tr T H :=
 Z21 hg hd hx hy (by unfold Zwt; rw [he]; simp only; rw [if_pos ⟨h0, h1⟩, hj]) kk
theorem Zn0 {α : Type} {enc : α → Value} {w : Nat → α} {t : TypeId} {cs : Array Value} {n i : Nat} {m : Nat} {k : IntKind} {ix : Int} (he : Zyp P t = some (m, false, 1)) (hc : cs.toList = Zag enc n w) (hi : ix = (i : Int)) (hin : i < n) (him : i < m) (h1 : ∀ x, Zh1 (enc x) = true) : Zl4 P t (.agg cs) (.int k ix) = some (enc (w i)) := by
 subst hi
 unfold Zl4
 rw [he]
 simp only
 rw [if_pos ⟨by omega, by omega⟩, hc]
 simp only [rdA, Int.toNat_natCast, Nat.mul_one, Zc7 hin, Option.bind_some, h1, if_true]
 rfl
end
theorem Z2z {P : Program} {t : TypeId} {u v : Operand} {x y : Int} (h0 : 0 ≤ x) (h1 : 0 < y) (hm : x ≤ 9223372036854775807) : Zb9 P .quo t u v (.int .i64 x) (.int .i64 y) = some (.int .i64 (x / y)) := Z46 h0 h1 (by show x ≤ (9223372036854775807 : Int); exact hm)
abbrev w32 (x : BitVec 32) : Value := .int .u32 (x.toNat : Int)
abbrev w64 (x : BitVec 64) : Value := .int .u64 (x.toNat : Int)
abbrev w8 (x : BitVec 8) : Value := .int .u8 (x.toNat : Int)
end Go.Flat
end
section
namespace Go.Flat
variable {P : Program} {G : Glob} {nt : Nat} {ops l : List Oper} {K : Trace → St → Prop} {tr : Trace} {T : Nat → Value} {H H' : List Blk} {d : Tmp} {ty : TypeId} {ps : String} {af : Array Edge} {g : Option (Nat × Bool)} {nid : Nat}
theorem Zd {x : Operand}  (v : Value) (k : R P G nt ops K l (tr ++ [(⟨some d, .move x, ty, ps, af, g⟩, { val := v })]) (upd T d v) H) (hg : gd nt T ops g = some true := by exact rfl) (hd : Zbb nt (some d) = true := by exact rfl) (h : St.eval ⟨T, H⟩ x = v := by exact rfl) : R P G nt ops K (⟨some d, .move x, ty, ps, af, g⟩ :: l) tr T H := Zci hg hd v h k
theorem Zc {x : Operand}  (v : Value) (k : R P G nt ops K l (tr ++ [(⟨some d, .assign x, ty, ps, af, g⟩, { val := v })]) (upd T d v) H) (hg : gd nt T ops g = some true := by exact rfl) (hd : Zbb nt (some d) = true := by exact rfl) (h : St.eval ⟨T, H⟩ x = v := by exact rfl) : R P G nt ops K (⟨some d, .assign x, ty, ps, af, g⟩ :: l) tr T H := Zc5 hg hd v h k
theorem Zj {c x y : Operand}  (v : Value) (k : R P G nt ops K l (tr ++ [(⟨some d, .pick c x y, ty, ps, af, g⟩, { val := v })]) (upd T d v) H) (hg : gd nt T ops g = some true := by exact rfl) (hd : Zbb nt (some d) = true := by exact rfl) (h : Zp1 ⟨T, H⟩ c x y = some v := by exact rfl) : R P G nt ops K (⟨some d, .pick c x y, ty, ps, af, g⟩ :: l) tr T H := Zq2 hg hd v h k
theorem Zf {op : Op} (k : R P G nt ops K l (tr ++ [(⟨some d, op, ty, ps, af, g⟩, { val := undef })]) (upd T d undef) H) (hg : gd nt T ops g = some false := by exact rfl) (hd : Zbb nt (some d) = true := by exact rfl) : R P G nt ops K (⟨some d, op, ty, ps, af, g⟩ :: l) tr T H := Zoh hg hd k
theorem Zi {t : TypeId} {x : Operand} {f n b o o' : Nat} {q : Option Nat} (k : R P G nt ops K l (tr ++ [(⟨some d, .fieldAddr t x f, ty, ps, af, g⟩, { val := .pointer (some ⟨b, o', q⟩) })]) (upd T d (.pointer (some ⟨b, o', q⟩))) H) (hg : gd nt T ops g = some true := by exact rfl) (hd : Zbb nt (some d) = true := by exact rfl) (hx : St.eval ⟨T, H⟩ x = .pointer (some ⟨b, o, q⟩) := by exact rfl) (hn : Z12 P t f = some n := by exact rfl) (ho : o + n = o' := by exact rfl) : R P G nt ops K (⟨some d, .fieldAddr t x f, ty, ps, af, g⟩ :: l) tr T H := Zbk hg hd hx hn ho k
theorem Zm {t : TypeId} {x : Operand} {v p : Value} (k : R P G nt ops K l (tr ++ [(⟨some d, .load t x, ty, ps, af, g⟩, { val := v, foot := Zbu p })]) (upd T d v) H) (hg : gd nt T ops g = some true := by exact rfl) (hd : Zbb nt (some d) = true := by exact rfl) (hx : St.eval ⟨T, H⟩ x = p := by exact rfl) (h : Zdq P G t H p = some v := by kernel_rfl) : R P G nt ops K (⟨some d, .load t x, ty, ps, af, g⟩ :: l) tr T H := Zaj hg hd hx h k
theorem Zaa {t : TypeId} {x y : Operand} {p v : Value} {b : Nat} {blk : Blk} (k : R P G nt ops K l (tr ++ [(⟨none, .store t x y, ty, ps, af, g⟩, { val := undef, sets := [(b, blk)], foot := Zbu p })]) T H') (hg : gd nt T ops g = some true := by exact rfl) (hx : St.eval ⟨T, H⟩ x = p := by exact rfl) (hy : St.eval ⟨T, H⟩ y = v := by exact rfl) (h : Zfi P t H p v = some (b, blk) := by kernel_rfl) (hH : Zer H b blk = H' := by kernel_rfl) : R P G nt ops K (⟨none, .store t x y, ty, ps, af, g⟩ :: l) tr T H := Zcv hg hx hy h hH k
theorem Z1 {x : Operand} {i : Nat} {vs : Array Value} {v : Value} (k : R P G nt ops K l (tr ++ [(⟨some d, .extract x i, ty, ps, af, g⟩, { val := v })]) (upd T d v) H) (hg : gd nt T ops g = some true := by exact rfl) (hd : Zbb nt (some d) = true := by exact rfl) (hx : St.eval ⟨T, H⟩ x = .tuple vs := by exact rfl) (h : Zys (.tuple vs) i = some v := by exact rfl) : R P G nt ops K (⟨some d, .extract x i, ty, ps, af, g⟩ :: l) tr T H := Zxh hg hd hx h k
theorem Zaw {t : TypeId} {b : Blk} (k : R P G nt ops K l (tr ++ [(⟨some d, .alloc t, ty, ps, af, g⟩, { val := Zek nid, sets := [(nid, b)], foot := [nid] })]) (upd T d (.pointer (some ⟨nid, 0, none⟩))) H') (hg : gd nt T ops g = some true := by exact rfl) (hd : Zbb nt (some d) = true := by exact rfl) (h : Zlw P H t nid = some b := by kernel_rfl) (hH : Zer H nid b = H' := by kernel_rfl) : R P G nt ops K (⟨some d, .alloc t, ty, ps, af, g⟩ :: l) tr T H := Zes hg hd h hH k
theorem Zbs {t : TypeId} {x : Operand} {v : Value} {b : Blk} (k : R P G nt ops K l (tr ++ [(⟨some d, .box t x, ty, ps, af, g⟩, { val := Zek nid, sets := [(nid, b)], foot := [nid] })]) (upd T d (.pointer (some ⟨nid, 0, none⟩))) H') (hg : gd nt T ops g = some true := by exact rfl) (hd : Zbb nt (some d) = true := by exact rfl) (hx : St.eval ⟨T, H⟩ x = v := by exact rfl) (h : Znh H v nid = some b := by kernel_rfl) (hH : Zer H nid b = H' := by kernel_rfl) : R P G nt ops K (⟨some d, .box t x, ty, ps, af, g⟩ :: l) tr T H := Zz1 hg hd hx h hH k
theorem Zeo {x : Operand} {v p : Value} (k : R P G nt ops K l (tr ++ [(⟨some d, .nilCheck x, ty, ps, af, g⟩, { val := v })]) (upd T d (v)) H) (hg : gd nt T ops g = some true := by exact rfl) (hd : Zbb nt (some d) = true := by exact rfl) (hx : St.eval ⟨T, H⟩ x = p := by exact rfl) (h : Zzo p = some v := by exact rfl) : R P G nt ops K (⟨some d, .nilCheck x, ty, ps, af, g⟩ :: l) tr T H := Zft hg hd hx h k
theorem Zba {t : TypeId} {x : Operand} {p v : Value} (k : R P G nt ops K l (tr ++ [(⟨some d, .call { callee := .builtin .len, args := #[x], argTypes := #[t] }, ty, ps, af, g⟩, { val := v })]) (upd T d v) H) (hg : gd nt T ops g = some true := by exact rfl) (hd : Zbb nt (some d) = true := by exact rfl) (hx : St.eval ⟨T, H⟩ x = p := by exact rfl) (h : Zzf P t p = some v := by exact rfl) : R P G nt ops K (⟨some d, .call { callee := .builtin .len, args := #[x], argTypes := #[t] }, ty, ps, af, g⟩ :: l) tr T H := Zis hg hd hx h k
end Go.Flat
end
