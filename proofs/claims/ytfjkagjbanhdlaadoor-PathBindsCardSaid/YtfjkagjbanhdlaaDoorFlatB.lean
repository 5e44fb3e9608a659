/- Walks. -/
import Derived.Test.YtfjkagjbanhdlaaDoorFlatA
import Derived.KernelRfl
set_option linter.unusedVariables false
set_option linter.unusedSimpArgs false
set_option linter.unusedSectionVars false
section
/- Calls: a contract over a small heap, used in a greater one. -/
namespace Go.Flat

def Zae (P : Program) (G : Glob) (f : FuncId) (args : List Value) (σ : List Blk) (res : Value) (σ' : List Blk) : Prop :=
  ∀ m w args', HRel G m σ w → L2 (VR m) args args' →
    Calls P f args'.toArray w fun e w' => ∃ v' m', e = .returned v' ∧ HRel G m' σ' w' ∧ VR m' res v' ∧ Frame ⟨m, w, []⟩ m' w'


abbrev Emb := List (Option (Nat × Nat))

def Zdj (e : Emb) : Value → Value
  | .pointer (some ⟨b, o, none⟩) => match (e[b]?).bind id with | some (i, sh) => .pointer (some ⟨i, sh + o, none⟩) | none => dead
  | .slice (some ⟨b, o, _⟩) n c => match (e[b]?).bind id with | some (i, sh) => .slice (some ⟨i, sh + o, none⟩) n c | none => dead
  | v => v
def Zgq (e : Emb) : Value → Value
  | .func f xs ys => .func f (xs.map (Zdj e)) (ys.map (Zdj e))
  | v => Zdj e v
def Z4e (e : Emb) : Value → Value
  | .agg cs => .agg (cs.map (Zgq e))
  | v => Zgq e v
def Zp3 (e : Emb) (v : Value) : Value := if Zbm v then v else Z4e e v
def Zsc (e : Emb) (v : Value) : Value := match v with | .tuple vs => .tuple (vs.map (Zp3 e)) | v => Zp3 e v
def Zcp (e : Emb) (L : Blk) : List Value := if L.pur then L.cells else L.cells.map (Zgq e)

def Zcz (r : Reg) (sh : Nat) (L : Blk) : Reg := if L.wr then { r with mv := L.mv } else ⟨r.g, r.lo + sh, r.hi, L.cells.length, L.sz, false, L.fix, L.mv⟩
def Zfb (L : Blk) : Reg := ⟨0, 0, 0, 0, L.sz, L.wr, L.fix, L.mv⟩
def mE (mc : MapM) (e : Emb) (σ : List Blk) : MapM := fun i =>
  match e[i]?, σ[i]? with
  | some (some (id, sh)), some L => (mc id).map fun r => Zcz r sh L
  | some none, some L => some (Zfb L)
  | _, _ => none

def Zr5 (H : List Blk) (e : Emb) (p : Option (Nat × Nat)) (L : Blk) : Prop :=
  match p with
  | none => L.wr = false ∧ L.cells = [] ∧ 0 < L.sz
  | some (id, sh) => ∃ B, H[id]? = some B ∧ (0 < L.sz ∧ 0 < B.sz) ∧ L.fix = B.fix ∧ (L.fix = false → L.sz = B.sz) ∧ (L.pur = true → B.pur = true) ∧ sh + L.cells.length ≤ B.cells.length ∧
      (L.wr = true → B.wr = true ∧ sh = 0 ∧ L.sz = B.sz ∧ (L.mv = true → B.mv = true) ∧ L.pur = B.pur ∧ L.cells.length = B.cells.length) ∧
      (B.cells.drop sh).take L.cells.length = Zcp e L
structure EmbOK (H : List Blk) (e : Emb) (σ : List Blk) : Prop where
  len : e.length = σ.length
  one : ∀ (i : Nat) (p : Option (Nat × Nat)) (L : Blk), e[i]? = some p → σ[i]? = some L → Zr5 H e p L
  dist : ∀ (i j : Nat) (id sh sh' : Nat) (L : Blk), i ≠ j → e[i]? = some (some (id, sh)) → σ[i]? = some L → L.wr = true → e[j]? ≠ some (some (id, sh'))

theorem Zkp {mc : MapM} {e : Emb} {σ : List Blk} {i id sh : Nat} {L : Blk} (h1 : e[i]? = some (some (id, sh))) (h2 : σ[i]? = some L) : mE mc e σ i = (mc id).map fun r => Zcz r sh L := by simp [mE, h1, h2]

theorem Zgb {mc : MapM} {H : List Blk} {e : Emb} {σ : List Blk} (hE : EmbOK H e σ) {i : Nat} {r : Reg} (h : mE mc e σ i = some r) :
  (∃ id sh L r0 B, e[i]? = some (some (id, sh)) ∧ σ[i]? = some L ∧ mc id = some r0 ∧ r = Zcz r0 sh L ∧ H[id]? = some B ∧ (0 < L.sz ∧ 0 < B.sz) ∧ L.fix = B.fix ∧ (L.fix = false → L.sz = B.sz) ∧ (L.pur = true → B.pur = true) ∧ sh + L.cells.length ≤ B.cells.length ∧
   (L.wr = true → B.wr = true ∧ sh = 0 ∧ L.sz = B.sz ∧ (L.mv = true → B.mv = true) ∧ L.pur = B.pur ∧ L.cells.length = B.cells.length) ∧ (B.cells.drop sh).take L.cells.length = Zcp e L) ∨
  (∃ L, e[i]? = some none ∧ σ[i]? = some L ∧ r = Zfb L ∧ L.wr = false ∧ L.cells = [] ∧ 0 < L.sz) := by
 unfold mE at h
 split at h
 ·rename_i id sh L h1 h2
  cases hm : mc id with
  | none => simp [hm] at h
  | some r0 =>
   simp only [hm, Option.map_some] at h
   injection h with h
   obtain ⟨B, hB, rest⟩ := hE.one i _ L h1 h2
   exact .inl ⟨id, sh, L, r0, B, h1, h2, hm, h.symm, hB, rest⟩
 ·rename_i L h1 h2
  injection h with h
  exact .inr ⟨L, h1, h2, h.symm, hE.one i _ L h1 h2⟩
 ·cases h

def inE (e : Emb) (b : Nat) : Bool := match e[b]? with | some (some _) => true | _ => false
theorem Zua {e : Emb} {b : Nat} (h : inE e b = true) : ∃ i sh, e[b]? = some (some (i, sh)) := by
 unfold inE at h
 split at h
 ·rename_i p hp; obtain ⟨i, sh⟩ := p; exact ⟨i, sh, hp⟩
 ·cases h
theorem Zpc {mc : MapM} {H : List Blk} {G : Glob} {w : World} {e : Emb} {σ : List Blk} (hH : HRel G mc H w) (hE : EmbOK H e σ) {v v' : Value} (h : CR0 mc (Zdj e v) v') (hok : Zed (inE e) v = true) : CR0 (mE mc e σ) v v' := by
 cases v
 case pointer a =>
  rcases a with _ | ⟨b, o, _ | q⟩
  ·exact h
  ·obtain ⟨id, sh, he⟩ := Zua (e := e) (b := b) hok
   simp only [Zdj, he, Option.bind_some, _root_.id] at h
   obtain ⟨r, hr, rfl⟩ : ∃ r, mc id = some r ∧ v' = .pointer (some ⟨r.g, r.lo + (sh + o), none⟩) := h
   have hb : b < σ.length := by rw [← hE.len]; exact (List.getElem?_eq_some_iff.1 he).1
   obtain ⟨B, hB, _, _, _, _, _, hw, _⟩ := hE.one b _ σ[b] he (by simp [hb])
   refine ⟨Zcz r sh σ[b], by rw [Zkp he (by simp [hb] : σ[b]? = some σ[b]), hr]; rfl, ?_⟩
   unfold Zcz
   split
   ·rename_i hwr
    have := (hw hwr).2.1
    subst this; simp
   ·simp [Nat.add_assoc]
  ·exact h
 case slice a n c =>
  rcases a with _ | ⟨b, o, q⟩
  ·exact h
  ·obtain ⟨id, sh, he⟩ := Zua (e := e) (b := b) hok
   simp only [Zdj, he, Option.bind_some, _root_.id] at h
   obtain ⟨r, a', c', hr, rfl, hs⟩ : ∃ r a' c', mc id = some r ∧ v' = .slice a' n c' ∧ Zm6 r (sh + o) n c a' c' := h
   have hb : b < σ.length := by rw [← hE.len]; exact (List.getElem?_eq_some_iff.1 he).1
   obtain ⟨B, hB, hsz, hfx, hfs, _, _, hw, _⟩ := hE.one b _ σ[b] he (by simp [hb])
   obtain ⟨_, hrw, hrf, hrl, hrs, hrm⟩ := hH.at_ hB hr
   refine ⟨Zcz r sh σ[b], a', c', by rw [Zkp he (by simp [hb] : σ[b]? = some σ[b]), hr]; rfl, rfl, hs.1, hs.2.1, fun h0 => ?_⟩
   obtain ⟨h1, h2⟩ := hs.2.2 h0
   unfold Zcz
   split
   ·rename_i hwr
    have := (hw hwr).2.1
    subst this
    exact ⟨by rw [h1]; simp, fun hf => by have := h2 hf; simpa using this⟩
   ·refine ⟨by rw [h1, Nat.add_assoc], fun hf => ?_⟩
    simp only at hf ⊢
    have := h2 (by rw [hrf, ← hfx]; exact hf)
    rw [hfs hf, ← hrs]; omega
 all_goals exact h

theorem Zkd {e : Emb} {v : Value} (h : Zvu v = false) : Zgq e v = Zdj e v := by cases v <;> first | rfl | cases h
theorem Zng {e : Emb} {v : Value} (h : Zvu v = false) : Zvu (Zdj e v) = false := by
  cases v
  case pointer a => rcases a with _ | ⟨b, o, _ | q⟩ <;> simp only [Zdj] <;> first | rfl | (split <;> rfl)
  case slice a n c => rcases a with _ | ⟨b, o, q⟩ <;> simp only [Zdj] <;> first | rfl | (split <;> rfl)
  case func => cases h
  all_goals rfl

theorem Zsg {mc : MapM} {H : List Blk} {G : Glob} {w : World} {e : Emb} {σ : List Blk} (hH : HRel G mc H w) (hE : EmbOK H e σ) {v v' : Value} (h : CR mc (Zgq e v) v') (hok : Zbw (inE e) v = true) : CR (mE mc e σ) v v' := by
 revert h hok
 refine Ze2 (P := fun v => CR mc (Zgq e v) v' → Zbw (inE e) v = true → CR (mE mc e σ) v v') ?_ ?_ v
 ·intro v hf h hok
  rw [Zkd hf, Zj2 (Zng hf)] at h
  rw [Zj2 hf]
  rw [Zip hf] at hok
  exact Zpc hH hE h hok
 ·intro f xs ys h hok
  obtain ⟨xs', ys', rfl, h1, h2⟩ := h
  simp only [Zbw, Bool.and_eq_true, List.all_eq_true] at hok
  simp only [Array.toList_map] at h1 h2
  exact ⟨xs', ys', rfl, h1.of_map_left fun x hx y hxy => Zpc hH hE hxy (hok.1 x hx), h2.of_map_left fun x hx y hxy => Zpc hH hE hxy (hok.2 x hx)⟩

def Zv9 (e : Emb) (vL vC : Value) : Prop :=
  match vL with
  | .slice (some ⟨b, o, none⟩) n c => match e[b]? with
    | some (some (i, sh)) => (match vC with | .slice (some ⟨i2, o2, none⟩) n2 c2 => i2 = i ∧ o2 = sh + o ∧ n2 = n ∧ c ≤ c2 ∧ n ≤ c | _ => False)
    | some none => vC = .slice none 0 0 ∧ o = 0 ∧ n = 0 ∧ c = 0
    | none => False
  | vL => vC = Zgq e vL ∧ Zbw (inE e) vL = true
def Znx (e : Emb) : List Value → List Value → Prop
  | [], [] => True
  | x :: xs, y :: ys => Zv9 e x y ∧ Znx e xs ys
  | _, _ => False
def Zj4 (e : Emb) (vL vC : Value) : Prop :=
  if Zbm vL then vC = vL else match vL with
  | .agg cs => (match vC with | .agg ds => Znx e cs.toList ds.toList | _ => False)
  | .tuple _ => False
  | v => Zv9 e v vC
def Zk1 (e : Emb) : List Value → List Value → Prop
  | [], [] => True
  | x :: xs, y :: ys => Zj4 e x y ∧ Zk1 e xs ys
  | _, _ => False

theorem Zz2 {mc : MapM} {H : List Blk} {G : Glob} {w : World} {e : Emb} {σ : List Blk} (hH : HRel G mc H w) (hE : EmbOK H e σ) {vL vC v' : Value} (ha : Zv9 e vL vC) (h : CR mc vC v') : CR (mE mc e σ) vL v' := by
 unfold Zv9 at ha
 split at ha
 ·rename_i b o n c
  split at ha
  ·rename_i i sh he
   split at ha
   ·rename_i i2 o2 n2 c2
    obtain ⟨rfl, rfl, rfl, hc, hn⟩ := ha
    obtain ⟨r, a', c', hr, rfl, hs⟩ : ∃ r a' c', mc i2 = some r ∧ v' = .slice a' n2 c' ∧ Zm6 r (sh + o) n2 c2 a' c' := h
    have h2 : CR mc (Zgq e (.slice (some ⟨b, o, none⟩) n2 c)) (.slice a' n2 c') := by
     rw [Zkd rfl, Zj2 (Zng rfl)]
     simp only [Zdj, he, Option.bind_some, id]
     exact ⟨r, a', c', hr, rfl, hn, Nat.le_trans hc hs.2.1, hs.2.2⟩
    exact Zsg hH hE h2 (by show inE e b = true; simp [inE, he])
   ·cases ha
  ·rename_i he
   obtain ⟨rfl, rfl, rfl, rfl⟩ := ha
   have hv : v' = .slice none 0 0 := h
   subst hv
   have hb : b < σ.length := by rw [← hE.len]; exact (List.getElem?_eq_some_iff.1 he).1
   refine ⟨Zfb σ[b], none, 0, by simp [mE, he, hb], rfl, Nat.le_refl _, Nat.le_refl _, fun h => by omega⟩
  ·cases ha
 ·obtain ⟨rfl, hok⟩ := ha
  exact Zsg hH hE h hok

theorem Zxf {mc : MapM} {H : List Blk} {G : Glob} {w : World} {e : Emb} {σ : List Blk} (hH : HRel G mc H w) (hE : EmbOK H e σ) : ∀ (xs ys zs : List Value), Znx e xs ys → L2 (CR mc) ys zs → L2 (CR (mE mc e σ)) xs zs
 | [], [], zs, _, h => by have := h.nil_inv; subst this; exact L2.nil
 | x :: xs, y :: ys, zs, ha, h => by
  obtain ⟨z, zs', rfl, h1, h2⟩ := h.inv
  exact L2.cons (Zz2 hH hE ha.1 h1) (Zxf hH hE xs ys zs' ha.2 h2)
 | [], _ :: _, _, ha, _ => ha.elim
 | _ :: _, [], _, ha, _ => ha.elim

theorem Zxc {e : Emb} {v : Value} (h : Zh3 v = false) : Z4e e v = Zgq e v := by cases v <;> first | rfl | cases h
theorem Zko (e : Emb) (v : Value) : Zh3 (Zgq e v) = Zh3 v ∧ Zh0 (Zgq e v) = Zh0 v := by
 cases v
 case pointer a =>
  rcases a with _ | ⟨b, o, _ | q⟩
  ·exact ⟨rfl, rfl⟩
  ·simp only [Zgq, Zdj]
   cases (e[b]?).bind id <;> exact ⟨rfl, rfl⟩
  ·exact ⟨rfl, rfl⟩
 case slice a n c =>
  rcases a with _ | ⟨b, o, q⟩
  ·exact ⟨rfl, rfl⟩
  ·simp only [Zgq, Zdj]
   cases (e[b]?).bind id <;> exact ⟨rfl, rfl⟩
 all_goals exact ⟨rfl, rfl⟩
theorem Zrc {e : Emb} {vL vC : Value} (ha : Zv9 e vL vC) (h : Zh3 vL = false) (h' : Zh0 vL = false) : Zh3 vC = false ∧ Zh0 vC = false := by
 unfold Zv9 at ha
 split at ha
 ·split at ha
  ·split at ha
   ·exact ⟨rfl, rfl⟩
   ·cases ha
  ·obtain ⟨rfl, _⟩ := ha; exact ⟨rfl, rfl⟩
  ·cases ha
 ·obtain ⟨rfl, hok⟩ := ha
  exact ⟨by rw [(Zko e vL).1, h], by rw [(Zko e vL).2, h']⟩

theorem Zvx {mc : MapM} {H : List Blk} {G : Glob} {w : World} {e : Emb} {σ : List Blk} (hH : HRel G mc H w) (hE : EmbOK H e σ) {vL vC v' : Value} (ha : Zj4 e vL vC) (h : VR mc vC v') : VR (mE mc e σ) vL v' := by
 unfold Zj4 at ha
 split at ha
 ·rename_i hp
  subst ha
  have := h.pure hp
  subst this
  exact VR.of_pure hp
 ·split at ha
  ·rename_i cs
   split at ha
   ·rename_i ds
    obtain ⟨ds', rfl, h1⟩ := h
    exact ⟨ds', rfl, Zxf hH hE _ _ _ ha h1⟩
   ·cases ha
  ·cases ha
  ·rename_i hna hnt
   have h1 : Zh3 vL = false := by cases vL <;> first | rfl | exact absurd rfl (hna _)
   have h2 : Zh0 vL = false := by cases vL <;> first | rfl | exact absurd rfl (hnt _)
   obtain ⟨h3, h4⟩ := Zrc ha h1 h2
   rw [Zf0 h2, Zh6 h1]
   rw [Zf0 h4, Zh6 h3] at h
   exact Zz2 hH hE ha h
theorem Zsu {mc : MapM} {H : List Blk} {G : Glob} {w : World} {e : Emb} {σ : List Blk} (hH : HRel G mc H w) (hE : EmbOK H e σ) : ∀ (xs ys zs : List Value), Zk1 e xs ys → L2 (VR mc) ys zs → L2 (VR (mE mc e σ)) xs zs
 | [], [], zs, _, h => by have := h.nil_inv; subst this; exact L2.nil
 | x :: xs, y :: ys, zs, ha, h => by
  obtain ⟨z, zs', rfl, h1, h2⟩ := h.inv
  exact L2.cons (Zvx hH hE ha.1 h1) (Zsu hH hE xs ys zs' ha.2 h2)
 | [], _ :: _, _, ha, _ => ha.elim
 | _ :: _, [], _, ha, _ => ha.elim

theorem HRel.embed {mc : MapM} {H : List Blk} {G : Glob} {w : World} {e : Emb} {σ : List Blk} (hH : HRel G mc H w) (hE : EmbOK H e σ)
    (hnm : ∀ (i : Nat) (L : Blk), σ[i]? = some L → L.pur = true ∨ ∀ v, v ∈ L.cells → Zbw (inE e) v = true) : HRel G (mE mc e σ) σ w := by
  refine ⟨?_, ?_, ?_, ?_, ?_, ?_, ?_, ?_⟩
  · intro i r hr
    rcases Zgb hE hr with ⟨id, sh, L, r0, B, h1, h2, h3, rfl, hB, hsz, hfx, hfs, hpu, hle, hw, hc⟩ | ⟨L, h1, h2, rfl, hw, hce, hsz⟩
    · obtain ⟨_, hrw, hrf, hrl, hrs, hrm⟩ := hH.at_ hB h3
      refine ⟨L, h2, hsz.1, ?_⟩
      unfold Zcz
      by_cases hwr : L.wr = true
      · obtain ⟨g1, g2, g3, g4, g5, g6⟩ := hw hwr
        rw [if_pos hwr]
        exact ⟨by rw [hwr]; simp only; rw [hrw, g1], by simp only; rw [hrf, hfx], by simp only; rw [hrl, g6], by simp only; rw [hrs, g3], rfl⟩
      · rw [if_neg hwr]
        exact ⟨by simpa using hwr, rfl, rfl, rfl, rfl⟩
    · exact ⟨L, h2, hsz, rfl, rfl, by rw [hce]; rfl, rfl, rfl⟩
  · intro i L hL hsz
    have hi : i < σ.length := (List.getElem?_eq_some_iff.1 hL).1
    obtain ⟨p, hp'⟩ : ∃ p, e[i]? = some p := ⟨e[i]'(by rw [hE.len]; exact hi), by simp [hE.len, hi]⟩
    cases p with
    | none => exact ⟨Zfb L, by simp [mE, hp', hL]⟩
    | some p =>
      obtain ⟨id, sh⟩ := p
      obtain ⟨B, hB, hsz2, _⟩ := hE.one i _ L hp' hL
      obtain ⟨r, hr⟩ := hH.live id B hB hsz2.2
      exact ⟨Zcz r sh L, by rw [Zkp hp' hL, hr]; rfl⟩
  · intro i L r j v hL hr hv
    rcases Zgb hE hr with ⟨id, sh, L', r0, B, h1, h2, h3, rfl, hB, hsz, hfx, hfs, hpu, hle, hw, hc⟩ | ⟨L', h1, h2, rfl, hw, hce, hsz⟩
    · rw [hL] at h2; injection h2 with h2; subst h2
      have hj : j < L.cells.length := (List.getElem?_eq_some_iff.1 hv).1
      have hcj : B.cells[sh + j]? = (Zcp e L)[j]? := by
        rw [← hc, List.getElem?_take, if_pos hj, List.getElem?_drop]
      have haddr : (⟨(Zcz r0 sh L).g, (Zcz r0 sh L).lo + j, none⟩ : Addr) = ⟨r0.g, r0.lo + (sh + j), none⟩ := by
        unfold Zcz
        split
        · rename_i hwr; have := (hw hwr).2.1; subst this; simp
        · simp [Nat.add_assoc]
      rw [haddr]
      unfold Zcp at hcj
      by_cases hp : L.pur = true
      · rw [if_pos hp, hv] at hcj
        obtain ⟨v', g1, g2⟩ := hH.cell id B r0 _ v hB h3 hcj
        have hpv := hH.pur id B hB (hpu hp) v (List.mem_of_getElem? hcj)
        refine ⟨v', g1, ?_⟩
        rw [g2.pure hpv]; exact CR.of_pure hpv
      · rw [if_neg hp, List.getElem?_map, hv, Option.map_some] at hcj
        obtain ⟨v', g1, g2⟩ := hH.cell id B r0 _ _ hB h3 hcj
        refine ⟨v', g1, Zsg hH hE g2 ?_⟩
        rcases hnm i L hL with h | h
        · exact absurd h hp
        · exact h v (List.mem_of_getElem? hv)
    · rw [hL] at h2; injection h2 with h2; subst h2
      rw [hce] at hv; simp at hv
  · intro i L hL hp v hv
    have hi : i < σ.length := (List.getElem?_eq_some_iff.1 hL).1
    obtain ⟨p, hp'⟩ : ∃ p, e[i]? = some p := ⟨e[i]'(by rw [hE.len]; exact hi), by simp [hE.len, hi]⟩
    have h1 := hE.one i p L hp' hL
    cases p with
    | none => have := h1.2.1; rw [this] at hv; cases hv
    | some p =>
      obtain ⟨id, sh⟩ := p
      obtain ⟨B, hB, hsz, hfx, hfs, hpu, hle, hw, hc⟩ := h1
      unfold Zcp at hc
      rw [if_pos hp] at hc
      rw [← hc] at hv
      exact hH.pur id B hB (hpu hp) v (List.mem_of_mem_drop (List.mem_of_mem_take hv))
  · intro i r hr hwr
    rcases Zgb hE hr with ⟨id, sh, L, r0, B, h1, h2, h3, rfl, hB, hsz, hfx, hfs, hpu, hle, hw, hc⟩ | ⟨L, h1, h2, rfl, hw, hce, hsz⟩
    · unfold Zcz at hwr ⊢
      by_cases hL : L.wr = true
      · obtain ⟨_, hrw, _⟩ := hH.at_ hB h3
        rw [if_pos hL] at hwr ⊢
        exact hH.own id r0 h3 hwr
      · rw [if_neg hL] at hwr; cases hwr
    · simp only [Zfb] at hwr; rw [hw] at hwr; cases hwr
  · intro i j r r' hij hr hr' hwr hg q h1 h2 h3 h4
    rcases Zgb hE hr with ⟨id, sh, L, r0, B, e1, e2, e3, rfl, hB, hsz, hfx, hfs, hpu, hle, hw, hc⟩ | ⟨L, e1, e2, rfl, hw, hce, hsz⟩
    · unfold Zcz at hwr hg h1 h2
      by_cases hL : L.wr = true
      · rw [if_pos hL] at hwr hg h1 h2
        simp only at hg h1 h2 hwr
        rcases Zgb hE hr' with ⟨id', sh', L', r0', B', f1, f2, f3, rfl, hB', hsz', hfx', hfs', hpu', hle', hw', hc'⟩ | ⟨L', f1, f2, rfl, hw', hce', hsz'⟩
        · have hne : id ≠ id' := by
            rintro rfl
            exact hE.dist i j id sh sh' L hij e1 e2 hL f1
          obtain ⟨_, grw, _, grl, _⟩ := hH.at_ hB' f3
          unfold Zcz Reg.ext at h4
          unfold Zcz at hg h3
          by_cases hL' : L'.wr = true
          · simp only [if_pos hL'] at hg h3 h4
            exact hH.dis id id' r0 r0' hne e3 f3 hwr hg q h1 h2 h3 (by unfold Reg.ext; exact h4)
          · simp only [if_neg hL'] at hg h3 h4
            simp only [Bool.false_eq_true, if_false] at h4
            refine hH.dis id id' r0 r0' hne e3 f3 hwr hg q h1 h2 (by omega) ?_
            unfold Reg.ext
            split
            · rename_i hww; have := (hH.own id' r0' f3 hww).1; omega
            · omega
        · simp only [Zfb, Reg.ext, hw', hce', Bool.false_eq_true, if_false] at h4 h3
          omega
      · rw [if_neg hL] at hwr; cases hwr
    · simp only [Zfb] at hwr; rw [hw] at hwr; cases hwr
  · exact hH.glob
  · intro i r q hr hwr h1 h2
    rcases Zgb hE hr with ⟨id, sh, L, r0, B, e1, e2, e3, rfl, hB, hsz, hfx, hfs, hpu, hle, hw, hc⟩ | ⟨L, e1, e2, rfl, hw, hce, hsz⟩
    · unfold Zcz at hwr h1 h2 ⊢
      by_cases hL : L.wr = true
      · rw [if_pos hL] at hwr h1 h2 ⊢
        exact hH.gwr id r0 q e3 hwr h1 h2
      · rw [if_neg hL] at hwr; cases hwr
    · simp only [Zfb] at hwr; rw [hw] at hwr; cases hwr

theorem Zoe.embed {mc : MapM} {H : List Blk} {G : Glob} {w : World} {e : Emb} {σ : List Blk} (hH : HRel G mc H w) (hE : EmbOK H e σ) {g j : Nat} (h : Zoe (mE mc e σ) g j) :
    ∃ (i id sh : Nat) (L : Blk) (r0 : Reg), e[i]? = some (some (id, sh)) ∧ σ[i]? = some L ∧ L.wr = true ∧ mc id = some r0 ∧ r0.wr = true ∧ r0.g = g ∧ r0.lo ≤ j ∧ j < r0.hi := by
  obtain ⟨i, r, hr, hwr, hg, h1, h2⟩ := h
  rcases Zgb hE hr with ⟨id, sh, L, r0, B, e1, e2, e3, rfl, hB, hsz, hfx, hfs, hpu, hle, hw, hc⟩ | ⟨L, e1, e2, rfl, hw, hce, hsz⟩
  · unfold Zcz at hwr hg h1 h2
    by_cases hL : L.wr = true
    · rw [if_pos hL] at hwr hg h1 h2
      exact ⟨i, id, sh, L, r0, e1, e2, hL, e3, hwr, hg, h1, h2⟩
    · rw [if_neg hL] at hwr; cases hwr
  · simp only [Zfb] at hwr; rw [hw] at hwr; cases hwr

end Go.Flat
end
section
/- What a call leaves, in the caller's heap. -/
namespace Go.Flat

def Zga (e : Emb) (σ : List Blk) (i b : Nat) : Prop := ∃ (sh : Nat) (L : Blk), e[i]? = some (some (b, sh)) ∧ σ[i]? = some L ∧ L.wr = true ∧ L.mv = true
def Zfk (e : Emb) (nid n : Nat) : Emb := e ++ (List.range n).map fun k => some (nid + k, 0)

structure After (H H' : List Blk) (e : Emb) (σ σ' : List Blk) (nid : Nat) : Prop where
  len : σ.length ≤ σ'.length
  hlen : H'.length = H.length
  flags : ∀ (i : Nat) (L L' : Blk), σ[i]? = some L → σ'[i]? = some L' → L'.wr = L.wr ∧ L'.fix = L.fix ∧ L'.mv = L.mv ∧ L'.sz = L.sz ∧ L'.pur = L.pur
  wrs : ∀ (i : Nat) (L : Blk), σ.length ≤ i → σ'[i]? = some L → L.wr = true
  holes : ∀ k, k < σ'.length - σ.length → ∃ x, H[nid + k]? = some x ∧ x.sz = 0
  new : ∀ (k : Nat) (L : Blk), σ'[σ.length + k]? = some L → H'[nid + k]? = some { L with cells := Zcp (Zfk e nid (σ'.length - σ.length)) L }
  rep : ∀ (i id sh : Nat) (L L' B : Blk), e[i]? = some (some (id, sh)) → σ[i]? = some L → σ'[i]? = some L' → L.wr = true → H[id]? = some B → H'[id]? = some { B with cells := Zcp (Zfk e nid (σ'.length - σ.length)) L' }
  same : ∀ b, (∀ k, k < σ'.length - σ.length → b ≠ nid + k) → (∀ (i sh : Nat) (L : Blk), e[i]? = some (some (b, sh)) → σ[i]? = some L → L.wr = false) → H'[b]? = H[b]?

open Classical in
noncomputable def mB (mc m' : MapM) (e : Emb) (σ σ' : List Blk) (nid : Nat) : MapM := fun b =>
  if nid ≤ b ∧ b < nid + (σ'.length - σ.length) then m' (σ.length + (b - nid))
  else if h : ∃ i, Zga e σ i b then m' (Classical.choose h) else mc b

section
variable {G : Glob} {mc m' : MapM} {H H' : List Blk} {w w' : World} {e : Emb} {σ σ' : List Blk} {nid : Nat} {E : Ent}

theorem Zga.unique (hE : EmbOK H e σ) {i j b : Nat} (h1 : Zga e σ i b) (h2 : Zga e σ j b) : i = j := by
 obtain ⟨sh, L, a1, a2, a3, _⟩ := h1
 obtain ⟨sh', L', b1, b2, b3, _⟩ := h2
 rcases Nat.decEq i j with h | h
 ·exact absurd b1 (hE.dist i j b sh sh' L h a1 a2 a3)
 ·exact h

theorem Zwq {k : Nat} (hk : k < σ'.length - σ.length) : mB mc m' e σ σ' nid (nid + k) = m' (σ.length + k) := by
 unfold mB
 rw [if_pos (by omega), show nid + k - nid = k from by omega]
theorem Zo7 (hE : EmbOK H e σ) (hA : After H H' e σ σ' nid) {i b : Nat} (h : Zga e σ i b) : mB mc m' e σ σ' nid b = m' i := by
 have hb : ¬ (nid ≤ b ∧ b < nid + (σ'.length - σ.length)) := by
  intro hh
  obtain ⟨sh, L, a1, a2, a3, _⟩ := h
  obtain ⟨x, hx, hx0⟩ := hA.holes (b - nid) (by omega)
  obtain ⟨B, hB, hsz, _, _, _, _, hw, _⟩ := hE.one i _ L a1 a2
  rw [show nid + (b - nid) = b from by omega, hB] at hx
  injection hx with hx; subst hx
  have := hsz.2
  omega
 unfold mB
 rw [if_neg hb]
 have hex : ∃ i, Zga e σ i b := ⟨i, h⟩
 rw [dif_pos hex]
 congr 1
 exact Zga.unique hE (Classical.choose_spec hex) h
theorem Zjz {b : Nat} (h1 : ∀ k, k < σ'.length - σ.length → b ≠ nid + k) (h2 : ¬ ∃ i, Zga e σ i b) : mB mc m' e σ σ' nid b = mc b := by
 have hb : ¬ (nid ≤ b ∧ b < nid + (σ'.length - σ.length)) := fun hh => h1 (b - nid) (by omega) (by omega)
 unfold mB
 rw [if_neg hb, dif_neg h2]

theorem Zu6 (hE : EmbOK H e σ) (hA : After H H' e σ σ' nid) {b : Nat} {r : Reg} (h : mB mc m' e σ σ' nid b = some r) :
  (∃ k, k < σ'.length - σ.length ∧ b = nid + k ∧ m' (σ.length + k) = some r) ∨ (∃ i, Zga e σ i b ∧ m' i = some r) ∨
  ((∀ k, k < σ'.length - σ.length → b ≠ nid + k) ∧ (¬ ∃ i, Zga e σ i b) ∧ mc b = some r) := by
 by_cases hb : nid ≤ b ∧ b < nid + (σ'.length - σ.length)
 ·have : b = nid + (b - nid) := by omega
  rw [this, Zwq (by omega)] at h
  exact .inl ⟨b - nid, by omega, this, h⟩
 ·have h1 : ∀ k, k < σ'.length - σ.length → b ≠ nid + k := fun k hk he => hb (by omega)
  by_cases hm : ∃ i, Zga e σ i b
  ·obtain ⟨i, hi⟩ := hm
   rw [Zo7 hE hA hi] at h
   exact .inr (.inl ⟨i, hi, h⟩)
  ·rw [Zjz h1 hm] at h
   exact .inr (.inr ⟨h1, hm, h⟩)

theorem Z29 {i n : Nat} (h : i < e.length) : (Zfk e nid n)[i]? = e[i]? := by
 unfold Zfk; rw [List.getElem?_append_left h]
theorem Z3o {i n : Nat} {p : Option (Nat × Nat)} (h : e.length ≤ i) (hp : (Zfk e nid n)[i]? = some p) : i - e.length < n ∧ p = some (nid + (i - e.length), 0) := by
 unfold Zfk at hp
 rw [List.getElem?_append_right h, List.getElem?_map] at hp
 rcases Nat.lt_or_ge (i - e.length) n with h1 | h1
 ·rw [List.getElem?_range h1] at hp
  simp at hp
  exact ⟨h1, hp.symm⟩
 ·rw [List.getElem?_eq_none (by simpa using h1)] at hp
  cases hp

theorem Z3y (hH : HRel G mc H w) (hE : EmbOK H e σ) (hA : After H H' e σ σ' nid) (hF : Frame ⟨mE mc e σ, w, []⟩ m' w') {i id sh : Nat} (hi : (Zfk e nid (σ'.length - σ.length))[i]? = some (some (id, sh))) {r' : Reg} (hr : m' i = some r') :
  ∃ r, mB mc m' e σ σ' nid id = some r ∧ r.g = r'.g ∧ r.lo + sh = r'.lo ∧ r.hi = r'.hi ∧ r.fix = r'.fix ∧ (r'.fix = false → r.sz = r'.sz) := by
 rcases Nat.lt_or_ge i e.length with hlt | hge
 ·rw [Z29 hlt] at hi
  have hlt' : i < σ.length := by rw [← hE.len]; exact hlt
  have hL : σ[i]? = some σ[i] := by simp [hlt']
  obtain ⟨B, hB, hsz, hfx, hfs, hpu, hle, hw, hc⟩ := hE.one i _ _ hi hL
  by_cases hm : σ[i].wr = true ∧ σ[i].mv = true
  ·have hmv : Zga e σ i id := ⟨sh, _, hi, hL, hm.1, hm.2⟩
   have := (hw hm.1).2.1
   subst this
   exact ⟨r', by rw [Zo7 hE hA hmv]; exact hr, rfl, by simp, rfl, rfl, fun _ => rfl⟩
  ·obtain ⟨r0, hr0⟩ := hH.live id B hB hsz.2
   have hk : m' i = some (Zcz r0 sh σ[i]) := by
    refine hF.keep i (Zcz r0 sh σ[i]) (by show mE mc e σ i = _; rw [Zkp hi hL, hr0]; rfl) ?_
    unfold Zcz
    by_cases hwr : σ[i].wr = true
    ·rw [if_pos hwr]; right
     simp only
     cases hmm : σ[i].mv with
     | true => exact absurd ⟨hwr, hmm⟩ hm
     | false => rfl
    ·rw [if_neg hwr]; left; rfl
   rw [hr] at hk; injection hk with hk
   have hno : ¬ ∃ j, Zga e σ j id := by
    rintro ⟨j, sh', L', a1, a2, a3, a4⟩
    by_cases hij : j = i
    ·subst hij; rw [hL] at a2; injection a2 with a2; subst a2; exact hm ⟨a3, a4⟩
    ·exact hE.dist j i id sh' sh L' hij a1 a2 a3 hi
   have hnew : ∀ k, k < σ'.length - σ.length → id ≠ nid + k := by
    rintro k hk' rfl
    obtain ⟨x, hx, hx0⟩ := hA.holes k hk'
    rw [hB] at hx; injection hx with hx; subst hx
    have := hsz.2; omega
   obtain ⟨_, hrw, hrf, hrl, hrs, hrm⟩ := hH.at_ hB hr0
   refine ⟨r0, by rw [Zjz hnew hno]; exact hr0, ?_⟩
   subst hk
   unfold Zcz
   by_cases hwr : σ[i].wr = true
   ·have := (hw hwr).2.1
    subst this
    rw [if_pos hwr]
    exact ⟨rfl, by simp, rfl, rfl, fun _ => rfl⟩
   ·rw [if_neg hwr]
    exact ⟨rfl, rfl, rfl, by rw [hrf, hfx], fun hf => by simp only at hf ⊢; rw [hrs, hfs hf]⟩
 ·obtain ⟨h1, h2⟩ := Z3o hge hi
  injection h2 with h2; injection h2 with h2 h3
  subst h2; subst h3
  have : i = σ.length + (i - e.length) := by rw [← hE.len]; omega
  exact ⟨r', by rw [Zwq h1, ← this]; exact hr, rfl, by simp, rfl, rfl, fun _ => rfl⟩

theorem Zsh (hH : HRel G mc H w) (hE : EmbOK H e σ) (hA : After H H' e σ σ' nid) (hF : Frame ⟨mE mc e σ, w, []⟩ m' w') {v v' : Value} (h : CR0 m' v v') : CR0 (mB mc m' e σ σ' nid) (Zdj (Zfk e nid (σ'.length - σ.length)) v) v' := by
 cases v
 case pointer a =>
  rcases a with _ | ⟨b, o, _ | q⟩
  ·exact h
  ·obtain ⟨r', hr, rfl⟩ := h
   simp only [Zdj]
   rcases hp : (Zfk e nid (σ'.length - σ.length))[b]? with _ | _ | ⟨id, sh⟩
   ·trivial
   ·trivial
   ·obtain ⟨r, h1, h2, h3, _⟩ := Z3y hH hE hA hF hp hr
    simp only [Option.bind_some, _root_.id]
    exact ⟨r, h1, by rw [h2, ← h3, Nat.add_assoc]⟩
  ·exact h
 case slice a n c =>
  rcases a with _ | ⟨b, o, q⟩
  ·exact h
  ·obtain ⟨r', a', c', hr, rfl, hs⟩ := h
   simp only [Zdj]
   rcases hp : (Zfk e nid (σ'.length - σ.length))[b]? with _ | _ | ⟨id, sh⟩
   ·trivial
   ·trivial
   ·obtain ⟨r, h1, h2, h3, h4, h5, h6⟩ := Z3y hH hE hA hF hp hr
    simp only [Option.bind_some, _root_.id]
    refine ⟨r, a', c', h1, rfl, hs.1, hs.2.1, fun h0 => ?_⟩
    obtain ⟨g1, g2⟩ := hs.2.2 h0
    refine ⟨by rw [g1, h2, ← h3, Nat.add_assoc], fun hf => ?_⟩
    have hf' : r'.fix = false := by rw [← h5]; exact hf
    have := g2 hf'
    simp only at this ⊢
    rw [h6 hf', h4]; omega
 all_goals exact h
theorem Zwj (hH : HRel G mc H w) (hE : EmbOK H e σ) (hA : After H H' e σ σ' nid) (hF : Frame ⟨mE mc e σ, w, []⟩ m' w') {v v' : Value} (h : CR m' v v') : CR (mB mc m' e σ σ' nid) (Zgq (Zfk e nid (σ'.length - σ.length)) v) v' := by
 revert h
 refine Ze2 (P := fun v => CR m' v v' → CR (mB mc m' e σ σ' nid) (Zgq (Zfk e nid (σ'.length - σ.length)) v) v') ?_ ?_ v
 ·intro v hf h
  rw [Zkd hf, Zj2 (Zng hf)]
  rw [Zj2 hf] at h
  exact Zsh hH hE hA hF h
 ·intro f xs ys h
  obtain ⟨xs', ys', rfl, h1, h2⟩ := h
  refine ⟨xs', ys', rfl, ?_, ?_⟩
  ·simp only [Array.toList_map]; exact h1.map_left fun x _ y hxy => Zsh hH hE hA hF hxy
  ·simp only [Array.toList_map]; exact h2.map_left fun x _ y hxy => Zsh hH hE hA hF hxy
theorem Zxb (hH : HRel G mc H w) (hE : EmbOK H e σ) (hA : After H H' e σ σ' nid) (hF : Frame ⟨mE mc e σ, w, []⟩ m' w') {v v' : Value} (h : VR1 m' v v') : VR1 (mB mc m' e σ σ' nid) (Zp3 (Zfk e nid (σ'.length - σ.length)) v) v' := by
 unfold Zp3
 split
 ·rename_i hp
  rw [h.pure hp]; exact VR1.of_pure hp
 ·rename_i hp
  revert h
  refine Zg3 (P := fun v => VR1 m' v v' → VR1 (mB mc m' e σ σ' nid) (Z4e (Zfk e nid (σ'.length - σ.length)) v) v') ?_ ?_ v
  ·intro v hf h
   rw [Zxc hf, Zh6 (by rw [(Zko _ v).1]; exact hf)]
   rw [Zh6 hf] at h
   exact Zwj hH hE hA hF h
  ·intro cs h
   obtain ⟨cs', rfl, h1⟩ := h
   refine ⟨cs', rfl, ?_⟩
   simp only [Array.toList_map]
   exact h1.map_left fun x _ y hxy => Zwj hH hE hA hF hxy
theorem Zuu (e : Emb) (v : Value) (h : Zh0 v = false) : Zh0 (Zp3 e v) = false := by
  unfold Zp3
  split
  · exact h
  · by_cases ha : Zh3 v = true
    · cases v <;> first | rfl | cases ha
    · rw [Zxc (by simpa using ha), (Zko _ v).2]; exact h
theorem Z44 (hH : HRel G mc H w) (hE : EmbOK H e σ) (hA : After H H' e σ σ' nid) (hF : Frame ⟨mE mc e σ, w, []⟩ m' w') {v v' : Value} (h : VR m' v v') : VR (mB mc m' e σ σ' nid) (Zsc (Zfk e nid (σ'.length - σ.length)) v) v' := by
  revert h
  refine Zk8 (P := fun v => VR m' v v' → VR (mB mc m' e σ σ' nid) (Zsc (Zfk e nid (σ'.length - σ.length)) v) v') ?_ ?_ v
  · intro v hf h
    have : Zsc (Zfk e nid (σ'.length - σ.length)) v = Zp3 (Zfk e nid (σ'.length - σ.length)) v := by cases v <;> first | rfl | cases hf
    rw [this, Zf0 (Zuu _ _ hf)]
    rw [Zf0 hf] at h
    exact Zxb hH hE hA hF h
  · intro cs h
    obtain ⟨cs', rfl, h1⟩ := h
    refine ⟨cs', rfl, ?_⟩
    simp only [Array.toList_map]
    exact h1.map_left fun x _ y hxy => Zxb hH hE hA hF hxy


theorem Zh7 (e : Emb) (L : Blk) : (Zcp e L).length = L.cells.length := by unfold Zcp; split <;> simp

structure KindA (mc m' : MapM) (H H' : List Blk) (e : Emb) (σ σ' : List Blk) (nid b : Nat) (r : Reg) (i : Nat) (L' : Blk) : Prop where
  loc : ∃ r', m' i = some r' ∧ r.g = r'.g ∧ r.lo = r'.lo ∧ r.hi = r'.hi ∧ r.len = r'.len ∧ r'.wr = true
  wr : r.wr = true
  blk : σ'[i]? = some L'
  here : ∃ x, H'[b]? = some x ∧ x.cells = Zcp (Zfk e nid (σ'.length - σ.length)) L' ∧ x.pur = L'.pur ∧ 0 < x.sz ∧ r.wr = x.wr ∧ r.fix = x.fix ∧ r.len = x.cells.length ∧ r.sz = x.sz ∧ r.mv = x.mv
  idx : (σ.length ≤ i ∧ b = nid + (i - σ.length)) ∨ (∃ (sh : Nat) (L : Blk), e[i]? = some (some (b, sh)) ∧ σ[i]? = some L ∧ L.wr = true)
  old : (∃ r', m' i = some r' ∧ r = r') ∨ mc b = some r

def Zgu (e : Emb) (σ : List Blk) (b : Nat) : Prop := ∀ (i sh : Nat) (L : Blk), e[i]? = some (some (b, sh)) → σ[i]? = some L → L.wr = false

theorem Zn3 (hH : HRel G mc H w) (hE : EmbOK H e σ) (hA : After H H' e σ σ' nid) (h' : HRel G m' σ' w') (hF : Frame ⟨mE mc e σ, w, []⟩ m' w') {b : Nat} {r : Reg} (h : mB mc m' e σ σ' nid b = some r) :
  (∃ i L', KindA mc m' H H' e σ σ' nid b r i L') ∨ (mc b = some r ∧ H'[b]? = H[b]? ∧ Zgu e σ b) := by
 rcases Zu6 hE hA h with ⟨k, hk, rfl, hr⟩ | ⟨i, hmv, hr⟩ | ⟨h1, h2, hr⟩
 ·left
  obtain ⟨L', g1, g2, g3, g4, g5, g6, g7⟩ := h'.reg _ r hr
  have hw := hA.wrs _ L' (by omega) g1
  refine ⟨σ.length + k, L', ⟨⟨r, hr, rfl, rfl, rfl, rfl, by rw [g3]; exact hw⟩, by rw [g3]; exact hw, g1, ⟨_, hA.new k L' g1, rfl, rfl, g2, g3, g4, by simp only; rw [Zh7]; exact g5, g6, g7⟩, .inl ⟨by omega, by omega⟩, .inl ⟨r, hr, rfl⟩⟩⟩
 ·left
  obtain ⟨sh, L, a1, a2, a3, a4⟩ := hmv
  obtain ⟨L', g1, g2, g3, g4, g5, g6, g7⟩ := h'.reg _ r hr
  obtain ⟨f1, f2, f3, f4, f5⟩ := hA.flags i L L' a2 g1
  obtain ⟨B, hB, hsz, hfx, hfs, hpu, hle, hw, hc⟩ := hE.one i _ L a1 a2
  obtain ⟨b1, b2, b3, b4, b5, b6⟩ := hw a3
  refine ⟨i, L', ⟨⟨r, hr, rfl, rfl, rfl, rfl, by rw [g3, f1]; exact a3⟩, by rw [g3, f1]; exact a3, g1, ⟨_, hA.rep i b sh L L' B a1 a2 g1 a3 hB, rfl, by simp only; rw [f5, b5], hsz.2, by simp only; rw [g3, f1, a3, b1], by simp only; rw [g4, f2, hfx], by simp only; rw [Zh7]; exact g5, by simp only; rw [g6, f4, b3], by simp only; rw [g7, f3, a4, b4 a4]⟩, .inr ⟨sh, L, a1, a2, a3⟩, .inl ⟨r, hr, rfl⟩⟩⟩
 ·by_cases hex : ∃ (i sh : Nat) (L : Blk), e[i]? = some (some (b, sh)) ∧ σ[i]? = some L ∧ L.wr = true
  ·left
   obtain ⟨i, sh, L, a1, a2, a3⟩ := hex
   have a4 : L.mv = false := by
    cases hm : L.mv with
    | false => rfl
    | true => exact absurd ⟨i, sh, L, a1, a2, a3, hm⟩ h2
   obtain ⟨B, hB, hsz, hfx, hfs, hpu, hle, hw, hc⟩ := hE.one i _ L a1 a2
   obtain ⟨b1, b2, b3, b4, b5, b6⟩ := hw a3
   subst b2
   obtain ⟨_, hrw, hrf, hrl, hrs, hrm⟩ := hH.at_ hB hr
   have hk : m' i = some { r with mv := L.mv } := hF.keep i _ (by show mE mc e σ i = _; rw [Zkp a1 a2, hr]; simp [Zcz, a3]) (.inr (by simp only; exact a4))
   obtain ⟨L', g1, g2, g3, g4, g5, g6, g7⟩ := h'.reg _ _ hk
   obtain ⟨f1, f2, f3, f4, f5⟩ := hA.flags i L L' a2 g1
   refine ⟨i, L', ⟨⟨_, hk, rfl, rfl, rfl, rfl, by simp only; rw [hrw]; exact b1⟩, by rw [hrw]; exact b1, g1, ⟨_, hA.rep i b 0 L L' B a1 a2 g1 a3 hB, rfl, by simp only; rw [f5, b5], hsz.2, hrw, hrf, by simp only; rw [Zh7]; exact g5, hrs, hrm⟩, .inr ⟨0, L, a1, a2, a3⟩, .inr hr⟩⟩
  ·right
   have hun : Zgu e σ b := fun i sh L h3 h4 => by
    cases hw : L.wr with
    | false => rfl
    | true => exact absurd ⟨i, sh, L, h3, h4, hw⟩ hex
   exact ⟨hr, hA.same b h1 hun, hun⟩

theorem Z34 (hH : HRel G mc H w) (hE : EmbOK H e σ) (hF : Frame ⟨mE mc e σ, w, []⟩ m' w') {b : Nat} {r : Reg} (hr : mc b = some r) (hu : Zgu e σ b) {j : Nat} (h1 : r.lo ≤ j) (h2 : j < r.ext) :
    w'.cell? ⟨r.g, j, none⟩ = w.cell? ⟨r.g, j, none⟩ ∧ w'.frozen? ⟨r.g, j, none⟩ = w.frozen? ⟨r.g, j, none⟩ := by
  obtain ⟨v, hv⟩ := hH.there hr h1 h2
  obtain ⟨c, t, fr, hc⟩ := Zqg hv
  obtain ⟨o', ho', hfo⟩ := hF.block r.g _ hc
  have hnw : ¬ Zoe (mE mc e σ) r.g j := by
    intro hw
    obtain ⟨i, id, sh, L, r0, a1, a2, a3, a4, a5, a6, a7, a8⟩ := hw.embed hH hE
    have hne : id ≠ b := by
      rintro rfl
      have := hu i sh L a1 a2
      rw [a3] at this; cases this
    exact hH.dis id b r0 r hne a4 hr a5 a6 j a7 a8 h1 h2
  rcases hfo with rfl | ⟨c1, t1, fr1, c', he, rfl, hs, hcells⟩
  · exact ⟨World.cell?_of_block (w := w) (by rw [ho', hc]), World.frozen?_of_block (w := w) (by rw [ho', hc])⟩
  · injection he with e1 e2 e3
    subst e1; subst e2; subst e3
    refine ⟨?_, ?_⟩
    · rw [cell_of_row _ _ _ _ _ _ ho', cell_of_row _ _ _ _ _ _ hc]; exact hcells j hnw
    · simp only [World.frozen?, ho', hc]

theorem Zyx (hH : HRel G mc H w) (hFE : Frame E mc w) (hE : EmbOK H e σ) (hA : After H H' e σ σ' nid) (h' : HRel G m' σ' w') (hF : Frame ⟨mE mc e σ, w, []⟩ m' w')
    {p : Nat → Bool} (hp : ∀ b, p b = true → ¬ ∃ i, Zga e σ i b) (hN : ∀ (i : Nat) (x : Blk), H[i]? = some x → Zgu e σ i → ∀ v, v ∈ x.cells → Zbw p v = true) : HRel G (mB mc m' e σ σ' nid) H' w' ∧ Frame E (mB mc m' e σ σ' nid) w' ∧
      ∀ b r, p b = true → mc b = some r → mB mc m' e σ σ' nid b = some r := by
  have hmono : ∀ b r, p b = true → mc b = some r → mB mc m' e σ σ' nid b = some r := by
    intro b r hpb hr
    rw [Zjz ?_ (hp b hpb)]
    · exact hr
    · rintro k hk rfl
      obtain ⟨x, hx, hx0⟩ := hA.holes k hk
      have := hH.hole hx hx0
      rw [this] at hr; cases hr
  -- an A-region's cell is not one of an untouched block
  have hAB : ∀ (b : Nat) (r : Reg) (i : Nat) (L' : Blk), KindA mc m' H H' e σ σ' nid b r i L' → ∀ (b' : Nat) (r1 : Reg), mc b' = some r1 → Zgu e σ b' → b ≠ b' → r.g = r1.g → ∀ j, r.lo ≤ j → j < r.hi → r1.lo ≤ j → ¬ j < r1.ext := by
    intro b r i L' hk b' r1 hr1 hu hne hg j h1 h2 h3 h4
    rcases hk.old with ⟨r', hr', rfl⟩ | hmc
    · rcases hF.reg i r hr' hk.wr (by omega) with hfr | hwr
      · obtain ⟨v, hv⟩ := hH.there hr1 h3 h4
        have := Zor hv
        simp only at hfr
        omega
      · obtain ⟨i2, id, sh, L, r0, a1, a2, a3, a4, a5, a6, a7, a8⟩ := (hwr j h1 h2).embed hH hE
        have hne2 : id ≠ b' := by
          rintro rfl
          have := hu i2 sh L a1 a2
          rw [a3] at this; cases this
        exact hH.dis id b' r0 r1 hne2 a4 hr1 a5 (a6.trans hg) j a7 a8 h3 h4
    · exact hH.dis b b' r r1 hne hmc hr1 hk.wr hg j h1 h2 h3 h4
  have hidx : ∀ (b b' : Nat) (r r1 : Reg) (i i' : Nat) (L L' : Blk), KindA mc m' H H' e σ σ' nid b r i L → KindA mc m' H H' e σ σ' nid b' r1 i' L' → b ≠ b' → i ≠ i' := by
    rintro b b' r r1 i i' L L' hk hk' hne rfl
    rcases hk.idx with ⟨a1, a2⟩ | ⟨sh, L1, a1, a2, _⟩
    · rcases hk'.idx with ⟨b1, b2⟩ | ⟨sh', L2, b1, b2, _⟩
      · omega
      · have := (List.getElem?_eq_some_iff.1 b2).1; omega
    · rcases hk'.idx with ⟨b1, b2⟩ | ⟨sh', L2, b1, b2, _⟩
      · have := (List.getElem?_eq_some_iff.1 a2).1; omega
      · rw [a1] at b1; injection b1 with b1; injection b1 with b1; injection b1 with b1 _; exact hne b1
  refine ⟨⟨?_, ?_, ?_, ?_, ?_, ?_, ?_, ?_⟩, ?_, hmono⟩
  · intro b r hr
    rcases Zn3 hH hE hA h' hF hr with ⟨i, L', hk⟩ | ⟨hr, hb, hu⟩
    · obtain ⟨x, h1, _, _, h4, h5, h6, h7, h8, h9⟩ := hk.here
      exact ⟨x, h1, h4, h5, h6, h7, h8, h9⟩
    · obtain ⟨B, h1⟩ := hH.reg b r hr
      exact ⟨B, by rw [hb]; exact h1.1, h1.2⟩
  · intro b x hx hsz
    by_cases hnew : ∃ k, k < σ'.length - σ.length ∧ b = nid + k
    · obtain ⟨k, hk, rfl⟩ := hnew
      have hlt : σ.length + k < σ'.length := by omega
      have hL : σ'[σ.length + k]? = some σ'[σ.length + k] := by simp [hlt]
      have := hA.new k _ hL
      rw [hx] at this; injection this with this
      obtain ⟨r, hr⟩ := h'.live _ _ hL (by rw [this] at hsz; exact hsz)
      exact ⟨r, by rw [Zwq hk]; exact hr⟩
    · have hno : ∀ k, k < σ'.length - σ.length → b ≠ nid + k := fun k hk he => hnew ⟨k, hk, he⟩
      by_cases hmv : ∃ i, Zga e σ i b
      · obtain ⟨i, hi⟩ := hmv
        rw [Zo7 hE hA hi]
        obtain ⟨sh, L, a1, a2, a3, a4⟩ := hi
        have hlt : i < σ'.length := by have := (List.getElem?_eq_some_iff.1 a2).1; have := hA.len; omega
        have hL : σ'[i]? = some σ'[i] := by simp [hlt]
        obtain ⟨_, _, _, f4, _⟩ := hA.flags i L _ a2 hL
        obtain ⟨B, hB, hsz2, _⟩ := hE.one i _ L a1 a2
        exact h'.live i _ hL (by rw [f4]; exact hsz2.1)
      · rw [Zjz hno hmv]
        have hb : b < H.length := by have := (List.getElem?_eq_some_iff.1 hx).1; rw [hA.hlen] at this; exact this
        have hB : H[b]? = some H[b] := by simp [hb]
        by_cases hex : ∃ (i sh : Nat) (L : Blk), e[i]? = some (some (b, sh)) ∧ σ[i]? = some L ∧ L.wr = true
        · obtain ⟨i, sh, L, a1, a2, a3⟩ := hex
          obtain ⟨B, hB', hsz2, _⟩ := hE.one i _ L a1 a2
          exact hH.live b B hB' hsz2.2
        · have := hA.same b hno (fun i sh L h3 h4 => by
            cases hw : L.wr with
            | false => rfl
            | true => exact absurd ⟨i, sh, L, h3, h4, hw⟩ hex)
          rw [this] at hx
          exact hH.live b x hx hsz
  · intro b x r j v hx hr hv
    rcases Zn3 hH hE hA h' hF hr with ⟨i, L', hk⟩ | ⟨hr1, hb, hu⟩
    · obtain ⟨x', h1, h2, h3, _⟩ := hk.here
      rw [hx] at h1; injection h1 with h1; subst h1
      obtain ⟨r', hr', g1, g2, g3, g4, g5⟩ := hk.loc
      rw [h2] at hv
      unfold Zcp at hv
      rw [g1, g2]
      by_cases hpu : L'.pur = true
      · rw [if_pos hpu] at hv
        obtain ⟨v', f1, f2⟩ := h'.cell i L' r' j v hk.blk hr' hv
        have hpv := h'.pur i L' hk.blk hpu v (List.mem_of_getElem? hv)
        exact ⟨v', f1, by rw [f2.pure hpv]; exact CR.of_pure hpv⟩
      · rw [if_neg hpu, List.getElem?_map] at hv
        simp only [Option.map_eq_some_iff] at hv
        obtain ⟨u, hu1, rfl⟩ := hv
        obtain ⟨v', f1, f2⟩ := h'.cell i L' r' j u hk.blk hr' hu1
        exact ⟨v', f1, Zwj hH hE hA hF f2⟩
    · rw [hb] at hx
      obtain ⟨v', f1, f2⟩ := hH.cell b x r j v hx hr1 hv
      obtain ⟨_, _, _, hl, _⟩ := hH.at_ hx hr1
      have hj : j < x.cells.length := (List.getElem?_eq_some_iff.1 hv).1
      have hext : r.lo + j < r.ext := by
        unfold Reg.ext
        split
        · rename_i hw; have := (hH.own b r hr1 hw).1; omega
        · omega
      exact ⟨v', by rw [(Z34 hH hE hF hr1 hu (by omega) hext).1]; exact f1, f2.congr hmono (hN b x hx hu v (List.mem_of_getElem? hv))⟩
  · intro b x hx hpu v hv
    by_cases hnew : ∃ k, k < σ'.length - σ.length ∧ b = nid + k
    · obtain ⟨k, hk, rfl⟩ := hnew
      have hlt : σ.length + k < σ'.length := by omega
      have hL : σ'[σ.length + k]? = some σ'[σ.length + k] := by simp [hlt]
      have := hA.new k _ hL
      rw [hx] at this; injection this with this
      subst this
      simp only at hpu hv
      unfold Zcp at hv
      rw [if_pos hpu] at hv
      exact h'.pur _ _ hL hpu v hv
    · have hno : ∀ k, k < σ'.length - σ.length → b ≠ nid + k := fun k hk he => hnew ⟨k, hk, he⟩
      by_cases hex : ∃ (i sh : Nat) (L : Blk), e[i]? = some (some (b, sh)) ∧ σ[i]? = some L ∧ L.wr = true
      · obtain ⟨i, sh, L, a1, a2, a3⟩ := hex
        have hlt : i < σ'.length := by have := (List.getElem?_eq_some_iff.1 a2).1; have := hA.len; omega
        have hL : σ'[i]? = some σ'[i] := by simp [hlt]
        obtain ⟨B, hB, hsz, hfx, hfs, hpu', hle, hw, hc⟩ := hE.one i _ L a1 a2
        have := hA.rep i b sh L _ B a1 a2 hL a3 hB
        rw [hx] at this; injection this with this
        subst this
        simp only at hpu hv
        obtain ⟨_, _, _, _, f5⟩ := hA.flags i L _ a2 hL
        have hpL : σ'[i].pur = true := by rw [f5, (hw a3).2.2.2.2.1]; exact hpu
        unfold Zcp at hv
        rw [if_pos hpL] at hv
        exact h'.pur _ _ hL hpL v hv
      · rw [hA.same b hno (fun i sh L h3 h4 => by
            cases hw : L.wr with
            | false => rfl
            | true => exact absurd ⟨i, sh, L, h3, h4, hw⟩ hex)] at hx
        exact hH.pur b x hx hpu v hv
  · intro b r hr hw
    rcases Zn3 hH hE hA h' hF hr with ⟨i, L', hk⟩ | ⟨hr1, hb, hu⟩
    · obtain ⟨r', hr', g1, g2, g3, g4, g5⟩ := hk.loc
      have := h'.own i r' hr' g5
      rw [g1, g2, g3, g4]; exact this
    · obtain ⟨f1, f2⟩ := hH.own b r hr1 hw
      refine ⟨f1, fun j h1 h2 => ?_⟩
      obtain ⟨v, f3, f4⟩ := f2 j h1 h2
      obtain ⟨s1, s2⟩ := Z34 hH hE hF hr1 hu h1 (by simp [Reg.ext, hw]; exact h2)
      exact ⟨v, by rw [s1]; exact f3, by rw [s2]; exact f4⟩
  · intro b b' r r1 hne hr hr' hw hg j h1 h2 h3 h4
    rcases Zn3 hH hE hA h' hF hr with ⟨i, L', hk⟩ | ⟨hr1, hb, hu⟩
    · rcases Zn3 hH hE hA h' hF hr' with ⟨i', L1, hk'⟩ | ⟨hr1', hb', hu'⟩
      · obtain ⟨q, hq, g1, g2, g3, g4, g5⟩ := hk.loc
        obtain ⟨q', hq', g1', g2', g3', g4', g5'⟩ := hk'.loc
        have hext : r1.ext = q'.ext := by unfold Reg.ext; rw [hk'.wr, g5']; simp [g3']
        exact h'.dis i i' q q' (hidx _ _ _ _ _ _ _ _ hk hk' hne) hq hq' g5 (by rw [← g1, ← g1']; exact hg) j (by omega) (by omega) (by omega) (by rw [← hext]; exact h4)
      · exact hAB b r i L' hk b' r1 hr1' hu' hne hg j h1 h2 h3 h4
    · rcases Zn3 hH hE hA h' hF hr' with ⟨i', L1, hk'⟩ | ⟨hr1', hb', hu'⟩
      · have hh : j < r1.hi := by simpa [Reg.ext, hk'.wr] using h4
        exact hAB b' r1 i' L1 hk' b r hr1 hu (fun e => hne e.symm) hg.symm j h3 hh h1 (by simp [Reg.ext, hw]; exact h2)
      · exact hH.dis b b' r r1 hne hr1 hr1' hw hg j h1 h2 h3 h4
  · intro g cs hg
    obtain ⟨h1, h2⟩ := hH.glob g cs hg
    refine ⟨Nat.lt_of_lt_of_le h1 hF.size, fun j v hj => ⟨?_, (h2 j v hj).2⟩⟩
    obtain ⟨hv, _⟩ := h2 j v hj
    obtain ⟨c, t, fr, hc⟩ := Zqg hv
    obtain ⟨o', ho', hfo⟩ := hF.block g _ hc
    have hnw : ¬ Zoe (mE mc e σ) g j := by
      intro hw
      obtain ⟨i, id, sh, L, r0, a1, a2, a3, a4, a5, a6, a7, a8⟩ := hw.embed hH hE
      have := hH.gwr id r0 j a4 a5 a7 a8
      rw [a6, hg] at this; cases this
    rcases hfo with rfl | ⟨c1, t1, fr1, c', he, rfl, hs, hcells⟩
    · rw [World.cell?_of_block (w := w) (by rw [ho', hc])]; exact hv
    · injection he with e1 e2 e3
      subst e1; subst e2; subst e3
      rw [cell_of_row _ _ _ _ _ _ ho', hcells j hnw, ← cell_of_row _ _ _ _ _ _ hc]; exact hv
  · intro b r j hr hw h1 h2
    rcases Zn3 hH hE hA h' hF hr with ⟨i, L', hk⟩ | ⟨hr1, hb, hu⟩
    · obtain ⟨q, hq, g1, g2, g3, g4, g5⟩ := hk.loc
      have := h'.gwr i q j hq g5 (by omega) (by omega)
      rw [g1]; exact this
    · exact hH.gwr b r j hr1 hw h1 h2
  · refine hFE.trans hF (fun g j hw => ?_) (fun b r hr hw => ?_) (fun b r hr hk => ?_)
    · obtain ⟨i, id, sh, L, r0, a1, a2, a3, a4, a5, a6, a7, a8⟩ := hw.embed hH hE
      exact ⟨id, r0, a4, a5, a6, a7, a8⟩
    · rcases Zu6 hE hA hr with ⟨k, hk, _, hq⟩ | ⟨i, hmv, hq⟩ | ⟨h1, h2, hq⟩
      · exact .inr ⟨_, hq⟩
      · exact .inr ⟨_, hq⟩
      · exact .inl hq
    · have h1 := hFE.keep b r hr hk
      rw [Zjz]
      · exact h1
      · rintro k hk' rfl
        obtain ⟨x, hx, hx0⟩ := hA.holes k hk'
        rw [hH.hole hx hx0] at h1; cases h1
      · rintro ⟨i, sh, L, a1, a2, a3, a4⟩
        obtain ⟨B, hB, hsz, hfx, hfs, hpu, hle, hw, hc⟩ := hE.one i _ L a1 a2
        obtain ⟨b1, b2, b3, b4, b5, b6⟩ := hw a3
        obtain ⟨_, hrw, _, _, _, hrm⟩ := hH.at_ hB h1
        rcases hk with hk | hk
        · rw [hrw, b1] at hk; cases hk
        · rw [hrm, b4 a4] at hk; cases hk
end
end Go.Flat
end
section
/- The rule for calls. -/
namespace Go.Flat

def Zdq (P : Program) (k : FuncId) : Bool := match P.funcs[k]? with | some fn => fn.name != "runtime.NumGoroutine" && fn.body.isSome | none => false
theorem Zi4 {P : Program} {k : FuncId} (h : Zdq P k = true) (args : Array Value) (w : World) : (callFunc k args).run P w = .ok (.enter k args) w := by
  unfold Zdq at h
  cases hf : P.funcs[k]? with
  | none => rw [hf] at h; cases h
  | some fn =>
    rw [hf] at h
    simp only [Bool.and_eq_true, bne_iff_ne, ne_eq] at h
    obtain ⟨h1, h3⟩ := h
    cases hb : fn.body with
    | none => rw [hb] at h3; cases h3
    | some c => simp [callFunc, hf, h1, hb]

theorem Zq1 {P : Program} {o : Oper} {ρ : Operand → Value} {f : Operand} {args : Array Operand} {ts : Array TypeId} {k : FuncId} {first captured : Array Value} (ho : o.op = .call { callee := .value f, args := args, argTypes := ts })
  (hf : ρ f = .func (.func k) first captured) (hk : Zdq P k = true) (w : World) : (execOp ρ o).run P w = .ok (.enter k (first ++ args.map ρ ++ captured)) w := by
 simp only [execOp, ho, resolve, hf, Deferred.ofValue, Sem.run_bind, Sem.run_pure, Result.andThen_ok, invoke]
 exact Zi4 hk _ w


def Zd1 (H : List Blk) (e : Emb) (p : Option (Nat × Nat)) (L : Blk) : Prop :=
  match p with
  | none => L.wr = false ∧ L.cells = [] ∧ 0 < L.sz
  | some (id, sh) => match H[id]? with
    | none => False
    | some B => (0 < L.sz ∧ 0 < B.sz) ∧ L.fix = B.fix ∧ (L.fix = false → L.sz = B.sz) ∧ (L.pur = true → B.pur = true) ∧ sh + L.cells.length ≤ B.cells.length ∧
      (L.wr = true → B.wr = true ∧ sh = 0 ∧ L.sz = B.sz ∧ (L.mv = true → B.mv = true) ∧ L.pur = B.pur ∧ L.cells.length = B.cells.length) ∧
      (B.cells.drop sh).take L.cells.length = Zcp e L
def Zh5 (H : List Blk) (e : Emb) : Emb → List Blk → Prop
  | [], [] => True
  | p :: ps, L :: Ls => Zd1 H e p L ∧ Zh5 H e ps Ls
  | _, _ => False

theorem Zqu {H : List Blk} {e : Emb} {p : Option (Nat × Nat)} {L : Blk} (h : Zd1 H e p L) : Zr5 H e p L := by
 unfold Zd1 at h
 unfold Zr5
 split at h
 ·exact h
 ·split at h
  ·cases h
  ·rename_i B hB; exact ⟨B, hB, h⟩
theorem Zgo {H : List Blk} {e : Emb} : ∀ {ps : Emb} {Ls : List Blk}, Zh5 H e ps Ls → ps.length = Ls.length ∧ ∀ (i : Nat) (p : Option (Nat × Nat)) (L : Blk), ps[i]? = some p → Ls[i]? = some L → Zr5 H e p L
 | [], [], _ => ⟨rfl, by simp⟩
 | p :: ps, L :: Ls, h => by
  obtain ⟨h1, h2⟩ := Zgo h.2
  refine ⟨by simp [h1], fun i q M hq hM => ?_⟩
  cases i with
  | zero => simp at hq hM; subst hq; subst hM; exact Zqu h.1
  | succ i => exact h2 i q M (by simpa using hq) (by simpa using hM)
 | [], _ :: _, h => h.elim
 | _ :: _, [], h => h.elim

def Zxs (e : Emb) : List Nat := e.filterMap fun p => p.map (·.1)
def Zjx (e : Emb) (σ : List Blk) : Bool :=
  (e.zip σ).zipIdx.all fun p => !p.1.2.wr || e.zipIdx.all fun q => q.2 == p.2 || q.1.map (·.1) != p.1.1.map (·.1)
def Zbo (e : Emb) (σ : List Blk) : List Nat := (e.zip σ).filterMap fun p => if p.2.wr && p.2.mv then p.1.map (·.1) else none
def Zhm (H : List Blk) (σ σ' : List Blk) (nid : Nat) : Bool :=
  decide (σ.length ≤ σ'.length) && ((σ.zip σ').all fun p => p.2.wr == p.1.wr && p.2.fix == p.1.fix && p.2.mv == p.1.mv && p.2.sz == p.1.sz && p.2.pur == p.1.pur) && ((σ'.drop σ.length).all fun L => L.wr) &&
  ((List.range (σ'.length - σ.length)).all fun k => match H[nid + k]? with | some x => x.sz == 0 | none => false)
def Zgn (e : Emb) (σ : List Blk) : Bool := σ.all fun L => L.pur || L.cells.all (Zbw (inE e))
def Zcl (H : List Blk) (e : Emb) (σ σ' : List Blk) (nid : Nat) : List (Nat × Blk) :=
  ((e.zip (σ.zip σ')).filterMap fun p => match p.1 with
    | some (id, _) => if p.2.1.wr then (H[id]?).map fun B => (id, { B with cells := Zcp (Zfk e nid (σ'.length - σ.length)) p.2.2 }) else none
    | none => none) ++
  ((σ'.drop σ.length).zipIdx.map fun p => (nid + p.2, { p.1 with cells := Zcp (Zfk e nid (σ'.length - σ.length)) p.1 }))

theorem Zi6 {b : Nat} {x : Blk} : ∀ (l : List (Nat × Blk)) (y : Blk), (∃ q, q ∈ l ∧ q.1 = b) → (∀ q, q ∈ l → q.1 = b → q.2 = x) → l.foldl (fun x p => if p.1 = b then p.2 else x) y = x
  | [], y, h, _ => by obtain ⟨q, hq, _⟩ := h; cases hq
  | q :: l, y, h, hu => by
    rw [List.foldl_cons]
    by_cases hl : ∃ q', q' ∈ l ∧ q'.1 = b
    · exact Zi6 l _ hl fun q' hq' => hu q' (by simp [hq'])
    · rw [Zck l _ fun p hp e => hl ⟨p, hp, e⟩]
      obtain ⟨q', hq', he⟩ := h
      rcases List.mem_cons.1 hq' with rfl | hq'
      · rw [if_pos he]; exact hu _ (by simp) he
      · exact absurd ⟨q', hq', he⟩ hl

theorem Zsx {H : List Blk} {e : Emb} {σ : List Blk} (h : Zjx e σ = true) : ∀ (i j : Nat) (id sh sh' : Nat) (L : Blk), i ≠ j → e[i]? = some (some (id, sh)) → σ[i]? = some L → L.wr = true → e[j]? ≠ some (some (id, sh')) := by
 intro i j id sh sh' L hij h1 h2 hw h3
 simp only [Zjx, List.all_eq_true] at h
 have h4 := h ((some (id, sh), L), i) (by rw [List.mem_iff_getElem?]; exact ⟨i, by simp [List.getElem?_zipIdx, List.getElem?_zip_eq_some, h1, h2]⟩)
 simp only [hw, Bool.not_true, Bool.false_or, List.all_eq_true] at h4
 have h5 := h4 (some (id, sh'), j) (by rw [List.mem_iff_getElem?]; exact ⟨j, by simp [List.getElem?_zipIdx, h3]⟩)
 simp at h5
 exact hij h5.symm

theorem Z1i {H : List Blk} {e : Emb} {σ σ' : List Blk} {nid : Nat} (hE : EmbOK H e σ) (hs : Zhm H σ σ' nid = true) : After H (Zeb H (Zcl H e σ σ' nid)) e σ σ' nid ∧ (∀ p, p ∈ Zcl H e σ σ' nid → p.1 < H.length) := by
  simp only [Zhm, Bool.and_eq_true, decide_eq_true_eq, List.all_eq_true] at hs
  obtain ⟨⟨⟨hlen, hfl⟩, hwr⟩, hho⟩ := hs
  have hflags : ∀ (i : Nat) (L L' : Blk), σ[i]? = some L → σ'[i]? = some L' → L'.wr = L.wr ∧ L'.fix = L.fix ∧ L'.mv = L.mv ∧ L'.sz = L.sz ∧ L'.pur = L.pur := by
    intro i L L' h1 h2
    have := hfl (L, L') (by rw [List.mem_iff_getElem?]; exact ⟨i, by simp [List.getElem?_zip_eq_some, h1, h2]⟩)
    simp only [beq_iff_eq] at this
    exact ⟨this.1.1.1.1, this.1.1.1.2, this.1.1.2, this.1.2, this.2⟩
  have hholes : ∀ k, k < σ'.length - σ.length → ∃ x, H[nid + k]? = some x ∧ x.sz = 0 := by
    intro k hk
    have := hho k (by simpa using hk)
    split at this
    · rename_i x hx; exact ⟨x, hx, by simpa using this⟩
    · cases this
  -- the two Zn3 of what is set
  have hmem : ∀ q, q ∈ Zcl H e σ σ' nid → (∃ (i id sh : Nat) (L L' B : Blk), e[i]? = some (some (id, sh)) ∧ σ[i]? = some L ∧ σ'[i]? = some L' ∧ L.wr = true ∧ H[id]? = some B ∧ q = (id, { B with cells := Zcp (Zfk e nid (σ'.length - σ.length)) L' })) ∨
      (∃ (k : Nat) (L : Blk), σ'[σ.length + k]? = some L ∧ q = (nid + k, { L with cells := Zcp (Zfk e nid (σ'.length - σ.length)) L })) := by
    intro q hq
    unfold Zcl at hq
    rcases List.mem_append.1 hq with hq | hq
    · left
      simp only [List.mem_filterMap] at hq
      obtain ⟨⟨p, L, L'⟩, hp, hq⟩ := hq
      obtain ⟨i, hi⟩ := List.getElem?_of_mem hp
      rw [List.getElem?_zip_eq_some] at hi
      obtain ⟨hi1, hi2⟩ := hi
      rw [List.getElem?_zip_eq_some] at hi2
      obtain ⟨hi2, hi3⟩ := hi2
      cases p with
      | none => simp at hq
      | some p =>
        obtain ⟨id, sh⟩ := p
        simp only at hq
        split at hq
        · rename_i hw
          simp only [Option.map_eq_some_iff] at hq
          obtain ⟨B, hB, rfl⟩ := hq
          exact ⟨i, id, sh, L, L', B, hi1, hi2, hi3, hw, hB, rfl⟩
        · cases hq
    · right
      simp only [List.mem_map] at hq
      obtain ⟨⟨L, k⟩, hp, rfl⟩ := hq
      obtain ⟨i, hi⟩ := List.getElem?_of_mem hp
      simp only [List.getElem?_zipIdx, Option.map_eq_some_iff] at hi
      obtain ⟨L1, hL1, he⟩ := hi
      injection he with he1 he2
      subst he1
      rw [List.getElem?_drop] at hL1
      exact ⟨k, L1, by rw [← he2, Nat.zero_add]; exact hL1, rfl⟩
  have hin : ∀ p, p ∈ Zcl H e σ σ' nid → p.1 < H.length := by
    intro q hq
    rcases hmem q hq with ⟨i, id, sh, L, L', B, h1, h2, h3, h4, h5, rfl⟩ | ⟨k, L, h1, rfl⟩
    · exact (List.getElem?_eq_some_iff.1 h5).1
    · have hk : σ.length + k < σ'.length := (List.getElem?_eq_some_iff.1 h1).1
      obtain ⟨x, hx, _⟩ := hholes k (by omega)
      exact (List.getElem?_eq_some_iff.1 hx).1
  have hget := Zgv (Zcl H e σ σ' nid) H hin
  refine ⟨⟨hlen, Zgt _ _ hin, hflags, ?_, hholes, ?_, ?_, ?_⟩, hin⟩
  · intro i L hi hL
    exact hwr L (by rw [List.mem_iff_getElem?]; exact ⟨i - σ.length, by rw [List.getElem?_drop, show σ.length + (i - σ.length) = i from by omega]; exact hL⟩)
  · intro k L hL
    have hk : σ.length + k < σ'.length := (List.getElem?_eq_some_iff.1 hL).1
    obtain ⟨x, hx, hx0⟩ := hholes k (by omega)
    rw [hget, hx, Option.map_some]
    congr 1
    refine Zi6 _ x ⟨(nid + k, { L with cells := Zcp (Zfk e nid (σ'.length - σ.length)) L }), ?_, rfl⟩ ?_
    · unfold Zcl
      refine List.mem_append_right _ (List.mem_map.2 ⟨(L, k), ?_, rfl⟩)
      rw [List.mem_iff_getElem?]
      exact ⟨k, by simp [List.getElem?_zipIdx, List.getElem?_drop, hL]⟩
    · intro q hq he
      rcases hmem q hq with ⟨i, id, sh, L1, L', B, h1, h2, h3, h4, h5, rfl⟩ | ⟨k', L1, h1, rfl⟩
      · simp only at he
        subst he
        rw [hx] at h5; injection h5 with h5; subst h5
        obtain ⟨B, hB, hsz, _⟩ := hE.one i _ L1 h1 h2
        rw [hx] at hB; injection hB with hB; subst hB
        have := hsz.2; omega
      · simp only at he
        have : k' = k := by omega
        subst this
        rw [hL] at h1; injection h1 with h1; subst h1; rfl
  · intro i id sh L L' B h1 h2 h3 h4 h5
    rw [hget, h5, Option.map_some]
    congr 1
    refine Zi6 _ B ⟨(id, { B with cells := Zcp (Zfk e nid (σ'.length - σ.length)) L' }), ?_, rfl⟩ ?_
    · unfold Zcl
      refine List.mem_append_left _ (List.mem_filterMap.2 ⟨(some (id, sh), L, L'), ?_, ?_⟩)
      · rw [List.mem_iff_getElem?]
        exact ⟨i, by rw [List.getElem?_zip_eq_some]; exact ⟨h1, by rw [List.getElem?_zip_eq_some]; exact ⟨h2, h3⟩⟩⟩
      · simp [h4, h5]
    · intro q hq he
      rcases hmem q hq with ⟨i', id', sh', L1, L1', B', g1, g2, g3, g4, g5, rfl⟩ | ⟨k', L1, g1, rfl⟩
      · simp only at he
        subst he
        by_cases hii : i = i'
        · subst hii
          rw [h3] at g3; injection g3 with g3; subst g3
          rw [h5] at g5; injection g5 with g5; subst g5; rfl
        · exact absurd g1 (hE.dist i i' id' sh sh' L hii h1 h2 h4)
      · simp only at he
        have hk : σ.length + k' < σ'.length := (List.getElem?_eq_some_iff.1 g1).1
        obtain ⟨x, hx, hx0⟩ := hholes k' (by omega)
        rw [he, h5] at hx; injection hx with hx; subst hx
        obtain ⟨B', hB', hsz, _⟩ := hE.one i _ L h1 h2
        rw [h5] at hB'; injection hB' with hB'; subst hB'
        have := hsz.2; omega
  · intro b h1 h2
    rw [hget]
    cases hb : H[b]? with
    | none => rfl
    | some y =>
      rw [Option.map_some]
      congr 1
      refine Zck _ _ fun q hq he => ?_
      rcases hmem q hq with ⟨i, id, sh, L, L', B, g1, g2, g3, g4, g5, rfl⟩ | ⟨k, L, g1, rfl⟩
      · simp only at he; subst he
        have := h2 i sh L g1 g2
        rw [g4] at this; cases this
      · simp only at he
        have hk : σ.length + k < σ'.length := (List.getElem?_eq_some_iff.1 g1).1
        exact h1 k (by omega) he.symm

def Zq7 (e : Emb) (σ : List Blk) : List Nat := (e.zip σ).filterMap fun p => if p.2.wr then p.1.map (·.1) else none
def killX (k : Option Nat) (e : Emb) (σ : List Blk) (H : List Blk) : List Blk := match k with | none => H | some b => H.mapIdx fun i x => if (Zq7 e σ).contains i then x else Zce (· != b) x
theorem Zem (k : Option Nat) (e : Emb) (σ : List Blk) (H : List Blk) (b : Nat) : (killX k e σ H)[b]? = (H[b]?).map fun x => match k with | none => x | some q => if (Zq7 e σ).contains b then x else Zce (· != q) x := by
  cases k with
  | none => simp [killX]
  | some q => simp [killX, List.getElem?_mapIdx]
theorem Zzh (k : Option Nat) (e : Emb) (σ : List Blk) (H : List Blk) : (killX k e σ H).length = H.length := by cases k <;> simp [killX]
theorem HRel.killX {G : Glob} {m : MapM} {H : List Blk} {w : World} (h : HRel G m H w) (k : Option Nat) (e : Emb) (σ : List Blk) : HRel G m (Flat.killX k e σ H) w := by
  cases k with
  | none => exact h
  | some q =>
    have hk := h.kill (· != q)
    have hg : ∀ b : Nat, (Flat.killX (some q) e σ H)[b]? = H[b]? ∨ (Flat.killX (some q) e σ H)[b]? = (H.map (Zce (· != q)))[b]? := by
      intro b
      rw [Zem]
      cases hb : H[b]? with
      | none => left; rfl
      | some x =>
        simp only [Option.map_some]
        split
        · left; rfl
        · right; simp [hb]
    refine ⟨?_, ?_, ?_, ?_, h.own, h.dis, h.glob, h.gwr⟩
    · intro b r hr
      rcases hg b with hb | hb
      · rw [hb]; exact h.reg b r hr
      · rw [hb]; exact hk.reg b r hr
    · intro b x hx hz
      rcases hg b with hb | hb
      · rw [hb] at hx; exact h.live b x hx hz
      · rw [hb] at hx; exact hk.live b x hx hz
    · intro b x r i v hx hr hv
      rcases hg b with hb | hb
      · rw [hb] at hx; exact h.cell b x r i v hx hr hv
      · rw [hb] at hx; exact hk.cell b x r i v hx hr hv
    · intro b x hx hp
      rcases hg b with hb | hb
      · rw [hb] at hx; exact h.pur b x hx hp
      · rw [hb] at hx; exact hk.pur b x hx hp
theorem Zrf {e : Emb} {σ : List Blk} {b : Nat} : b ∈ Zq7 e σ ↔ ∃ (i sh : Nat) (L : Blk), e[i]? = some (some (b, sh)) ∧ σ[i]? = some L ∧ L.wr = true := by
 unfold Zq7
 rw [List.mem_filterMap]
 constructor
 ·rintro ⟨⟨p, L⟩, hp, hq⟩
  obtain ⟨i, hi⟩ := List.getElem?_of_mem hp
  rw [List.getElem?_zip_eq_some] at hi
  simp only at hq
  split at hq
  ·rename_i hw
   cases p with
   | none => simp at hq
   | some p => simp at hq; subst hq; exact ⟨i, p.2, L, hi.1, hi.2, hw⟩
  ·cases hq
 ·rintro ⟨i, sh, L, h1, h2, h3⟩
  exact ⟨(some (b, sh), L), by rw [List.mem_iff_getElem?]; exact ⟨i, by rw [List.getElem?_zip_eq_some]; exact ⟨h1, h2⟩⟩, by simp [h3]⟩
def Zhw (H : List Blk) (e : Emb) (σ : List Blk) (res : Value) (σ' : List Blk) (nid : Nat) : Delta :=
  { val := Zsc (Zfk e nid (σ'.length - σ.length)) res, sets := Zcl (killX (Zbo e σ).head? e σ H) e σ σ' nid, kill := (Zbo e σ).head?, foot := Zxs e ++ (List.range (σ'.length - σ.length)).map (nid + ·) }

structure CallOK (H : List Blk) (e : Emb) (argsL argsC : List Value) (σ σ' : List Blk) (nid : Nat) : Prop where
  args : Zk1 e argsL argsC
  emb : Zh5 (killX (Zbo e σ).head? e σ H) e e σ
  dist : Zjx e σ = true
  names : Zgn e σ = true
  shape : Zhm (killX (Zbo e σ).head? e σ H) σ σ' nid = true
  one : (Zbo e σ).length ≤ 1

theorem Zqz {e : Emb} {σ : List Blk} {i b : Nat} (h : Zga e σ i b) : b ∈ Zbo e σ := by
 obtain ⟨sh, L, h1, h2, h3, h4⟩ := h
 refine List.mem_filterMap.2 ⟨(some (b, sh), L), ?_, by simp [h3, h4]⟩
 rw [List.mem_iff_getElem?]
 exact ⟨i, by rw [List.getElem?_zip_eq_some]; exact ⟨h1, h2⟩⟩

theorem Zoi {m : MapM} {xs : Array Value} {ys : Array Value} (h : L2 (CR0 m) xs.toList ys.toList) (hx : xs.toList.all Zdt = true) : L2 (VR m) xs.toList ys.toList := by
 simp only [List.all_eq_true] at hx
 refine h.mono fun x hxm y hxy => ?_
 have := hx x hxm
 simp only [Zdt, Bool.and_eq_true, Bool.not_eq_true'] at this
 exact Zqh (by rw [Zj2 this.2]; exact hxy) this.1

theorem Zoc.call {P : Program} {G : Glob} {nt : Nat} {ops : Array Oper} {o : Oper} {s : St} {f : Operand} {args : Array Operand} {ts : Array TypeId} {k : FuncId} {first captured : Array Value}
    (ho : o.op = .call { callee := .value f, args := args, argTypes := ts }) (hf : s.eval f = .func (.func k) first captured) (hcap : first.toList.all Zdt = true ∧ captured.toList.all Zdt = true) (hk : Zdq P k = true) (hg : Zd7 nt s (Zeg ops o) = some true) (hd : Zdn nt o.dst = true)
    {argsL : List Value} {σ σ' : List Blk} {res : Value} (hC : Zae P G k argsL σ res σ') (e : Emb) (nid : Nat)
    (hok : CallOK s.heap e argsL (first.toList ++ args.toList.map s.eval ++ captured.toList) σ σ' nid) :
    Zoc P G nt ops o s ((Zhw s.heap e σ res σ' nid).apply o.dst s) := by
  intro E m a w hr K Q hK
  rw [Zfp hg hr, if_pos rfl]
  have hfv := hr.eval f
  rw [hf] at hfv
  obtain ⟨first', captured', hf', hL1, hL2⟩ := hfv
  have hex := Zq1 (P := P) ho hf' hk w
  have hargsC : L2 (VR m) (first.toList ++ args.toList.map s.eval ++ captured.toList) (first' ++ args.map a.eval ++ captured').toList := by
    simp only [Array.toList_append, Array.toList_map]
    refine ((Zoi hL1 hcap.1).append ?_).append (Zoi hL2 hcap.2)
    refine ⟨by simp, fun i x y hx hy => ?_⟩
    simp only [List.getElem?_map, Option.map_eq_some_iff] at hx hy
    obtain ⟨p, hp1, rfl⟩ := hx
    obtain ⟨q, hq1, rfl⟩ := hy
    rw [hp1] at hq1; injection hq1 with hq1; subst hq1
    exact hr.eval p
  -- the heap, and who may be named
  obtain ⟨p, hp1, hp2⟩ : ∃ p : Nat → Bool, (∀ b, p b = true → ¬ ∃ i, Zga e σ i b) ∧ ((Zbo e σ).head? = none ∧ (p = fun _ => true) ∨ ∃ b, (Zbo e σ).head? = some b ∧ (p = (· != b))) := by
    have h1 := hok.one
    cases hm : Zbo e σ with
    | nil =>
      refine ⟨fun _ => true, fun b _ ⟨i, hi⟩ => ?_, .inl ⟨rfl, rfl⟩⟩
      have := Zqz hi
      rw [hm] at this; cases this
    | cons b l =>
      rw [hm] at h1
      have hl : l = [] := by simpa using h1
      subst hl
      refine ⟨(· != b), fun b' hb' ⟨i, hi⟩ => ?_, .inr ⟨b, rfl, rfl⟩⟩
      have := Zqz hi
      rw [hm] at this
      simp at this hb'
      exact hb' this
  have hH1 : HRel G m (killX (Zbo e σ).head? e σ s.heap) w := hr.heap.killX _ _ _
  have hN : ∀ (i : Nat) (x : Blk), (killX (Zbo e σ).head? e σ s.heap)[i]? = some x → Zgu e σ i → ∀ v, v ∈ x.cells → Zbw p v = true := by
    rcases hp2 with ⟨h1, rfl⟩ | ⟨b, h1, rfl⟩
    · exact fun i x hx _ v hv => Zhx (fun _ => rfl) v
    · intro i x hx hu v hv
      rw [h1, Zem] at hx
      simp only [Option.map_eq_some_iff] at hx
      obtain ⟨y, hy, hyx⟩ := hx
      have hni : (Zq7 e σ).contains i = false := by
        cases hc : (Zq7 e σ).contains i with
        | false => rfl
        | true =>
          obtain ⟨q, sh, L, g1, g2, g3⟩ := Zrf.1 (by simpa using hc)
          have := hu q sh L g1 g2
          rw [g3] at this; cases this
      rw [hni] at hyx
      simp only [Bool.false_eq_true, if_false] at hyx
      subst hyx
      exact hr.heap.named_kill (· != b) i _ (by simp [hy]) v hv
  obtain ⟨hel, hone⟩ := Zgo hok.emb
  have hE : EmbOK (killX (Zbo e σ).head? e σ s.heap) e σ := ⟨hel, hone, Zsx (H := killX (Zbo e σ).head? e σ s.heap) hok.dist⟩
  have hnm : ∀ (i : Nat) (L : Blk), σ[i]? = some L → L.pur = true ∨ ∀ v, v ∈ L.cells → Zbw (inE e) v = true := by
    intro i L hL
    have := hok.names
    simp only [Zgn, List.all_eq_true, Bool.or_eq_true] at this
    exact this L (List.mem_of_getElem? hL)
  have hargs := Zsu hH1 hE _ _ _ hok.args hargsC
  have hemb := hH1.embed hE hnm
  obtain ⟨hA, hin⟩ := Z1i hE hok.shape
  have hcall := hC (mE m e σ) w (first' ++ args.map a.eval ++ captured').toList hemb hargs
  rw [Array.toArray_toList] at hcall
  unfold Oper.wp
  rw [hex]
  show Calls P k (first' ++ args.map a.eval ++ captured') w _
  refine hcall.mono ?_
  rintro en w' ⟨v', m', rfl, h', hv, hF⟩
  obtain ⟨g1, g2, g3⟩ := Zyx hH1 hr.frame hE hA h' hF hp1 hN
  have hval := Z44 hH1 hE hA hF hv
  refine hK (mB m m' e σ σ' nid) _ w' ?_
  have hsets : ∀ b, (Zbo e σ).head? = some b → Zeb (killX (some b) e σ s.heap) (Zcl (killX (some b) e σ s.heap) e σ σ' nid) = Zeb (s.kill (· != b)).heap (Zcl (killX (some b) e σ s.heap) e σ σ' nid) := by
    intro b hb
    rw [hb] at hin hA
    have hin1 : ∀ q, q ∈ Zcl (killX (some b) e σ s.heap) e σ σ' nid → q.1 < (killX (some b) e σ s.heap).length := hin
    refine List.ext_getElem? fun i => ?_
    rw [Zgv _ _ hin1, Zgv _ _ (fun q hq => by have := hin1 q hq; rw [Zzh] at this; simpa [St.kill] using this)]
    rw [Zem]
    simp only [St.kill, List.getElem?_map]
    cases hy : s.heap[i]? with
    | none => rfl
    | some y =>
      simp only [Option.map_some]
      congr 1
      split
      · rename_i hc
        obtain ⟨q, sh, L, a1, a2, a3⟩ := Zrf.1 (by simpa using hc)
        have hql : q < σ'.length := by have := (List.getElem?_eq_some_iff.1 a2).1; have := hA.len; omega
        have hmemS : ∃ z, (i, z) ∈ Zcl (killX (some b) e σ s.heap) e σ σ' nid := by
          refine ⟨{ y with cells := Zcp (Zfk e nid (σ'.length - σ.length)) σ'[q] }, ?_⟩
          unfold Zcl
          refine List.mem_append_left _ (List.mem_filterMap.2 ⟨(some (i, sh), (L, σ'[q])), ?_, ?_⟩)
          · rw [List.mem_iff_getElem?]
            exact ⟨q, by rw [List.getElem?_zip_eq_some]; exact ⟨a1, by rw [List.getElem?_zip_eq_some]; exact ⟨a2, by simp [hql]⟩⟩⟩
          · simp only [a3, if_true, Zem, hy, hc, Option.map_some]
        have key : ∀ (l : List (Nat × Blk)) (u u' : Blk), (∃ z, (i, z) ∈ l) → l.foldl (fun x p => if p.1 = i then p.2 else x) u = l.foldl (fun x p => if p.1 = i then p.2 else x) u' := by
          intro l
          induction l with
          | nil => rintro u u' ⟨z, hz⟩; cases hz
          | cons p l ih =>
            rintro u u' ⟨z, hz⟩
            simp only [List.foldl_cons]
            by_cases hp : p.1 = i
            · rw [if_pos hp, if_pos hp]
            · rw [if_neg hp, if_neg hp]
              refine ih _ _ ⟨z, ?_⟩
              rcases List.mem_cons.1 hz with h | h
              · subst h; exact absurd rfl hp
              · exact h
        exact key _ _ _ hmemS
      · rfl
  unfold Delta.apply Zhw
  rcases hp2 with ⟨h1, rfl⟩ | ⟨b, h1, rfl⟩
  · simp only [h1]
    refine SRel.put ?_ hd hval
    refine ⟨hr.size, fun i => (hr.tmps i).mono fun b r hb => g3 b r rfl hb, hr.defers, ?_, g2⟩
    rw [h1] at g1; exact g1
  · simp only [h1]
    refine SRel.put ?_ hd hval
    refine ⟨hr.size, fun i => ((hr.tmps i).killV (· != b)).congr (p := (· != b)) (fun q r hq hb => g3 q r hq hb) (Zgi _ _), hr.defers, ?_, g2⟩
    rw [h1] at g1
    show HRel G _ (Zeb (s.kill (· != b)).heap _) w'
    rw [← hsets b h1]; exact g1

end Go.Flat
end
section
/- Operations that do the same wherever their part of the state is the same. -/
namespace Go.Flat
section
variable {P : Program} {G : Glob} {nt : Nat} {ops : Array Oper} {o : Oper} {s : St}

def Zek : Value → List Nat
  | .pointer (some ⟨b, _, none⟩) => [b]
  | .slice (some ⟨b, _, _⟩) _ _ => [b]
  | _ => []

theorem Zam {s s' : St} {foot : List Nat} (h : Agree ops o foot s s') {x : Operand} (hx : x ∈ o.op.operands) : s'.eval x = s.eval x := by
 cases x with
 | tmp t =>
  refine h.tmps t ?_
  unfold Oper.looksAt
  exact List.mem_append_left _ (List.mem_filterMap.2 ⟨.tmp t, by simpa using hx, rfl⟩)
 | _ => rfl
theorem Zhn {s s' : St} {foot : List Nat} (h : Agree ops o foot s s') : Zd7 nt s' (Zeg ops o) = Zd7 nt s (Zeg ops o) := by
 unfold Zeg
 cases hg : o.guard with
 | none => rfl
 | some p =>
  obtain ⟨j, want⟩ := p
  simp only [Option.map_some]
  cases ht : (ops[j]?).bind (·.dst) with
  | none => rfl
  | some t =>
   have := h.tmps t (by
    unfold Oper.looksAt
    exact List.mem_append_right _ (by simp [hg, ht]))
   simp only [Zd7, this]

theorem Zat.run {δ : Delta} (hg : Zd7 nt s (Zeg ops o) = some true) (hd : Zdn nt o.dst = true) (h : ∀ s', Agree ops o δ.foot s s' → Z2h P G o s' (δ.apply o.dst s')) : Zat P G nt ops o s δ :=
 fun s' ha => Zoc.run (by rw [Zhn ha]; exact hg) hd (h s' ha)
theorem Zat.skip (hg : Zd7 nt s (Zeg ops o) = some false) (hd : Zdn nt o.dst = true) : Zat P G nt ops o s { val := undef } := by
 intro s' ha
 have := Zoc.skip (P := P) (G := G) (nt := nt) (ops := ops) (o := o) (s := s') (by rw [Zhn ha]; exact hg) hd
 simpa [Delta.apply, Zeb] using this
theorem Zat.value {v : Value} {sets : List (Nat × Blk)} {foot : List Nat} (hg : Zd7 nt s (Zeg ops o) = some true) (hd : Zdn nt o.dst = true) (h : ∀ s', Agree ops o foot s s' → Zbe P G o s' v sets) : Zat P G nt ops o s { val := v, sets := sets, foot := foot } :=
 Zat.run hg hd fun s' ha => (h s' ha).opOK

variable (hg : Zd7 nt s (Zeg ops o) = some true) (hd : Zdn nt o.dst = true)
include hg hd

theorem Z10 {x : Operand} (ho : o.op = .move x ∨ o.op = .assign x) {v : Value} (h : s.eval x = v) : Zat P G nt ops o s { val := v } :=
  Zat.value hg hd fun s' ha => by
    have he : s'.eval x = v := by rw [Zam ha (by rcases ho with ho | ho <;> rw [ho] <;> simp [Op.operands])]; exact h
    rw [← he]; exact Zvv ho
theorem Z4n {c x y : Operand} {v : Value} (ho : o.op = .pick c x y) (h : Zte s c x y = some v) : Zat P G nt ops o s { val := v } :=
 Zat.value hg hd fun s' ha => Zve ho (by
  have e := fun z hz => Zam (x := z) ha (by rw [ho]; exact hz)
  unfold Zte at h ⊢
  rw [e c (by simp [Op.operands]), e x (by simp [Op.operands]), e y (by simp [Op.operands])]; exact h)
theorem Z26 {t : TypeId} {nid : Nat} {x : Blk} (ho : o.op = .alloc t) (h : Zp8 P s.heap t nid = some x) : Zat P G nt ops o s { val := Zhf nid, sets := [(nid, x)], foot := [nid] } :=
 Zat.value hg hd fun s' ha => Zum ho (by
  unfold Zp8 at h ⊢
  rw [show Zd3 s'.heap nid = Zd3 s.heap nid from by unfold Zd3; rw [ha.heap nid (by simp), ha.len]]; exact h)
theorem Z5j {t : TypeId} {x : Operand} {nid : Nat} {b : Blk} (ho : o.op = .box t x) (h : Zry s.heap (s.eval x) nid = some b) : Zat P G nt ops o s { val := Zhf nid, sets := [(nid, b)], foot := [nid] } :=
 Zat.value hg hd fun s' ha => Zyj ho (by
  unfold Zry at h ⊢
  rw [Zam ha (x := x) (by rw [ho]; simp [Op.operands]), show Zd3 s'.heap nid = Zd3 s.heap nid from by unfold Zd3; rw [ha.heap nid (by simp), ha.len]]; exact h)
theorem Z4g {t : TypeId} {x : Operand} {v : Value} (ho : o.op = .load t x) (h : Zeh P G t s.heap (s.eval x) = some v) : Zat P G nt ops o s { val := v, foot := Zek (s.eval x) } :=
 Zat.value hg hd fun s' ha => Zv0 ho (by
  rw [Zam ha (x := x) (by rw [ho]; simp [Op.operands])]
  have hh := ha.heap
  generalize s.eval x = v at h hh ⊢
  unfold Zeh at h ⊢
  split at h
  ·rename_i ag n b of hk
   rw [hh b (by simp [Zek])]; exact h
  ·rename_i ag n g of q hk
   exact h
  ·cases h)
theorem Z24 {t : TypeId} {x y : Operand} {b : Nat} {blk : Blk} (ho : o.op = .store t x y) (h : Zfh P t s.heap (s.eval x) (s.eval y) = some (b, blk)) : Zat P G nt ops o s { val := undef, sets := [(b, blk)], foot := Zek (s.eval x) } :=
 Zat.value hg hd fun s' ha => Zs3 ho (by
  rw [Zam ha (x := x) (by rw [ho]; simp [Op.operands]), Zam ha (x := y) (by rw [ho]; simp [Op.operands])]
  have hh := ha.heap
  generalize s.eval x = v at h hh ⊢
  unfold Zfh at h ⊢
  split at h
  ·rename_i ag n b' of hk
   rw [hh b' (by simp [Zek])]; exact h
  ·cases h)
theorem Z5q {op : BinOp} {t yt : TypeId} {x y : Operand} {v : Value} (ho : o.op = .binOp op t x y yt) (h : Zbx P op t x y (s.eval x) (s.eval y) = some v) : Zat P G nt ops o s { val := v } :=
 Zat.value hg hd fun s' ha => Zzf ho (by rw [Zam ha (x := x) (by rw [ho]; simp [Op.operands]), Zam ha (x := y) (by rw [ho]; simp [Op.operands])]; exact h)
theorem Z6g {op : UnOp} {t : TypeId} {x : Operand} {v : Value} (ho : o.op = .unOp op t x) (h : unD P op (s.eval x) = some v) : Zat P G nt ops o s { val := v } :=
 Zat.value hg hd fun s' ha => Zz4 ho (by rw [Zam ha (x := x) (by rw [ho]; simp [Op.operands])]; exact h)
theorem Z4r {src dst : TypeId} {x : Operand} {v : Value} (ho : o.op = .convert src dst x) (h : Zky P src dst (s.eval x) = some v) : Zat P G nt ops o s { val := v } :=
 Zat.value hg hd fun s' ha => Zwu ho (by rw [Zam ha (x := x) (by rw [ho]; simp [Op.operands])]; exact h)
theorem Ztx {t : TypeId} {x : Operand} {f : Nat} {v : Value} (ho : o.op = .fieldAddr t x f) (h : Zsd P t (s.eval x) f = some v) : Zat P G nt ops o s { val := v } :=
 Zat.value hg hd fun s' ha => Zoa ho (by rw [Zam ha (x := x) (by rw [ho]; simp [Op.operands])]; exact h)
theorem Zuz {t : TypeId} {x y : Operand} {v : Value} (ho : o.op = .indexAddr t x y) (h : Zyl P t (s.eval x) (s.eval y) = some v) : Zat P G nt ops o s { val := v } :=
 Zat.value hg hd fun s' ha => Zn8 ho (by rw [Zam ha (x := x) (by rw [ho]; simp [Op.operands]), Zam ha (x := y) (by rw [ho]; simp [Op.operands])]; exact h)
theorem Z3m {t : TypeId} {x y : Operand} {v : Value} (ho : o.op = .index t x y) (h : Znd P t (s.eval x) (s.eval y) = some v) : Zat P G nt ops o s { val := v } :=
 Zat.value hg hd fun s' ha => Zug ho (by rw [Zam ha (x := x) (by rw [ho]; simp [Op.operands]), Zam ha (x := y) (by rw [ho]; simp [Op.operands])]; exact h)
theorem Z00 {t : TypeId} {x y : Operand} {v : Value} (ho : o.op = .index t x y) (h : Zlj P t (s.eval x) (s.eval y) = some v) : Zat P G nt ops o s { val := v } :=
 Zat.value hg hd fun s' ha => Zsi ho (by rw [Zam ha (x := x) (by rw [ho]; simp [Op.operands]), Zam ha (x := y) (by rw [ho]; simp [Op.operands])]; exact h)
theorem Z22 {t : TypeId} {ps : Array (Nat × Operand)} {v : Value} (ho : o.op = .build t ps) (h : Zsl P t (ps.toList.map fun p => (p.1, s.eval p.2)) = some v) : Zat P G nt ops o s { val := v } :=
 Zat.value hg hd fun s' ha => Zt4 ho (by
  rw [List.map_congr_left (fun p hp => by rw [Zam ha (x := p.2) (by rw [ho]; simp only [Op.operands]; simpa using ⟨p.1, by simpa using hp⟩)])]; exact h)
theorem Z57 {t : TypeId} {n : Nat} {ps : Array (Nat × Operand)} {nid : Nat} {v : Value} {b : Blk} (ho : o.op = .buildSlice t n ps) (h : Z18 P s.heap t n (ps.toList.map fun p => (p.1, s.eval p.2)) nid = some (v, b)) : Zat P G nt ops o s { val := v, sets := [(nid, b)], foot := [nid] } :=
 Zat.value hg hd fun s' ha => Zym ho (by
  rw [List.map_congr_left (fun p hp => by rw [Zam ha (x := p.2) (by rw [ho]; simp only [Op.operands]; simpa using ⟨p.1, by simpa using hp⟩)])]
  unfold Z18 at h ⊢
  rw [show Zd3 s'.heap nid = Zd3 s.heap nid from by unfold Zd3; rw [ha.heap nid (by simp), ha.len]]; exact h)
theorem Zvz {f : Fn} {xs ys : Array Operand} {v : Value} (ho : o.op = .makeFunc f xs ys) (h : Zrd s f xs ys = some v) : Zat P G nt ops o s { val := v } :=
 Zat.value hg hd fun s' ha => Zp9 ho (by
  have e := fun z hz => Zam (x := z) ha (by rw [ho]; exact hz)
  have e1 : xs.map s'.eval = xs.map s.eval := Array.map_congr_left fun z hz => e z (by simp [Op.operands, hz])
  have e2 : ys.map s'.eval = ys.map s.eval := Array.map_congr_left fun z hz => e z (by simp [Op.operands, hz])
  unfold Zrd at h ⊢
  rw [e1, e2]
  have e3 : (xs.toList.all fun x => Zdt (s'.eval x)) = xs.toList.all fun x => Zdt (s.eval x) := by
   rw [Bool.eq_iff_iff]; simp only [List.all_eq_true]
   exact ⟨fun hh z hz => by rw [← e z (by simp [Op.operands, Array.mem_toList_iff.1 hz])]; exact hh z hz, fun hh z hz => by rw [e z (by simp [Op.operands, Array.mem_toList_iff.1 hz])]; exact hh z hz⟩
  have e4 : (ys.toList.all fun x => Zdt (s'.eval x)) = ys.toList.all fun x => Zdt (s.eval x) := by
   rw [Bool.eq_iff_iff]; simp only [List.all_eq_true]
   exact ⟨fun hh z hz => by rw [← e z (by simp [Op.operands, Array.mem_toList_iff.1 hz])]; exact hh z hz, fun hh z hz => by rw [e z (by simp [Op.operands, Array.mem_toList_iff.1 hz])]; exact hh z hz⟩
  rw [e3, e4]; exact h)
theorem Zyh {x : Operand} {i : Nat} {v : Value} (ho : o.op = .extract x i) (h : Z2n (s.eval x) i = some v) : Zat P G nt ops o s { val := v } :=
 Zat.value hg hd fun s' ha => Zqt ho (by rw [Zam ha (x := x) (by rw [ho]; simp [Op.operands])]; exact h)
theorem Zvm {x : Operand} {v : Value} (ho : o.op = .nilCheck x) (h : Z3b (s.eval x) = some v) : Zat P G nt ops o s { val := v } :=
 Zat.value hg hd fun s' ha => Zqj ho (by rw [Zam ha (x := x) (by rw [ho]; simp [Op.operands])]; exact h)
theorem Zn5 {t : TypeId} {x : Operand} {v : Value} (ho : o.op = .makeInterface t x) (h : Zr6 P t (s.eval x) = some v) : Zat P G nt ops o s { val := v } :=
 Zat.value hg hd fun s' ha => Zkx ho (by rw [Zam ha (x := x) (by rw [ho]; simp [Op.operands])]; exact h)
theorem Z2r {t : TypeId} {x : Operand} {lo hi : Option Operand} {v : Value} (ho : o.op = .slice t x lo hi none) (h : Zhc P s.heap t (s.eval x) (lo.map s.eval) (hi.map s.eval) = some v) : Zat P G nt ops o s { val := v, foot := Zek (s.eval x) } :=
  Zat.value hg hd fun s' ha => Zu5 ho (by
    have e := fun z hz => Zam (x := z) ha (by rw [ho]; exact hz)
    rw [e x (by simp [Op.operands]), show lo.map s'.eval = lo.map s.eval from by cases lo with | none => rfl | some z => simp [e z (by simp [Op.operands])],
      show hi.map s'.eval = hi.map s.eval from by cases hi with | none => rfl | some z => simp [e z (by simp [Op.operands])]]
    have hh := ha.heap
    generalize s.eval x = v at h hh ⊢
    unfold Zhc at h ⊢
    split at h
    · rename_i b hu; exact h
    · rename_i e' b o' n c hu
      have : ∀ sz, Znu s'.heap b sz = Znu s.heap b sz := fun sz => by unfold Znu; rw [hh b (by simp [Zek])]
      simp only [this]; exact h
    · rename_i e' n c hu; exact h
    · rename_i n e' b o' hu
      have : Zqe s'.heap b = Zqe s.heap b := by unfold Zqe; rw [hh b (by simp [Zek])]
      simp only [this]; exact h
    · cases h)
theorem Z45 {t : TypeId} {x y : Operand} {nid : Nat} {v : Value} {b : Blk} (ho : o.op = .makeSlice t x y) (h : Zpy P s.heap t (s.eval x) (s.eval y) nid = some (v, b)) : Zat P G nt ops o s { val := v, sets := [(nid, b)], foot := [nid] } :=
 Zat.value hg hd fun s' ha => Zvr ho (by
  rw [Zam ha (x := x) (by rw [ho]; simp [Op.operands]), Zam ha (x := y) (by rw [ho]; simp [Op.operands])]
  unfold Zpy at h ⊢
  rw [show Zd3 s'.heap nid = Zd3 s.heap nid from by unfold Zd3; rw [ha.heap nid (by simp), ha.len]]; exact h)
theorem Z5m {src dst : TypeId} {x : Operand} {v : Value} (ho : o.op = .convert src dst x) (h : Zsy P s.heap src dst (s.eval x) = some v) : Zat P G nt ops o s { val := v, foot := Zek (s.eval x) } :=
 Zat.value hg hd fun s' ha => Zyr ho (by
  rw [Zam ha (x := x) (by rw [ho]; simp [Op.operands])]
  have hh := ha.heap
  generalize s.eval x = v at h hh ⊢
  unfold Zsy at h ⊢
  split at h
  ·rename_i e' b of n c hu1 hu2
   rw [hh b (by simp [Zek])]; exact h
  ·rename_i e' n c hu1 hu2; exact h
  ·cases h)
theorem Z58 {t : TypeId} {x : Operand} {v : Value} (ho : o.op = .call { callee := .builtin .len, args := #[x], argTypes := #[t] }) (h : Z3e P t (s.eval x) = some v) : Zat P G nt ops o s { val := v } :=
 Zat.value hg hd fun s' ha => Zyv ho (by rw [Zam ha (x := x) (by rw [ho]; simp [Op.operands, Call.operands])]; exact h)
omit hg hd in
theorem Zp0 {σ σ' : List Blk} {sz : Nat} {v : Value} (h : ∀ b, b ∈ Zek v → σ'[b]? = σ[b]?) : Zhg σ' sz v = Zhg σ sz v := by
 unfold Zhg
 split
 ·rename_i b of n c; rw [h b (by simp [Zek])]
 ·rfl
 ·rfl
 ·rfl
theorem Z4y {t u : TypeId} {x y : Operand} {v : Value} {b : Nat} {blk' : Blk} (ho : o.op = .call { callee := .builtin .copy, args := #[x, y], argTypes := #[t, u] }) (h : Zup P s.heap t (s.eval x) (s.eval y) = some (v, b, blk')) : Zat P G nt ops o s { val := v, sets := [(b, blk')], foot := Zek (s.eval x) ++ Zek (s.eval y) } :=
 Zat.value hg hd fun s' ha => Zwf ho (by
  rw [Zam ha (x := x) (by rw [ho]; simp [Op.operands, Call.operands]), Zam ha (x := y) (by rw [ho]; simp [Op.operands, Call.operands])]
  have hh := ha.heap
  unfold Zup at h ⊢
  split at h
  ·rename_i sz zc by_ b' of dn c ht hx
   try simp only [ht, hx]
   rw [Zp0 (σ := s.heap) (σ' := s'.heap) (fun q hq => hh q (by simp [hq])), hh b' (by simp [hx, Zek])]; exact h
  ·cases h)
theorem Z0g {t u : TypeId} {x y : Operand} {v : Value} {b : Nat} {blk' : Blk} {d : TypeDesc} (ho : o.op = .call { callee := .builtin .append, args := #[x, y], argTypes := #[t, u] })
  (hu : P.underlying u = some d) (hdd : (∃ e2, d = .slice e2) ∨ d = .string) (h : Zpv P s.heap t (s.eval x) (s.eval y) = some (v, b, blk')) : Zat P G nt ops o s { val := v, sets := [(b, blk')], kill := some b, foot := Zek (s.eval x) ++ Zek (s.eval y) } :=
 Zat.run hg hd fun s' ha => Zzg ho hu hdd (by
  rw [Zam ha (x := x) (by rw [ho]; simp [Op.operands, Call.operands]), Zam ha (x := y) (by rw [ho]; simp [Op.operands, Call.operands])]
  have hh := ha.heap
  unfold Zpv at h ⊢
  split at h
  ·rename_i sz zc by_ b' of n c ht hx
   try simp only [ht, hx]
   rw [Zp0 (σ := s.heap) (σ' := s'.heap) (fun q hq => hh q (by simp [hq])), hh b' (by simp [hx, Zek])]; exact h
  ·cases h)
end
end Go.Flat
end
section
/- Calls among others; code; a contract out of a Zbj. -/
namespace Go.Flat
section
variable {P : Program} {G : Glob}


theorem Zjb {H H' : List Blk} {e : Emb} : ∀ {ps : Emb} {Ls : List Blk}, (∀ p, p ∈ ps → ∀ q, p = some q → H'[q.1]? = H[q.1]?) → Zh5 H e ps Ls → Zh5 H' e ps Ls
 | [], [], _, h => trivial
 | p :: ps, L :: Ls, hh, h => by
  refine ⟨?_, Zjb (fun p hp => hh p (by simp [hp])) h.2⟩
  have h1 := h.1
  cases p with
  | none => exact h1
  | some q =>
   obtain ⟨id, sh⟩ := q
   unfold Zd1 at h1 ⊢
   simp only at h1 ⊢
   have := hh (some (id, sh)) (by simp) (id, sh) rfl
   simp only at this
   rw [this]; exact h1
 | [], _ :: _, _, h => h.elim
 | _ :: _, [], _, h => h.elim

theorem Zif {α β : Type} {f g : α → Option β} : ∀ {l : List α}, (∀ x, x ∈ l → f x = g x) → l.filterMap f = l.filterMap g
 | [], _ => rfl
 | x :: l, h => by
  rw [List.filterMap_cons, List.filterMap_cons, h x (by simp), Zif (fun y hy => h y (by simp [hy]))]

theorem Zvt {H H' : List Blk} {e : Emb} {argsL argsC : List Value} {σ σ' : List Blk} {res : Value} {nid : Nat} (h : ∀ b, b ∈ (Zhw H e σ res σ' nid).foot → H'[b]? = H[b]?) (hok : CallOK H e argsL argsC σ σ' nid) :
  CallOK H' e argsL argsC σ σ' nid ∧ Zhw H' e σ res σ' nid = Zhw H e σ res σ' nid := by
 have hid : ∀ p, p ∈ e → ∀ q, p = some q → H'[q.1]? = H[q.1]? := by
  rintro p hp q rfl
  refine h q.1 ?_
  simp only [Zhw]
  exact List.mem_append_left _ (List.mem_filterMap.2 ⟨some q, hp, rfl⟩)
 have hnew : ∀ k, k < σ'.length - σ.length → H'[nid + k]? = H[nid + k]? := by
  intro k hk
  refine h _ ?_
  simp only [Zhw]
  exact List.mem_append_right _ (List.mem_map.2 ⟨k, by simpa using hk, rfl⟩)
 have hidK : ∀ p, p ∈ e → ∀ q, p = some q → (killX (Zbo e σ).head? e σ H')[q.1]? = (killX (Zbo e σ).head? e σ H)[q.1]? := fun p hp q hq => by
  rw [Zem, Zem, hid p hp q hq]
 have hshape : Zhm (killX (Zbo e σ).head? e σ H') σ σ' nid = Zhm (killX (Zbo e σ).head? e σ H) σ σ' nid := by
  unfold Zhm
  congr 1
  rw [Bool.eq_iff_iff]
  simp only [List.all_eq_true, List.mem_range]
  constructor
  ·intro hh k hk
   have := hh k hk
   rw [Zem, hnew k hk, ← Zem] at this; exact this
  ·intro hh k hk
   have := hh k hk
   rw [Zem, hnew k hk, ← Zem]; exact this
 refine ⟨⟨hok.args, Zjb hidK hok.emb, hok.dist, hok.names, by rw [hshape]; exact hok.shape, hok.one⟩, ?_⟩
 unfold Zhw
 congr 1
 unfold Zcl
 congr 1
 refine Zif fun p hp => ?_
 obtain ⟨i, hi⟩ := List.getElem?_of_mem hp
 rw [List.getElem?_zip_eq_some] at hi
 cases hp1 : p.1 with
 | none => rfl
 | some q =>
  obtain ⟨id, sh⟩ := q
  have := hidK (some (id, sh)) (by rw [← hp1]; exact List.mem_of_getElem? hi.1) (id, sh) rfl
  simp only at this
  simp only [this]

theorem Zzv {nt : Nat} {ops : Array Oper} {o : Oper} {s : St} (hg : Zd7 nt s (Zeg ops o) = some true) (hd : Zdn nt o.dst = true) {f : Operand} {args : Array Operand} {ts : Array TypeId} {k : FuncId} {first captured : Array Value}
  (ho : o.op = .call { callee := .value f, args := args, argTypes := ts }) (hf : s.eval f = .func (.func k) first captured) (hcap : first.toList.all Zdt = true ∧ captured.toList.all Zdt = true) (hk : Zdq P k = true)
  {argsL : List Value} {σ σ' : List Blk} {res : Value} (hC : Zae P G k argsL σ res σ') (e : Emb) (nid : Nat)
  (hok : CallOK s.heap e argsL (first.toList ++ args.toList.map s.eval ++ captured.toList) σ σ' nid) : Zat P G nt ops o s (Zhw s.heap e σ res σ' nid) := by
 intro s' ha
 have hop : ∀ x, x ∈ o.op.operands → s'.eval x = s.eval x := fun x hx => Zam ha hx
 have hf' : s'.eval f = .func (.func k) first captured := by rw [hop f (by rw [ho]; simp [Op.operands, Call.operands])]; exact hf
 have hargs : args.toList.map s'.eval = args.toList.map s.eval := List.map_congr_left fun x hx => hop x (by rw [ho]; simp [Op.operands, Call.operands]; exact .inr (by simpa using hx))
 obtain ⟨h1, h2⟩ := Zvt (H := s.heap) (H' := s'.heap) (res := res) ha.heap hok
 have := Zoc.call (P := P) (G := G) (nt := nt) (ops := ops) ho hf' hcap hk (by rw [Zhn ha]; exact hg) hd hC e nid (s := s') (by rw [hargs]; exact h1)
 rw [h2] at this
 exact this


def Zby (P : Program) (G : Glob) (nt : Nat) (ops : Array Oper) (K : Trace → St → Prop) : List Oper → Trace → St → Prop
  | [], tr, s => K tr s
  | o :: l, tr, s => ∃ δ, Zat P G nt ops o s δ ∧ Zby P G nt ops K l (tr ++ [(o, δ)]) (δ.apply o.dst s)

theorem Zby.step {nt : Nat} {ops : Array Oper} {K : Trace → St → Prop} {o : Oper} {l : List Oper} {tr : Trace} {s : St} {δ : Delta} (h : Zat P G nt ops o s δ) (h2 : Zby P G nt ops K l (tr ++ [(o, δ)]) (δ.apply o.dst s)) : Zby P G nt ops K (o :: l) tr s := ⟨δ, h, h2⟩

theorem Zat.opTo {nt : Nat} {ops : Array Oper} {o : Oper} {s : St} {δ : Delta} (h : Zat P G nt ops o s δ) : Zoc P G nt ops o s (δ.apply o.dst s) := h s ⟨fun _ _ => rfl, fun _ _ => rfl, rfl⟩

theorem Zby.seq {nt : Nat} {ops : Array Oper} {K : Trace → St → Prop} : ∀ {l : List Oper} {tr : Trace} {s : St}, Zby P G nt ops K l tr s → Zei P G nt ops (fun s => ∃ tr, K tr s) l s
 | [], tr, s, h => ⟨tr, h⟩
 | o :: l, tr, s, ⟨δ, h1, h2⟩ => ⟨_, h1.opTo, Zby.seq h2⟩

theorem Ztv {S : Nat → Bool} : ∀ (l : Trace) (k : Nat) (s : St) (p : Oper × Delta), S (k + l.length) = true → stS s S (l ++ [p]) k = p.2.apply p.1.dst (stS s S l k)
 | [], k, s, p, h => by simp [stS] at h ⊢; rw [h]; simp
 | (o, δ) :: l, k, s, p, h => by
  simp only [List.cons_append, stS]
  exact Ztv l (k + 1) _ p (by rw [← h]; congr 1; simp; omega)

theorem Zby.drawn {nt : Nat} {ops : Array Oper} {K : Trace → St → Prop} {s0 : St} : ∀ {l : List Oper} {tr : Trace} {s : St}, Zby P G nt ops K l tr s → s = stS s0 (fun _ => true) tr 0 →
    (∀ (i : Nat) (o : Oper) (δ : Delta), tr[i]? = some (o, δ) → Zat P G nt ops o (stS s0 (fun _ => true) (tr.take i) 0) δ) →
    ∃ tr' : Trace, tr'.map (·.1) = tr.map (·.1) ++ l ∧ K tr' (stS s0 (fun _ => true) tr' 0) ∧ ∀ (i : Nat) (o : Oper) (δ : Delta), tr'[i]? = some (o, δ) → Zat P G nt ops o (stS s0 (fun _ => true) (tr'.take i) 0) δ
  | [], tr, s, h, hs, hl => ⟨tr, by simp, by subst hs; exact h, hl⟩
  | o :: l, tr, s, ⟨δ, h1, h2⟩, hs, hl => by
    obtain ⟨tr', g1, g2, g3⟩ := Zby.drawn (s0 := s0) h2 (by rw [Ztv _ _ _ _ rfl, hs]) (by
      intro i o' δ' hi
      rcases Nat.lt_or_ge i tr.length with hlt | hge
      · rw [List.getElem?_append_left hlt] at hi
        rw [List.take_append_of_le_length (by omega)]
        exact hl i o' δ' hi
      · rw [List.getElem?_append_right hge] at hi
        have : i - tr.length = 0 := by
          rcases Nat.eq_zero_or_pos (i - tr.length) with h0 | h0
          · exact h0
          · rw [List.getElem?_eq_none (by simp; omega)] at hi; cases hi
        rw [this] at hi
        simp at hi
        obtain ⟨rfl, rfl⟩ := hi
        have hie : i = tr.length := by omega
        subst hie
        rw [List.take_append_of_le_length (Nat.le_refl _), List.take_length, ← hs]
        exact h1)
    exact ⟨tr', by rw [g1]; simp, g2, g3⟩


def Zqo (G : Glob) (nt : Nat) (E : Ent) (Q : Exit → St → Prop) : Exit → Act → World → Prop := fun e a w => ∃ s m, Q e s ∧ SRel G nt E m s a w

def WpL (P : Program) (G : Glob) (nt n0 : Nat) (c : Code) (Q : Exit → St → Prop) (s : St) : Prop :=
  ∀ E m a w, (∀ b, n0 ≤ b → E.m b = none) → SRel G nt E m s a w → c.wp P (Zqo G nt E Q) a w

def Zd8 (next : St → Prop) (Q : Exit → St → Prop) : Exit → St → Prop
  | .normal, s => next s
  | e, s => Q e s
def Zef (id : Nat) (Q : Exit → St → Prop) : Exit → St → Prop
  | .exit id', s => if id' = id then Q .normal s else Q (.exit id') s
  | e, s => Q e s

variable {nt n0 : Nat} {Q : Exit → St → Prop} {s : St}
theorem WpL.mono {c : Code} {Q' : Exit → St → Prop} (h : WpL P G nt n0 c Q s) (hq : ∀ e s, Q e s → Q' e s) : WpL P G nt n0 c Q' s :=
 fun E m a w h0 hr => wp_mono (h E m a w h0 hr) fun e a w ⟨s, m, h1, h2⟩ => ⟨s, m, hq _ _ h1, h2⟩
theorem WpL.skip (h : Q .normal s) : WpL P G nt n0 .skip Q s := fun E m a w h0 hr => wp_skip ⟨s, m, h, hr⟩
theorem WpL.label {l : Nat} (h : Q .normal s) : WpL P G nt n0 (.label l) Q s := fun E m a w h0 hr => wp_label ⟨s, m, h, hr⟩
theorem WpL.exit {i : Nat} (h : Q (.exit i) s) : WpL P G nt n0 (.exit i) Q s := fun E m a w h0 hr => wp_exit ⟨s, m, h, hr⟩
theorem WpL.goto {l : Nat} (h : Q (.goto l) s) : WpL P G nt n0 (.goto l) Q s := fun E m a w h0 hr => wp_goto ⟨s, m, h, hr⟩
theorem WpL.ret (h : Q .ret s) : WpL P G nt n0 .ret Q s := fun E m a w h0 hr => wp_ret ⟨s, m, h, hr⟩
theorem WpL.seq {x y : Code} (h : ∀ K : St → Prop, (∀ s, WpL P G nt n0 y Q s → K s) → WpL P G nt n0 x (Zd8 K Q) s) : WpL P G nt n0 (.seq x y) Q s := by
 intro E m a w h0 hr
 refine wp_seq (wp_mono (h _ (fun s hs => hs) E m a w h0 hr) ?_)
 rintro e a' w' ⟨s', m', h1, h2⟩
 cases e with
 | normal => exact h1 E m' a' w' h0 h2
 | _ => exact ⟨s', m', h1, h2⟩
theorem WpL.cond {c : Operand} {x y : Code} {t : Bool} (hc : s.eval c = .bool t) (h : WpL P G nt n0 (if t then x else y) Q s) : WpL P G nt n0 (.cond c x y) Q s := by
 intro E m a w h0 hr
 refine wp_cond (t := t) ?_ (h E m a w h0 hr)
 rw [Zbd hr (by rw [hc]; rfl), hc]
theorem WpL.cond_t {c : Operand} {x y : Code} (hc : s.eval c = .bool true) (h : WpL P G nt n0 x Q s) : WpL P G nt n0 (.cond c x y) Q s := WpL.cond hc h
theorem WpL.cond_f {c : Operand} {x y : Code} (hc : s.eval c = .bool false) (h : WpL P G nt n0 y Q s) : WpL P G nt n0 (.cond c x y) Q s := WpL.cond hc h
theorem WpL.block {i : Nat} {c : Code} (h : WpL P G nt n0 c (Zef i Q) s) : WpL P G nt n0 (.block i c) Q s := by
 intro E m a w h0 hr
 refine wp_block (wp_mono (h E m a w h0 hr) ?_)
 rintro e a' w' ⟨s', m', h1, h2⟩
 cases e with
 | exit i' =>
  by_cases he : i' = i
  ·simp only [Zef, if_pos he] at h1
   simp only [Exit.inBlock, if_pos he]
   exact ⟨s', m', h1, h2⟩
  ·simp only [Zef, if_neg he] at h1
   simp only [Exit.inBlock, if_neg he]
   exact ⟨s', m', h1, h2⟩
 | _ => exact ⟨s', m', h1, h2⟩
theorem WpL.region {i : Nat} {ops : Array Oper} (h : Zby P G nt ops (fun _ s => Q .normal s) ops.toList [] s) : WpL P G nt n0 (.region i ops false) Q s := by
 intro E m a w h0 hr
 refine wp_region_list ?_
 exact Zei.sound (Q := Zqo G nt E Q) (K := fun s => ∃ tr : Trace, Q .normal s) (fun s m a w ⟨_, h1⟩ h2 => ⟨s, m, h1, h2⟩) _ _ h.seq m a w hr
theorem WpL.drawn {i : Nat} {ops : Array Oper} (hm : P.follows .mixedOrders = true) (h : Zby P G nt ops (fun tr s' => Zeq ops tr s.heap.length = true ∧ Q .normal s') ops.toList [] s) : WpL P G nt n0 (.region i ops true) Q s := by
 intro E m a w h0 hr
 obtain ⟨tr, g1, ⟨g2, g4⟩, g3⟩ := Zby.drawn (s0 := s) h rfl (by simp)
 exact Zvb hm (by simpa using g1) g2 g3 hr (fun m a w hr => ⟨_, m, g4, hr⟩)


def Zbz (G : Glob) (nt n0 : Nat) (s s' : St) : Prop := ∀ E m a w, (∀ b, n0 ≤ b → E.m b = none) → SRel G nt E m s a w → ∃ m', SRel G nt E m' s' a w
theorem Zbz.refl (s : St) : Zbz G nt n0 s s := fun E m a w h0 hr => ⟨m, hr⟩
theorem Zbz.trans {s s' s'' : St} (h : Zbz G nt n0 s s') (h' : Zbz G nt n0 s' s'') : Zbz G nt n0 s s'' := fun E m a w h0 hr => let ⟨m', h1⟩ := h E m a w h0 hr; h' E m' a w h0 h1
theorem WpL.weak {c : Code} {s' : St} (hw : Zbz G nt n0 s s') (h : WpL P G nt n0 c Q s') : WpL P G nt n0 c Q s := fun E m a w h0 hr => let ⟨m', h1⟩ := hw E m a w h0 hr; h E m' a w h0 h1

theorem Zbz.reserve (s : St) (n : Nat) : Zbz G nt n0 s { s with heap := s.heap ++ List.replicate n hole } := by
 intro E m a w h0 hr
 refine ⟨m, hr.size, hr.tmps, hr.defers, ?_, hr.frame⟩
 induction n with
 | zero => simpa using hr.heap
 | succ n ih =>
  have := ih.reserve hole rfl rfl
  rw [List.append_assoc] at this
  have e : List.replicate n hole ++ [hole] = List.replicate (n + 1) hole := by rw [List.replicate_succ']
  rw [e] at this
  exact this

def Z0a (n : Nat) (s s' : St) : Prop := ∀ i, s'.tmps i = dead ∨ (s'.tmps i = s.tmps i ∧ Zfi (fun b => decide (b < n)) (s.tmps i) = true)
theorem Zbz.take {s s' : St} (n : Nat) (hn : n0 ≤ n) (ht : Z0a n s s') (hh : s'.heap = s.heap.take n) (hb : (s'.heap.all fun x => x.pur || x.cells.all (Zbw fun b => decide (b < n))) = true) : Zbz G nt n0 s s' := by
  intro E m a w h0 hr
  have hag : ∀ b r, decide (b < n) = true → m b = some r → (fun b => if b < n then m b else none) b = some r := by
    intro b r hb' hr'
    simp only at hb' ⊢
    rw [if_pos (by simpa using hb')]; exact hr'
  have hsub : ∀ b r, (if b < n then m b else none) = some r → b < n ∧ m b = some r := by
    intro b r h
    split at h
    · rename_i hlt; exact ⟨hlt, h⟩
    · cases h
  simp only [List.all_eq_true, Bool.or_eq_true] at hb
  have hget : ∀ b, b < n → s'.heap[b]? = s.heap[b]? := fun b hb' => by rw [hh, List.getElem?_take, if_pos hb']
  refine ⟨fun b => if b < n then m b else none, hr.size, fun i => ?_, hr.defers, ⟨?_, ?_, ?_, ?_, ?_, ?_, ?_, ?_⟩, ?_⟩
  · rcases ht i with h1 | ⟨h1, h2⟩
    · rw [h1]; exact VR.dead
    · rw [h1]; exact (hr.tmps i).congr hag h2
  · intro b r h
    obtain ⟨h1, h2⟩ := hsub b r h
    obtain ⟨blk, g1, g2⟩ := hr.heap.reg b r h2
    exact ⟨blk, by rw [hget b h1]; exact g1, g2⟩
  · intro b blk h1 h2
    have hlt : b < n := by have := (List.getElem?_eq_some_iff.1 h1).1; rw [hh, List.length_take] at this; omega
    rw [hget b hlt] at h1
    obtain ⟨r, hr'⟩ := hr.heap.live b blk h1 h2
    exact ⟨r, by rw [if_pos hlt]; exact hr'⟩
  · intro b blk r i v h1 h2 h3
    obtain ⟨g1, g2⟩ := hsub b r h2
    have h1' := h1
    rw [hget b g1] at h1
    obtain ⟨v', g3, g4⟩ := hr.heap.cell b blk r i v h1 g2 h3
    refine ⟨v', g3, ?_⟩
    rcases hb blk (List.mem_of_getElem? h1') with hp | hp
    · have := hr.heap.pur b blk h1 hp v (List.mem_of_getElem? h3)
      rw [g4.pure this]; exact CR.of_pure this
    · exact g4.congr hag (hp v (List.mem_of_getElem? h3))
  · intro b blk h1 h2
    have hlt : b < n := by have := (List.getElem?_eq_some_iff.1 h1).1; rw [hh, List.length_take] at this; omega
    rw [hget b hlt] at h1
    exact hr.heap.pur b blk h1 h2
  · intro b r h hw
    exact hr.heap.own b r (hsub b r h).2 hw
  · intro b b' r r' hne h h' hw
    exact hr.heap.dis b b' r r' hne (hsub b r h).2 (hsub b' r' h').2 hw
  · exact hr.heap.glob
  · intro b r j h hw
    exact hr.heap.gwr b r j (hsub b r h).2 hw
  · refine ⟨hr.frame.os, hr.frame.tape, hr.frame.output, hr.frame.size, hr.frame.block, fun b r h hw hlt => hr.frame.reg b r (hsub b r h).2 hw hlt, fun b r h hk => ?_⟩
    have hb' : b < n := by
      rcases Nat.lt_or_ge b n0 with h1 | h1
      · omega
      · rw [h0 b h1] at h; cases h
    rw [if_pos hb']
    exact hr.frame.keep b r h hk

theorem WpL.loop {α : Type} {c : Code} (st : α → St) (φ : α → Prop) (μ : α → Nat) (x0 : α) (h0 : φ x0) (hs : Zbz G nt n0 s (st x0))
  (round : ∀ x, φ x → WpL P G nt n0 c (Zd8 (fun s1 => ∃ y, φ y ∧ μ y < μ x ∧ Zbz G nt n0 s1 (st y)) Q) (st x)) : WpL P G nt n0 (.loop c) Q s := by
 intro E m a w hE hr
 obtain ⟨m1, hr1⟩ := hs E m a w hE hr
 refine wp_loop_ghost (fun n a w => ∃ x m, φ x ∧ μ x = n ∧ SRel G nt E m (st x) a w) (μ x0) ⟨x0, m1, h0, rfl, hr1⟩ ?_
 rintro n a w ⟨x, m, hx, rfl, hr⟩
 refine wp_mono (round x hx E m a w hE hr) ?_
 rintro e a' w' ⟨s', m', h1, h2⟩
 cases e with
 | normal =>
  obtain ⟨y, hy1, hy2, hy3⟩ := h1
  obtain ⟨m2, hr2⟩ := hy3 E m' a' w' hE h2
  exact ⟨μ y, hy2, y, m2, hy1, rfl, hr2⟩
 | _ => exact ⟨s', m', h1, h2⟩


def Zfs (P : Program) (G : Glob) (s : St) : ResultVar → Option Value
  | .tmp t => some (s.tmps t)
  | .cell p ty => Zeh P G ty s.heap (s.tmps p)
def rvM (a : Act) : ResultVar → Sem Value
  | .tmp t => pure (a.tmps.getD t undef)
  | .cell p t => do loadVar t (← asAddr (a.tmps.getD p undef))

theorem Ze6 {E : Ent} {m : MapM} {a : Act} {w : World} (hr : SRel G nt E m s a w) {r : ResultVar} {v : Value} (h1 : Zfs P G s r = some v) :
  ∃ v', (rvM a r).run P w = .ok v' w ∧ VR m v v' := by
 cases r with
 | tmp t =>
  simp only [Zfs, Option.some.injEq] at h1
  subst h1
  exact ⟨a.tmps.getD t undef, rfl, hr.tmps t⟩
 | cell p ty =>
  simp only [Zfs] at h1
  obtain ⟨u, f1, f2⟩ := Znr hr.heap h1 (hr.tmps p)
  have hp : ∃ ad, a.tmps.getD p undef = .pointer (some ad) := by
   have hv := hr.tmps p
   unfold Zeh at h1
   split at h1
   ·rename_i ag n b o hk he
    rw [he] at hv
    obtain ⟨r, _, h3⟩ := hv
    exact ⟨_, h3⟩
   ·rename_i ag n b o q hk he
    rw [he] at hv
    exact ⟨_, hv⟩
   ·cases h1
  obtain ⟨ad, hp⟩ := hp
  rw [hp] at f1
  refine ⟨u, ?_, f2⟩
  simp only [Instr.loadAt, Instr.sureAddr, Sem.run_bind, Sem.run_pure, Result.andThen_ok] at f1
  simp only [rvM, Sem.run_bind, Sem.run_pure, Result.andThen_ok, hp, asAddr, f1]

def Zfv (P : Program) (G : Glob) (fn : Func) (s : St) : Option Value :=
  match fn.results.toList with
  | [] => some (.tuple #[])
  | [r] => Zfs P G s r
  | [r1, r2] => (Zfs P G s r1).bind fun v1 => (Zfs P G s r2).bind fun v2 => if Zh0 v1 || Zh0 v2 then none else some (.tuple #[v1, v2])
  | [r1, r2, r3] => (Zfs P G s r1).bind fun v1 => (Zfs P G s r2).bind fun v2 => (Zfs P G s r3).bind fun v3 => if Zh0 v1 || Zh0 v2 || Zh0 v3 then none else some (.tuple #[v1, v2, v3])
  | _ => none

theorem Zdv {E : Ent} {m : MapM} {a : Act} {w : World} (hr : SRel G nt E m s a w) {fn : Func} {v : Value} (h : Zfv P G fn s = some v) : ∃ v', (results fn a.tmps).run P w = .ok v' w ∧ VR m v v' := by
  have hres : results fn a.tmps = (do let vs ← fn.results.mapM (rvM a); pure (if h : vs.size = 1 then vs[0] else .tuple vs)) := by
    unfold results
    congr 1
  unfold Zfv at h
  split at h
  · rename_i hl
    have : fn.results = #[] := by cases hh : fn.results; simp_all
    injection h with h; subst h
    exact ⟨.tuple #[], by rw [hres, this]; simp, by simp [VR]; exact L2.nil⟩
  · rename_i r hl
    have : fn.results = #[r] := by cases hh : fn.results; simp_all
    obtain ⟨v', f1, f2⟩ := Ze6 hr h
    exact ⟨v', by rw [hres, this]; simp [f1], f2⟩
  · rename_i r1 r2 hl
    have : fn.results = #[r1, r2] := by cases hh : fn.results; simp_all
    cases h1 : Zfs P G s r1 with
    | none => simp [h1] at h
    | some v1 =>
      cases h2 : Zfs P G s r2 with
      | none => simp [h1, h2] at h
      | some v2 =>
        simp only [h1, h2, Option.bind_some] at h
        split at h
        · cases h
        · injection h with h; subst h
          obtain ⟨u1, f1, f2⟩ := Ze6 hr h1
          obtain ⟨u2, g1, g2⟩ := Ze6 hr h2
          rename_i hb
          simp only [Bool.or_eq_true, not_or, Bool.not_eq_true] at hb
          rw [Zf0 hb.1] at f2
          rw [Zf0 hb.2] at g2
          exact ⟨.tuple #[u1, u2], by rw [hres, this]; simp [f1, g1], _, rfl, L2.cons f2 (L2.cons g2 L2.nil)⟩
  · rename_i r1 r2 r3 hl
    have : fn.results = #[r1, r2, r3] := by cases hh : fn.results; simp_all
    cases h1 : Zfs P G s r1 with
    | none => simp [h1] at h
    | some v1 =>
      cases h2 : Zfs P G s r2 with
      | none => simp [h1, h2] at h
      | some v2 =>
        cases h3 : Zfs P G s r3 with
        | none => simp [h1, h2, h3] at h
        | some v3 =>
        simp only [h1, h2, h3, Option.bind_some] at h
        split at h
        · cases h
        · injection h with h; subst h
          obtain ⟨u1, f1, f2⟩ := Ze6 hr h1
          obtain ⟨u2, g1, g2⟩ := Ze6 hr h2
          obtain ⟨u3, k1, k2⟩ := Ze6 hr h3
          rename_i hb
          simp only [Bool.or_eq_true, not_or, Bool.not_eq_true] at hb
          rw [Zf0 hb.1.1] at f2
          rw [Zf0 hb.1.2] at g2
          rw [Zf0 hb.2] at k2
          exact ⟨.tuple #[u1, u2, u3], by rw [hres, this]; simp [f1, g1, k1], _, rfl, L2.cons f2 (L2.cons g2 (L2.cons k2 L2.nil))⟩
  · cases h

end
end Go.Flat
end
section
/- A contract out of a Zbj; rules on forgetting. -/
namespace Go.Flat
section
variable {P : Program} {G : Glob}

structure FirstOK (H : List Blk) (e : Emb) (σ σ' : List Blk) : Prop where
  le : σ.length ≤ σ'.length
  at_ : ∀ (b : Nat) (L : Blk), b < σ.length → σ'[b]? = some L → ∃ B, H[b]? = some B ∧ e[b]? = some (some (b, 0)) ∧ L.wr = B.wr ∧ L.fix = B.fix ∧ L.mv = B.mv ∧ L.sz = B.sz ∧ L.cells.length = B.cells.length

def Zpo (e : Emb) (res v : Value) : Prop := match res with
  | .tuple xs => (match v with | .tuple ys => Zk1 e xs.toList ys.toList | _ => False)
  | res => Zj4 e res v
structure EndOK (P : Program) (G : Glob) (fn : Func) (σ : List Blk) (res : Value) (σ' : List Blk) (s : St) (v : Value) (e : Emb) : Prop where
  out : Zfv P G fn s = some v
  emb : EmbOK s.heap e σ'
  nm : ∀ (i : Nat) (L : Blk), σ'[i]? = some L → L.pur = true ∨ ∀ v, v ∈ L.cells → Zbw (inE e) v = true
  val : Zpo e res v
  first : FirstOK s.heap e σ σ'

theorem Zw9 {e : Emb} {x y : Value} (h : Zj4 e x y) : Zh0 x = false := by
  cases x
  case tuple => unfold Zj4 at h; split at h
                · rename_i hp; cases hp
                · cases h
  all_goals rfl
theorem Z01 {e : Emb} {x y : Value} (h : Zj4 e x y) : Zh0 y = false := by
 have hx := Zw9 h
 unfold Zj4 at h
 split at h
 ·subst h; exact hx
 ·split at h
  ·split at h
   ·rfl
   ·cases h
  ·cases h
  ·rename_i hna hnt
   have h1 : Zh3 x = false := by cases x <;> first | rfl | exact absurd rfl (hna _)
   exact (Zrc h h1 hx).2
theorem Zt5 {mc : MapM} {H : List Blk} {G : Glob} {w : World} {e : Emb} {σ : List Blk} (hH : HRel G mc H w) (hE : EmbOK H e σ) : ∀ (xs ys zs : List Value), Zk1 e xs ys → L2 (VR1 mc) ys zs → L2 (VR1 (mE mc e σ)) xs zs
 | [], [], zs, _, h => by have := h.nil_inv; subst this; exact L2.nil
 | x :: xs, y :: ys, zs, ha, h => by
  obtain ⟨z, zs', rfl, h1, h2⟩ := h.inv
  refine L2.cons ?_ (Zt5 hH hE xs ys zs' ha.2 h2)
  have := Zvx hH hE ha.1 (v' := z) (by rw [Zf0 (Z01 ha.1)]; exact h1)
  rw [Zf0 (Zw9 ha.1)] at this; exact this
 | [], _ :: _, _, ha, _ => ha.elim
 | _ :: _, [], _, ha, _ => ha.elim

theorem EndOK.back {mc : MapM} {w' : World} {fn : Func} {σ σ' : List Blk} {res v v' : Value} {s : St} {e : Emb} {m : MapM} {w : World} {ds ds' : List Deferred}
    (h : EndOK P G fn σ res σ' s v e) (hm : ∀ b, σ.length ≤ b → m b = none) (hH : HRel G mc s.heap w') (hF : Frame ⟨m, w, ds⟩ mc w') (hv : VR mc v v') :
    HRel G (mE mc e σ') σ' w' ∧ VR (mE mc e σ') res v' ∧ Frame ⟨m, w, ds'⟩ (mE mc e σ') w' := by
  refine ⟨hH.embed h.emb h.nm, ?_, ?_⟩
  · have h1 := h.val
    unfold Zpo at h1
    split at h1
    · split at h1
      · obtain ⟨ys', rfl, h2⟩ := hv
        exact ⟨ys', rfl, Zt5 hH h.emb _ _ _ h1 h2⟩
      · cases h1
    · exact Zvx hH h.emb h1 hv
  · refine ⟨hF.os, hF.tape, hF.output, hF.size, hF.block, ?_, ?_⟩
    · intro b r hr hw hlt
      rcases Zgb h.emb hr with ⟨id, sh, L, r0, B, h1, h2, h3, rfl, hB, _⟩ | ⟨L, h1, h2, rfl, hw', _⟩
      · unfold Zcz at hw hlt ⊢
        by_cases hL : L.wr = true
        · rw [if_pos hL] at hw hlt ⊢
          exact hF.reg id r0 h3 hw hlt
        · rw [if_neg hL] at hw; cases hw
      · simp only [Zfb] at hw; rw [hw'] at hw; cases hw
    · intro b r hr hk
      have hb : b < σ.length := by
        rcases Nat.lt_or_ge b σ.length with h1 | h1
        · exact h1
        · have := hm b h1
          simp only at hr
          rw [this] at hr; cases hr
      have hlt : b < σ'.length := by have := h.first.le; omega
      obtain ⟨B, h1, h2, h3, h4, h5, h6, h7⟩ := h.first.at_ b _ hb (by simp [hlt] : σ'[b]? = some σ'[b])
      have hk' := hF.keep b r hr hk
      obtain ⟨_, g1, g2, g3, g4, g5⟩ := hH.at_ h1 hk'
      rw [Zkp h2 (by simp [hlt] : σ'[b]? = some σ'[b]), hk', Option.map_some]
      congr 1
      unfold Zcz
      obtain ⟨rg, rlo, rhi, rlen, rsz, rwr, rfix, rmv⟩ := r
      simp only at g1 g2 g3 g4 g5
      split
      · rw [h5, g5]
      · rename_i hw
        rw [h3] at hw
        simp only [h7, g3, h6, g4, h4, g2, h5, g5, Nat.add_zero]
        congr 1
        rw [g1]
        cases hB : B.wr with
        | false => rfl
        | true => exact absurd hB hw

def Zjp (args : List Value) : Nat → Value := fun i => (args[i]?).getD undef

theorem L2.at_ {α β : Type} {R : α → β → Prop} {xs : List α} {ys : List β} (h : L2 R xs ys) (i : Nat) : (∃ x y, xs[i]? = some x ∧ ys[i]? = some y ∧ R x y) ∨ (xs[i]? = none ∧ ys[i]? = none) := by
 rcases Nat.lt_or_ge i xs.length with hi | hi
 ·have hj : i < ys.length := by rw [← h.1]; exact hi
  exact .inl ⟨xs[i], ys[i], by simp [hi], by simp [hj], h.2 i _ _ (by simp [hi]) (by simp [hj])⟩
 ·exact .inr ⟨by simp [hi], by have := h.1; simp; omega⟩

def Zo9 (P : Program) (G : Glob) (fn : Func) (σ : List Blk) (res : Value) (σ' : List Blk) : Exit → St → Prop
  | .normal, s | .ret, s => ∃ v e, EndOK P G fn σ res σ' s v e
  | _, _ => False

theorem Zae.intro {f : FuncId} {fn : Func} {c : Code} {args : List Value} {σ σ' : List Blk} {res : Value} (hf : P.funcs[f]? = some fn) (hb : fn.body = some c) (hn : args.length ≤ fn.ntmps)
  (h : WpL P G fn.ntmps σ.length c (Zo9 P G fn σ res σ') ⟨Zjp args, σ⟩) : Zae P G f args σ res σ' := by
 intro m w args' hH hA
 refine calls_of_wp hf hb ?_
 have hl := hA.1
 have hdom : ∀ b, σ.length ≤ b → m b = none := fun b hb => hH.dom hb
 have h0 := h ⟨m, w, []⟩ m { tmps := args'.toArray ++ Array.replicate (fn.ntmps - args'.toArray.size) undef, defers := [] } w hdom
  ⟨by simp; omega, fun i => by
   rcases hA.at_ i with ⟨x, y, h1, h2, h3⟩ | ⟨h1, h2⟩
   ·have hi : i < args'.length := (List.getElem?_eq_some_iff.1 h2).1
    simp only [Zjp, h1, Option.getD_some]
    rw [Array.getD_eq_getD_getElem?, Array.getElem?_append_left (by simpa using hi)]
    simp only [List.getElem?_toArray, h2, Option.getD_some]
    exact h3
   ·simp only [Zjp, h1, Option.getD_none]
    have : args'.length ≤ i := by simpa using h2
    rw [Array.getD_eq_getD_getElem?, Array.getElem?_append_right (by simpa using this)]
    rw [Array.getElem?_replicate]
    split <;> exact VR.undef, rfl, hH, Frame.refl [] hH⟩
 refine wp_mono h0 ?_
 rintro e a w' ⟨s, m', hq, hr⟩
 have key : (∃ v e, EndOK P G fn σ res σ' s v e) → a.defers = [] ∧ ∃ v, (results fn a.tmps).run P w' = .ok v w' ∧ ∃ v' m', Ending.returned v = .returned v' ∧ HRel G m' σ' w' ∧ VR m' res v' ∧ Frame ⟨m, w, []⟩ m' w' := by
  rintro ⟨v, e, hE⟩
  obtain ⟨v', g1, g2⟩ := Zdv hr hE.out
  obtain ⟨k1, k2, k3⟩ := hE.back hdom hr.heap hr.frame g2 (ds' := [])
  exact ⟨hr.defers, v', g1, v', _, rfl, k1, k2, k3⟩
 cases e with
 | normal => exact key hq
 | ret => exact key hq
 | _ => exact hq.elim

end
end Go.Flat
end
section
/- Rules in the form in which the walks use them. -/
namespace Go.Flat
section
variable {P : Program} {G : Glob} {nt : Nat} {ops : Array Oper} {K : Trace → St → Prop} {o : Oper} {l : List Oper} {tr : Trace} {T : Nat → Value} {H : List Blk}

theorem Zby.val {v : Value} {d : Tmp} (h : Zat P G nt ops o ⟨T, H⟩ { val := v }) (hd : o.dst = some d) (k : Zby P G nt ops K l (tr ++ [(o, { val := v })]) ⟨upd T d v, H⟩) : Zby P G nt ops K (o :: l) tr ⟨T, H⟩ :=
 ⟨_, h, by simpa [Delta.apply, Zeb, hd, St.put] using k⟩
theorem Zby.valF {v : Value} {d : Tmp} {foot : List Nat} (h : Zat P G nt ops o ⟨T, H⟩ { val := v, foot := foot }) (hd : o.dst = some d) (k : Zby P G nt ops K l (tr ++ [(o, { val := v, foot := foot })]) ⟨upd T d v, H⟩) : Zby P G nt ops K (o :: l) tr ⟨T, H⟩ :=
 ⟨_, h, by simpa [Delta.apply, Zeb, hd, St.put] using k⟩
theorem Zby.sto {v : Value} {b : Nat} {x : Blk} {foot : List Nat} {H' : List Blk} (h : Zat P G nt ops o ⟨T, H⟩ { val := v, sets := [(b, x)], foot := foot }) (hd : o.dst = none) (hH : Zgf H b x = H') (k : Zby P G nt ops K l (tr ++ [(o, { val := v, sets := [(b, x)], foot := foot })]) ⟨T, H'⟩) : Zby P G nt ops K (o :: l) tr ⟨T, H⟩ :=
 ⟨_, h, by subst hH; simpa [Delta.apply, Zeb, hd, St.put] using k⟩
theorem Zby.new {v : Value} {d : Tmp} {b : Nat} {x : Blk} {foot : List Nat} {H' : List Blk} (h : Zat P G nt ops o ⟨T, H⟩ { val := v, sets := [(b, x)], foot := foot }) (hd : o.dst = some d) (hH : Zgf H b x = H') (k : Zby P G nt ops K l (tr ++ [(o, { val := v, sets := [(b, x)], foot := foot })]) ⟨upd T d v, H'⟩) : Zby P G nt ops K (o :: l) tr ⟨T, H⟩ :=
 ⟨_, h, by subst hH; simpa [Delta.apply, Zeb, hd, St.put] using k⟩
theorem Zby.skip {d : Tmp} (hg : Zd7 nt ⟨T, H⟩ (Zeg ops o) = some false) (hn : Zdn nt o.dst = true) (hd : o.dst = some d) (k : Zby P G nt ops K l (tr ++ [(o, { val := undef })]) ⟨upd T d undef, H⟩) : Zby P G nt ops K (o :: l) tr ⟨T, H⟩ :=
 Zby.val (Zat.skip hg hn) hd k
theorem Zby.done {s : St} (h : K tr s) : Zby P G nt ops K [] tr s := h


section
variable {op : BinOp} {t : TypeId} {x y : Operand} {k : IntKind} {a b : Int}
theorem Zq2 (op : BinOp) (t : TypeId) (x y : Operand) (k k' : IntKind) (a b : Int) : eqGuard op t x y (.int k a) (.int k' b) = pure () := by cases op <;> rfl
theorem Zdr {v : Value} (h : Z6 P (binOp op t (.int k a) (.int k b)) = some v) (hp : Zbm v = true) : Zbx P op t x y (.int k a) (.int k b) = some v := by
 unfold Zbx
 rw [if_pos (show (Zbm (.int k a) && Zbm (.int k b)) = true from rfl), Zq2, Zaa, Zad, Option.bind_some, h, Option.bind_some, if_pos hp]
theorem Zxa : Zbx P .lss t x y (.int k a) (.int k b) = some (.bool (decide (a < b))) := Zdr (by simp [binOp, Op.intCmp, Zad]) rfl
theorem Zxj : Zbx P .leq t x y (.int k a) (.int k b) = some (.bool (decide (a ≤ b))) := Zdr (by simp [binOp, Op.intCmp, Zad]) rfl
theorem Zxy : Zbx P .gtr t x y (.int k a) (.int k b) = some (.bool (decide (b < a))) := Zdr (by simp [binOp, Op.intCmp, Zad]) rfl
theorem Zxd : Zbx P .geq t x y (.int k a) (.int k b) = some (.bool (decide (b ≤ a))) := Zdr (by simp [binOp, Op.intCmp, Zad]) rfl
theorem Zrz : Zbx P .eql t x y (.int k a) (.int k b) = some (.bool (decide (a = b))) := Zdr (by simp [binOp, Op.intCmp, Zad]; rfl) rfl
theorem Zxk : Zbx P .neq t x y (.int k a) (.int k b) = some (.bool (decide (a ≠ b))) := Zdr (by simp [binOp, Op.intCmp, Zad]; by_cases h : a = b <;> simp [h]) rfl
theorem Zij {n : Int} (h1 : -9223372036854775808 ≤ n) (h2 : n ≤ 9223372036854775807) : IntKind.i64.wrap n = n := by
 simp only [IntKind.wrap, IntKind.bits, IntKind.signed, Bool.true_and]
 split
 ·rename_i h; simp at h; omega
 ·rename_i h; simp at h; omega
theorem Zaz {c : Int} (hc : a + b = c) (h1 : -9223372036854775808 ≤ c) (h2 : c ≤ 9223372036854775807) : Zbx P .add t x y (.int .i64 a) (.int .i64 b) = some (.int .i64 c) := Zdr (by subst hc; simp [binOp, Op.intArith, Zad, Zij h1 h2]) rfl
theorem Zde {c : Int} (hc : a - b = c) (h1 : -9223372036854775808 ≤ c) (h2 : c ≤ 9223372036854775807) : Zbx P .sub t x y (.int .i64 a) (.int .i64 b) = some (.int .i64 c) := Zdr (by subst hc; simp [binOp, Op.intArith, Zad, Zij h1 h2]) rfl
theorem Zx3 {c : Int} (hc : a * b = c) (h1 : -9223372036854775808 ≤ c) (h2 : c ≤ 9223372036854775807) : Zbx P .mul t x y (.int .i64 a) (.int .i64 b) = some (.int .i64 c) := Zdr (by subst hc; simp [binOp, Op.intArith, Zad, Zij h1 h2]) rfl
end
theorem Zd0 {b : Bool} : unD P .not (.bool b) = some (.bool !b) := by
 unfold unD
 rw [if_pos (show Zbm (.bool b) = true from rfl)]
 rfl
end
end Go.Flat
end
section
/- Rules in the form in which the walks use them, II. -/
namespace Go.Flat
section
variable {P : Program} {G : Glob} {nt n0 : Nat} {ops : Array Oper} {o : Oper} {s : St} {Q : Exit → St → Prop} {x y z : Code} {c : Operand}


theorem Zqk {next : St → Prop} {e : Exit} (h : Q e s) (he : e ≠ .normal) : Zd8 next Q e s := by cases e <;> first | exact h | exact absurd rfl he
theorem Zrq {next : St → Prop} {e : Exit} (h : Zd8 next Q e s) : (e = .normal ∧ next s) ∨ (e ≠ .normal ∧ Q e s) := by cases e <;> first | exact .inl ⟨rfl, h⟩ | exact .inr ⟨by simp, h⟩
theorem Z5k (h : WpL P G nt n0 x (Zd8 (WpL P G nt n0 y Q) Q) s) : WpL P G nt n0 (.seq x y) Q s :=
 WpL.seq fun K hK => h.mono fun e s hq => by
  rcases Zrq hq with ⟨rfl, h1⟩ | ⟨h1, h2⟩
  ·exact hK _ h1
  ·exact Zqk h2 h1
theorem Z6i {i : Nat} (h : Q .normal s) : Zef i Q (.exit i) s := by simp only [Zef, if_pos]; exact h
theorem Z6c {i j : Nat} (hne : (j == i) = false) (h : Q (.exit j) s) : Zef i Q (.exit j) s := by
 simp only [Zef]; rw [if_neg (by simpa using hne)]; exact h

section
variable {op : BinOp} {t : TypeId} {u v : Operand} {k : IntKind} {a b : Int}
theorem Zcq (h : a < b) : Zbx P .lss t u v (.int k a) (.int k b) = some (.bool true) := by rw [Zxa]; simp [h]
theorem Zcj (h : ¬ a < b) : Zbx P .lss t u v (.int k a) (.int k b) = some (.bool false) := by rw [Zxa]; simp [h]
theorem Zt2 (h : a ≤ b) : Zbx P .leq t u v (.int k a) (.int k b) = some (.bool true) := by rw [Zxj]; simp [h]
theorem Zva (h : ¬ a ≤ b) : Zbx P .leq t u v (.int k a) (.int k b) = some (.bool false) := by rw [Zxj]; simp [h]
theorem Zet (h : b < a) : Zbx P .gtr t u v (.int k a) (.int k b) = some (.bool true) := by rw [Zxy]; simp [h]
theorem Zej (h : ¬ b < a) : Zbx P .gtr t u v (.int k a) (.int k b) = some (.bool false) := by rw [Zxy]; simp [h]
theorem Zgm (h : b ≤ a) : Zbx P .geq t u v (.int k a) (.int k b) = some (.bool true) := by rw [Zxd]; simp [h]
theorem Zgl (h : ¬ b ≤ a) : Zbx P .geq t u v (.int k a) (.int k b) = some (.bool false) := by rw [Zxd]; simp [h]
theorem Zdl (h : a = b) : Zbx P .eql t u v (.int k a) (.int k b) = some (.bool true) := by rw [Zrz]; simp [h]
theorem Zge (h : ¬ a = b) : Zbx P .eql t u v (.int k a) (.int k b) = some (.bool false) := by rw [Zrz]; simp [h]
theorem Zc5 (h : a = b) : Zbx P .neq t u v (.int k a) (.int k b) = some (.bool false) := by rw [Zxk]; simp [h]
theorem Zdg (h : ¬ a = b) : Zbx P .neq t u v (.int k a) (.int k b) = some (.bool true) := by rw [Zxk]; simp [h]
end
def Z6a : Op → Option Operand | .move x | .assign x => some x | _ => none
section
variable {K : Trace → St → Prop} {l : List Oper} {tr : Trace} {T : Nat → Value} {H : List Blk}
theorem Z3r (hg : Zd7 nt s (Zeg ops o) = some true) (hd : Zdn nt o.dst = true) {f : Operand} {args : Array Operand} {ts : Array TypeId} {k : FuncId} (ho : o.op = .call { callee := .value f, args := args, argTypes := ts })
  (hf : s.eval f = .func (.func k) #[] #[]) (hk : Zdq P k = true) {vals : List Value} {res res' : Value} (hC : Zae P G k vals [] res []) (ha : args.toList.map s.eval = vals) (hp : vals.all Zbm = true) (hr : Zsc [] res = res') : Zat P G nt ops o s { val := res' } := by
 subst hr
 have hA : ∀ l : List Value, l.all Zbm = true → Zk1 [] l l := by
  intro l
  induction l with
  | nil => exact fun _ => trivial
  | cons v l ih =>
   intro h
   simp only [List.all_cons, Bool.and_eq_true] at h
   exact ⟨by unfold Zj4; rw [if_pos h.1], ih h.2⟩
 have := Zzv (P := P) (G := G) (nt := nt) (ops := ops) (o := o) (s := s) hg hd ho hf ⟨rfl, rfl⟩ hk hC [] 0 ⟨by simpa [ha] using hA vals hp, trivial, rfl, rfl, by simp [Zhm], by simp [Zbo]⟩
 simpa [Zhw, Zcl, Zfk, Zxs, Zbo] using this
end


theorem Z6e {fn : Func} {σ σ' : List Blk} {res v : Value} (e : Emb) (hr : Zfv P G fn s = some v) (he : Zh5 s.heap e e σ') (hd : Zjx e σ' = true) (hn : Zgn e σ' = true) (hv : Zpo e res v) (hf : FirstOK s.heap e σ σ') : ∃ v e, EndOK P G fn σ res σ' s v e := by
 obtain ⟨h1, h2⟩ := Zgo he
 refine ⟨v, e, hr, ⟨h1, h2, Zsx (H := s.heap) hd⟩, fun i L hL => ?_, hv, hf⟩
 unfold Zgn at hn
 simp only [List.all_eq_true, Bool.or_eq_true] at hn
 exact hn L (List.mem_of_getElem? hL)
theorem Z5c {fn : Func} {res v : Value} (hr : Zfv P G fn s = some v) (hv : Zpo [] res v) : ∃ v e, EndOK P G fn [] res [] s v e :=
 Z6e [] hr trivial rfl rfl hv ⟨Nat.le_refl _, fun b L hb => by simp at hb⟩
theorem Zep {fn : Func} {res v : Value} (hr : Zfv P G fn s = some v) (hp : Zbm res = true) (hv : res = v) : ∃ v e, EndOK P G fn [] res [] s v e := by
  refine Z5c hr ?_
  subst hv
  have ht := Zgs hp
  cases res <;> first | (show Zj4 _ _ _; unfold Zj4; rw [if_pos hp]) | cases ht
theorem Z4m (hg : Zd7 nt s (Zeg ops o) = some true) (hd : Zdn nt o.dst = true) {op : BinOp} {t yt : TypeId} {x y : Operand} {v vx vy : Value} (ho : o.op = .binOp op t x y yt) (hx : s.eval x = vx) (hy : s.eval y = vy) (h : Zbx P op t x y vx vy = some v) : Zat P G nt ops o s { val := v } :=
 Z5q hg hd ho (by rw [hx, hy]; exact h)
end
end Go.Flat
end
section
/- The rules of the walks, told apart by their heads. -/
namespace Go.Flat
structure C (P : Program) (G : Glob) (nt n0 : Nat) (c : Code) (Q : Exit → St → Prop) (s : St) : Prop where
  h : WpL P G nt n0 c Q s
structure X (Q : Exit → St → Prop) (e : Exit) (s : St) : Prop where
  h : Q e s
structure R (P : Program) (G : Glob) (nt : Nat) (ops : List Oper) (K : Trace → St → Prop) (l : List Oper) (tr : Trace) (T : Nat → Value) (H : List Blk) : Prop where
  h : Zby P G nt ops.toArray K l tr ⟨T, H⟩
def Z1v (P : Program) (G : Glob) (nt n0 : Nat) (c : Code) (Q : Exit → St → Prop) : Exit → St → Prop := Zd8 (C P G nt n0 c Q) Q

section
variable {P : Program} {G : Glob} {nt n0 : Nat} {Q : Exit → St → Prop} {s : St} {x y z : Code} {c : Operand}
theorem Zf (h : C P G nt n0 x (Z1v P G nt n0 y Q) s) : C P G nt n0 (.seq x y) Q s := ⟨Z5k (h.h.mono fun e s hq => by
 rcases Zrq hq with ⟨rfl, h1⟩ | ⟨h1, h2⟩
 ·exact h1.h
 ·exact Zqk h2 h1)⟩
theorem Zg {i : Nat} {L : List Oper} {T : Nat → Value} {H : List Blk} (h : R P G nt L (fun _ s => X Q .normal s) L [] T H) : C P G nt n0 (.region i L.toArray false) Q ⟨T, H⟩ := ⟨WpL.region (by
 have : ∀ (l : List Oper) (tr : Trace) (s : St), Zby P G nt L.toArray (fun _ s => X Q .normal s) l tr s → Zby P G nt L.toArray (fun _ s => Q .normal s) l tr s := by
  intro l
  induction l with
  | nil => exact fun tr s h => h.h
  | cons o l ih => exact fun tr s ⟨δ, h1, h2⟩ => ⟨δ, h1, ih _ _ h2⟩
 exact this _ _ _ h.h)⟩
theorem Zdu {i : Nat} {L : List Oper} (hm : P.follows .mixedOrders = true) {T : Nat → Value} {H : List Blk} (h : R P G nt L (fun tr s' => Zeq L.toArray tr H.length = true ∧ X Q .normal s') L [] T H) : C P G nt n0 (.region i L.toArray true) Q ⟨T, H⟩ := ⟨WpL.drawn hm (by
 have : ∀ (l : List Oper) (tr : Trace) (s1 : St), Zby P G nt L.toArray (fun tr s' => Zeq L.toArray tr H.length = true ∧ X Q .normal s') l tr s1 → Zby P G nt L.toArray (fun tr s' => Zeq L.toArray tr H.length = true ∧ Q .normal s') l tr s1 := by
  intro l
  induction l with
  | nil => exact fun tr s h => ⟨h.1, h.2.h⟩
  | cons o l ih => exact fun tr s ⟨δ, h1, h2⟩ => ⟨δ, h1, ih _ _ h2⟩
 exact this _ _ _ h.h)⟩
theorem Z2 (h : X Q .normal s) : C P G nt n0 .skip Q s := ⟨WpL.skip h.h⟩
theorem Zr8 {i : Nat} (h : X Q .normal s) : C P G nt n0 (.label i) Q s := ⟨WpL.label h.h⟩
theorem Zbh {i : Nat} (h : X Q (.exit i) s) : C P G nt n0 (.exit i) Q s := ⟨WpL.exit h.h⟩
theorem Zt (h : X Q .ret s) : C P G nt n0 .ret Q s := ⟨WpL.ret h.h⟩
theorem Zz (hc : s.eval c = .bool true) (h : C P G nt n0 x Q s) : C P G nt n0 (.cond c x y) Q s := ⟨WpL.cond_t hc h.h⟩
theorem Zv (hc : s.eval c = .bool false) (h : C P G nt n0 y Q s) : C P G nt n0 (.cond c x y) Q s := ⟨WpL.cond_f hc h.h⟩
theorem Z9 {i : Nat} (h : C P G nt n0 x (Zef i Q) s) : C P G nt n0 (.block i x) Q s := ⟨WpL.block h.h⟩
theorem Zb4 {s' : St} (hw : Zbz G nt n0 s s') (h : C P G nt n0 x Q s') : C P G nt n0 x Q s := ⟨WpL.weak hw h.h⟩
theorem Zaj (n : Nat) {T : Nat → Value} {H H' : List Blk} (hH : H ++ List.replicate n hole = H') (h : C P G nt n0 x Q ⟨T, H'⟩) : C P G nt n0 x Q ⟨T, H⟩ := by subst hH; exact Zb4 (Zbz.reserve ⟨T, H⟩ n) h
theorem Zb (h : C P G nt n0 x Q s) : X (Z1v P G nt n0 x Q) .normal s := ⟨h⟩
theorem Zar {i : Nat} (h : X Q (.exit i) s) : X (Z1v P G nt n0 x Q) (.exit i) s := ⟨h.h⟩
theorem Z3 (h : X Q .ret s) : X (Z1v P G nt n0 x Q) .ret s := ⟨h.h⟩
theorem Zaw {i j : Nat} (he : (j == i) = true) (h : X Q .normal s) : X (Zef i Q) (.exit j) s := by
 have : j = i := by simpa using he
 subst this; exact ⟨Z6i h.h⟩
theorem Ziq {i j : Nat} (he : (j == i) = false) (h : X Q (.exit j) s) : X (Zef i Q) (.exit j) s := ⟨Z6c he h.h⟩
theorem Zab {i : Nat} (h : X Q .normal s) : X (Zef i Q) .normal s := ⟨h.h⟩
theorem Zbq {i : Nat} (h : X Q .ret s) : X (Zef i Q) .ret s := ⟨h.h⟩
theorem Zu {fn : Func} {σ σ' : List Blk} {res : Value} (h : ∃ v e, EndOK P G fn σ res σ' s v e) : X (Zo9 P G fn σ res σ') .ret s := ⟨h⟩
theorem Zj0 {fn : Func} {σ σ' : List Blk} {res : Value} (h : ∃ v e, EndOK P G fn σ res σ' s v e) : X (Zo9 P G fn σ res σ') .normal s := ⟨h⟩
theorem Zbj {f : FuncId} {fn : Func} {c : Code} {args : List Value} {σ σ' : List Blk} {res : Value} (hf : P.funcs[f]? = some fn) (hb : fn.body = some c) {nt : Nat} (hn : fn.ntmps = nt) (hl : decide (args.length ≤ nt) = true)
  (h : C P G nt σ.length c (Zo9 P G fn σ res σ') ⟨Zjp args, σ⟩) : Zae P G f args σ res σ' := by subst hn; exact Zae.intro hf hb (by simpa using hl) h.h
theorem Z4h {α : Type} (st : α → St) (φ : α → Prop) (μ : α → Nat) (x0 : α) (h0 : φ x0) (hs : Zbz G nt n0 s (st x0))
  (round : ∀ x, φ x → C P G nt n0 y (Zd8 (fun s1 => ∃ y, φ y ∧ μ y < μ x ∧ Zbz G nt n0 s1 (st y)) Q) (st x)) : C P G nt n0 (.loop y) Q s := ⟨WpL.loop st φ μ x0 h0 hs fun x hx => (round x hx).h⟩
theorem Zas {next : St → Prop} (h : next s) : X (Zd8 next Q) .normal s := ⟨h⟩
theorem Zx4 {next : St → Prop} {e : Exit} (he : (match e with | .normal => false | _ => true) = true) (h : X Q e s) : X (Zd8 next Q) e s := ⟨Zqk h.h (by cases e <;> simp at he ⊢)⟩


variable {ops l : List Oper} {K : Trace → St → Prop} {tr : Trace} {T : Nat → Value} {H H' : List Blk} {d : Tmp} {ty : TypeId} {ps : String} {af : Array Edge} {g : Option (Nat × Bool)}
theorem Zkb (h : K tr ⟨T, H⟩) : R P G nt ops K [] tr T H := ⟨h⟩
def gd (nt : Nat) (T : Nat → Value) (ops : List Oper) : Option (Nat × Bool) → Option Bool
  | none => some true
  | some (j, want) => match (ops[j]?).bind (·.dst) with
    | none => some false
    | some t => if t < nt then (match T t with | .bool b => some (b == want) | .tuple _ => some false | _ => none) else some false
theorem Zc6 {o : Oper} : Zd7 nt ⟨T, H⟩ (Zeg ops.toArray o) = gd nt T ops o.guard := by
 unfold Zeg gd
 cases h : o.guard with
 | none => rfl
 | some p =>
  obtain ⟨j, want⟩ := p
  simp only [Option.map_some, List.getElem?_toArray]
  cases (ops[j]?).bind (·.dst) <;> rfl
theorem Zj {op : Op} (hg : gd nt T ops g = some false) (hd : Zdn nt (some d) = true) (k : R P G nt ops K l (tr ++ [(⟨some d, op, ty, ps, af, g⟩, { val := undef })]) (upd T d undef) H) : R P G nt ops K (⟨some d, op, ty, ps, af, g⟩ :: l) tr T H :=
 ⟨Zby.val (Zat.skip (by rw [Zc6]; exact hg) hd) rfl k.h⟩
section
variable {nid : Nat} (hg : gd nt T ops g = some true) (hd : Zdn nt (some d) = true)
include hg hd
theorem Ze {x : Operand} (v : Value) (h : St.eval ⟨T, H⟩ x = v) (k : R P G nt ops K l (tr ++ [(⟨some d, .move x, ty, ps, af, g⟩, { val := v })]) (upd T d v) H) : R P G nt ops K (⟨some d, .move x, ty, ps, af, g⟩ :: l) tr T H :=
 ⟨Zby.val (Z10 (by rw [Zc6]; exact hg) hd (.inl rfl) h) rfl k.h⟩
theorem Zc {x : Operand} (v : Value) (h : St.eval ⟨T, H⟩ x = v) (k : R P G nt ops K l (tr ++ [(⟨some d, .assign x, ty, ps, af, g⟩, { val := v })]) (upd T d v) H) : R P G nt ops K (⟨some d, .assign x, ty, ps, af, g⟩ :: l) tr T H :=
 ⟨Zby.val (Z10 (by rw [Zc6]; exact hg) hd (.inr rfl) h) rfl k.h⟩
theorem Zo {c x y : Operand} (v : Value) (h : Zte ⟨T, H⟩ c x y = some v) (k : R P G nt ops K l (tr ++ [(⟨some d, .pick c x y, ty, ps, af, g⟩, { val := v })]) (upd T d v) H) : R P G nt ops K (⟨some d, .pick c x y, ty, ps, af, g⟩ :: l) tr T H :=
 ⟨Zby.val (Z4n (by rw [Zc6]; exact hg) hd rfl h) rfl k.h⟩
theorem Zk {op : BinOp} {t yt : TypeId} {x y : Operand} (v : Value) {vx vy : Value} (hx : St.eval ⟨T, H⟩ x = vx) (hy : St.eval ⟨T, H⟩ y = vy) (h : Zbx P op t x y vx vy = some v) (k : R P G nt ops K l (tr ++ [(⟨some d, .binOp op t x y yt, ty, ps, af, g⟩, { val := v })]) (upd T d v) H) : R P G nt ops K (⟨some d, .binOp op t x y yt, ty, ps, af, g⟩ :: l) tr T H :=
 ⟨Zby.val (Z4m (by rw [Zc6]; exact hg) hd rfl hx hy h) rfl k.h⟩
theorem Zha {op : UnOp} {t : TypeId} {x : Operand} (v : Value) {vx : Value} (hx : St.eval ⟨T, H⟩ x = vx) (h : unD P op vx = some v) (k : R P G nt ops K l (tr ++ [(⟨some d, .unOp op t x, ty, ps, af, g⟩, { val := v })]) (upd T d v) H) : R P G nt ops K (⟨some d, .unOp op t x, ty, ps, af, g⟩ :: l) tr T H :=
 ⟨Zby.val (Z6g (by rw [Zc6]; exact hg) hd rfl (by rw [hx]; exact h)) rfl k.h⟩
theorem Zi {t : TypeId} {x : Operand} {f n b o o' : Nat} {q : Option Nat} (hx : St.eval ⟨T, H⟩ x = .pointer (some ⟨b, o, q⟩)) (hn : Z4d P t f = some n) (ho : o + n = o') (k : R P G nt ops K l (tr ++ [(⟨some d, .fieldAddr t x f, ty, ps, af, g⟩, { val := .pointer (some ⟨b, o', q⟩) })]) (upd T d (.pointer (some ⟨b, o', q⟩))) H) : R P G nt ops K (⟨some d, .fieldAddr t x f, ty, ps, af, g⟩ :: l) tr T H :=
 ⟨Zby.val (Ztx (by rw [Zc6]; exact hg) hd rfl (by rw [hx, Zsd, hn, ← ho]; rfl)) rfl k.h⟩
theorem Zl {t : TypeId} {x : Operand} {v p : Value} (hx : St.eval ⟨T, H⟩ x = p) (h : Zeh P G t H p = some v) (k : R P G nt ops K l (tr ++ [(⟨some d, .load t x, ty, ps, af, g⟩, { val := v, foot := Zek p })]) (upd T d v) H) : R P G nt ops K (⟨some d, .load t x, ty, ps, af, g⟩ :: l) tr T H := by
 subst hx; exact ⟨Zby.valF (Z4g (by rw [Zc6]; exact hg) hd rfl h) rfl k.h⟩
theorem Zbr {t : TypeId} {x : Operand} {v : Value} {b : Blk} (hx : St.eval ⟨T, H⟩ x = v) (h : Zry H v nid = some b) (hH : Zgf H nid b = H') (k : R P G nt ops K l (tr ++ [(⟨some d, .box t x, ty, ps, af, g⟩, { val := Zhf nid, sets := [(nid, b)], foot := [nid] })]) (upd T d (.pointer (some ⟨nid, 0, none⟩))) H') : R P G nt ops K (⟨some d, .box t x, ty, ps, af, g⟩ :: l) tr T H :=
 ⟨Zby.new (Z5j (by rw [Zc6]; exact hg) hd rfl (by rw [hx]; exact h)) rfl hH k.h⟩
theorem Z7 {t : TypeId} {b : Blk} (h : Zp8 P H t nid = some b) (hH : Zgf H nid b = H') (k : R P G nt ops K l (tr ++ [(⟨some d, .alloc t, ty, ps, af, g⟩, { val := Zhf nid, sets := [(nid, b)], foot := [nid] })]) (upd T d (.pointer (some ⟨nid, 0, none⟩))) H') : R P G nt ops K (⟨some d, .alloc t, ty, ps, af, g⟩ :: l) tr T H :=
 ⟨Zby.new (Z26 (by rw [Zc6]; exact hg) hd rfl h) rfl hH k.h⟩
theorem Zp {x : Operand} {i : Nat} {vs : Array Value} {v : Value} (hx : St.eval ⟨T, H⟩ x = .tuple vs) (h : Z2n (.tuple vs) i = some v) (k : R P G nt ops K l (tr ++ [(⟨some d, .extract x i, ty, ps, af, g⟩, { val := v })]) (upd T d v) H) : R P G nt ops K (⟨some d, .extract x i, ty, ps, af, g⟩ :: l) tr T H :=
 ⟨Zby.val (Zyh (by rw [Zc6]; exact hg) hd rfl (by rw [hx]; exact h)) rfl k.h⟩
theorem Zbl {t : TypeId} {x : Operand} {p v : Value} (hx : St.eval ⟨T, H⟩ x = p) (h : Z3e P t p = some v) (k : R P G nt ops K l (tr ++ [(⟨some d, .call { callee := .builtin .len, args := #[x], argTypes := #[t] }, ty, ps, af, g⟩, { val := v })]) (upd T d v) H) : R P G nt ops K (⟨some d, .call { callee := .builtin .len, args := #[x], argTypes := #[t] }, ty, ps, af, g⟩ :: l) tr T H :=
 ⟨Zby.val (Z58 (by rw [Zc6]; exact hg) hd rfl (by rw [hx]; exact h)) rfl k.h⟩
theorem Z39 {t : TypeId} {x y : Operand} {v p i : Value} (hx : St.eval ⟨T, H⟩ x = p) (hy : St.eval ⟨T, H⟩ y = i) (h : Zyl P t p i = some v) (k : R P G nt ops K l (tr ++ [(⟨some d, .indexAddr t x y, ty, ps, af, g⟩, { val := v })]) (upd T d v) H) : R P G nt ops K (⟨some d, .indexAddr t x y, ty, ps, af, g⟩ :: l) tr T H :=
 ⟨Zby.val (Zuz (by rw [Zc6]; exact hg) hd rfl (by rw [hx, hy]; exact h)) rfl k.h⟩
end
theorem Zx {t : TypeId} {x y : Operand} {p v : Value} {b : Nat} {blk : Blk} (hg : gd nt T ops g = some true) (hx : St.eval ⟨T, H⟩ x = p) (hy : St.eval ⟨T, H⟩ y = v) (h : Zfh P t H p v = some (b, blk)) (hH : Zgf H b blk = H') (k : R P G nt ops K l (tr ++ [(⟨none, .store t x y, ty, ps, af, g⟩, { val := undef, sets := [(b, blk)], foot := Zek p })]) T H') : R P G nt ops K (⟨none, .store t x y, ty, ps, af, g⟩ :: l) tr T H := by
 subst hx; subst hy; exact ⟨Zby.sto (Z24 (by rw [Zc6]; exact hg) rfl rfl h) rfl hH k.h⟩
theorem Zq {args : Array Operand} {ts : Array TypeId} {f : FuncId} {vals : List Value} {res : Value} (hC : Zae P G f vals [] res []) (hg : gd nt T ops g = some true) (hd : Zdn nt (some d) = true) (hk : Zdq P f = true) (ha : args.toList.map (St.eval ⟨T, H⟩) = vals) (hp : vals.all Zbm = true) {res' : Value} (hr : Zsc [] res = res')
  (k : R P G nt ops K l (tr ++ [(⟨some d, .call { callee := .value (.func f), args := args, argTypes := ts }, ty, ps, af, g⟩, { val := res' })]) (upd T d res') H) : R P G nt ops K (⟨some d, .call { callee := .value (.func f), args := args, argTypes := ts }, ty, ps, af, g⟩ :: l) tr T H :=
 ⟨Zby.val (Z3r (by rw [Zc6]; exact hg) hd rfl rfl hk hC ha hp hr) rfl k.h⟩
end
end Go.Flat
end
section
/- Words: unsigned integers as bit vectors. -/
namespace Go.Flat
section
variable {P : Program} {t : TypeId} {u v : Operand} {x y : Int}
theorem ofI (w : Nat) (a : BitVec w) : BitVec.ofInt w (a.toNat : Int) = a := by
 apply BitVec.eq_of_toNat_eq
 rw [BitVec.toNat_ofInt]
 have := a.isLt
 have h : ((a.toNat : Int) % ((2 ^ w : Nat) : Int)) = ((a.toNat : Nat) : Int) := by exact_mod_cast congrArg (Nat.cast (R := Int)) (Nat.mod_eq_of_lt this)
 rw [h, Int.toNat_natCast]
theorem Zh2 {k : IntKind} (hs : k.signed = false) (z : Int) : k.wrap z = ((BitVec.ofInt k.bits z).toNat : Int) := by
 simp only [IntKind.wrap, hs, Bool.false_and, Bool.false_eq_true, if_false, BitVec.toNat_ofInt]
 have h : 0 ≤ z % (2 ^ k.bits : Int) := Int.emod_nonneg _ (by (have : (0 : Int) < 2 ^ k.bits := Int.pow_pos (by decide)); omega)
 rw [Int.toNat_of_nonneg (by simpa using h)]
 simp

variable {k : IntKind} (hs : k.signed = false) {a b : BitVec k.bits} (hx : BitVec.ofInt k.bits x = a) (hy : BitVec.ofInt k.bits y = b)
include hs hx hy
theorem Z5w : Zbx P .add t u v (.int k x) (.int k y) = some (.int k ((a + b).toNat : Int)) := Zdr (by
 subst hx; subst hy; simp [binOp, Op.intArith, Zad, Zh2 hs, BitVec.ofInt_add]) rfl
theorem Z6k : Zbx P .mul t u v (.int k x) (.int k y) = some (.int k ((a * b).toNat : Int)) := Zdr (by
 subst hx; subst hy; simp [binOp, Op.intArith, Zad, Zh2 hs, BitVec.ofInt_mul]) rfl
theorem Z6s : Zbx P .sub t u v (.int k x) (.int k y) = some (.int k ((a - b).toNat : Int)) := Zdr (by
 subst hx; subst hy
 simp only [binOp, ne_eq, not_true_eq_false, if_false, Op.intArith, Zad, Zh2 hs]
 rw [Int.sub_eq_add_neg, BitVec.ofInt_add, BitVec.ofInt_neg, ← BitVec.sub_eq_add_neg]) rfl
theorem Z5x : Zbx P .and t u v (.int k x) (.int k y) = some (.int k ((a &&& b).toNat : Int)) := Zdr (by
 subst hx; subst hy; simp only [binOp, ne_eq, not_true_eq_false, if_false, Op.intBits, Zad]; rw [Zh2 hs, ofI]) rfl
theorem orU : Zbx P .or t u v (.int k x) (.int k y) = some (.int k ((a ||| b).toNat : Int)) := Zdr (by
 subst hx; subst hy; simp only [binOp, ne_eq, not_true_eq_false, if_false, Op.intBits, Zad]; rw [Zh2 hs, ofI]) rfl
theorem Z5b : Zbx P .xor t u v (.int k x) (.int k y) = some (.int k ((a ^^^ b).toNat : Int)) := Zdr (by
 subst hx; subst hy; simp only [binOp, ne_eq, not_true_eq_false, if_false, Op.intBits, Zad]; rw [Zh2 hs, ofI]) rfl
end
section
variable {P : Program} {t : TypeId} {u v : Operand} {x y : Int} {k : IntKind} (hs : k.signed = false) {a : BitVec k.bits} (hx : BitVec.ofInt k.bits x = a)
theorem Zkl {op : BinOp} {yk : IntKind} {r : Value} (ho : op = .shl ∨ op = .shr) (h : Z6 P (Op.shift op k x yk y) = some r) (hp : Zbm r = true) : Zbx P op t u v (.int k x) (.int yk y) = some r := by
  unfold Zbx
  rw [if_pos (show (Zbm (.int k x) && Zbm (.int yk y)) = true from rfl), Zq2, Zaa, Zad, Option.bind_some]
  have : binOp op t (.int k x) (.int yk y) = Op.shift op k x yk y := by rcases ho with rfl | rfl <;> rfl
  rw [this, h, Option.bind_some, if_pos hp]
omit hs hx in
theorem Z2a {w : Nat} (a : BitVec w) (n : Nat) : a <<< (min n w) = a <<< n := by
 rcases Nat.le_total n w with h | h
 ·rw [Nat.min_eq_left h]
 ·rw [Nat.min_eq_right h]
  apply BitVec.eq_of_getLsbD_eq
  intro i hi
  simp [BitVec.getLsbD_shiftLeft]
  omega
omit hs hx in
theorem Zzp {w m : Nat} (a : BitVec w) : a * BitVec.ofInt w (2 ^ m) = a <<< m := by
 apply BitVec.eq_of_toNat_eq
 have : BitVec.ofInt w (2 ^ m) = BitVec.ofNat w (2 ^ m) := by
  rw [show ((2 : Int) ^ m) = ((2 ^ m : Nat) : Int) from by simp, BitVec.ofInt_natCast]
 rw [this, BitVec.toNat_mul, BitVec.toNat_shiftLeft, BitVec.toNat_ofNat, Nat.shiftLeft_eq, Nat.mul_mod_mod]
include hs hx
theorem Z6m {yk : IntKind} (hy : 0 ≤ y) : Zbx P .shl t u v (.int k x) (.int yk y) = some (.int k ((a <<< y.toNat).toNat : Int)) := Zkl (.inl rfl) (by
 subst hx
 simp only [Op.shift]
 rw [if_neg (by omega)]
 simp only [Zad, Zh2 hs]
 rw [BitVec.ofInt_mul, ← Z2a (w := k.bits), Zzp]) rfl
omit hs in
theorem Z5r {yk : IntKind} (hy : 0 ≤ y) (h0 : 0 ≤ x) (h1 : x < 2 ^ k.bits) : Zbx P .shr t u v (.int k x) (.int yk y) = some (.int k ((a >>> y.toNat).toNat : Int)) := Zkl (.inr rfl) (by
 subst hx
 simp only [Op.shift]
 rw [if_neg (by omega)]
 simp only [Zad]
 obtain ⟨X, rfl⟩ : ∃ X : Nat, x = X := ⟨x.toNat, by omega⟩
 have hX : X < 2 ^ k.bits := by exact_mod_cast h1
 congr 2
 rw [BitVec.ofInt_natCast, BitVec.toNat_ushiftRight, BitVec.toNat_ofNat, Nat.mod_eq_of_lt hX, Nat.shiftRight_eq_div_pow]
 rw [Int.fdiv_eq_ediv_of_nonneg _ (by exact_mod_cast Nat.zero_le _)]
 rcases Nat.le_total y.toNat k.bits with h | h
 ·rw [Nat.min_eq_left h]; simp
 ·rw [Nat.min_eq_right h, Nat.div_eq_of_lt (Nat.lt_of_lt_of_le hX (Nat.pow_le_pow_right (by decide) h))]
  have := Nat.div_eq_of_lt hX
  have h2 : ((X : Int) / 2 ^ k.bits) = ((X / 2 ^ k.bits : Nat) : Int) := by simp
  rw [h2, this]) rfl
end

section
variable {P : Program} {t : TypeId} {u v : Operand} {x y : Int}
theorem Z37 {a b : BitVec 32} (hx : BitVec.ofInt 32 x = a) (hy : BitVec.ofInt 32 y = b) : Zbx P .add t u v (.int .u32 x) (.int .u32 y) = some (.int .u32 ((a + b).toNat : Int)) := Z5w (k := .u32) rfl hx hy
theorem Z5f {a b : BitVec 64} (hx : BitVec.ofInt 64 x = a) (hy : BitVec.ofInt 64 y = b) : Zbx P .add t u v (.int .u64 x) (.int .u64 y) = some (.int .u64 ((a + b).toNat : Int)) := Z5w (k := .u64) rfl hx hy
theorem Z5z {a b : BitVec 64} (hx : BitVec.ofInt 64 x = a) (hy : BitVec.ofInt 64 y = b) : Zbx P .sub t u v (.int .u64 x) (.int .u64 y) = some (.int .u64 ((a - b).toNat : Int)) := Z6s (k := .u64) rfl hx hy
theorem Z30 {a b : BitVec 64} (hx : BitVec.ofInt 64 x = a) (hy : BitVec.ofInt 64 y = b) : Zbx P .mul t u v (.int .u64 x) (.int .u64 y) = some (.int .u64 ((a * b).toNat : Int)) := Z6k (k := .u64) rfl hx hy
theorem Z5g {a b : BitVec 32} (hx : BitVec.ofInt 32 x = a) (hy : BitVec.ofInt 32 y = b) : Zbx P .and t u v (.int .u32 x) (.int .u32 y) = some (.int .u32 ((a &&& b).toNat : Int)) := Z5x (k := .u32) rfl hx hy
theorem Z33 {a b : BitVec 64} (hx : BitVec.ofInt 64 x = a) (hy : BitVec.ofInt 64 y = b) : Zbx P .and t u v (.int .u64 x) (.int .u64 y) = some (.int .u64 ((a &&& b).toNat : Int)) := Z5x (k := .u64) rfl hx hy
theorem Z5y {a b : BitVec 32} (hx : BitVec.ofInt 32 x = a) (hy : BitVec.ofInt 32 y = b) : Zbx P .or t u v (.int .u32 x) (.int .u32 y) = some (.int .u32 ((a ||| b).toNat : Int)) := orU (k := .u32) rfl hx hy
theorem Z3x {a b : BitVec 32} (hx : BitVec.ofInt 32 x = a) (hy : BitVec.ofInt 32 y = b) : Zbx P .xor t u v (.int .u32 x) (.int .u32 y) = some (.int .u32 ((a ^^^ b).toNat : Int)) := Z5b (k := .u32) rfl hx hy
theorem Z32 {yk : IntKind} {a : BitVec 32} (hx : BitVec.ofInt 32 x = a) (hy : 0 ≤ y) : Zbx P .shl t u v (.int .u32 x) (.int yk y) = some (.int .u32 ((a <<< y.toNat).toNat : Int)) := Z6m (k := .u32) rfl hx hy
theorem Z1o {yk : IntKind} {a : BitVec 32} (hy : 0 ≤ y) : Zbx P .shr t u v (.int .u32 (a.toNat : Int)) (.int yk y) = some (.int .u32 ((a >>> y.toNat).toNat : Int)) := Z5r (k := .u32) (ofI 32 a) hy (by omega) (by have := a.isLt; simp only [IntKind.bits]; omega)
theorem Zls {yk : IntKind} {a : BitVec 64} (hy : 0 ≤ y) : Zbx P .shr t u v (.int .u64 (a.toNat : Int)) (.int yk y) = some (.int .u64 ((a >>> y.toNat).toNat : Int)) := Z5r (k := .u64) (ofI 64 a) hy (by omega) (by have := a.isLt; simp only [IntKind.bits]; omega)
theorem Z54 {k : IntKind} (h0 : 0 ≤ x) (h1 : 0 < y) (hm : x ≤ k.max) : Zbx P .quo t u v (.int k x) (.int k y) = some (.int k (x / y)) := Zdr (by
 have hw : k.wrap (x.tdiv y) = x / y := by
  rw [Int.tdiv_eq_ediv_of_nonneg h0]
  have a1 : 0 ≤ x / y := Int.ediv_nonneg h0 (by omega)
  have a2 : x / y ≤ x := Int.ediv_le_self _ h0
  cases k <;> simp [IntKind.wrap, IntKind.max, IntKind.bits, IntKind.signed] at hm ⊢ <;> (try split) <;> omega
 simp [binOp, Op.intDiv, Zad, show y ≠ 0 by omega, hw]) rfl
theorem Z09 {k : IntKind} (h0 : 0 ≤ x) (h1 : 0 < y) : Zbx P .rem t u v (.int k x) (.int k y) = some (.int k (x % y)) := Zdr (by
 have hw : x.tmod y = x % y := Int.tmod_eq_emod_of_nonneg h0
 simp [binOp, Op.intDiv, Zad, show y ≠ 0 by omega, hw]) rfl
end
theorem Zmx {P : Program} {src dst : TypeId} {k k' : IntKind} {d : TypeDesc} {n : Int} (h1 : P.underlying src = some d) (h2 : P.underlying dst = some (.int k)) : Zky P src dst (.int k' n) = some (.int k (k.wrap n)) := by
 unfold Zky
 rw [if_pos (show Zbm (.int k' n) = true from rfl)]
 have : Z6 P (convert src dst (.int k' n)) = some (.int k (k.wrap n)) := by
  unfold convert
  rw [Zaa, Zbv h1, Option.bind_some, Zaa, Zbv h2, Option.bind_some]
  cases d <;> rfl
 rw [this]; rfl
theorem Z40 (z : Int) : IntKind.u32.wrap z = ((BitVec.ofInt 32 z).toNat : Int) := Zh2 (k := .u32) rfl z
theorem Z1b (z : Int) : IntKind.u64.wrap z = ((BitVec.ofInt 64 z).toNat : Int) := Zh2 (k := .u64) rfl z
theorem Z5t (z : Int) : IntKind.u8.wrap z = ((BitVec.ofInt 8 z).toNat : Int) := Zh2 (k := .u8) rfl z
theorem Z42 {P : Program} {n : Int} {c : Int} (hc : 0 - n = c) (h1 : -9223372036854775808 ≤ c) (h2 : c ≤ 9223372036854775807) : unD P .neg (.int .i64 n) = some (.int .i64 c) := by
 subst hc
 unfold unD
 rw [if_pos (show Zbm (.int .i64 n) = true from rfl)]
 have : Z6 P (Op.unary .neg (.int .i64 n)) = some (.int .i64 (IntKind.i64.wrap (0 - n))) := rfl
 rw [this, Zij h1 h2]; rfl
end Go.Flat
end
section
/- More rules for operations. -/
namespace Go.Flat
theorem Ze5 {w w' : Nat} (a : BitVec w) : BitVec.ofInt w' (a.toNat : Int) = a.setWidth w' := by
 apply BitVec.eq_of_toNat_eq
 rw [BitVec.ofInt_natCast, BitVec.toNat_ofNat, BitVec.toNat_setWidth]
section
variable {P : Program} {src dst : TypeId} {k' : IntKind} {d : TypeDesc} {n : Int} (h1 : P.underlying src = some d)
include h1
theorem Zgg {a : BitVec 8} (h2 : P.underlying dst = some (.int .u8)) (h : BitVec.ofInt 8 n = a) : Zky P src dst (.int k' n) = some (.int .u8 (a.toNat : Int)) := by rw [Zmx h1 h2, Z5t, h]
theorem Z4w {a : BitVec 32} (h2 : P.underlying dst = some (.int .u32)) (h : BitVec.ofInt 32 n = a) : Zky P src dst (.int k' n) = some (.int .u32 (a.toNat : Int)) := by rw [Zmx h1 h2, Z40, h]
theorem Zsp {a : BitVec 64} (h2 : P.underlying dst = some (.int .u64)) (h : BitVec.ofInt 64 n = a) : Zky P src dst (.int k' n) = some (.int .u64 (a.toNat : Int)) := by rw [Zmx h1 h2, Z1b, h]
theorem Zmg (h2 : P.underlying dst = some (.int .i64)) (g1 : -9223372036854775808 ≤ n) (g2 : n ≤ 9223372036854775807) : Zky P src dst (.int k' n) = some (.int .i64 n) := by rw [Zmx h1 h2, Zij g1 g2]
end
section
variable {P : Program} {G : Glob} {nt : Nat} {ops l : List Oper} {K : Trace → St → Prop} {tr : Trace} {T : Nat → Value} {H H' : List Blk} {d : Tmp} {ty : TypeId} {ps : String} {af : Array Edge} {g : Option (Nat × Bool)}
variable {nid : Nat} (hg : gd nt T ops g = some true) (hd : Zdn nt (some d) = true)
include hg hd
theorem Zdb {src dst : TypeId} {x : Operand} {v w : Value} (hx : St.eval ⟨T, H⟩ x = w) (h : Zky P src dst w = some v) (k : R P G nt ops K l (tr ++ [(⟨some d, .convert src dst x, ty, ps, af, g⟩, { val := v })]) (upd T d (v)) H) : R P G nt ops K (⟨some d, .convert src dst x, ty, ps, af, g⟩ :: l) tr T H := by
 subst hx; exact ⟨Zby.val (Z4r (by rw [Zc6]; exact hg) hd rfl h) rfl k.h⟩
theorem Zxm {t : TypeId} {x y : Operand} {v p i : Value} (hx : St.eval ⟨T, H⟩ x = p) (hy : St.eval ⟨T, H⟩ y = i) (h : Znd P t p i = some v) (k : R P G nt ops K l (tr ++ [(⟨some d, .index t x y, ty, ps, af, g⟩, { val := v })]) (upd T d (v)) H) : R P G nt ops K (⟨some d, .index t x y, ty, ps, af, g⟩ :: l) tr T H := by
 subst hx; subst hy; exact ⟨Zby.val (Z3m (by rw [Zc6]; exact hg) hd rfl h) rfl k.h⟩
theorem Zgh {t : TypeId} {x y : Operand} {v p i : Value} (hx : St.eval ⟨T, H⟩ x = p) (hy : St.eval ⟨T, H⟩ y = i) (h : Zlj P t p i = some v) (k : R P G nt ops K l (tr ++ [(⟨some d, .index t x y, ty, ps, af, g⟩, { val := v })]) (upd T d (v)) H) : R P G nt ops K (⟨some d, .index t x y, ty, ps, af, g⟩ :: l) tr T H := by
 subst hx; subst hy; exact ⟨Zby.val (Z00 (by rw [Zc6]; exact hg) hd rfl h) rfl k.h⟩
theorem Zbn {t : TypeId} {qs : Array (Nat × Operand)} {v : Value} {vs : List (Nat × Value)} (hx : (qs.toList.map fun p => (p.1, St.eval ⟨T, H⟩ p.2)) = vs) (h : Zsl P t vs = some v) (k : R P G nt ops K l (tr ++ [(⟨some d, .build t qs, ty, ps, af, g⟩, { val := v })]) (upd T d (v)) H) : R P G nt ops K (⟨some d, .build t qs, ty, ps, af, g⟩ :: l) tr T H := by
 subst hx; exact ⟨Zby.val (Z22 (by rw [Zc6]; exact hg) hd rfl h) rfl k.h⟩
theorem Zvk {f : Fn} {xs ys : Array Operand} {v : Value} (h : Zrd ⟨T, H⟩ f xs ys = some v) (k : R P G nt ops K l (tr ++ [(⟨some d, .makeFunc f xs ys, ty, ps, af, g⟩, { val := v })]) (upd T d (v)) H) : R P G nt ops K (⟨some d, .makeFunc f xs ys, ty, ps, af, g⟩ :: l) tr T H := by
 exact ⟨Zby.val (Zvz (by rw [Zc6]; exact hg) hd rfl h) rfl k.h⟩
theorem Zc0 {x : Operand} {v p : Value} (hx : St.eval ⟨T, H⟩ x = p) (h : Z3b p = some v) (k : R P G nt ops K l (tr ++ [(⟨some d, .nilCheck x, ty, ps, af, g⟩, { val := v })]) (upd T d (v)) H) : R P G nt ops K (⟨some d, .nilCheck x, ty, ps, af, g⟩ :: l) tr T H := by
 subst hx; exact ⟨Zby.val (Zvm (by rw [Zc6]; exact hg) hd rfl h) rfl k.h⟩
theorem Zji {t : TypeId} {x : Operand} {v p : Value} (hx : St.eval ⟨T, H⟩ x = p) (h : Zr6 P t p = some v) (k : R P G nt ops K l (tr ++ [(⟨some d, .makeInterface t x, ty, ps, af, g⟩, { val := v })]) (upd T d (v)) H) : R P G nt ops K (⟨some d, .makeInterface t x, ty, ps, af, g⟩ :: l) tr T H := by
 subst hx; exact ⟨Zby.val (Zn5 (by rw [Zc6]; exact hg) hd rfl h) rfl k.h⟩
theorem Zdd {t : TypeId} {x : Operand} {lo hi : Option Operand} {v p : Value} {vl vh : Option Value} (hx : St.eval ⟨T, H⟩ x = p) (hlo : lo.map (St.eval ⟨T, H⟩) = vl) (hhi : hi.map (St.eval ⟨T, H⟩) = vh) (h : Zhc P H t p vl vh = some v) (k : R P G nt ops K l (tr ++ [(⟨some d, .slice t x lo hi none, ty, ps, af, g⟩, { val := v, foot := Zek p })]) (upd T d (v)) H) : R P G nt ops K (⟨some d, .slice t x lo hi none, ty, ps, af, g⟩ :: l) tr T H := by
 subst hx; subst hlo; subst hhi; exact ⟨Zby.valF (Z2r (by rw [Zc6]; exact hg) hd rfl h) rfl k.h⟩
theorem Zfm {src dst : TypeId} {x : Operand} {v p : Value} (hx : St.eval ⟨T, H⟩ x = p) (h : Zsy P H src dst p = some v) (k : R P G nt ops K l (tr ++ [(⟨some d, .convert src dst x, ty, ps, af, g⟩, { val := v, foot := Zek p })]) (upd T d (v)) H) : R P G nt ops K (⟨some d, .convert src dst x, ty, ps, af, g⟩ :: l) tr T H := by
 subst hx; exact ⟨Zby.valF (Z5m (by rw [Zc6]; exact hg) hd rfl h) rfl k.h⟩
theorem Zv8 {t : TypeId} {x y : Operand} {v i j : Value} {blk : Blk} (hx : St.eval ⟨T, H⟩ x = i) (hy : St.eval ⟨T, H⟩ y = j) (h : Zpy P H t i j nid = some (v, blk)) (hH : Zgf H nid blk = H') (k : R P G nt ops K l (tr ++ [(⟨some d, .makeSlice t x y, ty, ps, af, g⟩, { val := v, sets := [(nid, blk)], foot := [nid] })]) (upd T d (v)) H') : R P G nt ops K (⟨some d, .makeSlice t x y, ty, ps, af, g⟩ :: l) tr T H := by
 subst hx; subst hy; exact ⟨Zby.new (Z45 (by rw [Zc6]; exact hg) hd rfl h) rfl hH k.h⟩
theorem Zda {t : TypeId} {n : Nat} {qs : Array (Nat × Operand)} {v : Value} {vs : List (Nat × Value)} {blk : Blk} (hx : (qs.toList.map fun p => (p.1, St.eval ⟨T, H⟩ p.2)) = vs) (h : Z18 P H t n vs nid = some (v, blk)) (hH : Zgf H nid blk = H') (k : R P G nt ops K l (tr ++ [(⟨some d, .buildSlice t n qs, ty, ps, af, g⟩, { val := v, sets := [(nid, blk)], foot := [nid] })]) (upd T d (v)) H') : R P G nt ops K (⟨some d, .buildSlice t n qs, ty, ps, af, g⟩ :: l) tr T H := by
 subst hx; exact ⟨Zby.new (Z57 (by rw [Zc6]; exact hg) hd rfl h) rfl hH k.h⟩
theorem Z0x {t u : TypeId} {x y : Operand} {v p q : Value} {b : Nat} {blk : Blk} (hx : St.eval ⟨T, H⟩ x = p) (hy : St.eval ⟨T, H⟩ y = q) (h : Zup P H t p q = some (v, b, blk)) (hH : Zgf H b blk = H') (k : R P G nt ops K l (tr ++ [(⟨some d, .call { callee := .builtin .copy, args := #[x, y], argTypes := #[t, u] }, ty, ps, af, g⟩, { val := v, sets := [(b, blk)], foot := Zek p ++ Zek q })]) (upd T d (v)) H') : R P G nt ops K (⟨some d, .call { callee := .builtin .copy, args := #[x, y], argTypes := #[t, u] }, ty, ps, af, g⟩ :: l) tr T H := by
 subst hx; subst hy; exact ⟨Zby.new (Z4y (by rw [Zc6]; exact hg) hd rfl h) rfl hH k.h⟩
theorem Zcv {t u : TypeId} {x y : Operand} {v p q : Value} {b : Nat} {blk : Blk} {de : TypeDesc} {T' : Nat → Value} (hu : P.underlying u = some de) (hdd : (∃ e2, de = .slice e2) ∨ de = .string) (hx : St.eval ⟨T, H⟩ x = p) (hy : St.eval ⟨T, H⟩ y = q) (h : Zpv P H t p q = some (v, b, blk))
    (hT : (fun i => killV (· != b) (T i)) = T') (hH : Zgf (H.map (Zce (· != b))) b blk = H') (k : R P G nt ops K l (tr ++ [(⟨some d, .call { callee := .builtin .append, args := #[x, y], argTypes := #[t, u] }, ty, ps, af, g⟩, { val := v, sets := [(b, blk)], kill := some b, foot := Zek p ++ Zek q })]) (upd T' d v) H') : R P G nt ops K (⟨some d, .call { callee := .builtin .append, args := #[x, y], argTypes := #[t, u] }, ty, ps, af, g⟩ :: l) tr T H := by
  subst hx; subst hy; subst hT; subst hH
  exact ⟨⟨_, Z0g (by rw [Zc6]; exact hg) hd rfl hu hdd h, by simpa [Delta.apply, Zeb, St.put, St.kill] using k.h⟩⟩
end
section
variable {P : Program} {G : Glob} {nt : Nat} {ops l : List Oper} {K : Trace → St → Prop} {tr : Trace} {T : Nat → Value} {H H' : List Blk} {d : Tmp} {ty : TypeId} {ps : String} {af : Array Edge} {g : Option (Nat × Bool)}
def Z1q (k : Option Nat) (H : List Blk) : List Blk := match k with | none => H | some b => H.map (Zce (· != b))
theorem Zct {f : Operand} {args : Array Operand} {ts : Array TypeId} {k : FuncId} {first captured : Array Value} {argsL vals : List Value} {σ σ' : List Blk} {res v : Value} {e : Emb} {nid : Nat} (hC : Zae P G k argsL σ res σ') (hg : gd nt T ops g = some true) (hd : Zdn nt (some d) = true) (hf : St.eval ⟨T, H⟩ f = .func (.func k) first captured) (hcap : (first.toList.all Zdt && captured.toList.all Zdt) = true) (hk : Zdq P k = true)
    (ha : first.toList ++ args.toList.map (St.eval ⟨T, H⟩) ++ captured.toList = vals) (hok : CallOK H e argsL vals σ σ' nid) {T' : Nat → Value} (hv : Zsc (Zfk e nid (σ'.length - σ.length)) res = v)
    (hT : (fun i => match (Zbo e σ).head? with | none => T i | some b => killV (· != b) (T i)) = T') (hH : Zeb (Z1q (Zbo e σ).head? H) (Zcl (killX (Zbo e σ).head? e σ H) e σ σ' nid) = H')
    (kk : R P G nt ops K l (tr ++ [(⟨some d, .call { callee := .value f, args := args, argTypes := ts }, ty, ps, af, g⟩, Zhw H e σ res σ' nid)]) (upd T' d v) H') : R P G nt ops K (⟨some d, .call { callee := .value f, args := args, argTypes := ts }, ty, ps, af, g⟩ :: l) tr T H := by
  subst ha; subst hv; subst hT; subst hH
  simp only [Bool.and_eq_true] at hcap
  refine ⟨⟨_, Zzv (by rw [Zc6]; exact hg) hd rfl hf hcap hk hC e nid hok, ?_⟩⟩
  have := kk.h
  unfold Zhw at this ⊢
  cases hm : (Zbo e σ).head? with
  | none => simpa [Delta.apply, St.put, hm, killX, Z1q] using this
  | some b => simpa [Delta.apply, St.put, hm, killX, Z1q, St.kill] using this
end
end Go.Flat
end
section
/- Rows by a function; states by a list; forgetting. -/
namespace Go.Flat

def Zac {α : Type} (enc : α → Value) (n : Nat) (w : Nat → α) : List Value := (List.range n).map fun k => enc (w k)
def Zhj {α : Type} (w : Nat → α) (i : Nat) (x : α) : Nat → α := fun k => if k = i then x else w k
section
variable {α : Type} {enc : α → Value} {n : Nat} {w : Nat → α}
theorem Zbs : (Zac enc n w).length = n := by simp [Zac]
theorem Zc8 {i : Nat} (h : i < n) : (Zac enc n w)[i]? = some (enc (w i)) := by simp [Zac, h]
theorem Z04 {w' : Nat → α} (h : ∀ i, i < n → w i = w' i) : Zac enc n w = Zac enc n w' := by
 unfold Zac
 exact List.map_congr_left fun i hi => by rw [h i (by simpa using hi)]
theorem Zt6 {i : Nat} (h : i < n) (x : α) : splice (Zac enc n w) i [enc x] = Zac enc n (Zhj w i x) := by
 apply List.ext_getElem?
 intro j
 unfold splice
 have hl : ((Zac enc n w).take i).length = i := by simp [Zbs]; omega
 rcases Nat.lt_trichotomy j i with h1 | h1 | h1
 ·rw [List.getElem?_append_left (by simp [Zbs]; omega), List.getElem?_append_left (by omega), List.getElem?_take, if_pos h1, Zc8 (by omega), Zc8 (by omega)]
  simp [Zhj, Nat.ne_of_lt h1]
 ·subst h1
  rw [List.getElem?_append_left (by simp [Zbs]; omega), List.getElem?_append_right (by omega), hl, Zc8 h]
  simp [Zhj]
 ·rw [List.getElem?_append_right (by simp [Zbs]; omega)]
  rcases Nat.lt_or_ge j n with h2 | h2
  ·rw [Zc8 h2, List.getElem?_drop]
   have : i + [enc x].length + (j - (List.take i (Zac enc n w) ++ [enc x]).length) = j := by simp [Zbs]; omega
   rw [this, Zc8 h2]
   simp [Zhj, Nat.ne_of_gt h1]
  ·rw [List.getElem?_eq_none (by simp [Zbs]; omega), List.getElem?_eq_none (by rw [Zbs]; omega)]
theorem Zqd {p : Value → Bool} (h : ∀ x, p (enc x) = true) : (Zac enc n w).all p = true := by
 simp [Zac, List.all_eq_true, h]
variable {P : Program} {G : Glob} {t : TypeId} {m : Nat} {H : List Blk} {b i : Nat} {blk : Blk}
theorem Zii (hk : Zey P t = some (false, m)) (hb : H[b]? = some blk) (hc : blk.cells = Zac enc n w) (hi : i < n) (h1 : ∀ x, Zi1 (enc x) = true) : Zeh P G t H (.pointer (some ⟨b, i, none⟩)) = some (enc (w i)) := by
 unfold Zeh
 rw [hk]
 simp only [hb, Option.bind_some, rdA, hc, Zc8 hi, h1, if_true]
 rfl
theorem Zvj {ag : Bool} {g o q : Nat} {cs : List Value} {v : Value} (hk : Zey P t = some (ag, m)) (hG : G g = some cs) (hr : rdA ag m cs o = some v) : Zeh P G t H (.pointer (some ⟨g, o, some q⟩)) = some v := by
 unfold Zeh
 rw [hk]
 simp only [hG, Option.bind_some, hr]
theorem Zg5 {x : α} {val : Value} (hk : Zey P t = some (false, 1)) (hb : H[b]? = some blk) (hw : blk.wr = true) (hc : blk.cells = Zac enc n w) (hv : enc x = val) (hi : i < n) (h1 : (enc x).cells = #[enc x]) (h2 : (if blk.pur then Zbk (enc x) else Zio (enc x)) = true) :
  Zfh P t H (.pointer (some ⟨b, i, none⟩)) val = some (b, { blk with cells := Zac enc n (Zhj w i x) }) := by
 subst hv
 unfold Zfh
 rw [hk]
 simp only [hb, Option.bind_some, hw, h1, hc]
 rw [if_pos]
 ·rw [Zt6 hi]
 ·simp only [Zdm, Bool.true_and, Bool.and_eq_true, decide_eq_true_eq, beq_iff_eq, Zbs]
  refine ⟨⟨rfl, ?_⟩, by omega⟩
  by_cases hp : blk.pur = true
  ·rw [if_pos hp] at h2 ⊢; simpa using h2
  ·rw [if_neg hp] at h2 ⊢; simpa using h2
theorem Zo3 {rest : List Value} (hk : Zey P t = some (false, m)) (hb : H[b]? = some blk) (hc : blk.cells = Zac enc n w ++ rest) (hi : i < n) (h1 : ∀ x, Zi1 (enc x) = true) : Zeh P G t H (.pointer (some ⟨b, i, none⟩)) = some (enc (w i)) := by
 unfold Zeh
 rw [hk]
 simp only [hb, Option.bind_some, rdA, hc]
 rw [List.getElem?_append_left (by rw [Zbs]; exact hi), Zc8 hi]
 simp [h1]
theorem Zu1 {x : α} {val : Value} {rest : List Value} (hk : Zey P t = some (false, 1)) (hb : H[b]? = some blk) (hw : blk.wr = true) (hc : blk.cells = Zac enc n w ++ rest) (hv : enc x = val) (hi : i < n) (h1 : (enc x).cells = #[enc x]) (h2 : (if blk.pur then Zbk (enc x) else Zio (enc x)) = true) :
  Zfh P t H (.pointer (some ⟨b, i, none⟩)) val = some (b, { blk with cells := Zac enc n (Zhj w i x) ++ rest }) := by
 subst hv
 unfold Zfh
 rw [hk]
 simp only [hb, Option.bind_some, hw, h1, hc]
 rw [if_pos]
 ·rw [← Zt6 hi]
  unfold splice
  have e1 : i ≤ (Zac enc n w).length := by rw [Zbs]; omega
  have e2 : i + [enc x].length ≤ (Zac enc n w).length := by rw [Zbs]; simp; omega
  rw [List.take_append_of_le_length e1, List.drop_append_of_le_length e2]
  simp
 ·simp only [Zdm, Bool.true_and, Bool.and_eq_true, decide_eq_true_eq, beq_iff_eq, List.length_append, Zbs]
  refine ⟨⟨rfl, ?_⟩, by omega⟩
  by_cases hp : blk.pur = true
  ·rw [if_pos hp] at h2 ⊢; simpa using h2
  ·rw [if_neg hp] at h2 ⊢; simpa using h2
end


def Tl (l : List Value) : Nat → Value := fun i => (l[i]?).getD dead
def Zw6 (n : Nat) (T : Nat → Value) : Nat → List Value → Prop
  | _, [] => True
  | i, v :: l => (v = dead ∨ (v = T i ∧ Zfi (fun b => decide (b < n)) (T i) = true)) ∧ Zw6 n T (i + 1) l
theorem Zrr {n : Nat} {T : Nat → Value} : ∀ {l : List Value} {i : Nat}, Zw6 n T i l → ∀ (j : Nat) (v : Value), l[j]? = some v → v = dead ∨ (v = T (i + j) ∧ Zfi (fun b => decide (b < n)) (T (i + j)) = true)
 | [], _, _, j, v, h => by simp at h
 | x :: l, i, hk, 0, v, h => by simp at h; subst h; exact hk.1
 | x :: l, i, hk, j + 1, v, h => by
  have := Zrr hk.2 j v (by simpa using h)
  rw [show i + (j + 1) = i + 1 + j by omega]; exact this
theorem Zyf {n : Nat} {T : Nat → Value} {H H' : List Blk} {l : List Value} (h : Zw6 n T 0 l) : Z0a n ⟨T, H⟩ ⟨Tl l, H'⟩ := by
 intro i
 simp only [Tl]
 cases hl : l[i]? with
 | none => exact .inl rfl
 | some v =>
  have := Zrr h i v hl
  simpa using this
theorem Zal {G : Glob} {nt n0 n : Nat} {T : Nat → Value} {H H' : List Blk} {l : List Value} (hn : decide (n0 ≤ n) = true) (ht : Zw6 n T 0 l) (hh : H.take n = H') (hb : (H'.all fun x => x.pur || x.cells.all (Zbw fun b => decide (b < n))) = true) : Zbz G nt n0 ⟨T, H⟩ ⟨Tl l, H'⟩ := by
 refine Zbz.take n (by simpa using hn) (Zyf ht) ?_ hb
 exact hh.symm

section
variable {P : Program} {G : Glob} {nt n0 : Nat} {Q : Exit → St → Prop} {ops : List Oper} {tr : Trace} {T : Nat → Value} {H : List Blk}
theorem Za (h : X Q .normal ⟨T, H⟩) : R P G nt ops (fun _ s => X Q .normal s) [] tr T H := Zkb h
theorem Zcu {n : Nat} (h1 : Zeq ops.toArray tr n = true) (h : X Q .normal ⟨T, H⟩) : R P G nt ops (fun tr s' => Zeq ops.toArray tr n = true ∧ X Q .normal s') [] tr T H := Zkb ⟨h1, h⟩
theorem Zch {α : Type} {y : Code} (st : α → List Value) (hp : α → List Blk) (φ : α → Prop) (μ : α → Nat) (x0 : α) (h0 : φ x0) (hs : Zbz G nt n0 ⟨T, H⟩ ⟨Tl (st x0), hp x0⟩)
  (round : ∀ x, φ x → C P G nt n0 y (Zd8 (fun s1 => ∃ y, φ y ∧ μ y < μ x ∧ Zbz G nt n0 s1 ⟨Tl (st y), hp y⟩) Q) ⟨Tl (st x), hp x⟩) : C P G nt n0 (.loop y) Q ⟨T, H⟩ :=
 Z4h (fun x => ⟨Tl (st x), hp x⟩) φ μ x0 h0 hs round
theorem Za0 {next : St → Prop} {i : Nat} {s : St} (h : X Q (.exit i) s) : X (Zd8 next Q) (.exit i) s := Zx4 rfl h
theorem Zc3 {next : St → Prop} {s : St} (h : X Q .ret s) : X (Zd8 next Q) .ret s := Zx4 rfl h
end
end Go.Flat
end
section
/- Places of rows and slices. -/
namespace Go.Flat
section
variable {P : Program} {G : Glob} {nt : Nat} {ops l : List Oper} {K : Trace → St → Prop} {tr : Trace} {T : Nat → Value} {H H' : List Blk} {d : Tmp} {ty : TypeId} {ps : String} {af : Array Edge} {g : Option (Nat × Bool)}
theorem Zdw {t : TypeId} {x y : Operand} {b o j n sz : Nat} {i : Int} {k : IntKind} {q : Option Nat} (hg : gd nt T ops g = some true) (hd : Zdn nt (some d) = true) (hx : St.eval ⟨T, H⟩ x = .pointer (some ⟨b, o, q⟩)) (hy : St.eval ⟨T, H⟩ y = .int k i) (he : Zp5 P t = some (some n, sz)) (h0 : 0 ≤ i) (h1 : i < n) (hj : o + i.toNat * sz = j)
  (kk : R P G nt ops K l (tr ++ [(⟨some d, .indexAddr t x y, ty, ps, af, g⟩, { val := .pointer (some ⟨b, j, q⟩) })]) (upd T d (.pointer (some ⟨b, j, q⟩))) H) : R P G nt ops K (⟨some d, .indexAddr t x y, ty, ps, af, g⟩ :: l) tr T H :=
 Z39 hg hd hx hy (by unfold Zyl; rw [he]; simp only; rw [if_pos ⟨h0, h1⟩, hj]) kk
theorem Zbf {t : TypeId} {x y : Operand} {b o j m c sz : Nat} {i : Int} {k : IntKind} (hg : gd nt T ops g = some true) (hd : Zdn nt (some d) = true) (hx : St.eval ⟨T, H⟩ x = .slice (some ⟨b, o, none⟩) m c) (hy : St.eval ⟨T, H⟩ y = .int k i) (he : Zp5 P t = some (none, sz)) (h0 : 0 ≤ i) (h1 : i < m) (hj : o + i.toNat * sz = j)
  (kk : R P G nt ops K l (tr ++ [(⟨some d, .indexAddr t x y, ty, ps, af, g⟩, { val := .pointer (some ⟨b, j, none⟩) })]) (upd T d (.pointer (some ⟨b, j, none⟩))) H) : R P G nt ops K (⟨some d, .indexAddr t x y, ty, ps, af, g⟩ :: l) tr T H :=
 Z39 hg hd hx hy (by unfold Zyl; rw [he]; simp only; rw [if_pos ⟨h0, h1⟩, hj]) kk
theorem Zou {α : Type} {enc : α → Value} {w : Nat → α} {t : TypeId} {cs : Array Value} {n i : Nat} {m : Nat} {k : IntKind} {ix : Int} (he : Z0f P t = some (m, false, 1)) (hc : cs.toList = Zac enc n w) (hi : ix = (i : Int)) (hin : i < n) (him : i < m) (h1 : ∀ x, Zi1 (enc x) = true) : Znd P t (.agg cs) (.int k ix) = some (enc (w i)) := by
 subst hi
 unfold Znd
 rw [he]
 simp only
 rw [if_pos ⟨by omega, by omega⟩, hc]
 simp only [rdA, Int.toNat_natCast, Nat.mul_one, Zc8 hin, Option.bind_some, h1, if_true]
 rfl
end
theorem Z3z {P : Program} {t : TypeId} {u v : Operand} {x y : Int} (h0 : 0 ≤ x) (h1 : 0 < y) (hm : x ≤ 9223372036854775807) : Zbx P .quo t u v (.int .i64 x) (.int .i64 y) = some (.int .i64 (x / y)) := Z54 h0 h1 (by show x ≤ (9223372036854775807 : Int); exact hm)
abbrev w32 (x : BitVec 32) : Value := .int .u32 (x.toNat : Int)
abbrev w64 (x : BitVec 64) : Value := .int .u64 (x.toNat : Int)
abbrev w8 (x : BitVec 8) : Value := .int .u8 (x.toNat : Int)
end Go.Flat
end
