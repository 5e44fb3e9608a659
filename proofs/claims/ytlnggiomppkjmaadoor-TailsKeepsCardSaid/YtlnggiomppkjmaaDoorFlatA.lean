/- Walks. -/
import Derived.Calls
import Derived.Below
import Derived.Tactics
import Derived.Deep.Quiet
import Derived.Deep.LoopGhost
import Derived.Laws.Append
import Derived.Laws.Tables
import Derived.Laws.Rows
import Derived.Laws.World
import Derived.KernelRfl
import Derived.Laws.AppendOwn
import Derived.Laws.MakeOwn
import Derived.Laws.BytesString
import Derived.Orders
set_option linter.unusedVariables false
set_option linter.unusedSimpArgs false
section
/- A logic over an abstract heap. -/
namespace Go.Flat


def L2 {α β : Type} (R : α → β → Prop) (xs : List α) (ys : List β) : Prop :=
  xs.length = ys.length ∧ ∀ (i : Nat) (x : α) (y : β), xs[i]? = some x → ys[i]? = some y → R x y

theorem L2.nil {α β : Type} {R : α → β → Prop} : L2 R [] [] := ⟨rfl, by simp⟩
theorem L2.cons {α β : Type} {R : α → β → Prop} {x : α} {y : β} {xs : List α} {ys : List β} (h : R x y) (t : L2 R xs ys) : L2 R (x :: xs) (y :: ys) := by
 refine ⟨by simp [t.1], ?_⟩
 intro i a b ha hb
 cases i with
 | zero => simp at ha hb; subst ha; subst hb; exact h
 | succ i => simp at ha hb; exact t.2 i a b ha hb
theorem L2.inv {α β : Type} {R : α → β → Prop} {x : α} {xs : List α} {ys : List β} (h : L2 R (x :: xs) ys) : ∃ y zs, ys = y :: zs ∧ R x y ∧ L2 R xs zs := by
 cases ys with
 | nil => have := h.1; simp at this
 | cons y zs =>
  refine ⟨y, zs, rfl, h.2 0 x y rfl rfl, by have := h.1; simpa using this, ?_⟩
  intro i a b ha hb
  exact h.2 (i + 1) a b (by simpa using ha) (by simpa using hb)
theorem L2.nil_inv {α β : Type} {R : α → β → Prop} {ys : List β} (h : L2 R [] ys) : ys = [] := by
 have := h.1
 exact List.eq_nil_of_length_eq_zero (by simpa using this.symm)
theorem L2.mono {α β : Type} {R S : α → β → Prop} {xs : List α} {ys : List β} (h : L2 R xs ys) (hr : ∀ x, x ∈ xs → ∀ y, R x y → S x y) : L2 S xs ys :=
 ⟨h.1, fun i x y hx hy => hr x (List.mem_of_getElem? hx) y (h.2 i x y hx hy)⟩
theorem L2.get {α β : Type} {R : α → β → Prop} {xs : List α} {ys : List β} (h : L2 R xs ys) {i : Nat} {x : α} (hx : xs[i]? = some x) : ∃ y, ys[i]? = some y ∧ R x y := by
 have hi : i < xs.length := (List.getElem?_eq_some_iff.1 hx).1
 have hj : i < ys.length := h.1 ▸ hi
 exact ⟨ys[i], by simp [hj], h.2 i x _ hx (by simp [hj])⟩
theorem L2.append {α β : Type} {R : α → β → Prop} {xs xs' : List α} {ys ys' : List β} (h : L2 R xs ys) (h' : L2 R xs' ys') : L2 R (xs ++ xs') (ys ++ ys') := by
 refine ⟨by simp [h.1, h'.1], ?_⟩
 intro i x y hx hy
 rw [List.getElem?_append] at hx hy
 rw [← h.1] at hy
 split at hx
 ·rename_i hlt; rw [if_pos hlt] at hy; exact h.2 i x y hx hy
 ·rename_i hlt; rw [if_neg hlt] at hy; exact h'.2 _ x y hx hy
theorem L2.take {α β : Type} {R : α → β → Prop} {xs : List α} {ys : List β} (h : L2 R xs ys) (n : Nat) : L2 R (xs.take n) (ys.take n) := by
 refine ⟨by simp [h.1], ?_⟩
 intro i x y hx hy
 rw [List.getElem?_take] at hx hy
 split at hx
 ·rename_i hlt; rw [if_pos hlt] at hy; exact h.2 i x y hx hy
 ·cases hx
theorem L2.drop {α β : Type} {R : α → β → Prop} {xs : List α} {ys : List β} (h : L2 R xs ys) (n : Nat) : L2 R (xs.drop n) (ys.drop n) := by
 refine ⟨by simp [h.1], ?_⟩
 intro i x y hx hy
 rw [List.getElem?_drop] at hx hy
 exact h.2 _ x y hx hy
theorem L2.map_left {α β γ : Type} {R : α → β → Prop} {S : γ → β → Prop} {f : α → γ} {xs : List α} {ys : List β} (h : L2 R xs ys) (hr : ∀ x, x ∈ xs → ∀ y, R x y → S (f x) y) : L2 S (xs.map f) ys := by
 refine ⟨by simp [h.1], ?_⟩
 intro i x y hx hy
 simp only [List.getElem?_map, Option.map_eq_some_iff] at hx
 obtain ⟨x0, h0, rfl⟩ := hx
 exact hr x0 (List.mem_of_getElem? h0) y (h.2 i x0 y h0 hy)
theorem L2.of_map_left {α β γ : Type} {R : α → β → Prop} {S : γ → β → Prop} {f : α → γ} {xs : List α} {ys : List β} (h : L2 S (xs.map f) ys) (hr : ∀ x, x ∈ xs → ∀ y, S (f x) y → R x y) : L2 R xs ys := by
 refine ⟨by simpa using h.1, ?_⟩
 intro i x y hx hy
 exact hr x (List.mem_of_getElem? hx) y (h.2 i (f x) y (by simp [hx]) hy)
theorem L2.eq {α : Type} {xs ys : List α} (h : L2 (fun x y => y = x) xs ys) : ys = xs := by
 apply List.ext_getElem?
 intro i
 rcases Nat.lt_or_ge i xs.length with hi | hi
 ·have hj : i < ys.length := h.1 ▸ hi
  rw [List.getElem?_eq_getElem hi, List.getElem?_eq_getElem hj]
  exact congrArg some (h.2 i _ _ (List.getElem?_eq_getElem hi) (List.getElem?_eq_getElem hj))
 ·have hj : ys.length ≤ i := h.1 ▸ hi
  rw [List.getElem?_eq_none hi, List.getElem?_eq_none hj]
theorem L2.refl {α : Type} (xs : List α) : L2 (fun x y => y = x) xs xs := ⟨rfl, fun i x y hx hy => by rw [hx] at hy; injection hy with h; exact h.symm⟩


structure Reg where
  g : Nat
  lo : Nat
  hi : Nat
  len : Nat
  sz : Nat
  wr : Bool
  fix : Bool
  mv : Bool

abbrev MapM := Nat → Option Reg

def Zhd (r : Reg) (off n c : Nat) (a' : Option Addr) (c' : Nat) : Prop :=
  n ≤ c ∧ c ≤ c' ∧ (0 < c' → a' = some ⟨r.g, r.lo + off, none⟩ ∧ (r.fix = false → r.lo + off + c' * r.sz ≤ r.hi) ∧ (r.wr = true → r.fix = true → r.mv = true → c' = c))

abbrev dead : Value := .chan none

def CR0 (m : MapM) : Value → Value → Prop
  | .chan _, _ => True
  | .pointer (some ⟨b, o, none⟩), v' => ∃ r, m b = some r ∧ v' = .pointer (some ⟨r.g, r.lo + o, none⟩)
  | .pointer (some ⟨b, o, some _⟩), v' => v' = .pointer (some ⟨b, o, none⟩)      -- a package-level variable's
  | .slice (some a) n c, v' => ∃ r a' c', m a.block = some r ∧ v' = .slice a' n c' ∧ Zhd r a.off n c a' c'
  | v, v' => v' = v

def CR (m : MapM) : Value → Value → Prop
  | .func f xs ys, v' => ∃ xs' ys', v' = .func f xs' ys' ∧ L2 (CR0 m) xs.toList xs'.toList ∧ L2 (CR0 m) ys.toList ys'.toList
  | v, v' => CR0 m v v'

def VR1 (m : MapM) : Value → Value → Prop
  | .agg cs, v' => ∃ cs', v' = .agg cs' ∧ L2 (CR m) cs.toList cs'.toList
  | v, v' => CR m v v'

def VR (m : MapM) : Value → Value → Prop
  | .tuple vs, v' => ∃ vs', v' = .tuple vs' ∧ L2 (VR1 m) vs.toList vs'.toList
  | v, v' => VR1 m v v'

def Zba : Value → Bool
  | .bool _ | .int _ _ | .float _ _ | .complex _ _ _ | .string _ | .nilFunc | .nilIface | .pointer none | .slice none _ _ | .map _ | .iface _ _ => true
  | _ => false
def Za2 : Value → Bool
  | .agg cs => cs.toList.all Zba
  | v => Zba v

def Zuh : Value → Bool | .func .. => true | _ => false
def Zhe : Value → Bool | .agg _ => true | _ => false
def Zhw : Value → Bool | .tuple _ => true | _ => false
theorem Zi7 {m : MapM} {v v' : Value} (h : Zuh v = false) : CR m v v' = CR0 m v v' := by cases v <;> first | rfl | cases h
theorem Zhq {m : MapM} {v v' : Value} (h : Zhe v = false) : VR1 m v v' = CR m v v' := by cases v <;> first | rfl | cases h
theorem Zfp {m : MapM} {v v' : Value} (h : Zhw v = false) : VR m v v' = VR1 m v v' := by cases v <;> first | rfl | cases h
theorem Ztb {v : Value} (h : Zhe v = false) : Za2 v = Zba v := by cases v <;> first | rfl | cases h
theorem Zem {P : Value → Prop} (h0 : ∀ v, Zuh v = false → P v) (h1 : ∀ f xs ys, P (.func f xs ys)) (v : Value) : P v := by
 cases v <;> first | exact h1 _ _ _ | exact h0 _ rfl
theorem Zg3 {P : Value → Prop} (h0 : ∀ v, Zhe v = false → P v) (h1 : ∀ f, P (.agg f)) (v : Value) : P v := by
 cases v <;> first | exact h1 _ | exact h0 _ rfl
theorem Zkj {P : Value → Prop} (h0 : ∀ v, Zhw v = false → P v) (h1 : ∀ f, P (.tuple f)) (v : Value) : P v := by
 cases v <;> first | exact h1 _ | exact h0 _ rfl

theorem CR0.pure {m : MapM} {v v' : Value} (h : CR0 m v v') (hp : Zba v = true) : v' = v := by
  cases v
  case pointer a => cases a with
    | none => exact h
    | some a => cases hp
  case slice a n c => cases a with
    | none => exact h
    | some a => cases hp
  case func => cases hp
  case chan => cases hp
  case agg => cases hp
  case tuple => cases hp
  all_goals exact h
theorem CR.pure {m : MapM} {v v' : Value} (h : CR m v v') (hp : Zba v = true) : v' = v := by
  revert h hp
  refine Zem (P := fun v => CR m v v' → Zba v = true → v' = v) ?_ ?_ v
  · intro v hf h hp; rw [Zi7 hf] at h; exact h.pure hp
  · intro f xs ys h hp; cases hp
theorem CR0.of_pure {m : MapM} {v : Value} (hp : Zba v = true) : CR0 m v v := by
  cases v
  case pointer a => cases a with
    | none => exact rfl
    | some a => cases hp
  case slice a n c => cases a with
    | none => exact rfl
    | some a => cases hp
  case chan => trivial
  all_goals exact rfl
theorem CR.of_pure {m : MapM} {v : Value} (hp : Zba v = true) : CR m v v := by
  revert hp
  refine Zem (P := fun v => Zba v = true → CR m v v) ?_ ?_ v
  · intro v hf hp; rw [Zi7 hf]; exact .of_pure hp
  · intro f xs ys hp; cases hp
theorem VR1.pure {m : MapM} {v v' : Value} (h : VR1 m v v') (hp : Za2 v = true) : v' = v := by
 revert h hp
 refine Zg3 (P := fun v => VR1 m v v' → Za2 v = true → v' = v) ?_ ?_ v
 ·intro v hf h hp; rw [Zhq hf] at h; rw [Ztb hf] at hp; exact h.pure hp
 ·intro cs h hp
  obtain ⟨cs', rfl, hl⟩ := h
  simp only [Za2, List.all_eq_true] at hp
  have : cs'.toList = cs.toList := L2.eq (hl.mono fun x hx y hxy => hxy.pure (hp x hx))
  rw [show cs' = cs from by rw [← Array.toArray_toList (xs := cs'), this, Array.toArray_toList]]
theorem VR1.of_pure {m : MapM} {v : Value} (hp : Za2 v = true) : VR1 m v v := by
 revert hp
 refine Zg3 (P := fun v => Za2 v = true → VR1 m v v) ?_ ?_ v
 ·intro v hf hp; rw [Zhq hf]; rw [Ztb hf] at hp; exact .of_pure hp
 ·intro cs hp
  simp only [Za2, List.all_eq_true] at hp
  exact ⟨cs, rfl, (L2.refl _).mono fun x hx y hxy => by subst hxy; exact CR.of_pure (hp _ hx)⟩
theorem Zgp {v : Value} (hp : Za2 v = true) : Zhw v = false := by
 cases v <;> first | rfl | (exact absurd hp (by simp [Za2, Zba]))
theorem VR.pure {m : MapM} {v v' : Value} (h : VR m v v') (hp : Za2 v = true) : v' = v := by
 rw [Zfp (Zgp hp)] at h
 exact h.pure hp
theorem VR.of_pure {m : MapM} {v : Value} (hp : Za2 v = true) : VR m v v := by
 rw [Zfp (Zgp hp)]
 exact .of_pure hp
theorem VR.dead {m : MapM} {v : Value} : VR m Flat.dead v := trivial
theorem VR.undef {m : MapM} : VR m Go.undef Go.undef := ⟨#[], rfl, L2.nil⟩


def Zcx (p : Nat → Bool) : Value → Bool
  | .pointer (some ⟨b, _, none⟩) => p b
  | .slice (some a) _ _ => p a.block
  | _ => true
def Zan (p : Nat → Bool) : Value → Bool
  | .func _ xs ys => xs.toList.all (Zcx p) && ys.toList.all (Zcx p)
  | v => Zcx p v
def Zf8 (p : Nat → Bool) : Value → Bool
  | .agg cs => cs.toList.all (Zan p)
  | v => Zan p v
def Zdx (p : Nat → Bool) : Value → Bool
  | .tuple vs => vs.toList.all (Zf8 p)
  | v => Zf8 p v

theorem Zia {p : Nat → Bool} {v : Value} (h : Zuh v = false) : Zan p v = Zcx p v := by cases v <;> first | rfl | cases h
theorem Zor {p : Nat → Bool} {v : Value} (h : Zhe v = false) : Zf8 p v = Zan p v := by cases v <;> first | rfl | cases h
theorem Zqd {p : Nat → Bool} {v : Value} (h : Zhw v = false) : Zdx p v = Zf8 p v := by cases v <;> first | rfl | cases h
theorem CR0.congr {m m' : MapM} {p : Nat → Bool} (hm : ∀ b r, p b = true → m b = some r → m' b = some r) {v v' : Value} (h : CR0 m v v') (hp : Zcx p v = true) : CR0 m' v v' := by
  cases v
  case pointer a => rcases a with _ | ⟨b, o, _ | q⟩
                    · exact h
                    · obtain ⟨r, h1, h2⟩ := h; exact ⟨r, hm _ _ hp h1, h2⟩
                    · exact h
  case slice a n c => cases a with
    | none => exact h
    | some a => obtain ⟨r, a', c', h1, h2⟩ := h; exact ⟨r, a', c', hm _ _ hp h1, h2⟩
  all_goals exact h
theorem CR.congr {m m' : MapM} {p : Nat → Bool} (hm : ∀ b r, p b = true → m b = some r → m' b = some r) {v v' : Value} (h : CR m v v') (hp : Zan p v = true) : CR m' v v' := by
 revert h hp
 refine Zem (P := fun v => CR m v v' → Zan p v = true → CR m' v v') ?_ ?_ v
 ·intro v hf h hp; rw [Zi7 hf] at h ⊢; rw [Zia hf] at hp; exact h.congr hm hp
 ·intro f xs ys h hp
  obtain ⟨xs', ys', h1, h2, h3⟩ := h
  simp only [Zan, Bool.and_eq_true, List.all_eq_true] at hp
  exact ⟨xs', ys', h1, h2.mono fun x hx y hxy => hxy.congr hm (hp.1 x hx), h3.mono fun x hx y hxy => hxy.congr hm (hp.2 x hx)⟩
theorem VR1.congr {m m' : MapM} {p : Nat → Bool} (hm : ∀ b r, p b = true → m b = some r → m' b = some r) {v v' : Value} (h : VR1 m v v') (hp : Zf8 p v = true) : VR1 m' v v' := by
 revert h hp
 refine Zg3 (P := fun v => VR1 m v v' → Zf8 p v = true → VR1 m' v v') ?_ ?_ v
 ·intro v hf h hp; rw [Zhq hf] at h ⊢; rw [Zor hf] at hp; exact h.congr hm hp
 ·intro cs h hp
  obtain ⟨cs', h1, h2⟩ := h
  simp only [Zf8, List.all_eq_true] at hp
  exact ⟨cs', h1, h2.mono fun x hx y hxy => hxy.congr hm (hp x hx)⟩
theorem VR.congr {m m' : MapM} {p : Nat → Bool} (hm : ∀ b r, p b = true → m b = some r → m' b = some r) {v v' : Value} (h : VR m v v') (hp : Zdx p v = true) : VR m' v v' := by
 revert h hp
 refine Zkj (P := fun v => VR m v v' → Zdx p v = true → VR m' v v') ?_ ?_ v
 ·intro v hf h hp; rw [Zfp hf] at h ⊢; rw [Zqd hf] at hp; exact h.congr hm hp
 ·intro cs h hp
  obtain ⟨cs', h1, h2⟩ := h
  simp only [Zdx, List.all_eq_true] at hp
  exact ⟨cs', h1, h2.mono fun x hx y hxy => hxy.congr hm (hp x hx)⟩

theorem Zll {p : Nat → Bool} (hp : ∀ b, p b = true) (v : Value) : Zcx p v = true := by
  cases v
  case pointer a => rcases a with _ | ⟨b, o, _ | q⟩ <;> simp [Zcx, hp]
  case slice a n c => cases a <;> simp [Zcx, hp]
  all_goals rfl
theorem Zge {p : Nat → Bool} (hp : ∀ b, p b = true) (v : Value) : Zan p v = true := by
 refine Zem (P := fun v => Zan p v = true) ?_ ?_ v
 ·intro v hf; rw [Zia hf]; exact Zll hp v
 ·intro f xs ys; simp [Zan, List.all_eq_true, Zll hp]
theorem Ziq {p : Nat → Bool} (hp : ∀ b, p b = true) (v : Value) : Zf8 p v = true := by
 refine Zg3 (P := fun v => Zf8 p v = true) ?_ ?_ v
 ·intro v hf; rw [Zor hf]; exact Zge hp v
 ·intro cs; simp only [Zf8, List.all_eq_true]; exact fun x _ => Zge hp x
theorem Zsz {p : Nat → Bool} (hp : ∀ b, p b = true) (v : Value) : Zdx p v = true := by
 refine Zkj (P := fun v => Zdx p v = true) ?_ ?_ v
 ·intro v hf; rw [Zqd hf]; exact Ziq hp v
 ·intro cs; simp only [Zdx, List.all_eq_true]; exact fun x _ => Ziq hp x

theorem CR.mono {m m' : MapM} (hm : ∀ b r, m b = some r → m' b = some r) {v v' : Value} (h : CR m v v') : CR m' v v' :=
 h.congr (p := fun _ => true) (fun b r _ => hm b r) (Zge (fun _ => rfl) _)
theorem VR.mono {m m' : MapM} (hm : ∀ b r, m b = some r → m' b = some r) {v v' : Value} (h : VR m v v') : VR m' v v' :=
 h.congr (p := fun _ => true) (fun b r _ => hm b r) (Zsz (fun _ => rfl) _)
theorem VR1.mono {m m' : MapM} (hm : ∀ b r, m b = some r → m' b = some r) {v v' : Value} (h : VR1 m v v') : VR1 m' v v' :=
 h.congr (p := fun _ => true) (fun b r _ => hm b r) (Ziq (fun _ => rfl) _)


structure Blk where
  cells : List Value
  sz : Nat
  wr : Bool
  fix : Bool      -- nothing is known of a slice's capacity
  mv : Bool       -- 'append' may come
  pur : Bool

def Reg.ext (r : Reg) : Nat := if r.wr then r.hi else r.lo + r.len

abbrev Glob := Nat → Option (List Value)
structure HRel (G : Glob) (m : MapM) (σ : List Blk) (w : World) : Prop where
  reg : ∀ (b : Nat) (r : Reg), m b = some r → ∃ blk : Blk, σ[b]? = some blk ∧ 0 < blk.sz ∧ r.wr = blk.wr ∧ r.fix = blk.fix ∧ r.len = blk.cells.length ∧ r.sz = blk.sz ∧ r.mv = blk.mv
  live : ∀ (b : Nat) (blk : Blk), σ[b]? = some blk → 0 < blk.sz → ∃ r, m b = some r
  cell : ∀ (b : Nat) (blk : Blk) (r : Reg) (i : Nat) (v : Value), σ[b]? = some blk → m b = some r → blk.cells[i]? = some v → ∃ v', w.cell? ⟨r.g, r.lo + i, none⟩ = some v' ∧ CR m v v'
  pur : ∀ (b : Nat) (blk : Blk), σ[b]? = some blk → blk.pur = true → ∀ v, v ∈ blk.cells → Zba v = true
  own : ∀ b r, m b = some r → r.wr = true → r.lo + r.len ≤ r.hi ∧ ∀ j, r.lo ≤ j → j < r.hi → ∃ v, w.cell? ⟨r.g, j, none⟩ = some v ∧ w.frozen? ⟨r.g, j, none⟩ = false
  clean : ∀ b r, m b = some r → r.wr = true → 1 < r.sz → r.lo < r.hi → ∃ c t, w.heap[r.g]? = some (Obj.cells c t (0, 0))
  dis : ∀ b b' r r', b ≠ b' → m b = some r → m b' = some r' → r.wr = true → r.g = r'.g → ∀ j, r.lo ≤ j → j < r.hi → r'.lo ≤ j → ¬ j < r'.ext
  glob : ∀ g cs, G g = some cs → g < w.heap.size ∧ ∀ (i : Nat) (v : Value), cs[i]? = some v → w.cell? ⟨g, i, none⟩ = some v ∧ Zba v = true
  gwr : ∀ b r j, m b = some r → r.wr = true → r.lo ≤ j → j < r.hi → G r.g = none

theorem HRel.dom {G : Glob} {m : MapM} {σ : List Blk} {w : World} (h : HRel G m σ w) {b : Nat} (hb : σ.length ≤ b) : m b = none := by
  cases hm : m b with
  | none => rfl
  | some r =>
    obtain ⟨blk, h1, _⟩ := h.reg b r hm
    rw [List.getElem?_eq_none hb] at h1; cases h1
theorem HRel.hole {G : Glob} {m : MapM} {σ : List Blk} {w : World} (h : HRel G m σ w) {b : Nat} {x : Blk} (hb : σ[b]? = some x) (h0 : x.sz = 0) : m b = none := by
 cases hm : m b with
 | none => rfl
 | some r =>
  obtain ⟨blk, h1, h2, _⟩ := h.reg b r hm
  rw [hb] at h1; injection h1 with h1; subst h1; omega
theorem HRel.at_ {G : Glob} {m : MapM} {σ : List Blk} {w : World} (h : HRel G m σ w) {b : Nat} {blk : Blk} {r : Reg} (hb : σ[b]? = some blk) (hr : m b = some r) : 0 < blk.sz ∧ r.wr = blk.wr ∧ r.fix = blk.fix ∧ r.len = blk.cells.length ∧ r.sz = blk.sz ∧ r.mv = blk.mv := by
 obtain ⟨blk', h1, h2⟩ := h.reg b r hr
 rw [hb] at h1; injection h1 with h1; subst h1; exact h2


def Zj4 (m : MapM) (g j : Nat) : Prop := ∃ b r, m b = some r ∧ r.wr = true ∧ r.g = g ∧ r.lo ≤ j ∧ j < r.hi

def Zdt (m : MapM) (g : Nat) (o o' : Obj) : Prop :=
  o' = o ∨ ∃ c t fr c', o = .cells c t fr ∧ o' = .cells c' t fr ∧ c'.size = c.size ∧ ∀ j, ¬ Zj4 m g j → c'[j]? = c[j]?

structure Ent where
  m : MapM
  w : World
  defers : List Deferred

structure Frame (E : Ent) (m : MapM) (w : World) : Prop where
  os : w.os = E.w.os
  tape : w.tape = E.w.tape
  output : w.output = E.w.output
  size : E.w.heap.size ≤ w.heap.size
  block : ∀ g o, E.w.heap[g]? = some o → ∃ o', w.heap[g]? = some o' ∧ Zdt E.m g o o'
  reg : ∀ b r, m b = some r → r.wr = true → r.lo < r.hi → E.w.heap.size ≤ r.g ∨ ∀ j, r.lo ≤ j → j < r.hi → Zj4 E.m r.g j
  keep : ∀ b r, E.m b = some r → (r.wr = false ∨ r.mv = false) → m b = some r

theorem Zdt.refl (m : MapM) (g : Nat) (o : Obj) : Zdt m g o o := .inl rfl
theorem Zdt.trans {m : MapM} {g : Nat} {o o' o'' : Obj} (h : Zdt m g o o') (h' : Zdt m g o' o'') : Zdt m g o o'' := by
 rcases h with rfl | ⟨c, t, fr, c', rfl, rfl, h1, h2⟩
 ·exact h'
 ·rcases h' with rfl | ⟨d, t', fr', d', h3, rfl, h4, h5⟩
  ·exact .inr ⟨c, t, fr, c', rfl, rfl, h1, h2⟩
  ·injection h3 with h3 h6 h7
   subst h3; subst h6; subst h7
   exact .inr ⟨c, t, fr, d', rfl, rfl, h4.trans h1, fun j hj => (h5 j hj).trans (h2 j hj)⟩
theorem Zdt.mono {m m' : MapM} {g : Nat} {o o' : Obj} (h : Zdt m g o o') (hm : ∀ j, Zj4 m g j → Zj4 m' g j) : Zdt m' g o o' := by
 rcases h with rfl | ⟨c, t, fr, c', rfl, rfl, h1, h2⟩
 ·exact .inl rfl
 ·exact .inr ⟨c, t, fr, c', rfl, rfl, h1, fun j hj => h2 j (fun hw => hj (hm j hw))⟩

theorem Frame.refl {G : Glob} {m : MapM} {σ : List Blk} {w : World} (ds : List Deferred) (h : HRel G m σ w) : Frame ⟨m, w, ds⟩ m w :=
 ⟨rfl, rfl, rfl, Nat.le_refl _, fun g o ho => ⟨o, ho, .refl _ _ _⟩, fun b r hr hw hlt => .inr fun j h1 h2 => ⟨b, r, hr, hw, rfl, h1, h2⟩, fun b r hr _ => hr⟩

theorem Frame.trans {E : Ent} {m m1 m2 : MapM} {w w1 : World} {ds : List Deferred} (h : Frame E m w) (h' : Frame ⟨m1, w, ds⟩ m2 w1)
  (hm : ∀ g j, Zj4 m1 g j → Zj4 m g j)
  {m3 : MapM} (hreg : ∀ b r, m3 b = some r → r.wr = true → m b = some r ∨ ∃ b', m2 b' = some r) (hkeep : ∀ b r, E.m b = some r → (r.wr = false ∨ r.mv = false) → m3 b = some r) : Frame E m3 w1 := by
 have hW : ∀ g j, g < E.w.heap.size → Zj4 m g j → Zj4 E.m g j := by
  intro g j hg ⟨b, r, h1, h2, h3, h4, h5⟩
  rcases h.reg b r h1 h2 (by omega) with h6 | h6
  ·omega
  ·rw [← h3]; exact h6 j h4 h5
 refine ⟨h'.os.trans h.os, h'.tape.trans h.tape, h'.output.trans h.output, Nat.le_trans h.size h'.size, ?_, ?_, hkeep⟩
 ·intro g o ho
  obtain ⟨o1, h1, h2⟩ := h.block g o ho
  obtain ⟨o2, h3, h4⟩ := h'.block g o1 h1
  have hg : g < E.w.heap.size := (Array.getElem?_eq_some_iff.1 ho).1
  exact ⟨o2, h3, h2.trans (h4.mono fun j hj => hW g j hg (hm g j hj))⟩
 ·intro b r hr hw hlt
  rcases hreg b r hr hw with h1 | ⟨b', h1⟩
  ·exact h.reg b r h1 hw hlt
  ·rcases h'.reg b' r h1 hw hlt with h2 | h2
   ·exact .inl (Nat.le_trans h.size h2)
   ·rcases Nat.lt_or_ge r.g E.w.heap.size with h3 | h3
    ·exact .inr fun j h4 h5 => hW r.g j h3 (hm _ _ (h2 j h4 h5))
    ·exact .inl h3


structure St where
  tmps : Nat → Value
  heap : List Blk

def upd (f : Nat → Value) (i : Nat) (v : Value) : Nat → Value := fun j => if j = i then v else f j
def St.put (s : St) (d : Option Tmp) (v : Value) : St :=
  match d with
  | none => s
  | some d => { s with tmps := upd s.tmps d v }

structure SRel (G : Glob) (nt : Nat) (E : Ent) (m : MapM) (s : St) (a : Act) (w : World) : Prop where
  size : a.tmps.size = nt
  tmps : ∀ i, VR m (s.tmps i) (a.tmps.getD i undef)
  defers : a.defers = E.defers
  heap : HRel G m s.heap w
  frame : Frame E m w

def Zbb (nt : Nat) (d : Option Tmp) : Bool := d.all (· < nt)

theorem SRel.put {G : Glob} {nt : Nat} {E : Ent} {m : MapM} {s : St} {a : Act} {w : World} (h : SRel G nt E m s a w) {d : Option Tmp} (hd : Zbb nt d = true) {v v' : Value} (hv : VR m v v') : SRel G nt E m (s.put d v) (a.put d v') w := by
 cases d with
 | none => exact h
 | some d =>
  simp only [Zbb, Option.all_some, decide_eq_true_eq] at hd
  refine ⟨by simp [Act.put, h.size], ?_, h.defers, h.heap, h.frame⟩
  intro i
  simp only [St.put, Act.put, upd]
  by_cases hi : i = d
  ·subst hi
   have : i < a.tmps.size := by rw [h.size]; exact hd
   simp [Array.getElem?_setIfInBounds, this, hv]
  ·have := h.tmps i
   rw [if_neg hi]
   simp only [Array.getD_eq_getD_getElem?] at this ⊢
   rw [Array.getElem?_setIfInBounds_ne (fun e => hi e.symm)]
   exact this

end Go.Flat
end
section
/- What allocations and writes do to the abstract heap. -/
namespace Go.Flat

theorem Zdh (g o n : Nat) : (⟨g, o, none⟩ : Addr).add n = ⟨g, o + n, none⟩ := by unfold Addr.add; split <;> simp_all

theorem Zn1 {w : World} {g o : Nat} {v : Value} (h : w.cell? ⟨g, o, none⟩ = some v) : ∃ c t fr, w.heap[g]? = some (.cells c t fr) := by
 unfold World.cell? at h
 split at h
 ·rename_i c t fr hc; exact ⟨c, t, fr, hc⟩
 ·cases h
theorem Znk {w : World} {g o : Nat} {v : Value} (h : w.cell? ⟨g, o, none⟩ = some v) : g < w.heap.size := World.block_lt_of_cell? w _ h

theorem HRel.congrW {G : Glob} {m : MapM} {σ : List Blk} {w w' : World} (h : HRel G m σ w) (hs : w.heap.size ≤ w'.heap.size) (hc : ∀ a v, w.cell? a = some v → w'.cell? a = some v) (hf : ∀ a v, w.cell? a = some v → w'.frozen? a = w.frozen? a)
  (hpl : ∀ (g : Nat) (c : Array Value) (t : TypeId), w.heap[g]? = some (Obj.cells c t (0, 0)) → ∃ c', w'.heap[g]? = some (Obj.cells c' t (0, 0))) : HRel G m σ w' where
 clean := fun b r h1 h2 h3 h4 => let ⟨c, t, h5⟩ := h.clean b r h1 h2 h3 h4; let ⟨c', h6⟩ := hpl _ _ _ h5; ⟨c', t, h6⟩
 reg := h.reg
 live := h.live
 cell := fun b blk r i v h1 h2 h3 => let ⟨v', h4, h5⟩ := h.cell b blk r i v h1 h2 h3; ⟨v', hc _ _ h4, h5⟩
 pur := h.pur
 own := fun b r h1 h2 => ⟨(h.own b r h1 h2).1, fun j h3 h4 => let ⟨v, h5, h6⟩ := (h.own b r h1 h2).2 j h3 h4; ⟨v, hc _ _ h5, (hf _ _ h5).trans h6⟩⟩
 dis := h.dis
 glob := fun g cs h1 => ⟨Nat.lt_of_lt_of_le (h.glob g cs h1).1 hs, fun i v h2 => ⟨hc _ _ ((h.glob g cs h1).2 i v h2).1, ((h.glob g cs h1).2 i v h2).2⟩⟩
 gwr := h.gwr

theorem HRel.drew {G : Glob} {m : MapM} {σ : List Blk} {w : World} (h : HRel G m σ w) : HRel G m σ w.drew := h.congrW (Nat.le_refl _) (fun _ _ h => h) (fun _ _ _ => rfl) (fun _ c _ h => ⟨c, h⟩)

def Ze3 (m : MapM) (b : Nat) (r : Reg) : MapM := fun i => if i = b then some r else m i
theorem Zbv (m : MapM) (b : Nat) (r : Reg) : Ze3 m b r b = some r := by simp [Ze3]
theorem Zcm (m : MapM) {b i : Nat} (r : Reg) (h : i ≠ b) : Ze3 m b r i = m i := by simp [Ze3, h]

theorem HRel.there {G : Glob} {m : MapM} {σ : List Blk} {w : World} (h : HRel G m σ w) {b : Nat} {r : Reg} (hr : m b = some r) {j : Nat} (h1 : r.lo ≤ j) (h2 : j < r.ext) : ∃ v, w.cell? ⟨r.g, j, none⟩ = some v := by
 unfold Reg.ext at h2
 split at h2
 ·rename_i hw
  obtain ⟨v, hv, _⟩ := (h.own b r hr hw).2 j h1 h2
  exact ⟨v, hv⟩
 ·obtain ⟨blk, hb, _, _, _, hl, _⟩ := h.reg b r hr
  have hi : j - r.lo < blk.cells.length := by omega
  obtain ⟨v', hv, _⟩ := h.cell b blk r (j - r.lo) _ hb hr (List.getElem?_eq_getElem hi)
  exact ⟨v', by rw [show r.lo + (j - r.lo) = j from by omega] at hv; exact hv⟩

theorem HRel.replace {G : Glob} {m : MapM} {σ : List Blk} {w w' : World} (h : HRel G m σ w) {b : Nat} {blk : Blk} (hb : σ[b]? = some blk) (r2 : Reg) (blk2 : Blk)
  (hfl : 0 < blk2.sz ∧ r2.wr = blk2.wr ∧ r2.fix = blk2.fix ∧ r2.len = blk2.cells.length ∧ r2.sz = blk2.sz ∧ r2.mv = blk2.mv) (hsize : w.heap.size ≤ w'.heap.size)
  (hold : ∀ i r, i ≠ b → m i = some r → ∀ j, r.lo ≤ j → j < r.ext → w'.cell? ⟨r.g, j, none⟩ = w.cell? ⟨r.g, j, none⟩ ∧ w'.frozen? ⟨r.g, j, none⟩ = w.frozen? ⟨r.g, j, none⟩)
  (hglob : ∀ g, (G g).isSome → ∀ j v, w.cell? ⟨g, j, none⟩ = some v → w'.cell? ⟨g, j, none⟩ = some v)
  (hc : ∀ (i : Nat) (v : Value), blk2.cells[i]? = some v → ∃ v', w'.cell? ⟨r2.g, r2.lo + i, none⟩ = some v' ∧ CR (Ze3 m b r2) v v')
  (hp : blk2.pur = true → ∀ v, v ∈ blk2.cells → Zba v = true)
  (hown : r2.wr = true → r2.lo + r2.len ≤ r2.hi ∧ ∀ j, r2.lo ≤ j → j < r2.hi → ∃ v, w'.cell? ⟨r2.g, j, none⟩ = some v ∧ w'.frozen? ⟨r2.g, j, none⟩ = false)
  (hdis : ∀ i r, i ≠ b → m i = some r → (r2.wr = true ∨ r.wr = true) → r2.g = r.g → ∀ j, r2.lo ≤ j → j < r2.ext → r.lo ≤ j → ¬ j < r.ext)
  (hgw : r2.wr = true → ∀ j, r2.lo ≤ j → j < r2.hi → G r2.g = none)
  (hmono : ∀ (i : Nat) (x : Blk) v v', i ≠ b → σ[i]? = some x → v ∈ x.cells → CR m v v' → CR (Ze3 m b r2) v v')
  (hpl : ∀ (g : Nat) (c : Array Value) (t : TypeId), g < w.heap.size → w.heap[g]? = some (Obj.cells c t (0, 0)) → ∃ c', w'.heap[g]? = some (Obj.cells c' t (0, 0)))
  (hpl2 : r2.wr = true → 1 < r2.sz → r2.lo < r2.hi → ∃ c t, w'.heap[r2.g]? = some (Obj.cells c t (0, 0))) :
  HRel G (Ze3 m b r2) (σ.set b blk2) w' := by
 have hlt : b < σ.length := (List.getElem?_eq_some_iff.1 hb).1
 have hcase : ∀ i r, Ze3 m b r2 i = some r → (i = b ∧ r = r2) ∨ (i ≠ b ∧ m i = some r) := by
  intro i r hi
  by_cases he : i = b
  ·subst he; rw [Zbv] at hi; injection hi with hi; exact .inl ⟨rfl, hi.symm⟩
  ·rw [Zcm _ _ he] at hi; exact .inr ⟨he, hi⟩
 have hblk : ∀ (i : Nat) (x : Blk), (σ.set b blk2)[i]? = some x → (i = b ∧ x = blk2) ∨ (i ≠ b ∧ σ[i]? = some x) := by
  intro i x hi
  rw [List.getElem?_set] at hi
  split at hi
  ·rename_i he; subst he; injection hi with hi; exact .inl ⟨rfl, hi.symm⟩
  ·rename_i he; exact .inr ⟨fun e => he e.symm, hi⟩
 refine ⟨?_, ?_, ?_, ?_, ?_, ?_, ?_, ?_, ?_⟩
 ·intro i r hr
  rcases hcase i r hr with ⟨rfl, rfl⟩ | ⟨hne, hr⟩
  ·exact ⟨blk2, by simp [hlt], hfl⟩
  ·obtain ⟨x, h1, h2⟩ := h.reg i r hr
   exact ⟨x, by rw [List.getElem?_set_ne (fun e => hne e.symm)]; exact h1, h2⟩
 ·intro i x hi hsz
  rcases hblk i x hi with ⟨rfl, rfl⟩ | ⟨hne, hi⟩
  ·exact ⟨r2, Zbv _ _ _⟩
  ·obtain ⟨r, h1⟩ := h.live i x hi hsz
   exact ⟨r, by rw [Zcm _ _ hne]; exact h1⟩
 ·intro i x r k v hi hr hv
  rcases hblk i x hi with ⟨rfl, rfl⟩ | ⟨hne, hi⟩
  ·rw [Zbv] at hr; injection hr with hr; subst hr
   exact hc k v hv
  ·rw [Zcm _ _ hne] at hr
   obtain ⟨v', h1, h2⟩ := h.cell i x r k v hi hr hv
   have hk : k < x.cells.length := (List.getElem?_eq_some_iff.1 hv).1
   obtain ⟨h3, h4, h5, h6, h7⟩ := h.at_ hi hr
   have hext : r.lo + k < r.ext := by
    unfold Reg.ext
    split
    ·rename_i hw; have := (h.own i r hr hw).1; omega
    ·omega
   rw [← (hold i r hne hr (r.lo + k) (by omega) hext).1] at h1
   exact ⟨v', h1, hmono i x v v' hne hi (List.mem_of_getElem? hv) h2⟩
 ·intro i x hi
  rcases hblk i x hi with ⟨rfl, rfl⟩ | ⟨hne, hi⟩
  ·exact hp
  ·exact h.pur i x hi
 ·intro i r hr hw
  rcases hcase i r hr with ⟨rfl, rfl⟩ | ⟨hne, hr⟩
  ·exact hown hw
  ·obtain ⟨h1, h2⟩ := h.own i r hr hw
   refine ⟨h1, fun j h3 h4 => ?_⟩
   obtain ⟨v, h5, h6⟩ := h2 j h3 h4
   obtain ⟨h7, h8⟩ := hold i r hne hr j h3 (by simp [Reg.ext, hw]; exact h4)
   exact ⟨v, by rw [h7]; exact h5, by rw [h8]; exact h6⟩
 ·intro i r hr hw hs hlh
  rcases hcase i r hr with ⟨rfl, rfl⟩ | ⟨hne, hr⟩
  ·exact hpl2 hw hs hlh
  ·obtain ⟨c, t, h1⟩ := h.clean i r hr hw hs hlh
   obtain ⟨c', h2⟩ := hpl _ _ _ (Array.getElem?_eq_some_iff.1 h1).1 h1
   exact ⟨c', t, h2⟩
 ·intro i i' r r' hne hr hr' hw hg j h1 h2 h3 h4
  rcases hcase i r hr with ⟨e1, e2⟩ | ⟨k1, k2⟩
  ·rcases hcase i' r' hr' with ⟨e3, e4⟩ | ⟨k3, k4⟩
   ·exact hne (e1.trans e3.symm)
   ·subst e2; exact hdis i' r' k3 k4 (.inl hw) hg j h1 (by simp [Reg.ext, hw]; exact h2) h3 h4
  ·rcases hcase i' r' hr' with ⟨e3, e4⟩ | ⟨k3, k4⟩
   ·subst e4; exact hdis i r k1 k2 (.inr hw) hg.symm j h3 h4 h1 (by simp [Reg.ext, hw]; exact h2)
   ·exact h.dis i i' r r' hne k2 k4 hw hg j h1 h2 h3 h4
 ·intro g cs hg
  obtain ⟨h1, h2⟩ := h.glob g cs hg
  exact ⟨Nat.lt_of_lt_of_le h1 hsize, fun i v hi => ⟨hglob g (by simp [hg]) i v (h2 i v hi).1, (h2 i v hi).2⟩⟩
 ·intro i r j hr hw h1 h2
  rcases hcase i r hr with ⟨rfl, rfl⟩ | ⟨hi, hr⟩
  ·exact hgw hw j h1 h2
  ·exact h.gwr i r j hr hw h1 h2

theorem HRel.reserve {G : Glob} {m : MapM} {σ : List Blk} {w : World} (h : HRel G m σ w) (x : Blk) (hx : x.cells = []) (hx0 : x.sz = 0) : HRel G m (σ ++ [x]) w where
  reg := fun b r hr => by
    obtain ⟨blk, h1, h2⟩ := h.reg b r hr
    exact ⟨blk, by rw [List.getElem?_append_left (List.getElem?_eq_some_iff.1 h1).1]; exact h1, h2⟩
  live := fun b blk hb hsz => by
    rw [List.getElem?_append] at hb
    split at hb
    · exact h.live b blk hb hsz
    · have := List.mem_of_getElem? hb
      simp at this; subst this; omega
  cell := fun b blk r i v hb hr hv => by
    obtain ⟨blk', h1, h2⟩ := h.reg b r hr
    rw [List.getElem?_append_left (List.getElem?_eq_some_iff.1 h1).1] at hb
    exact h.cell b blk r i v hb hr hv
  pur := fun b blk hb hp v hv => by
    rw [List.getElem?_append] at hb
    split at hb
    · exact h.pur b blk hb hp v hv
    · have := List.mem_of_getElem? hb
      simp at this; subst this; rw [hx] at hv; cases hv
  own := h.own
  clean := h.clean
  dis := h.dis
  glob := h.glob
  gwr := h.gwr

theorem HRel.new {G : Glob} {m : MapM} {σ : List Blk} {w : World} (h : HRel G m σ w) {b : Nat} {x : Blk} (hb : σ[b]? = some x) (hm : m b = none) (blk : Blk) (hsz : 0 < blk.sz) (cs : Array Value) (t : TypeId) (fr : Nat × Nat)
    (hl : blk.cells.length ≤ cs.size) (hc : ∀ (i : Nat) (v : Value), blk.cells[i]? = some v → ∃ v', cs[i]? = some v' ∧ CR m v v')
    (hp : blk.pur = true → ∀ v, v ∈ blk.cells → Zba v = true) (hf : ∀ j, j < cs.size → ¬ (fr.1 ≤ j ∧ j < fr.2)) (hfr : blk.wr = true → 1 < blk.sz → fr = (0, 0)) :
    HRel G (Ze3 m b ⟨w.heap.size, 0, cs.size, blk.cells.length, blk.sz, blk.wr, blk.fix, blk.mv⟩) (σ.set b blk) (w.alloc (.cells cs t fr)) := by
  have hmono : ∀ (r2 : Reg) b' r, m b' = some r → Ze3 m b r2 b' = some r := by
    intro r2 b' r hb'
    rw [Zcm]
    · exact hb'
    · rintro rfl; rw [hm] at hb'; cases hb'
  have hcell : ∀ a v, w.cell? a = some v → (w.alloc (.cells cs t fr)).cell? a = some v := fun a v hv => by
    rw [World.cell?_alloc_lt _ _ _ (World.block_lt_of_cell? w a hv)]; exact hv
  have hfroz : ∀ a v, w.cell? a = some v → (w.alloc (.cells cs t fr)).frozen? a = w.frozen? a := fun a v hv =>
    World.frozen?_alloc_old _ _ _ (Nat.ne_of_lt (World.block_lt_of_cell? w a hv))
  have hnew : (w.alloc (.cells cs t fr)).heap[w.heap.size]? = some (.cells cs t fr) := heap_alloc_new w _
  have hnc : ∀ j, (w.alloc (.cells cs t fr)).cell? ⟨w.heap.size, j, none⟩ = cs[j]? := fun j => cell_of_row _ _ _ _ _ _ hnew
  refine h.replace hb _ blk ⟨hsz, rfl, rfl, rfl, rfl, rfl⟩ (by simp) ?_ ?_ ?_ hp ?_ ?_ ?_ (fun i x v v' _ _ _ hcr => hcr.mono (hmono _)) (fun g c t hg h => ⟨c, by rw [heap_alloc_old _ _ _ hg]; exact h⟩) (fun hw hs _ => by have := hfr hw hs; subst this; exact ⟨cs, t, hnew⟩)
  · intro i r hi hr j h1 h2
    obtain ⟨v, hv⟩ := h.there hr h1 h2
    exact ⟨by rw [hcell _ _ hv, hv], hfroz _ _ hv⟩
  · intro g _ j v hv; exact hcell _ _ hv
  · intro i v hi
    obtain ⟨v', h1, h2⟩ := hc i v hi
    exact ⟨v', by simp only [Nat.zero_add, hnc]; exact h1, h2.mono (hmono _)⟩
  · intro _
    refine ⟨by simpa using hl, fun j _ hj => ?_⟩
    simp only at hj
    refine ⟨cs[j], ?_, ?_⟩
    · simp only [hnc, Array.getElem?_eq_getElem hj]
    · have := hf j hj
      simp only [World.frozen?, hnew]
      obtain ⟨f1, f2⟩ := fr
      simp only at this ⊢
      rw [Bool.eq_false_iff]
      intro hh
      simp at hh
      exact this hh
  · intro i r hi hr _ hg j h1 h2 h3 h4
    obtain ⟨v, hv⟩ := h.there hr h3 h4
    have := Znk hv
    simp only at hg
    omega
  · intro _ j _ _
    show G w.heap.size = none
    cases hg : G w.heap.size with
    | none => rfl
    | some cs' => exact absurd (h.glob _ _ hg).1 (Nat.lt_irrefl _)


structure Wrote (w w' : World) (g o : Nat) (vs : List Value) : Prop where
  os : w'.os = w.os
  tape : w'.tape = w.tape
  output : w'.output = w.output
  size : w'.heap.size = w.heap.size
  here : ∀ j, w'.cell? ⟨g, j, none⟩ = if o ≤ j ∧ j < o + vs.length then vs[j - o]? else w.cell? ⟨g, j, none⟩
  other : ∀ k, k ≠ g → w'.heap[k]? = w.heap[k]?
  frozen : ∀ a, w'.frozen? a = w.frozen? a
  obj : ∀ c t fr, w.heap[g]? = some (.cells c t fr) → ∃ c', w'.heap[g]? = some (.cells c' t fr) ∧ c'.size = c.size
  none : vs = [] → w' = w

theorem Wrote.plain {w w' : World} {g o : Nat} {vs : List Value} (h : Wrote w w' g o vs) (g' : Nat) (c : Array Value) (t : TypeId) (hg : w.heap[g']? = some (Obj.cells c t (0, 0))) : ∃ c', w'.heap[g']? = some (Obj.cells c' t (0, 0)) := by
 by_cases he : g' = g
 ·subst he; obtain ⟨c', h1, _⟩ := h.obj _ _ _ hg; exact ⟨c', h1⟩
 ·exact ⟨c, by rw [h.other _ he]; exact hg⟩

theorem Wrote.refl (w : World) (g o : Nat) : Wrote w w g o [] := ⟨rfl, rfl, rfl, rfl, fun j => by rw [if_neg (by simp only [List.length_nil]; omega)], fun _ _ => rfl, fun _ => rfl, fun c t fr h => ⟨c, h, rfl⟩, fun _ => rfl⟩

theorem Zeh {P : Program} (g o : Nat) : ∀ (vs : List Value) (i : Nat) (w : World), (∀ v, v ∈ vs → v.oneCell' = true) →
    (∀ j, o + i ≤ j → j < o + i + vs.length → ∃ v, w.cell? ⟨g, j, none⟩ = some v ∧ w.frozen? ⟨g, j, none⟩ = false) →
    ∃ w', (storeCells ⟨g, o, none⟩ vs i).run P w = .ok () w' ∧ Wrote w w' g (o + i) vs
  | [], i, w, _, _ => ⟨w, rfl, .refl w g _⟩
  | v :: vs, i, w, h1, hh => by
    obtain ⟨u, hu, hf⟩ := hh (o + i) (Nat.le_refl _) (by simp)
    have hlt := Znk hu
    have hs : (store ((⟨g, o, none⟩ : Addr).add i) v).run P w = .ok () (w.setCell ⟨g, o + i, none⟩ v) := by
      rw [Zdh, run_store P w _ v .plain (h1 v (by simp)), hu]
      simp [hf]
    have hcs : ∀ j, (w.setCell ⟨g, o + i, none⟩ v).cell? ⟨g, j, none⟩ = if j = o + i then some v else w.cell? ⟨g, j, none⟩ := by
      intro j
      by_cases hj : j = o + i
      · subst hj; rw [if_pos rfl]; exact World.cell?_setCell_same _ _ _ hu
      · rw [if_neg hj]; exact World.cell?_setCell_other _ _ _ _ (by intro e; injection e with _ e _; exact hj e.symm)
    obtain ⟨w', hr, hW⟩ := Zeh (P := P) g o vs (i + 1) (w.setCell ⟨g, o + i, none⟩ v) (fun x hx => h1 x (by simp [hx])) (by
      intro j hj1 hj2
      obtain ⟨x, hx, hxf⟩ := hh j (by omega) (by simp; omega)
      refine ⟨x, ?_, by rw [World.frozen?_setCell]; exact hxf⟩
      rw [hcs, if_neg (by omega)]; exact hx)
    refine ⟨w', ?_, ?_⟩
    · simp only [storeCells, Sem.run_bind, hs, Result.andThen_ok]; exact hr
    · refine ⟨hW.os, hW.tape, hW.output, by rw [hW.size]; exact World.size_setCell _ _ _, ?_, ?_, ?_, ?_, fun e => by cases e⟩
      · intro j
        rw [hW.here, hcs]
        simp only [List.length_cons]
        by_cases hj : j = o + i
        · subst hj
          rw [if_neg (by omega), if_pos rfl, if_pos (by omega)]; simp
        · by_cases hj2 : o + (i + 1) ≤ j ∧ j < o + (i + 1) + vs.length
          · rw [if_pos hj2, if_pos (by omega)]
            rw [show j - (o + i) = (j - (o + (i + 1))) + 1 from by omega]; simp
          · rw [if_neg hj2, if_neg hj, if_neg (by omega)]
      · intro k hk
        rw [hW.other k hk, heap_setCell_other _ _ _ _ hk]
      · intro a; rw [hW.frozen, World.frozen?_setCell]
      · intro c t fr hg
        have h2 : (w.setCell ⟨g, o + i, none⟩ v).heap[g]? = some (.cells (c.setIfInBounds (o + i) v) t fr) := by
          rw [setCell_eq_setRow w g (o + i) c t fr v hg]; exact setRow_heap w g c _ t _ hg
        obtain ⟨c', h3, h4⟩ := hW.obj _ _ _ h2
        exact ⟨c', h3, by rw [h4]; simp⟩

end Go.Flat
end
section
/- Frames; writes and new blocks on the whole state. -/
namespace Go.Flat

theorem Frame.drew {E : Ent} {m : MapM} {w : World} (h : Frame E m w) : Frame E m w.drew := ⟨h.os, h.tape, h.output, h.size, h.block, h.reg, h.keep⟩

theorem Frame.alloc {E : Ent} {m : MapM} {w : World} (h : Frame E m w) (o : Obj) (b : Nat) (r : Reg) (hg : r.g = w.heap.size) (hb : m b = none) : Frame E (Ze3 m b r) (w.alloc o) := by
  refine ⟨h.os, h.tape, h.output, by have := h.size; simp; omega, ?_, ?_, ?_⟩
  · intro g o' ho
    obtain ⟨o1, h1, h2⟩ := h.block g o' ho
    exact ⟨o1, by rw [heap_alloc_old _ _ _ (Array.getElem?_eq_some_iff.1 h1).1]; exact h1, h2⟩
  · intro i r' hr hw hlt
    by_cases hi : i = b
    · subst hi; rw [Zbv] at hr; injection hr with hr; subst hr; left; rw [hg]; exact h.size
    · rw [Zcm _ _ hi] at hr; exact h.reg i r' hr hw hlt
  · intro i r' hr hk
    have h1 := h.keep i r' hr hk
    rw [Zcm]
    · exact h1
    · rintro rfl; rw [hb] at h1; cases h1

theorem Frame.wrote {E : Ent} {m : MapM} {w w' : World} (h : Frame E m w) {b : Nat} {r : Reg} (hr : m b = some r) (hw : r.wr = true) {o : Nat} {vs : List Value} (hW : Wrote w w' r.g o vs) (hlo : r.lo ≤ o) (hhi : o + vs.length ≤ r.hi)
    (hown : ∀ j, r.lo ≤ j → j < r.hi → ∃ v, w.cell? ⟨r.g, j, none⟩ = some v ∧ w.frozen? ⟨r.g, j, none⟩ = false)
    (r2 : Reg) (h2 : r2 = r ∨ (r.mv = true ∧ r2.g = r.g ∧ r2.wr = r.wr ∧ r.lo ≤ r2.lo ∧ r2.hi ≤ r.hi)) : Frame E (Ze3 m b r2) w' := by
  have hblk : ∀ g o', w.heap[g]? = some o' → ∃ o1, w'.heap[g]? = some o1 ∧ (g < E.w.heap.size → Zdt E.m g o' o1) := by
    intro g o' ho
    by_cases hg : g = r.g
    · subst hg
      by_cases hv : vs = []
      · rw [hW.none hv]; exact ⟨o', ho, fun _ => .refl _ _ _⟩
      · have hpos : 0 < vs.length := List.length_pos_iff.2 hv
        obtain ⟨v, hv, _⟩ := hown o hlo (by omega)
        obtain ⟨c, t, fr, hc⟩ := Zn1 hv
        rw [hc] at ho; injection ho with ho; subst ho
        obtain ⟨c', h3, h4⟩ := hW.obj c t fr hc
        refine ⟨_, h3, fun hlt => .inr ⟨c, t, fr, c', rfl, rfl, h4, fun j hj => ?_⟩⟩
        have h5 := hW.here j
        rw [cell_of_row _ _ _ _ _ _ h3, cell_of_row _ _ _ _ _ _ hc] at h5
        rw [h5, if_neg]
        intro hj2
        refine hj ?_
        rcases h.reg b r hr hw (by omega) with h6 | h6
        · omega
        · exact h6 j (by omega) (by omega)
    · exact ⟨o', by rw [hW.other g hg]; exact ho, fun _ => .refl _ _ _⟩
  refine ⟨hW.os.trans h.os, hW.tape.trans h.tape, hW.output.trans h.output, by rw [hW.size]; exact h.size, ?_, ?_, ?_⟩
  · intro g o' ho
    obtain ⟨o1, h3, h4⟩ := h.block g o' ho
    obtain ⟨o2, h5, h6⟩ := hblk g o1 h3
    exact ⟨o2, h5, h4.trans (h6 (Array.getElem?_eq_some_iff.1 ho).1)⟩
  · intro i r' hr' hw' hlt
    by_cases hi : i = b
    · subst hi; rw [Zbv] at hr'; injection hr' with hr'; subst hr'
      rcases h2 with rfl | ⟨_, h3, _, h4, h5⟩
      · exact h.reg i _ hr hw' hlt
      · rcases h.reg i r hr hw (by omega) with h6 | h6
        · left; rw [h3]; exact h6
        · right; intro j h7 h8; rw [h3]; exact h6 j (by omega) (by omega)
    · rw [Zcm _ _ hi] at hr'; exact h.reg i r' hr' hw' hlt
  · intro i r' hr' hk
    have h1 := h.keep i r' hr' hk
    by_cases hi : i = b
    · subst hi
      rw [hr] at h1; injection h1 with h1; subst h1
      rcases h2 with rfl | ⟨h3, _⟩
      · exact Zbv _ _ _
      · rcases hk with hk | hk
        · rw [hw] at hk; cases hk
        · rw [h3] at hk; cases hk
    · rw [Zcm _ _ hi]; exact h1

theorem Frame.moved {E : Ent} {m : MapM} {w : World} (h : Frame E m w) {b : Nat} {r : Reg} (hr : m b = some r) (hw : r.wr = true) (hf : r.mv = true) (r2 : Reg) (h2 : w.heap.size ≤ r2.g) (o : Obj) : Frame E (Ze3 m b r2) (w.alloc o) := by
  refine ⟨h.os, h.tape, h.output, by have := h.size; simp; omega, ?_, ?_, ?_⟩
  · intro g o' ho
    obtain ⟨o1, h1, h3⟩ := h.block g o' ho
    exact ⟨o1, by rw [heap_alloc_old _ _ _ (Array.getElem?_eq_some_iff.1 h1).1]; exact h1, h3⟩
  · intro i r' hr' hw' hlt
    by_cases hi : i = b
    · subst hi; rw [Zbv] at hr'; injection hr' with hr'; subst hr'
      left; exact Nat.le_trans h.size h2
    · rw [Zcm _ _ hi] at hr'; exact h.reg i r' hr' hw' hlt
  · intro i r' hr' hk
    have h1 := h.keep i r' hr' hk
    by_cases hi : i = b
    · subst hi
      rw [hr] at h1; injection h1 with h1; subst h1
      rcases hk with hk | hk
      · rw [hw] at hk; cases hk
      · rw [hf] at hk; cases hk
    · rw [Zcm _ _ hi]; exact h1

theorem Zl3 {m : MapM} {b : Nat} {r : Reg} (h : m b = some r) : Ze3 m b r = m := by
 funext i
 by_cases hi : i = b
 ·subst hi; rw [Zbv, h]
 ·rw [Zcm _ _ hi]

def splice (c : List Value) (o : Nat) (xs : List Value) : List Value := c.take o ++ xs ++ c.drop (o + xs.length)
theorem Zh1 {c : List Value} {o : Nat} {xs : List Value} (h : o + xs.length ≤ c.length) : (splice c o xs).length = c.length := by
 simp [splice]; omega
theorem Zf3 {c : List Value} {o : Nat} {xs : List Value} (h : o + xs.length ≤ c.length) (i : Nat) : (splice c o xs)[i]? = if o ≤ i ∧ i < o + xs.length then xs[i - o]? else c[i]? := by
 unfold splice
 rw [List.getElem?_append, List.getElem?_append]
 simp only [List.length_append, List.length_take, List.getElem?_take, List.getElem?_drop]
 have : min o c.length = o := by omega
 rw [this]
 by_cases h1 : i < o
 ·rw [if_pos (by omega), if_pos h1, if_pos h1, if_neg (by omega)]
 ·by_cases h2 : i < o + xs.length
  ·rw [if_pos h2, if_neg h1, if_pos (by omega)]
  ·rw [if_neg h2, if_neg (by omega)]; congr 1; omega

theorem HRel.splice {G : Glob} {m : MapM} {σ : List Blk} {w w' : World} (h : HRel G m σ w) {b : Nat} {blk : Blk} {r : Reg} (hb : σ[b]? = some blk) (hr : m b = some r) (hw : blk.wr = true)
  {o : Nat} {xs xs' : List Value} (ho : o + xs.length ≤ blk.cells.length) (hx : L2 (CR m) xs xs') (hW : Wrote w w' r.g (r.lo + o) xs') (hp : blk.pur = true → ∀ v, v ∈ xs → Zba v = true) :
  HRel G m (σ.set b { blk with cells := splice blk.cells o xs }) w' := by
 obtain ⟨h1, h2, h3, h4, h5, h6⟩ := h.at_ hb hr
 have hown := h.own b r hr (by rw [h2]; exact hw)
 have hcell : ∀ a : Addr, a.spot = none → ¬ (a.block = r.g ∧ r.lo ≤ a.off ∧ a.off < r.hi) → w'.cell? a = w.cell? a := by
  intro a hs hn
  obtain ⟨ab, ao, as⟩ := a
  simp only at hs hn; subst hs
  by_cases hg : ab = r.g
  ·subst hg
   rw [hW.here, if_neg]
   have := hx.1
   omega
  ·exact World.cell?_of_block (w := w) (hW.other ab hg)
 have key := HRel.replace (w' := w') h hb r { blk with cells := Flat.splice blk.cells o xs } ⟨h1, h2, h3, by rw [h4]; simp only; rw [Zh1 ho], h5, h6⟩ (by rw [hW.size]; exact Nat.le_refl _)
  (fun i r1 hi hr1 j hj1 hj2 => ⟨hcell _ rfl (fun hh => by
   obtain ⟨hh1, hh2, hh3⟩ := hh
   exact h.dis b i r r1 (fun e => hi e.symm) hr hr1 (by rw [h2]; exact hw) hh1.symm j hh2 hh3 hj1 hj2), hW.frozen _⟩)
  (fun g hg j v hv => by
   rw [hcell _ rfl]
   ·exact hv
   ·intro hh
    obtain ⟨hh1, hh2, hh3⟩ := hh
    have := h.gwr b r j hr (by rw [h2]; exact hw) hh2 hh3
    simp only at hh1
    rw [← hh1] at this
    rw [this] at hg; cases hg)
  (fun i v hi => by
   rw [Zl3 hr]
   simp only at hi
   rw [Zf3 ho] at hi
   have hl := hx.1
   split at hi
   ·rename_i hin
    obtain ⟨y, hy, hxy⟩ := hx.get hi
    refine ⟨y, ?_, hxy⟩
    rw [hW.here, if_pos (by omega), show r.lo + i - (r.lo + o) = i - o from by omega]
    exact hy
   ·rename_i hin
    obtain ⟨v', h7, h8⟩ := h.cell b blk r i v hb hr hi
    refine ⟨v', ?_, h8⟩
    rw [hW.here, if_neg (by omega)]
    exact h7)
  (fun hpu v hv => by
   simp only at hv hpu
   unfold Flat.splice at hv
   simp only [List.mem_append] at hv
   rcases hv with (hv | hv) | hv
   ·exact h.pur b blk hb hpu v (List.mem_of_mem_take hv)
   ·exact hp hpu v hv
   ·exact h.pur b blk hb hpu v (List.mem_of_mem_drop hv))
  (fun _ => ⟨hown.1, fun j hj1 hj2 => by
   obtain ⟨v, hv, hvf⟩ := hown.2 j hj1 hj2
   have hl := hx.1
   rw [hW.here]
   by_cases hin : r.lo + o ≤ j ∧ j < r.lo + o + xs'.length
   ·rw [if_pos hin]
    have : j - (r.lo + o) < xs'.length := by omega
    exact ⟨_, List.getElem?_eq_getElem this, by rw [hW.frozen]; exact hvf⟩
   ·rw [if_neg hin]
    exact ⟨v, hv, by rw [hW.frozen]; exact hvf⟩⟩)
  (fun i r1 hi hr1 _ hg j hj1 hj2 hj3 hj4 => h.dis b i r r1 (fun e => hi e.symm) hr hr1 (by rw [h2]; exact hw) hg j hj1 (by simpa [Reg.ext, h2, hw] using hj2) hj3 hj4)
  (fun _ j hj1 hj2 => h.gwr b r j hr (by rw [h2]; exact hw) hj1 hj2)
  (fun i x v v' hi hx1 hv hc => by rw [Zl3 hr]; exact hc)
  (fun g c t _ hg => hW.plain g c t hg) (fun hw' hs hl => by obtain ⟨c, t, h7⟩ := h.clean b r hr (by rw [h2]; exact hw) hs hl; obtain ⟨c', h8⟩ := hW.plain _ _ _ h7; exact ⟨c', t, h8⟩)
 rw [Zl3 hr] at key
 exact key

end Go.Flat
end
section
/- Forgetting what names a block; append. -/
namespace Go.Flat

def killC (p : Nat → Bool) (v : Value) : Value := if Zan p v then v else dead
def killV (p : Nat → Bool) (v : Value) : Value := if Zdx p v then v else dead
def Zbz (p : Nat → Bool) (x : Blk) : Blk := if x.pur then x else { x with cells := x.cells.map (killC p) }

theorem Zm2 {p : Nat → Bool} {v : Value} (h : Zba v = true) : Zan p v = true := by
  cases v
  case pointer a => cases a with
    | none => rfl
    | some a => cases h
  case slice a n c => cases a with
    | none => rfl
    | some a => cases h
  case func => cases h
  all_goals rfl
theorem Zm0 (p : Nat → Bool) (v : Value) : Zan p (killC p v) = true := by
 unfold killC
 split
 ·assumption
 ·rfl
theorem Zgd (p : Nat → Bool) (v : Value) : Zdx p (killV p v) = true := by
 unfold killV
 split
 ·assumption
 ·rfl
theorem CR.killC {m : MapM} {v v' : Value} (p : Nat → Bool) (h : CR m v v') : CR m (Flat.killC p v) v' := by
 unfold Flat.killC
 split
 ·exact h
 ·trivial
theorem VR.killV {m : MapM} {v v' : Value} (p : Nat → Bool) (h : VR m v v') : VR m (Flat.killV p v) v' := by
 unfold Flat.killV
 split
 ·exact h
 ·trivial
theorem Zlc (p : Nat → Bool) (x : Blk) : (Zbz p x).cells.length = x.cells.length := by unfold Zbz; split <;> simp

theorem HRel.kill {G : Glob} {m : MapM} {σ : List Blk} {w : World} (h : HRel G m σ w) (p : Nat → Bool) : HRel G m (σ.map (Zbz p)) w where
 reg := fun b r hr => by
  obtain ⟨y, hy, h1, h2, h3, h4, h5, h6⟩ := h.reg b r hr
  have hs : (Zbz p y).sz = y.sz := by unfold Zbz; split <;> rfl
  exact ⟨Zbz p y, by simp [hy], by rw [hs]; exact h1, by rw [h2]; unfold Zbz; split <;> rfl, by rw [h3]; unfold Zbz; split <;> rfl, by rw [Zlc]; exact h4, by rw [h5, hs], by rw [h6]; unfold Zbz; split <;> rfl⟩
 live := fun b x hb hsz => by
  simp only [List.getElem?_map, Option.map_eq_some_iff] at hb
  obtain ⟨y, hy, rfl⟩ := hb
  have hs : (Zbz p y).sz = y.sz := by unfold Zbz; split <;> rfl
  exact h.live b y hy (by rw [← hs]; exact hsz)
 cell := fun b x r i v hb hr hv => by
  simp only [List.getElem?_map, Option.map_eq_some_iff] at hb
  obtain ⟨y, hy, rfl⟩ := hb
  unfold Zbz at hv
  split at hv
  ·exact h.cell b y r i v hy hr hv
  ·simp only [List.getElem?_map, Option.map_eq_some_iff] at hv
   obtain ⟨u, hu, rfl⟩ := hv
   obtain ⟨v', h1, h2⟩ := h.cell b y r i u hy hr hu
   exact ⟨v', h1, h2.killC p⟩
 pur := fun b x hb hp => by
  simp only [List.getElem?_map, Option.map_eq_some_iff] at hb
  obtain ⟨y, hy, rfl⟩ := hb
  unfold Zbz at hp ⊢
  split
  ·rename_i hpur; exact h.pur b y hy hpur
  ·rename_i hpur; rw [if_neg hpur] at hp; exact absurd hp hpur
 own := h.own
 clean := h.clean
 dis := h.dis
 glob := h.glob
 gwr := h.gwr

def Z3b (p : Nat → Bool) (σ : List Blk) : Prop := ∀ (i : Nat) (x : Blk), σ[i]? = some x → ∀ v, v ∈ x.cells → Zan p v = true

theorem HRel.named_kill {G : Glob} {m : MapM} {σ : List Blk} {w : World} (h : HRel G m σ w) (p : Nat → Bool) : Z3b p (σ.map (Zbz p)) := by
 intro i x hx v hv
 simp only [List.getElem?_map, Option.map_eq_some_iff] at hx
 obtain ⟨y, hy, rfl⟩ := hx
 unfold Zbz at hv
 split at hv
 ·rename_i hp; exact Zm2 (h.pur i y hy hp v hv)
 ·simp only [List.mem_map] at hv
  obtain ⟨u, _, rfl⟩ := hv
  exact Zm0 p u

def St.kill (p : Nat → Bool) (s : St) : St := { tmps := fun i => killV p (s.tmps i), heap := s.heap.map (Zbz p) }

theorem SRel.kill {G : Glob} {nt : Nat} {E : Ent} {m : MapM} {s : St} {a : Act} {w : World} (h : SRel G nt E m s a w) (p : Nat → Bool) : SRel G nt E m (s.kill p) a w :=
 ⟨h.size, fun i => (h.tmps i).killV p, h.defers, h.heap.kill p, h.frame⟩


section
variable {P : Program}

set_option maxHeartbeats 1000000 in
theorem Zi0 (w : World) (t u ty e : TypeId) (i : TypeInfo) (ht : P.underlying t = some (.slice e)) (d : TypeDesc) (hu : P.underlying u = some d) (hd : (∃ e2, d = .slice e2) ∨ d = .string) (hi : P.info? e = some i)
  (base : Option Addr) (sLen sCap : Nat) (x : Value) (k : Nat) (news : List Value) (hk : (Builtin.lenOf x).run P w = .ok k w) (hx : (Builtin.firstCells i.size k x).run P w = .ok news.toArray w)
  (hfit : sLen + k ≤ sCap) :
  (Builtin.append_ #[t, u] ty #[.slice base sLen sCap, x]).run P w = (match base with | some a => (storeCells (a.add (sLen * i.size)) news).run P w | none => .ok () w).andThen fun _ w' => .ok (.slice base (sLen + k) sCap) w' := by
 rcases hd with ⟨e2, rfl⟩ | rfl <;> (cases base <;> simp [Builtin.append_, run_underlying ht, run_underlying hu, sizeOf, typeInfo, hi, hk, hfit, hx])

set_option maxHeartbeats 1000000 in
theorem Zic (w : World) (t u ty e : TypeId) (i : TypeInfo) (z : Value) (ht : P.underlying t = some (.slice e)) (d : TypeDesc) (hu : P.underlying u = some d) (hd : (∃ e2, d = .slice e2) ∨ d = .string) (hi : P.info? e = some i) (hz : i.zero = some z)
  (base : Option Addr) (sLen sCap : Nat) (x : Value) (k : Nat) (olds news : List Value) (hk : (Builtin.lenOf x).run P w = .ok k w) (hx : (Builtin.firstCells i.size k x).run P w.drew = .ok news.toArray w.drew)
  (ho : (Builtin.firstCells i.size sLen (.slice base sLen sCap)).run P w.drew = .ok olds.toArray w.drew)
  (hfit : ¬ sLen + k ≤ sCap) (hb : (sLen + k) * i.bytes ≤ 140737488355328) (hb0 : 0 < i.bytes) :
  (Builtin.append_ #[t, u] ty #[.slice base sLen sCap, x]).run P w = .ok (.slice (some ⟨w.heap.size, 0, none⟩) (sLen + k) (grownCap w (sLen + k) sCap e))
    (w.drew.alloc (.cells ((olds ++ news).toArray ++ Builtin.zeroCells z.cells (grownCap w (sLen + k) sCap e - (sLen + k))) e)) := by
 have h48 := growslice_fits (need := sLen + k) (old := sCap) (bytes := i.bytes) (by omega) hb
 have h48' : ¬ (281474976710656 < Builtin.nextslicecap (sLen + k) sCap * i.bytes) := by omega
 have hbn : ¬ i.bytes = 0 := by omega
 have h48'' : ¬ (Builtin.nextslicecap (sLen + k) sCap * i.bytes > 2 ^ 48) := by rw [show (2 ^ 48 : Nat) = 281474976710656 from rfl]; omega
 rcases hd with ⟨e2, rfl⟩ | rfl <;> (simp [Builtin.append_, run_underlying ht, run_underlying hu, sizeOf, typeInfo, zeroValue, hi, hz, hk, hfit, h48', Question.forced, newRow, hbn, hx, ho, grownCap]; congr 2; rw [← Array.append_assoc]; simp)
end

theorem Zhd.addr {r : Reg} {off n c : Nat} {a' : Option Addr} {c' : Nat} (h : Zhd r off n c a' c') (h0 : 0 < c') : a' = some ⟨r.g, r.lo + off, none⟩ := (h.2.2 h0).1

theorem HRel.cellsAt {G : Glob} {m : MapM} {σ : List Blk} {w : World} (h : HRel G m σ w) {b : Nat} {blk : Blk} {r : Reg} (hb : σ[b]? = some blk) (hr : m b = some r) (off n : Nat) (hn : off + n ≤ blk.cells.length) :
  ∃ ys, L2 (CR m) ((blk.cells.drop off).take n) ys ∧ ys.length = n ∧ ∀ (j : Nat) (v : Value), ys[j]? = some v → w.cell? ⟨r.g, r.lo + off + j, none⟩ = some v := by
 have hex : ∀ j : Nat, j < n → ∃ v', w.cell? ⟨r.g, r.lo + off + j, none⟩ = some v' ∧ ∀ x, blk.cells[off + j]? = some x → CR m x v' := by
  intro j hj
  have hj' : off + j < blk.cells.length := by omega
  obtain ⟨v', h1, h2⟩ := h.cell b blk r (off + j) _ hb hr (List.getElem?_eq_getElem hj')
  exact ⟨v', by rw [Nat.add_assoc]; exact h1, fun x hx => by rw [List.getElem?_eq_getElem hj'] at hx; injection hx with hx; rw [← hx]; exact h2⟩
 let f : Nat → Value := fun j => (w.cell? ⟨r.g, r.lo + off + j, none⟩).getD undef
 refine ⟨(List.range n).map f, ⟨by simp; omega, ?_⟩, by simp, ?_⟩
 ·intro i x y hx hy
  rw [List.getElem?_take] at hx
  split at hx
  ·rename_i hi
   rw [List.getElem?_drop] at hx
   obtain ⟨v', h1, h2⟩ := hex i hi
   simp only [List.getElem?_map, List.getElem?_range hi, Option.map_some] at hy
   injection hy with hy
   subst hy
   simp only [f, h1, Option.getD_some]
   exact h2 x hx
  ·cases hx
 ·intro j v hv
  have hj : j < n := by have := (List.getElem?_eq_some_iff.1 hv).1; simpa using this
  obtain ⟨v', h1, _⟩ := hex j hj
  simp only [List.getElem?_map, List.getElem?_range hj, Option.map_some] at hv
  injection hv with hv
  subst hv
  simp only [f, h1, Option.getD_some]

theorem Zfl {P : Program} {W : World} (size n c : Nat) (a' : Option Addr) (g o : Nat) (ys : List Value) (hl : ys.length = n * size) (ha : 0 < n → a' = some ⟨g, o, none⟩)
  (h : ∀ (j : Nat) (v : Value), ys[j]? = some v → W.cell? ⟨g, o + j, none⟩ = some v) : (Builtin.firstCells size n (.slice a' n c)).run P W = .ok ys.toArray W := by
 rcases Nat.eq_zero_or_pos n with h0 | h0
 ·subst h0
  have : ys = [] := List.eq_nil_of_length_eq_zero (by simpa using hl)
  subst this
  cases a' with
  | none => exact run_firstCells_none _ _ _ _ _
  | some a => exact run_firstCells_some W size 0 a 0 c [] (by simp) (by simp)
 ·rw [ha h0]
  exact run_firstCells_some W size n _ n c ys hl (fun j v hv => by rw [Zdh]; exact h j v hv)

theorem HRel.append {P : Program} {G : Glob} {E : Ent} {m : MapM} {σ : List Blk} {w : World} (h : HRel G m σ w) (hF : Frame E m w) {b : Nat} {blk : Blk} {r : Reg} (hb : σ[b]? = some blk) (hr : m b = some r) (hw : blk.wr = true) (hfix : blk.fix = false) (hmv : blk.mv = true)
    {off n c : Nat} {a' : Option Addr} {c' : Nat} (hs : Zhd r off n c a' c') (hoff : off + n * blk.sz ≤ blk.cells.length)
    (t u ty e : TypeId) (i : TypeInfo) (z : Value) (ht : P.underlying t = some (.slice e)) (d : TypeDesc) (hu : P.underlying u = some d) (hd : (∃ e2, d = .slice e2) ∨ d = .string) (hi : P.info? e = some i) (hz : i.zero = some z)
    (hsz : i.size = blk.sz) (hzs : z.cells.size = blk.sz) (hb0 : 0 < i.bytes)
    (x : Value) (k : Nat) (xs xs' : List Value) (hlen : (Builtin.lenOf x).run P w = .ok k w) (hx : ∀ W : World, (∀ a v, w.cell? a = some v → W.cell? a = some v) → (Builtin.firstCells i.size k x).run P W = .ok xs'.toArray W)
    (hxl : xs.length = k * blk.sz) (hxx : L2 (CR m) xs xs') (hone : ∀ v, v ∈ xs' → v.oneCell' = true) (hpur : blk.pur = true → ∀ v, v ∈ xs → Zba v = true)
    (hnam : Z3b (· != b) σ) (hnx : ∀ v, v ∈ xs → Zan (· != b) v = true)
    (hbound : (n + k) * i.bytes ≤ 140737488355328) :
    ∃ v' w' m', (Builtin.append_ #[t, u] ty #[.slice a' n c', x]).run P w = .ok v' w' ∧ HRel G m' (σ.set b { blk with cells := (blk.cells.drop off).take (n * blk.sz) ++ xs }) w' ∧ Frame E m' w' ∧
      CR m' (.slice (some ⟨b, 0, none⟩) (n + k) (n + k)) v' ∧ ∀ j, j ≠ b → m' j = m j := by
  obtain ⟨h1, h2, h3, h4, h5, h6⟩ := h.at_ hb hr
  obtain ⟨hown1, hown2⟩ := h.own b r hr (by rw [h2]; exact hw)
  obtain ⟨ys, hys1, hys2, hys3⟩ := h.cellsAt hb hr off (n * blk.sz) hoff
  have hlt : b < σ.length := (List.getElem?_eq_some_iff.1 hb).1
  have hxl' : xs'.length = k * blk.sz := by rw [← hxx.1]; exact hxl
  have holdl : ((blk.cells.drop off).take (n * blk.sz)).length = n * blk.sz := by simp; omega
  have hnewl : ((blk.cells.drop off).take (n * blk.sz) ++ xs).length = (n + k) * blk.sz := by rw [List.length_append, holdl, hxl, Nat.add_mul]
  have hmono : ∀ (r2 : Reg) (v v' : Value), Zan (· != b) v = true → CR m v v' → CR (Ze3 m b r2) v v' := fun r2 v v' hv hc =>
    hc.congr (fun q s hq hs => by
      rw [Zcm]
      · exact hs
      · simpa using hq) hv
  have hpur2 : blk.pur = true → ∀ v, v ∈ (blk.cells.drop off).take (n * blk.sz) ++ xs → Zba v = true := fun hp v hv => by
    rcases List.mem_append.1 hv with hv | hv
    · exact h.pur b blk hb hp v (List.mem_of_mem_drop (List.mem_of_mem_take hv))
    · exact hpur hp v hv
  have hnam2 : ∀ v, v ∈ (blk.cells.drop off).take (n * blk.sz) ++ xs → Zan (· != b) v = true := fun v hv => by
    rcases List.mem_append.1 hv with hv | hv
    · exact hnam b blk hb v (List.mem_of_mem_drop (List.mem_of_mem_take hv))
    · exact hnx v hv
  have hmonoB : ∀ (r2 : Reg) (i : Nat) (x : Blk) (v v' : Value), i ≠ b → σ[i]? = some x → v ∈ x.cells → CR m v v' → CR (Ze3 m b r2) v v' := fun r2 i x v v' _ hx hv hc => hmono r2 v v' (hnam i x hx v hv) hc
  by_cases hfit : n + k ≤ c'
  · -- in place
    have hrun := Zi0 (P := P) w t u ty e i ht d hu hd hi a' n c' x k xs' hlen (hx w fun _ _ hh => hh) hfit
    have hst : ∃ w', (match a' with | some a => (storeCells (a.add (n * i.size)) xs').run P w | none => .ok () w) = .ok () w' ∧ Wrote w w' r.g (r.lo + off + n * blk.sz) xs' ∧ (r.lo + off + (n + k) * blk.sz ≤ r.hi) := by
      rcases Nat.eq_zero_or_pos c' with hc0 | hc0
      · have hk0 : k = 0 := by omega
        have hn0 : n = 0 := by omega
        have hx0 : xs' = [] := List.eq_nil_of_length_eq_zero (by rw [hxl', hk0]; simp)
        subst hx0
        refine ⟨w, by cases a' <;> rfl, .refl _ _ _, ?_⟩
        rw [hn0, hk0]; simp; omega
      · obtain ⟨ha, hhi⟩ := hs.2.2 hc0
        have hhi := hhi.1 (by rw [h3]; exact hfix)
        rw [h5] at hhi
        have hle : (n + k) * blk.sz ≤ c' * blk.sz := Nat.mul_le_mul_right _ hfit
        rw [ha]
        have hadd : (n + k) * blk.sz = n * blk.sz + k * blk.sz := Nat.add_mul _ _ _
        obtain ⟨w', hw1, hw2⟩ := Zeh (P := P) r.g (r.lo + off + n * blk.sz) xs' 0 w hone (fun j hj1 hj2 => hown2 j (by omega) (by omega))
        refine ⟨w', ?_, by simpa using hw2, by omega⟩
        simp only [Zdh, hsz]
        exact hw1
    obtain ⟨w', hw1, hw2, hw3⟩ := hst
    have hadd : (n + k) * blk.sz = n * blk.sz + k * blk.sz := Nat.add_mul _ _ _
    let r2 : Reg := { r with lo := r.lo + off, len := (n + k) * blk.sz }
    refine ⟨.slice a' (n + k) c', w', Ze3 m b r2, by rw [hrun, hw1]; rfl, ?_, ?_, ?_, fun j hj => Zcm _ _ hj⟩
    · refine h.replace hb r2 _ ⟨h1, h2, h3, hnewl.symm, h5, h6⟩ (by rw [hw2.size]; exact Nat.le_refl _) ?_ ?_ ?_ hpur2 ?_ ?_ ?_ (hmonoB r2)
        (fun g c t _ hg => hw2.plain g c t hg) (fun _ hs' hl => by
          simp only [r2] at hs' hl
          obtain ⟨c, t, h7⟩ := h.clean b r hr (by rw [h2]; exact hw) hs' (by omega)
          obtain ⟨c', h8⟩ := hw2.plain _ _ _ h7; exact ⟨c', t, h8⟩)
      · intro q r1 hq hr1 j hj1 hj2
        refine ⟨?_, hw2.frozen _⟩
        by_cases hg : r1.g = r.g
        · rw [hg, hw2.here, if_neg]
          intro hh
          exact h.dis b q r r1 (fun e => hq e.symm) hr hr1 (by rw [h2]; exact hw) hg.symm j (by omega) (by omega) hj1 hj2
        · exact World.cell?_of_block (w := w) (hw2.other _ hg)
      · intro g hg j v hv
        by_cases hgg : g = r.g
        · subst hgg
          rw [hw2.here]
          split
          · rename_i hh
            have := h.gwr b r j hr (by rw [h2]; exact hw) (by omega) (by omega)
            rw [this] at hg; cases hg
          · exact hv
        · rw [← hv]; exact World.cell?_of_block (w := w) (hw2.other _ hgg)
      · intro q v hq
        simp only at hq
        rw [List.getElem?_append, holdl] at hq
        split at hq
        · rename_i hlt'
          obtain ⟨y, hy1, hy2⟩ := hys1.get hq
          refine ⟨y, ?_, hmono r2 v y (hnam2 v (List.mem_append_left _ (List.mem_of_getElem? hq))) hy2⟩
          show w'.cell? ⟨r.g, r.lo + off + q, none⟩ = _
          rw [hw2.here, if_neg (by omega)]
          exact hys3 q y hy1
        · rename_i hge
          obtain ⟨y, hy1, hy2⟩ := hxx.get hq
          have hql : q - n * blk.sz < xs.length := (List.getElem?_eq_some_iff.1 hq).1
          refine ⟨y, ?_, hmono r2 v y (hnx v (List.mem_of_getElem? hq)) hy2⟩
          show w'.cell? ⟨r.g, r.lo + off + q, none⟩ = _
          rw [hw2.here, if_pos (by omega), show r.lo + off + q - (r.lo + off + n * blk.sz) = q - n * blk.sz from by omega]
          exact hy1
      · intro _
        refine ⟨by show r.lo + off + (n + k) * blk.sz ≤ r.hi; omega, fun j hj1 hj2 => ?_⟩
        simp only [r2] at hj1 hj2
        obtain ⟨v, hv1, hv2⟩ := hown2 j (by omega) hj2
        show ∃ v, w'.cell? ⟨r.g, j, none⟩ = some v ∧ w'.frozen? ⟨r.g, j, none⟩ = false
        rw [hw2.frozen, hw2.here]
        split
        · rename_i hh
          have : j - (r.lo + off + n * blk.sz) < xs'.length := by omega
          exact ⟨_, List.getElem?_eq_getElem this, hv2⟩
        · exact ⟨v, hv1, hv2⟩
      · intro q r1 hq hr1 _ hg j hj1 hj2 hj3 hj4
        simp only [r2] at hj1 hg
        have hwr : r.wr = true := by rw [h2]; exact hw
        have hj2' : j < r.hi := by simpa [Reg.ext, r2, hwr] using hj2
        exact h.dis b q r r1 (fun e => hq e.symm) hr hr1 hwr hg j (by omega) hj2' hj3 hj4
      · intro _ j hj1 hj2
        exact h.gwr b r j hr (by rw [h2]; exact hw) (by simp only [r2] at hj1; omega) hj2
    · exact hF.wrote hr (by rw [h2]; exact hw) hw2 (by omega) (by omega) hown2 r2 (.inr ⟨by rw [h6]; exact hmv, rfl, rfl, by simp only [r2]; omega, Nat.le_refl _⟩)
    · refine ⟨r2, a', c', Zbv _ _ _, rfl, Nat.le_refl _, hfit, ?_⟩
      · intro hc0
        obtain ⟨ha, hhi⟩ := hs.2.2 hc0
        exact ⟨ha, fun hf' => by simpa [r2] using hhi.1 hf', fun _ hf' => by simp only [r2] at hf'; rw [h3, hfix] at hf'; cases hf'⟩
  · -- a new array
    have ho := Zfl (P := P) (W := w.drew) blk.sz n c' a' r.g (r.lo + off) ys hys2 (fun h0 => hs.addr (by have := hs.1; have := hs.2.1; omega)) (fun j v hv => by simpa using hys3 j v hv)
    have hrun := Zic (P := P) w t u ty e i z ht d hu hd hi hz a' n c' x k ys xs' hlen (hx w.drew fun _ _ hh => hh) (by rw [hsz]; exact ho) hfit hbound hb0
    have hcap := grownCap_ge w (n + k) c' e
    generalize hC : grownCap w (n + k) c' e = C at hrun hcap
    let cs : Array Value := (ys ++ xs').toArray ++ Builtin.zeroCells z.cells (C - (n + k))
    have hcss : cs.size = C * blk.sz := by
      simp only [cs, Array.size_append, size_zeroCells, List.size_toArray, List.length_append, hys2, hxl', hzs]
      rw [← Nat.add_mul, ← Nat.add_mul]
      congr 1; omega
    let r2 : Reg := ⟨w.heap.size, 0, C * blk.sz, (n + k) * blk.sz, r.sz, r.wr, r.fix, r.mv⟩
    have hold : ∀ a v, w.cell? a = some v → (w.drew.alloc (.cells cs e)).cell? a = some v := fun a v hv => by
      rw [World.cell?_alloc_lt w.drew _ _ (World.block_lt_of_cell? w a hv)]; exact hv
    have hfroz : ∀ a v, w.cell? a = some v → (w.drew.alloc (.cells cs e)).frozen? a = w.frozen? a := fun a v hv =>
      World.frozen?_alloc_old w.drew _ _ (Nat.ne_of_lt (World.block_lt_of_cell? w a hv))
    have hnew : (w.drew.alloc (.cells cs e)).heap[w.heap.size]? = some (.cells cs e) := heap_alloc_new w.drew _
    have hnc : ∀ j, (w.drew.alloc (.cells cs e)).cell? ⟨w.heap.size, j, none⟩ = cs[j]? := fun j => cell_of_row _ _ _ _ _ _ hnew
    refine ⟨_, _, Ze3 m b r2, hrun, ?_, ?_, ?_, fun j hj => Zcm _ _ hj⟩
    · refine h.replace hb r2 _ ⟨h1, h2, h3, hnewl.symm, h5, h6⟩ (by simp) ?_ ?_ ?_ hpur2 ?_ ?_ ?_ (hmonoB r2)
        (fun g c t hlt' hg => ⟨c, by rw [heap_alloc_old w.drew _ _ hlt']; exact hg⟩) (fun _ _ _ => ⟨cs, e, hnew⟩)
      · intro q r1 hq hr1 j hj1 hj2
        obtain ⟨v, hv⟩ := h.there hr1 hj1 hj2
        exact ⟨by rw [hold _ _ hv, hv], hfroz _ _ hv⟩
      · intro g hg j v hv; exact hold _ _ hv
      · intro q v hq
        simp only at hq
        have hall : L2 (CR m) ((blk.cells.drop off).take (n * blk.sz) ++ xs) (ys ++ xs') := hys1.append hxx
        obtain ⟨y, hy1, hy2⟩ := hall.get hq
        refine ⟨y, ?_, hmono r2 v y (hnam2 v (List.mem_of_getElem? hq)) hy2⟩
        show (w.drew.alloc (.cells cs e)).cell? ⟨w.heap.size, 0 + q, none⟩ = _
        rw [Nat.zero_add, hnc]
        have hql : q < (ys ++ xs').length := (List.getElem?_eq_some_iff.1 hy1).1
        simp only [cs]
        rw [Array.getElem?_append_left (by simpa using hql)]
        simpa using hy1
      · intro _
        refine ⟨by simp only [r2]; rw [Nat.zero_add]; exact Nat.mul_le_mul_right _ hcap, fun j hj1 hj2 => ?_⟩
        show ∃ v, (w.drew.alloc (.cells cs e)).cell? ⟨w.heap.size, j, none⟩ = some v ∧ (w.drew.alloc (.cells cs e)).frozen? ⟨w.heap.size, j, none⟩ = false
        have hj : j < cs.size := by rw [hcss]; exact hj2
        exact ⟨cs[j], by rw [hnc, Array.getElem?_eq_getElem hj], frozen_of_row _ _ _ _ _ hnew⟩
      · intro q r1 hq hr1 _ hg j hj1 hj2 hj3 hj4
        obtain ⟨v, hv⟩ := h.there hr1 hj3 hj4
        have := Znk hv
        simp only [r2] at hg
        omega
      · intro _ j _ _
        show G w.heap.size = none
        cases hg : G w.heap.size with
        | none => rfl
        | some cs' => exact absurd (h.glob _ _ hg).1 (Nat.lt_irrefl _)
    · exact (hF.drew).moved hr (by rw [h2]; exact hw) (by rw [h6]; exact hmv) r2 (Nat.le_refl _) _
    · refine ⟨r2, _, _, Zbv _ _ _, rfl, Nat.le_refl _, hcap, ?_⟩
      · intro _
        exact ⟨rfl, fun _ => by simp only [r2, h5]; omega, fun _ hf' => by simp only [r2] at hf'; rw [h3, hfix] at hf'; cases hf'⟩

end Go.Flat
end
section
/- One operation, on the abstract state. -/
namespace Go.Flat


def Z0 {α : Type} (P : Program) : Sem α → Option α
  | .pure a => some a
  | .program k => Z0 P (k P)
  | .mark _ k => Z0 P k
  | _ => none

theorem Zgn {α : Type} {P : Program} {x : Sem α} {a : α} (h : Z0 P x = some a) (w : World) : x.run P w = .ok a w := by
 induction x generalizing w with
 | pure b => simp only [Z0, Option.some.injEq] at h; subst h; rfl
 | program k ih => simp only [Z0] at h; exact ih P h w
 | mark q k ih => simp only [Z0] at h; exact ih h w
 | _ => simp [Z0] at h

theorem Zaa {α β : Type} (P : Program) (x : Sem α) (f : α → Sem β) : Z0 P (x >>= f) = (Z0 P x).bind fun a => Z0 P (f a) := by
 show Z0 P (x.bind f) = _
 induction x with
 | pure a => rfl
 | program k ih => exact ih P
 | mark q k ih => exact ih
 | _ => rfl
theorem Z4 {α : Type} (P : Program) (a : α) : Z0 P (Pure.pure a : Sem α) = some a := rfl
theorem Zk6 {α : Type} (P : Program) (c : Prop) [Decidable c] (x y : Sem α) : Z0 P (if c then x else y) = if c then Z0 P x else Z0 P y := by split <;> rfl
theorem Zbk {P : Program} {t : TypeId} {d : TypeDesc} (h : P.underlying t = some d) : Z0 P (underlying t) = some d := by
  show Z0 P (match P.underlying t with | some d => (Pure.pure d : Sem TypeDesc) | none => stuck "no such type") = _
  rw [h]; rfl
theorem Ziy {P : Program} {t : TypeId} : Z0 P (sizeOf t) = (P.info? t).map (·.size) := by
  have : sizeOf t = (typeInfo t >>= fun i => pure i.size) := rfl
  rw [this, Zaa]
  have h2 : Z0 P (typeInfo t) = P.info? t := by
    show Z0 P (match P.info? t with | some i => (Pure.pure i : Sem TypeInfo) | none => stuck "no such type") = _
    cases P.info? t <;> rfl
  rw [h2]
  cases P.info? t <;> rfl


def Zmh : TypeDesc → Bool | .struct _ | .array _ _ => true | _ => false
def Zdw (P : Program) (t : TypeId) : Option (Bool × Nat) :=
  match P.underlying t, P.info? t with
  | some d, some i => some (Zmh d, i.size)
  | _, _ => none
theorem Zg4 {P : Program} {t : TypeId} {ag : Bool} {n : Nat} (h : Zdw P t = some (ag, n)) : ∃ d i, P.underlying t = some d ∧ P.info? t = some i ∧ Zmh d = ag ∧ i.size = n := by
 unfold Zdw at h
 split at h
 ·rename_i d i hd hi
  injection h with h; injection h with h1 h2
  exact ⟨d, i, hd, hi, h1, h2⟩
 ·cases h
theorem Zgx {P : Program} {t : TypeId} {d : TypeDesc} (h : P.underlying t = some d) (w : World) : (isAgg t).run P w = .ok (Zmh d) w := by
 unfold isAgg
 rw [Sem.run_bind, run_underlying h w]
 cases d <;> rfl
theorem Zb4 {P : Program} {t : TypeId} {i : TypeInfo} (h : P.info? t = some i) (w : World) : (sizeOf t).run P w = .ok i.size w := by simp [sizeOf, typeInfo, h]

def Zqq (P : Program) (t : TypeId) : Option (List Value) := (P.info? t).bind fun i => i.zero.map fun z => z.cells.toList
def Zfm : Value → Bool
  | .bool _ | .int _ _ | .float _ _ | .complex _ _ _ | .string _ => true
  | _ => false
theorem Zit {v : Value} (h : Zfm v = true) : Zba v = true := by cases v <;> first | rfl | cases h


def St.eval (s : St) : Operand → Value
  | .tmp t => s.tmps t
  | .const v => if Za2 v then v else dead
  | .global g => .pointer (some ⟨g, 0, some 0⟩)
  | .func f => .func (.func f) #[] #[]

theorem SRel.eval {G : Glob} {nt : Nat} {E : Ent} {m : MapM} {s : St} {a : Act} {w : World} (h : SRel G nt E m s a w) (x : Operand) : VR m (s.eval x) (a.eval x) := by
 cases x with
 | tmp t => exact h.tmps t
 | const v =>
  simp only [St.eval, Act.eval]
  split
  ·rename_i hp; exact VR.of_pure hp
  ·exact VR.dead
 | global g => exact rfl
 | func f => exact ⟨#[], #[], rfl, L2.nil, L2.nil⟩


def Zhf (v : Value) : Bool := !Zhe v && !Zhw v
def rdA (ag : Bool) (n : Nat) (cs : List Value) (o : Nat) : Option Value :=
  if ag then (if o + n ≤ cs.length then some (.agg ((cs.drop o).take n).toArray) else none) else (cs[o]?).bind fun v => if Zhf v then some v else none

def Zde (P : Program) (G : Glob) (t : TypeId) (σ : List Blk) (v : Value) : Option Value :=
  match Zdw P t, v with
  | some (ag, n), .pointer (some ⟨b, o, none⟩) => (σ[b]?).bind fun blk => rdA ag n blk.cells o
  | some (ag, n), .pointer (some ⟨g, o, some _⟩) => (G g).bind fun cs => rdA ag n cs o
  | _, _ => none

theorem Zns {m : MapM} {v v' : Value} (h : CR m v v') (h1 : Zhf v = true) : VR m v v' := by
 simp only [Zhf, Bool.and_eq_true, Bool.not_eq_true'] at h1
 rw [Zfp h1.2, Zhq h1.1]; exact h
theorem Znr {m : MapM} {v v' : Value} (h : VR m v v') (h1 : Zhf v = true) : CR m v v' := by
 simp only [Zhf, Bool.and_eq_true, Bool.not_eq_true'] at h1
 rw [Zfp h1.2, Zhq h1.1] at h; exact h
theorem Zmp {m : MapM} {ag : Bool} {n o : Nat} {cs : List Value} {u : Value} (h : rdA ag n cs o = some u) {ys : List Value} (hy : ag = true → L2 (CR m) ((cs.drop o).take n) ys) {y : Value} (h1 : ag = false → ∀ v, cs[o]? = some v → CR m v y) :
    VR m u (if ag then .agg ys.toArray else y) := by
  unfold rdA at h
  cases ag with
  | true =>
    simp only [if_true] at h ⊢
    split at h
    · injection h with h; subst h
      exact ⟨ys.toArray, rfl, by simpa using hy rfl⟩
    · cases h
  | false =>
    simp only [Bool.false_eq_true, if_false] at h ⊢
    cases hc : cs[o]? with
    | none => rw [hc] at h; cases h
    | some v =>
      rw [hc] at h
      simp only [Option.bind_some] at h
      split at h
      · rename_i h2; injection h with h; subst h; exact Zns (h1 rfl v hc) h2
      · cases h

theorem Zm1 {P : Program} {G : Glob} {m : MapM} {σ : List Blk} {w : World} (h : HRel G m σ w) {t : TypeId} {v v' u : Value} (hl : Zde P G t σ v = some u) (hv : VR m v v') : ∃ u', (Instr.loadAt t v').run P w = .ok u' w ∧ VR m u u' := by
  unfold Zde at hl
  split at hl
  · rename_i ag n b o hk
    obtain ⟨d, i, h1, h2, h3, h4⟩ := Zg4 hk
    obtain ⟨r, hr, hv'⟩ : ∃ r, m b = some r ∧ v' = .pointer (some ⟨r.g, r.lo + o, none⟩) := hv
    subst hv'
    cases hb : σ[b]? with
    | none => rw [hb] at hl; cases hl
    | some blk =>
      rw [hb] at hl
      simp only [Option.bind_some] at hl
      cases ag with
      | true =>
        have hle : o + n ≤ blk.cells.length := by
          unfold rdA at hl; simp only [if_true] at hl; split at hl
          · assumption
          · cases hl
        obtain ⟨ys, hy1, hy2, hy3⟩ := h.cellsAt hb hr o n hle
        refine ⟨.agg ys.toArray, ?_, Zmp (ag := true) hl (fun _ => hy1) (y := undef) (by simp)⟩
        have := run_loadCells_list (P := P) w ⟨r.g, r.lo + o, none⟩ ys (fun j x hx => by rw [Zdh]; exact hy3 j x hx)
        simp [Instr.loadAt, Instr.sureAddr, loadVar, Zgx h1, h3, Zb4 h2, h4, ← hy2, this]
      | false =>
        cases hc : blk.cells[o]? with
        | none => unfold rdA at hl; simp [hc] at hl
        | some x =>
          obtain ⟨y, hy1, hy2⟩ := h.cell b blk r o x hb hr hc
          refine ⟨y, ?_, Zmp (ag := false) (ys := []) hl (by simp) (y := y) (fun _ z hz => by rw [hc] at hz; injection hz with hz; subst hz; exact hy2)⟩
          simp [Instr.loadAt, Instr.sureAddr, loadVar, Zgx h1, h3, hy1]
  · rename_i ag n g o q hk
    obtain ⟨d, i, h1, h2, h3, h4⟩ := Zg4 hk
    have hv' : v' = .pointer (some ⟨g, o, none⟩) := hv
    subst hv'
    cases hg : G g with
    | none => rw [hg] at hl; cases hl
    | some cs =>
      rw [hg] at hl
      simp only [Option.bind_some] at hl
      obtain ⟨_, hgl⟩ := h.glob g cs hg
      cases ag with
      | true =>
        have hle : o + n ≤ cs.length := by
          unfold rdA at hl; simp only [if_true] at hl; split at hl
          · assumption
          · cases hl
        refine ⟨.agg ((cs.drop o).take n).toArray, ?_, Zmp (ag := true) hl (fun _ => (L2.refl _).mono fun x hx y hxy => ?_) (y := undef) (by simp)⟩
        · have := run_loadCells_list (P := P) w ⟨g, o, none⟩ ((cs.drop o).take n) (fun j x hx => by
            rw [Zdh]
            rw [List.getElem?_take] at hx
            split at hx
            · rw [List.getElem?_drop] at hx; exact (hgl _ _ hx).1
            · cases hx)
          have hlen : ((cs.drop o).take n).length = n := by simp; omega
          rw [hlen] at this
          simp [Instr.loadAt, Instr.sureAddr, loadVar, Zgx h1, h3, Zb4 h2, h4, this]
        · subst hxy
          have := List.mem_of_mem_drop (List.mem_of_mem_take hx)
          obtain ⟨q, hq⟩ := List.getElem?_of_mem this
          exact CR.of_pure (hgl q _ hq).2
      | false =>
        cases hc : cs[o]? with
        | none => unfold rdA at hl; simp [hc] at hl
        | some x =>
          obtain ⟨hy1, hy2⟩ := hgl o x hc
          refine ⟨x, ?_, Zmp (ag := false) (ys := []) hl (by simp) (y := x) (fun _ z hz => by rw [hc] at hz; injection hz with hz; subst hz; exact CR.of_pure hy2)⟩
          simp [Instr.loadAt, Instr.sureAddr, loadVar, Zgx h1, h3, hy1]
  · cases hl


def Zi1 : Value → Bool
  | .agg _ | .tuple _ | .chan _ => false
  | _ => true
def Zdr (pur : Bool) (l : List Value) : Bool := if pur then l.all Zba else l.all Zi1
theorem Zvf {v : Value} (h : Zba v = true) : Zi1 v = true := by cases v <;> first | rfl | cases h
theorem Zir {p : Bool} {l : List Value} (h : Zdr p l = true) : ∀ v, v ∈ l → Zi1 v = true := by
 unfold Zdr at h
 split at h
 ·simp only [List.all_eq_true] at h; exact fun v hv => Zvf (h v hv)
 ·simpa only [List.all_eq_true] using h
theorem CR.oneCell {m : MapM} {v v' : Value} (h : CR m v v') (hs : Zi1 v = true) : v'.oneCell' = true := by
  cases v
  case pointer a => rcases a with _ | ⟨b, o, _ | q⟩
                    · have : v' = _ := h
                      subst this; rfl
                    · obtain ⟨r, _, rfl⟩ := h; rfl
                    · have : v' = _ := h
                      subst this; rfl
  case slice a n c => cases a with
    | none => have : v' = _ := h
              subst this; rfl
    | some a => obtain ⟨r, a', c', _, rfl, _⟩ := h; rfl
  case func f xs ys => obtain ⟨xs', ys', rfl, _⟩ := h; rfl
  case agg => cases hs
  case tuple => cases hs
  case chan => cases hs
  all_goals
    have : v' = _ := h
    subst this; rfl

theorem VR.cells {m : MapM} {v v' : Value} (h : VR m v v') (hs : ∀ x, x ∈ v.cells.toList → Zi1 x = true) : L2 (CR m) v.cells.toList v'.cells.toList ∧ ∀ x, x ∈ v'.cells.toList → x.oneCell' = true := by
  have key : ∀ (xs ys : List Value), L2 (CR m) xs ys → (∀ x, x ∈ xs → Zi1 x = true) → ∀ y, y ∈ ys → y.oneCell' = true := by
    intro xs ys hl hx y hy
    obtain ⟨i, hi⟩ := List.getElem?_of_mem hy
    have hlt : i < ys.length := (List.getElem?_eq_some_iff.1 hi).1
    have hlt' : i < xs.length := hl.1 ▸ hlt
    exact (hl.2 i _ y (List.getElem?_eq_getElem hlt') hi).oneCell (hx _ (List.getElem_mem hlt'))
  by_cases ha : Zhe v = true
  · cases v <;> try (cases ha)
    rename_i cs
    obtain ⟨cs', rfl, hl⟩ := h
    exact ⟨hl, key _ _ hl hs⟩
  · have ha' : Zhe v = false := by simpa using ha
    have hc : v.cells = #[v] := by cases v <;> first | rfl | cases ha'
    rw [hc] at hs ⊢
    have hv : Zi1 v = true := hs v (by simp)
    have ht : Zhw v = false := by cases v <;> first | rfl | cases hv
    have hcr : CR m v v' := Znr h (by simp [Zhf, ha', ht])
    have h1 := hcr.oneCell hv
    have hc' : v'.cells = #[v'] := by cases v' <;> first | rfl | cases h1
    rw [hc']
    exact ⟨L2.cons hcr L2.nil, by simpa using h1⟩

def Zrn (P : Program) (t : TypeId) (σ : List Blk) (v x : Value) : Option (List Blk) :=
  match Zdw P t, v with
  | some (_, n), .pointer (some ⟨b, o, none⟩) => (σ[b]?).bind fun blk =>
      if blk.wr && x.cells.size == n && Zdr blk.pur x.cells.toList && decide (o + n ≤ blk.cells.length) then some (σ.set b { blk with cells := splice blk.cells o x.cells.toList }) else none
  | _, _ => none

theorem Zro {P : Program} {G : Glob} {E : Ent} {m : MapM} {σ σ' : List Blk} {w : World} (h : HRel G m σ w) (hF : Frame E m w) {t : TypeId} {v v' x x' : Value} (hl : Zrn P t σ v x = some σ') (hv : VR m v v') (hx : VR m x x') :
    ∃ w', (Instr.storeAt t v' x').run P w = .ok () w' ∧ HRel G m σ' w' ∧ Frame E m w' := by
  unfold Zrn at hl
  split at hl
  · rename_i ag n b o hk
    obtain ⟨d, i, h1, h2, h3, h4⟩ := Zg4 hk
    obtain ⟨r, hr, hv'⟩ : ∃ r, m b = some r ∧ v' = .pointer (some ⟨r.g, r.lo + o, none⟩) := hv
    subst hv'
    cases hb : σ[b]? with
    | none => rw [hb] at hl; cases hl
    | some blk =>
      rw [hb] at hl
      simp only [Option.bind_some] at hl
      split at hl
      · rename_i hc
        injection hl with hl; subst hl
        simp only [Bool.and_eq_true, beq_iff_eq, decide_eq_true_eq] at hc
        obtain ⟨⟨⟨hw, hsz⟩, hok⟩, hle⟩ := hc
        obtain ⟨hL, hone⟩ := hx.cells (Zir hok)
        have hxl : x.cells.toList.length = n := by simpa using hsz
        have hxl' : x'.cells.toList.length = n := by rw [← hL.1]; exact hxl
        obtain ⟨_, hrw, hrf, hrl, hrs, hrm⟩ := h.at_ hb hr
        obtain ⟨hown1, hown2⟩ := h.own b r hr (by rw [hrw]; exact hw)
        obtain ⟨w', hw1, hw2⟩ := Zeh (P := P) r.g (r.lo + o) x'.cells.toList 0 w hone (fun j hj1 hj2 => hown2 j (by omega) (by omega))
        rw [Nat.add_zero] at hw2
        refine ⟨w', ?_, ?_, ?_⟩
        · have hne : ¬ (x'.cells.size ≠ i.size) := by rw [h4, ← hxl']; simp
          simp only [Instr.storeAt, Instr.sureAddr, storeVar, Sem.run_bind, Sem.run_pure, Result.andThen_ok, Zb4 h2]
          rw [if_neg hne]
          exact hw1
        · exact h.splice hb hr hw (by rw [hxl]; exact hle) hL hw2 (fun hp => by
            unfold Zdr at hok; rw [if_pos hp] at hok; simpa only [List.all_eq_true] using hok)
        · have := hF.wrote hr (by rw [hrw]; exact hw) hw2 (by omega) (by omega) hown2 r (.inl rfl)
          rwa [Zl3 hr] at this
      · cases hl
  · cases hl


def Zb6 (pur fix : Bool) (sz : Nat) (cells : List Value) : Blk := { cells := cells, sz := sz, wr := true, fix := fix, mv := !fix, pur := pur }
abbrev hole : Blk := { cells := [], sz := 0, wr := false, fix := true, mv := false, pur := true }
def Zeo (σ : List Blk) (b : Nat) (x : Blk) : List Blk := if b = σ.length then σ ++ [x] else σ.set b x
def Zby (σ : List Blk) (b : Nat) : Bool := b == σ.length || (match σ[b]? with | some x => x.sz == 0 | none => false)

theorem Zdi {G : Glob} {E : Ent} {m : MapM} {σ : List Blk} {w : World} (h : HRel G m σ w) (hF : Frame E m w) {b : Nat} (hb : Zby σ b = true) (blk : Blk) (hsz : 0 < blk.sz) (cs : Array Value) (t : TypeId) (fr : Nat × Nat)
    (hl : blk.cells.length ≤ cs.size) (hc : L2 (CR m) blk.cells (cs.toList.take blk.cells.length)) (hp : blk.pur = true → ∀ v, v ∈ blk.cells → Zba v = true) (hf : ∀ j, j < cs.size → ¬ (fr.1 ≤ j ∧ j < fr.2)) (hfr : blk.wr = true → 1 < blk.sz → fr = (0, 0) := by intros; rfl) :
    ∃ m', HRel G m' (Zeo σ b blk) (w.alloc (.cells cs t fr)) ∧ Frame E m' (w.alloc (.cells cs t fr)) ∧ (∀ b r, m b = some r → m' b = some r) ∧
      m' b = some ⟨w.heap.size, 0, cs.size, blk.cells.length, blk.sz, blk.wr, blk.fix, blk.mv⟩ := by
  have hc' : ∀ (i : Nat) (v : Value), blk.cells[i]? = some v → ∃ v', cs[i]? = some v' ∧ CR m v v' := by
    intro i v hi
    obtain ⟨y, hy, hyv⟩ := hc.get hi
    rw [List.getElem?_take] at hy
    split at hy
    · exact ⟨y, by simpa using hy, hyv⟩
    · cases hy
  have hmono : m b = none → ∀ (r2 : Reg) b' r, m b' = some r → Ze3 m b r2 b' = some r := by
    intro hm r2 b' r hb'
    rw [Zcm]
    · exact hb'
    · rintro rfl; rw [hm] at hb'; cases hb'
  by_cases he : b = σ.length
  · subst he
    have hn : m σ.length = none := h.dom (Nat.le_refl _)
    have h1 := (h.reserve hole rfl rfl).new (b := σ.length) (x := hole) (by simp) hn blk hsz cs t fr hl hc' hp hf hfr
    refine ⟨_, ?_, hF.alloc _ _ _ rfl hn, hmono hn _, Zbv _ _ _⟩
    unfold Zeo
    rw [if_pos rfl]
    simpa using h1
  · unfold Zby at hb
    simp only [Bool.or_eq_true, beq_iff_eq, he, false_or] at hb
    split at hb
    · rename_i x hx
      have hn : m b = none := h.hole hx (by simpa using hb)
      refine ⟨_, ?_, hF.alloc _ _ _ rfl hn, hmono hn _, Zbv _ _ _⟩
      unfold Zeo
      rw [if_neg he]
      exact h.new hx hn blk hsz cs t fr hl hc' hp hf hfr
    · cases hb

end Go.Flat
end
section
/- One operation as a change of the abstract state. -/
namespace Go.Flat

structure Delta where
  val : Value
  sets : List (Nat × Blk) := []
  kill : Option Nat := none
  foot : List Nat := []

def Zd0 (σ : List Blk) : List (Nat × Blk) → List Blk
  | [] => σ
  | (b, x) :: l => Zd0 (Zeo σ b x) l

def Delta.apply (δ : Delta) (dst : Option Tmp) (s : St) : St :=
  match δ.kill with
  | none => St.put { s with heap := Zd0 s.heap δ.sets } dst δ.val
  | some b => St.put { (s.kill (· != b)) with heap := Zd0 (s.kill (· != b)).heap δ.sets } dst δ.val

def Zas (P : Program) (G : Glob) (o : Oper) (s : St) (v : Value) (sets : List (Nat × Blk)) : Prop :=
  ∀ nt E m a w, SRel G nt E m s a w → ∃ v' w' m', ((execOp a.eval o).run P w = .ok (.value v') w' ∨ ((execOp a.eval o).run P w = .ok .skip w' ∧ v' = undef)) ∧
    HRel G m' (Zd0 s.heap sets) w' ∧ Frame E m' w' ∧ (∀ b r, m b = some r → m' b = some r) ∧ VR m' v v'

theorem SRel.after {G : Glob} {nt : Nat} {E : Ent} {m m' : MapM} {s : St} {a : Act} {w w' : World} (h : SRel G nt E m s a w) {heap' : List Blk} (hH : HRel G m' heap' w') (hF : Frame E m' w') (hm : ∀ b r, m b = some r → m' b = some r)
  {d : Option Tmp} (hd : Zbb nt d = true) {v v' : Value} (hv : VR m' v v') : SRel G nt E m' (St.put { s with heap := heap' } d v) (a.put d v') w' := by
 have h1 : SRel G nt E m' { s with heap := heap' } a w' := ⟨h.size, fun i => (h.tmps i).mono hm, h.defers, hH, hF⟩
 exact h1.put hd hv

section
variable {P : Program} {G : Glob}

theorem Zas.value {o : Oper} {s : St} {v : Value} (h : ∀ nt E m a w, SRel G nt E m s a w → ∃ v', (execOp a.eval o).run P w = .ok (.value v') w ∧ VR m v v') : Zas P G o s v [] :=
 fun nt E m a w hr => let ⟨v', h1, h2⟩ := h nt E m a w hr; ⟨v', w, m, .inl h1, hr.heap, hr.frame, fun _ _ h => h, h2⟩

theorem Zas.pure {o : Oper} {s : St} {v : Value} (h : ∀ nt E m a w, SRel G nt E m s a w → (execOp a.eval o).run P w = .ok (.value v) w) (hp : Za2 v = true) : Zas P G o s v [] :=
 Zas.value fun nt E m a w hr => ⟨v, h nt E m a w hr, VR.of_pure hp⟩

theorem Za6 {nt : Nat} {E : Ent} {m : MapM} {s : St} {a : Act} {w : World} (h : SRel G nt E m s a w) {x : Operand} (hp : Za2 (s.eval x) = true) : a.eval x = s.eval x := (h.eval x).pure hp


theorem Zu9 {o : Oper} {s : St} {x : Operand} (ho : o.op = .move x ∨ o.op = .assign x) : Zas P G o s (s.eval x) [] :=
  Zas.value fun nt E m a w hr => ⟨a.eval x, by rcases ho with ho | ho <;> simp [execOp, ho], hr.eval x⟩

def Zqf (s : St) (c x y : Operand) : Option Value := match s.eval c with | .bool t => some (if t then s.eval x else s.eval y) | _ => none
theorem Zvb {o : Oper} {s : St} {c x y : Operand} {v : Value} (ho : o.op = .pick c x y) (h : Zqf s c x y = some v) : Zas P G o s v [] := by
 unfold Zqf at h
 split at h
 ·rename_i t ht
  injection h with h; subst h
  refine Zas.value fun nt E m a w hr => ?_
  have hc : a.eval c = .bool t := by rw [Za6 hr (by rw [ht]; rfl), ht]
  refine ⟨if t then a.eval x else a.eval y, by simp [execOp, ho, hc, asBool], ?_⟩
  cases t
  ·exact hr.eval y
  ·exact hr.eval x
 ·cases h


def Zdv (nid : Nat) : Value := .pointer (some ⟨nid, 0, none⟩)
def Zl7 (P : Program) (σ : List Blk) (t : TypeId) (nid : Nat) : Option Blk :=
  (Zqq P t).bind fun z => if z.all Zba && !z.isEmpty && Zby σ nid then some (Zb6 (z.all Zfm) true z.length z) else none

theorem Zhg {m : MapM} {nid : Nat} {r : Reg} (h : m nid = some r) (h0 : r.lo = 0) : VR m (Zdv nid) (.pointer (some ⟨r.g, 0, none⟩)) := ⟨r, h, by simp [h0]⟩

theorem Ztm {o : Oper} {s : St} {t : TypeId} {nid : Nat} {x : Blk} (ho : o.op = .alloc t) (h : Zl7 P s.heap t nid = some x) : Zas P G o s (Zdv nid) [(nid, x)] := by
  unfold Zl7 Zqq at h
  cases hi : P.info? t with
  | none => simp [hi] at h
  | some i =>
    cases hz : i.zero with
    | none => simp [hi, hz] at h
    | some z =>
      simp only [hi, hz, Option.bind_some, Option.map_some] at h
      split at h
      · rename_i hc
        injection h with h; subst h
        simp only [Bool.and_eq_true, Bool.not_eq_true'] at hc
        obtain ⟨⟨hp, he⟩, hf⟩ := hc
        intro nt E m a w hr
        obtain ⟨m', h1, h2, h3, h4⟩ := Zdi hr.heap hr.frame hf (Zb6 (z.cells.toList.all Zfm) true z.cells.toList.length z.cells.toList) (by
            simp only [Zb6]
            cases hl : z.cells.toList with
            | nil => rw [hl] at he; cases he
            | cons => simp) z.cells t (0, 0) (by simp [Zb6]) (by
              simp only [Zb6, List.take_length]
              simp only [List.all_eq_true] at hp
              exact (L2.refl _).mono fun x hx y hxy => by subst hxy; exact CR.of_pure (hp _ hx)) (by
              intro hq v hv
              simp only [Zb6, List.all_eq_true] at hq hv
              exact Zit (hq v hv)) (by simp)
        exact ⟨_, _, m', .inl (by simp [execOp, ho, Instr.alloc, zeroValue, typeInfo, hi, hz, newVar, newRow]), h1, h2, h3, Zhg h4 rfl⟩
      · cases h

def Znz (σ : List Blk) (v : Value) (nid : Nat) : Option Blk :=
  if (Zhf v || Zhe v) && storC0 v && !v.cells.toList.isEmpty && Zby σ nid then some (Zb6 (v.cells.toList.all Zfm) true v.cells.toList.length v.cells.toList) else none
where storC0 : Value → Bool | .chan _ => false | _ => true

theorem VR.cellsOf {m : MapM} {v v' : Value} (h : VR m v v') (h1 : (Zhf v || Zhe v) = true) (h2 : Znz.storC0 v = true) : L2 (CR m) v.cells.toList v'.cells.toList := by
  by_cases ha : Zhe v = true
  · cases v <;> try (cases ha)
    rename_i cs
    obtain ⟨cs', rfl, hl⟩ := h
    exact hl
  · have ha' : Zhe v = false := by simpa using ha
    rw [ha', Bool.or_false] at h1
    have hcr := Znr h h1
    have hs : Zi1 v = true := by
      cases v
      case chan => simp [Znz.storC0] at h2
      case agg => cases ha'
      case tuple => cases h1
      all_goals rfl
    have hc : v.cells = #[v] := by cases v <;> first | rfl | cases ha'
    have h3 := hcr.oneCell hs
    have hc' : v'.cells = #[v'] := by cases v' <;> first | rfl | cases h3
    rw [hc, hc']
    exact L2.cons hcr L2.nil

theorem Zx5 {o : Oper} {s : St} {t : TypeId} {x : Operand} {nid : Nat} {b : Blk} (ho : o.op = .box t x) (h : Znz s.heap (s.eval x) nid = some b) : Zas P G o s (Zdv nid) [(nid, b)] := by
  unfold Znz at h
  split at h
  · rename_i hc
    injection h with h; subst h
    simp only [Bool.and_eq_true, Bool.not_eq_true'] at hc
    obtain ⟨⟨⟨hk, hs⟩, he⟩, hf⟩ := hc
    intro nt E m a w hr
    have hL := (hr.eval x).cellsOf hk hs
    obtain ⟨m', h1, h2, h3, h4⟩ := Zdi hr.heap hr.frame hf (Zb6 ((s.eval x).cells.toList.all Zfm) true (s.eval x).cells.toList.length (s.eval x).cells.toList) (by
        simp only [Zb6]
        cases hl : (s.eval x).cells.toList with
        | nil => rw [hl] at he; cases he
        | cons => simp) (a.eval x).cells t (0, 0) (by simp only [Zb6]; rw [hL.1]; simp) (by
          simp only [Zb6]; rw [hL.1, List.take_length]; exact hL) (by
          intro hq v hv
          simp only [Zb6, List.all_eq_true] at hq hv
          exact Zit (hq v hv)) (by simp)
    exact ⟨_, _, m', .inl (by simp [execOp, ho, Instr.box, newVar, newRow]), h1, h2, h3, Zhg h4 rfl⟩
  · cases h


theorem Zu7 {o : Oper} {s : St} {t : TypeId} {x : Operand} {v : Value} (ho : o.op = .load t x) (h : Zde P G t s.heap (s.eval x) = some v) : Zas P G o s v [] :=
 Zas.value fun nt E m a w hr => by
  obtain ⟨u, h1, h2⟩ := Zm1 hr.heap h (hr.eval x)
  exact ⟨u, by simp [execOp, ho, h1], h2⟩

def Zfn (P : Program) (t : TypeId) (σ : List Blk) (v x : Value) : Option (Nat × Blk) :=
  match Zdw P t, v with
  | some (_, n), .pointer (some ⟨b, o, none⟩) => (σ[b]?).bind fun blk =>
      if blk.wr && x.cells.size == n && Zdr blk.pur x.cells.toList && decide (o + n ≤ blk.cells.length) then some (b, { blk with cells := splice blk.cells o x.cells.toList }) else none
  | _, _ => none
theorem Z01 {t : TypeId} {σ : List Blk} {v x : Value} {b : Nat} {blk : Blk} (h : Zfn P t σ v x = some (b, blk)) : Zrn P t σ v x = some (σ.set b blk) ∧ b < σ.length := by
 unfold Zfn at h
 unfold Zrn
 split at h
 ·rename_i ag n b' o hk
  cases hb : σ[b']? with
  | none => simp [hb] at h
  | some y =>
   simp only [hb, Option.bind_some] at h ⊢
   split at h
   ·rename_i hc
    injection h with h; injection h with h1 h2
    subst h1; subst h2
    refine ⟨?_, (List.getElem?_eq_some_iff.1 hb).1⟩
    try simp only [hk, hb, Option.bind_some]
    rw [if_pos hc]
   ·cases h
 ·cases h
theorem Zj0 {σ : List Blk} {b : Nat} {x : Blk} (h : b < σ.length) : Zeo σ b x = σ.set b x := by unfold Zeo; rw [if_neg (by omega)]
theorem Ztr {o : Oper} {s : St} {t : TypeId} {x y : Operand} {b : Nat} {blk : Blk} (ho : o.op = .store t x y) (h : Zfn P t s.heap (s.eval x) (s.eval y) = some (b, blk)) : Zas P G o s undef [(b, blk)] := by
 obtain ⟨h1, h2⟩ := Z01 h
 intro nt E m a w hr
 obtain ⟨w', h3, h4, h5⟩ := Zro hr.heap hr.frame h1 (hr.eval x) (hr.eval y)
 exact ⟨undef, w', m, .inr ⟨by simp [execOp, ho, h3], rfl⟩, by simp only [Zd0, Zj0 h2]; exact h4, h5, fun _ _ h => h, VR.undef⟩


def Zcf (P : Program) (op : BinOp) (t : TypeId) (x y : Operand) (vx vy : Value) : Option Value :=
  if Za2 vx && Za2 vy then (Z0 P (do eqGuard op t x y vx vy; binOp op t vx vy)).bind fun v => if Za2 v then some v else none else none
theorem Zfc {α : Type} {e : Option α} {p : α → Bool} {v : α} (h : (e.bind fun v => if p v then some v else none) = some v) : e = some v ∧ p v = true := by
  cases e with
  | none => cases h
  | some u =>
    simp only [Option.bind_some] at h
    split at h
    · injection h with h; subst h; exact ⟨rfl, by assumption⟩
    · cases h
theorem Zx4 {o : Oper} {s : St} {op : BinOp} {t yt : TypeId} {x y : Operand} {v : Value} (ho : o.op = .binOp op t x y yt) (h : Zcf P op t x y (s.eval x) (s.eval y) = some v) : Zas P G o s v [] := by
 unfold Zcf at h
 split at h
 ·rename_i hc
  simp only [Bool.and_eq_true] at hc
  obtain ⟨h1, h2⟩ := Zfc h
  refine Zas.pure (fun nt E m a w hr => ?_) h2
  rw [← Za6 hr hc.1, ← Za6 hr hc.2] at h1
  have := Zgn h1 w
  simp only [execOp, ho, Sem.run_bind] at this ⊢
  rw [this]; rfl
 ·cases h

def unD (P : Program) (op : UnOp) (v : Value) : Option Value := if Za2 v then (Z0 P (Op.unary op v)).bind fun v => if Za2 v then some v else none else none
theorem Z0x {o : Oper} {s : St} {op : UnOp} {t : TypeId} {x : Operand} {v : Value} (ho : o.op = .unOp op t x) (h : unD P op (s.eval x) = some v) : Zas P G o s v [] := by
 unfold unD at h
 split at h
 ·rename_i hc
  obtain ⟨h1, h2⟩ := Zfc h
  refine Zas.pure (fun nt E m a w hr => ?_) h2
  rw [← Za6 hr hc] at h1
  have := Zgn h1 w
  simp only [execOp, ho, Sem.run_bind]
  rw [this]; rfl
 ·cases h

def Zj8 (P : Program) (src dst : TypeId) (v : Value) : Option Value := if Za2 v then (Z0 P (convert src dst v)).bind fun v => if Za2 v then some v else none else none
theorem Zu4 {o : Oper} {s : St} {src dst : TypeId} {x : Operand} {v : Value} (ho : o.op = .convert src dst x) (h : Zj8 P src dst (s.eval x) = some v) : Zas P G o s v [] := by
 unfold Zj8 at h
 split at h
 ·rename_i hc
  obtain ⟨h1, h2⟩ := Zfc h
  refine Zas.pure (fun nt E m a w hr => ?_) h2
  rw [← Za6 hr hc] at h1
  have := Zgn h1 w
  simp only [execOp, ho, Sem.run_bind]
  rw [this]; rfl
 ·cases h


def Z2n (P : Program) (t : TypeId) (f : Nat) : Option Nat :=
  match P.underlying t with
  | some (.struct fs) => (fs[f]?).bind fun fd => (P.info? fd.type).bind fun i => if i.size = 0 then none else some fd.offset
  | _ => none
def Zuu (v : Value) (n : Nat) : Option Value := match v with | .pointer (some ⟨b, o, q⟩) => some (.pointer (some ⟨b, o + n, q⟩)) | _ => none
def Zq4 (P : Program) (t : TypeId) (v : Value) (f : Nat) : Option Value := (Z2n P t f).bind fun n => Zuu v n

theorem Zlq {m : MapM} {v v' u : Value} {n : Nat} (h : Zuu v n = some u) (hv : VR m v v') : ∃ a, v' = .pointer (some a) ∧ a.spot = none ∧ VR m u (.pointer (some (a.add n))) := by
 unfold Zuu at h
 split at h
 ·rename_i b o q
  injection h with h; subst h
  cases q with
  | none =>
   obtain ⟨r, hr, rfl⟩ : ∃ r, m b = some r ∧ v' = .pointer (some ⟨r.g, r.lo + o, none⟩) := hv
   exact ⟨_, rfl, rfl, r, hr, by rw [Zdh, Nat.add_assoc]⟩
  | some q =>
   have hv' : v' = .pointer (some ⟨b, o, none⟩) := hv
   subst hv'
   exact ⟨_, rfl, rfl, by rw [Zdh]; exact rfl⟩
 ·cases h

theorem Zne {o : Oper} {s : St} {t : TypeId} {x : Operand} {f : Nat} {v : Value} (ho : o.op = .fieldAddr t x f) (h : Zq4 P t (s.eval x) f = some v) : Zas P G o s v [] := by
 unfold Zq4 Z2n at h
 split at h
 ·rename_i fs hu
  cases hf : fs[f]? with
  | none => simp [hf] at h
  | some fd =>
   cases hi : P.info? fd.type with
   | none => simp [hf, hi] at h
   | some i =>
    simp only [hf, hi, Option.bind_some] at h
    by_cases hz : i.size = 0
    ·simp [hz] at h
    ·rw [if_neg hz] at h
     simp only [Option.bind_some] at h
     refine Zas.value fun nt E m a w hr => ?_
     obtain ⟨ad, h1, h2, h3⟩ := Zlq h (hr.eval x)
     refine ⟨_, ?_, h3⟩
     simp [execOp, ho, h1, Instr.fieldAt, run_underlying hu, hf, Instr.sureAddr, fieldPlace, Zb4 hi, hz]
 ·simp at h

def Zn8 (P : Program) (t : TypeId) : Option (Option Nat × Nat) :=
  match P.underlying t with
  | some (.array n e) => (P.info? e).map fun i => (some n, i.size)
  | some (.slice e) => (P.info? e).map fun i => (none, i.size)
  | _ => none
def Zw8 (P : Program) (t : TypeId) (v ix : Value) : Option Value :=
  match Zn8 P t, v, ix with
  | some (some n, sz), .pointer (some ⟨b, o, q⟩), .int _ i => if 0 ≤ i ∧ i < n then some (.pointer (some ⟨b, o + i.toNat * sz, q⟩)) else none
  | some (none, sz), .slice (some ⟨b, o, none⟩) n _, .int _ i => if 0 ≤ i ∧ i < n then some (.pointer (some ⟨b, o + i.toNat * sz, none⟩)) else none
  | _, _, _ => none
theorem Zsg {t : TypeId} {n sz : Nat} (h : Zn8 P t = some (some n, sz)) : ∃ e i, P.underlying t = some (.array n e) ∧ P.info? e = some i ∧ i.size = sz := by
 unfold Zn8 at h
 split at h
 ·rename_i n' e hu
  cases hi : P.info? e with
  | none => simp [hi] at h
  | some i => simp [hi] at h; exact ⟨e, i, by rw [hu, h.1], hi, h.2⟩
 ·rename_i e hu
  cases hi : P.info? e <;> simp [hi] at h
 ·cases h
theorem Zsh {t : TypeId} {sz : Nat} (h : Zn8 P t = some (none, sz)) : ∃ e i, P.underlying t = some (.slice e) ∧ P.info? e = some i ∧ i.size = sz := by
 unfold Zn8 at h
 split at h
 ·rename_i n' e hu
  cases hi : P.info? e <;> simp [hi] at h
 ·rename_i e hu
  cases hi : P.info? e with
  | none => simp [hi] at h
  | some i => simp [hi] at h; exact ⟨e, i, hu, hi, h⟩
 ·cases h

theorem Znf {o : Oper} {s : St} {t : TypeId} {x y : Operand} {v : Value} (ho : o.op = .indexAddr t x y) (h : Zw8 P t (s.eval x) (s.eval y) = some v) : Zas P G o s v [] := by
 unfold Zw8 at h
 split at h
 ·rename_i n sz b q' q k i he hx hy
  split at h
  ·rename_i hc
   injection h with h; subst h
   obtain ⟨e, inf, hu, hi, hsz⟩ := Zsg he
   refine Zas.value fun nt E m a w hr => ?_
   have hiy : a.eval y = .int k i := by rw [Za6 hr (by rw [hy]; rfl), hy]
   obtain ⟨ad, h1, h2, h3⟩ := Zlq (m := m) (n := i.toNat * sz) (u := .pointer (some ⟨b, q' + i.toNat * sz, q⟩)) (by rw [hx]; rfl) (hr.eval x)
   refine ⟨_, ?_, h3⟩
   have hc2 : i < (n : Int) := hc.2
   simp [execOp, ho, h1, hiy, Instr.indexAt, asIntOf, run_underlying hu, Instr.sureAddr, hc.1, hc2, Zb4 hi, hsz]
  ·cases h
 ·rename_i sz b q' n c k i he hx hy
  split at h
  ·rename_i hc
   injection h with h; subst h
   obtain ⟨e, inf, hu, hi, hsz⟩ := Zsh he
   refine Zas.value fun nt E m a w hr => ?_
   have hiy : a.eval y = .int k i := by rw [Za6 hr (by rw [hy]; rfl), hy]
   have hxv := hr.eval x
   rw [hx] at hxv
   obtain ⟨r, a', c', hr1, hr2, hr3⟩ : ∃ r a' c', m b = some r ∧ a.eval x = .slice a' n c' ∧ Zhd r q' n c a' c' := hxv
   have hpos : 0 < c' := by have := hr3.1; have := hr3.2.1; omega
   have ha := hr3.addr hpos
   refine ⟨.pointer (some ⟨r.g, r.lo + (q' + i.toNat * sz), none⟩), ?_, r, hr1, rfl⟩
   have hc2 : i < (n : Int) := hc.2
   simp [execOp, ho, hr2, ha, hiy, Instr.indexAt, asIntOf, run_underlying hu, hc.1, hc2, Zb4 hi, hsz, Zdh, Nat.add_assoc]
  ·cases h
 ·cases h
end

end Go.Flat
end
section
/- More operations. -/
namespace Go.Flat
section
variable {P : Program} {G : Glob}


theorem Znb (cs : Array Value) (o n : Nat) : (cs.extract o (o + n)).toList = (cs.toList.drop o).take n := by
 rw [Array.toList_extract]
 simp [List.extract]

theorem Zow {m : MapM} {t : TypeId} {ag : Bool} {n o : Nat} {cs cs' : Array Value} {u : Value} (hk : Zdw P t = some (ag, n)) (hL : L2 (CR m) cs.toList cs'.toList) (h : rdA ag n cs.toList o = some u) (w : World) :
  ∃ u', (part t cs' o).run P w = .ok u' w ∧ VR m u u' := by
 obtain ⟨d, i, h1, h2, h3, h4⟩ := Zg4 hk
 cases ag with
 | true =>
  refine ⟨.agg (cs'.extract o (o + n)), by simp [part, Zgx h1, h3, Zb4 h2, h4], ?_⟩
  have := Zmp (m := m) (ag := true) h (ys := (cs'.toList.drop o).take n) (fun _ => (hL.drop o).take n) (y := undef) (by simp)
  simp only [if_true] at this
  rw [← Znb, Array.toArray_toList] at this
  exact this
 | false =>
  cases hc : cs.toList[o]? with
  | none => unfold rdA at h; simp at h; simp at hc; simp [hc] at h
  | some x =>
   obtain ⟨y, hy1, hy2⟩ := hL.get hc
   refine ⟨y, ?_, Zmp (m := m) (ag := false) (ys := []) h (by simp) (y := y) (fun _ z hz => by rw [hc] at hz; injection hz with hz; subst hz; exact hy2)⟩
   have : cs'[o]? = some y := by simpa using hy1
   simp [part, Zgx h1, h3, this]

def Z5i (P : Program) (t : TypeId) (f : Nat) : Option ((Bool × Nat) × Nat) :=
  match P.underlying t with
  | some (.struct fs) => (fs[f]?).bind fun fd => (Zdw P fd.type).map fun k => (k, fd.offset)
  | _ => none
def Zq5 (P : Program) (t : TypeId) (v : Value) (f : Nat) : Option Value :=
  match Z5i P t f, v with
  | some ((ag, n), o), .agg cs => rdA ag n cs.toList o
  | _, _ => none
theorem Zto {o : Oper} {s : St} {t : TypeId} {x : Operand} {f : Nat} {v : Value} (ho : o.op = .field t x f) (h : Zq5 P t (s.eval x) f = some v) : Zas P G o s v [] := by
 unfold Zq5 Z5i at h
 cases hu : P.underlying t with
 | none => simp [hu] at h
 | some d =>
  cases d with
  | struct fs =>
   simp only [hu] at h
   cases hf : fs[f]? with
   | none => simp [hf] at h
   | some fd =>
    cases hk : Zdw P fd.type with
    | none => simp [hf, hk] at h
    | some k =>
     obtain ⟨ag, n⟩ := k
     simp only [hf, hk, Option.bind_some, Option.map_some] at h
     split at h
     ·rename_i ag' n' o' cs he hx
      injection he with he; injection he with he1 he2; injection he1 with he3 he4
      subst he3; subst he4; subst he2
      refine Zas.value fun nt E m a w hr => ?_
      have hxv := hr.eval x
      rw [hx] at hxv
      obtain ⟨cs', hc1, hc2⟩ := hxv
      obtain ⟨u, hu1, hu2⟩ := Zow hk hc2 h w
      refine ⟨u, ?_, hu2⟩
      simp [execOp, ho, Instr.field, run_underlying hu, hf, hc1, asAgg, hu1]
     ·cases h
  | _ => simp [hu] at h

def Zy6 (P : Program) (t : TypeId) : Option (Nat × Bool × Nat) :=
  match P.underlying t with
  | some (.array n e) => (Zdw P e).map fun k => (n, k)
  | _ => none
def Zmg (P : Program) (t : TypeId) (v ix : Value) : Option Value :=
  match Zy6 P t, v, ix with
  | some (n, ag, sz), .agg cs, .int _ i => if 0 ≤ i ∧ i < n then rdA ag sz cs.toList (i.toNat * sz) else none
  | _, _, _ => none
theorem Ztp {o : Oper} {s : St} {t : TypeId} {x y : Operand} {v : Value} (ho : o.op = .index t x y) (h : Zmg P t (s.eval x) (s.eval y) = some v) : Zas P G o s v [] := by
 unfold Zmg Zy6 at h
 cases hu : P.underlying t with
 | none => simp [hu] at h
 | some d =>
  cases d with
  | array len e =>
   simp only [hu] at h
   cases hk : Zdw P e with
   | none => simp [hk] at h
   | some k =>
    obtain ⟨ag, sz⟩ := k
    simp only [hk, Option.map_some] at h
    split at h
    ·rename_i n' ag' sz' cs k i he hx hy
     injection he with he; injection he with he1 he2; injection he2 with he3 he4
     subst he1; subst he3; subst he4
     split at h
     ·rename_i hc
      refine Zas.value fun nt E m a w hr => ?_
      have hiy : a.eval y = .int k i := by rw [Za6 hr (by rw [hy]; rfl), hy]
      have hxv := hr.eval x
      rw [hx] at hxv
      obtain ⟨cs', hc1, hc2⟩ := hxv
      obtain ⟨u, hu1, hu2⟩ := Zow hk hc2 h w
      obtain ⟨d2, inf, h1, h2, h3, h4⟩ := Zg4 hk
      refine ⟨u, ?_, hu2⟩
      have hcl : i < (len : Int) := hc.2
      simp [execOp, ho, Instr.index, run_underlying hu, hc1, hiy, asIntOf, hc.1, hcl, Zb4 h2, h4, hu1]
     ·cases h
    ·cases h
  | _ => simp [hu] at h

def Z66 (P : Program) (t : TypeId) (v ix : Value) : Option Value :=
  match P.underlying t, v, ix with
  | some .string, .string b, .int _ i => if 0 ≤ i then (b[i.toNat]?).map fun c => .int .u8 c.toNat else none
  | _, _, _ => none

def Zk8 (place : Nat → Option (Nat × Nat)) (cells : List Value) : List (Nat × Value) → Option (List Value)
  | [] => some cells
  | (i, v) :: rest => match place i with
    | some (off, size) => if (Zhf v || Zhe v) && Znz.storC0 v && v.cells.size == size && decide (off + size ≤ cells.length) then Zk8 place (splice cells off v.cells.toList) rest else none
    | none => none

theorem Zk9 (off : Nat) : ∀ (vs : List Value) (k : Nat) (cells : Array Value), off + k + vs.length ≤ cells.size →
  ((vs.zipIdx k).foldl (fun (cs : Array Value) (p : Value × Nat) => cs.setIfInBounds (off + p.2) p.1) cells).toList = splice cells.toList (off + k) vs
 | [], k, cells, h => by simp [splice]
 | v :: vs, k, cells, h => by
  simp only [List.zipIdx_cons, List.foldl_cons, List.length_cons] at h ⊢
  rw [Zk9 off vs (k + 1) _ (by simp; omega)]
  apply List.ext_getElem?
  intro i
  rw [Zf3 (by simp; omega), Zf3 (by simp; omega)]
  simp only [Array.toList_setIfInBounds, List.length_cons, List.getElem?_set, Array.length_toList]
  by_cases h1 : i = off + k
  ·subst h1
   rw [if_neg (by omega), if_pos (by omega), if_pos (by omega)]
   simp
  ·by_cases h2 : off + (k + 1) ≤ i ∧ i < off + (k + 1) + vs.length
   ·rw [if_pos h2, if_pos (by omega), show i - (off + k) = (i - (off + (k + 1))) + 1 from by omega]; simp
   ·rw [if_neg h2, if_neg (by omega), if_neg (by omega)]

theorem Zme (off : Nat) (vs : Array Value) (cells : Array Value) (h : off + vs.size ≤ cells.size) :
  (vs.zipIdx.foldl (fun (cs : Array Value) (p : Value × Nat) => cs.setIfInBounds (off + p.2) p.1) cells).toList = splice cells.toList off vs.toList := by
 rw [← Array.foldl_toList]
 rw [Array.toList_zipIdx]
 exact Zk9 off vs.toList 0 cells (by simpa using h)

theorem Zya {m : MapM} {xs xs' ys ys' : List Value} (h : L2 (CR m) xs xs') (h' : L2 (CR m) ys ys') (o : Nat) : L2 (CR m) (splice xs o ys) (splice xs' o ys') := by
 unfold splice
 rw [← h'.1]
 exact ((h.take o).append h').append (h.drop _)

theorem Zki {m : MapM} (place : Nat → Option (Nat × Nat)) : ∀ (parts parts' : List (Nat × Value)) (cells : List Value) (cells' : Array Value) (r : List Value),
  L2 (fun p q => q.1 = p.1 ∧ VR m p.2 q.2) parts parts' → L2 (CR m) cells cells'.toList → Zk8 place cells parts = some r → ∃ r' : Array Value, Instr.fill place cells' parts' = some r' ∧ L2 (CR m) r r'.toList
 | [], parts', cells, cells', r, hp, hc, h => by
  have := hp.nil_inv; subst this
  simp only [Zk8, Option.some.injEq] at h; subst h
  exact ⟨cells', rfl, hc⟩
 | (i, v) :: rest, parts', cells, cells', r, hp, hc, h => by
  obtain ⟨⟨i', v'⟩, rest', rfl, ⟨hi, hv⟩, hp'⟩ := hp.inv
  simp only at hi hv; subst hi
  simp only [Zk8] at h
  cases hpl : place i' with
  | none => simp [hpl] at h
  | some os =>
   obtain ⟨off, size⟩ := os
   simp only [hpl] at h
   split at h
   ·rename_i hcond
    simp only [Bool.and_eq_true, beq_iff_eq, decide_eq_true_eq] at hcond
    obtain ⟨⟨⟨h1, h2⟩, h3⟩, h4⟩ := hcond
    have hL := hv.cellsOf h1 h2
    have hsz : v'.cells.size = size := by have := hL.1; simp at this; omega
    have hlen : cells'.size = cells.length := by have := hc.1; simp at this; omega
    have hfold := Zme off v'.cells cells' (by omega)
    obtain ⟨r', hr1, hr2⟩ := Zki place rest rest' _ (v'.cells.zipIdx.foldl (fun (cs : Array Value) (p : Value × Nat) => cs.setIfInBounds (off + p.2) p.1) cells') r hp' (by rw [hfold]; exact Zya hc hL off) h
    refine ⟨r', ?_, hr2⟩
    simp only [Instr.fill, hpl]
    rw [if_neg (by simp; omega)]
    exact hr1
   ·cases h

def Zrf (P : Program) (t : TypeId) : Option (Nat → Option (Nat × Nat)) :=
  match P.underlying t with
  | some (.array _ e) => (P.info? e).map fun i => fun k => some (k * i.size, i.size)
  | some (.struct fields) => (fields.toList.mapM (fun f => (P.info? f.type).map fun i => (f.offset, i.size))).map fun l => fun k => l.toArray[k]?
  | _ => none
def Zqx (P : Program) (t : TypeId) (parts : List (Nat × Value)) : Option Value :=
  (Zqq P t).bind fun z => (Zrf P t).bind fun pl => if z.all Zba then (Zk8 pl z parts).map fun c => .agg c.toArray else none

theorem Ztn {o : Oper} {s : St} {t : TypeId} {ps : Array (Nat × Operand)} {v : Value} (ho : o.op = .build t ps) (h : Zqx P t (ps.toList.map fun p => (p.1, s.eval p.2)) = some v) : Zas P G o s v [] := by
 unfold Zqx Zqq at h
 cases hi : P.info? t with
 | none => simp [hi] at h
 | some it =>
  cases hz : it.zero with
  | none => simp [hi, hz] at h
  | some z =>
   simp only [hi, hz, Option.bind_some, Option.map_some] at h
   cases hpl : Zrf P t with
   | none => simp [hpl] at h
   | some pl =>
    simp only [hpl, Option.bind_some] at h
    split at h
    ·rename_i hpz
     cases hf : Zk8 pl z.cells.toList (ps.toList.map fun p => (p.1, s.eval p.2)) with
     | none => simp [hf] at h
     | some r =>
      simp only [hf, Option.map_some] at h
      injection h with h; subst h
      refine Zas.value fun nt E m a w hr => ?_
      have hparts : L2 (fun p q => q.1 = p.1 ∧ VR m p.2 q.2) (ps.toList.map fun p => (p.1, s.eval p.2)) (ps.toList.map fun p => (p.1, a.eval p.2)) := by
       refine ⟨by simp, ?_⟩
       intro i x y hx hy
       simp only [List.getElem?_map, Option.map_eq_some_iff] at hx hy
       obtain ⟨p, hp1, rfl⟩ := hx
       obtain ⟨q, hq1, rfl⟩ := hy
       rw [hp1] at hq1; injection hq1 with hq1; subst hq1
       exact ⟨rfl, hr.eval p.2⟩
      simp only [List.all_eq_true] at hpz
      have hzz : L2 (CR m) z.cells.toList z.cells.toList := (L2.refl _).mono fun x hx y hxy => by subst hxy; exact CR.of_pure (hpz _ hx)
      obtain ⟨r', hr1, hr2⟩ := Zki pl _ _ _ z.cells r hparts hzz hf
      refine ⟨.agg r', ?_, r', rfl, by simpa using hr2⟩
      have hb : P.built t (ps.toList.map fun p => (p.1, a.eval p.2)) = some r' := by
       unfold Zrf at hpl
       unfold Program.built
       cases hu : P.underlying t with
       | none => simp [hu] at hpl
       | some d =>
        cases d with
        | array n e =>
         simp only [hu] at hpl
         cases hie : P.info? e with
         | none => simp [hie] at hpl
         | some ie =>
          simp only [hie, Option.map_some] at hpl
          injection hpl with hpl
          subst hpl
          simp only [hi, hz, hie]
          exact hr1
        | struct fields =>
         simp only [hu] at hpl
         cases hm : fields.toList.mapM (fun f => (P.info? f.type).map fun i => (f.offset, i.size)) with
         | none => rw [hm] at hpl; simp at hpl
         | some places =>
          rw [hm] at hpl
          simp only [Option.map_some] at hpl
          injection hpl with hpl
          subst hpl
          simp only [hi, hz, hm]
          exact hr1
        | _ => simp [hu] at hpl
      have := run_build (P := P) w t (ps.map fun p => (p.1, a.eval p.2)) r' (by simpa using hb)
      simp only [execOp, ho, Sem.run_bind, this]
      rfl
    ·cases h


def Zdy (v : Value) : Bool := Zhf v && !Zuh v
theorem Zpo {m : MapM} {v v' : Value} (h : VR m v v') (h1 : Zdy v = true) : CR0 m v v' := by
 simp only [Zdy, Bool.and_eq_true, Bool.not_eq_true'] at h1
 have := Znr h h1.1
 rwa [Zi7 h1.2] at this
def Zp3 (s : St) (f : Fn) (xs ys : Array Operand) : Option Value :=
  if (xs.toList.all fun x => Zdy (s.eval x)) && (ys.toList.all fun x => Zdy (s.eval x)) then some (.func f (xs.map s.eval) (ys.map s.eval)) else none
theorem Zo2 {o : Oper} {s : St} {f : Fn} {xs ys : Array Operand} {v : Value} (ho : o.op = .makeFunc f xs ys) (h : Zp3 s f xs ys = some v) : Zas P G o s v [] := by
 unfold Zp3 at h
 split at h
 ·rename_i hc
  injection h with h; subst h
  simp only [Bool.and_eq_true, List.all_eq_true] at hc
  refine Zas.value fun nt E m a w hr => ⟨.func f (xs.map a.eval) (ys.map a.eval), by simp [execOp, ho, Instr.makeFunc], xs.map a.eval, ys.map a.eval, rfl, ?_, ?_⟩
  ·simp only [Array.toList_map]
   refine ⟨by simp, fun i x y hx hy => ?_⟩
   simp only [List.getElem?_map, Option.map_eq_some_iff] at hx hy
   obtain ⟨p, hp1, rfl⟩ := hx
   obtain ⟨q, hq1, rfl⟩ := hy
   rw [hp1] at hq1; injection hq1 with hq1; subst hq1
   exact Zpo (hr.eval p) (hc.1 p (List.mem_of_getElem? hp1))
  ·simp only [Array.toList_map]
   refine ⟨by simp, fun i x y hx hy => ?_⟩
   simp only [List.getElem?_map, Option.map_eq_some_iff] at hx hy
   obtain ⟨p, hp1, rfl⟩ := hx
   obtain ⟨q, hq1, rfl⟩ := hy
   rw [hp1] at hq1; injection hq1 with hq1; subst hq1
   exact Zpo (hr.eval p) (hc.2 p (List.mem_of_getElem? hp1))
 ·cases h

def Zy9 (v : Value) (i : Nat) : Option Value := match v with | .tuple vs => (vs.toList[i]?).bind fun u => if Zhw u then none else some u | _ => none
theorem Zpl {o : Oper} {s : St} {x : Operand} {i : Nat} {v : Value} (ho : o.op = .extract x i) (h : Zy9 (s.eval x) i = some v) : Zas P G o s v [] := by
  unfold Zy9 at h
  split at h
  · rename_i vs hx
    cases hv : vs.toList[i]? with
    | none => rw [hv] at h; cases h
    | some u =>
      rw [hv] at h
      simp only [Option.bind_some] at h
      split at h
      · cases h
      · rename_i ht
        injection h with h; subst h
        refine Zas.value fun nt E m a w hr => ?_
        have hxv := hr.eval x
        rw [hx] at hxv
        obtain ⟨vs', hc1, hc2⟩ := hxv
        obtain ⟨y, hy1, hy2⟩ := hc2.get hv
        refine ⟨y, ?_, by rw [Zfp (by simpa using ht)]; exact hy2⟩
        have : vs'[i]? = some y := by simpa using hy1
        simp [execOp, ho, hc1, Instr.extract, this]
  · cases h

def Zz6 (v : Value) : Option Value := match v with | .pointer (some _) => some v | .func (.func _) _ _ => some v | _ => none
theorem Zo3 {o : Oper} {s : St} {x : Operand} {v : Value} (ho : o.op = .nilCheck x) (h : Zz6 (s.eval x) = some v) : Zas P G o s v [] := by
 unfold Zz6 at h
 refine Zas.value fun nt E m a w hr => ⟨a.eval x, ?_, ?_⟩
 ·have hxv := hr.eval x
  split at h
  ·rename_i ad hx
   rw [hx] at hxv
   have hp : ∃ b, a.eval x = .pointer (some b) := by
    obtain ⟨b, of, q⟩ := ad
    cases q with
    | none => obtain ⟨r, _, h2⟩ := hxv; exact ⟨_, h2⟩
    | some q => exact ⟨_, hxv⟩
   obtain ⟨b, hb⟩ := hp
   simp [execOp, ho, hb]
  ·rename_i f xs ys hx
   rw [hx] at hxv
   obtain ⟨xs', ys', h1, _⟩ := hxv
   simp [execOp, ho, h1]
  ·cases h
 ·have hxv := hr.eval x
  split at h
  ·rename_i ad hx; injection h with h; subst h; rw [hx] at hxv ⊢; exact hxv
  ·rename_i f xs ys hx; injection h with h; subst h; rw [hx] at hxv ⊢; exact hxv
  ·cases h

def Z6m (P : Program) (t : TypeId) (v : Value) : Option Value :=
  match P.underlying t with
  | some (.interface _) => none
  | some _ => if Za2 v then some (.iface t v) else none
  | none => none
end

end Go.Flat
end
section
/- Slices, strings and bytes, builtins. -/
namespace Go.Flat
section
variable {P : Program} {G : Glob}


def Zi5 : Value → Option Int | .int _ i => some i | _ => none
def Zdk (len cap : Nat) (lo hi : Option Value) : Option (Nat × Nat) :=
  (match hi with | none => some len | some v => (Zi5 v).bind fun i => if 0 ≤ i ∧ i ≤ cap then some i.toNat else none).bind fun h =>
  (match lo with | none => some 0 | some v => (Zi5 v).bind fun i => if 0 ≤ i ∧ i ≤ h then some i.toNat else none).bind fun l => some (l, h)

theorem Zjw {v : Value} {i : Int} (h : Zi5 v = some i) : Za2 v = true ∧ ∃ k, v = .int k i := by
 cases v <;> simp [Zi5] at h
 subst h; exact ⟨rfl, _, rfl⟩
theorem Zmu {v : Value} {i : Int} (h : Zi5 v = some i) (y : Nat) (c : BoundsCode) (h0 : 0 ≤ i) (h1 : i ≤ y) (w : World) : (Instr.sliceBound v y c).run P w = .ok i.toNat w := by
 obtain ⟨_, k, rfl⟩ := Zjw h
 simp [Instr.sliceBound, asIntOf, h0, h1]
theorem Zhi {len cap cap' : Nat} {lo hi : Option Value} {l h : Nat} (hb : Zdk len cap lo hi = some (l, h)) (hc : cap ≤ cap') (isS : Bool) (w : World) :
  (Instr.sliceBounds isS len cap' lo hi none).run P w = .ok (l, h, cap') w ∧ l ≤ h ∧ (h ≤ cap ∨ h = len) := by
 unfold Zdk at hb
 cases hi with
 | none =>
  simp only [Option.bind_some] at hb
  cases lo with
  | none => simp at hb; obtain ⟨rfl, rfl⟩ := hb; exact ⟨by simp [Instr.sliceBounds], by omega, .inr rfl⟩
  | some v =>
   cases hi : Zi5 v with
   | none => simp [hi] at hb
   | some i =>
    simp only [hi, Option.bind_some] at hb
    split at hb
    ·rename_i hh
     simp at hb; obtain ⟨rfl, rfl⟩ := hb
     have := Zmu (P := P) hi len .sliceB hh.1 hh.2 w
     exact ⟨by simp [Instr.sliceBounds, this], by omega, .inr rfl⟩
    ·cases hb
 | some v2 =>
  cases hi2 : Zi5 v2 with
  | none => simp [hi2] at hb
  | some i2 =>
   simp only [hi2, Option.bind_some] at hb
   split at hb
   ·rename_i hh2
    simp only [Option.bind_some] at hb
    have r2 := fun c => Zmu (P := P) hi2 cap' c hh2.1 (by omega) w
    cases lo with
    | none => simp at hb; obtain ⟨rfl, rfl⟩ := hb; exact ⟨by simp [Instr.sliceBounds, r2], by omega, .inl (by omega)⟩
    | some v =>
     cases hi : Zi5 v with
     | none => simp [hi] at hb
     | some i =>
      simp only [hi, Option.bind_some] at hb
      split at hb
      ·rename_i hh
       simp at hb; obtain ⟨rfl, rfl⟩ := hb
       have r1 := Zmu (P := P) hi i2.toNat .sliceB hh.1 (by omega) w
       exact ⟨by simp [Instr.sliceBounds, r2, r1], by omega, .inl (by omega)⟩
      ·cases hb
   ·cases hb

def Zm6 (σ : List Blk) (b sz : Nat) : Bool := match σ[b]? with | some x => x.fix || x.sz == sz | none => true
def Znw (σ : List Blk) (b : Nat) : Bool := match σ[b]? with | some x => x.fix | none => false
def Zg7 (P : Program) (σ : List Blk) (t : TypeId) (v : Value) (lo hi : Option Value) : Option Value :=
  match P.underlying t, v with
  | some .string, .string b => (Zdk b.size b.size lo hi).map fun p => .string (b.extract p.1 p.2)
  | some (.slice e), .slice (some ⟨b, o, none⟩) n c => (Zdk n c lo hi).bind fun p => (P.info? e).bind fun i =>
      if Zm6 σ b i.size then some (.slice (some ⟨b, o + p.1 * i.size, none⟩) (p.2 - p.1) (c - p.1)) else none
  | some (.slice e), .slice none n c => if n = 0 ∧ c = 0 then (Zdk 0 0 lo hi).bind fun _ => (P.info? e).map fun _ => .slice none 0 0 else none
  | some (.array n e), .pointer (some ⟨b, o, none⟩) => (Zdk n n lo hi).bind fun p => (P.info? e).bind fun i =>
      if Znw σ b then some (.slice (some ⟨b, o + p.1 * i.size, none⟩) (p.2 - p.1) (n - p.1)) else none
  | _, _ => none

theorem Zhp {nt : Nat} {E : Ent} {m : MapM} {s : St} {a : Act} {w : World} (hr : SRel G nt E m s a w) {len cap : Nat} {lo hi : Option Operand} {p : Nat × Nat} (h : Zdk len cap (lo.map s.eval) (hi.map s.eval) = some p) :
    lo.map a.eval = lo.map s.eval ∧ hi.map a.eval = hi.map s.eval := by
  unfold Zdk at h
  have key : ∀ (x : Operand) (i : Int), Zi5 (s.eval x) = some i → a.eval x = s.eval x := fun x i hx => Za6 hr (Zjw hx).1
  have hhi : hi.map a.eval = hi.map s.eval := by
    cases hi with
    | none => rfl
    | some x =>
      cases hx : Zi5 (s.eval x) with
      | none => simp [hx] at h
      | some i => simp [key x i hx]
  refine ⟨?_, hhi⟩
  cases lo with
  | none => rfl
  | some x =>
    cases hx : Zi5 (s.eval x) with
    | none =>
      simp only [Option.map_some, hx, Option.bind_none] at h
      cases hq : (match hi.map s.eval with | none => some len | some v => (Zi5 v).bind fun i => if 0 ≤ i ∧ i ≤ cap then some i.toNat else none) with
      | none => rw [hq] at h; cases h
      | some q => rw [hq] at h; cases h
    | some i => simp [key x i hx]

theorem Ztq {o : Oper} {s : St} {t : TypeId} {x : Operand} {lo hi : Option Operand} {v : Value} (ho : o.op = .slice t x lo hi none) (h : Zg7 P s.heap t (s.eval x) (lo.map s.eval) (hi.map s.eval) = some v) : Zas P G o s v [] := by
  unfold Zg7 at h
  split at h
  · rename_i b hu hx
    cases hb : Zdk b.size b.size (lo.map s.eval) (hi.map s.eval) with
    | none => simp [hb] at h
    | some p =>
      obtain ⟨l, hh⟩ := p
      simp only [hb, Option.map_some] at h
      injection h with h; subst h
      refine Zas.pure (fun nt E m a w hr => ?_) rfl
      obtain ⟨e1, e2⟩ := Zhp hr hb
      obtain ⟨h1, h2, h3⟩ := Zhi (P := P) hb (Nat.le_refl _) false w
      have hxv : a.eval x = .string b := by rw [Za6 hr (by rw [hx]; rfl), hx]
      simp [execOp, ho, hxv, e1, e2, Instr.sliceAt, Instr.slice, run_underlying hu, h1]
  · rename_i e b o' n c hu hx
    cases hb : Zdk n c (lo.map s.eval) (hi.map s.eval) with
    | none => simp [hb] at h
    | some p =>
      obtain ⟨l, hh⟩ := p
      cases hi' : P.info? e with
      | none => simp [hb, hi'] at h
      | some i =>
        simp only [hb, hi', Option.bind_some] at h
        by_cases hcond : Zm6 s.heap b i.size = true
        case neg => rw [if_neg hcond] at h; cases h
        rw [if_pos hcond] at h
        injection h with h
        subst h
        refine Zas.value fun nt E m a w hr => ?_
        obtain ⟨e1, e2⟩ := Zhp hr hb
        have hxv := hr.eval x
        rw [hx] at hxv
        obtain ⟨r, a', c', hr1, hr2, hr3⟩ : ∃ r a' c', m b = some r ∧ a.eval x = .slice a' n c' ∧ Zhd r o' n c a' c' := hxv
        obtain ⟨hn, hcc, hs⟩ := hr3
        obtain ⟨h1, h2, h3⟩ := Zhi (P := P) (cap' := c') hb hcc true w
        have hhc : hh ≤ c := by omega
        refine ⟨.slice (if c' = l then a' else a'.map (·.add (l * i.size))) (hh - l) (c' - l), ?_, r, _, _, hr1, rfl, by omega, by omega, ?_⟩
        · simp [execOp, ho, hr2, e1, e2, Instr.sliceAt, Instr.slice, run_underlying hu, h1, Zb4 hi']
        · intro h0
          obtain ⟨ha, hbd⟩ := hs (by omega)
          refine ⟨by rw [if_neg (by omega), ha]; simp [Zdh, Nat.add_assoc], fun hf => ?_, fun hw hf hv => by have := hbd.2 hw hf hv; omega⟩
          have := hbd.1 hf
          obtain ⟨blk, hblk, _, hbw, hbf, _, hsz, _⟩ := hr.heap.reg b r hr1
          unfold Zm6 at hcond
          rw [hblk] at hcond
          simp only [← hbf, hf, Bool.false_or, beq_iff_eq] at hcond
          have he : i.size = r.sz := by rw [hsz]; exact hcond.symm
          have h5 : l * i.size + (c' - l) * r.sz = c' * r.sz := by rw [he, ← Nat.add_mul, show l + (c' - l) = c' from by omega]
          show r.lo + (o' + l * i.size) + (c' - l) * r.sz ≤ r.hi
          omega
  · rename_i e n c hu hx
    split at h
    · rename_i hnc
      obtain ⟨rfl, rfl⟩ := hnc
      cases hb : Zdk 0 0 (lo.map s.eval) (hi.map s.eval) with
      | none => simp [hb] at h
      | some p =>
        obtain ⟨l, hh⟩ := p
        cases hi' : P.info? e with
        | none => simp [hb, hi'] at h
        | some i =>
          simp only [hb, hi', Option.bind_some, Option.map_some] at h
          injection h with h; subst h
          refine Zas.pure (fun nt E m a w hr => ?_) rfl
          obtain ⟨e1, e2⟩ := Zhp hr hb
          obtain ⟨h1, h2, h3⟩ := Zhi (P := P) hb (Nat.le_refl _) true w
          have hxv : a.eval x = .slice none 0 0 := by rw [Za6 hr (by rw [hx]; rfl), hx]
          have hl : l = 0 := by omega
          have hh0 : hh = 0 := by omega
          subst hl; subst hh0
          simp [execOp, ho, hxv, e1, e2, Instr.sliceAt, Instr.slice, run_underlying hu, h1, Zb4 hi']
    · cases h
  · rename_i n e b o' hu hx
    cases hb : Zdk n n (lo.map s.eval) (hi.map s.eval) with
    | none => simp [hb] at h
    | some p =>
      obtain ⟨l, hh⟩ := p
      cases hi' : P.info? e with
      | none => simp [hb, hi'] at h
      | some i =>
        simp only [hb, hi', Option.bind_some] at h
        by_cases hcond : Znw s.heap b = true
        case neg => rw [if_neg hcond] at h; cases h
        case pos =>
          rw [if_pos hcond] at h
          injection h with h; subst h
          refine Zas.value fun nt E m a w hr => ?_
          obtain ⟨e1, e2⟩ := Zhp hr hb
          have hxv := hr.eval x
          rw [hx] at hxv
          obtain ⟨r, hr1, hr2⟩ : ∃ r, m b = some r ∧ a.eval x = .pointer (some ⟨r.g, r.lo + o', none⟩) := hxv
          obtain ⟨h1, h2, h3⟩ := Zhi (P := P) hb (Nat.le_refl _) false w
          refine ⟨.slice (some (if n = l then (⟨r.g, r.lo + o', none⟩ : Addr) else (⟨r.g, r.lo + o', none⟩ : Addr).add (l * i.size))) (hh - l) (n - l), ?_, r, _, _, hr1, rfl, by omega, by omega, ?_⟩
          · simp [execOp, ho, hr2, e1, e2, Instr.sliceAt, run_underlying hu, Instr.sureAddr, h1, Zb4 hi']
          · intro h0
            refine ⟨by rw [if_neg (by omega), Zdh, Nat.add_assoc], fun hf => ?_, fun _ _ _ => rfl⟩
            obtain ⟨blk, hblk, _, hbw, hbf, _⟩ := hr.heap.reg b r hr1
            unfold Znw at hcond
            rw [hblk] at hcond
            simp only [← hbf, hf] at hcond
            cases hcond
  · cases h


theorem Zka (z : Array Value) (hz : 0 < z.size) (n : Nat) (i : Nat) (hi : i < n * z.size) : (madeCells z (n * z.size))[i]? = z[i % z.size]? := by
 have hm : i % z.size < z.size := Nat.mod_lt _ hz
 simp [madeCells, hi, hm, getElem!_pos z (i % z.size) hm]

def rep (n : Nat) (z : List Value) : List Value := (List.replicate n z).flatten
theorem Zkm (n : Nat) (z : List Value) : (rep n z).length = n * z.length := by simp [rep]
theorem Zwh (z : List Value) : ∀ (n i : Nat), i < n * z.length → (rep n z)[i]? = z[i % z.length]?
 | 0, i, h => by simp at h
 | n + 1, i, h => by
  have hs : rep (n + 1) z = z ++ rep n z := by simp [rep, List.replicate_succ]
  rw [hs, List.getElem?_append]
  rw [Nat.add_mul, Nat.one_mul] at h
  split
  ·rename_i hlt; rw [Nat.mod_eq_of_lt hlt]
  ·rename_i hge
   rw [Zwh z n _ (by omega)]
   congr 1
   rw [← Nat.mod_eq_sub_mod (by omega)]

def Zda (P : Program) (t : TypeId) : Option (Nat × List Value × Nat) :=
  match P.underlying t with
  | some (.slice e) => (P.info? e).bind fun i => i.zero.map fun z => (i.size, z.cells.toList, i.bytes)
  | _ => none
theorem Zdo {t : TypeId} {sz by_ : Nat} {zc : List Value} (h : Zda P t = some (sz, zc, by_)) : ∃ e i z, P.underlying t = some (.slice e) ∧ P.info? e = some i ∧ i.zero = some z ∧ i.size = sz ∧ z.cells.toList = zc ∧ i.bytes = by_ := by
 unfold Zda at h
 split at h
 ·rename_i e hu
  cases hi : P.info? e with
  | none => simp [hi] at h
  | some i =>
   cases hz : i.zero with
   | none => simp [hi, hz] at h
   | some z =>
    simp only [hi, hz, Option.bind_some, Option.map_some, Option.some.injEq, Prod.mk.injEq] at h
    exact ⟨e, i, z, hu, hi, hz, h.1, h.2.1, h.2.2⟩
 ·cases h

def Zoq (P : Program) (σ : List Blk) (t : TypeId) (l c : Value) (nid : Nat) : Option (Value × Blk) :=
  match Zda P t, Zi5 l, Zi5 c with
  | some (sz, zc, by_), some li, some ci =>
    if 0 ≤ li ∧ li ≤ ci ∧ (by_ : Int) * ci ≤ 281474976710656 ∧ ci ≤ 9223372036854775807 ∧ zc.length = sz ∧ 0 < sz ∧ zc.all Zba = true ∧ Zby σ nid = true then
      some (.slice (some ⟨nid, 0, none⟩) li.toNat ci.toNat, Zb6 (zc.all Zfm) false sz (rep li.toNat zc)) else none
  | _, _, _ => none

theorem Zu8 {o : Oper} {s : St} {t : TypeId} {x y : Operand} {nid : Nat} {v : Value} {b : Blk} (ho : o.op = .makeSlice t x y) (h : Zoq P s.heap t (s.eval x) (s.eval y) nid = some (v, b)) : Zas P G o s v [(nid, b)] := by
 unfold Zoq at h
 split at h
 ·rename_i sz zc by_ li ci ht hl hc
  split at h
  ·rename_i hh
   obtain ⟨h0, hlc, hby, h63, hzl, hsz, hzp, hfr⟩ := hh
   injection h with h; injection h with h1 h2
   subst h1; subst h2
   obtain ⟨e, i, z, hu, hi, hz, he1, he2, he3⟩ := Zdo ht
   obtain ⟨hlp, kl, hlv⟩ := Zjw hl
   obtain ⟨hcp, kc, hcv⟩ := Zjw hc
   intro nt E m a w hr
   have hx : a.eval x = .int kl li := by rw [Za6 hr hlp, hlv]
   have hy : a.eval y = .int kc ci := by rw [Za6 hr hcp, hcv]
   have hrun := run_make (P := P) w t e i z hu hi hz kl kc li ci h0 hlc (by rw [he3]; exact hby) h63
   have hzs : z.cells.size = sz := by rw [← hzl, ← he2]; simp
   have hms : (madeCells z.cells (ci.toNat * i.size)).size = ci.toNat * sz := by rw [size_madeCells, he1]
   have hle : li.toNat * sz ≤ ci.toNat * sz := Nat.mul_le_mul_right _ (by omega)
   simp only [List.all_eq_true] at hzp
   have hcell : ∀ (j : Nat) (u : Value), (rep li.toNat zc)[j]? = some u → (madeCells z.cells (ci.toNat * i.size))[j]? = some u ∧ Zba u = true := by
    intro j u hu'
    have hj : j < (rep li.toNat zc).length := (List.getElem?_eq_some_iff.1 hu').1
    rw [Zkm, hzl] at hj
    rw [Zwh zc _ _ (by rw [hzl]; exact hj)] at hu'
    rw [he1, ← hzs, Zka z.cells (by omega) _ _ (by rw [hzs]; omega)]
    rw [hzl, ← he2] at hu'
    rw [hzs]
    refine ⟨by simpa using hu', hzp _ (by rw [← he2]; exact List.mem_of_getElem? hu')⟩
   obtain ⟨m', g1, g2, g3, g4⟩ := Zdi hr.heap hr.frame hfr (Zb6 (zc.all Zfm) false sz (rep li.toNat zc)) hsz (madeCells z.cells (ci.toNat * i.size)) e (0, 0) (by simp only [Zb6]; rw [Zkm, hzl, hms]; exact hle)
    ⟨by simp only [Zb6]; rw [Zkm, hzl, List.length_take]; simp only [Array.length_toList, hms]; omega, fun j u u' hju hju' => by
     simp only [Zb6] at hju hju'
     obtain ⟨hh1, hh2⟩ := hcell j u hju
     rw [List.getElem?_take] at hju'
     split at hju'
     ·simp only [Array.getElem?_toList, hh1] at hju'
      injection hju' with hju'; subst hju'; exact CR.of_pure hh2
     ·cases hju'⟩ (by
     intro hq u hu'
     simp only [Zb6] at hq hu'
     obtain ⟨j, hj⟩ := List.getElem?_of_mem hu'
     exact (hcell j u hj).2) (by simp)
   refine ⟨_, _, m', .inl (by simp only [execOp, ho, hx, hy, Sem.run_bind, hrun]; rfl), g1, g2, g3, _, _, _, g4, rfl, by omega, Nat.le_refl _, fun _ => ⟨rfl, fun _ => ?_, fun _ _ hv => by simp [Zb6] at *⟩⟩
   show 0 + 0 + ci.toNat * sz ≤ (madeCells z.cells (ci.toNat * i.size)).size
   rw [hms]; omega
  ·cases h
 ·cases h


def Zhx (sz : Nat) : Nat → List (Nat × Value) → Option (List Value)
  | _, [] => some []
  | k, (i, v) :: rest => if i == k && (Zhf v || Zhe v) && Znz.storC0 v && v.cells.size == sz then (Zhx sz (k + 1) rest).map fun l => v.cells.toList ++ l else none

theorem Zhy {sz : Nat} : ∀ {k : Nat} {ps : List (Nat × Value)} {l : List Value}, Zhx sz k ps = some l → l.length = ps.length * sz
 | k, [], l, h => by simp [Zhx] at h; subst h; simp
 | k, (i, v) :: rest, l, h => by
  simp only [Zhx] at h
  split at h
  ·rename_i hc
   simp only [Bool.and_eq_true, beq_iff_eq] at hc
   cases hr : Zhx sz (k + 1) rest with
   | none => simp [hr] at h
   | some l' =>
    simp only [hr, Option.map_some] at h
    injection h with h; subst h
    rw [List.length_append, Zhy hr, Array.length_toList, hc.2, List.length_cons, Nat.add_mul]; omega
  ·cases h

theorem Zpm {c : List Value} {o : Nat} {xs ys : List Value} (h : o + xs.length + ys.length ≤ c.length) : splice (splice c o xs) (o + xs.length) ys = splice c o (xs ++ ys) := by
 apply List.ext_getElem?
 intro i
 rw [Zf3 (c := splice c o xs) (by rw [Zh1 (by omega)]; omega), Zf3 (c := c) (xs := xs) (by omega), Zf3 (c := c) (xs := xs ++ ys) (by rw [List.length_append]; omega)]
 rw [List.length_append, List.getElem?_append]
 by_cases h1 : o + xs.length ≤ i ∧ i < o + xs.length + ys.length
 ·rw [if_pos h1, if_pos (by omega), if_neg (by omega)]; congr 1; omega
 ·rw [if_neg h1]
  by_cases h2 : o ≤ i ∧ i < o + xs.length
  ·rw [if_pos h2, if_pos (by omega), if_pos (by omega)]
  ·rw [if_neg h2, if_neg (by omega)]
theorem Zvd (c : List Value) (o : Nat) : splice c o [] = c := by simp [splice]
theorem Zvc {c l : List Value} (h : l.length = c.length) : splice c 0 l = l := by simp [splice, h]

theorem Zm3 {sz : Nat} : ∀ (ps : List (Nat × Value)) (k : Nat) (l cells : List Value), Zhx sz k ps = some l → (k + ps.length) * sz ≤ cells.length →
  Zk8 (fun i => some (i * sz, sz)) cells ps = some (splice cells (k * sz) l)
 | [], k, l, cells, h, hc => by
  simp [Zhx] at h; subst h
  simp [Zk8, Zvd]
 | (i, v) :: rest, k, l, cells, h, hc => by
  simp only [Zhx] at h
  split at h
  ·rename_i hcond
   simp only [Bool.and_eq_true, beq_iff_eq] at hcond
   obtain ⟨⟨⟨hi, h1⟩, h2⟩, h3⟩ := hcond
   subst hi
   cases hr : Zhx sz (i + 1) rest with
   | none => simp [hr] at h
   | some l' =>
    simp only [hr, Option.map_some] at h
    injection h with h; subst h
    simp only [List.length_cons] at hc ⊢
    have hadd : (i + (rest.length + 1)) * sz = i * sz + sz + rest.length * sz := by rw [Nat.add_mul, Nat.add_mul]; omega
    have hadd2 : (i + 1 + rest.length) * sz = i * sz + sz + rest.length * sz := by rw [Nat.add_mul, Nat.add_mul]; omega
    have hadd3 : (i + 1) * sz = i * sz + sz := by rw [Nat.add_mul]; omega
    have hvl : v.cells.toList.length = sz := by simpa using h3
    have hl' := Zhy hr
    simp only [Zk8]
    rw [if_pos (by simp only [Bool.and_eq_true, beq_iff_eq, decide_eq_true_eq]; exact ⟨⟨⟨h1, h2⟩, h3⟩, by omega⟩)]
    rw [Zm3 rest (i + 1) l' _ hr (by rw [Zh1 (by omega)]; omega)]
    congr 1
    have := Zpm (c := cells) (o := i * sz) (xs := v.cells.toList) (ys := l') (by omega)
    rw [hvl] at this
    rw [hadd3, this]
  ·cases h

def Zzx (P : Program) (σ : List Blk) (t : TypeId) (n : Nat) (ps : List (Nat × Value)) (nid : Nat) : Option (Value × Blk) :=
  match Zda P t, Zhx ((Zda P t).map (·.1) |>.getD 0) 0 ps with
  | some (sz, zc, _), some l =>
    if ps.length = n ∧ 0 < n ∧ n * sz ≤ 16777216 ∧ zc.length = sz ∧ 0 < sz ∧ zc.all Zba = true ∧ Zby σ nid = true ∧ (zc.all Zfm = true → l.all Zba = true) then
      some (.slice (some ⟨nid, 0, none⟩) n n, Zb6 (zc.all Zfm) false sz l) else none
  | _, _ => none

theorem Zx8 {o : Oper} {s : St} {t : TypeId} {n : Nat} {ps : Array (Nat × Operand)} {nid : Nat} {v : Value} {b : Blk} (ho : o.op = .buildSlice t n ps) (h : Zzx P s.heap t n (ps.toList.map fun p => (p.1, s.eval p.2)) nid = some (v, b)) : Zas P G o s v [(nid, b)] := by
  unfold Zzx at h
  split at h
  · rename_i sz zc by_ l ht hp
    rw [ht] at hp
    simp only [Option.map_some, Option.getD_some] at hp
    split at h
    · rename_i hh
      obtain ⟨hn, hn0, hmax, hzl, hsz, hzp, hfr, hpur⟩ := hh
      injection h with h; injection h with h1 h2
      subst h1; subst h2
      obtain ⟨e, i, z, hu, hi, hz, he1, he2, he3⟩ := Zdo ht
      have hll := Zhy hp
      rw [hn] at hll
      intro nt E m a w hr
      have hparts : L2 (fun p q => q.1 = p.1 ∧ VR m p.2 q.2) (ps.toList.map fun p => (p.1, s.eval p.2)) (ps.toList.map fun p => (p.1, a.eval p.2)) := by
        refine ⟨by simp, ?_⟩
        intro i x y hx hy
        simp only [List.getElem?_map, Option.map_eq_some_iff] at hx hy
        obtain ⟨p, hp1, rfl⟩ := hx
        obtain ⟨q, hq1, rfl⟩ := hy
        rw [hp1] at hq1; injection hq1 with hq1; subst hq1
        exact ⟨rfl, hr.eval p.2⟩
      have hzs : z.cells.size = sz := by rw [← hzl, ← he2]; simp
      let c0 : Array Value := (Array.range (n * i.size)).map (z.cells[· % z.cells.size]!)
      have hc0 : c0.size = n * sz := by simp [c0, he1]
      simp only [List.all_eq_true] at hzp
      have hc0p : ∀ u, u ∈ c0.toList → Zba u = true := by
        intro u hu'
        obtain ⟨j, hj⟩ := List.getElem?_of_mem hu'
        have hj2 : j < n * z.cells.size := by
          have := (List.getElem?_eq_some_iff.1 hj).1
          simp only [Array.length_toList, hc0] at this; rw [hzs]; exact this
        have hm : madeCells z.cells (n * z.cells.size) = c0 := by simp [madeCells, c0, he1, hzs]
        have h3 := Zka z.cells (by omega) n j hj2
        rw [hm] at h3
        have h4 : c0[j]? = some u := by simpa using hj
        rw [h4] at h3
        exact hzp u (by rw [← he2]; exact List.mem_of_getElem? (by simpa using h3.symm))
      have hcc : L2 (CR m) c0.toList c0.toList := (L2.refl _).mono fun x hx y hxy => by subst hxy; exact CR.of_pure (hc0p _ hx)
      have hfill := Zm3 (sz := sz) _ 0 l c0.toList hp (by rw [Nat.zero_add, hn]; simp [hc0])
      rw [Nat.zero_mul, Zvc (by rw [hll]; simp [hc0])] at hfill
      obtain ⟨r', hr1, hr2⟩ := Zki _ _ _ _ c0 l hparts hcc hfill
      obtain ⟨m', g1, g2, g3, g4⟩ := Zdi hr.heap hr.frame hfr (Zb6 (zc.all Zfm) false sz l) hsz r' e (0, 0) (by simp only [Zb6]; rw [hr2.1]; simp)
        (by simp only [Zb6]; rw [hr2.1, List.take_length]; exact hr2) (by
          intro hq u hu'
          simp only [Zb6] at hq hu'
          have := hpur hq
          simp only [List.all_eq_true] at this
          exact this u hu') (by simp)
      have hrs : r'.size = n * sz := by have := hr2.1; simp only [Array.length_toList] at this; omega
      have hlt : ¬ (n * i.size > 2 ^ 24) := by rw [he1, show (2 ^ 24 : Nat) = 16777216 from rfl]; omega
      refine ⟨.slice (some ⟨w.heap.size, 0, none⟩) n n, _, m', .inl ?_, g1, g2, g3, _, _, _, g4, rfl, Nat.le_refl _, Nat.le_refl _, fun _ => ⟨rfl, fun _ => ?_, fun _ _ _ => rfl⟩⟩
      · have hfl : Instr.fill (fun k => some (k * i.size, i.size)) c0 (ps.toList.map fun p => (p.1, a.eval p.2)) = some r' := by rw [he1]; exact hr1
        have hz0 : ¬ (n * i.size = 0) := by
          rw [he1]; intro h0
          rcases Nat.mul_eq_zero.1 h0 with h | h <;> omega
        have hps : (ps.map fun p => (p.1, a.eval p.2)).toList = ps.toList.map fun p => (p.1, a.eval p.2) := by simp
        have hrun : (Instr.buildSlice t n (ps.map fun p => (p.1, a.eval p.2))).run P w = .ok (.slice (some ⟨w.heap.size, 0, none⟩) n n) (w.alloc (.cells r' e)) := by
          simp only [Instr.buildSlice, Sem.run_bind, run_underlying hu, Result.andThen_ok, Zb4 hi]
          rw [if_neg hlt]
          simp only [Sem.run_bind, Sem.run_pure, Result.andThen_ok, if_neg hz0, zeroValue, typeInfo, run_program, hi, hz, hps]
          show Sem.run P (match Instr.fill (fun k => some (k * i.size, i.size)) c0 (ps.toList.map fun p => (p.1, a.eval p.2)) with
            | some cells => _ | _ => _) w = _
          rw [hfl]
          simp [newRow]
        simp only [execOp, ho, Sem.run_bind, hrun]
        rfl
      · show 0 + 0 + n * sz ≤ r'.size
        rw [hrs]; omega
    · cases h
  · cases h
end

end Go.Flat
end
section
/- Strings and bytes, builtins. -/
namespace Go.Flat
section
variable {P : Program} {G : Glob}


def Zr0 : Value → Option UInt8 | .int .u8 n => some (UInt8.ofNat n.toNat) | _ => none
def Zij : List Value → Option (List UInt8)
  | [] => some []
  | v :: l => (Zr0 v).bind fun b => (Zij l).map fun r => b :: r
theorem Zmy : ∀ {l : List Value} {bs : List UInt8}, Zij l = some bs → ∃ ns : List Int, l = ns.map (Value.int .u8) ∧ bs = ns.map fun n => UInt8.ofNat n.toNat
 | [], bs, h => by simp [Zij] at h; subst h; exact ⟨[], rfl, rfl⟩
 | v :: l, bs, h => by
  simp only [Zij] at h
  cases hb : Zr0 v with
  | none => simp [hb] at h
  | some b =>
   cases hl : Zij l with
   | none => simp [hb, hl] at h
   | some r =>
    simp only [hb, hl, Option.bind_some, Option.map_some] at h
    injection h with h; subst h
    obtain ⟨ns, h1, h2⟩ := Zmy hl
    cases v <;> simp [Zr0] at hb
    rename_i k n
    cases k <;> simp [Zr0] at hb
    exact ⟨n :: ns, by simp [h1], by simp [h2, hb]⟩
theorem Zoc : ∀ (ns : List Int) (s : ByteArray), ns.foldl (fun r n => r.push (UInt8.ofNat n.toNat)) s = ⟨s.data ++ (ns.map fun n => UInt8.ofNat n.toNat).toArray⟩
 | [], s => by simp
 | n :: ns, s => by
  rw [List.foldl_cons, Zoc ns]
  congr 1
  rw [ByteArray.data_push]
  apply Array.ext'
  simp

def Zho (P : Program) (e : TypeId) : Bool := match P.underlying e with | some (.int .u8) => true | _ => false
theorem Zyu {e : TypeId} (h : Zho P e = true) : P.underlying e = some (.int .u8) := by
 unfold Zho at h
 split at h
 ·assumption
 ·cases h
def Zrp (P : Program) (σ : List Blk) (src dst : TypeId) (v : Value) : Option Value :=
  match P.underlying src, P.underlying dst, v with
  | some (.slice e), some .string, .slice (some ⟨b, o, none⟩) n _ =>
    if Zho P e then
      (σ[b]?).bind fun blk => if o + n ≤ blk.cells.length then (Zij ((blk.cells.drop o).take n)).map fun bs => .string ⟨bs.toArray⟩ else none
    else none
  | some (.slice e), some .string, .slice none _ _ =>
    if Zho P e then some (.string ⟨#[]⟩) else none
  | _, _, _ => none


theorem Zx9 {o : Oper} {s : St} {src dst : TypeId} {x : Operand} {v : Value} (ho : o.op = .convert src dst x) (h : Zrp P s.heap src dst (s.eval x) = some v) : Zas P G o s v [] := by
 unfold Zrp at h
 split at h
 ·rename_i e b of n c hu1 hu2 hx
  split at h
  ·rename_i he
   have he := Zyu he
   cases hb : s.heap[b]? with
   | none => simp [hb] at h
   | some blk =>
    simp only [hb, Option.bind_some] at h
    split at h
    ·rename_i hle
     cases hba : Zij ((blk.cells.drop of).take n) with
     | none => simp [hba] at h
     | some bs =>
      simp only [hba, Option.map_some] at h
      injection h with h; subst h
      obtain ⟨ns, h1, h2⟩ := Zmy hba
      refine Zas.value fun nt E m a w hr => ⟨.string ⟨bs.toArray⟩, ?_, VR.of_pure rfl⟩
      have hxv := hr.eval x
      rw [hx] at hxv
      obtain ⟨r, a', c', hr1, hr2, hr3⟩ : ∃ r a' c', m b = some r ∧ a.eval x = .slice a' n c' ∧ Zhd r of n c a' c' := hxv
      have hnl : ns.length = n := by have := congrArg List.length h1; simp at this; omega
      have hfin : Sem.run P (Conv.bytesToString (.slice a' n c')) w = .ok (.string ⟨bs.toArray⟩) w := by
       rcases Nat.eq_zero_or_pos n with h0 | h0
       ·have hns : ns = [] := List.eq_nil_of_length_eq_zero (by omega)
        subst hns
        cases a' with
        | none => simp [Conv.bytesToString, h2]; rfl
        | some ad =>
         have := run_bytesToString (P := P) w ad n c' [] (by rw [h0]; rfl)
         rw [this, h2]; rfl
       ·have ha := hr3.addr (by have := hr3.1; have := hr3.2.1; omega)
        obtain ⟨ys, hy1, hy2, hy3⟩ := hr.heap.cellsAt hb hr1 of n hle
        rw [h1] at hy1
        have hys : ys = ns.map (Value.int .u8) := L2.eq (hy1.mono fun z hz y hzy => hzy.pure (by
         simp only [List.mem_map] at hz; obtain ⟨q, _, rfl⟩ := hz; rfl))
        rw [ha]
        have := run_bytesToString (P := P) w ⟨r.g, r.lo + of, none⟩ n c' ns (by
         have := run_loadCells_list (P := P) w ⟨r.g, r.lo + of, none⟩ ys (fun j x hx => by rw [Zdh]; exact hy3 j x hx)
         rw [hy2] at this
         rw [this, hys])
        rw [this, Zoc, h2]
        congr 3
        apply Array.ext'; simp
      simp only [execOp, ho, hr2, Sem.run_bind, run_convert_bytes_string w src dst e a' n c' hu1 he hu2, hfin]
      rfl
    ·cases h
  ·cases h
 ·rename_i e n c hu1 hu2 hx
  split at h
  ·rename_i he
   have he := Zyu he
   injection h with h; subst h
   refine Zas.pure (fun nt E m a w hr => ?_) rfl
   have hxv : a.eval x = .slice none n c := by rw [Za6 hr (by rw [hx]; rfl), hx]
   simp only [execOp, ho, hxv, Sem.run_bind, run_convert_bytes_string w src dst e none n c hu1 he hu2]
   simp [Conv.bytesToString]; rfl
  ·cases h
 ·cases h


def Zek (s : ByteArray) : List Value := s.data.toList.map fun b => .int .u8 b.toNat
def Z52 (P : Program) (σ : List Blk) (src dst : TypeId) (v : Value) (nid : Nat) : Option (Value × Blk) :=
  match P.underlying src, P.underlying dst, v with
  | some .string, some (.slice e), .string b =>
    if Zho P e && Zby σ nid then some (.slice (some ⟨nid, 0, none⟩) b.size b.size, Zb6 true false 1 (Zek b)) else none
  | _, _, _ => none
def Z53 (bs : ByteArray) (C : Nat) : Array Value := (bs.data.map fun (b : UInt8) => Value.int .u8 b.toNat) ++ Array.replicate (C - bs.size) (.int .u8 0)
theorem Zpg (s : ByteArray) : (Zek s).length = s.size := by simp [Zek]


def Zzw (P : Program) (t : TypeId) (v : Value) : Option Value :=
  match P.underlying t, v with
  | some .string, .string s => some (.int .i64 s.size)
  | some (.slice _), .slice _ n _ => some (.int .i64 n)
  | some (.array n _), _ => some (.int .i64 n)
  | _, _ => none
theorem Zx7 {o : Oper} {s : St} {t : TypeId} {x : Operand} {v : Value} (ho : o.op = .call { callee := .builtin .len, args := #[x], argTypes := #[t] }) (h : Zzw P t (s.eval x) = some v) : Zas P G o s v [] := by
 unfold Zzw at h
 split at h
 ·rename_i b hu hx
  injection h with h; subst h
  refine Zas.pure (fun nt E m a w hr => ?_) rfl
  have hxv : a.eval x = .string b := by rw [Za6 hr (by rw [hx]; rfl), hx]
  simp [execOp, ho, resolve, invoke, builtin, Builtin.len_, hxv, run_underlying hu, goInt]
 ·rename_i e ad n c hu hx
  injection h with h; subst h
  refine Zas.pure (fun nt E m a w hr => ?_) rfl
  have hxv := hr.eval x
  rw [hx] at hxv
  have : ∃ a' c', a.eval x = .slice a' n c' := by
   cases ad with
   | none => exact ⟨none, c, hxv⟩
   | some ad => obtain ⟨r, a', c', _, h2, _⟩ := hxv; exact ⟨a', c', h2⟩
  obtain ⟨a', c', hxv⟩ := this
  simp [execOp, ho, resolve, invoke, builtin, Builtin.len_, hxv, run_underlying hu, goInt]
 ·rename_i n e v' hu
  injection h with h; subst h
  refine Zas.pure (fun nt E m a w hr => ?_) rfl
  simp [execOp, ho, resolve, invoke, builtin, Builtin.len_, run_underlying hu, goInt]
 ·cases h

def Zg8 (σ : List Blk) (sz : Nat) (v : Value) : Option (Nat × List Value) :=
  match v with
  | .slice (some ⟨b, o, none⟩) n _ => (σ[b]?).bind fun blk => if o + n * sz ≤ blk.cells.length then some (n, (blk.cells.drop o).take (n * sz)) else none
  | .slice none n _ => if n = 0 then some (0, []) else none
  | .string s => if sz = 1 then some (s.size, Zek s) else none
  | _ => none

theorem Zsn (s : ByteArray) : (s.extract 0 s.size).data = s.data := by
 simp [ByteArray.extract, ByteArray.copySlice]

theorem Zo5 {nt : Nat} {E : Ent} {m : MapM} {s : St} {a : Act} {w : World} (hr : SRel G nt E m s a w) {sz k : Nat} {x : Operand} {xs : List Value} (h : Zg8 s.heap sz (s.eval x) = some (k, xs)) :
  ∃ xs', (Builtin.lenOf (a.eval x)).run P w = .ok k w ∧ (∀ W : World, (∀ a v, w.cell? a = some v → W.cell? a = some v) → (Builtin.firstCells sz k (a.eval x)).run P W = .ok xs'.toArray W) ∧ L2 (CR m) xs xs' ∧ xs.length = k * sz := by
 have hxv := hr.eval x
 unfold Zg8 at h
 split at h
 ·rename_i b o n c hx
  rw [hx] at hxv
  obtain ⟨r, a', c', hr1, hr2, hr3⟩ : ∃ r a' c', m b = some r ∧ a.eval x = .slice a' n c' ∧ Zhd r o n c a' c' := hxv
  cases hb : s.heap[b]? with
  | none => simp [hb] at h
  | some blk =>
   simp only [hb, Option.bind_some] at h
   split at h
   ·rename_i hle
    injection h with h; injection h with h1 h2
    subst h1; subst h2
    obtain ⟨ys, hy1, hy2, hy3⟩ := hr.heap.cellsAt hb hr1 o (n * sz) hle
    refine ⟨ys, by simp [hr2, Builtin.lenOf], fun W hW => ?_, hy1, by rw [hy1.1, hy2]⟩
    rw [hr2]
    exact Zfl sz n c' a' r.g (r.lo + o) ys hy2 (fun h0 => hr3.addr (by have := hr3.1; have := hr3.2.1; omega)) (fun j v hv => hW _ _ (hy3 j v hv))
   ·cases h
 ·rename_i n c hx
  split at h
  ·rename_i hn
   injection h with h; injection h with h1 h2
   subst h1; subst h2; subst hn
   rw [hx] at hxv
   have hxv : a.eval x = .slice none 0 c := hxv
   refine ⟨[], by simp [hxv, Builtin.lenOf], fun W hW => by simp [hxv, Builtin.firstCells], L2.nil, by simp⟩
  ·cases h
 ·rename_i b hx
  split at h
  ·rename_i hs
   injection h with h; injection h with h1 h2
   subst h1; subst h2; subst hs
   have hxv : a.eval x = .string b := by rw [Za6 hr (by rw [hx]; rfl), hx]
   refine ⟨Zek b, by simp [hxv, Builtin.lenOf], fun W hW => ?_, (L2.refl _).mono fun z hz y hzy => by
    subst hzy
    simp only [Zek, List.mem_map] at hz; obtain ⟨q, _, rfl⟩ := hz; exact CR.of_pure rfl, by rw [Zpg]; simp⟩
   simp only [hxv, Builtin.firstCells, Sem.run_pure]
   congr 1
   apply Array.ext'
   simp [Zek, Zsn]
  ·cases h
 ·cases h

end

end Go.Flat
end
section
/- copy, append, and what needs only numbers. -/
namespace Go.Flat
section
variable {P : Program} {G : Glob}

def mmD (P : Program) (b : Builtin) (ts : Array TypeId) (t : TypeId) (vs : List Value) : Option Value :=
  if vs.all Za2 then (match b with | .min => Z0 P (Builtin.min_ ts t vs.toArray) | .max => Z0 P (Builtin.max_ ts t vs.toArray) | _ => none).bind fun v => if Za2 v then some v else none else none
theorem Z0w {o : Oper} {s : St} {b : Builtin} {xs : Array Operand} {ts : Array TypeId} {v : Value} (ho : o.op = .call { callee := .builtin b, args := xs, argTypes := ts }) (h : mmD P b ts o.type (xs.toList.map s.eval) = some v) : Zas P G o s v [] := by
 unfold mmD at h
 split at h
 ·rename_i hp
  obtain ⟨h1, h2⟩ := Zfc h
  simp only [List.all_eq_true, List.mem_map] at hp
  have hpp : ∀ x, x ∈ xs → Za2 (s.eval x) = true := fun x hx => hp _ ⟨x, by simpa using hx, rfl⟩
  have hxs : (xs.toList.map s.eval).toArray = xs.map s.eval := by apply Array.ext'; simp
  rw [hxs] at h1
  refine Zas.pure (fun nt E m a w hr => ?_) h2
  have hargs : xs.map a.eval = xs.map s.eval := Array.map_congr_left fun x hx => Za6 hr (hpp x hx)
  cases b <;> simp only at h1 <;> try (cases h1)
  all_goals
   have := Zgn h1 w
   simp [execOp, ho, resolve, invoke, builtin, hargs, this]
 ·cases h


theorem Zyb {nt : Nat} {E : Ent} {m : MapM} {s : St} {a : Act} {w : World} (hr : SRel G nt E m s a w) {sz k : Nat} {x : Operand} {xs : List Value} (h : Zg8 s.heap sz (s.eval x) = some (k, xs)) (n : Nat) (hn : n ≤ k) :
  ∃ xs', (Builtin.lenOf (a.eval x)).run P w = .ok k w ∧ (Builtin.firstCells sz n (a.eval x)).run P w = .ok xs'.toArray w ∧ L2 (CR m) (xs.take (n * sz)) xs' := by
 have hxv := hr.eval x
 unfold Zg8 at h
 split at h
 ·rename_i b o n' c hx
  rw [hx] at hxv
  obtain ⟨r, a', c', hr1, hr2, hr3⟩ : ∃ r a' c', m b = some r ∧ a.eval x = .slice a' n' c' ∧ Zhd r o n' c a' c' := hxv
  cases hb : s.heap[b]? with
  | none => simp [hb] at h
  | some blk =>
   simp only [hb, Option.bind_some] at h
   split at h
   ·rename_i hle
    injection h with h; injection h with h1 h2
    subst h1; subst h2
    have hmul : n * sz ≤ n' * sz := Nat.mul_le_mul_right _ hn
    obtain ⟨ys, hy1, hy2, hy3⟩ := hr.heap.cellsAt hb hr1 o (n * sz) (by omega)
    refine ⟨ys, by simp [hr2, Builtin.lenOf], ?_, by rw [List.take_take, Nat.min_eq_left hmul]; exact hy1⟩
    rw [hr2]
    rcases Nat.eq_zero_or_pos n with h0 | h0
    ·subst h0
     have : ys = [] := List.eq_nil_of_length_eq_zero (by simpa using hy2)
     subst this
     cases a' with
     | none => simp [Builtin.firstCells]
     | some ad => simp [Builtin.firstCells, loadCells, loadCellsFrom]
    ·have ha := hr3.addr (by have := hr3.1; have := hr3.2.1; omega)
     rw [ha]
     exact run_firstCells_some w sz n _ n' c' ys hy2 (fun j v hv => by rw [Zdh]; exact hy3 j v hv)
   ·cases h
 ·rename_i n' c hx
  split at h
  ·rename_i hn'
   injection h with h; injection h with h1 h2
   subst h1; subst h2; subst hn'
   rw [hx] at hxv
   have hxv : a.eval x = .slice none 0 c := hxv
   exact ⟨[], by simp [hxv, Builtin.lenOf], by simp [hxv, Builtin.firstCells], by simpa using L2.nil⟩
  ·cases h
 ·rename_i b hx
  split at h
  ·rename_i hs
   injection h with h; injection h with h1 h2
   subst h1; subst h2; subst hs
   have hxv : a.eval x = .string b := by rw [Za6 hr (by rw [hx]; rfl), hx]
   have hL : L2 (CR m) ((Zek b).take n) ((Zek b).take n) := by
    refine (L2.refl _).mono fun z hz y hzy => ?_
    subst hzy
    have hz := List.mem_of_mem_take hz
    simp only [Zek, List.mem_map] at hz
    obtain ⟨q, _, rfl⟩ := hz
    exact CR.of_pure rfl
   refine ⟨(Zek b).take n, by simp [hxv, Builtin.lenOf], ?_, by rw [Nat.mul_one]; exact hL⟩
   simp only [hxv, Builtin.firstCells, Sem.run_pure]
   congr 1
   apply Array.ext'
   simp [Zek, ByteArray.extract, ByteArray.copySlice, List.map_take]
  ·cases h
 ·cases h

def Zsc (P : Program) (σ : List Blk) (t : TypeId) (v x : Value) : Option (Value × Nat × Blk) :=
  match Zda P t, v with
  | some (sz, _, _), .slice (some ⟨b, o, none⟩) dn _ => (Zg8 σ sz x).bind fun p => (σ[b]?).bind fun blk =>
      if blk.wr && Zdr blk.pur (p.2.take (min p.1 dn * sz)) && decide (o + dn * sz ≤ blk.cells.length) && decide ((p.2.take (min p.1 dn * sz)).length = min p.1 dn * sz) then
        some (.int .i64 (min p.1 dn : Nat), b, { blk with cells := splice blk.cells o (p.2.take (min p.1 dn * sz)) }) else none
  | _, _ => none
theorem L2.ones {m : MapM} {xs ys : List Value} (hl : L2 (CR m) xs ys) (hx : ∀ x, x ∈ xs → Zi1 x = true) : ∀ y, y ∈ ys → y.oneCell' = true := by
 intro y hy
 obtain ⟨i, hi⟩ := List.getElem?_of_mem hy
 have hlt : i < ys.length := (List.getElem?_eq_some_iff.1 hi).1
 have hlt' : i < xs.length := hl.1 ▸ hlt
 exact (hl.2 i _ y (List.getElem?_eq_getElem hlt') hi).oneCell (hx _ (List.getElem_mem hlt'))

theorem Zu5 {o : Oper} {s : St} {t u : TypeId} {x y : Operand} {v : Value} {b : Nat} {blk' : Blk} (ho : o.op = .call { callee := .builtin .copy, args := #[x, y], argTypes := #[t, u] }) (h : Zsc P s.heap t (s.eval x) (s.eval y) = some (v, b, blk')) : Zas P G o s v [(b, blk')] := by
  unfold Zsc at h
  split at h
  · rename_i sz zc by_ b' of dn c ht hx
    cases hsrc : Zg8 s.heap sz (s.eval y) with
    | none => simp [hsrc] at h
    | some p =>
      obtain ⟨k, xs⟩ := p
      cases hb : s.heap[b']? with
      | none => simp [hsrc, hb] at h
      | some blk =>
        simp only [hsrc, hb, Option.bind_some] at h
        split at h
        · rename_i hc
          injection h with h; injection h with h1 h2; injection h2 with h2 h3
          subst h1; subst h2; subst h3
          simp only [Bool.and_eq_true, decide_eq_true_eq] at hc
          obtain ⟨⟨⟨hw, hok⟩, hle⟩, hlen⟩ := hc
          obtain ⟨e, i, z, hu, hi, hz, he1, he2, he3⟩ := Zdo ht
          intro nt E m a w hr
          have hxv := hr.eval x
          rw [hx] at hxv
          obtain ⟨r, a', c', hr1, hr2, hr3⟩ : ∃ r a' c', m b' = some r ∧ a.eval x = .slice a' dn c' ∧ Zhd r of dn c a' c' := hxv
          obtain ⟨xs', hs1, hs2, hs3⟩ := Zyb (P := P) hr hsrc (min k dn) (Nat.min_le_left _ _)
          obtain ⟨_, hrw, hrf, hrl, hrs, hrm⟩ := hr.heap.at_ hb hr1
          obtain ⟨hown1, hown2⟩ := hr.heap.own b' r hr1 (by rw [hrw]; exact hw)
          have hmul : min k dn * sz ≤ dn * sz := Nat.mul_le_mul_right _ (Nat.min_le_right _ _)
          have hxl : xs'.length = min k dn * sz := by rw [← hs3.1]; exact hlen
          have hone := hs3.ones (Zir hok)
          have hblt : b' < s.heap.length := (List.getElem?_eq_some_iff.1 hb).1
          have hst : ∃ w', (match a' with | some ad => (storeCells ad xs').run P w | none => .ok () w) = .ok () w' ∧ Wrote w w' r.g (r.lo + of) xs' := by
            rcases Nat.eq_zero_or_pos dn with h0 | h0
            · have : xs' = [] := List.eq_nil_of_length_eq_zero (by rw [hxl, h0]; simp)
              subst this
              exact ⟨w, by cases a' <;> rfl, .refl _ _ _⟩
            · have ha := hr3.addr (by have := hr3.1; have := hr3.2.1; omega)
              rw [ha]
              obtain ⟨w', hw1, hw2⟩ := Zeh (P := P) r.g (r.lo + of) xs' 0 w hone (fun j hj1 hj2 => hown2 j (by omega) (by omega))
              exact ⟨w', hw1, by simpa using hw2⟩
          obtain ⟨w', hw1, hw2⟩ := hst
          refine ⟨.int .i64 (min k dn : Nat), w', m, .inl ?_, ?_, ?_, fun _ _ h => h, VR.of_pure rfl⟩
          · have hrun : (Builtin.copy_ #[t, u] o.type #[.slice a' dn c', a.eval y]).run P w = .ok (.int .i64 (min k dn : Nat)) w' := by
              cases a' with
              | none =>
                simp only at hw1
                injection hw1 with _ hw1
                subst hw1
                have hs2' : Sem.run P (Builtin.firstCells i.size (Nat.min k dn) (a.eval y)) w = .ok xs'.toArray w := by rw [he1]; exact hs2
                simp [Builtin.copy_, run_underlying hu, Zb4 hi, hs1, hs2', goInt]
              | some ad =>
                simp only at hw1
                have hs2' : Sem.run P (Builtin.firstCells i.size (Nat.min k dn) (a.eval y)) w = .ok xs'.toArray w := by rw [he1]; exact hs2
                simp [Builtin.copy_, run_underlying hu, Zb4 hi, hs1, hs2', goInt, hw1]
            simp [execOp, ho, resolve, invoke, builtin, hr2, hrun]
          · simp only [Zd0, Zj0 hblt]
            exact hr.heap.splice hb hr1 hw (by rw [hlen]; omega) hs3 hw2 (fun hp => by
              unfold Zdr at hok; rw [if_pos hp] at hok; simpa only [List.all_eq_true] using hok)
          · have := hr.frame.wrote hr1 (by rw [hrw]; exact hw) hw2 (by omega) (by omega) hown2 r (.inl rfl)
            rwa [Zl3 hr1] at this
        · cases h
  · cases h


theorem HRel.emptyRow {G : Glob} {E : Ent} {m : MapM} {σ : List Blk} {w : World} (h : HRel G m σ w) (hF : Frame E m w) {b : Nat} (hb : Zby σ b = true) (pur : Bool) (sz : Nat) (hsz : 0 < sz) :
    ∃ m', HRel G m' (Zeo σ b (Zb6 pur false sz [])) w ∧ Frame E m' w ∧ (∀ b r, m b = some r → m' b = some r) ∧ m' b = some ⟨w.heap.size, 0, 0, 0, sz, true, false, true⟩ := by
  have hmono : m b = none → ∀ (r2 : Reg) b' r, m b' = some r → Ze3 m b r2 b' = some r := by
    intro hm r2 b' r hb'
    rw [Zcm]
    · exact hb'
    · rintro rfl; rw [hm] at hb'; cases hb'
  have key : ∀ (τ : List Blk) (x : Blk), HRel G m τ w → τ[b]? = some x → m b = none → HRel G (Ze3 m b ⟨w.heap.size, 0, 0, 0, sz, true, false, true⟩) (τ.set b (Zb6 pur false sz [])) w := by
    intro τ x hτ hx hn
    refine hτ.replace hx _ (Zb6 pur false sz []) ⟨hsz, rfl, rfl, rfl, rfl, rfl⟩ (Nat.le_refl _) (fun _ _ _ _ _ _ _ => ⟨rfl, rfl⟩) (fun _ _ _ _ h => h) (by intro i v hi; simp [Zb6] at hi) (by intro _ v hv; simp [Zb6] at hv)
      (fun _ => ⟨Nat.le_refl _, fun j h1 h2 => by simp only at h1 h2; omega⟩) (fun _ _ _ _ _ _ j h1 h2 => by simp only [Reg.ext] at h1 h2; simp at h2) (fun _ j h1 h2 => by simp only at h1 h2; omega) (fun i y v v' _ _ _ hc => hc.mono (hmono hn _)) (fun g c t _ hg => ⟨c, hg⟩) (fun _ _ hl => by simp only at hl; omega)
  have hfr : m b = none → Frame E (Ze3 m b ⟨w.heap.size, 0, 0, 0, sz, true, false, true⟩) w := fun hn =>
    ⟨hF.os, hF.tape, hF.output, hF.size, hF.block, fun i r hr hw hlt => by
      by_cases hi : i = b
      · subst hi; rw [Zbv] at hr; injection hr with hr; subst hr; simp only at hlt; omega
      · rw [Zcm _ _ hi] at hr; exact hF.reg i r hr hw hlt, fun i r hr hk => hmono hn _ _ _ (hF.keep i r hr hk)⟩
  by_cases he : b = σ.length
  · subst he
    have hn : m σ.length = none := h.dom (Nat.le_refl _)
    refine ⟨_, ?_, hfr hn, hmono hn _, Zbv _ _ _⟩
    have := key (σ ++ [Flat.hole]) Flat.hole (h.reserve Flat.hole rfl rfl) (by simp) hn
    unfold Zeo
    rw [if_pos rfl]
    simpa using this
  · unfold Zby at hb
    simp only [Bool.or_eq_true, beq_iff_eq, he, false_or] at hb
    split at hb
    · rename_i x hx
      have hn : m b = none := h.hole hx (by simpa using hb)
      refine ⟨_, ?_, hfr hn, hmono hn _, Zbv _ _ _⟩
      unfold Zeo
      rw [if_neg he]
      exact key σ x h hx hn
    · cases hb

def Znt (P : Program) (σ : List Blk) (t : TypeId) (v x : Value) : Option (Value × Nat × Blk) :=
  match Zda P t, v with
  | some (sz, zc, by_), .slice (some ⟨b, o, none⟩) n _ => (Zg8 σ sz x).bind fun p => (σ[b]?).bind fun blk =>
      if blk.wr && !blk.fix && blk.mv && blk.sz == sz && zc.length == sz && Zdr blk.pur p.2 && decide (o + n * sz ≤ blk.cells.length) && decide (0 < by_) && decide ((n + p.1) * by_ ≤ 140737488355328) then
        some (.slice (some ⟨b, 0, none⟩) (n + p.1) (n + p.1), b, { blk with cells := (((Zbz (· != b) blk).cells.drop o).take (n * sz)) ++ (if blk.pur then p.2 else p.2.map (killC (· != b))) }) else none
  | _, _ => none

def Z1d (P : Program) (G : Glob) (o : Oper) (s s2 : St) : Prop :=
  ∀ nt E m a w, Zbb nt o.dst = true → SRel G nt E m s a w → ∃ v' w' m', ((execOp a.eval o).run P w = .ok (.value v') w' ∨ ((execOp a.eval o).run P w = .ok .skip w' ∧ v' = undef)) ∧ SRel G nt E m' s2 (a.put o.dst v') w'

theorem Zas.opOK {o : Oper} {s : St} {v : Value} {sets : List (Nat × Blk)} {foot : List Nat} (h : Zas P G o s v sets) : Z1d P G o s (Delta.apply { val := v, sets := sets, foot := foot } o.dst s) := by
 intro nt E m a w hd hr
 obtain ⟨v', w', m', h1, h2, h3, h4, h5⟩ := h nt E m a w hr
 exact ⟨v', w', m', h1, hr.after h2 h3 h4 hd h5⟩

theorem Zxr {o : Oper} {s : St} {t u : TypeId} {x y : Operand} {v : Value} {b : Nat} {blk' : Blk} {d : TypeDesc} {foot : List Nat} (ho : o.op = .call { callee := .builtin .append, args := #[x, y], argTypes := #[t, u] })
    (hu : P.underlying u = some d) (hd : (∃ e2, d = .slice e2) ∨ d = .string) (h : Znt P s.heap t (s.eval x) (s.eval y) = some (v, b, blk')) : Z1d P G o s (Delta.apply { val := v, sets := [(b, blk')], kill := some b, foot := foot } o.dst s) := by
  unfold Znt at h
  split at h
  · rename_i sz zc by_ b' of n c ht hx
    cases hsrc : Zg8 s.heap sz (s.eval y) with
    | none => simp [hsrc] at h
    | some p =>
      obtain ⟨k, xs⟩ := p
      cases hb : s.heap[b']? with
      | none => simp [hsrc, hb] at h
      | some blk =>
        simp only [hsrc, hb, Option.bind_some] at h
        split at h
        · rename_i hc
          injection h with h; injection h with h1 h2; injection h2 with h2 h3
          subst h1; subst h2; subst h3
          simp only [Bool.and_eq_true, beq_iff_eq, decide_eq_true_eq, Bool.not_eq_true'] at hc
          obtain ⟨⟨⟨⟨⟨⟨⟨⟨hw, hfx⟩, hmv⟩, hbs⟩, hzl⟩, hok⟩, hle⟩, hby⟩, hbound⟩ := hc
          obtain ⟨e, i, z, hut, hi, hz, he1, he2, he3⟩ := Zdo ht
          intro nt E m a w hdst hr
          have hxv := hr.eval x
          rw [hx] at hxv
          obtain ⟨r, a', c', hr1, hr2, hr3⟩ : ∃ r a' c', m b' = some r ∧ a.eval x = .slice a' n c' ∧ Zhd r of n c a' c' := hxv
          obtain ⟨xs', hs1, hs2, hs3, hs4⟩ := Zo5 (P := P) hr hsrc
          have hk := hr.heap.kill (· != b')
          have hnam := hr.heap.named_kill (· != b')
          have hkb : (s.heap.map (Zbz (· != b')))[b']? = some (Zbz (· != b') blk) := by simp [hb]
          have hflag : (Zbz (· != b') blk).wr = blk.wr ∧ (Zbz (· != b') blk).fix = blk.fix ∧ (Zbz (· != b') blk).sz = blk.sz ∧ (Zbz (· != b') blk).pur = blk.pur ∧ (Zbz (· != b') blk).mv = blk.mv := by unfold Zbz; split <;> exact ⟨rfl, rfl, rfl, rfl, rfl⟩
          have hxs2 : L2 (CR m) (if blk.pur then xs else xs.map (killC (· != b'))) xs' := by
            split
            · exact hs3
            · exact hs3.map_left fun x _ y hxy => hxy.killC _
          obtain ⟨v', w', m', g1, g2, g3, g4, g5⟩ := hk.append (P := P) (E := E) hr.frame hkb hr1 (by rw [hflag.1]; exact hw) (by rw [hflag.2.1]; exact hfx) (by rw [hflag.2.2.2.2]; exact hmv) hr3 (by rw [Zlc, hflag.2.2.1, hbs]; exact hle)
            t u o.type e i z hut d hu hd hi hz (by rw [hflag.2.2.1, hbs]; exact he1) (by rw [hflag.2.2.1, hbs, ← hzl, ← he2]; simp) (by rw [he3]; exact hby)
            (a.eval y) k (if blk.pur then xs else xs.map (killC (· != b'))) xs' hs1 (by rw [he1]; exact hs2) (by rw [hflag.2.2.1, hbs, ← hs4]; split <;> simp) hxs2 (hs3.ones (Zir hok)) (fun hp q hq => by
              rw [hflag.2.2.2.1] at hp
              rw [if_pos hp] at hq
              unfold Zdr at hok; rw [if_pos hp] at hok; simp only [List.all_eq_true] at hok; exact hok q hq) hnam (fun q hq => by
              split at hq
              · rename_i hp
                unfold Zdr at hok; rw [if_pos hp] at hok; simp only [List.all_eq_true] at hok; exact Zm2 (hok q hq)
              · simp only [List.mem_map] at hq
                obtain ⟨q', _, rfl⟩ := hq; exact Zm0 _ _) (by rw [he3]; exact hbound)
          refine ⟨v', w', m', .inl (by simp [execOp, ho, resolve, invoke, builtin, hr2, g1]), ?_⟩
          have hs0 := hr.kill (· != b')
          have hset : (s.heap.map (Zbz (· != b'))).set b' { Zbz (· != b') blk with cells := ((Zbz (· != b') blk).cells.drop of).take (n * (Zbz (· != b') blk).sz) ++ (if blk.pur then xs else xs.map (killC (· != b'))) } =
              Zd0 (s.kill (· != b')).heap [(b', { blk with cells := ((Zbz (· != b') blk).cells.drop of).take (n * sz) ++ (if blk.pur then xs else xs.map (killC (· != b'))) })] := by
            have hblt : b' < s.heap.length := (List.getElem?_eq_some_iff.1 hb).1
            simp only [Zd0, St.kill]
            rw [Zj0 (by simpa using hblt), hflag.2.2.1, hbs]
            congr 1
            unfold Zbz; split <;> simp_all
          rw [hset] at g2
          refine SRel.put (d := o.dst) ?_ hdst (Zns g4 rfl)
          exact ⟨hr.size, fun j => (hs0.tmps j).congr (p := (· != b')) (fun q r' hq hq' => by rw [g5 q (by simpa using hq)]; exact hq') (Zgd _ _), hr.defers, g2, g3⟩
        · cases h
  · cases h

def Zym (P : Program) (σ : List Blk) (t : TypeId) (v x : Value) (nid : Nat) : Option (Value × Blk) :=
  match Zda P t, v with
  | some (sz, zc, by_), .slice none n c => (Zg8 σ sz x).bind fun p =>
    if n = 0 ∧ c = 0 ∧ zc.length = sz ∧ Zdr (zc.all Zfm) p.2 = true ∧ 0 < sz ∧ 0 < by_ ∧ p.1 * by_ ≤ 140737488355328 ∧ Zby σ nid = true then
      some (.slice (some ⟨nid, 0, none⟩) p.1 p.1, Zb6 (zc.all Zfm) false sz p.2) else none
  | _, _ => none

theorem Zu1 {o : Oper} {s : St} {t u : TypeId} {x y : Operand} {v : Value} {nid : Nat} {b : Blk} {d : TypeDesc} (ho : o.op = .call { callee := .builtin .append, args := #[x, y], argTypes := #[t, u] })
  (hu : P.underlying u = some d) (hd : (∃ e2, d = .slice e2) ∨ d = .string) (h : Zym P s.heap t (s.eval x) (s.eval y) nid = some (v, b)) : Zas P G o s v [(nid, b)] := by
 unfold Zym at h
 split at h
 ·rename_i sz zc by_ n c ht hx
  cases hsrc : Zg8 s.heap sz (s.eval y) with
  | none => simp [hsrc] at h
  | some p =>
   obtain ⟨k, xs⟩ := p
   simp only [hsrc, Option.bind_some] at h
   split at h
   ·rename_i hh
    obtain ⟨rfl, rfl, hzl, hok, hsz, hby, hbound, hfr⟩ := hh
    injection h with h; injection h with h1 h2
    subst h1; subst h2
    obtain ⟨e, i, z, hut, hi, hz, he1, he2, he3⟩ := Zdo ht
    intro nt E m a w hr
    have hxv : a.eval x = .slice none 0 0 := by rw [Za6 hr (by rw [hx]; rfl), hx]
    obtain ⟨xs', hs1, hs2, hs3, hs4⟩ := Zo5 (P := P) hr hsrc
    rcases Nat.eq_zero_or_pos k with h0 | h0
    ·subst h0
     have hx0 : xs = [] := List.eq_nil_of_length_eq_zero (by simpa using hs4)
     subst hx0
     have hx0' : xs' = [] := List.eq_nil_of_length_eq_zero (by rw [← hs3.1]; rfl)
     subst hx0'
     obtain ⟨m', g1, g2, g3, g4⟩ := HRel.emptyRow hr.heap hr.frame hfr (zc.all Zfm) sz hsz
     have hrun := Zi0 (P := P) w t u o.type e i hut d hu hd hi none 0 0 (a.eval y) 0 [] hs1 (by rw [he1]; exact hs2 w fun _ _ hh => hh) (Nat.le_refl _)
     refine ⟨.slice none 0 0, w, m', .inl (by simp only [Nat.add_zero, Result.andThen_ok] at hrun; simp [execOp, ho, resolve, invoke, builtin, hxv, hrun]), g1, g2, g3, _, _, _, g4, rfl, Nat.le_refl _, Nat.le_refl _, fun h => by omega⟩
    ·have hrun := Zic (P := P) w t u o.type e i z hut d hu hd hi hz none 0 0 (a.eval y) k [] xs' hs1 (by rw [he1]; exact hs2 w.drew fun _ _ hh => hh) (run_firstCells_none _ _ _ _ _) (by omega) (by rw [he3, Nat.zero_add]; exact hbound) (by rw [he3]; exact hby)
     simp only [Nat.zero_add, List.nil_append] at hrun
     have hcap := grownCap_ge w k 0 e
     generalize hC : grownCap w k 0 e = C at hrun hcap
     have hzs : z.cells.size = sz := by rw [← hzl, ← he2]; simp
     have hxl' : xs'.length = k * sz := by rw [← hs3.1]; exact hs4
     have hcss : (xs'.toArray ++ Builtin.zeroCells z.cells (C - k)).size = C * sz := by
      simp only [Array.size_append, size_zeroCells, List.size_toArray, hxl', hzs]
      rw [← Nat.add_mul]; congr 1; omega
     obtain ⟨m', g1, g2, g3, g4⟩ := Zdi hr.heap.drew hr.frame.drew hfr (Zb6 (zc.all Zfm) false sz xs) hsz (xs'.toArray ++ Builtin.zeroCells z.cells (C - k)) e (0, 0)
      (by simp only [Zb6]; rw [hcss, hs4]; exact Nat.mul_le_mul_right _ hcap)
      (by simp only [Zb6]; rw [hs3.1]; simp; exact hs3) (by
       intro hq u' hu'
       simp only [Zb6] at hq hu'
       unfold Zdr at hok; rw [if_pos hq] at hok; simp only [List.all_eq_true] at hok; exact hok u' hu') (by simp)
     refine ⟨_, _, m', .inl (by simp [execOp, ho, resolve, invoke, builtin, hxv, hrun]), g1, g2, g3, _, _, _, g4, rfl, Nat.le_refl _, hcap, fun _ => ⟨rfl, fun _ => ?_, fun _ h1 _ => by simp [Zb6] at h1⟩⟩
     show 0 + 0 + C * sz ≤ (xs'.toArray ++ Builtin.zeroCells z.cells (C - k)).size
     rw [hcss]; omega
   ·cases h
 ·cases h
end

end Go.Flat
end
section
/- Regions: one operation after the other; and those that draw their order. -/
namespace Go.Flat
section
variable {P : Program} {G : Glob}

def Zm9 (P : Program) (G : Glob) (nt : Nat) (ops : Array Oper) (o : Oper) (s s2 : St) : Prop :=
  ∀ E m a w, SRel G nt E m s a w → ∀ (K : Act → World → Prop) (Q : Exit → Act → World → Prop), (∀ m' a' w', SRel G nt E m' s2 a' w' → K a' w') →
    if Region.wanted o (yielded ops a.tmps) = true then o.wp P a w K Q else K (a.put o.dst undef) w

def Zc5 (ops : Array Oper) (o : Oper) : Option (Option Tmp × Bool) := o.guard.map fun p => ((ops[p.1]?).bind (·.dst), p.2)
def Zc3 (nt : Nat) (s : St) : Option (Option Tmp × Bool) → Option Bool
  | none => some true
  | some (none, _) => some false
  | some (some t, want) => if t < nt then (match s.tmps t with | .bool b => some (b == want) | .tuple _ => some false | _ => none) else some false

theorem Zgo {nt : Nat} {ops : Array Oper} {o : Oper} {s : St} {b : Bool} (h : Zc3 nt s (Zc5 ops o) = some b) {E : Ent} {m : MapM} {a : Act} {w : World} (hr : SRel G nt E m s a w) : Region.wanted o (yielded ops a.tmps) = b := by
 unfold Zc5 at h
 unfold Region.wanted
 cases hg : o.guard with
 | none => simp [hg, Zc3] at h; simp [h]
 | some p =>
  obtain ⟨j, want⟩ := p
  simp only [hg, Option.map_some] at h
  simp only [yielded]
  cases ht : (ops[j]?).bind (·.dst) with
  | none =>
   rw [ht] at h
   simp only [Zc3, Option.some.injEq] at h
   subst h
   simp
  | some t =>
   rw [ht] at h
   simp only [Zc3] at h
   simp only [Option.bind_some]
   split at h
   ·rename_i hlt
    have htm := hr.tmps t
    have hsz : t < a.tmps.size := by rw [hr.size]; exact hlt
    simp only [Array.getD_eq_getD_getElem?, Array.getElem?_eq_getElem hsz, Option.getD_some] at htm
    rw [Array.getElem?_eq_getElem hsz]
    split at h
    ·rename_i b' hb
     injection h with h
     rw [hb] at htm
     have htm : a.tmps[t] = .bool b' := htm
     rw [htm, ← h]
     cases b' <;> cases want <;> rfl
    ·rename_i vs hb
     injection h with h
     rw [hb] at htm
     obtain ⟨vs', htm, _⟩ := htm
     rw [htm, ← h]
     simp
    ·cases h
   ·rename_i hge
    injection h with h; subst h
    have hsz : ¬ t < a.tmps.size := by rw [hr.size]; exact hge
    rw [Array.getElem?_eq_none (Nat.le_of_not_lt hsz)]
    simp

theorem Zm9.run {nt : Nat} {ops : Array Oper} {o : Oper} {s s2 : St} (hg : Zc3 nt s (Zc5 ops o) = some true) (hd : Zbb nt o.dst = true) (h : Z1d P G o s s2) : Zm9 P G nt ops o s s2 := by
 intro E m a w hr K Q hK
 rw [Zgo hg hr, if_pos rfl]
 obtain ⟨v', w', m', h1, h2⟩ := h nt E m a w hd hr
 unfold Oper.wp
 rcases h1 with h1 | ⟨h1, rfl⟩
 ·rw [h1]; exact hK _ _ _ h2
 ·rw [h1]; exact hK _ _ _ h2

theorem Zm9.skip {nt : Nat} {ops : Array Oper} {o : Oper} {s : St} (hg : Zc3 nt s (Zc5 ops o) = some false) (hd : Zbb nt o.dst = true) : Zm9 P G nt ops o s (s.put o.dst undef) := by
 intro E m a w hr K Q hK
 rw [Zgo hg hr]
 exact hK _ _ _ (hr.put hd VR.undef)

def Zgb (P : Program) (G : Glob) (nt : Nat) (ops : Array Oper) (K : St → Prop) : List Oper → St → Prop
  | [], s => K s
  | o :: l, s => ∃ s2, Zm9 P G nt ops o s s2 ∧ Zgb P G nt ops K l s2

theorem Zgb.sound {nt : Nat} {ops : Array Oper} {K : St → Prop} {Q : Exit → Act → World → Prop} {E : Ent} (hQ : ∀ s m a w, K s → SRel G nt E m s a w → Q .normal a w) :
  ∀ (l : List Oper) (s : St), Zgb P G nt ops K l s → ∀ m a w, SRel G nt E m s a w → wpList P ops Q l a w
 | [], s, h, m, a, w, hr => hQ s m a w h hr
 | o :: l, s, h, m, a, w, hr => by
  obtain ⟨s2, h1, h2⟩ := h
  have := h1 E m a w hr (wpList P ops Q l) Q (fun m' a' w' hr' => Zgb.sound hQ l s2 h2 m' a' w' hr')
  unfold wpList
  split
  ·rename_i hw; rw [if_pos hw] at this; exact .inl this
  ·rename_i hw; rw [if_neg hw] at this; exact this


structure Agree (ops : Array Oper) (o : Oper) (foot : List Nat) (s s' : St) : Prop where
  tmps : ∀ t, t ∈ o.looksAt ops → s'.tmps t = s.tmps t
  heap : ∀ b, b ∈ foot → s'.heap[b]? = s.heap[b]?
  len : s'.heap.length = s.heap.length

def Zae (P : Program) (G : Glob) (nt : Nat) (ops : Array Oper) (o : Oper) (s : St) (δ : Delta) : Prop := ∀ s', Agree ops o δ.foot s s' → Zm9 P G nt ops o s' (δ.apply o.dst s')

def Zmb (δ : Delta) (b : Nat) (x : Blk) : Blk := δ.sets.foldl (fun x p => if p.1 = b then p.2 else x) (match δ.kill with | none => x | some k => Zbz (· != k) x)
def Zpn (δ : Delta) (d : Option Tmp) (t : Tmp) (v : Value) : Value := if d = some t then δ.val else match δ.kill with | none => v | some k => killV (· != k) v

theorem Z0c {σ : List Blk} {b : Nat} {x : Blk} (hb : b < σ.length) (i : Nat) : (Zeo σ b x)[i]? = (σ[i]?).map fun y => if b = i then x else y := by
 rw [Zj0 hb, List.getElem?_set]
 by_cases h : b = i
 ·subst h; simp [hb]
 ·simp [h]
theorem Zgy : ∀ (l : List (Nat × Blk)) (σ : List Blk), (∀ p, p ∈ l → p.1 < σ.length) → ∀ i, (Zd0 σ l)[i]? = (σ[i]?).map fun y => l.foldl (fun x p => if p.1 = i then p.2 else x) y
 | [], σ, _, i => by simp [Zd0]
 | (b, x) :: l, σ, h, i => by
  have hb : b < σ.length := h (b, x) (by simp)
  have hl : (Zeo σ b x).length = σ.length := by rw [Zj0 hb]; simp
  simp only [Zd0]
  rw [Zgy l _ (fun p hp => by rw [hl]; exact h p (by simp [hp])) i, Z0c hb]
  cases σ[i]? with
  | none => rfl
  | some y => simp [List.foldl_cons]
theorem Zgq : ∀ (l : List (Nat × Blk)) (σ : List Blk), (∀ p, p ∈ l → p.1 < σ.length) → (Zd0 σ l).length = σ.length
 | [], σ, _ => rfl
 | (b, x) :: l, σ, h => by
  have hb : b < σ.length := h (b, x) (by simp)
  have hl : (Zeo σ b x).length = σ.length := by rw [Zj0 hb]; simp
  simp only [Zd0]
  rw [Zgq l _ (fun p hp => by rw [hl]; exact h p (by simp [hp])), hl]

def Delta.inside (δ : Delta) (n : Nat) : Bool := δ.sets.all fun p => decide (p.1 < n)
theorem Zbs (δ : Delta) (d : Option Tmp) (s : St) (t : Tmp) : (δ.apply d s).tmps t = Zpn δ d t (s.tmps t) := by
  unfold Delta.apply Zpn
  cases d with
  | none => cases δ.kill <;> simp [St.put, St.kill]
  | some d =>
    cases δ.kill <;> simp only [St.put, upd, St.kill] <;> by_cases h : t = d
    all_goals first | (subst h; simp; done) | (rw [if_neg h, if_neg (fun e => h (by injection e with e; exact e.symm))])
theorem Zb1 (δ : Delta) (d : Option Tmp) (s : St) (hi : δ.inside s.heap.length = true) (b : Nat) : (δ.apply d s).heap[b]? = (s.heap[b]?).map (Zmb δ b) := by
  simp only [Delta.inside, List.all_eq_true, decide_eq_true_eq] at hi
  have hput : ∀ (s : St) v, (s.put d v).heap = s.heap := fun s v => by cases d <;> rfl
  unfold Delta.apply Zmb
  cases hk : δ.kill with
  | none =>
    simp only [hput]
    rw [Zgy _ _ hi]
  | some k =>
    simp only [hput, St.kill]
    rw [Zgy _ _ (by simpa using hi)]
    simp only [List.getElem?_map]
    cases s.heap[b]? <;> rfl
theorem Zay (δ : Delta) (d : Option Tmp) (s : St) (hi : δ.inside s.heap.length = true) : (δ.apply d s).heap.length = s.heap.length := by
  simp only [Delta.inside, List.all_eq_true, decide_eq_true_eq] at hi
  have hput : ∀ (s : St) v, (s.put d v).heap = s.heap := fun s v => by cases d <;> rfl
  unfold Delta.apply
  cases hk : δ.kill with
  | none => simp only [hput]; exact Zgq _ _ hi
  | some k => simp only [hput, St.kill]; rw [Zgq _ _ (by simpa using hi)]; simp

theorem Zcj {b : Nat} : ∀ (l : List (Nat × Blk)) (x : Blk), (∀ p, p ∈ l → p.1 ≠ b) → l.foldl (fun x p => if p.1 = b then p.2 else x) x = x
 | [], x, _ => rfl
 | p :: l, x, h => by
  rw [List.foldl_cons, if_neg (h p (by simp))]
  exact Zcj l x fun q hq => h q (by simp [hq])

def Zh7 (ops : Array Oper) (o : Oper) (δ : Delta) (o' : Oper) (δ' : Delta) : Bool :=
  δ.kill.isNone && δ'.kill.isNone && o.apart ops o' && (δ.sets.all fun p => !δ'.foot.contains p.1 && δ'.sets.all fun q => q.1 != p.1) && (δ'.sets.all fun p => !δ.foot.contains p.1)

theorem St.ext' {s s' : St} (h1 : ∀ t, s.tmps t = s'.tmps t) (h2 : ∀ b : Nat, s.heap[b]? = s'.heap[b]?) : s = s' := by
 obtain ⟨t, h⟩ := s
 obtain ⟨t', h'⟩ := s'
 have e1 : t = t' := funext h1
 have e2 : h = h' := List.ext_getElem? h2
 subst e1; subst e2; rfl

theorem Zt4 {ops : Array Oper} {o o' : Oper} {δ δ' : Delta} {s : St} (h : Zh7 ops o δ o' δ' = true) (hi : δ.inside s.heap.length = true) (hi' : δ'.inside s.heap.length = true) :
  δ'.apply o'.dst (δ.apply o.dst s) = δ.apply o.dst (δ'.apply o'.dst s) := by
 simp only [Zh7, Bool.and_eq_true, Option.isNone_iff_eq_none, List.all_eq_true] at h
 obtain ⟨⟨⟨⟨hk, hk'⟩, hap⟩, hs⟩, hs'⟩ := h
 obtain ⟨h1, h2, h3⟩ := Oper.apart_spec hap
 apply St.ext'
 ·intro t
  rw [Zbs, Zbs, Zbs, Zbs]
  simp only [Zpn, hk, hk']
  by_cases e1 : o.dst = some t
  ·have := h2 t e1
   rw [if_pos e1, if_neg this]
   simp [e1]
  ·rw [if_neg e1]
   simp [e1]
 ·intro b
  rw [Zb1 _ _ _ (by rw [Zay _ _ _ hi]; exact hi'), Zb1 _ _ _ hi, Zb1 _ _ _ (by rw [Zay _ _ _ hi']; exact hi), Zb1 _ _ _ hi']
  cases hb : s.heap[b]? with
  | none => rfl
  | some x =>
   simp only [Option.map_some]
   congr 1
   simp only [Zmb, hk, hk']
   by_cases hex : ∃ p, p ∈ δ.sets ∧ p.1 = b
   ·obtain ⟨p, hp, rfl⟩ := hex
    have hno : ∀ q, q ∈ δ'.sets → q.1 ≠ p.1 := fun q hq => by
     have := (hs p hp).2 q hq
     simpa using this
    rw [Zcj δ'.sets _ hno, Zcj δ'.sets _ hno]
   ·have hno : ∀ q, q ∈ δ.sets → q.1 ≠ b := fun q hq e => hex ⟨q, hq, e⟩
    rw [Zcj δ.sets _ hno, Zcj δ.sets _ hno]

theorem Zvi {ops : Array Oper} {o o' : Oper} {δ δ' : Delta} {s : St} (h : Zh7 ops o δ o' δ' = true ∨ Zh7 ops o' δ' o δ = true) (hi : δ.inside s.heap.length = true) : (∀ t, t ∈ o'.looksAt ops → Zpn δ o.dst t (s.tmps t) = s.tmps t) ∧ (∀ b, b ∈ δ'.foot → ∀ x, Zmb δ b x = x) := by
 rcases h with h | h
 ·simp only [Zh7, Bool.and_eq_true, Option.isNone_iff_eq_none, List.all_eq_true] at h
  obtain ⟨⟨⟨⟨hk, hk'⟩, hap⟩, hs⟩, hs'⟩ := h
  obtain ⟨h1, h2, h3⟩ := Oper.apart_spec hap
  refine ⟨fun t ht => ?_, fun b hb x => ?_⟩
  ·simp only [Zpn, hk]
   rw [if_neg (fun e => h1 t e ht)]
  ·simp only [Zmb, hk]
   exact Zcj _ _ fun p hp e => by
    have := (hs p hp).1
    rw [e] at this
    simp [hb] at this
 ·simp only [Zh7, Bool.and_eq_true, Option.isNone_iff_eq_none, List.all_eq_true] at h
  obtain ⟨⟨⟨⟨hk', hk⟩, hap⟩, hs'⟩, hs⟩ := h
  obtain ⟨h1, h2, h3⟩ := Oper.apart_spec hap
  refine ⟨fun t ht => ?_, fun b hb x => ?_⟩
  ·simp only [Zpn, hk]
   rw [if_neg (fun e => h3 t e ht)]
  ·simp only [Zmb, hk]
   exact Zcj _ _ fun p hp e => by
    have := hs p hp
    rw [e] at this
    simp [hb] at this

abbrev Trace := List (Oper × Delta)
def stS (s0 : St) (S : Nat → Bool) : Trace → Nat → St
  | [], _ => s0
  | (o, δ) :: l, k => stS (if S k then δ.apply o.dst s0 else s0) S l (k + 1)

theorem Ztu {ops : Array Oper} {o : Oper} {δ : Delta} {S T : Nat → Bool} : ∀ (l : Trace) (k : Nat) (s s' : St), (∀ p, p ∈ l → p.2.inside s.heap.length = true) → Agree ops o δ.foot s s' →
  (∀ j p, l[j]? = some p → S (k + j) = T (k + j) ∨ Zh7 ops p.1 p.2 o δ = true ∨ Zh7 ops o δ p.1 p.2 = true) → Agree ops o δ.foot (stS s S l k) (stS s' T l k)
 | [], k, s, s', _, h, _ => h
 | (o', δ') :: l, k, s, s', hin, h, hd => by
  have hi : δ'.inside s.heap.length = true := hin (o', δ') (by simp)
  have hi' : δ'.inside s'.heap.length = true := by rw [h.len]; exact hi
  have h0 := hd 0 (o', δ') rfl
  simp only [Nat.add_zero] at h0
  have hap : Agree ops o δ.foot (δ'.apply o'.dst s) (δ'.apply o'.dst s') := by
   refine ⟨fun t ht => ?_, fun b hb => ?_, ?_⟩
   ·rw [Zbs, Zbs, h.tmps t ht]
   ·rw [Zb1 _ _ _ hi, Zb1 _ _ _ hi', h.heap b hb]
   ·rw [Zay _ _ _ hi, Zay _ _ _ hi', h.len]
  have hl : ∀ c : Bool, (if c then δ'.apply o'.dst s else s).heap.length = s.heap.length := by
   intro c
   cases c
   ·rfl
   ·exact Zay _ _ _ hi
  simp only [stS]
  refine Ztu l (k + 1) _ _ (fun p hp => by rw [hl]; exact hin p (by simp [hp])) ?_ (fun j p hj => by
   have := hd (j + 1) p (by simpa using hj)
   rwa [show k + (j + 1) = k + 1 + j from by omega] at this)
  by_cases hST : S k = T k
  ·rw [hST]
   cases T k
   ·exact h
   ·exact hap
  ·have hind := h0.resolve_left hST
   have hv := fun (q : St) (hq : δ'.inside q.heap.length = true) => Zvi (ops := ops) (o := o') (o' := o) (δ := δ') (δ' := δ) (s := q) hind hq
   cases hS : S k <;> cases hT : T k
   ·rw [hS, hT] at hST; exact absurd rfl hST
   ·refine ⟨fun t ht => ?_, fun b hb => ?_, ?_⟩
    ·simp only [if_true, Bool.false_eq_true, if_false]
     rw [Zbs, (hv s' hi').1 t ht]; exact h.tmps t ht
    ·simp only [if_true, Bool.false_eq_true, if_false]
     rw [Zb1 _ _ _ hi', h.heap b hb]
     cases s.heap[b]? with
     | none => rfl
     | some x => simp [(hv s' hi').2 b hb x]
    ·simp only [if_true, Bool.false_eq_true, if_false]
     rw [Zay _ _ _ hi', h.len]
   ·refine ⟨fun t ht => ?_, fun b hb => ?_, ?_⟩
    ·simp only [if_true, Bool.false_eq_true, if_false]
     rw [Zbs, (hv s hi).1 t ht]; exact h.tmps t ht
    ·simp only [if_true, Bool.false_eq_true, if_false]
     rw [Zb1 _ _ _ hi, h.heap b hb]
     cases s.heap[b]? with
     | none => rfl
     | some x => simp [(hv s hi).2 b hb x]
    ·simp only [if_true, Bool.false_eq_true, if_false]
     rw [Zay _ _ _ hi, h.len]
   ·rw [hS, hT] at hST; exact absurd rfl hST

theorem Zed {S T : Nat → Bool} : ∀ (l : Trace) (k : Nat) (s : St), (∀ j, j < l.length → S (k + j) = T (k + j)) → stS s S l k = stS s T l k
 | [], k, s, h => rfl
 | (o, δ) :: l, k, s, h => by
  simp only [stS]
  have h0 := h 0 (by simp)
  simp only [Nat.add_zero] at h0
  rw [h0]
  exact Zed l (k + 1) _ fun j hj => by
   have := h (j + 1) (by simp; omega)
   rwa [show k + (j + 1) = k + 1 + j from by omega] at this
theorem Zly : ∀ (l : Trace) (k : Nat) (s : St), stS s (fun _ => false) l k = s
 | [], k, s => rfl
 | (o, δ) :: l, k, s => by simp only [stS, Bool.false_eq_true, if_false]; exact Zly l (k + 1) s
theorem Zlz : ∀ (l : Trace) (k i : Nat) (s : St), stS s (fun j => decide (j < k + i)) l k = stS s (fun _ => true) (l.take i) k
 | [], k, i, s => by simp [stS]
 | (o, δ) :: l, k, 0, s => by
  rw [List.take_zero]
  rw [Zed (T := fun _ => false) _ k s (fun j _ => by simp)]
  exact Zly _ _ _
 | (o, δ) :: l, k, i + 1, s => by
  simp only [List.take_succ_cons, stS, if_true]
  rw [if_pos (by simp)]
  have := Zlz l (k + 1) i (δ.apply o.dst s)
  rw [← this]
  exact Zed _ _ _ fun j _ => by simp; omega

theorem Zts {ops : Array Oper} {o : Oper} {δ : Delta} {S : Nat → Bool} : ∀ (l : Trace) (k : Nat) (s : St), (∀ p, p ∈ l → p.2.inside s.heap.length = true) → δ.inside s.heap.length = true →
  (∀ j p, l[j]? = some p → S (k + j) = true → Zh7 ops o δ p.1 p.2 = true) → stS (δ.apply o.dst s) S l k = δ.apply o.dst (stS s S l k)
 | [], k, s, _, _, _ => rfl
 | (o', δ') :: l, k, s, hin, hd, h => by
  have hi : δ'.inside s.heap.length = true := hin (o', δ') (by simp)
  simp only [stS]
  have hl : (if S k then δ'.apply o'.dst s else s).heap.length = s.heap.length := by
   split
   ·exact Zay _ _ _ hi
   ·rfl
  rw [← Zts (ops := ops) l (k + 1) _ (fun p hp => by rw [hl]; exact hin p (by simp [hp])) (by rw [hl]; exact hd) (fun j p hj hS => h (j + 1) p (by simpa using hj) (by rwa [show k + (j + 1) = k + 1 + j from by omega]))]
  congr 1
  cases hS : S k with
  | false => rfl
  | true =>
   simp only [if_true]
   exact Zt4 (h 0 (o', δ') rfl (by simpa using hS)) hd hi

theorem Zo6 {ops : Array Oper} {S : Nat → Bool} {i : Nat} {o : Oper} {δ : Delta} (hS : S i = false) : ∀ (l : Trace) (k : Nat) (s : St), k ≤ i → l[i - k]? = some (o, δ) → (∀ p, p ∈ l → p.2.inside s.heap.length = true) →
  (∀ j p, l[j]? = some p → i < k + j → S (k + j) = true → Zh7 ops o δ p.1 p.2 = true) → stS s (fun j => j == i || S j) l k = δ.apply o.dst (stS s S l k)
 | [], k, s, hk, hl, _, _ => by simp at hl
 | (o', δ') :: l, k, s, hk, hl, hin, h => by
  have hi : δ'.inside s.heap.length = true := hin (o', δ') (by simp)
  by_cases he : k = i
  ·subst he
   simp only [Nat.sub_self, List.getElem?_cons_zero, Option.some.injEq, Prod.mk.injEq] at hl
   obtain ⟨rfl, rfl⟩ := hl
   simp only [stS, beq_self_eq_true, Bool.true_or, if_true, hS, Bool.false_eq_true, if_false]
   rw [← Zts (ops := ops) l (k + 1) s (fun p hp => hin p (by simp [hp])) hi (fun j p hj hSj => h (j + 1) p (by simpa using hj) (by omega) (by rwa [show k + (j + 1) = k + 1 + j from by omega]))]
   exact Zed _ _ _ fun j _ => by simp; omega
  ·have hlt : k < i := by omega
   simp only [stS]
   have hk' : (k == i) = false := by simpa using he
   simp only [hk', Bool.false_or]
   have hlen : (if S k then δ'.apply o'.dst s else s).heap.length = s.heap.length := by
    split
    ·exact Zay _ _ _ hi
    ·rfl
   exact Zo6 hS l (k + 1) _ hlt (by rw [show i - k = (i - (k + 1)) + 1 from by omega] at hl; simpa using hl) (fun p hp => by rw [hlen]; exact hin p (by simp [hp]))
    (fun j p hj hlt hSj => h (j + 1) p (by simpa using hj) (by omega) (by rwa [show k + (j + 1) = k + 1 + j from by omega]))

def Zg1 : List Oper → List (List Nat) → List (List Nat)
  | [], acc => acc
  | o :: l, acc => Zg1 l (acc ++ [(o.after.toList.filter (Region.binds .any)).flatMap fun e => e.on :: acc.getD e.on []])
def clo (ops : List Oper) : List (List Nat) := Zg1 ops []

def Zl4 (ops : List Oper) (S : Nat → Bool) : Prop := ∀ (j : Nat) (o : Oper), ops[j]? = some o → S j = true → ∀ e, e ∈ o.after → Region.binds .any e = true → S e.on = true

theorem Zky {ops : List Oper} {S : Nat → Bool} (hc : Zl4 ops S) : ∀ (l : List Oper) (acc : List (List Nat)), (∀ j, l[j]? = ops[acc.length + j]?) → (∀ j, j < acc.length → S j = true → ∀ i, i ∈ acc.getD j [] → S i = true) →
  ∀ j, S j = true → ∀ i, i ∈ (Zg1 l acc).getD j [] → S i = true
 | [], acc, _, h, j, hj, i, hi => by
  simp only [Zg1] at hi
  rcases Nat.lt_or_ge j acc.length with hlt | hge
  ·exact h j hlt hj i hi
  ·simp [List.getElem?_eq_none hge] at hi
 | o :: l, acc, hl, h, j, hj, i, hi => by
  simp only [Zg1] at hi
  refine Zky hc l _ (fun q => by have := hl (q + 1); simp at this ⊢; rw [this]; congr 1; omega) ?_ j hj i hi
  intro q hq hS r hr
  rcases Nat.lt_or_ge q acc.length with hlt | hge
  ·simp only [List.getD_eq_getElem?_getD, List.getElem?_append_left hlt] at hr
   exact h q hlt hS r (by simpa [List.getD_eq_getElem?_getD] using hr)
  ·have hqe : q = acc.length := by simp at hq; omega
   subst hqe
   simp only [List.getD_eq_getElem?_getD, List.getElem?_append_right (Nat.le_refl _), Nat.sub_self, List.getElem?_cons_zero, Option.getD_some, List.mem_flatMap, List.mem_filter, List.mem_cons] at hr
   obtain ⟨e, ⟨he1, he2⟩, he3⟩ := hr
   have ho : ops[acc.length]? = some o := by have := hl 0; simpa using this.symm
   have hSe := hc acc.length o ho hS e (by simpa using he1) he2
   rcases he3 with rfl | he3
   ·exact hSe
   ·rcases Nat.lt_or_ge e.on acc.length with h1 | h1
    ·exact h e.on h1 hSe r (by simpa [List.getD_eq_getElem?_getD] using he3)
    ·simp [List.getElem?_eq_none h1] at he3
theorem Zgt {ops : List Oper} {S : Nat → Bool} (hc : Zl4 ops S) {i j : Nat} (hj : S j = true) (hi : i ∈ (clo ops).getD j []) : S i = true :=
 Zky hc ops [] (by simp) (by simp) j hj i hi

def Zf5 (ops : Array Oper) (tr : Trace) (n : Nat) : Bool :=
  (tr.all fun p => p.2.inside n) &&
  (ops.toList.zipIdx.all fun p => p.1.after.all fun e => !Region.binds .any e || decide (e.on < p.2)) &&
  (tr.zipIdx.all fun p => tr.zipIdx.all fun q => decide (q.2 ≤ p.2) || ((clo ops.toList).getD q.2 []).contains p.2 || Zh7 ops p.1.1 p.1.2 q.1.1 q.1.2)

def unl (n : Nat) (S : Nat → Bool) : Nat := ((List.range n).filter fun j => !S j).length
theorem Zo9 {n i : Nat} {S : Nat → Bool} (hi : i < n) (hS : S i = false) : unl n (fun j => j == i || S j) < unl n S := by
 unfold unl
 have h1 : (List.range n).filter (fun j => !(j == i || S j)) = ((List.range n).filter fun j => !S j).filter fun j => !(j == i) := by
  rw [List.filter_filter]
  congr 1
  funext j
  cases (j == i) <;> cases S j <;> rfl
 rw [h1]
 exact List.length_filter_lt_length_iff_exists.2 ⟨i, by simp [hi, hS], by simp⟩
theorem Ztz {n : Nat} {S : Nat → Bool} (h : unl n S = 0) : ∀ j, j < n → S j = true := by
 intro j hj
 unfold unl at h
 have := List.eq_nil_of_length_eq_zero h
 cases hS : S j with
 | true => rfl
 | false =>
  have : j ∈ (List.range n).filter (fun j => !S j) := by simp [hj, hS]
  rw [‹(List.range n).filter _ = []›] at this
  cases this

theorem Zk7 {p : Nat → Prop} [DecidablePred p] {n : Nat} (h : ∃ j, j < n ∧ p j) : ∃ j, j < n ∧ p j ∧ ∀ i, i < j → ¬ p i := by
 obtain ⟨j, hj⟩ := h
 induction j using Nat.strongRecOn with
 | _ j ih =>
  by_cases hh : ∃ i, i < j ∧ p i
  ·obtain ⟨i, hi, hp⟩ := hh
   exact ih i hi ⟨by omega, hp⟩
  ·exact ⟨j, hj.1, hj.2, fun i hi hp => hh ⟨i, hi, hp⟩⟩

theorem SRel.drew {nt : Nat} {E : Ent} {m : MapM} {s : St} {a : Act} {w : World} (h : SRel G nt E m s a w) : SRel G nt E m s a w.drew := ⟨h.size, h.tmps, h.defers, h.heap.drew, h.frame.drew⟩

theorem Zsf {nt : Nat} {ops : Array Oper} {tr : Trace} {s0 : St} (hm : P.follows .mixedOrders = true) (hops : tr.map (·.1) = ops.toList) (hok : Zf5 ops tr s0.heap.length = true)
    (hloc : ∀ (i : Nat) (o : Oper) (δ : Delta), tr[i]? = some (o, δ) → Zae P G nt ops o (stS s0 (fun _ => true) (tr.take i) 0) δ)
    {id : Nat} {Q : Exit → Act → World → Prop} {E : Ent} {m : MapM} {a : Act} {w : World} (hr : SRel G nt E m s0 a w) (hQ : ∀ m a w, SRel G nt E m (stS s0 (fun _ => true) tr 0) a w → Q .normal a w) : (Code.region id ops true).wp P Q a w := by
  simp only [Zf5, Bool.and_eq_true, List.all_eq_true] at hok
  obtain ⟨⟨hin, hback⟩, hind⟩ := hok
  have hlen : tr.length = ops.size := by have := congrArg List.length hops; simpa using this
  have htr : ∀ (i : Nat) (p : Oper × Delta), tr[i]? = some p → ops[i]? = some p.1 := by
    intro i p hp
    have := congrArg (fun l => l[i]?) hops
    simp only [List.getElem?_map, hp, Option.map_some, Array.getElem?_toList] at this
    exact this.symm
  have hinp : ∀ (i j : Nat) (p q : Oper × Delta), tr[i]? = some p → tr[j]? = some q → i < j → i ∈ (clo ops.toList).getD j [] ∨ Zh7 ops p.1 p.2 q.1 q.2 = true := by
    intro i j p q hp hq hij
    have h1 := hind (p, i) (by rw [List.mem_iff_getElem?]; exact ⟨i, by simp [List.getElem?_zipIdx, hp]⟩)
    have h2 := h1 (q, j) (by rw [List.mem_iff_getElem?]; exact ⟨j, by simp [List.getElem?_zipIdx, hq]⟩)
    simp only [Bool.or_eq_true, decide_eq_true_eq] at h2
    rcases h2 with (h2 | h2) | h2
    · omega
    · exact .inl (by simpa using h2)
    · exact .inr h2
  have hbk : ∀ (j : Nat) (o : Oper), ops[j]? = some o → ∀ e, e ∈ o.after → Region.binds .any e = true → e.on < j := by
    intro j o ho e he hb
    have h1 := hback (o, j) (by rw [List.mem_iff_getElem?]; exact ⟨j, by simp [List.getElem?_zipIdx, ho]⟩)
    simp only [Array.all_eq_true_iff_forall_mem] at h1
    have := h1 e he
    rw [hb] at this
    simpa using this
  have key : ∀ (fuel : Nat) (listed : Array Bool) (m : MapM) (a : Act) (w : World), listed.size = ops.size → Zl4 ops.toList (fun j => listed.getD j false) → unl ops.size (fun j => listed.getD j false) ≤ fuel →
      SRel G nt E m (stS s0 (fun j => listed.getD j false) tr 0) a w → wpAny P .any ops Q fuel listed a w := by
    intro fuel
    have hdone : ∀ (listed : Array Bool) (m : MapM) (a : Act) (w : World), listed.size = ops.size → Region.ready .any ops listed = [] → SRel G nt E m (stS s0 (fun j => listed.getD j false) tr 0) a w → Q .normal a w := by
      intro listed m a w hsz hrd hr
      refine hQ m a w ?_
      have hall : ∀ j, j < ops.size → listed.getD j false = true := by
        intro j hj
        cases hl : listed.getD j false with
        | true => rfl
        | false =>
          obtain ⟨q, hq1, hq2, hq3⟩ := Zk7 (p := fun j => listed.getD j false = false) ⟨j, hj, hl⟩
          have : q ∈ Region.ready .any ops listed := by
            refine mem_ready.2 ⟨?_, ops[q], by simp [hq1], fun e he hb => ?_⟩
            · have : q < listed.size := by omega
              simpa [Array.getD_eq_getD_getElem?, Array.getElem?_eq_getElem this] using hq2
            · have hlt := hbk q ops[q] (by simp [hq1]) e he hb
              have := hq3 e.on hlt
              simpa using this
          rw [hrd] at this; cases this
      have := Zed (S := fun j => listed.getD j false) (T := fun _ => true) tr 0 s0 (fun j hj => by
        have := hall j (by omega)
        simpa using this)
      rw [this] at hr
      exact hr
    induction fuel with
    | zero =>
      intro listed m a w hsz hc hu hr
      have hall := Ztz (Nat.le_zero.1 hu)
      have hrd : Region.ready .any ops listed = [] := by
        cases hq : Region.ready .any ops listed with
        | nil => rfl
        | cons q l =>
          have hmem : q ∈ Region.ready .any ops listed := by rw [hq]; simp
          obtain ⟨h1, o, h2, _⟩ := mem_ready.1 hmem
          have hlt : q < ops.size := (Array.getElem?_eq_some_iff.1 h2).1
          have := hall q hlt
          have hlt' : q < listed.size := by omega
          simp [Array.getD_eq_getD_getElem?, Array.getElem?_eq_getElem hlt'] at this h1
          rw [this] at h1; cases h1
      exact ⟨hrd, hdone listed m a w hsz hrd hr⟩
    | succ fuel ih =>
      intro listed m a w hsz hc hu hr
      refine ⟨fun hrd => hdone listed m a w hsz hrd hr, fun i hi => ?_⟩
      obtain ⟨h1, o, ho, hed⟩ := mem_ready.1 hi
      have hlt : i < ops.size := (Array.getElem?_eq_some_iff.1 ho).1
      have hltl : i < listed.size := by omega
      have hSi : listed.getD i false = false := by
        simp [Array.getD_eq_getD_getElem?, Array.getElem?_eq_getElem hltl] at h1 ⊢; exact h1
      have hltt : i < tr.length := by omega
      obtain ⟨p, hp⟩ : ∃ p, tr[i]? = some p := ⟨tr[i], by simp [hltt]⟩
      obtain ⟨o', δ⟩ := p
      have hoo := htr i _ hp
      rw [ho] at hoo; injection hoo with hoo
      simp only at hoo
      subst hoo
      -- the state where it stands in the text
      have hag : Agree ops o δ.foot (stS s0 (fun _ => true) (tr.take i) 0) (stS s0 (fun j => listed.getD j false) tr 0) := by
        have h2 := Zlz tr 0 i s0
        simp only [Nat.zero_add] at h2
        rw [← h2]
        refine Ztu tr 0 s0 s0 hin ⟨fun _ _ => rfl, fun _ _ => rfl, rfl⟩ ?_
        intro j q hq
        rw [Nat.zero_add]
        by_cases hji : j < i
        · cases hS : listed.getD j false with
          | true => left; simp [hji]
          | false =>
            right; left
            rcases hinp j i q (o, δ) hq hp hji with h3 | h3
            · exfalso
              have hc' : Zl4 ops.toList (fun k => k == i || listed.getD k false) := by
                intro k ok hk hSk e he hb
                by_cases hki : k = i
                · subst hki
                  have : ok = o := by rw [Array.getElem?_toList, ho] at hk; injection hk with hk; exact hk.symm
                  subst this
                  have := hed e he hb
                  simp only [this, Bool.or_true]
                · have : listed.getD k false = true := by simpa [hki] using hSk
                  have := hc k ok hk this e he hb
                  simp only at this
                  simp only [this, Bool.or_true]
              have h4 := Zgt hc' (i := j) (j := i) (by simp) h3
              have : j ≠ i := by omega
              simp only [beq_iff_eq, this, Bool.or_eq_true, false_or, hS] at h4
              cases h4
            · exact h3
        · by_cases hje : j = i
          · subst hje; left; simp [hSi]
          · cases hS : listed.getD j false with
            | false => left; simp [hji]
            | true =>
              right; right
              rcases hinp i j (o, δ) q hp hq (by omega) with h3 | h3
              · exfalso
                have := Zgt hc (i := i) (j := j) hS h3
                rw [hSi] at this; cases this
              · exact h3
      have hto := hloc i o δ hp _ hag E m a w hr
      unfold wpOp
      simp only [ho]
      have hnext : ∀ m' a' w', SRel G nt E m' (δ.apply o.dst (stS s0 (fun j => listed.getD j false) tr 0)) a' w' → wpAny P .any ops Q fuel (listed.setIfInBounds i true) a' w' := by
        intro m' a' w' hr'
        have hS' : (fun j => (listed.setIfInBounds i true).getD j false) = fun j => j == i || listed.getD j false := by
          funext j
          by_cases hji : j = i
          · subst hji; simp [Array.getD_eq_getD_getElem?, Array.getElem?_setIfInBounds, hltl]
          · rw [getD_set_ne false (fun e => hji e.symm)]; simp [hji]
        refine ih _ m' a' w' (by simp [hsz]) ?_ ?_ ?_
        · rw [hS']
          intro k ok hk hSk e he hb
          by_cases hki : k = i
          · subst hki
            have : ok = o := by rw [Array.getElem?_toList, ho] at hk; injection hk with hk; exact hk.symm
            subst this
            have := hed e he hb
            simp only [this, Bool.or_true]
          · have : listed.getD k false = true := by simpa [hki] using hSk
            have := hc k ok hk this e he hb
            simp only at this
            simp only [this, Bool.or_true]
        · rw [hS']
          have := Zo9 (S := fun j => listed.getD j false) hlt hSi
          omega
        · rw [hS', Zo6 (ops := ops) (S := fun j => listed.getD j false) hSi tr 0 s0 (Nat.zero_le _) (by simpa using hp) hin (fun j q hq hlt' hSj => ?_)]
          · exact hr'
          · rw [Nat.zero_add] at hlt' hSj
            rcases hinp i j (o, δ) q hp hq hlt' with h3 | h3
            · exfalso
              have := Zgt hc (i := i) (j := j) hSj h3
              rw [hSi] at this; cases this
            · exact h3
      have h5 := hto _ Q hnext
      split
      · rename_i hw; rw [if_pos hw] at h5; exact .inl h5
      · rename_i hw; rw [if_neg hw] at h5; exact h5
  refine wp_region_any hm ?_
  refine key ops.size (Array.replicate ops.size false) m a w.drew (by simp) ?_ ?_ ?_
  · intro j o ho hS e he hb
    exfalso
    simp [Array.getD_eq_getD_getElem?, Array.getElem?_replicate] at hS
    split at hS <;> simp at hS
  · unfold unl
    have := List.length_filter_le (fun j => !(Array.replicate ops.size false).getD j false) (List.range ops.size)
    simpa using this
  · have : stS s0 (fun j => (Array.replicate ops.size false).getD j false) tr 0 = s0 := by
      rw [Zed (T := fun _ => false) tr 0 s0 (fun j hj => by simp [Array.getD_eq_getD_getElem?, Array.getElem?_replicate]; split <;> rfl)]
      exact Zly _ _ _
    rw [this]
    exact hr.drew
end
end Go.Flat
end
