/- Walks. -/
import Derived.Test.YtfjkagjbanhdlaaDoorFlatE
import Derived.Test.YtfjkagjbanhdlaaDoorRef
import Derived.OpenShut
set_option linter.unusedVariables false
set_option linter.unusedSimpArgs false
set_option maxRecDepth 20000
section
/- Boxes, rows by a code, the loads that sx prints. -/
namespace Go.Flat
def bxB (n : Nat) (l : List Value) : Blk := { cells := l, sz := n, wr := true, fix := true, mv := false, pur := true }
def rfB (v : Value) : Blk := { cells := [v], sz := 1, wr := true, fix := true, mv := false, pur := false }
structure Cod (α : Type) where
  enc : α → List Value
  n : Nat
  len : ∀ x, (enc x).length = n
  pos : 0 < n
def Cod.row {α : Type} (c : Cod α) (l : List α) : List Value := (l.map c.enc).flatten
def rwB {α : Type} (c : Cod α) (l : List α) : Blk := { cells := c.row l, sz := c.n, wr := true, fix := false, mv := true, pur := true }
def rwR {α : Type} (c : Cod α) (l : List α) : Blk := { cells := c.row l, sz := c.n, wr := false, fix := false, mv := true, pur := true }
theorem Z9.res {P : Program} {G : Glob} {f : FuncId} {a : List Value} {σ σ' : List Blk} {r r' : Value} (h : Z9 P G f a σ r σ') (e : r = r') : Z9 P G f a σ r' σ' := e ▸ h
section
variable {α : Type} (c : Cod α)
theorem Cod.row_len (l : List α) : (c.row l).length = l.length * c.n := by
 induction l with
 | nil => simp [Cod.row]
 | cons x l ih =>
  unfold Cod.row at ih ⊢
  rw [List.map_cons, List.flatten_cons, List.length_append, ih, c.len, List.length_cons, Nat.add_mul, Nat.one_mul, Nat.add_comm]
theorem Cod.row_app (l m : List α) : c.row (l ++ m) = c.row l ++ c.row m := by simp [Cod.row]
theorem Cod.row_drop (l : List α) : ∀ i, (c.row l).drop (i * c.n) = c.row (l.drop i) := by
 induction l with
 | nil => intro i; simp [Cod.row]
 | cons x l ih =>
  intro i
  cases i with
  | zero => simp
  | succ i =>
   rw [show c.row (x :: l) = c.enc x ++ c.row l from by simp [Cod.row], show (i + 1) * c.n = (c.enc x).length + i * c.n from by rw [c.len, Nat.add_mul, Nat.one_mul, Nat.add_comm], List.drop_length_add_append, ih]
   simp
theorem Cod.row_take (l : List α) : ∀ i, (c.row l).take (i * c.n) = c.row (l.take i) := by
 induction l with
 | nil => intro i; simp [Cod.row]
 | cons x l ih =>
  intro i
  cases i with
  | zero => simp [Cod.row]
  | succ i =>
   rw [show c.row (x :: l) = c.enc x ++ c.row l from by simp [Cod.row], show (i + 1) * c.n = (c.enc x).length + i * c.n from by rw [c.len, Nat.add_mul, Nat.one_mul, Nat.add_comm], List.take_length_add_append, ih]
   simp [Cod.row]
theorem Cod.at_ [Inhabited α] {l : List α} {i : Nat} (h : i < l.length) : ((c.row l).drop (i * c.n)).take c.n = c.enc (l.getD i default) := by
 rw [c.row_drop, List.drop_eq_getElem_cons h, show c.row (l[i] :: l.drop (i + 1)) = c.enc l[i] ++ c.row (l.drop (i + 1)) from by unfold Cod.row; rw [List.map_cons, List.flatten_cons]]
 rw [List.take_append_of_le_length (by rw [c.len]; exact Nat.le_refl _), List.take_of_length_le (by rw [c.len]; exact Nat.le_refl _), List.getD_eq_getElem?_getD, List.getElem?_eq_getElem h]; rfl
theorem Cod.cell [Inhabited α] {l : List α} {i k : Nat} (h : i < l.length) (hk : k < c.n) : (c.row l)[i * c.n + k]? = (c.enc (l.getD i default))[k]? := by
 rw [← c.at_ h, List.getElem?_take, if_pos hk, List.getElem?_drop]
variable {P : Program} {G : Glob} {t : TypeId} {H : List Blk} {b : Nat} {blk : Blk} {c}
theorem Zmn [Inhabited α] (c : Cod α) {l : List α} {i o m n : Nat} (hm : m = c.n) (hk : Zej P t = some (true, m)) (hb : H[b]? = some blk) (hc : blk.cells = c.row l) (hi : i < l.length) (ho : o = i * m) : Zdx P G t H (.pointer (some ⟨b, o, none⟩)) = some (.agg (c.enc (l.getD i default)).toArray) := by
 subst hm; subst ho
 refine Zcu hk hb ?_ (by rw [hc]; exact c.at_ hi)
 rw [hc, c.row_len]
 have := Nat.mul_le_mul_right c.n (Nat.succ_le_of_lt hi)
 rw [Nat.succ_mul] at this
 exact this
theorem Z17 [Inhabited α] (c : Cod α) {l : List α} {i o m : Nat} {v : Value} (h1 : c.n = 1) (hk : Zej P t = some (false, m)) (hb : H[b]? = some blk) (hc : blk.cells = c.row l) (hi : i < l.length) (ho : o = i) (hv : c.enc (l.getD i default) = [v]) (h2 : Ziz v = true) : Zdx P G t H (.pointer (some ⟨b, o, none⟩)) = some v := by
 subst ho
 refine Zkb hk hb ?_ h2
 have := c.cell (k := 0) hi (by rw [h1]; exact Nat.zero_lt_one)
 rw [h1, hv] at this
 rw [hc]; simpa using this
end
section
variable {P : Program} {t : TypeId} {x y : Operand}
theorem Z6y {k : IntKind} {w : Nat} {a b : BitVec w} : Zb0 P .eql t x y (.int k (a.toNat : Int)) (.int k (b.toNat : Int)) = some (.bool (a == b)) := by
 rw [Zsh]
 congr 2
 rw [Bool.eq_iff_iff, beq_iff_eq, decide_eq_true_iff, BitVec.toNat_inj.symm]; omega
end
end Go.Flat
end
namespace Go.Flat
open Go.Proofs
def dz : D := fun _ => 0
section
variable {P : Program} {G : Glob} {t : TypeId} {H : List Blk} {b : Nat} {blk : Blk}
theorem Zh4 {e : Emb} {id : Nat} {ds : List D} (hB : H[id]? = some (dsR ds)) : Zdp H e (some (id, 0)) (dsR ds) :=
 Zdh hB rfl (by show 0 + (dsC _).length ≤ (dsC _).length; omega) (Zf8 _)
theorem Zh3 {e : Emb} {id : Nat} {ds : List D} (hB : H[id]? = some (dsB ds)) : Zdp H e (some (id, 0)) (dsR ds) := Z52 hB
theorem Zg2 {α : Type} {c : Cod α} {e : Emb} {id : Nat} {l : List α} (hB : H[id]? = some (rwB c l)) : Zdp H e (some (id, 0)) (rwR c l) :=
 Zdh hB (by show (decide (0 < c.n) && decide (0 < c.n) && _ && (_ || c.n == c.n) && _ && _ && _) = true; simp [c.pos, rwR, rwB]) (by show 0 + (c.row _).length ≤ (c.row _).length; omega) (by show ((c.row l).drop 0).take (c.row l).length = c.row l; simp)
theorem Zgg {α : Type} {c : Cod α} {e : Emb} {id : Nat} {l : List α} (hB : H[id]? = some (rwR c l)) : Zdp H e (some (id, 0)) (rwR c l) :=
 Zdh hB (by show (decide (0 < c.n) && decide (0 < c.n) && _ && (_ || c.n == c.n) && _ && _ && _) = true; simp [c.pos, rwR]) (by show 0 + (c.row _).length ≤ (c.row _).length; omega) (by show ((c.row l).drop 0).take (c.row l).length = c.row l; simp)
end
def txB (ts : List ByteArray) : Blk := { cells := ts.map Value.string, sz := 1, wr := true, fix := false, mv := true, pur := true }
theorem Zwk {e : Emb} {id : Nat} {ts : List ByteArray} {H : List Blk} (hB : H[id]? = some (txB ts)) : Zdp H e (some (id, 0)) (Zlc ts) :=
 Zdh hB rfl (by show 0 + (ts.map Value.string).length ≤ (ts.map Value.string).length; omega) (by show ((ts.map Value.string).drop 0).take (ts.map Value.string).length = ts.map Value.string; rw [List.drop_zero, List.take_length])
def sameT (a b : ByteArray) : Bool := a.toList == b.toList
theorem Zvb (n : Nat) (a : D) : Zcg n a a = true := by simp [Zcg]
variable {G : Glob}
end Go.Flat
section
/- Opening arguments of any pure type; rows of such things. -/
namespace Go.Flat
open Go.ChangeShapes Go.WideShapes Go.RowKit
def Zax {α : Type} (P : Program) (t : TypeId) (enc : α → List Value) (ok : α → Prop) : Prop :=
  ∀ {H : Type} {encH : TypeId × Value → H} {W : World} {fuel : Nat} {cs : List Value} {x : DataW H × List MemPlace}, DataW.trod encH P W 0 (fun _ => true) true fuel t cs = some x → ∃ a, cs = enc a ∧ ok a
section
variable {P : Program} {t : TypeId}
theorem Zax.int (ht : P.underlying t = some (.int .i64)) : Zax P t (fun z : Int => [.int .i64 z]) (fun z => -9223372036854775808 ≤ z ∧ z ≤ 9223372036854775807) := by
 intro H encH W fuel cs x h
 obtain ⟨z, rfl, _, hw⟩ := DataW.trod_int ht h
 rw [Lit.wf, Bool.and_eq_true] at hw
 exact ⟨z, rfl, of_decide_eq_true hw.1, of_decide_eq_true hw.2⟩
theorem Zax.bool (ht : P.underlying t = some .bool) : Zax P t (fun b : Bool => [.bool b]) (fun _ => True) := by
 intro H encH W fuel cs x h
 obtain ⟨z, rfl, _⟩ := DataW.trod_bool ht h
 exact ⟨z, rfl, trivial⟩
theorem Zax.str (ht : P.underlying t = some .string) : Zax P t (fun s : ByteArray => [.string s]) (fun s => s.size ≤ maxLen) := by
 intro H encH W fuel cs x h
 obtain ⟨z, rfl, _, hw⟩ := DataW.trod_string ht h
 exact ⟨z, rfl, hw⟩
theorem Zax.u8 (ht : P.underlying t = some (.int .u8)) : Zax P t (fun b : BitVec 8 => [w8 b]) (fun _ => True) := by
 intro H encH W fuel cs x h
 obtain ⟨z, rfl, _, hw⟩ := DataW.trod_int ht h
 rw [Lit.wf, Bool.and_eq_true] at hw
 have h1 : (0 : Int) ≤ z := of_decide_eq_true hw.1
 have h2 : z ≤ 255 := of_decide_eq_true hw.2
 refine ⟨BitVec.ofInt 8 z, ?_, trivial⟩
 congr 2
 rw [BitVec.toNat_ofInt]; omega
theorem Zax.bytes {tb : TypeId} {n : Nat} (ht : P.underlying t = some (.array n tb)) (htb : P.underlying tb = some (.int .u8)) (hcb : P.cellsOf tb = 1) (hct : P.cellsOf t = n) : Zax P t (fun d : Nat → BitVec 8 => Z6 w8 n d) (fun _ => True) := by
  intro H encH W fuel cs x h
  obtain ⟨xs, m, _, _, hl, hxl, hel⟩ := DataW.trod_array ht h
  rw [hct] at hl
  refine ⟨fun j => match cs[j]? with | some (.int _ z) => BitVec.ofInt 8 z | _ => 0, ?_, trivial⟩
  apply List.ext_getElem?
  intro j
  rcases Nat.lt_or_ge j n with hj | hj
  · have e := hel j hj
    rw [hcb, Nat.mul_one, List.getElem?_eq_getElem (by omega)] at e
    obtain ⟨b, e1, _⟩ := Zax.u8 htb e
    have hc : cs[j]? = some (w8 b) := by
      have : ((cs.drop j).take 1)[0]? = some (w8 b) := by rw [e1]; rfl
      simpa using this
    rw [Zdo hj, hc]
    simp only []
    rw [ofI]
  · rw [List.getElem?_eq_none (by omega), List.getElem?_eq_none (by rw [Zbt]; omega)]
theorem Zax.at_ {α : Type} {enc : α → List Value} {ok : α → Prop} (ho : Zax P t enc ok) {H : Type} {encH : TypeId × Value → H} {W : World} {n off k : Nat} {cs : List Value} {xs : List (DataW H × List MemPlace)} {i : Nat} {f : Field} (hf : DataW.trod encH P W 0 (fun _ => true) true n f.type ((cs.drop f.offset).take (P.cellsOf f.type)) = xs[i]?) (hi : i < xs.length) (ht : f.type = t) (hc : P.cellsOf t = k) (hoff : f.offset = off) : ∃ a, (cs.drop off).take k = enc a ∧ ok a := by
 subst ht; subst hc; subst hoff
 rw [List.getElem?_eq_getElem hi] at hf
 exact ho hf
theorem Zbf {cs : List Value} (off k : Nat) : cs.drop off = (cs.drop off).take k ++ cs.drop (off + k) := by
 rw [← List.drop_drop]; exact (List.take_append_drop k _).symm
theorem Zax.val {α : Type} {enc : α → List Value} {ok : α → Prop} (ho : Zax P t enc ok) {H : Type} {encH : TypeId × Value → H} {W : World} {base : Nat} {v : Value} {d : DataW H} {p : List MemPlace} (hagg : (∃ fs, P.underlying t = some (.struct fs)) ∨ (∃ n e, P.underlying t = some (.array n e)))
  (hv : Value.okWide P W .any base t v) (h : DataW.Trod encH P W 0 (fun _ => true) true t v d p) : ∃ a, v = .agg (enc a).toArray ∧ ok a := by
 have hx : ∃ cs, v = .agg cs := by
  unfold Value.okWide at hv
  rcases hagg with ⟨fs, e⟩ | ⟨n, e', e⟩
  ·rw [e] at hv; obtain ⟨cs, h1, _⟩ := hv; exact ⟨cs, h1⟩
  ·rw [e] at hv; obtain ⟨cs, h1, _⟩ := hv; exact ⟨cs, h1⟩
 obtain ⟨cs, rfl⟩ := hx
 obtain ⟨fuel, hf⟩ := h
 obtain ⟨a, h1, h2⟩ := ho hf
 refine ⟨a, ?_, h2⟩
 have h1' : cs.toList = enc a := h1
 rw [← h1']
theorem Zax.one {α : Type} {enc : α → Value} {ok : α → Prop} (ho : Zax P t (fun a => [enc a]) ok) {H : Type} {encH : TypeId × Value → H} {W : World} {base : Nat} {v : Value} {d : DataW H} {p : List MemPlace} (hsc : P.underlying t = some .bool ∨ P.underlying t = some .string ∨ ∃ k, P.underlying t = some (.int k))
  (hv : Value.okWide P W .any base t v) (h : DataW.Trod encH P W 0 (fun _ => true) true t v d p) : ∃ a, v = enc a ∧ ok a := by
 obtain ⟨fuel, hf⟩ := h
 obtain ⟨a, h1, h2⟩ := ho hf
 refine ⟨a, ?_, h2⟩
 rcases hsc with e | e | ⟨k, e⟩
 ·obtain ⟨b, rfl⟩ := okWide_bool e hv
  have h1' : [Value.bool b] = [enc a] := h1
  injection h1'
 ·obtain ⟨b, rfl⟩ := okWide_string e hv
  have h1' : [Value.string b] = [enc a] := h1
  injection h1'
 ·obtain ⟨b, rfl⟩ := okWide_int e hv
  have h1' : [Value.int k b] = [enc a] := h1
  injection h1'
end
end Go.Flat
end
section
/- Opening a row of any pure things. -/
namespace Go.Flat
open Go.ChangeShapes Go.WideShapes Go.RowKit
theorem Zs1 {α : Type} {Q : Nat → α → Prop} : ∀ (n : Nat), (∀ i, i < n → ∃ a, Q i a) → ∃ xs : List α, xs.length = n ∧ ∀ i x, xs[i]? = some x → Q i x
  | 0, _ => ⟨[], rfl, fun i x h => by simp at h⟩
  | n + 1, h => by
    obtain ⟨xs, hl, hx⟩ := Zs1 n fun i hi => h i (by omega)
    obtain ⟨a, ha⟩ := h n (by omega)
    refine ⟨xs ++ [a], by simp [hl], fun i x hi => ?_⟩
    rcases Nat.lt_or_ge i n with hlt | hge
    · rw [List.getElem?_append_left (by omega)] at hi; exact hx i x hi
    · rw [List.getElem?_append_right (by omega)] at hi
      have h0 : i - xs.length = 0 := by
        rcases Nat.eq_zero_or_pos (i - xs.length) with e | e
        · exact e
        · rw [List.getElem?_eq_none (by simp; omega)] at hi; cases hi
      rw [h0] at hi
      have e : i = n := by omega
      subst e
      injection hi with hi; subst hi; exact ha
theorem Cod.row_get {α : Type} (c : Cod α) : ∀ (l : List α) (k : Nat) (v : Value), (c.row l)[k]? = some v → ∃ x, l[k / c.n]? = some x ∧ (c.enc x)[k % c.n]? = some v
 | [], k, v, h => by simp [Cod.row] at h
 | x :: l, k, v, h => by
  have hp := c.pos
  rw [show c.row (x :: l) = c.enc x ++ c.row l from by simp [Cod.row]] at h
  rcases Nat.lt_or_ge k c.n with hlt | hge
  ·rw [List.getElem?_append_left (by rw [c.len]; exact hlt)] at h
   exact ⟨x, by rw [Nat.div_eq_of_lt hlt]; rfl, by rw [Nat.mod_eq_of_lt hlt]; exact h⟩
  ·rw [List.getElem?_append_right (by rw [c.len]; exact hge), c.len] at h
   obtain ⟨y, h1, h2⟩ := c.row_get l _ _ h
   refine ⟨y, ?_, ?_⟩
   ·rw [show k / c.n = (k - c.n) / c.n + 1 from by rw [← Nat.add_div_right _ hp, Nat.sub_add_cancel hge]]; exact h1
   ·rw [Nat.mod_eq_sub_mod hge]; exact h2
section
variable {H : Type} {enc : TypeId × Value → H} {P : Program} {W : World} {α : Type} {c : Cod α} {ok : α → Prop}
theorem Zrr {te : TypeId} (ho : Zax P te c.enc ok) {fuel : Nat} {a : Addr} {x : DataW H × List MemPlace} (h : (W.cells? 0 a c.n).bind (DataW.trod enc P W 0 (fun _ => true) true fuel te) = some x) :
  ∃ y, (∀ j, j < c.n → W.cell? (a.add j) = (c.enc y)[j]?) ∧ ok y := by
 obtain ⟨cs, h1, h2⟩ := Option.bind_eq_some_iff.1 h
 obtain ⟨_, hl, hc⟩ := World.cells?_some h1
 obtain ⟨y, rfl, h3⟩ := ho h2
 exact ⟨y, hc, h3⟩
theorem Cod.row_pure (c : Cod α) (hp : ∀ x, (c.enc x).all Zbj = true) (l : List α) : ∀ v, v ∈ c.row l → Zbj v = true := by
 intro v hv
 unfold Cod.row at hv
 rw [List.mem_flatten] at hv
 obtain ⟨q, h1, h2⟩ := hv
 obtain ⟨x, _, rfl⟩ := List.mem_map.1 h1
 exact List.all_eq_true.1 (hp x) v h2
end
end Go.Flat
end
section
/- The first part of a row of things, lent. -/
namespace Go.Flat
end Go.Flat
end
