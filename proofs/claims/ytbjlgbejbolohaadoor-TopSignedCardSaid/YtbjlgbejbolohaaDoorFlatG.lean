/- Walks. -/
import Derived.Test.YtbjlgbejbolohaaDoorFlatE
import Derived.Test.YtbjlgbejbolohaaDoorRef
import Derived.Test.YtbjlgbejbolohaaDoorPlain
import Derived.OpenShut
set_option linter.unusedVariables false
set_option linter.unusedSimpArgs false
set_option maxRecDepth 20000
section
/- Boxes, rows by a code, the loads that sx prints. -/
namespace Go.Flat
def bxB (n : Nat) (l : List Value) : Blk := { cells := l, sz := n, wr := true, fix := true, mv := false, pur := true }
def rfB (v : Value) : Blk := { cells := [v], sz := 1, wr := true, fix := true, mv := false, pur := false }
structure Cod (α : Type) where
  enc : α → List Value
  n : Nat
  len : ∀ x, (enc x).length = n
  pos : 0 < n
def Cod.row {α : Type} (c : Cod α) (l : List α) : List Value := (l.map c.enc).flatten
def rwB {α : Type} (c : Cod α) (l : List α) : Blk := { cells := c.row l, sz := c.n, wr := true, fix := false, mv := true, pur := true }
def rwR {α : Type} (c : Cod α) (l : List α) : Blk := { cells := c.row l, sz := c.n, wr := false, fix := false, mv := true, pur := true }
theorem Zac.res {P : Program} {G : Glob} {f : FuncId} {a : List Value} {σ σ' : List Blk} {r r' : Value} (h : Zac P G f a σ r σ') (e : r = r') : Zac P G f a σ r' σ' := e ▸ h
section
variable {α : Type} (c : Cod α)
theorem Cod.row_len (l : List α) : (c.row l).length = l.length * c.n := by
 induction l with
 | nil => simp [Cod.row]
 | cons x l ih =>
  unfold Cod.row at ih ⊢
  rw [List.map_cons, List.flatten_cons, List.length_append, ih, c.len, List.length_cons, Nat.add_mul, Nat.one_mul, Nat.add_comm]
theorem Cod.row_app (l m : List α) : c.row (l ++ m) = c.row l ++ c.row m := by simp [Cod.row]
theorem Cod.row_drop (l : List α) : ∀ i, (c.row l).drop (i * c.n) = c.row (l.drop i) := by
 induction l with
 | nil => intro i; simp [Cod.row]
 | cons x l ih =>
  intro i
  cases i with
  | zero => simp
  | succ i =>
   rw [show c.row (x :: l) = c.enc x ++ c.row l from by simp [Cod.row], show (i + 1) * c.n = (c.enc x).length + i * c.n from by rw [c.len, Nat.add_mul, Nat.one_mul, Nat.add_comm], List.drop_length_add_append, ih]
   simp
theorem Cod.row_take (l : List α) : ∀ i, (c.row l).take (i * c.n) = c.row (l.take i) := by
 induction l with
 | nil => intro i; simp [Cod.row]
 | cons x l ih =>
  intro i
  cases i with
  | zero => simp [Cod.row]
  | succ i =>
   rw [show c.row (x :: l) = c.enc x ++ c.row l from by simp [Cod.row], show (i + 1) * c.n = (c.enc x).length + i * c.n from by rw [c.len, Nat.add_mul, Nat.one_mul, Nat.add_comm], List.take_length_add_append, ih]
   simp [Cod.row]
theorem Cod.at_ [Inhabited α] {l : List α} {i : Nat} (h : i < l.length) : ((c.row l).drop (i * c.n)).take c.n = c.enc (l.getD i default) := by
 rw [c.row_drop, List.drop_eq_getElem_cons h, show c.row (l[i] :: l.drop (i + 1)) = c.enc l[i] ++ c.row (l.drop (i + 1)) from by unfold Cod.row; rw [List.map_cons, List.flatten_cons]]
 rw [List.take_append_of_le_length (by rw [c.len]; exact Nat.le_refl _), List.take_of_length_le (by rw [c.len]; exact Nat.le_refl _), List.getD_eq_getElem?_getD, List.getElem?_eq_getElem h]; rfl
theorem Cod.cell [Inhabited α] {l : List α} {i k : Nat} (h : i < l.length) (hk : k < c.n) : (c.row l)[i * c.n + k]? = (c.enc (l.getD i default))[k]? := by
 rw [← c.at_ h, List.getElem?_take, if_pos hk, List.getElem?_drop]
variable {P : Program} {G : Glob} {t : TypeId} {H : List Blk} {b : Nat} {blk : Blk} {c}
theorem Zst [Inhabited α] (c : Cod α) {l : List α} {i o m n : Nat} (hm : m = c.n) (hk : Zea P t = some (true, m)) (hb : H[b]? = some blk) (hc : blk.cells = c.row l) (hi : i < l.length) (ho : o = i * m) : Zdm P G t H (.pointer (some ⟨b, o, none⟩)) = some (.agg (c.enc (l.getD i default)).toArray) := by
 subst hm; subst ho
 refine Zcj hk hb ?_ (by rw [hc]; exact c.at_ hi)
 rw [hc, c.row_len]
 have := Nat.mul_le_mul_right c.n (Nat.succ_le_of_lt hi)
 rw [Nat.succ_mul] at this
 exact this
theorem Zzh [Inhabited α] (c : Cod α) {l : List α} {i o k m n : Nat} {v : Value} (hm : m = c.n) (hk : Zea P t = some (false, n)) (hb : H[b]? = some blk) (hc : blk.cells = c.row l) (hi : i < l.length) (ho : o = i * m + k) (hv : (c.enc (l.getD i default))[k]? = some v) (h2 : Zj1 v = true) : Zdm P G t H (.pointer (some ⟨b, o, none⟩)) = some v := by
 subst hm; subst ho
 refine Ziv hk hb ?_ h2
 have hkn : k < c.n := by
  have := (List.getElem?_eq_some_iff.1 hv).1
  rw [c.len] at this; exact this
 rw [hc, c.cell hi hkn, hv]
theorem Zm3 [Inhabited α] (c : Cod α) {l : List α} {i o k m n : Nat} {cs : List Value} (hm : m = c.n) (hk : Zea P t = some (true, n)) (hb : H[b]? = some blk) (hc : blk.cells = c.row l) (hi : i < l.length) (ho : o = i * m + k) (hkn : k + n ≤ m) (hv : ((c.enc (l.getD i default)).drop k).take n = cs) : Zdm P G t H (.pointer (some ⟨b, o, none⟩)) = some (.agg cs.toArray) := by
 subst hm; subst ho
 have hl := c.row_len l
 have := Nat.mul_le_mul_right c.n (Nat.succ_le_of_lt hi)
 rw [Nat.succ_mul] at this
 refine Zcj hk hb (by rw [hc, hl]; omega) ?_
 rw [hc, ← hv, ← c.at_ hi, List.drop_take, List.take_take, List.drop_drop, Nat.min_eq_left (by omega)]
end
section
variable {P : Program} {t : TypeId} {x y : Operand}
theorem Zy1 {k : IntKind} {w : Nat} {a b : BitVec w} : Zb0 P .eql t x y (.int k (a.toNat : Int)) (.int k (b.toNat : Int)) = some (.bool (a == b)) := by
 rw [Zsd]
 congr 2
 rw [Bool.eq_iff_iff, beq_iff_eq, decide_eq_true_iff, BitVec.toNat_inj.symm]; omega
end
end Go.Flat
end
namespace Go.Flat
open Go.Proofs
def dz : D := fun _ => 0
section
variable {P : Program} {G : Glob} {t : TypeId} {H : List Blk} {b : Nat} {blk : Blk}
theorem Zoe {l : List D} {i o : Nat} (hk : Zea P t = some (true, 32)) (hb : H[b]? = some blk) (hc : blk.cells = dsC l) (hi : i < l.length) (ho : o = i * 32) : Zdm P G t H (.pointer (some ⟨b, o, none⟩)) = some (dgV (l.getD i d0)) := by
 subst ho
 refine Zcj hk hb ?_ (by rw [hc]; exact Zhy l i hi)
 rw [hc, Zat]; omega
theorem Zoa {e : Emb} {id : Nat} {ds : List D} (hB : H[id]? = some (dsR ds)) : Zc0 H e (some (id, 0)) (dsR ds) :=
 Zbu hB rfl (by show 0 + (dsC _).length ≤ (dsC _).length; omega) (Zce _)
theorem Zkr {e : Emb} {id : Nat} {ds : List D} (hB : H[id]? = some (dsB ds)) : Zc0 H e (some (id, 0)) (dsR ds) := Z6k hB
theorem Z3g {α : Type} {c : Cod α} {e : Emb} {id : Nat} {l : List α} (hB : H[id]? = some (rwB c l)) : Zc0 H e (some (id, 0)) (rwR c l) :=
 Zbu hB (by show (decide (0 < c.n) && decide (0 < c.n) && _ && (_ || c.n == c.n) && _ && _) = true; simp [c.pos, rwR, rwB]) (by show 0 + (c.row _).length ≤ (c.row _).length; omega) (by show ((c.row l).drop 0).take (c.row l).length = c.row l; simp)
end
def txB (ts : List ByteArray) : Blk := { cells := ts.map Value.string, sz := 1, wr := true, fix := false, mv := true, pur := true }
theorem Zhg {e : Emb} {id : Nat} {ts : List ByteArray} {H : List Blk} (hB : H[id]? = some (txB ts)) : Zc0 H e (some (id, 0)) (Za8 ts) :=
 Zbu hB rfl (by show 0 + (ts.map Value.string).length ≤ (ts.map Value.string).length; omega) (by show ((ts.map Value.string).drop 0).take (ts.map Value.string).length = ts.map Value.string; rw [List.drop_zero, List.take_length])
theorem Zsj {e : Emb} {id : Nat} {ts : List ByteArray} {H : List Blk} (hB : H[id]? = some (Za8 ts)) : Zc0 H e (some (id, 0)) (Za8 ts) :=
 Zbu hB rfl (by show 0 + (ts.map Value.string).length ≤ (ts.map Value.string).length; omega) (by show ((ts.map Value.string).drop 0).take (ts.map Value.string).length = ts.map Value.string; rw [List.drop_zero, List.take_length])
def Zrq (a b : ByteArray) : Bool := a.toList == b.toList
theorem Zgs (n : Nat) (a : D) : Zbm n a a = true := by simp [Zbm]
theorem Zx4 {P : Program} {t : TypeId} {x y : Operand} (a b : ByteArray) : Zb0 P .neq t x y (.string a) (.string b) = some (.bool (!Zrq a b)) := by
 unfold Zb0
 rw [if_pos (show (Zbk (.string a) && Zbk (.string b)) = true from rfl)]
 have hg : Z8 P (eqGuard .neq t x y (.string a) (.string b)) = some () := rfl
 rw [Z9, hg, Option.bind_some]
 have e : binOp .neq t (.string a) (.string b) = Op.stringOp .neq a b := rfl
 rw [e]
 rfl
variable {G : Glob}
end Go.Flat
section
/- Opening arguments of any pure type; rows of such things. -/
namespace Go.Flat
open Go.ChangeShapes Go.WideShapes Go.RowKit
def Zdw {α : Type} (P : Program) (t : TypeId) (enc : α → List Value) (ok : α → Prop) : Prop :=
  ∀ {H : Type} {encH : TypeId × Value → H} {W : World} {fuel : Nat} {cs : List Value} {x : DataW H × List MemPlace}, DataW.trod encH P W 0 (fun _ => true) true fuel t cs = some x → ∃ a, cs = enc a ∧ ok a
section
variable {P : Program} {t : TypeId}
theorem Zdw.int (ht : P.underlying t = some (.int .i64)) : Zdw P t (fun z : Int => [.int .i64 z]) (fun z => -9223372036854775808 ≤ z ∧ z ≤ 9223372036854775807) := by
 intro H encH W fuel cs x h
 obtain ⟨z, rfl, _, hw⟩ := DataW.trod_int ht h
 rw [Lit.wf, Bool.and_eq_true] at hw
 exact ⟨z, rfl, of_decide_eq_true hw.1, of_decide_eq_true hw.2⟩
theorem Zdw.bool (ht : P.underlying t = some .bool) : Zdw P t (fun b : Bool => [.bool b]) (fun _ => True) := by
 intro H encH W fuel cs x h
 obtain ⟨z, rfl, _⟩ := DataW.trod_bool ht h
 exact ⟨z, rfl, trivial⟩
theorem Zdw.str (ht : P.underlying t = some .string) : Zdw P t (fun s : ByteArray => [.string s]) (fun s => s.size ≤ maxLen) := by
 intro H encH W fuel cs x h
 obtain ⟨z, rfl, _, hw⟩ := DataW.trod_string ht h
 exact ⟨z, rfl, hw⟩
theorem Zdw.u8 (ht : P.underlying t = some (.int .u8)) : Zdw P t (fun b : BitVec 8 => [w8 b]) (fun _ => True) := by
 intro H encH W fuel cs x h
 obtain ⟨z, rfl, _, hw⟩ := DataW.trod_int ht h
 rw [Lit.wf, Bool.and_eq_true] at hw
 have h1 : (0 : Int) ≤ z := of_decide_eq_true hw.1
 have h2 : z ≤ 255 := of_decide_eq_true hw.2
 refine ⟨BitVec.ofInt 8 z, ?_, trivial⟩
 congr 2
 rw [BitVec.toNat_ofInt]; omega
theorem Zdw.bytes {tb : TypeId} {n : Nat} (ht : P.underlying t = some (.array n tb)) (htb : P.underlying tb = some (.int .u8)) (hcb : P.cellsOf tb = 1) (hct : P.cellsOf t = n) : Zdw P t (fun d : Nat → BitVec 8 => Zaa w8 n d) (fun _ => True) := by
  intro H encH W fuel cs x h
  obtain ⟨xs, m, _, _, hl, hxl, hel⟩ := DataW.trod_array ht h
  rw [hct] at hl
  refine ⟨fun j => match cs[j]? with | some (.int _ z) => BitVec.ofInt 8 z | _ => 0, ?_, trivial⟩
  apply List.ext_getElem?
  intro j
  rcases Nat.lt_or_ge j n with hj | hj
  · have e := hel j hj
    rw [hcb, Nat.mul_one, List.getElem?_eq_getElem (by omega)] at e
    obtain ⟨b, e1, _⟩ := Zdw.u8 htb e
    have hc : cs[j]? = some (w8 b) := by
      have : ((cs.drop j).take 1)[0]? = some (w8 b) := by rw [e1]; rfl
      simpa using this
    rw [Zco hj, hc]
    simp only []
    rw [ofI]
  · rw [List.getElem?_eq_none (by omega), List.getElem?_eq_none (by rw [Zbl]; omega)]
theorem Zdw.at_ {α : Type} {enc : α → List Value} {ok : α → Prop} (ho : Zdw P t enc ok) {H : Type} {encH : TypeId × Value → H} {W : World} {n off k : Nat} {cs : List Value} {xs : List (DataW H × List MemPlace)} {i : Nat} {f : Field} (hf : DataW.trod encH P W 0 (fun _ => true) true n f.type ((cs.drop f.offset).take (P.cellsOf f.type)) = xs[i]?) (hi : i < xs.length) (ht : f.type = t) (hc : P.cellsOf t = k) (hoff : f.offset = off) : ∃ a, (cs.drop off).take k = enc a ∧ ok a := by
 subst ht; subst hc; subst hoff
 rw [List.getElem?_eq_getElem hi] at hf
 exact ho hf
theorem Zdw.val {α : Type} {enc : α → List Value} {ok : α → Prop} (ho : Zdw P t enc ok) {H : Type} {encH : TypeId × Value → H} {W : World} {base : Nat} {v : Value} {d : DataW H} {p : List MemPlace} (hagg : (∃ fs, P.underlying t = some (.struct fs)) ∨ (∃ n e, P.underlying t = some (.array n e)))
  (hv : Value.okWide P W .any base t v) (h : DataW.Trod encH P W 0 (fun _ => true) true t v d p) : ∃ a, v = .agg (enc a).toArray ∧ ok a := by
 have hx : ∃ cs, v = .agg cs := by
  unfold Value.okWide at hv
  rcases hagg with ⟨fs, e⟩ | ⟨n, e', e⟩
  ·rw [e] at hv; obtain ⟨cs, h1, _⟩ := hv; exact ⟨cs, h1⟩
  ·rw [e] at hv; obtain ⟨cs, h1, _⟩ := hv; exact ⟨cs, h1⟩
 obtain ⟨cs, rfl⟩ := hx
 obtain ⟨fuel, hf⟩ := h
 obtain ⟨a, h1, h2⟩ := ho hf
 refine ⟨a, ?_, h2⟩
 have h1' : cs.toList = enc a := h1
 rw [← h1']
theorem Zdw.one {α : Type} {enc : α → Value} {ok : α → Prop} (ho : Zdw P t (fun a => [enc a]) ok) {H : Type} {encH : TypeId × Value → H} {W : World} {base : Nat} {v : Value} {d : DataW H} {p : List MemPlace} (hsc : P.underlying t = some .bool ∨ P.underlying t = some .string ∨ ∃ k, P.underlying t = some (.int k))
  (hv : Value.okWide P W .any base t v) (h : DataW.Trod encH P W 0 (fun _ => true) true t v d p) : ∃ a, v = enc a ∧ ok a := by
 obtain ⟨fuel, hf⟩ := h
 obtain ⟨a, h1, h2⟩ := ho hf
 refine ⟨a, ?_, h2⟩
 rcases hsc with e | e | ⟨k, e⟩
 ·obtain ⟨b, rfl⟩ := okWide_bool e hv
  have h1' : [Value.bool b] = [enc a] := h1
  injection h1'
 ·obtain ⟨b, rfl⟩ := okWide_string e hv
  have h1' : [Value.string b] = [enc a] := h1
  injection h1'
 ·obtain ⟨b, rfl⟩ := okWide_int e hv
  have h1' : [Value.int k b] = [enc a] := h1
  injection h1'
end
end Go.Flat
end
section
/- Opening a row of any pure things. -/
namespace Go.Flat
open Go.ChangeShapes Go.WideShapes Go.RowKit
theorem Zx3 {α : Type} {Q : Nat → α → Prop} : ∀ (n : Nat), (∀ i, i < n → ∃ a, Q i a) → ∃ xs : List α, xs.length = n ∧ ∀ i x, xs[i]? = some x → Q i x
  | 0, _ => ⟨[], rfl, fun i x h => by simp at h⟩
  | n + 1, h => by
    obtain ⟨xs, hl, hx⟩ := Zx3 n fun i hi => h i (by omega)
    obtain ⟨a, ha⟩ := h n (by omega)
    refine ⟨xs ++ [a], by simp [hl], fun i x hi => ?_⟩
    rcases Nat.lt_or_ge i n with hlt | hge
    · rw [List.getElem?_append_left (by omega)] at hi; exact hx i x hi
    · rw [List.getElem?_append_right (by omega)] at hi
      have h0 : i - xs.length = 0 := by
        rcases Nat.eq_zero_or_pos (i - xs.length) with e | e
        · exact e
        · rw [List.getElem?_eq_none (by simp; omega)] at hi; cases hi
      rw [h0] at hi
      have e : i = n := by omega
      subst e
      injection hi with hi; subst hi; exact ha
theorem Cod.row_get {α : Type} (c : Cod α) : ∀ (l : List α) (k : Nat) (v : Value), (c.row l)[k]? = some v → ∃ x, l[k / c.n]? = some x ∧ (c.enc x)[k % c.n]? = some v
 | [], k, v, h => by simp [Cod.row] at h
 | x :: l, k, v, h => by
  have hp := c.pos
  rw [show c.row (x :: l) = c.enc x ++ c.row l from by simp [Cod.row]] at h
  rcases Nat.lt_or_ge k c.n with hlt | hge
  ·rw [List.getElem?_append_left (by rw [c.len]; exact hlt)] at h
   exact ⟨x, by rw [Nat.div_eq_of_lt hlt]; rfl, by rw [Nat.mod_eq_of_lt hlt]; exact h⟩
  ·rw [List.getElem?_append_right (by rw [c.len]; exact hge), c.len] at h
   obtain ⟨y, h1, h2⟩ := c.row_get l _ _ h
   refine ⟨y, ?_, ?_⟩
   ·rw [show k / c.n = (k - c.n) / c.n + 1 from by rw [← Nat.add_div_right _ hp, Nat.sub_add_cancel hge]]; exact h1
   ·rw [Nat.mod_eq_sub_mod hge]; exact h2
section
variable {H : Type} {enc : TypeId × Value → H} {P : Program} {W : World} {α : Type} {c : Cod α} {ok : α → Prop}
theorem Zrk {te : TypeId} (ho : Zdw P te c.enc ok) {fuel : Nat} {a : Addr} {x : DataW H × List MemPlace} (h : (W.cells? 0 a c.n).bind (DataW.trod enc P W 0 (fun _ => true) true fuel te) = some x) :
  ∃ y, (∀ j, j < c.n → W.cell? (a.add j) = (c.enc y)[j]?) ∧ ok y := by
 obtain ⟨cs, h1, h2⟩ := Option.bind_eq_some_iff.1 h
 obtain ⟨_, hl, hc⟩ := World.cells?_some h1
 obtain ⟨y, rfl, h3⟩ := ho h2
 exact ⟨y, hc, h3⟩
theorem Zzo {t te : TypeId} (ho : Zdw P te c.enc ok) {base : Nat} {v : Value} {d : DataW H} {p : List MemPlace} (ht : P.underlying t = some (.slice te)) (hce : P.cellsOf te = c.n)
  (hv : Value.okWide P W .any base t v) (h : DataW.Trod enc P W 0 (fun _ => true) true t v d p) :
  ∃ (xs : List α) (cap : Nat) (r : Reg), xs.length ≤ cap ∧ cap ≤ maxLen ∧ r.wr = false ∧ r.fix = false ∧ r.len = xs.length * c.n ∧ r.sz = c.n ∧ r.mv = true ∧ (∀ x, x ∈ xs → ok x) ∧ (∀ k v, (c.row xs)[k]? = some v → W.cell? ⟨r.g, r.lo + k, none⟩ = some v) ∧ ∀ (m : MapM) (b : Nat), m b = some r → VR m (slv b 0 xs.length cap) v := by
 obtain ⟨a0, len0, cap0, rfl⟩ := okWide_slice ht hv
 obtain ⟨fuel, hf⟩ := h
 have hn := c.pos
 rcases DataW.trod_slice ht hf with ⟨hcs, _⟩ | ⟨a, len, cap, elems, rest, k, _, hcs, _, _, hl, hmx, hlen, hel, hsp, _⟩
 ·have hcs' : Value.slice a0 len0 cap0 = .slice none 0 0 := by simpa [Value.cells] using hcs
  injection hcs' with e1 e2 e3
  subst e1; subst e2; subst e3
  refine ⟨[], 0, ⟨0, 0, 0, 0, c.n, false, false, true⟩, Nat.le_refl _, Nat.zero_le _, rfl, rfl, by simp, rfl, rfl, fun x hx => by simp at hx, fun k v hk => by simp [Cod.row] at hk, fun m b hb => ?_⟩
  exact ⟨_, none, 0, hb, rfl, Nat.le_refl _, Nat.le_refl _, fun h => by omega⟩
 ·have hcs' : Value.slice a0 len0 cap0 = .slice (some a) len cap := by simpa [Value.cells] using hcs
  injection hcs' with e1 e2 e3
  subst e1; subst e2; subst e3
  obtain ⟨xs, hxl, hxs⟩ := Zx3 (Q := fun i y => (∀ j, j < c.n → W.cell? ((a.add (i * c.n)).add j) = (c.enc y)[j]?) ∧ ok y) len0 fun i hi => by
   have e := hel i hi
   rw [hce, List.getElem?_eq_getElem (by omega)] at e
   exact Zrk ho e
  have hcell : ∀ k v, (c.row xs)[k]? = some v → W.cell? ⟨a.block, a.off + k, none⟩ = some v := by
   intro k v hk
   obtain ⟨y, h1, h2⟩ := c.row_get xs k v hk
   have h3 := (hxs _ _ h1).1 (k % c.n) (Nat.mod_lt _ hn)
   rw [h2, Zw6, Nat.mul_comm, Nat.div_add_mod] at h3
   exact Z0y h3
  have hspot : 0 < cap0 → a.spot = none := by
   intro hc
   have key : ∀ {fuel : Nat} {x : DataW H × List MemPlace}, (W.cells? 0 (a.add (0 * c.n)) c.n).bind (DataW.trod enc P W 0 (fun _ => true) true fuel te) = some x → a.spot = none := by
    intro fuel x h
    obtain ⟨y, h1, _⟩ := Zrk ho h
    have h2 := h1 0 hn
    rw [Zw6, Nat.zero_mul, List.getElem?_eq_getElem (by rw [c.len]; exact hn)] at h2
    exact Zvm h2
   rcases Nat.eq_zero_or_pos len0 with h0 | h0
   ·subst h0
    obtain ⟨s1, s2⟩ := hsp rfl
    have e := s2 0 (by omega)
    rw [hce, List.getElem?_eq_getElem (by omega)] at e
    exact key e
   ·have e := hel 0 h0
    rw [hce, List.getElem?_eq_getElem (by omega)] at e
    exact key e
  refine ⟨xs, cap0, ⟨a.block, a.off, a.off + cap0 * c.n, xs.length * c.n, c.n, false, false, true⟩, by omega, hmx, rfl, rfl, rfl, rfl, rfl, ?_, hcell, fun m b hb => ?_⟩
  ·intro x hx
   obtain ⟨i, hi⟩ := List.getElem?_of_mem hx
   exact (hxs i x hi).2
  ·rw [hxl]
   refine ⟨_, some a, cap0, hb, rfl, hl, Nat.le_refl _, fun hc => ⟨?_, fun _ => ?_⟩⟩
   ·have := hspot hc
    obtain ⟨g, o, s⟩ := a
    simp only at this
    subst this
    rfl
   ·show a.off + 0 + cap0 * c.n ≤ a.off + cap0 * c.n
    omega
theorem Cod.row_pure (c : Cod α) (hp : ∀ x, (c.enc x).all Zbh = true) (l : List α) : ∀ v, v ∈ c.row l → Zbh v = true := by
 intro v hv
 unfold Cod.row at hv
 rw [List.mem_flatten] at hv
 obtain ⟨q, h1, h2⟩ := hv
 obtain ⟨x, _, rfl⟩ := List.mem_map.1 h1
 exact List.all_eq_true.1 (hp x) v h2
theorem HRel.addRw {G : Glob} {m : MapM} {σ : List Blk} (h : HRel G m σ W) (hm : ∀ b r, m b = some r → r.wr = false) {t te : TypeId} (c : Cod α) (ho : Zdw P te c.enc ok) {base : Nat} {v : Value} {d : DataW H} {p : List MemPlace} (ht : P.underlying t = some (.slice te)) (hce : P.cellsOf te = c.n) (hp : ∀ x, (c.enc x).all Zbh = true)
  (hv : Value.okWide P W .any base t v) (htr : DataW.Trod enc P W 0 (fun _ => true) true t v d p) :
  ∃ (xs : List α) (cap : Nat) (m' : MapM), xs.length ≤ cap ∧ cap ≤ 9223372036854775807 ∧ (∀ x, x ∈ xs → ok x) ∧ HRel G m' (σ ++ [rwR c xs]) W ∧ (∀ b r, m' b = some r → r.wr = false) ∧ (∀ b r, m b = some r → m' b = some r) ∧ VR m' (slv σ.length 0 xs.length cap) v := by
 obtain ⟨xs, cap, r, h1, h2, r1, r2, r3, r4, r5, h6, h3, h4⟩ := Zzo ho ht hce hv htr
 obtain ⟨g1, g2, g3⟩ := h.addRow hm (blk := rwR c xs) (r := r) rfl c.pos r1 r2 (by show _ = (c.row xs).length; rw [c.row_len, r3]) r4 r5 (fun i v hv => ⟨v, h3 i v hv, CR.of_pure (c.row_pure hp xs v (List.mem_of_getElem? hv))⟩) (fun _ v hv => c.row_pure hp xs v hv)
 exact ⟨xs, cap, _, h1, h2, h6, g1, g2, g3, h4 _ _ (if_pos rfl)⟩
end
end Go.Flat
end
section
/- The first part of a row of things, lent. -/
namespace Go.Flat
end Go.Flat
end
