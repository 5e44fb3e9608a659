/- Walks. -/
import Derived.Test.YtlnggiomppkjmaaDoorXD
import Derived.OpenShut
set_option linter.unusedVariables false
set_option linter.unusedSimpArgs false
section
/- Opening arguments of any pure type; rows of such things. -/
namespace Go.Flat
open Go.ChangeShapes Go.WideShapes Go.RowKit
def Zai {α : Type} (P : Program) (t : TypeId) (enc : α → List Value) (ok : α → Prop) : Prop :=
  ∀ {H : Type} {encH : TypeId × Value → H} {W : World} {fuel : Nat} {cs : List Value} {x : DataW H × List MemPlace}, DataW.trod encH P W 0 (fun _ => true) true fuel t cs = some x → ∃ a, cs = enc a ∧ ok a
section
variable {P : Program} {t : TypeId}
theorem Zai.int (ht : P.underlying t = some (.int .i64)) : Zai P t (fun z : Int => [.int .i64 z]) (fun z => -9223372036854775808 ≤ z ∧ z ≤ 9223372036854775807) := by
 intro H encH W fuel cs x h
 obtain ⟨z, rfl, _, hw⟩ := DataW.trod_int ht h
 rw [Lit.wf, Bool.and_eq_true] at hw
 exact ⟨z, rfl, of_decide_eq_true hw.1, of_decide_eq_true hw.2⟩
theorem Zai.bool (ht : P.underlying t = some .bool) : Zai P t (fun b : Bool => [.bool b]) (fun _ => True) := by
 intro H encH W fuel cs x h
 obtain ⟨z, rfl, _⟩ := DataW.trod_bool ht h
 exact ⟨z, rfl, trivial⟩
theorem Zai.str (ht : P.underlying t = some .string) : Zai P t (fun s : ByteArray => [.string s]) (fun s => s.size ≤ maxLen) := by
 intro H encH W fuel cs x h
 obtain ⟨z, rfl, _, hw⟩ := DataW.trod_string ht h
 exact ⟨z, rfl, hw⟩
theorem Zai.u8 (ht : P.underlying t = some (.int .u8)) : Zai P t (fun b : BitVec 8 => [w8 b]) (fun _ => True) := by
 intro H encH W fuel cs x h
 obtain ⟨z, rfl, _, hw⟩ := DataW.trod_int ht h
 rw [Lit.wf, Bool.and_eq_true] at hw
 have h1 : (0 : Int) ≤ z := of_decide_eq_true hw.1
 have h2 : z ≤ 255 := of_decide_eq_true hw.2
 refine ⟨BitVec.ofInt 8 z, ?_, trivial⟩
 congr 2
 rw [BitVec.toNat_ofInt]; omega
theorem Zai.bytes {tb : TypeId} {n : Nat} (ht : P.underlying t = some (.array n tb)) (htb : P.underlying tb = some (.int .u8)) (hcb : P.cellsOf tb = 1) (hct : P.cellsOf t = n) : Zai P t (fun d : Nat → BitVec 8 => Zag w8 n d) (fun _ => True) := by
  intro H encH W fuel cs x h
  obtain ⟨xs, m, _, _, hl, hxl, hel⟩ := DataW.trod_array ht h
  rw [hct] at hl
  refine ⟨fun j => match cs[j]? with | some (.int _ z) => BitVec.ofInt 8 z | _ => 0, ?_, trivial⟩
  apply List.ext_getElem?
  intro j
  rcases Nat.lt_or_ge j n with hj | hj
  · have e := hel j hj
    rw [hcb, Nat.mul_one, List.getElem?_eq_getElem (by omega)] at e
    obtain ⟨b, e1, _⟩ := Zai.u8 htb e
    have hc : cs[j]? = some (w8 b) := by
      have : ((cs.drop j).take 1)[0]? = some (w8 b) := by rw [e1]; rfl
      simpa using this
    rw [Zc7 hj, hc]
    simp only []
    rw [ofI]
  · rw [List.getElem?_eq_none (by omega), List.getElem?_eq_none (by rw [Zcj]; omega)]
theorem Zai.at_ {α : Type} {enc : α → List Value} {ok : α → Prop} (ho : Zai P t enc ok) {H : Type} {encH : TypeId × Value → H} {W : World} {n off k : Nat} {cs : List Value} {xs : List (DataW H × List MemPlace)} {i : Nat} {f : Field} (hf : DataW.trod encH P W 0 (fun _ => true) true n f.type ((cs.drop f.offset).take (P.cellsOf f.type)) = xs[i]?) (hi : i < xs.length) (ht : f.type = t) (hc : P.cellsOf t = k) (hoff : f.offset = off) : ∃ a, (cs.drop off).take k = enc a ∧ ok a := by
 subst ht; subst hc; subst hoff
 rw [List.getElem?_eq_getElem hi] at hf
 exact ho hf
theorem Zax {cs : List Value} (off k : Nat) : cs.drop off = (cs.drop off).take k ++ cs.drop (off + k) := by
 rw [← List.drop_drop]; exact (List.take_append_drop k _).symm
theorem Zai.val {α : Type} {enc : α → List Value} {ok : α → Prop} (ho : Zai P t enc ok) {H : Type} {encH : TypeId × Value → H} {W : World} {base : Nat} {v : Value} {d : DataW H} {p : List MemPlace} (hagg : (∃ fs, P.underlying t = some (.struct fs)) ∨ (∃ n e, P.underlying t = some (.array n e)))
  (hv : Value.okWide P W .any base t v) (h : DataW.Trod encH P W 0 (fun _ => true) true t v d p) : ∃ a, v = .agg (enc a).toArray ∧ ok a := by
 have hx : ∃ cs, v = .agg cs := by
  unfold Value.okWide at hv
  rcases hagg with ⟨fs, e⟩ | ⟨n, e', e⟩
  ·rw [e] at hv; obtain ⟨cs, h1, _⟩ := hv; exact ⟨cs, h1⟩
  ·rw [e] at hv; obtain ⟨cs, h1, _⟩ := hv; exact ⟨cs, h1⟩
 obtain ⟨cs, rfl⟩ := hx
 obtain ⟨fuel, hf⟩ := h
 obtain ⟨a, h1, h2⟩ := ho hf
 refine ⟨a, ?_, h2⟩
 have h1' : cs.toList = enc a := h1
 rw [← h1']
theorem Zai.one {α : Type} {enc : α → Value} {ok : α → Prop} (ho : Zai P t (fun a => [enc a]) ok) {H : Type} {encH : TypeId × Value → H} {W : World} {base : Nat} {v : Value} {d : DataW H} {p : List MemPlace} (hsc : P.underlying t = some .bool ∨ P.underlying t = some .string ∨ ∃ k, P.underlying t = some (.int k))
  (hv : Value.okWide P W .any base t v) (h : DataW.Trod encH P W 0 (fun _ => true) true t v d p) : ∃ a, v = enc a ∧ ok a := by
 obtain ⟨fuel, hf⟩ := h
 obtain ⟨a, h1, h2⟩ := ho hf
 refine ⟨a, ?_, h2⟩
 rcases hsc with e | e | ⟨k, e⟩
 ·obtain ⟨b, rfl⟩ := okWide_bool e hv
  have h1' : [Value.bool b] = [enc a] := h1
  injection h1'
 ·obtain ⟨b, rfl⟩ := okWide_string e hv
  have h1' : [Value.string b] = [enc a] := h1
  injection h1'
 ·obtain ⟨b, rfl⟩ := okWide_int e hv
  have h1' : [Value.int k b] = [enc a] := h1
  injection h1'
end
end Go.Flat
end
section
/- Opening a row of any pure things. -/
namespace Go.Flat
open Go.ChangeShapes Go.WideShapes Go.RowKit
theorem Zvx {α : Type} {Q : Nat → α → Prop} : ∀ (n : Nat), (∀ i, i < n → ∃ a, Q i a) → ∃ xs : List α, xs.length = n ∧ ∀ i x, xs[i]? = some x → Q i x
  | 0, _ => ⟨[], rfl, fun i x h => by simp at h⟩
  | n + 1, h => by
    obtain ⟨xs, hl, hx⟩ := Zvx n fun i hi => h i (by omega)
    obtain ⟨a, ha⟩ := h n (by omega)
    refine ⟨xs ++ [a], by simp [hl], fun i x hi => ?_⟩
    rcases Nat.lt_or_ge i n with hlt | hge
    · rw [List.getElem?_append_left (by omega)] at hi; exact hx i x hi
    · rw [List.getElem?_append_right (by omega)] at hi
      have h0 : i - xs.length = 0 := by
        rcases Nat.eq_zero_or_pos (i - xs.length) with e | e
        · exact e
        · rw [List.getElem?_eq_none (by simp; omega)] at hi; cases hi
      rw [h0] at hi
      have e : i = n := by omega
      subst e
      injection hi with hi; subst hi; exact ha
theorem Cod.row_get {α : Type} (c : Cod α) : ∀ (l : List α) (k : Nat) (v : Value), (c.row l)[k]? = some v → ∃ x, l[k / c.n]? = some x ∧ (c.enc x)[k % c.n]? = some v
 | [], k, v, h => by simp [Cod.row] at h
 | x :: l, k, v, h => by
  have hp := c.pos
  rw [show c.row (x :: l) = c.enc x ++ c.row l from by simp [Cod.row]] at h
  rcases Nat.lt_or_ge k c.n with hlt | hge
  ·rw [List.getElem?_append_left (by rw [c.len]; exact hlt)] at h
   exact ⟨x, by rw [Nat.div_eq_of_lt hlt]; rfl, by rw [Nat.mod_eq_of_lt hlt]; exact h⟩
  ·rw [List.getElem?_append_right (by rw [c.len]; exact hge), c.len] at h
   obtain ⟨y, h1, h2⟩ := c.row_get l _ _ h
   refine ⟨y, ?_, ?_⟩
   ·rw [show k / c.n = (k - c.n) / c.n + 1 from by rw [← Nat.add_div_right _ hp, Nat.sub_add_cancel hge]]; exact h1
   ·rw [Nat.mod_eq_sub_mod hge]; exact h2
section
variable {H : Type} {enc : TypeId × Value → H} {P : Program} {W : World} {α : Type} {c : Cod α} {ok : α → Prop}
theorem Zp0 {te : TypeId} (ho : Zai P te c.enc ok) {fuel : Nat} {a : Addr} {x : DataW H × List MemPlace} (h : (W.cells? 0 a c.n).bind (DataW.trod enc P W 0 (fun _ => true) true fuel te) = some x) :
  ∃ y, (∀ j, j < c.n → W.cell? (a.add j) = (c.enc y)[j]?) ∧ ok y := by
 obtain ⟨cs, h1, h2⟩ := Option.bind_eq_some_iff.1 h
 obtain ⟨_, hl, hc⟩ := World.cells?_some h1
 obtain ⟨y, rfl, h3⟩ := ho h2
 exact ⟨y, hc, h3⟩
theorem Cod.row_pure (c : Cod α) (hp : ∀ x, (c.enc x).all Za8 = true) (l : List α) : ∀ v, v ∈ c.row l → Za8 v = true := by
 intro v hv
 unfold Cod.row at hv
 rw [List.mem_flatten] at hv
 obtain ⟨q, h1, h2⟩ := hv
 obtain ⟨x, _, rfl⟩ := List.mem_map.1 h1
 exact List.all_eq_true.1 (hp x) v h2
end
end Go.Flat
end
section
/- The first part of a row of things, lent. -/
namespace Go.Flat
end Go.Flat
end
