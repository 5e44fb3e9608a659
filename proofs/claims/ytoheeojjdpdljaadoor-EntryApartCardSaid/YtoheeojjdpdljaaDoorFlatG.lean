/- Opening arguments of any pure type; no condition. -/
import Derived.Test.YtoheeojjdpdljaaDoorFlatF
import Derived.Test.YtoheeojjdpdljaaDoorFlatD
import Derived.OpenShut
section
/- Opening arguments of any pure type; rows of such things. -/
set_option linter.unusedVariables false
namespace Go.Flat
open Go.ChangeShapes Go.WideShapes Go.RowKit
def Opens {α : Type} (P : Program) (t : TypeId) (enc : α → List Value) (ok : α → Prop) : Prop :=
  ∀ {H : Type} {encH : TypeId × Value → H} {W : World} {fuel : Nat} {cs : List Value} {x : DataW H × List MemPlace}, DataW.trod encH P W 0 (fun _ => true) true fuel t cs = some x → ∃ a, cs = enc a ∧ ok a
section
variable {P : Program} {t : TypeId}
theorem Opens.int (ht : P.underlying t = some (.int .i64)) : Opens P t (fun z : Int => [.int .i64 z]) (fun z => -9223372036854775808 ≤ z ∧ z ≤ 9223372036854775807) := by
  intro H encH W fuel cs x h
  obtain ⟨z, rfl, _, hw⟩ := DataW.trod_int ht h
  rw [Lit.wf, Bool.and_eq_true] at hw
  exact ⟨z, rfl, of_decide_eq_true hw.1, of_decide_eq_true hw.2⟩
theorem Opens.bool (ht : P.underlying t = some .bool) : Opens P t (fun b : Bool => [.bool b]) (fun _ => True) := by
  intro H encH W fuel cs x h
  obtain ⟨z, rfl, _⟩ := DataW.trod_bool ht h
  exact ⟨z, rfl, trivial⟩
theorem Opens.str (ht : P.underlying t = some .string) : Opens P t (fun s : ByteArray => [.string s]) (fun s => s.size ≤ maxLen) := by
  intro H encH W fuel cs x h
  obtain ⟨z, rfl, _, hw⟩ := DataW.trod_string ht h
  exact ⟨z, rfl, hw⟩
theorem Opens.u8 (ht : P.underlying t = some (.int .u8)) : Opens P t (fun b : BitVec 8 => [w8 b]) (fun _ => True) := by
  intro H encH W fuel cs x h
  obtain ⟨z, rfl, _, hw⟩ := DataW.trod_int ht h
  rw [Lit.wf, Bool.and_eq_true] at hw
  have h1 : (0 : Int) ≤ z := of_decide_eq_true hw.1
  have h2 : z ≤ 255 := of_decide_eq_true hw.2
  refine ⟨BitVec.ofInt 8 z, ?_, trivial⟩
  congr 2
  rw [BitVec.toNat_ofInt]; omega
theorem Opens.bytes {tb : TypeId} {n : Nat} (ht : P.underlying t = some (.array n tb)) (htb : P.underlying tb = some (.int .u8)) (hcb : P.cellsOf tb = 1) (hct : P.cellsOf t = n) : Opens P t (fun d : Nat → BitVec 8 => rowE w8 n d) (fun _ => True) := by
  intro H encH W fuel cs x h
  obtain ⟨xs, m, _, _, hl, hxl, hel⟩ := DataW.trod_array ht h
  rw [hct] at hl
  refine ⟨fun j => match cs[j]? with | some (.int _ z) => BitVec.ofInt 8 z | _ => 0, ?_, trivial⟩
  apply List.ext_getElem?
  intro j
  rcases Nat.lt_or_ge j n with hj | hj
  · have e := hel j hj
    rw [hcb, Nat.mul_one, List.getElem?_eq_getElem (by omega)] at e
    obtain ⟨b, e1, _⟩ := Opens.u8 htb e
    have hc : cs[j]? = some (w8 b) := by
      have : ((cs.drop j).take 1)[0]? = some (w8 b) := by rw [e1]; rfl
      simpa using this
    rw [rowE_get hj, hc]
    simp only []
    rw [ofI]
  · rw [List.getElem?_eq_none (by omega), List.getElem?_eq_none (by rw [rowE_len]; omega)]
theorem Opens.at_ {α : Type} {enc : α → List Value} {ok : α → Prop} (ho : Opens P t enc ok) {H : Type} {encH : TypeId × Value → H} {W : World} {n off k : Nat} {cs : List Value} {xs : List (DataW H × List MemPlace)} {i : Nat} {f : Field} (hf : DataW.trod encH P W 0 (fun _ => true) true n f.type ((cs.drop f.offset).take (P.cellsOf f.type)) = xs[i]?) (hi : i < xs.length) (ht : f.type = t) (hc : P.cellsOf t = k) (hoff : f.offset = off) : ∃ a, (cs.drop off).take k = enc a ∧ ok a := by
  subst ht; subst hc; subst hoff
  rw [List.getElem?_eq_getElem hi] at hf
  exact ho hf
theorem cut_cells {cs : List Value} (off k : Nat) : cs.drop off = (cs.drop off).take k ++ cs.drop (off + k) := by
  rw [← List.drop_drop]; exact (List.take_append_drop k _).symm
theorem Opens.val {α : Type} {enc : α → List Value} {ok : α → Prop} (ho : Opens P t enc ok) {H : Type} {encH : TypeId × Value → H} {W : World} {base : Nat} {v : Value} {d : DataW H} {p : List MemPlace} (hagg : (∃ fs, P.underlying t = some (.struct fs)) ∨ (∃ n e, P.underlying t = some (.array n e)))
    (hv : Value.okWide P W .any base t v) (h : DataW.Trod encH P W 0 (fun _ => true) true t v d p) : ∃ a, v = .agg (enc a).toArray ∧ ok a := by
  have hx : ∃ cs, v = .agg cs := by
    unfold Value.okWide at hv
    rcases hagg with ⟨fs, e⟩ | ⟨n, e', e⟩
    · rw [e] at hv; obtain ⟨cs, h1, _⟩ := hv; exact ⟨cs, h1⟩
    · rw [e] at hv; obtain ⟨cs, h1, _⟩ := hv; exact ⟨cs, h1⟩
  obtain ⟨cs, rfl⟩ := hx
  obtain ⟨fuel, hf⟩ := h
  obtain ⟨a, h1, h2⟩ := ho hf
  refine ⟨a, ?_, h2⟩
  have h1' : cs.toList = enc a := h1
  rw [← h1']
theorem Opens.one {α : Type} {enc : α → Value} {ok : α → Prop} (ho : Opens P t (fun a => [enc a]) ok) {H : Type} {encH : TypeId × Value → H} {W : World} {base : Nat} {v : Value} {d : DataW H} {p : List MemPlace} (hsc : P.underlying t = some .bool ∨ P.underlying t = some .string ∨ ∃ k, P.underlying t = some (.int k))
    (hv : Value.okWide P W .any base t v) (h : DataW.Trod encH P W 0 (fun _ => true) true t v d p) : ∃ a, v = enc a ∧ ok a := by
  obtain ⟨fuel, hf⟩ := h
  obtain ⟨a, h1, h2⟩ := ho hf
  refine ⟨a, ?_, h2⟩
  rcases hsc with e | e | ⟨k, e⟩
  · obtain ⟨b, rfl⟩ := okWide_bool e hv
    have h1' : [Value.bool b] = [enc a] := h1
    injection h1'
  · obtain ⟨b, rfl⟩ := okWide_string e hv
    have h1' : [Value.string b] = [enc a] := h1
    injection h1'
  · obtain ⟨b, rfl⟩ := okWide_int e hv
    have h1' : [Value.int k b] = [enc a] := h1
    injection h1'
end
end Go.Flat
end
section
/- Opening a row of any pure things. -/
set_option linter.unusedVariables false
set_option linter.unusedSimpArgs false
namespace Go.Flat
open Go.ChangeShapes Go.WideShapes Go.RowKit
section
variable {H : Type} {enc : TypeId × Value → H} {P : Program} {W : World} {α : Type} {c : Cod α} {ok : α → Prop}
end
end Go.Flat
end
section
/- The first part of a row of things, lent. -/
set_option linter.unusedVariables false
namespace Go.Flat
end Go.Flat
end
