/- Rows of bytes: loads, texts, lendings. -/
import Derived.Test.YthfklplpfbmkgaaDoorRef
import Derived.Test.YthfklplpfbmkgaaDoorXD
import Derived.Test.YthfklplpfbmkgaaDoorFlatI
import Derived.Laws.Strings
set_option linter.unusedVariables false
set_option linter.unusedSimpArgs false
set_option maxRecDepth 20000
namespace Go.Flat
open Go.Proofs
def rdB (l : Bs) : Blk := { cells := l.map w8, sz := 1, wr := false, fix := false, mv := true, pur := true }
def rowL (n : Nat) (d : D) : Bs := (List.range n).map d
theorem rowL_len (n : Nat) (d : D) : (rowL n d).length = n := by simp [rowL]
theorem rowE_rowL (n : Nat) (d : D) : rowE w8 n d = (rowL n d).map w8 := by unfold rowE rowL; rw [List.map_map]; rfl
theorem strOf_bl (s : ByteArray) : strOf (bl s) = s := by
  unfold bl strOf
  simp only [List.map_map]
  have : (UInt8.ofBitVec ∘ UInt8.toBitVec) = (id : UInt8 → UInt8) := rfl
  rw [this, List.map_id]
theorem sameT_iff (a b : ByteArray) : sameT a b = true ↔ a = b := by
  unfold sameT
  rw [beq_iff_eq]
  constructor
  · intro h
    rw [Go.ByteArray.toList_eq, Go.ByteArray.toList_eq] at h
    have h2 := Array.toList_inj.1 h
    cases a; cases b; dsimp only at h2; rw [h2]
  · intro h; rw [h]
theorem argV_p {e : Emb} {res v : Value} (hp : pureV res = true) (h : v = res) : argV e res v := by unfold argV; rw [if_pos hp]; exact h
theorem sameT_nil_t {a : ByteArray} (h : sameT a ⟨#[]⟩ = true) : a.size = 0 := by rw [(sameT_iff _ _).1 h]; rfl
theorem sameT_nil_f {a : ByteArray} (h : sameT a ⟨#[]⟩ = false) : 1 ≤ a.size := by
  rcases Nat.eq_zero_or_pos a.size with h0 | h0
  · have : a = ⟨#[]⟩ := by
      rw [← strOf_bl a]
      have hl : (bl a).length = 0 := by rw [bl_len]; exact h0
      rw [List.eq_nil_of_length_eq_zero hl]; rfl
    rw [(sameT_iff _ _).2 this] at h; cases h
  · exact h0
section
variable {P : Program} {G : Glob} {t : TypeId} {H : List Blk} {b o n c : Nat} {blk : Blk} {l : Bs}
theorem load_byte (hk : kindA P t = some (false, 1)) (hb : H[b]? = some blk) (hc : blk.cells = l.map w8) (hi : o < l.length) : loadA P G t H (.pointer (some ⟨b, o, none⟩)) = some (w8 (l.getD o 0)) :=
  loadA_at hk hb (by rw [hc]; simp [hi]) rfl
theorem str_row {src dst e : TypeId} {x : ByteArray} (h1 : P.underlying src = some (.slice e)) (h2 : P.underlying dst = some .string) (h3 : isByteT P e = true) (hb : H[b]? = some blk) (hc : blk.cells = l.map w8) (hl : o + n ≤ l.length) (hx : strOf ((l.drop o).take n) = x) : strD P H src dst (slv b o n c) = some (.string x) := by
  subst hx
  exact strD_row h1 h2 h3 hb (by rw [hc]; simpa using hl) (by rw [hc, List.map_take, List.map_drop])
theorem str_whole {src dst e : TypeId} (h1 : P.underlying src = some (.slice e)) (h2 : P.underlying dst = some .string) (h3 : isByteT P e = true) (hb : H[b]? = some blk) (hc : blk.cells = l.map w8) (hl : n = l.length) : strD P H src dst (slv b 0 n c) = some (.string (strOf l)) :=
  str_row h1 h2 h3 hb hc (by omega) (by rw [List.drop_zero, List.take_of_length_le (by omega)])
theorem bytes_of {src dst e : TypeId} {s : ByteArray} {nid : Nat} (h1 : P.underlying src = some .string) (h2 : P.underlying dst = some (.slice e)) (h3 : (isByteT P e && freeA H nid) = true) : toBytesD P H src dst (.string s) nid = some (slv nid 0 s.size s.size, rowB (bl s)) := by
  unfold toBytesD
  rw [h1, h2]
  simp only [h3, if_true, bytesV_bl]
  rfl
theorem emb_rd {e : Emb} {id : Nat} {l : Bs} (hB : H[id]? = some (rdB l)) : embOneM H e (some (id, 0)) (rdB l) :=
  emb_ro hB rfl (by show 0 + (l.map w8).length ≤ (l.map w8).length; omega) (by show ((l.map w8).drop 0).take (l.map w8).length = l.map w8; rw [List.drop_zero, List.take_length])
theorem emb_rdW {e : Emb} {id : Nat} {l : Bs} (hB : H[id]? = some (rowB l)) : embOneM H e (some (id, 0)) (rdB l) :=
  emb_ro hB rfl (by show 0 + (l.map w8).length ≤ (l.map w8).length; omega) (by show ((l.map w8).drop 0).take (l.map w8).length = l.map w8; rw [List.drop_zero, List.take_length])
theorem emb_rdS {e : Emb} {id o n : Nat} {l : Bs} {B : Blk} (hB : H[id]? = some B) (hb : B = rdB l ∨ B = rowB l) (h : o + n ≤ l.length) : embOneM H e (some (id, o)) (rdB ((l.drop o).take n)) := by
  have hc : B.cells = l.map w8 := by rcases hb with rfl | rfl <;> rfl
  refine emb_ro hB (by rcases hb with rfl | rfl <;> rfl) ?_ ?_
  · rw [hc]; show o + (((l.drop o).take n).map w8).length ≤ _; simp; omega
  · rw [hc]; show ((l.map w8).drop o).take (((l.drop o).take n).map w8).length = ((l.drop o).take n).map w8
    rw [List.length_map, ← List.map_drop, ← List.map_take]
    congr 1
    rw [List.length_take, List.take_eq_take_iff]; simp
end


section
variable {P : Program} {G : Glob} {t : TypeId} {H : List Blk} {b o n c k n' by_ : Nat} {blk : Blk} {zc : List Value}
theorem load_tx {l : List ByteArray} (hk : kindA P t = some (false, 1)) (hb : H[b]? = some blk) (hc : blk.cells = l.map Value.string) (hi : o < l.length) : loadA P G t H (.pointer (some ⟨b, o, none⟩)) = some (.string (l.getD o ⟨#[]⟩)) :=
  loadA_at hk hb (by rw [hc]; simp [hi]) rfl
theorem tx_pure (l : List ByteArray) : (l.map Value.string).all pureC = true := by simp only [List.all_map, List.all_eq_true]; intros; rfl
theorem appD_tx {q : Value} {ls ms : List ByteArray} (ht : sliceTyA P t = some (1, zc, by_)) (hz : zc.length = 1) (hs : srcA H 1 q = some (k, ms.map Value.string)) (hb : H[b]? = some (txB ls)) (hn : ls.length = n) (hk : n + k = n') (hby : 0 < by_) (hm : n' * by_ ≤ 140737488355328) :
    appD P H t (slv b 0 n c) q = some (slv b 0 n' n', b, txB (ls ++ ms)) := by
  have hc : (txB ls).cells.length = n := by show (ls.map Value.string).length = _; simp [hn]
  rw [appD_pure (n' := n') (p := (k, ms.map Value.string)) ht hs hb rfl rfl hz (tx_pure ms) (by rw [hc]; omega) hby hk hm]
  have : List.take (n * 1) (List.drop 0 (txB ls).cells) ++ ms.map Value.string = (ls ++ ms).map Value.string := by
    rw [List.drop_zero, List.take_of_length_le (by rw [hc]; omega), List.map_append]; rfl
  simp only [this]
  rfl
theorem appD_rw {α : Type} (cd : Cod α) {q : Value} {ls ms : List α} {cs : List Value} (hp : ∀ x, (cd.enc x).all pureC = true) (ht : sliceTyA P t = some (cd.n, zc, by_)) (hz : zc.length = cd.n) (hs : srcA H cd.n q = some (k, cs)) (hcs : cs = cd.row ms) (hb : H[b]? = some (rwB cd ls)) (hn : ls.length = n) (hk : n + k = n') (hby : 0 < by_) (hm : n' * by_ ≤ 140737488355328) :
    appD P H t (slv b 0 n c) q = some (slv b 0 n' n', b, rwB cd (ls ++ ms)) := by
  subst hcs
  have hc : (rwB cd ls).cells.length = n * cd.n := by show (cd.row ls).length = _; rw [cd.row_len, hn]
  have hpp : (cd.row ms).all pureC = true := by
    unfold Cod.row
    rw [List.all_eq_true]
    intro v hv
    obtain ⟨l, hl, hv⟩ := List.mem_flatten.1 hv
    obtain ⟨x, hx, rfl⟩ := List.mem_map.1 hl
    exact List.all_eq_true.1 (hp x) v hv
  rw [appD_pure (n' := n') (p := (k, cd.row ms)) ht hs hb rfl rfl hz hpp (by rw [hc]; omega) hby hk hm]
  have : List.take (n * cd.n) (List.drop 0 (rwB cd ls).cells) ++ cd.row ms = cd.row (ls ++ ms) := by
    rw [List.drop_zero, List.take_of_length_le (by rw [hc]; exact Nat.le_refl _), cd.row_app]; rfl
  simp only [this]
  rfl
theorem srcA_by {l : Bs} (hb : H[b]? = some blk) (hc : blk.cells = l.map w8) (hl : o + n ≤ l.length) : srcA H 1 (slv b o n c) = some (n, ((l.drop o).take n).map w8) :=
  srcA_row (sz := 1) hb (by rw [hc, Nat.mul_one]; simpa using hl) (by rw [hc, Nat.mul_one, List.map_take, List.map_drop])
theorem srcA_byW {l : Bs} (hb : H[b]? = some blk) (hc : blk.cells = l.map w8) (hl : n = l.length) : srcA H 1 (slv b 0 n c) = some (n, l.map w8) := by
  rw [srcA_by hb hc (by omega), List.drop_zero, List.take_of_length_le (by omega)]
end
theorem strIdx_bl {P : Program} {t : TypeId} {s : ByteArray} {k : IntKind} {i : Int} {n : Nat} (hu : P.underlying t = some .string) (hi : i = (n : Int)) (hn : n < s.size) : strIdx P t (.string s) (.int k i) = some (w8 ((bl s).getD n 0)) := by
  rw [strIdx_ok hu hi hn]
  have hl : n < s.data.toList.length := by simpa using hn
  have e : (bl s).getD n 0 = s.data.toList[n].toBitVec := by
    unfold bl
    rw [List.getD_eq_getElem?_getD, List.getElem?_map, List.getElem?_eq_getElem hl]; rfl
  rw [e]; rfl
def cStr : Cod ByteArray := ⟨fun s => [.string s], 1, fun _ => rfl, by decide⟩
end Go.Flat
