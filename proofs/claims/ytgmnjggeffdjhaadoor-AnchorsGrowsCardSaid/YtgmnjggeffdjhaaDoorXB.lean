/- Rows of bytes: loads, texts, lendings. -/
import Derived.Test.YtgmnjggeffdjhaaDoorRef
import Derived.Test.YtgmnjggeffdjhaaDoorXD
import Derived.Test.YtgmnjggeffdjhaaDoorFlatI
import Derived.Laws.Strings
set_option linter.unusedVariables false
set_option linter.unusedSimpArgs false
set_option maxRecDepth 20000
namespace Go.Flat
open Go.Proofs
def rdB (l : Bs) : Blk := { cells := l.map w8, sz := 1, wr := false, fix := false, mv := true, pur := true }
def rowL (n : Nat) (d : D) : Bs := (List.range n).map d
theorem rowL_len (n : Nat) (d : D) : (rowL n d).length = n := by simp [rowL]
theorem rowE_rowL (n : Nat) (d : D) : rowE w8 n d = (rowL n d).map w8 := by unfold rowE rowL; rw [List.map_map]; rfl
theorem argV_p {e : Emb} {res v : Value} (hp : pureV res = true) (h : v = res) : argV e res v := by unfold argV; rw [if_pos hp]; exact h
section
variable {P : Program} {G : Glob} {t : TypeId} {H : List Blk} {b o n c : Nat} {blk : Blk} {l : Bs}
theorem str_row {src dst e : TypeId} {x : ByteArray} (h1 : P.underlying src = some (.slice e)) (h2 : P.underlying dst = some .string) (h3 : isByteT P e = true) (hb : H[b]? = some blk) (hc : blk.cells = l.map w8) (hl : o + n ≤ l.length) (hx : strOf ((l.drop o).take n) = x) : strD P H src dst (slv b o n c) = some (.string x) := by
  subst hx
  exact strD_row h1 h2 h3 hb (by rw [hc]; simpa using hl) (by rw [hc, List.map_take, List.map_drop])
theorem str_whole {src dst e : TypeId} (h1 : P.underlying src = some (.slice e)) (h2 : P.underlying dst = some .string) (h3 : isByteT P e = true) (hb : H[b]? = some blk) (hc : blk.cells = l.map w8) (hl : n = l.length) : strD P H src dst (slv b 0 n c) = some (.string (strOf l)) :=
  str_row h1 h2 h3 hb hc (by omega) (by rw [List.drop_zero, List.take_of_length_le (by omega)])
end


section
variable {P : Program} {G : Glob} {t : TypeId} {H : List Blk} {b o n c k n' by_ : Nat} {blk : Blk} {zc : List Value}
theorem load_tx {l : List ByteArray} (hk : kindA P t = some (false, 1)) (hb : H[b]? = some blk) (hc : blk.cells = l.map Value.string) (hi : o < l.length) : loadA P G t H (.pointer (some ⟨b, o, none⟩)) = some (.string (l.getD o ⟨#[]⟩)) :=
  loadA_at hk hb (by rw [hc]; simp [hi]) rfl
theorem tx_pure (l : List ByteArray) : (l.map Value.string).all pureC = true := by simp only [List.all_map, List.all_eq_true]; intros; rfl
theorem appD_tx {q : Value} {ls ms : List ByteArray} (ht : sliceTyA P t = some (1, zc, by_)) (hz : zc.length = 1) (hs : srcA H 1 q = some (k, ms.map Value.string)) (hb : H[b]? = some (txB ls)) (hn : ls.length = n) (hk : n + k = n') (hby : 0 < by_) (hm : n' * by_ ≤ 140737488355328) :
    appD P H t (slv b 0 n c) q = some (slv b 0 n' n', b, txB (ls ++ ms)) := by
  have hc : (txB ls).cells.length = n := by show (ls.map Value.string).length = _; simp [hn]
  rw [appD_pure (n' := n') (p := (k, ms.map Value.string)) ht hs hb rfl rfl hz (tx_pure ms) (by rw [hc]; omega) hby hk hm]
  have : List.take (n * 1) (List.drop 0 (txB ls).cells) ++ ms.map Value.string = (ls ++ ms).map Value.string := by
    rw [List.drop_zero, List.take_of_length_le (by rw [hc]; omega), List.map_append]; rfl
  simp only [this]
  rfl
theorem appD_rw {α : Type} (cd : Cod α) {q : Value} {ls ms : List α} {cs : List Value} (hp : ∀ x, (cd.enc x).all pureC = true) (ht : sliceTyA P t = some (cd.n, zc, by_)) (hz : zc.length = cd.n) (hs : srcA H cd.n q = some (k, cs)) (hcs : cs = cd.row ms) (hb : H[b]? = some (rwB cd ls)) (hn : ls.length = n) (hk : n + k = n') (hby : 0 < by_) (hm : n' * by_ ≤ 140737488355328) :
    appD P H t (slv b 0 n c) q = some (slv b 0 n' n', b, rwB cd (ls ++ ms)) := by
  subst hcs
  have hc : (rwB cd ls).cells.length = n * cd.n := by show (cd.row ls).length = _; rw [cd.row_len, hn]
  have hpp : (cd.row ms).all pureC = true := by
    unfold Cod.row
    rw [List.all_eq_true]
    intro v hv
    obtain ⟨l, hl, hv⟩ := List.mem_flatten.1 hv
    obtain ⟨x, hx, rfl⟩ := List.mem_map.1 hl
    exact List.all_eq_true.1 (hp x) v hv
  rw [appD_pure (n' := n') (p := (k, cd.row ms)) ht hs hb rfl rfl hz hpp (by rw [hc]; omega) hby hk hm]
  have : List.take (n * cd.n) (List.drop 0 (rwB cd ls).cells) ++ cd.row ms = cd.row (ls ++ ms) := by
    rw [List.drop_zero, List.take_of_length_le (by rw [hc]; exact Nat.le_refl _), cd.row_app]; rfl
  simp only [this]
  rfl
theorem srcA_by {l : Bs} (hb : H[b]? = some blk) (hc : blk.cells = l.map w8) (hl : o + n ≤ l.length) : srcA H 1 (slv b o n c) = some (n, ((l.drop o).take n).map w8) :=
  srcA_row (sz := 1) hb (by rw [hc, Nat.mul_one]; simpa using hl) (by rw [hc, Nat.mul_one, List.map_take, List.map_drop])
theorem srcA_byW {l : Bs} (hb : H[b]? = some blk) (hc : blk.cells = l.map w8) (hl : n = l.length) : srcA H 1 (slv b 0 n c) = some (n, l.map w8) := by
  rw [srcA_by hb hc (by omega), List.drop_zero, List.take_of_length_le (by omega)]
end
def cStr : Cod ByteArray := ⟨fun s => [.string s], 1, fun _ => rfl, by decide⟩
end Go.Flat
