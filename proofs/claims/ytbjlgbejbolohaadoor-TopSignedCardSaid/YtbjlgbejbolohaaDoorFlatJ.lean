/- Walks. -/
import Derived.Test.YtbjlgbejbolohaaDoorRef
import Derived.Test.YtbjlgbejbolohaaDoorFlatG
import Derived.Test.YtbjlgbejbolohaaDoorFlatI
import Derived.Laws.Strings
import Derived.ScopeJumps
import Derived.Lib.SliceRun
set_option linter.unusedVariables false
set_option linter.unusedSimpArgs false
set_option maxRecDepth 20000
namespace Go.Flat
open Go.Proofs
def rdB (l : Bs) : Blk := { cells := l.map w8, sz := 1, wr := false, fix := false, mv := true, pur := true }
def Zhm (n : Nat) (d : D) : Bs := (List.range n).map d
theorem Zi1 (n : Nat) (d : D) : (Zhm n d).length = n := by simp [Zhm]
theorem Zzu (n : Nat) (d : D) : Zaa w8 n d = (Zhm n d).map w8 := by unfold Zaa Zhm; rw [List.map_map]; rfl
theorem Zu5 (s : ByteArray) : Zs (bl s) = s := by
 unfold bl Zs
 simp only [List.map_map]
 have : (UInt8.ofBitVec ∘ UInt8.toBitVec) = (id : UInt8 → UInt8) := rfl
 rw [this, List.map_id]
theorem Zrr (a b : ByteArray) : Zrq a b = true ↔ a = b := by
  unfold Zrq
  rw [beq_iff_eq]
  constructor
  · intro h
    rw [Go.ByteArray.toList_eq, Go.ByteArray.toList_eq] at h
    have h2 := Array.toList_inj.1 h
    cases a; cases b; dsimp only at h2; rw [h2]
  · intro h; rw [h]
theorem Zeg {e : Emb} {res v : Value} (hp : Zbk res = true) (h : v = res) : Zh7 e res v := by unfold Zh7; rw [if_pos hp]; exact h
theorem Zut {a : ByteArray} (h : Zrq a ⟨#[]⟩ = true) : a.size = 0 := by rw [(Zrr _ _).1 h]; rfl
theorem Zus {a : ByteArray} (h : Zrq a ⟨#[]⟩ = false) : 1 ≤ a.size := by
  rcases Nat.eq_zero_or_pos a.size with h0 | h0
  · have : a = ⟨#[]⟩ := by
      rw [← Zu5 a]
      have hl : (bl a).length = 0 := by rw [Zes]; exact h0
      rw [List.eq_nil_of_length_eq_zero hl]; rfl
    rw [(Zrr _ _).2 this] at h; cases h
  · exact h0
section
variable {P : Program} {G : Glob} {t : TypeId} {H : List Blk} {b o n c : Nat} {blk : Blk} {l : Bs}
theorem Zg8 (hk : Zea P t = some (false, 1)) (hb : H[b]? = some blk) (hc : blk.cells = l.map w8) (hi : o < l.length) : Zdm P G t H (.pointer (some ⟨b, o, none⟩)) = some (w8 (l.getD o 0)) :=
 Ziv hk hb (by rw [hc]; simp [hi]) rfl
theorem Zs5 {src dst e : TypeId} {x : ByteArray} (h1 : P.underlying src = some (.slice e)) (h2 : P.underlying dst = some .string) (h3 : Zg2 P e = true) (hb : H[b]? = some blk) (hc : blk.cells = l.map w8) (hl : o + n ≤ l.length) (hx : Zs ((l.drop o).take n) = x) : Zs4 P H src dst (slv b o n c) = some (.string x) := by
 subst hx
 exact Zec h1 h2 h3 hb (by rw [hc]; simpa using hl) (by rw [hc, List.map_take, List.map_drop])
theorem Zkx {src dst e : TypeId} (h1 : P.underlying src = some (.slice e)) (h2 : P.underlying dst = some .string) (h3 : Zg2 P e = true) (hb : H[b]? = some blk) (hc : blk.cells = l.map w8) (hl : n = l.length) : Zs4 P H src dst (slv b 0 n c) = some (.string (Zs l)) :=
 Zs5 h1 h2 h3 hb hc (by omega) (by rw [List.drop_zero, List.take_of_length_le (by omega)])
theorem Zo2 {src dst e : TypeId} {s : ByteArray} {nid : Nat} (h1 : P.underlying src = some .string) (h2 : P.underlying dst = some (.slice e)) (h3 : (Zg2 P e && Zc1 H nid) = true) : Zhp P H src dst (.string s) nid = some (slv nid 0 s.size s.size, Zan (bl s)) := by
 unfold Zhp
 rw [h1, h2]
 simp only [h3, if_true, Zio]
 rfl
theorem Zsi {e : Emb} {id : Nat} {l : Bs} (hB : H[id]? = some (rdB l)) : Zc0 H e (some (id, 0)) (rdB l) :=
 Zbu hB rfl (by show 0 + (l.map w8).length ≤ (l.map w8).length; omega) (by show ((l.map w8).drop 0).take (l.map w8).length = l.map w8; rw [List.drop_zero, List.take_length])
theorem Zxv {e : Emb} {id : Nat} {l : Bs} (hB : H[id]? = some (Zan l)) : Zc0 H e (some (id, 0)) (rdB l) :=
 Zbu hB rfl (by show 0 + (l.map w8).length ≤ (l.map w8).length; omega) (by show ((l.map w8).drop 0).take (l.map w8).length = l.map w8; rw [List.drop_zero, List.take_length])
theorem Z3f {e : Emb} {id o n : Nat} {l : Bs} {B : Blk} (hB : H[id]? = some B) (hb : B = rdB l ∨ B = Zan l) (h : o + n ≤ l.length) : Zc0 H e (some (id, o)) (rdB ((l.drop o).take n)) := by
  have hc : B.cells = l.map w8 := by rcases hb with rfl | rfl <;> rfl
  refine Zbu hB (by rcases hb with rfl | rfl <;> rfl) ?_ ?_
  · rw [hc]; show o + (((l.drop o).take n).map w8).length ≤ _; simp; omega
  · rw [hc]; show ((l.map w8).drop o).take (((l.drop o).take n).map w8).length = ((l.drop o).take n).map w8
    rw [List.length_map, ← List.map_drop, ← List.map_take]
    congr 1
    rw [List.length_take, List.take_eq_take_iff]; simp
end


section
variable {P : Program} {G : Glob} {t : TypeId} {H : List Blk} {b o n c k n' by_ : Nat} {blk : Blk} {zc : List Value}
theorem Zof {l : List ByteArray} (hk : Zea P t = some (false, 1)) (hb : H[b]? = some blk) (hc : blk.cells = l.map Value.string) (hi : o < l.length) : Zdm P G t H (.pointer (some ⟨b, o, none⟩)) = some (.string (l.getD o ⟨#[]⟩)) :=
 Ziv hk hb (by rw [hc]; simp [hi]) rfl
theorem Z4k (l : List ByteArray) : (l.map Value.string).all Zbh = true := by simp only [List.all_map, List.all_eq_true]; intros; rfl
theorem Zht {q : Value} {ls ms : List ByteArray} (ht : Zcx P t = some (1, zc, by_)) (hz : zc.length = 1) (hs : Zgv H 1 q = some (k, ms.map Value.string)) (hb : H[b]? = some (txB ls)) (hn : ls.length = n) (hk : n + k = n') (hby : 0 < by_) (hm : n' * by_ ≤ 140737488355328) :
  Znv P H t (slv b 0 n c) q = some (slv b 0 n' n', b, txB (ls ++ ms)) := by
 have hc : (txB ls).cells.length = n := by show (ls.map Value.string).length = _; simp [hn]
 rw [Zcy (n' := n') (p := (k, ms.map Value.string)) ht hs hb rfl rfl hz (Z4k ms) (by rw [hc]; omega) hby hk hm]
 have : List.take (n * 1) (List.drop 0 (txB ls).cells) ++ ms.map Value.string = (ls ++ ms).map Value.string := by
  rw [List.drop_zero, List.take_of_length_le (by rw [hc]; omega), List.map_append]; rfl
 simp only [this]
 rfl
theorem Zkm {α : Type} (cd : Cod α) {q : Value} {ls ms : List α} {cs : List Value} (hp : ∀ x, (cd.enc x).all Zbh = true) (ht : Zcx P t = some (cd.n, zc, by_)) (hz : zc.length = cd.n) (hs : Zgv H cd.n q = some (k, cs)) (hcs : cs = cd.row ms) (hb : H[b]? = some (rwB cd ls)) (hn : ls.length = n) (hk : n + k = n') (hby : 0 < by_) (hm : n' * by_ ≤ 140737488355328) :
  Znv P H t (slv b 0 n c) q = some (slv b 0 n' n', b, rwB cd (ls ++ ms)) := by
 subst hcs
 have hc : (rwB cd ls).cells.length = n * cd.n := by show (cd.row ls).length = _; rw [cd.row_len, hn]
 have hpp : (cd.row ms).all Zbh = true := by
  unfold Cod.row
  rw [List.all_eq_true]
  intro v hv
  obtain ⟨l, hl, hv⟩ := List.mem_flatten.1 hv
  obtain ⟨x, hx, rfl⟩ := List.mem_map.1 hl
  exact List.all_eq_true.1 (hp x) v hv
 rw [Zcy (n' := n') (p := (k, cd.row ms)) ht hs hb rfl rfl hz hpp (by rw [hc]; omega) hby hk hm]
 have : List.take (n * cd.n) (List.drop 0 (rwB cd ls).cells) ++ cd.row ms = cd.row (ls ++ ms) := by
  rw [List.drop_zero, List.take_of_length_le (by rw [hc]; exact Nat.le_refl _), cd.row_app]; rfl
 simp only [this]
 rfl
theorem Z4f {l : Bs} (hb : H[b]? = some blk) (hc : blk.cells = l.map w8) (hl : o + n ≤ l.length) : Zgv H 1 (slv b o n c) = some (n, ((l.drop o).take n).map w8) :=
 Z2k (sz := 1) hb (by rw [hc, Nat.mul_one]; simpa using hl) (by rw [hc, Nat.mul_one, List.map_take, List.map_drop])
theorem Z2j {l : Bs} (hb : H[b]? = some blk) (hc : blk.cells = l.map w8) (hl : n = l.length) : Zgv H 1 (slv b 0 n c) = some (n, l.map w8) := by
 rw [Z4f hb hc (by omega), List.drop_zero, List.take_of_length_le (by omega)]
end
theorem Zz6 {P : Program} {t : TypeId} {s : ByteArray} {k : IntKind} {i : Int} {n : Nat} (hu : P.underlying t = some .string) (hi : i = (n : Int)) (hn : n < s.size) : Zkk P t (.string s) (.int k i) = some (w8 ((bl s).getD n 0)) := by
 rw [Zry hu hi hn]
 have hl : n < s.data.toList.length := by simpa using hn
 have e : (bl s).getD n 0 = s.data.toList[n].toBitVec := by
  unfold bl
  rw [List.getD_eq_getElem?_getD, List.getElem?_map, List.getElem?_eq_getElem hl]; rfl
 rw [e]; rfl
def Zys : Cod ByteArray := ⟨fun s => [.string s], 1, fun _ => rfl, by decide⟩
end Go.Flat
section
/- Structs that hold slices: their values, boxes, arguments. -/
namespace Go.Flat
abbrev mxV (l : List Value) : Value := .agg l.toArray
def mxB (n : Nat) (l : List Value) : Blk := { cells := l, sz := n, wr := true, fix := true, mv := false, pur := false }
theorem Zlr {e : Emb} {a b : List Value} (hp : Zbk (mxV a) = false) (h : Zw7 e a b) : Zh7 e (mxV a) (mxV b) := by
 unfold Zh7
 rw [if_neg (by rw [hp]; decide)]
 exact h
open Go.ChangeShapes Go.WideShapes Go.RowKit
section
variable {H : Type} {enc : TypeId × Value → H} {P : Program} {W : World} {α : Type} {c : Cod α} {ok : α → Prop}
end
theorem L2.pure {m : MapM} {a : List Value} (h : a.all Zbh = true) : L2 (CR m) a a :=
 ⟨rfl, fun i x y hx hy => by
  rw [hx] at hy; injection hy with hy; subst hy
  exact CR.of_pure (List.all_eq_true.1 h x (List.mem_of_getElem? hx))⟩
theorem L2.cell {m : MapM} {b o n k : Nat} {v : Value} (h : VR m (slv b o n k) v) : L2 (CR m) [slv b o n k] [v] := L2.cons h L2.nil
end Go.Flat
end
section
/- A scope in which the run jumps ahead to one label. -/
namespace Go.Flat
variable {P : Program} {G : Glob} {nt n0 : Nat} {Q : Exit → St → Prop} {s : St} {x : Code}
def Z30 (Q : Exit → St → Prop) : Exit → St → Prop
  | .goto _, _ => False
  | e, s => Q e s
def scopeL (P : Program) (G : Glob) (nt n0 l : Nat) (rest : Code) (Q : Exit → St → Prop) : Exit → St → Prop
  | .goto l', s => l' = l ∧ C P G nt n0 rest (Z30 Q) s
  | e, s => Q e s
end Go.Flat
end
section
/- Is a slice nil? A split that the code itself makes; parts of own rows that are appended to. -/
namespace Go.Flat
variable {P : Program} {G : Glob} {nt n0 : Nat} {Q : Exit → St → Prop}
theorem Zyt {x d1 d2 : Tmp} {ty1 ty2 t yt e : TypeId} {p1 p2 : String} {f1 f2 : Array Edge} {i b o n c : Nat} {rest : Code} {T : Nat → Value} {H : List Blk}
  (hu : P.underlying t = some (.slice e)) (hx : T x = slv b o n c) (hd1 : Zcz nt (some d1) = true) (hd2 : Zcz nt (some d2) = true)
  (h1 : n = 0 → C P G nt n0 (.seq (.region i #[⟨some d1, .move (.tmp x), ty1, p1, f1, none⟩, ⟨some d2, .binOp .eql t (.tmp d1) (.const (.slice none 0 0)) yt, ty2, p2, f2, none⟩] false) rest) Q ⟨upd T x (.slice none 0 0), H⟩)
  (h2 : C P G nt n0 rest Q ⟨upd (upd T d1 (slv b o n c)) d2 (.bool false), H⟩) :
  C P G nt n0 (.seq (.region i #[⟨some d1, .move (.tmp x), ty1, p1, f1, none⟩, ⟨some d2, .binOp .eql t (.tmp d1) (.const (.slice none 0 0)) yt, ty2, p2, f2, none⟩] false) rest) Q ⟨T, H⟩ := by
 refine ⟨fun E m a w h0 hr => ?_⟩
 have hv := hr.tmps x
 rw [show (⟨T, H⟩ : St).tmps x = slv b o n c from hx] at hv
 obtain ⟨r, a', c', hm, hv', hs⟩ := hv
 cases a' with
 | none =>
  have hc0 : c' = 0 := by
   rcases Nat.eq_zero_or_pos c' with h | h
   ·exact h
   ·exact absurd (hs.2.2 h).1 (by simp)
  have hn0 : n = 0 := by have := hs.1; have := hs.2.1; omega
  refine (h1 hn0).h E m a w h0 ⟨hr.size, fun j => ?_, hr.defers, hr.heap, hr.frame⟩
  show VR m (upd T x (.slice none 0 0) j) _
  unfold upd
  split
  ·rename_i hj
   subst hj
   rw [hv', hn0, hc0]
   exact rfl
  ·exact hr.tmps j
 | some ad =>
  refine wp_seq (wp_region_list ?_)
  refine wpList_plain rfl fun K hK => ?_
  unfold Oper.wp
  simp only [execOp, Sem.run_pure, Sem.run_bind, Result.andThen_ok]
  refine hK _ _ ?_
  refine wpList_plain rfl fun K hK => ?_
  have hd1' : d1 < nt := by simpa [Zcz] using hd1
  have he : (a.put (some d1) (a.eval (.tmp x))).eval (.tmp d1) = .slice (some ad) n c' := by
   have : a.eval (.tmp x) = .slice (some ad) n c' := hv'
   rw [this]
   simp [Act.put, Act.eval, hr.size, hd1']
  have hq := Lib.run_eql_slice_nil (P := P) w t e (some ad) n c' 0 0 hu
  have hcn : (a.put (some d1) (a.eval (.tmp x))).eval (.const (.slice none 0 0)) = .slice none 0 0 := rfl
  unfold Oper.wp
  simp only [execOp, Sem.run_pure, Sem.run_bind, Result.andThen_ok, he, hcn, eqGuard, hq, Bool.not_true, Bool.false_eq_true, if_false]
  refine hK _ _ ?_
  show rest.wp P (Zoo G nt E Q) _ w
  have hr1 : SRel G nt E m ⟨upd T d1 (slv b o n c), H⟩ (a.put (some d1) (a.eval (.tmp x))) w := SRel.put (s := ⟨T, H⟩) hr (d := some d1) hd1 (v := slv b o n c) (by rw [show a.eval (.tmp x) = .slice (some ad) n c' from hv']; exact ⟨r, some ad, c', hm, rfl, hs⟩)
  exact h2.h E m _ w h0 (SRel.put (s := ⟨upd T d1 (slv b o n c), H⟩) hr1 (d := some d2) hd2 (v := .bool false) rfl)

def Zt5 (P : Program) (σ : List Blk) (t : TypeId) (nid : Nat) : Option (Value × Blk) :=
  match Zcx P t with
  | some (sz, _, _) => if 0 < sz ∧ Zc1 σ nid = true then some (.slice (some ⟨nid, 0, none⟩) 0 0, Zdi true false sz []) else none
  | none => none
theorem Zwl {o : Oper} {s : St} {t : TypeId} {nid : Nat} {v : Value} {b : Blk} (ho : o.op = .buildSlice t 0 #[]) (h : Zt5 P s.heap t nid = some (v, b)) : Za9 P G o s v [(nid, b)] := by
 unfold Zt5 at h
 split at h
 ·rename_i sz zc by_ ht
  split at h
  ·rename_i hh
   obtain ⟨hsz, hfr⟩ := hh
   injection h with h; injection h with h1 h2
   subst h1; subst h2
   obtain ⟨e, i, z, hu, hi, hz, he1, he2, he3⟩ := Zfd ht
   intro nt E m a w hr
   obtain ⟨m', g1, g2, g3, g4⟩ := Zfl hr.heap hr.frame hfr (Zdi true false sz []) hsz #[] e (0, 0) (by simp [Zdi]) (by simp only [Zdi]; exact L2.nil) (by intro hq u hu'; simp [Zdi] at hu') (by simp)
   refine ⟨.slice (some ⟨w.heap.size, 0, none⟩) 0 0, _, m', .inl ?_, g1, g2, g3, _, _, _, g4, rfl, Nat.le_refl _, Nat.le_refl _, fun h => absurd h (by omega)⟩
   have hrun : (Instr.buildSlice t 0 #[]).run P w = .ok (.slice (some ⟨w.heap.size, 0, none⟩) 0 0) (w.alloc (.cells #[] e)) := by
    simp only [Instr.buildSlice, Sem.run_bind, run_underlying hu, Result.andThen_ok, Zcd hi]
    rw [if_neg (by simp)]
    simp only [Sem.run_bind, Sem.run_pure, Result.andThen_ok, Nat.zero_mul, if_true]
    simp [Instr.fill, newRow, show Array.range 0 = #[] from rfl]
   simp only [execOp, ho, Sem.run_bind]
   simp [hrun]
  ·cases h
 ·cases h
section
variable {ops l : List Oper} {K : Trace → St → Prop} {tr : Trace} {T : Nat → Value} {H H' : List Blk} {d : Tmp} {ty : TypeId} {ps : String} {af : Array Edge} {g : Option (Nat × Bool)}
theorem Z6q {ops : Array Oper} {o : Oper} {s : St} {t : TypeId} {nid : Nat} {v : Value} {b : Blk} (hg : Zdp nt s (Zdy ops o) = some true) (hd : Zcz nt o.dst = true) (ho : o.op = .buildSlice t 0 #[]) (h : Zt5 P s.heap t nid = some (v, b)) : Zam P G nt ops o s { val := v, sets := [(nid, b)], foot := [nid] } :=
 Zam.value hg hd fun s' ha => Zwl ho (by
  unfold Zt5 at h ⊢
  rw [show Zc1 s'.heap nid = Zc1 s.heap nid from by unfold Zc1; rw [ha.heap nid (by simp), ha.len]]; exact h)
theorem Z62 {nid : Nat} (hg : gd nt T ops g = some true) (hd : Zcz nt (some d) = true) {t : TypeId} {v : Value} {blk : Blk} (h : Zt5 P H t nid = some (v, blk)) (hH : Zf8 H nid blk = H') (k : R P G nt ops K l (tr ++ [(⟨some d, .buildSlice t 0 #[], ty, ps, af, g⟩, { val := v, sets := [(nid, blk)], foot := [nid] })]) (upd T d v) H') : R P G nt ops K (⟨some d, .buildSlice t 0 #[], ty, ps, af, g⟩ :: l) tr T H :=
 ⟨Zbt.new (Z6q (by rw [Zc2]; exact hg) hd rfl h) rfl hH k.h⟩
end
end Go.Flat
end
section
/- Loops of few rounds, round by round; rows of structs that hold slices. -/
namespace Go.Flat
variable {P : Program} {G : Glob} {nt n0 : Nat} {Q : Exit → St → Prop}
def UL (P : Program) (G : Glob) (nt n0 : Nat) (y : Code) (Q : Exit → St → Prop) : Nat → St → Prop
  | 0, _ => False
  | k + 1, s => C P G nt n0 y (Zep (UL P G nt n0 y Q k) Q) s
theorem least {p : Nat → Prop} (h : ∃ n, p n) : ∃ n, p n ∧ ∀ m, p m → n ≤ m := by
  obtain ⟨n, hn⟩ := h
  induction n using Nat.strongRecOn with
  | _ n ih =>
    by_cases hx : ∃ m, m < n ∧ p m
    · obtain ⟨m, h1, h2⟩ := hx; exact ih m h1 h2
    · exact ⟨n, hn, fun m hm => by rcases Nat.lt_or_ge m n with h | h; exact absurd ⟨m, h, hm⟩ hx; exact h⟩
def mxW (n : Nat) (l : List Value) : Blk := { cells := l, sz := n, wr := true, fix := false, mv := true, pur := false }
def mxR (n : Nat) (l : List Value) : Blk := { cells := l, sz := n, wr := false, fix := false, mv := true, pur := false }
theorem Z0o {P : Program} {H : List Blk} {t : TypeId} {zc : List Value} {by_ b n c k n' : Nat} {α : Type} (cd : Cod α) {q : Value} {ls ms : List α} {cs : List Value} (hp : ∀ x, (cd.enc x).all Zbh = true) (ht : Zcx P t = some (cd.n, zc, by_)) (hz : zc.length = cd.n) (hs : Zgv H cd.n q = some (k, cs)) (hcs : cs = cd.row ms) (hb : H[b]? = some (rwB cd ls)) (hn : n ≤ ls.length) (hk : n + k = n') (hby : 0 < by_) (hm : n' * by_ ≤ 140737488355328) :
  Znv P H t (slv b 0 n c) q = some (slv b 0 n' n', b, rwB cd (ls.take n ++ ms)) := by
 subst hcs
 have hc : (rwB cd ls).cells.length = ls.length * cd.n := by show (cd.row ls).length = _; rw [cd.row_len]
 have hpp : (cd.row ms).all Zbh = true := by
  unfold Cod.row
  rw [List.all_eq_true]
  intro v hv
  obtain ⟨l, hl, hv⟩ := List.mem_flatten.1 hv
  obtain ⟨x, hx, rfl⟩ := List.mem_map.1 hl
  exact List.all_eq_true.1 (hp x) v hv
 rw [Zcy (n' := n') (p := (k, cd.row ms)) ht hs hb rfl rfl hz hpp (by rw [hc, Nat.zero_add]; exact Nat.mul_le_mul_right _ hn) hby hk hm]
 have : List.take (n * cd.n) (List.drop 0 (rwB cd ls).cells) ++ cd.row ms = cd.row (ls.take n ++ ms) := by
  rw [List.drop_zero, cd.row_app]
  show List.take (n * cd.n) (cd.row ls) ++ _ = _
  rw [cd.row_take]
 rw [this]; rfl
end Go.Flat
end
section
/- A walk's state with its blocks named anew: some dropped, some at other places. -/
namespace Go.Flat
def Z1f (e : Emb) (T : Nat → Value) : Nat → List Value → Prop
  | _, [] => True
  | i, v :: l => (v = dead ∨ Zh7 e v (T i)) ∧ Z1f e T (i + 1) l
theorem Zq7 {e : Emb} {T : Nat → Value} : ∀ {l : List Value} {i : Nat}, Z1f e T i l → ∀ (j : Nat) (v : Value), l[j]? = some v → v = dead ∨ Zh7 e v (T (i + j))
 | [], _, _, j, v, h => by simp at h
 | x :: l, i, hk, 0, v, h => by simp at h; subst h; exact hk.1
 | x :: l, i, hk, j + 1, v, h => by
  have := Zq7 hk.2 j v (by simpa using h)
  rw [show i + (j + 1) = i + 1 + j by omega]; exact this
theorem Zjl {e : Emb} {v x : Value} (hp : Zbk v = true) (h : x = v) : v = dead ∨ Zh7 e v x := by
 subst h
 refine .inr ?_
 unfold Zh7
 rw [if_pos hp]
theorem Z2s {G : Glob} {nt n0 : Nat} (e : Emb) {T : Nat → Value} {H H' : List Blk} {l : List Value} (he : Zhf H e e H') (hd : Zjc e H' = true) (hn : Zfx e H' = true) (hf : e.take n0 = idE n0) (hh : H'.take n0 = H.take n0) (ht : Z1f e T 0 l) : Zb2 G nt n0 ⟨T, H⟩ ⟨Tl l, H'⟩ := by
  intro E m a w h0 hr
  have hE : EmbOK H e H' := ⟨(Ze1 he).1, (Ze1 he).2, Zn9 (H := H) hd⟩
  have hnm : ∀ (i : Nat) (L : Blk), H'[i]? = some L → L.pur = true ∨ ∀ v, v ∈ L.cells → Zbr (inE e) v = true := by
    intro i L hL
    simp only [Zfx, List.all_eq_true, Bool.or_eq_true] at hn
    exact hn L (List.mem_of_getElem? hL)
  refine ⟨mE m e H', hr.size, fun i => ?_, hr.defers, hr.heap.embed hE hnm, ⟨hr.frame.os, hr.frame.tape, hr.frame.output, hr.frame.size, hr.frame.block, ?_, ?_⟩⟩
  · show VR _ ((l[i]?).getD dead) _
    cases hl : l[i]? with
    | none => exact VR.dead
    | some v =>
      have := Zq7 ht i v hl
      rw [Nat.zero_add] at this
      rcases this with h1 | h1
      · rw [h1]; exact VR.dead
      · exact Zsa hr.heap hE h1 (hr.tmps i)
  · intro b r h hw hlt
    rcases Zfw hE h with ⟨id, sh, L, r0, B, h1, h2, h3, rfl, hB, hsz, hfx, hfs, hpu, hle, hwr, hc⟩ | ⟨L, h1, h2, rfl, hwr, hce, hsz⟩
    · unfold Zcl at hw hlt ⊢
      by_cases hL : L.wr = true
      · rw [if_pos hL] at hw hlt ⊢
        have h5 : r0.wr = true := hw
        exact hr.frame.reg id r0 h3 h5 hlt
      · rw [if_neg hL] at hw
        cases hw
    · have : L.wr = true := hw
      rw [hwr] at this; cases this
  · intro b r h hk
    have hb : b < n0 := by
      rcases Nat.lt_or_ge b n0 with h1 | h1
      · exact h1
      · rw [h0 b h1] at h; cases h
    have hm := hr.frame.keep b r h hk
    obtain ⟨B, hB, hs, h1, h2, h3, h4, h5⟩ := hr.heap.reg b r hm
    have he' : e[b]? = some (some (b, 0)) := by
      have := congrArg (fun q : Emb => q[b]?) hf
      simp only [List.getElem?_take, if_pos hb] at this
      rw [this]; exact Zjh hb
    have hB' : H'[b]? = some B := by
      have := congrArg (fun q : List Blk => q[b]?) hh
      simp only [List.getElem?_take, if_pos hb] at this
      rw [this]; exact hB
    rw [Zjn he' hB', hm]
    show some (Zcl r 0 B) = some r
    congr 1
    unfold Zcl
    obtain ⟨g, lo, hi, len, sz, wr, fix, mv⟩ := r
    dsimp only at h1 h2 h3 h4 h5
    subst h1; subst h2; subst h3; subst h4; subst h5
    split
    · rfl
    · rename_i hw
      simp only [Bool.not_eq_true] at hw
      simp [hw]
end Go.Flat
end
