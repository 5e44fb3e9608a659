/- Walks. -/
import Derived.Test.YtoafdomlefoenaaFlatG
import Derived.ScopeJumps
import Derived.Lib.SliceRun
import Derived.Test.YtoafdomlefoenaaE4
set_option linter.unusedVariables false
set_option linter.unusedSimpArgs false
set_option maxRecDepth 20000
section
/- Structs that hold slices: their values, boxes, arguments. -/
namespace Go.Flat
abbrev mxV (l : List Value) : Value := .agg l.toArray
def mxB (n : Nat) (l : List Value) : Blk := { cells := l, sz := n, wr := true, fix := true, mv := false, pur := false }
theorem Z0 {e : Emb} : ∀ {a a' b b' : List Value}, Zkm e a a' → Zkm e b b' → Zkm e (a ++ b) (a' ++ b')
 | [], [], _, _, _, h => h
 | _ :: _, _ :: _, _, _, h1, h => ⟨h1.1, Z0 h1.2 h⟩
 | [], _ :: _, _, _, h1, _ => h1.elim
 | _ :: _, [], _, _, h1, _ => h1.elim
theorem Zs8 {e : Emb} {v : Value} (h : Za9 v = true) : Zqr e v v := by
  cases v
  case slice a n c => rcases a with _ | ⟨b, o, q⟩
                      · exact ⟨rfl, rfl⟩
                      · cases h
  case pointer a => rcases a with _ | ⟨b, o, q⟩
                    · exact ⟨rfl, rfl⟩
                    · cases h
  all_goals first | exact ⟨rfl, rfl⟩ | (cases h)
theorem Zac {e : Emb} : ∀ {a : List Value}, a.all Za9 = true → Zkm e a a
 | [], _ => trivial
 | x :: l, h => by
  rw [List.all_cons, Bool.and_eq_true] at h
  exact ⟨Zs8 h.1, Zac h.2⟩
theorem Z9 {e : Emb} {a b : List Value} (hp : Zbf (mxV a) = false) (h : Zkm e a b) : Zir e (mxV a) (mxV b) := by
 unfold Zir
 rw [if_neg (by rw [hp]; decide)]
 exact h
open Go.ChangeShapes Go.WideShapes Go.RowKit
section
variable {H : Type} {enc : TypeId × Value → H} {P : Program} {W : World} {α : Type} {c : Cod α} {ok : α → Prop}
theorem Ztu {t te : TypeId} (ho : Zao P te c.enc ok) (ht : P.underlying t = some (.slice te)) (hce : P.cellsOf te = c.n)
    {fuel : Nat} {cs : List Value} {x : DataW H × List MemPlace} (hf : DataW.trod enc P W 0 (fun _ => true) true fuel t cs = some x) :
    ∃ (v : Value) (xs : List α) (cap : Nat) (r : Reg), cs = [v] ∧ xs.length ≤ cap ∧ cap ≤ maxLen ∧ r.wr = false ∧ r.fix = false ∧ r.len = xs.length * c.n ∧ r.sz = c.n ∧ r.mv = true ∧ (∀ x, x ∈ xs → ok x) ∧ (∀ k v, (c.row xs)[k]? = some v → W.cell? ⟨r.g, r.lo + k, none⟩ = some v) ∧ ∀ (m : MapM) (b : Nat), m b = some r → VR m (slv b 0 xs.length cap) v := by
  have hn := c.pos
  rcases DataW.trod_slice ht hf with ⟨hcs, _⟩ | ⟨a, len, cap, elems, rest, k, _, hcs, _, _, hl, hmx, hlen, hel, hsp, _⟩
  · subst hcs
    refine ⟨.slice none 0 0, [], 0, ⟨0, 0, 0, 0, c.n, false, false, true⟩, rfl, Nat.le_refl _, Nat.zero_le _, rfl, rfl, by simp, rfl, rfl, fun x hx => by simp at hx, fun k v hk => by simp [Cod.row] at hk, fun m b hb => ?_⟩
    exact ⟨_, none, 0, hb, rfl, Nat.le_refl _, Nat.le_refl _, fun h => by omega⟩
  · subst hcs
    obtain ⟨xs, hxl, hxs⟩ := Zsp (Q := fun i y => (∀ j, j < c.n → W.cell? ((a.add (i * c.n)).add j) = (c.enc y)[j]?) ∧ ok y) len fun i hi => by
      have e := hel i hi
      rw [hce, List.getElem?_eq_getElem (by omega)] at e
      exact Znl ho e
    have hcell : ∀ k v, (c.row xs)[k]? = some v → W.cell? ⟨a.block, a.off + k, none⟩ = some v := by
      intro k v hk
      obtain ⟨y, h1, h2⟩ := c.row_get xs k v hk
      have h3 := (hxs _ _ h1).1 (k % c.n) (Nat.mod_lt _ hn)
      rw [h2, Zrz, Nat.mul_comm, Nat.div_add_mod] at h3
      exact Zut h3
    have hspot : 0 < cap → a.spot = none := by
      intro hc
      have key : ∀ {fuel : Nat} {x : DataW H × List MemPlace}, (W.cells? 0 (a.add (0 * c.n)) c.n).bind (DataW.trod enc P W 0 (fun _ => true) true fuel te) = some x → a.spot = none := by
        intro fuel x h
        obtain ⟨y, h1, _⟩ := Znl ho h
        have h2 := h1 0 hn
        rw [Zrz, Nat.zero_mul, List.getElem?_eq_getElem (by rw [c.len]; exact hn)] at h2
        exact Zqv h2
      rcases Nat.eq_zero_or_pos len with h0 | h0
      · subst h0
        obtain ⟨s1, s2⟩ := hsp rfl
        have e := s2 0 (by omega)
        rw [hce, List.getElem?_eq_getElem (by omega)] at e
        exact key e
      · have e := hel 0 h0
        rw [hce, List.getElem?_eq_getElem (by omega)] at e
        exact key e
    refine ⟨.slice (some a) len cap, xs, cap, ⟨a.block, a.off, a.off + cap * c.n, xs.length * c.n, c.n, false, false, true⟩, rfl, by omega, hmx, rfl, rfl, rfl, rfl, rfl, ?_, hcell, fun m b hb => ?_⟩
    · intro x hx
      obtain ⟨i, hi⟩ := List.getElem?_of_mem hx
      exact (hxs i x hi).2
    · rw [hxl]
      refine ⟨_, some a, cap, hb, rfl, hl, Nat.le_refl _, fun hc => ⟨?_, fun _ => ?_, fun h _ _ => by cases h⟩⟩
      · have := hspot hc
        obtain ⟨g, o, s⟩ := a
        simp only at this
        subst this
        rfl
      · show a.off + 0 + cap * c.n ≤ a.off + cap * c.n
        omega
theorem HRel.addAt {G : Glob} {m : MapM} {σ : List Blk} (h : HRel G m σ W) (hm : ∀ b r, m b = some r → r.wr = false) {t te : TypeId} (c : Cod α) (ho : Zao P te c.enc ok) (ht : P.underlying t = some (.slice te)) (hce : P.cellsOf te = c.n) (hp : ∀ x, (c.enc x).all Za9 = true)
  {n off : Nat} {cs : List Value} {ys : List (DataW H × List MemPlace)} {i : Nat} {f : Go.Field} (hf : DataW.trod enc P W 0 (fun _ => true) true n f.type ((cs.drop f.offset).take (P.cellsOf f.type)) = ys[i]?) (hi : i < ys.length) (ht' : f.type = t) (hc : P.cellsOf t = 1) (hoff : f.offset = off) :
  ∃ (v : Value) (xs : List α) (cap : Nat) (m' : MapM), (cs.drop off).take 1 = [v] ∧ xs.length ≤ cap ∧ cap ≤ 9223372036854775807 ∧ (∀ x, x ∈ xs → ok x) ∧ HRel G m' (σ ++ [rwR c xs]) W ∧ (∀ b r, m' b = some r → r.wr = false) ∧ (∀ b r, m b = some r → m' b = some r) ∧ VR m' (slv σ.length 0 xs.length cap) v := by
 subst ht'; subst hoff
 rw [List.getElem?_eq_getElem hi, hc] at hf
 obtain ⟨v, xs, cap, r, hv, h1, h2, r1, r2, r3, r4, r5, h6, h3, h4⟩ := Ztu ho ht hce hf
 obtain ⟨g1, g2, g3⟩ := h.addRow hm (blk := rwR c xs) (r := r) rfl c.pos r1 r2 (by show _ = (c.row xs).length; rw [c.row_len, r3]) r4 r5 (fun i v hv => ⟨v, h3 i v hv, CR.of_pure (c.row_pure hp xs v (List.mem_of_getElem? hv))⟩) (fun _ v hv => c.row_pure hp xs v hv)
 exact ⟨v, xs, cap, _, hv, h1, h2, h6, g1, g2, g3, h4 _ _ (if_pos rfl)⟩
end
theorem L2.pure {m : MapM} {a : List Value} (h : a.all Za9 = true) : L2 (CR m) a a :=
 ⟨rfl, fun i x y hx hy => by
  rw [hx] at hy; injection hy with hy; subst hy
  exact CR.of_pure (List.all_eq_true.1 h x (List.mem_of_getElem? hx))⟩
theorem L2.cell {m : MapM} {b o n k : Nat} {v : Value} (h : VR m (slv b o n k) v) : L2 (CR m) [slv b o n k] [v] := L2.cons h L2.nil
theorem VR.mx {m : MapM} {l cs : List Value} (h : L2 (CR m) l cs) : VR m (mxV l) (.agg cs.toArray) := ⟨cs.toArray, rfl, h⟩
theorem Zq6 {P : Program} {W : World} {base : Nat} {t : TypeId} {v : Value} (hagg : ∃ fs, P.underlying t = some (.struct fs)) (hv : Value.okWide P W .any base t v) : ∃ cs : List Value, v = .agg cs.toArray := by
 unfold Value.okWide at hv
 obtain ⟨fs, e⟩ := hagg
 rw [e] at hv; obtain ⟨cs, h1, _⟩ := hv; exact ⟨cs.toList, by rw [h1]⟩
end Go.Flat
end
section
/- A scope in which the run jumps ahead to one label. -/
namespace Go.Flat
variable {P : Program} {G : Glob} {nt n0 : Nat} {Q : Exit → St → Prop} {s : St} {x : Code}
def Zlc (Q : Exit → St → Prop) : Exit → St → Prop
  | .goto _, _ => False
  | e, s => Q e s
def Zrh (P : Program) (G : Glob) (nt n0 l : Nat) (rest : Code) (Q : Exit → St → Prop) : Exit → St → Prop
  | .goto l', s => l' = l ∧ C P G nt n0 rest (Zlc Q) s
  | e, s => Q e s
theorem Zwq {l : Nat} {rest : Code} (hf : findLabel x l = some rest) (h : C P G nt n0 x (Zrh P G nt n0 l rest Q) s) : C P G nt n0 (.scope x) Q s := by
 refine ⟨fun E m a w h0 hr => ?_⟩
 refine wp_scope_jumps l (fun a w => ∃ s m, C P G nt n0 rest (Zlc Q) s ∧ SRel G nt E m s a w) (fun _ _ => 0) hf (wp_mono (h.h E m a w h0 hr) ?_) ?_
 ·rintro e a' w' ⟨s', m', h1, h2⟩
  cases e with
  | goto l' => exact ⟨h1.1, s', m', h1.2, h2⟩
  | _ => exact ⟨s', m', h1, h2⟩
 ·rintro a w ⟨s', m', h1, h2⟩
  refine wp_mono (h1.h E m' a w h0 h2) ?_
  rintro e a' w' ⟨s2, m2, h3, h4⟩
  cases e with
  | goto l' => exact h3.elim
  | _ => exact ⟨s2, m2, h3, h4⟩
theorem Zf5 {l : Nat} {rest : Code} (h : C P G nt n0 rest (Zlc Q) s) : X (Zrh P G nt n0 l rest Q) (.goto l) s := ⟨rfl, h⟩
theorem Zmh {l : Nat} {rest : Code} (h : X Q .ret s) : X (Zrh P G nt n0 l rest Q) .ret s := ⟨h.h⟩
theorem Zmg (h : X Q .ret s) : X (Zlc Q) .ret s := ⟨h.h⟩
end Go.Flat
end
section
/- Is a slice nil? A split that the code itself makes; parts of own rows that are appended to. -/
namespace Go.Flat
variable {P : Program} {G : Glob} {nt n0 : Nat} {Q : Exit → St → Prop}
theorem Zm2 {x d1 d2 : Tmp} {ty1 ty2 t yt e : TypeId} {p1 p2 : String} {f1 f2 : Array Edge} {i b o n c : Nat} {rest : Code} {T : Nat → Value} {H : List Blk}
  (hu : P.underlying t = some (.slice e)) (hx : T x = slv b o n c) (hd1 : Zbd nt (some d1) = true) (hd2 : Zbd nt (some d2) = true)
  (h1 : n = 0 → C P G nt n0 (.seq (.region i #[⟨some d1, .move (.tmp x), ty1, p1, f1, none⟩, ⟨some d2, .binOp .eql t (.tmp d1) (.const (.slice none 0 0)) yt, ty2, p2, f2, none⟩] false) rest) Q ⟨upd T x (.slice none 0 0), H⟩)
  (h2 : C P G nt n0 rest Q ⟨upd (upd T d1 (slv b o n c)) d2 (.bool false), H⟩) :
  C P G nt n0 (.seq (.region i #[⟨some d1, .move (.tmp x), ty1, p1, f1, none⟩, ⟨some d2, .binOp .eql t (.tmp d1) (.const (.slice none 0 0)) yt, ty2, p2, f2, none⟩] false) rest) Q ⟨T, H⟩ := by
 refine ⟨fun E m a w h0 hr => ?_⟩
 have hv := hr.tmps x
 rw [show (⟨T, H⟩ : St).tmps x = slv b o n c from hx] at hv
 obtain ⟨r, a', c', hm, hv', hs⟩ := hv
 cases a' with
 | none =>
  have hc0 : c' = 0 := by
   rcases Nat.eq_zero_or_pos c' with h | h
   ·exact h
   ·exact absurd (hs.2.2 h).1 (by simp)
  have hn0 : n = 0 := by have := hs.1; have := hs.2.1; omega
  refine (h1 hn0).h E m a w h0 ⟨hr.size, fun j => ?_, hr.defers, hr.heap, hr.frame⟩
  show VR m (upd T x (.slice none 0 0) j) _
  unfold upd
  split
  ·rename_i hj
   subst hj
   rw [hv', hn0, hc0]
   exact rfl
  ·exact hr.tmps j
 | some ad =>
  refine wp_seq (wp_region_list ?_)
  refine wpList_plain rfl fun K hK => ?_
  unfold Oper.wp
  simp only [execOp, Sem.run_pure, Sem.run_bind, Result.andThen_ok]
  refine hK _ _ ?_
  refine wpList_plain rfl fun K hK => ?_
  have hd1' : d1 < nt := by simpa [Zbd] using hd1
  have he : (a.put (some d1) (a.eval (.tmp x))).eval (.tmp d1) = .slice (some ad) n c' := by
   have : a.eval (.tmp x) = .slice (some ad) n c' := hv'
   rw [this]
   simp [Act.put, Act.eval, hr.size, hd1']
  have hq := Lib.run_eql_slice_nil (P := P) w t e (some ad) n c' 0 0 hu
  have hcn : (a.put (some d1) (a.eval (.tmp x))).eval (.const (.slice none 0 0)) = .slice none 0 0 := rfl
  unfold Oper.wp
  simp only [execOp, Sem.run_pure, Sem.run_bind, Result.andThen_ok, he, hcn, eqGuard, hq, Bool.not_true, Bool.false_eq_true, if_false]
  refine hK _ _ ?_
  show rest.wp P (Zmi G nt E Q) _ w
  have hr1 : SRel G nt E m ⟨upd T d1 (slv b o n c), H⟩ (a.put (some d1) (a.eval (.tmp x))) w := SRel.put (s := ⟨T, H⟩) hr (d := some d1) hd1 (v := slv b o n c) (by rw [show a.eval (.tmp x) = .slice (some ad) n c' from hv']; exact ⟨r, some ad, c', hm, rfl, hs⟩)
  exact h2.h E m _ w h0 (SRel.put (s := ⟨upd T d1 (slv b o n c), H⟩) hr1 (d := some d2) hd2 (v := .bool false) rfl)

def Zpq (P : Program) (σ : List Blk) (t : TypeId) (nid : Nat) : Option (Value × Blk) :=
  match Zcg P t with
  | some (sz, _, _) => if 0 < sz ∧ Zcs σ nid = true then some (.slice (some ⟨nid, 0, none⟩) 0 0, Zdd true false sz []) else none
  | none => none
theorem Zrm {o : Oper} {s : St} {t : TypeId} {nid : Nat} {v : Value} {b : Blk} (ho : o.op = .buildSlice t 0 #[]) (h : Zpq P s.heap t nid = some (v, b)) : Za6 P G o s v [(nid, b)] := by
 unfold Zpq at h
 split at h
 ·rename_i sz zc by_ ht
  split at h
  ·rename_i hh
   obtain ⟨hsz, hfr⟩ := hh
   injection h with h; injection h with h1 h2
   subst h1; subst h2
   obtain ⟨e, i, z, hu, hi, hz, he1, he2, he3⟩ := Zef ht
   intro nt E m a w hr
   obtain ⟨m', g1, g2, g3, g4⟩ := Zfd hr.heap hr.frame hfr (Zdd true false sz []) hsz #[] e (0, 0) (by simp [Zdd]) (by simp only [Zdd]; exact L2.nil) (by intro hq u hu'; simp [Zdd] at hu') (by simp)
   refine ⟨.slice (some ⟨w.heap.size, 0, none⟩) 0 0, _, m', .inl ?_, g1, g2, g3, _, _, _, g4, rfl, Nat.le_refl _, Nat.le_refl _, fun h => absurd h (by omega)⟩
   have hrun : (Instr.buildSlice t 0 #[]).run P w = .ok (.slice (some ⟨w.heap.size, 0, none⟩) 0 0) (w.alloc (.cells #[] e)) := by
    simp only [Instr.buildSlice, Sem.run_bind, run_underlying hu, Result.andThen_ok, Zb8 hi]
    rw [if_neg (by simp)]
    simp only [Sem.run_bind, Sem.run_pure, Result.andThen_ok, Nat.zero_mul, if_true]
    simp [Instr.fill, newRow, show Array.range 0 = #[] from rfl]
   simp only [execOp, ho, Sem.run_bind]
   simp [hrun]
  ·cases h
 ·cases h
section
variable {ops l : List Oper} {K : Trace → St → Prop} {tr : Trace} {T : Nat → Value} {H H' : List Blk} {d : Tmp} {ty : TypeId} {ps : String} {af : Array Edge} {g : Option (Nat × Bool)}
theorem Zy1 {ops : Array Oper} {o : Oper} {s : St} {t : TypeId} {nid : Nat} {v : Value} {b : Blk} (hg : Zcn nt s (Zct ops o) = some true) (hd : Zbd nt o.dst = true) (ho : o.op = .buildSlice t 0 #[]) (h : Zpq P s.heap t nid = some (v, b)) : Zal P G nt ops o s { val := v, sets := [(nid, b)], foot := [nid] } :=
 Zal.value hg hd fun s' ha => Zrm ho (by
  unfold Zpq at h ⊢
  rw [show Zcs s'.heap nid = Zcs s.heap nid from by unfold Zcs; rw [ha.heap nid (by simp), ha.len]]; exact h)
theorem Zv4 {nid : Nat} (hg : gd nt T ops g = some true) (hd : Zbd nt (some d) = true) {t : TypeId} {v : Value} {blk : Blk} (h : Zpq P H t nid = some (v, blk)) (hH : Zet H nid blk = H') (k : R P G nt ops K l (tr ++ [(⟨some d, .buildSlice t 0 #[], ty, ps, af, g⟩, { val := v, sets := [(nid, blk)], foot := [nid] })]) (upd T d v) H') : R P G nt ops K (⟨some d, .buildSlice t 0 #[], ty, ps, af, g⟩ :: l) tr T H :=
 ⟨Zbi.new (Zy1 (by rw [Zc2]; exact hg) hd rfl h) rfl hH k.h⟩
end
end Go.Flat
end
section
/- Loops of few rounds, round by round; rows of structs that hold slices. -/
namespace Go.Flat
variable {P : Program} {G : Glob} {nt n0 : Nat} {Q : Exit → St → Prop}
def UL (P : Program) (G : Glob) (nt n0 : Nat) (y : Code) (Q : Exit → St → Prop) : Nat → St → Prop
  | 0, _ => False
  | k + 1, s => C P G nt n0 y (Zeb (UL P G nt n0 y Q k) Q) s
theorem Z1r {p : Nat → Prop} (h : ∃ n, p n) : ∃ n, p n ∧ ∀ m, p m → n ≤ m := by
  obtain ⟨n, hn⟩ := h
  induction n using Nat.strongRecOn with
  | _ n ih =>
    by_cases hx : ∃ m, m < n ∧ p m
    · obtain ⟨m, h1, h2⟩ := hx; exact ih m h1 h2
    · exact ⟨n, hn, fun m hm => by rcases Nat.lt_or_ge m n with h | h; exact absurd ⟨m, h, hm⟩ hx; exact h⟩
def mxW (n : Nat) (l : List Value) : Blk := { cells := l, sz := n, wr := true, fix := false, mv := true, pur := false }
def mxR (n : Nat) (l : List Value) : Blk := { cells := l, sz := n, wr := false, fix := false, mv := true, pur := false }
theorem Zuj {P : Program} {H : List Blk} {t : TypeId} {zc : List Value} {by_ b n c k n' : Nat} {α : Type} (cd : Cod α) {q : Value} {ls ms : List α} {cs : List Value} (hp : ∀ x, (cd.enc x).all Za9 = true) (ht : Zcg P t = some (cd.n, zc, by_)) (hz : zc.length = cd.n) (hs : Zhf H cd.n q = some (k, cs)) (hcs : cs = cd.row ms) (hb : H[b]? = some (rwB cd ls)) (hn : n ≤ ls.length) (hk : n + k = n') (hby : 0 < by_) (hm : n' * by_ ≤ 140737488355328) :
  Zn1 P H t (slv b 0 n c) q = some (slv b 0 n' n', b, rwB cd (ls.take n ++ ms)) := by
 subst hcs
 have hc : (rwB cd ls).cells.length = ls.length * cd.n := by show (cd.row ls).length = _; rw [cd.row_len]
 have hpp : (cd.row ms).all Za9 = true := by
  unfold Cod.row
  rw [List.all_eq_true]
  intro v hv
  obtain ⟨l, hl, hv⟩ := List.mem_flatten.1 hv
  obtain ⟨x, hx, rfl⟩ := List.mem_map.1 hl
  exact List.all_eq_true.1 (hp x) v hv
 rw [Zmz (n' := n') (p := (k, cd.row ms)) ht hs hb rfl rfl hz hpp (by rw [hc, Nat.zero_add]; exact Nat.mul_le_mul_right _ hn) hby hk hm]
 have : List.take (n * cd.n) (List.drop 0 (rwB cd ls).cells) ++ cd.row ms = cd.row (ls.take n ++ ms) := by
  rw [List.drop_zero, cd.row_app]
  show List.take (n * cd.n) (cd.row ls) ++ _ = _
  rw [cd.row_take]
 rw [this]; rfl
theorem Zym {P : Program} {G : Glob} {nt n0 : Nat} {Q : Exit → St → Prop} {x : Code} {T : Nat → Value} {H H' : List Blk} (hH : H = H') (h : C P G nt n0 x Q ⟨T, H'⟩) : C P G nt n0 x Q ⟨T, H⟩ := hH ▸ h
end Go.Flat
end
section
/- A walk's state with its blocks named anew: some dropped, some at other places. -/
namespace Go.Flat
def Zzr (e : Emb) (T : Nat → Value) : Nat → List Value → Prop
  | _, [] => True
  | i, v :: l => (v = dead ∨ Zir e v (T i)) ∧ Zzr e T (i + 1) l
end Go.Flat
end
namespace Go.Flat
open Go.Proofs
variable {G : Glob}
def Zqt : Cod Int := ⟨fun z => [.int .i64 z], 1, fun _ => rfl, by decide⟩
def Zd6 (x y : Int) : Int := if x < y then -1 else if y < x then 1 else 0
def orL (l : List Int) : Int := (l.find? (fun x => x != 0)).getD 0
theorem Zxm {l : List Int} : ∀ {i : Nat}, (∀ j, j < i → l.getD j default = 0) → i < l.length → l.getD i default ≠ 0 → orL l = l.getD i default := by
 induction l with
 | nil => intro i _ h; simp at h
 | cons x l ih =>
  intro i h1 h2 h3
  cases i with
  | zero =>
   have h3' : x ≠ 0 := h3
   show orL (x :: l) = x
   unfold orL
   rw [List.find?_cons_of_pos (by simpa using h3')]; rfl
  | succ i =>
   have hx : x = 0 := h1 0 (by omega)
   subst hx
   show orL (0 :: l) = l.getD i default
   rw [← ih (fun j hj => h1 (j + 1) (by omega)) (by simpa using h2) h3]
   unfold orL
   rw [List.find?_cons_of_neg (by simp)]
theorem Zvx {l : List Int} (h : ∀ j, j < l.length → l.getD j default = 0) : orL l = 0 := by
 unfold orL
 rw [List.find?_eq_none.2 ?_]
 ·rfl
 ·intro x hx
  obtain ⟨i, hi, rfl⟩ := List.getElem_of_mem hx
  have := h i hi
  rw [List.getD_eq_getElem?_getD, List.getElem?_eq_getElem hi] at this
  simpa using this
def Zgz (a b : Claim) : Int := orL [Zd6 a.region b.region, Zd6 a.epoch b.epoch]
def Zcx (a b : Claim) : Prop := a.region < b.region ∨ (a.region = b.region ∧ a.epoch < b.epoch)
instance (a b : Claim) : Decidable (Zcx a b) := inferInstanceAs (Decidable (_ ∨ _))
theorem Zsx (a b : Claim) : Zgz a b = if Zd6 a.region b.region ≠ 0 then Zd6 a.region b.region else Zd6 a.epoch b.epoch := by
 unfold Zgz orL
 by_cases h : Zd6 a.region b.region = 0
 ·rw [List.find?_cons_of_neg (by simp [h]), if_neg (by simp [h])]
  by_cases h2 : Zd6 a.epoch b.epoch = 0
  ·rw [List.find?_cons_of_neg (by simp [h2]), h2]; rfl
  ·rw [List.find?_cons_of_pos (by simpa using h2)]; rfl
 ·rw [List.find?_cons_of_pos (by simpa using h), if_pos h]; rfl
theorem Zg0 {a b : Claim} : Zgz a b < 0 ↔ Zcx a b := by
 rw [Zsx]; unfold Zd6 Zcx
 constructor
 ·intro h; repeat (first | omega | split at h)
 ·intro h; repeat (first | omega | split)
theorem Ztv {a b : Claim} : Zgz a b = 0 ↔ a.region = b.region ∧ a.epoch = b.epoch := by
 rw [Zsx]; unfold Zd6
 constructor
 ·intro h; repeat (first | omega | split at h)
 ·intro h; repeat (first | omega | split)
def okC (l : List Claim) (i : Nat) : Prop := Zck (l.getD i default) ∧ (0 < i → Zcx (l.getD (i - 1) default) (l.getD i default))
def Zdi (l : List Claim) : Prop := ∀ i, i < l.length → okC l i
instance (l : List Claim) (i : Nat) : Decidable (okC l i) := inferInstanceAs (Decidable (_ ∧ _))
instance (l : List Claim) : Decidable (Zdi l) := inferInstanceAs (Decidable (∀ i, i < l.length → okC l i))
def Zc6 (l : List Claim) : Int := if Zdi l then 0 else 110
theorem Zgu {l : List Claim} (h : Zc6 l = 0) : Zdi l := by
 unfold Zc6 at h
 split at h
 ·assumption
 ·omega
theorem Zd4 {l : List Claim} (h : ¬ Zc6 l = 0) : ¬ Zdi l := fun q => h (if_pos q)
def Zcu (l m : List Claim) : Bool := decide (l.length = m.length) && (List.range l.length).all fun i => Zr (l.getD i default) (m.getD i default)
theorem Zqd {l m : List Claim} (h : l.length = m.length) (hR : ∀ j, j < l.length → Zr (l.getD j default) (m.getD j default) = true) : Zcu l m = true := by
 unfold Zcu
 rw [decide_eq_true h, Bool.true_and, List.all_eq_true]
 intro j hj
 exact hR j (List.mem_range.1 hj)
theorem Zl3 {l m : List Claim} (h : l.length ≠ m.length) : Zcu l m = false := by
 unfold Zcu; rw [decide_eq_false h]; rfl
theorem Zqb {l m : List Claim} (i : Nat) (hi : i < l.length) (h : Zr (l.getD i default) (m.getD i default) = false) : Zcu l m = false := by
  unfold Zcu
  cases hq : (List.range l.length).all fun i => Zr (l.getD i default) (m.getD i default) with
  | false => simp
  | true => rw [List.all_eq_true] at hq; have := hq i (List.mem_range.2 hi); rw [h] at this; cases this
theorem Zqc (l : List Claim) : Zcu l l = true := Zqd rfl (fun _ _ => Zaq _)
theorem Zpl (x : Int) : Zas Try.prog G 68 [Iv x] [] (.bool false) [] := by
 refine Zcv (fn := Try.f68) (nt := 6) rfl rfl rfl rfl ?_
 refine Zj (Zl (Zc (.bool false) (Ze (Zf (Zj (Zl (Zb (Iv x) (Zb (Iv x) ?_))))))))
 refine Zn (vx := Iv x) (vy := Iv x) rfl rfl (.bool false) rfl rfl (Zbk (by omega)) ?_
 refine Zc (.bool false) (Ze (Zf (Zq (Zp ?_))))
 exact Zm (v := .bool false) rfl rfl rfl (by kernel_rfl) rfl
theorem Zli (x y : Int) : Zas Try.prog G 61 [Iv x, Iv y] [] (Iv (Zd6 x y)) [] := by
 refine Zcv (fn := Try.f61) (nt := 20) rfl rfl rfl rfl ?_
 refine Zj (Zl (Zc (Iv 0) (Ze (Zf (Zj (Zl (Zb (Iv x) ?_)))))))
 refine Zs (Zpl (G := G) x) (vals := [Iv x]) (res' := .bool false) rfl rfl rfl rfl rfl rfl ?_
 refine Zc (.bool false) (Ze (Zf (Zj (Zl (Zb (Iv y) ?_)))))
 refine Zs (Zpl (G := G) y) (vals := [Iv y]) (res' := .bool false) rfl rfl rfl rfl rfl rfl ?_
 refine Zc (.bool false) (Ze (Zf (Zj (Zj (Zl (Zb (.bool false) (Ze (Zf (Zw rfl (Z7 (Zf (Zj (Zj (Zl (Zb (.bool false) (Ze (Zf (Zw rfl (Z7 (Zf (Zj (Zj (Zl (Zb (Iv x) (Zb (Iv y) ?_)))))))))))))))))))))))))
 by_cases h1 : x < y
 refine Zn (vx := Iv x) (vy := Iv y) rfl rfl (.bool true) rfl rfl (Zfg (by omega)) ?_
 refine Ze (Zf (Z8 rfl (Zj (Zl (Zc (Iv (-1)) (Ze (Zf (Zq (Z4 (Zp ?_))))))))))
 rw [show Zd6 x y = -1 from by unfold Zd6; split <;> (try split) <;> omega]
 exact Zm (v := Iv (-1)) rfl rfl rfl (by kernel_rfl) rfl
 refine Zn (vx := Iv x) (vy := Iv y) rfl rfl (.bool false) rfl rfl (Zff (by omega)) ?_
 refine Ze (Zf (Zw rfl (Z7 (Zf (Zj (Zj (Zl (Zb (Iv x) (Zb (Iv y) ?_)))))))))
 by_cases h2 : y < x
 refine Zn (vx := Iv x) (vy := Iv y) rfl rfl (.bool true) rfl rfl (Zhz (by omega)) ?_
 refine Ze (Zf (Z8 rfl (Zj (Zl (Zc (Iv 1) (Ze (Zf (Zq (Z4 (Zp ?_))))))))))
 rw [show Zd6 x y = 1 from by unfold Zd6; split <;> (try split) <;> omega]
 exact Zm (v := Iv 1) rfl rfl rfl (by kernel_rfl) rfl
 refine Zn (vx := Iv x) (vy := Iv y) rfl rfl (.bool false) rfl rfl (Zhy (by omega)) ?_
 refine Ze (Zf (Zw rfl (Z7 (Zf (Zj (Zl (Zc (Iv 0) (Ze (Zf (Zq (Zp ?_)))))))))))
 rw [show Zd6 x y = 0 from by unfold Zd6; split <;> (try split) <;> omega]
 exact Zm (v := Iv 0) rfl rfl rfl (by kernel_rfl) rfl
theorem Zzd (l : List Int) (n c : Nat) (hn : l.length = n) (hc : n ≤ c) (hb : n ≤ 1048576) : Zas Try.prog G 60 [slv 0 0 n c] [rwR Zqt l] (Iv (orL l)) [rwR Zqt l] := by
  refine Zcv (fn := Try.f60) (nt := 18) rfl rfl rfl rfl ?_
  refine Zj (Zl (Zc (Iv 0) (Ze (Zf (Zj (Zl (Zc (Iv 0) (Ze (Zf (Zj (Zj (Zl (Zb (slv 0 0 n c) (Zba (p := slv 0 0 n c) (v := Iv (n : Nat)) (Zb (Iv 0) (Ze (Zf (Zbm ?_))))))))))))))))))
  refine Zf9 (fun i : Nat => [slv 0 0 n c, dead, dead, Iv 0, dead, dead, slv 0 0 n c, Iv (n : Nat), Iv (i : Nat)]) (fun i : Nat => [rwR Zqt l]) (fun i : Nat => (∀ j, j < i → l.getD j default = 0) ∧ i ≤ n) (fun i : Nat => n - i) 0 ⟨fun _ h => absurd h (by omega), by omega⟩ ?_ ?_
  · refine Zbz (n := 1) rfl ?_ (by kernel_rfl) (by kernel_rfl)
    repeat (first | exact trivial | refine ⟨.inl rfl, ?_⟩ | refine ⟨.inr ⟨rfl, rfl⟩, ?_⟩ | refine ⟨.inr ⟨congrArg (Value.int .i64) (by first | omega | (dsimp only; omega)), rfl⟩, ?_⟩)
  rintro i ⟨hR, hi⟩
  refine Zj (Zl ?_)
  by_cases h1 : (i : Nat) < (n : Nat)
  refine Zn (vx := Iv (i : Nat)) (vy := Iv (n : Nat)) rfl rfl (.bool true) rfl rfl (Zfg (by omega)) ?_
  refine Ze (Zf (Zj (Z8 rfl (Z7 (Zf (Zj (Zbm (Zj (Zl ?_)))))))))
  refine Zd0 (b := 0) (o := 0) (j := i) (m := n) (c := c) (sz := 1) (i := (i : Nat)) (k := .i64) rfl rfl rfl rfl rfl (by omega) (by omega) (by omega) ?_
  refine Zcp (p := pt 0 i) (v := Iv (l.getD i default)) rfl rfl rfl (Zvs (m := 1) Zqt (l := l) (i := i) rfl rfl rfl rfl (by have := hn; omega) (by omega) rfl rfl) ?_
  refine Zc (Iv (l.getD i default)) (Ze (Zf (Zj (Zl (Zb (Iv (l.getD i default)) (Zb (Iv 0) ?_))))))
  by_cases h2 : (l.getD i default) ≠ 0
  refine Zn (vx := Iv (l.getD i default)) (vy := Iv 0) rfl rfl (.bool true) rfl rfl (Zc3 (by omega)) ?_
  refine Ze (Zf (Z8 rfl (Zj (Zl (Zb (Iv (l.getD i default)) (Zc (Iv (l.getD i default)) (Ze (Zf (Zq (Zag (Z4 (Zca (Zag (Z4 (Zp ?_)))))))))))))))
  rw [show orL l = l.getD i default from Zxm hR (by omega) (by omega)]
  exact Zm (v := Iv (l.getD i default)) rfl rfl rfl (by kernel_rfl) rfl
  refine Zn (vx := Iv (l.getD i default)) (vy := Iv 0) rfl rfl (.bool false) rfl rfl (Zbk (by omega)) ?_
  refine Ze (Zf (Zw rfl (Z7 (Z1 (Zf (Zl ?_))))))
  refine Zn (vx := Iv (i : Nat)) (vy := Iv 1) rfl rfl (Iv ((i : Nat) + 1)) rfl rfl (Zci (by omega) (by omega) (by omega)) ?_
  refine Zb (Iv ((i : Nat) + 1)) (Ze ?_)
  refine Zab ⟨(i + 1), ⟨fun j hj => by rcases Nat.lt_or_ge j i with h | h; exact hR j h; obtain rfl : j = i := (by omega); omega, by omega⟩, by show n - (i + 1) < n - i; omega, ?_⟩
  refine Zbz (n := 1) rfl ?_ (by kernel_rfl) (by kernel_rfl)
  repeat (first | exact trivial | refine ⟨.inl rfl, ?_⟩ | refine ⟨.inr ⟨rfl, rfl⟩, ?_⟩ | refine ⟨.inr ⟨congrArg (Value.int .i64) (by first | omega | (dsimp only; omega)), rfl⟩, ?_⟩)
  refine Zn (vx := Iv (i : Nat)) (vy := Iv (n : Nat)) rfl rfl (.bool false) rfl rfl (Zff (by omega)) ?_
  refine Ze (Zf (Zj (Zw rfl (Zhq (Zgh (Zeh (Zfw rfl (Zf (Zj (Zl (Zb (Iv 0) (Zc (Iv 0) (Ze (Zf (Zq (Zp ?_))))))))))))))))
  rw [show orL l = 0 from Zvx (fun j hj => hR j (by omega))]
  exact Zm (v := Iv 0) rfl rfl rfl (by kernel_rfl) rfl
theorem Zlx (a b : Claim) : Zas Try.prog G 45 [Zv a, Zv b] [] (Iv (Zgz a b)) [] := by
  refine Zcv (fn := Try.f45) (nt := 17) rfl rfl rfl rfl ?_
  refine Zbq 3 (H' := [hole, hole, hole]) rfl ?_
  refine Zj (Zl (Zbw (v := Zv a) (b := bxB 36 (Zo a)) (nid := 0) (H' := [bxB 36 (Zo a), hole, hole]) (Zbw (v := Zv b) (b := bxB 36 (Zo b)) (nid := 1) (H' := [bxB 36 (Zo a), bxB 36 (Zo b), hole]) (Zc (Iv 0) (Ze (Zf (Zj ?_)))))))
  refine Zdx (by kernel_rfl) ?_
  refine Zd (b := 0) (o := 0) (n := 0) (o' := 0) (Zi (p := pt 0 0) (v := Iv a.region) (Zd (b := 1) (o := 0) (n := 0) (o' := 0) (Zi (p := pt 1 0) (v := Iv b.region) ?_)))
  refine Zs (Zli (G := G) a.region b.region) (vals := [Iv a.region, Iv b.region]) (res' := Iv (Zd6 a.region b.region)) rfl rfl rfl rfl rfl rfl ?_
  refine Zd (b := 0) (o := 0) (n := 1) (o' := 1) (Zi (p := pt 0 1) (v := Iv a.epoch) (Zd (b := 1) (o := 0) (n := 1) (o' := 1) (Zi (p := pt 1 1) (v := Iv b.epoch) ?_)))
  refine Zs (Zli (G := G) a.epoch b.epoch) (vals := [Iv a.epoch, Iv b.epoch]) (res' := Iv (Zd6 a.epoch b.epoch)) rfl rfl rfl rfl rfl rfl ?_
  refine Zp5 (vs := [(0, Iv (Zd6 a.region b.region)), (1, Iv (Zd6 a.epoch b.epoch))]) (v := slv 2 0 2 2) (blk := rwB Zqt [(Zd6 a.region b.region), (Zd6 a.epoch b.epoch)]) (nid := 2) (H' := [bxB 36 (Zo a), bxB 36 (Zo b), rwB Zqt [(Zd6 a.region b.region), (Zd6 a.epoch b.epoch)]]) rfl rfl rfl (by kernel_rfl) (by kernel_rfl) ?_
  refine Z2 (e := [some (2, 0)]) (nid := 0) (Zzd (G := G) [(Zd6 a.region b.region), (Zd6 a.epoch b.epoch)] 2 2 (rfl : _ = 2) (by omega) (by omega)) (vals := [slv 2 0 2 2]) (v := Iv (orL [(Zd6 a.region b.region), (Zd6 a.epoch b.epoch)])) (H' := [bxB 36 (Zo a), bxB 36 (Zo b), rwB Zqt [(Zd6 a.region b.region), (Zd6 a.epoch b.epoch)]]) rfl rfl rfl rfl rfl rfl rfl ⟨⟨⟨rfl, rfl, rfl, by first | omega | exact Nat.le_refl _, by first | omega | exact Nat.le_refl _⟩, trivial⟩, ⟨(Zaa rfl), trivial⟩, rfl, rfl, rfl⟩ rfl (by kernel_rfl) ?_
  refine Zc (Iv (orL [(Zd6 a.region b.region), (Zd6 a.epoch b.epoch)])) ?_
  refine Zbh (Zar [[], [0], [], [2], [0, 1, 2, 3], [], [5], [], [7], [0, 1, 2, 3, 4, 5, 6, 7, 8], [0, 1, 2, 3, 4, 5, 6, 7, 8, 9], [0, 1, 2, 3, 4, 5, 6, 7, 8, 9, 10], [0, 1, 2, 3, 4, 5, 6, 7, 8, 9, 10, 11]] (by kernel_rfl) (by kernel_rfl)) ?_
  refine Zf (Zq (Zp ?_))
  exact Zm (v := Iv (orL [(Zd6 a.region b.region), (Zd6 a.epoch b.epoch)])) rfl rfl rfl (by kernel_rfl) rfl
theorem Zj4 (l : List Claim) (n c : Nat) (hn : l.length = n) (hc : n ≤ c) (hb : n ≤ 1048576) : Zas Try.prog G 28 [slv 0 0 n c] [rwR Zh l] (Iv (Zc6 l)) [rwR Zh l] := by
  refine Zcv (fn := Try.f28) (nt := 30) rfl rfl rfl rfl ?_
  refine Zj (Zl (Zc (Iv 0) (Ze (Zf (Zj (Zj (Zl (Zb (slv 0 0 n c) (Zba (p := slv 0 0 n c) (v := Iv (n : Nat)) (Zb (Iv 0) (Ze (Zf (Zbm ?_)))))))))))))
  refine Zf9 (fun i : Nat => [slv 0 0 n c, dead, dead, dead, dead, slv 0 0 n c, Iv (n : Nat), Iv (i : Nat)]) (fun i : Nat => [rwR Zh l]) (fun i : Nat => (∀ j, j < i → okC l j) ∧ i ≤ n) (fun i : Nat => n - i) 0 ⟨fun _ h => absurd h (by omega), by omega⟩ ?_ ?_
  · refine Zbz (n := 1) rfl ?_ (by kernel_rfl) (by kernel_rfl)
    repeat (first | exact trivial | refine ⟨.inl rfl, ?_⟩ | refine ⟨.inr ⟨rfl, rfl⟩, ?_⟩ | refine ⟨.inr ⟨congrArg (Value.int .i64) (by first | omega | (dsimp only; omega)), rfl⟩, ?_⟩)
  rintro i ⟨hR, hi⟩
  refine Zbq 2 (H' := [rwR Zh l, hole, hole]) rfl ?_
  refine Zj (Zl ?_)
  by_cases h1 : (i : Nat) < (n : Nat)
  refine Zn (vx := Iv (i : Nat)) (vy := Iv (n : Nat)) rfl rfl (.bool true) rfl rfl (Zfg (by omega)) ?_
  refine Ze (Zf (Zj (Z8 rfl (Z7 (Zf (Zj (Zbm (Zj (Zl (Zb (Iv (i : Nat)) ?_))))))))))
  refine Zd0 (b := 0) (o := 0) (j := i * 36) (m := n) (c := c) (sz := 36) (i := (i : Nat)) (k := .i64) rfl rfl rfl rfl rfl (by omega) (by omega) (by omega) ?_
  refine Zcp (p := pt 0 (i * 36)) (v := Zv (l.getD i default)) rfl rfl rfl (Zei (n := 0) (m := 36) Zh rfl rfl rfl rfl (by have := hn; omega) (by omega)) ?_
  refine Za4 (b := bxB 36 (Zo (⟨0, 0, 0, 0, dz⟩ : Claim))) (nid := 1) (H' := [rwR Zh l, bxB 36 (Zo (⟨0, 0, 0, 0, dz⟩ : Claim)), hole]) (Zc (Iv (i : Nat)) (Zy (p := pt 1 0) (v := Zv (l.getD i default)) (b := 1) (blk := bxB 36 (Zo (l.getD i default))) (H' := [rwR Zh l, bxB 36 (Zo (l.getD i default)), hole]) (Ze (Zf (Zj ?_)))))
  refine Zeu (by kernel_rfl) ?_
  refine Zi (p := pt 1 0) (v := Zv (l.getD i default)) ?_
  refine Zs (Zgi (G := G) (l.getD i default)) (vals := [Zv (l.getD i default)]) (res' := Iv (Zdv (l.getD i default))) rfl rfl rfl rfl rfl rfl ?_
  by_cases h2 : (Zdv (l.getD i default)) ≠ 0
  refine Zn (vx := Iv (Zdv (l.getD i default))) (vy := Iv 0) rfl rfl (.bool true) rfl rfl (Zc3 (by omega)) ?_
  refine Zb (.bool true) (Za (Za (Za (Za (Za (Za (Za (Za (Za (Za (Za (Za (Zg (.bool true) ?_)))))))))))))
  refine Zco (Za8 [[], [0], [0, 1], [0, 1, 2], [0, 1, 2, 3], [0, 1, 2, 3, 4], [0, 1, 2, 3, 4, 5], [0, 1, 2, 3, 4, 5, 6], [0, 1, 2, 3, 4, 5, 6], [0, 1, 2, 3, 4, 5, 6, 8], [0, 1, 2, 3, 4, 5, 6, 7, 8, 9], [0, 1, 2, 3, 4, 5, 6, 7, 8, 9, 10], [0, 1, 2, 3, 4, 5, 6], [0, 1, 2, 3, 4, 5, 6, 7, 8, 9, 10, 11, 12], [0, 1, 2, 3, 4, 5, 6, 7, 8, 9, 10, 11, 12, 13], [0, 1, 2, 3, 4, 5, 6, 7, 8, 9, 10, 11, 12, 13, 14], [0, 1, 2, 3, 4, 5, 6, 7, 8, 9, 10, 11, 12, 13, 14, 15]] (by kernel_rfl) (by kernel_rfl)) ?_
  refine Zf (Z8 rfl (Zj (Zl (Zc (Iv 110) (Ze (Zf (Zq (Zag (Z4 (Zca (Zag (Z4 (Zp ?_)))))))))))))
  rw [show Zc6 l = 110 from if_neg (fun q => by have q1 := q i (by omega); first | exact Zo4 (by omega) q1.1 | (have q2 := Zg0.2 (q1.2 (by omega)); omega))]
  exact Zm (v := Iv 110) rfl rfl rfl (by kernel_rfl) rfl
  refine Zn (vx := Iv (Zdv (l.getD i default))) (vy := Iv 0) rfl rfl (.bool false) rfl rfl (Zbk (by omega)) ?_
  refine Zb (.bool false) (Zb (Iv (i : Nat)) ?_)
  by_cases h3 : 0 < (i : Nat)
  refine Zn (vx := Iv (i : Nat)) (vy := Iv 0) rfl rfl (.bool true) rfl rfl (Zhz (by omega)) ?_
  refine Zb (.bool true) (Zb (slv 0 0 n c) (Zb (Iv (i : Nat)) ?_))
  refine Zn (vx := Iv (i : Nat)) (vy := Iv 1) rfl rfl (Iv ((i : Nat) - 1)) rfl rfl (Zk4 (by omega) (by omega) (by omega)) ?_
  refine Zd0 (b := 0) (o := 0) (j := (i - 1) * 36) (m := n) (c := c) (sz := 36) (i := (i : Nat) - 1) (k := .i64) rfl rfl rfl rfl rfl (by omega) (by omega) (by omega) ?_
  refine Zcp (p := pt 0 ((i - 1) * 36)) (v := Zv (l.getD (i - 1) default)) rfl rfl rfl (Zei (n := 0) (m := 36) Zh rfl rfl rfl rfl (by have := hn; omega) (by omega)) ?_
  refine Zi (p := pt 1 0) (v := Zv (l.getD i default)) ?_
  refine Zs (Zlx (G := G) (l.getD (i - 1) default) (l.getD i default)) (vals := [Zv (l.getD (i - 1) default), Zv (l.getD i default)]) (res' := Iv (Zgz (l.getD (i - 1) default) (l.getD i default))) rfl rfl rfl rfl rfl rfl ?_
  by_cases h4 : 0 ≤ (Zgz (l.getD (i - 1) default) (l.getD i default))
  refine Zn (vx := Iv (Zgz (l.getD (i - 1) default) (l.getD i default))) (vy := Iv 0) rfl rfl (.bool true) rfl rfl (Zhw (by omega)) ?_
  refine Zg (.bool true) (Zg (.bool true) ?_)
  refine Zco (Za8 [[], [0], [0, 1], [0, 1, 2], [0, 1, 2, 3], [0, 1, 2, 3, 4], [0, 1, 2, 3, 4, 5], [0, 1, 2, 3, 4, 5, 6], [0, 1, 2, 3, 4, 5, 6], [0, 1, 2, 3, 4, 5, 6, 8], [0, 1, 2, 3, 4, 5, 6, 7, 8, 9], [0, 1, 2, 3, 4, 5, 6, 7, 8, 9, 10], [0, 1, 2, 3, 4, 5, 6], [0, 1, 2, 3, 4, 5, 6, 7, 8, 9, 10, 11, 12], [0, 1, 2, 3, 4, 5, 6, 7, 8, 9, 10, 11, 12, 13], [0, 1, 2, 3, 4, 5, 6, 7, 8, 9, 10, 11, 12, 13, 14], [0, 1, 2, 3, 4, 5, 6, 7, 8, 9, 10, 11, 12, 13, 14, 15]] (by kernel_rfl) (by kernel_rfl)) ?_
  refine Zf (Z8 rfl (Zj (Zl (Zc (Iv 110) (Ze (Zf (Zq (Zag (Z4 (Zca (Zag (Z4 (Zp ?_)))))))))))))
  rw [show Zc6 l = 110 from if_neg (fun q => by have q1 := q i (by omega); first | exact Zo4 (by omega) q1.1 | (have q2 := Zg0.2 (q1.2 (by omega)); omega))]
  exact Zm (v := Iv 110) rfl rfl rfl (by kernel_rfl) rfl
  refine Zn (vx := Iv (Zgz (l.getD (i - 1) default) (l.getD i default))) (vy := Iv 0) rfl rfl (.bool false) rfl rfl (Zjl (by omega)) ?_
  refine Zg (.bool false) (Zg (.bool false) ?_)
  refine Zco (Za8 [[], [0], [0, 1], [0, 1, 2], [0, 1, 2, 3], [0, 1, 2, 3, 4], [0, 1, 2, 3, 4, 5], [0, 1, 2, 3, 4, 5, 6], [0, 1, 2, 3, 4, 5, 6], [0, 1, 2, 3, 4, 5, 6, 8], [0, 1, 2, 3, 4, 5, 6, 7, 8, 9], [0, 1, 2, 3, 4, 5, 6, 7, 8, 9, 10], [0, 1, 2, 3, 4, 5, 6], [0, 1, 2, 3, 4, 5, 6, 7, 8, 9, 10, 11, 12], [0, 1, 2, 3, 4, 5, 6, 7, 8, 9, 10, 11, 12, 13], [0, 1, 2, 3, 4, 5, 6, 7, 8, 9, 10, 11, 12, 13, 14], [0, 1, 2, 3, 4, 5, 6, 7, 8, 9, 10, 11, 12, 13, 14, 15]] (by kernel_rfl) (by kernel_rfl)) ?_
  refine Zf (Zw rfl (Z7 (Z1 (Zf (Zl ?_)))))
  refine Zn (vx := Iv (i : Nat)) (vy := Iv 1) rfl rfl (Iv ((i : Nat) + 1)) rfl rfl (Zci (by omega) (by omega) (by omega)) ?_
  refine Zb (Iv ((i : Nat) + 1)) (Ze ?_)
  refine Zab ⟨(i + 1), ⟨fun j hj => by rcases Nat.lt_or_ge j i with h | h; exact hR j h; obtain rfl : j = i := (by omega); exact ⟨Zo5 (by omega), fun q => by first | omega | exact Zg0.1 (by omega)⟩, by omega⟩, by show n - (i + 1) < n - i; omega, ?_⟩
  refine Zbz (n := 1) rfl ?_ (by kernel_rfl) (by kernel_rfl)
  repeat (first | exact trivial | refine ⟨.inl rfl, ?_⟩ | refine ⟨.inr ⟨rfl, rfl⟩, ?_⟩ | refine ⟨.inr ⟨congrArg (Value.int .i64) (by first | omega | (dsimp only; omega)), rfl⟩, ?_⟩)
  refine Zn (vx := Iv (i : Nat)) (vy := Iv 0) rfl rfl (.bool false) rfl rfl (Zhy (by omega)) ?_
  refine Zb (.bool false) (Za (Za (Za (Za (Za (Za (Za (Za (Zg (.bool false) (Zg (.bool false) ?_))))))))))
  refine Zco (Za8 [[], [0], [0, 1], [0, 1, 2], [0, 1, 2, 3], [0, 1, 2, 3, 4], [0, 1, 2, 3, 4, 5], [0, 1, 2, 3, 4, 5, 6], [0, 1, 2, 3, 4, 5, 6], [0, 1, 2, 3, 4, 5, 6, 8], [0, 1, 2, 3, 4, 5, 6, 7, 8, 9], [0, 1, 2, 3, 4, 5, 6, 7, 8, 9, 10], [0, 1, 2, 3, 4, 5, 6], [0, 1, 2, 3, 4, 5, 6, 7, 8, 9, 10, 11, 12], [0, 1, 2, 3, 4, 5, 6, 7, 8, 9, 10, 11, 12, 13], [0, 1, 2, 3, 4, 5, 6, 7, 8, 9, 10, 11, 12, 13, 14], [0, 1, 2, 3, 4, 5, 6, 7, 8, 9, 10, 11, 12, 13, 14, 15]] (by kernel_rfl) (by kernel_rfl)) ?_
  refine Zf (Zw rfl (Z7 (Z1 (Zf (Zl ?_)))))
  refine Zn (vx := Iv (i : Nat)) (vy := Iv 1) rfl rfl (Iv ((i : Nat) + 1)) rfl rfl (Zci (by omega) (by omega) (by omega)) ?_
  refine Zb (Iv ((i : Nat) + 1)) (Ze ?_)
  refine Zab ⟨(i + 1), ⟨fun j hj => by rcases Nat.lt_or_ge j i with h | h; exact hR j h; obtain rfl : j = i := (by omega); exact ⟨Zo5 (by omega), fun q => by first | omega | exact Zg0.1 (by omega)⟩, by omega⟩, by show n - (i + 1) < n - i; omega, ?_⟩
  refine Zbz (n := 1) rfl ?_ (by kernel_rfl) (by kernel_rfl)
  repeat (first | exact trivial | refine ⟨.inl rfl, ?_⟩ | refine ⟨.inr ⟨rfl, rfl⟩, ?_⟩ | refine ⟨.inr ⟨congrArg (Value.int .i64) (by first | omega | (dsimp only; omega)), rfl⟩, ?_⟩)
  refine Zn (vx := Iv (i : Nat)) (vy := Iv (n : Nat)) rfl rfl (.bool false) rfl rfl (Zff (by omega)) ?_
  refine Ze (Zf (Zj (Zw rfl (Zhq (Zgh (Zeh (Zfw rfl (Zf (Zj (Zl (Zc (Iv 0) (Ze (Zf (Zq (Zp ?_)))))))))))))))
  rw [show Zc6 l = 0 from if_pos (fun j hj => hR j (by omega))]
  exact Zm (v := Iv 0) rfl rfl rfl (by kernel_rfl) rfl
theorem Zp7 (l m : List Claim) (n c p d : Nat) (hn : l.length = n) (hm : m.length = p) (hc : n ≤ c) (hd : p ≤ d) (hb : n ≤ 1048576) (hb2 : p ≤ 1048576) : Zas Try.prog G 35 [slv 0 0 n c, slv 1 0 p d] [rwR Zh l, rwR Zh m] (.bool (Zcu l m)) [rwR Zh l, rwR Zh m] := by
  refine Zcv (fn := Try.f35) (nt := 26) rfl rfl rfl rfl ?_
  refine Zj (Zl (Zc (.bool false) (Ze (Zf (Zj (Zj (Zl (Zb (slv 0 0 n c) (Zba (p := slv 0 0 n c) (v := Iv (n : Nat)) (Zb (slv 1 0 p d) (Zba (p := slv 1 0 p d) (v := Iv (p : Nat)) ?_)))))))))))
  by_cases h1 : (n : Nat) ≠ (p : Nat)
  refine Zn (vx := Iv (n : Nat)) (vy := Iv (p : Nat)) rfl rfl (.bool true) rfl rfl (Zc3 (by omega)) ?_
  refine Ze (Zf (Z8 rfl (Zj (Zl (Zc (.bool false) (Ze (Zf (Zq (Z4 (Zp ?_))))))))))
  rw [show Zcu l m = false from by first | exact Zl3 (by omega) | exact Zqb i (by omega) (by assumption)]
  exact Zm (v := .bool false) rfl rfl rfl (by kernel_rfl) rfl
  refine Zn (vx := Iv (n : Nat)) (vy := Iv (p : Nat)) rfl rfl (.bool false) rfl rfl (Zbk (by omega)) ?_
  refine Ze (Zf (Zw rfl (Z7 (Zf (Zj (Zj (Zl (Zc (Iv 0) (Ze (Zf (Zbm ?_)))))))))))
  refine Zf9 (fun i : Nat => [slv 0 0 n c, slv 1 0 p d, dead, dead, dead, Iv (i : Nat), slv 0 0 n c, Iv (n : Nat), slv 1 0 p d, Iv (p : Nat), .bool false]) (fun i : Nat => [rwR Zh l, rwR Zh m]) (fun i : Nat => (∀ j, j < i → Zr (l.getD j default) (m.getD j default) = true) ∧ i ≤ n) (fun i : Nat => n - i) 0 ⟨fun _ h => absurd h (by omega), by omega⟩ ?_ ?_
  · refine Zbz (n := 2) rfl ?_ (by kernel_rfl) (by kernel_rfl)
    repeat (first | exact trivial | refine ⟨.inl rfl, ?_⟩ | refine ⟨.inr ⟨rfl, rfl⟩, ?_⟩ | refine ⟨.inr ⟨congrArg (Value.int .i64) (by first | omega | (dsimp only; omega)), rfl⟩, ?_⟩)
  rintro i ⟨hR, hi⟩
  refine Zbq 1 (H' := [rwR Zh l, rwR Zh m, hole]) rfl ?_
  refine Zj (Zj (Zl (Zb (Iv (i : Nat)) (Zb (slv 0 0 n c) (Zba (p := slv 0 0 n c) (v := Iv (n : Nat)) ?_)))))
  by_cases h2 : (i : Nat) < (n : Nat)
  refine Zn (vx := Iv (i : Nat)) (vy := Iv (n : Nat)) rfl rfl (.bool true) rfl rfl (Zfg (by omega)) ?_
  refine Ze (Zf (Z8 rfl (Z7 (Zf (Zj (Zbm (Zj ?_)))))))
  refine Zdx (by kernel_rfl) ?_
  refine Zb (slv 0 0 n c) (Zb (Iv (i : Nat)) ?_)
  refine Zd0 (b := 0) (o := 0) (j := i * 36) (m := n) (c := c) (sz := 36) (i := (i : Nat)) (k := .i64) rfl rfl rfl rfl rfl (by omega) (by omega) (by omega) ?_
  refine Zcp (p := pt 0 (i * 36)) (v := Zv (l.getD i default)) rfl rfl rfl (Zei (n := 0) (m := 36) Zh rfl rfl rfl rfl (by have := hn; omega) (by omega)) ?_
  refine Zb (slv 1 0 p d) (Zb (Iv (i : Nat)) ?_)
  refine Zd0 (b := 1) (o := 0) (j := i * 36) (m := p) (c := d) (sz := 36) (i := (i : Nat)) (k := .i64) rfl rfl rfl rfl rfl (by omega) (by omega) (by omega) ?_
  refine Zcp (p := pt 1 (i * 36)) (v := Zv (m.getD i default)) rfl rfl rfl (Zei (n := 0) (m := 36) Zh rfl rfl rfl rfl (by have := hm; omega) (by omega)) ?_
  rcases Bool.eq_false_or_eq_true (Zr (l.getD i default) (m.getD i default)) with h3 | h3
  refine Zn (vx := Zv (l.getD i default)) (vy := Zv (m.getD i default)) rfl rfl (.bool false) rfl rfl (Eq.trans (Zik (l.getD i default) (m.getD i default)) (by rw [h3] <;> rfl)) ?_
  refine Zbh (Zar [[], [], [0, 1], [0, 1, 2], [], [], [4, 5], [4, 5, 6], [0, 1, 2, 3, 4, 5, 6, 7]] (by kernel_rfl) (by kernel_rfl)) ?_
  refine Zf (Zw rfl (Z7 (Z1 (Zf (Zl (Zb (Iv (i : Nat)) ?_))))))
  refine Zn (vx := Iv (i : Nat)) (vy := Iv 1) rfl rfl (Iv ((i : Nat) + 1)) rfl rfl (Zci (by omega) (by omega) (by omega)) ?_
  refine Zc (Iv ((i : Nat) + 1)) (Ze ?_)
  refine Zab ⟨(i + 1), ⟨fun j hj => by rcases Nat.lt_or_ge j i with h | h; exact hR j h; obtain rfl : j = i := (by omega); assumption, by omega⟩, by show n - (i + 1) < n - i; omega, ?_⟩
  refine Zbz (n := 2) rfl ?_ (by kernel_rfl) (by kernel_rfl)
  repeat (first | exact trivial | refine ⟨.inl rfl, ?_⟩ | refine ⟨.inr ⟨rfl, rfl⟩, ?_⟩ | refine ⟨.inr ⟨congrArg (Value.int .i64) (by first | omega | (dsimp only; omega)), rfl⟩, ?_⟩)
  refine Zn (vx := Zv (l.getD i default)) (vy := Zv (m.getD i default)) rfl rfl (.bool true) rfl rfl (Eq.trans (Zik (l.getD i default) (m.getD i default)) (by rw [h3] <;> rfl)) ?_
  refine Zbh (Zar [[], [], [0, 1], [0, 1, 2], [], [], [4, 5], [4, 5, 6], [0, 1, 2, 3, 4, 5, 6, 7]] (by kernel_rfl) (by kernel_rfl)) ?_
  refine Zf (Z8 rfl (Zj (Zl (Zc (.bool false) (Ze (Zf (Zq (Zag (Z4 (Zca (Zag (Z4 (Zp ?_)))))))))))))
  rw [show Zcu l m = false from by first | exact Zl3 (by omega) | exact Zqb i (by omega) (by assumption)]
  exact Zm (v := .bool false) rfl rfl rfl (by kernel_rfl) rfl
  refine Zn (vx := Iv (i : Nat)) (vy := Iv (n : Nat)) rfl rfl (.bool false) rfl rfl (Zff (by omega)) ?_
  refine Ze (Zf (Zw rfl (Zhq (Zgh (Zeh (Zfw rfl (Zf (Zj (Zl (Zc (.bool true) (Ze (Zf (Zq (Zp ?_))))))))))))))
  rw [show Zcu l m = true from Zqd (by omega) (fun j hj => hR j (by omega))]
  exact Zm (v := .bool true) rfl rfl rfl (by kernel_rfl) rfl
end Go.Flat
