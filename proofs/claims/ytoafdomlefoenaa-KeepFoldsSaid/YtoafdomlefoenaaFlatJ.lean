/- Walks. -/
import Derived.Test.YtoafdomlefoenaaFlatG
import Derived.ScopeJumps
import Derived.Lib.SliceRun
set_option linter.unusedVariables false
set_option linter.unusedSimpArgs false
section
/- Structs that hold slices: their values, boxes, arguments. -/
namespace Go.Flat
abbrev mxV (l : List Value) : Value := .agg l.toArray
def mxB (n : Nat) (l : List Value) : Blk := { cells := l, sz := n, wr := true, fix := true, mv := false, pur := false }
theorem Zac {e : Emb} : ∀ {a a' b b' : List Value}, Zlk e a a' → Zlk e b b' → Zlk e (a ++ b) (a' ++ b')
 | [], [], _, _, _, h => h
 | _ :: _, _ :: _, _, _, h1, h => ⟨h1.1, Zac h1.2 h⟩
 | [], _ :: _, _, _, h1, _ => h1.elim
 | _ :: _, [], _, _, h1, _ => h1.elim
theorem Zum {e : Emb} {v : Value} (h : Zbt v = true) : Zr4 e v v := by
  cases v
  case slice a n c => rcases a with _ | ⟨b, o, q⟩
                      · exact ⟨rfl, rfl⟩
                      · cases h
  case pointer a => rcases a with _ | ⟨b, o, q⟩
                    · exact ⟨rfl, rfl⟩
                    · cases h
  all_goals first | exact ⟨rfl, rfl⟩ | (cases h)
theorem Zap {e : Emb} : ∀ {a : List Value}, a.all Zbt = true → Zlk e a a
 | [], _ => trivial
 | x :: l, h => by
  rw [List.all_cons, Bool.and_eq_true] at h
  exact ⟨Zum h.1, Zap h.2⟩
theorem Zah {e : Emb} {a b : List Value} (hp : Zcf (mxV a) = false) (h : Zlk e a b) : Zjf e (mxV a) (mxV b) := by
 unfold Zjf
 rw [if_neg (by rw [hp]; decide)]
 exact h
open Go.ChangeShapes Go.WideShapes Go.RowKit
section
variable {H : Type} {enc : TypeId × Value → H} {P : Program} {W : World} {α : Type} {c : Cod α} {ok : α → Prop}
theorem Zu2 {t te : TypeId} (ho : Za7 P te c.enc ok) (ht : P.underlying t = some (.slice te)) (hce : P.cellsOf te = c.n)
    {fuel : Nat} {cs : List Value} {x : DataW H × List MemPlace} (hf : DataW.trod enc P W 0 (fun _ => true) true fuel t cs = some x) :
    ∃ (v : Value) (xs : List α) (cap : Nat) (r : Reg), cs = [v] ∧ xs.length ≤ cap ∧ cap ≤ maxLen ∧ r.wr = false ∧ r.fix = false ∧ r.len = xs.length * c.n ∧ r.sz = c.n ∧ r.mv = true ∧ (∀ x, x ∈ xs → ok x) ∧ (∀ k v, (c.row xs)[k]? = some v → W.cell? ⟨r.g, r.lo + k, none⟩ = some v) ∧ ∀ (m : MapM) (b : Nat), m b = some r → VR m (slv b 0 xs.length cap) v := by
  have hn := c.pos
  rcases DataW.trod_slice ht hf with ⟨hcs, _⟩ | ⟨a, len, cap, elems, rest, k, _, hcs, _, _, hl, hmx, hlen, hel, hsp, _⟩
  · subst hcs
    refine ⟨.slice none 0 0, [], 0, ⟨0, 0, 0, 0, c.n, false, false, true⟩, rfl, Nat.le_refl _, Nat.zero_le _, rfl, rfl, by simp, rfl, rfl, fun x hx => by simp at hx, fun k v hk => by simp [Cod.row] at hk, fun m b hb => ?_⟩
    exact ⟨_, none, 0, hb, rfl, Nat.le_refl _, Nat.le_refl _, fun h => by omega⟩
  · subst hcs
    obtain ⟨xs, hxl, hxs⟩ := Zt3 (Q := fun i y => (∀ j, j < c.n → W.cell? ((a.add (i * c.n)).add j) = (c.enc y)[j]?) ∧ ok y) len fun i hi => by
      have e := hel i hi
      rw [hce, List.getElem?_eq_getElem (by omega)] at e
      exact Zoq ho e
    have hcell : ∀ k v, (c.row xs)[k]? = some v → W.cell? ⟨a.block, a.off + k, none⟩ = some v := by
      intro k v hk
      obtain ⟨y, h1, h2⟩ := c.row_get xs k v hk
      have h3 := (hxs _ _ h1).1 (k % c.n) (Nat.mod_lt _ hn)
      rw [h2, Zth, Nat.mul_comm, Nat.div_add_mod] at h3
      exact Zvy h3
    have hspot : 0 < cap → a.spot = none := by
      intro hc
      have key : ∀ {fuel : Nat} {x : DataW H × List MemPlace}, (W.cells? 0 (a.add (0 * c.n)) c.n).bind (DataW.trod enc P W 0 (fun _ => true) true fuel te) = some x → a.spot = none := by
        intro fuel x h
        obtain ⟨y, h1, _⟩ := Zoq ho h
        have h2 := h1 0 hn
        rw [Zth, Nat.zero_mul, List.getElem?_eq_getElem (by rw [c.len]; exact hn)] at h2
        exact Zr8 h2
      rcases Nat.eq_zero_or_pos len with h0 | h0
      · subst h0
        obtain ⟨s1, s2⟩ := hsp rfl
        have e := s2 0 (by omega)
        rw [hce, List.getElem?_eq_getElem (by omega)] at e
        exact key e
      · have e := hel 0 h0
        rw [hce, List.getElem?_eq_getElem (by omega)] at e
        exact key e
    refine ⟨.slice (some a) len cap, xs, cap, ⟨a.block, a.off, a.off + cap * c.n, xs.length * c.n, c.n, false, false, true⟩, rfl, by omega, hmx, rfl, rfl, rfl, rfl, rfl, ?_, hcell, fun m b hb => ?_⟩
    · intro x hx
      obtain ⟨i, hi⟩ := List.getElem?_of_mem hx
      exact (hxs i x hi).2
    · rw [hxl]
      refine ⟨_, some a, cap, hb, rfl, hl, Nat.le_refl _, fun hc => ⟨?_, fun _ => ?_, fun h _ _ => by cases h⟩⟩
      · have := hspot hc
        obtain ⟨g, o, s⟩ := a
        simp only at this
        subst this
        rfl
      · show a.off + 0 + cap * c.n ≤ a.off + cap * c.n
        omega
theorem HRel.addAt {G : Glob} {m : MapM} {σ : List Blk} (h : HRel G m σ W) (hm : ∀ b r, m b = some r → r.wr = false) {t te : TypeId} (c : Cod α) (ho : Za7 P te c.enc ok) (ht : P.underlying t = some (.slice te)) (hce : P.cellsOf te = c.n) (hp : ∀ x, (c.enc x).all Zbt = true)
  {n off : Nat} {cs : List Value} {ys : List (DataW H × List MemPlace)} {i : Nat} {f : Go.Field} (hf : DataW.trod enc P W 0 (fun _ => true) true n f.type ((cs.drop f.offset).take (P.cellsOf f.type)) = ys[i]?) (hi : i < ys.length) (ht' : f.type = t) (hc : P.cellsOf t = 1) (hoff : f.offset = off) :
  ∃ (v : Value) (xs : List α) (cap : Nat) (m' : MapM), (cs.drop off).take 1 = [v] ∧ xs.length ≤ cap ∧ cap ≤ 9223372036854775807 ∧ (∀ x, x ∈ xs → ok x) ∧ HRel G m' (σ ++ [rwR c xs]) W ∧ (∀ b r, m' b = some r → r.wr = false) ∧ (∀ b r, m b = some r → m' b = some r) ∧ VR m' (slv σ.length 0 xs.length cap) v := by
 subst ht'; subst hoff
 rw [List.getElem?_eq_getElem hi, hc] at hf
 obtain ⟨v, xs, cap, r, hv, h1, h2, r1, r2, r3, r4, r5, h6, h3, h4⟩ := Zu2 ho ht hce hf
 obtain ⟨g1, g2, g3⟩ := h.addRow hm (blk := rwR c xs) (r := r) rfl c.pos r1 r2 (by show _ = (c.row xs).length; rw [c.row_len, r3]) r4 r5 (fun i v hv => ⟨v, h3 i v hv, CR.of_pure (c.row_pure hp xs v (List.mem_of_getElem? hv))⟩) (fun _ v hv => c.row_pure hp xs v hv)
 exact ⟨v, xs, cap, _, hv, h1, h2, h6, g1, g2, g3, h4 _ _ (if_pos rfl)⟩
end
theorem L2.pure {m : MapM} {a : List Value} (h : a.all Zbt = true) : L2 (CR m) a a :=
 ⟨rfl, fun i x y hx hy => by
  rw [hx] at hy; injection hy with hy; subst hy
  exact CR.of_pure (List.all_eq_true.1 h x (List.mem_of_getElem? hx))⟩
theorem L2.cell {m : MapM} {b o n k : Nat} {v : Value} (h : VR m (slv b o n k) v) : L2 (CR m) [slv b o n k] [v] := L2.cons h L2.nil
theorem VR.mx {m : MapM} {l cs : List Value} (h : L2 (CR m) l cs) : VR m (mxV l) (.agg cs.toArray) := ⟨cs.toArray, rfl, h⟩
theorem Zm0 {P : Program} {W : World} {base : Nat} {t : TypeId} {v : Value} (hagg : ∃ fs, P.underlying t = some (.struct fs)) (hv : Value.okWide P W .any base t v) : ∃ cs : List Value, v = .agg cs.toArray := by
 unfold Value.okWide at hv
 obtain ⟨fs, e⟩ := hagg
 rw [e] at hv; obtain ⟨cs, h1, _⟩ := hv; exact ⟨cs.toList, by rw [h1]⟩
end Go.Flat
end
section
/- A scope in which the run jumps ahead to one label. -/
namespace Go.Flat
variable {P : Program} {G : Glob} {nt n0 : Nat} {Q : Exit → St → Prop} {s : St} {x : Code}
def Zme (Q : Exit → St → Prop) : Exit → St → Prop
  | .goto _, _ => False
  | e, s => Q e s
def Zsz (P : Program) (G : Glob) (nt n0 l : Nat) (rest : Code) (Q : Exit → St → Prop) : Exit → St → Prop
  | .goto l', s => l' = l ∧ C P G nt n0 rest (Zme Q) s
  | e, s => Q e s
theorem Zxr {l : Nat} {rest : Code} (hf : findLabel x l = some rest) (h : C P G nt n0 x (Zsz P G nt n0 l rest Q) s) : C P G nt n0 (.scope x) Q s := by
 refine ⟨fun E m a w h0 hr => ?_⟩
 refine wp_scope_jumps l (fun a w => ∃ s m, C P G nt n0 rest (Zme Q) s ∧ SRel G nt E m s a w) (fun _ _ => 0) hf (wp_mono (h.h E m a w h0 hr) ?_) ?_
 ·rintro e a' w' ⟨s', m', h1, h2⟩
  cases e with
  | goto l' => exact ⟨h1.1, s', m', h1.2, h2⟩
  | _ => exact ⟨s', m', h1, h2⟩
 ·rintro a w ⟨s', m', h1, h2⟩
  refine wp_mono (h1.h E m' a w h0 h2) ?_
  rintro e a' w' ⟨s2, m2, h3, h4⟩
  cases e with
  | goto l' => exact h3.elim
  | _ => exact ⟨s2, m2, h3, h4⟩
theorem Zg1 {l : Nat} {rest : Code} (h : C P G nt n0 rest (Zme Q) s) : X (Zsz P G nt n0 l rest Q) (.goto l) s := ⟨rfl, h⟩
theorem Znl {l : Nat} {rest : Code} (h : X Q .ret s) : X (Zsz P G nt n0 l rest Q) .ret s := ⟨h.h⟩
theorem Znk (h : X Q .ret s) : X (Zme Q) .ret s := ⟨h.h⟩
end Go.Flat
end
section
/- Is a slice nil? A split that the code itself makes; parts of own rows that are appended to. -/
namespace Go.Flat
variable {P : Program} {G : Glob} {nt n0 : Nat} {Q : Exit → St → Prop}
theorem Zn5 {x d1 d2 : Tmp} {ty1 ty2 t yt e : TypeId} {p1 p2 : String} {f1 f2 : Array Edge} {i b o n c : Nat} {rest : Code} {T : Nat → Value} {H : List Blk}
  (hu : P.underlying t = some (.slice e)) (hx : T x = slv b o n c) (hd1 : Zcb nt (some d1) = true) (hd2 : Zcb nt (some d2) = true)
  (h1 : n = 0 → C P G nt n0 (.seq (.region i #[⟨some d1, .move (.tmp x), ty1, p1, f1, none⟩, ⟨some d2, .binOp .eql t (.tmp d1) (.const (.slice none 0 0)) yt, ty2, p2, f2, none⟩] false) rest) Q ⟨upd T x (.slice none 0 0), H⟩)
  (h2 : C P G nt n0 rest Q ⟨upd (upd T d1 (slv b o n c)) d2 (.bool false), H⟩) :
  C P G nt n0 (.seq (.region i #[⟨some d1, .move (.tmp x), ty1, p1, f1, none⟩, ⟨some d2, .binOp .eql t (.tmp d1) (.const (.slice none 0 0)) yt, ty2, p2, f2, none⟩] false) rest) Q ⟨T, H⟩ := by
 refine ⟨fun E m a w h0 hr => ?_⟩
 have hv := hr.tmps x
 rw [show (⟨T, H⟩ : St).tmps x = slv b o n c from hx] at hv
 obtain ⟨r, a', c', hm, hv', hs⟩ := hv
 cases a' with
 | none =>
  have hc0 : c' = 0 := by
   rcases Nat.eq_zero_or_pos c' with h | h
   ·exact h
   ·exact absurd (hs.2.2 h).1 (by simp)
  have hn0 : n = 0 := by have := hs.1; have := hs.2.1; omega
  refine (h1 hn0).h E m a w h0 ⟨hr.size, fun j => ?_, hr.defers, hr.heap, hr.frame⟩
  show VR m (upd T x (.slice none 0 0) j) _
  unfold upd
  split
  ·rename_i hj
   subst hj
   rw [hv', hn0, hc0]
   exact rfl
  ·exact hr.tmps j
 | some ad =>
  refine wp_seq (wp_region_list ?_)
  refine wpList_plain rfl fun K hK => ?_
  unfold Oper.wp
  simp only [execOp, Sem.run_pure, Sem.run_bind, Result.andThen_ok]
  refine hK _ _ ?_
  refine wpList_plain rfl fun K hK => ?_
  have hd1' : d1 < nt := by simpa [Zcb] using hd1
  have he : (a.put (some d1) (a.eval (.tmp x))).eval (.tmp d1) = .slice (some ad) n c' := by
   have : a.eval (.tmp x) = .slice (some ad) n c' := hv'
   rw [this]
   simp [Act.put, Act.eval, hr.size, hd1']
  have hq := Lib.run_eql_slice_nil (P := P) w t e (some ad) n c' 0 0 hu
  have hcn : (a.put (some d1) (a.eval (.tmp x))).eval (.const (.slice none 0 0)) = .slice none 0 0 := rfl
  unfold Oper.wp
  simp only [execOp, Sem.run_pure, Sem.run_bind, Result.andThen_ok, he, hcn, eqGuard, hq, Bool.not_true, Bool.false_eq_true, if_false]
  refine hK _ _ ?_
  show rest.wp P (Znm G nt E Q) _ w
  have hr1 : SRel G nt E m ⟨upd T d1 (slv b o n c), H⟩ (a.put (some d1) (a.eval (.tmp x))) w := SRel.put (s := ⟨T, H⟩) hr (d := some d1) hd1 (v := slv b o n c) (by rw [show a.eval (.tmp x) = .slice (some ad) n c' from hv']; exact ⟨r, some ad, c', hm, rfl, hs⟩)
  exact h2.h E m _ w h0 (SRel.put (s := ⟨upd T d1 (slv b o n c), H⟩) hr1 (d := some d2) hd2 (v := .bool false) rfl)

def Zq1 (P : Program) (σ : List Blk) (t : TypeId) (nid : Nat) : Option (Value × Blk) :=
  match Zdb P t with
  | some (sz, _, _) => if 0 < sz ∧ Zdn σ nid = true then some (.slice (some ⟨nid, 0, none⟩) 0 0, Zeg true false sz []) else none
  | none => none
theorem Zs4 {o : Oper} {s : St} {t : TypeId} {nid : Nat} {v : Value} {b : Blk} (ho : o.op = .buildSlice t 0 #[]) (h : Zq1 P s.heap t nid = some (v, b)) : Zb3 P G o s v [(nid, b)] := by
 unfold Zq1 at h
 split at h
 ·rename_i sz zc by_ ht
  split at h
  ·rename_i hh
   obtain ⟨hsz, hfr⟩ := hh
   injection h with h; injection h with h1 h2
   subst h1; subst h2
   obtain ⟨e, i, z, hu, hi, hz, he1, he2, he3⟩ := Zfg ht
   intro nt E m a w hr
   obtain ⟨m', g1, g2, g3, g4⟩ := Zge hr.heap hr.frame hfr (Zeg true false sz []) hsz #[] e (0, 0) (by simp [Zeg]) (by simp only [Zeg]; exact L2.nil) (by intro hq u hu'; simp [Zeg] at hu') (by simp)
   refine ⟨.slice (some ⟨w.heap.size, 0, none⟩) 0 0, _, m', .inl ?_, g1, g2, g3, _, _, _, g4, rfl, Nat.le_refl _, Nat.le_refl _, fun h => absurd h (by omega)⟩
   have hrun : (Instr.buildSlice t 0 #[]).run P w = .ok (.slice (some ⟨w.heap.size, 0, none⟩) 0 0) (w.alloc (.cells #[] e)) := by
    simp only [Instr.buildSlice, Sem.run_bind, run_underlying hu, Result.andThen_ok, Zc2 hi]
    rw [if_neg (by simp)]
    simp only [Sem.run_bind, Sem.run_pure, Result.andThen_ok, Nat.zero_mul, if_true]
    simp [Instr.fill, newRow, show Array.range 0 = #[] from rfl]
   simp only [execOp, ho, Sem.run_bind]
   simp [hrun]
  ·cases h
 ·cases h
section
variable {ops l : List Oper} {K : Trace → St → Prop} {tr : Trace} {T : Nat → Value} {H H' : List Blk} {d : Tmp} {ty : TypeId} {ps : String} {af : Array Edge} {g : Option (Nat × Bool)}
theorem Zzz {ops : Array Oper} {o : Oper} {s : St} {t : TypeId} {nid : Nat} {v : Value} {b : Blk} (hg : Zdh nt s (Zdo ops o) = some true) (hd : Zcb nt o.dst = true) (ho : o.op = .buildSlice t 0 #[]) (h : Zq1 P s.heap t nid = some (v, b)) : Zbc P G nt ops o s { val := v, sets := [(nid, b)], foot := [nid] } :=
 Zbc.value hg hd fun s' ha => Zs4 ho (by
  unfold Zq1 at h ⊢
  rw [show Zdn s'.heap nid = Zdn s.heap nid from by unfold Zdn; rw [ha.heap nid (by simp), ha.len]]; exact h)
theorem Zw4 {nid : Nat} (hg : gd nt T ops g = some true) (hd : Zcb nt (some d) = true) {t : TypeId} {v : Value} {blk : Blk} (h : Zq1 P H t nid = some (v, blk)) (hH : Zfn H nid blk = H') (k : R P G nt ops K l (tr ++ [(⟨some d, .buildSlice t 0 #[], ty, ps, af, g⟩, { val := v, sets := [(nid, blk)], foot := [nid] })]) (upd T d v) H') : R P G nt ops K (⟨some d, .buildSlice t 0 #[], ty, ps, af, g⟩ :: l) tr T H :=
 ⟨Zcd.new (Zzz (by rw [Zd0]; exact hg) hd rfl h) rfl hH k.h⟩
end
end Go.Flat
end
section
/- Loops of few rounds, round by round; rows of structs that hold slices. -/
namespace Go.Flat
variable {P : Program} {G : Glob} {nt n0 : Nat} {Q : Exit → St → Prop}
def UL (P : Program) (G : Glob) (nt n0 : Nat) (y : Code) (Q : Exit → St → Prop) : Nat → St → Prop
  | 0, _ => False
  | k + 1, s => C P G nt n0 y (Zfc (UL P G nt n0 y Q k) Q) s
theorem Z2n {p : Nat → Prop} (h : ∃ n, p n) : ∃ n, p n ∧ ∀ m, p m → n ≤ m := by
  obtain ⟨n, hn⟩ := h
  induction n using Nat.strongRecOn with
  | _ n ih =>
    by_cases hx : ∃ m, m < n ∧ p m
    · obtain ⟨m, h1, h2⟩ := hx; exact ih m h1 h2
    · exact ⟨n, hn, fun m hm => by rcases Nat.lt_or_ge m n with h | h; exact absurd ⟨m, h, hm⟩ hx; exact h⟩
def mxW (n : Nat) (l : List Value) : Blk := { cells := l, sz := n, wr := true, fix := false, mv := true, pur := false }
def mxR (n : Nat) (l : List Value) : Blk := { cells := l, sz := n, wr := false, fix := false, mv := true, pur := false }
theorem Zvq {P : Program} {H : List Blk} {t : TypeId} {zc : List Value} {by_ b n c k n' : Nat} {α : Type} (cd : Cod α) {q : Value} {ls ms : List α} {cs : List Value} (hp : ∀ x, (cd.enc x).all Zbt = true) (ht : Zdb P t = some (cd.n, zc, by_)) (hz : zc.length = cd.n) (hs : Zh9 H cd.n q = some (k, cs)) (hcs : cs = cd.row ms) (hb : H[b]? = some (rwB cd ls)) (hn : n ≤ ls.length) (hk : n + k = n') (hby : 0 < by_) (hm : n' * by_ ≤ 140737488355328) :
  Zpb P H t (slv b 0 n c) q = some (slv b 0 n' n', b, rwB cd (ls.take n ++ ms)) := by
 subst hcs
 have hc : (rwB cd ls).cells.length = ls.length * cd.n := by show (cd.row ls).length = _; rw [cd.row_len]
 have hpp : (cd.row ms).all Zbt = true := by
  unfold Cod.row
  rw [List.all_eq_true]
  intro v hv
  obtain ⟨l, hl, hv⟩ := List.mem_flatten.1 hv
  obtain ⟨x, hx, rfl⟩ := List.mem_map.1 hl
  exact List.all_eq_true.1 (hp x) v hv
 rw [Zn2 (n' := n') (p := (k, cd.row ms)) ht hs hb rfl rfl hz hpp (by rw [hc, Nat.zero_add]; exact Nat.mul_le_mul_right _ hn) hby hk hm]
 have : List.take (n * cd.n) (List.drop 0 (rwB cd ls).cells) ++ cd.row ms = cd.row (ls.take n ++ ms) := by
  rw [List.drop_zero, cd.row_app]
  show List.take (n * cd.n) (cd.row ls) ++ _ = _
  rw [cd.row_take]
 rw [this]; rfl
theorem Zzk {P : Program} {G : Glob} {nt n0 : Nat} {Q : Exit → St → Prop} {x : Code} {T : Nat → Value} {H H' : List Blk} (hH : H = H') (h : C P G nt n0 x Q ⟨T, H'⟩) : C P G nt n0 x Q ⟨T, H⟩ := hH ▸ h
end Go.Flat
end
section
/- A walk's state with its blocks named anew: some dropped, some at other places. -/
namespace Go.Flat
def Z0r (e : Emb) (T : Nat → Value) : Nat → List Value → Prop
  | _, [] => True
  | i, v :: l => (v = dead ∨ Zjf e v (T i)) ∧ Z0r e T (i + 1) l
end Go.Flat
end
