/- Walks. -/
import Derived.Test.YtlnggiomppkjmaaDoorE3
import Derived.Test.YtlnggiomppkjmaaDoorFlatH
import Derived.Test.YtlnggiomppkjmaaDoorFlatG
import Derived.ScopeJumps
import Derived.Lib.SliceRun
import Derived.Test.YtlnggiomppkjmaaDoorH8
set_option linter.unusedVariables false
set_option maxRecDepth 20000
set_option linter.unusedSimpArgs false
namespace Go.Flat
open Go.Proofs
variable {G : Glob}
def Z63 (p : Nat → Bool) (n : Nat) : List Nat := (List.range n).filter p
def Z7p (p : Nat → Bool) (i : Nat) : Nat := (Z63 p i).length
def usP (l : List Item) (cl : Int) (i : Nat) : Bool := decide ((l.getD i default).entry.kind = 1 ∧ (l.getD i default).entry.client = cl)
def Z3h (c s : Int) : Nat → List Item → Int × Bool
  | _, [] => (0, false)
  | i, x :: l => if x.entry.kind = 1 ∧ x.entry.client = c ∧ x.entry.seq = s then ((i : Int), true) else Z3h c s (i + 1) l
def Z7b (l : List Item) (c s : Int) : Int × Bool := Z3h c s 0 l
def Z6u (c s : Int) (x : Item) : Bool := decide (x.entry.kind = 1 ∧ x.entry.client = c ∧ s ≤ x.entry.seq)
def Z6t (l : List Item) (c s : Int) : Bool := l.any (Z6u c s)
def Z7v (l : List Item) (n : Nat) (x : Item) : Int :=
  if ¬ Ziu l ∨ ¬ Zdg x then 100 else if 0 < n ∧ x.epoch < (l.getD (n - 1) default).epoch then 102 else if 2000 ≤ n then 2 else if x.entry.kind ≠ 1 then 0 else if Z6t l x.entry.client x.entry.seq = true then 101 else 0
section
variable {l : List Item} {n : Nat} {x : Item}
end
end Go.Flat
section
/- Structs that hold slices: their values, boxes, arguments. -/
namespace Go.Flat
abbrev mxV (l : List Value) : Value := .agg l.toArray
def mxB (n : Nat) (l : List Value) : Blk := { cells := l, sz := n, wr := true, fix := true, mv := false, pur := false }
theorem Zce {e : Emb} {a b : List Value} (hp : Za2 (mxV a) = false) (h : Zvo e a b) : Zii e (mxV a) (mxV b) := by
 unfold Zii
 rw [if_neg (by rw [hp]; decide)]
 exact h
open Go.ChangeShapes Go.WideShapes Go.RowKit
section
variable {H : Type} {enc : TypeId × Value → H} {P : Program} {W : World} {α : Type} {c : Cod α} {ok : α → Prop}
theorem Zxs {t te : TypeId} (ho : Zam P te c.enc ok) (ht : P.underlying t = some (.slice te)) (hce : P.cellsOf te = c.n)
    {fuel : Nat} {cs : List Value} {x : DataW H × List MemPlace} (hf : DataW.trod enc P W 0 (fun _ => true) true fuel t cs = some x) :
    ∃ (v : Value) (xs : List α) (cap : Nat) (r : Reg), cs = [v] ∧ xs.length ≤ cap ∧ cap ≤ maxLen ∧ r.wr = false ∧ r.fix = false ∧ r.len = xs.length * c.n ∧ r.sz = c.n ∧ r.mv = true ∧ (∀ x, x ∈ xs → ok x) ∧ (∀ k v, (c.row xs)[k]? = some v → W.cell? ⟨r.g, r.lo + k, none⟩ = some v) ∧ ∀ (m : MapM) (b : Nat), m b = some r → VR m (slv b 0 xs.length cap) v := by
  have hn := c.pos
  rcases DataW.trod_slice ht hf with ⟨hcs, _⟩ | ⟨a, len, cap, elems, rest, k, _, hcs, _, _, hl, hmx, hlen, hel, hsp, _⟩
  · subst hcs
    refine ⟨.slice none 0 0, [], 0, ⟨0, 0, 0, 0, c.n, false, false, true⟩, rfl, Nat.le_refl _, Nat.zero_le _, rfl, rfl, by simp, rfl, rfl, fun x hx => by simp at hx, fun k v hk => by simp [Cod.row] at hk, fun m b hb => ?_⟩
    exact ⟨_, none, 0, hb, rfl, Nat.le_refl _, Nat.le_refl _, fun h => by omega⟩
  · subst hcs
    obtain ⟨xs, hxl, hxs⟩ := Zrb (Q := fun i y => (∀ j, j < c.n → W.cell? ((a.add (i * c.n)).add j) = (c.enc y)[j]?) ∧ ok y) len fun i hi => by
      have e := hel i hi
      rw [hce, List.getElem?_eq_getElem (by omega)] at e
      exact Zqe ho e
    have hcell : ∀ k v, (c.row xs)[k]? = some v → W.cell? ⟨a.block, a.off + k, none⟩ = some v := by
      intro k v hk
      obtain ⟨y, h1, h2⟩ := c.row_get xs k v hk
      have h3 := (hxs _ _ h1).1 (k % c.n) (Nat.mod_lt _ hn)
      rw [h2, Znh, Nat.mul_comm, Nat.div_add_mod] at h3
      exact Zr4 h3
    have hspot : 0 < cap → a.spot = none := by
      intro hc
      have key : ∀ {fuel : Nat} {x : DataW H × List MemPlace}, (W.cells? 0 (a.add (0 * c.n)) c.n).bind (DataW.trod enc P W 0 (fun _ => true) true fuel te) = some x → a.spot = none := by
        intro fuel x h
        obtain ⟨y, h1, _⟩ := Zqe ho h
        have h2 := h1 0 hn
        rw [Znh, Nat.zero_mul, List.getElem?_eq_getElem (by rw [c.len]; exact hn)] at h2
        exact Zn2 h2
      rcases Nat.eq_zero_or_pos len with h0 | h0
      · subst h0
        obtain ⟨s1, s2⟩ := hsp rfl
        have e := s2 0 (by omega)
        rw [hce, List.getElem?_eq_getElem (by omega)] at e
        exact key e
      · have e := hel 0 h0
        rw [hce, List.getElem?_eq_getElem (by omega)] at e
        exact key e
    refine ⟨.slice (some a) len cap, xs, cap, ⟨a.block, a.off, a.off + cap * c.n, xs.length * c.n, c.n, false, false, true⟩, rfl, by omega, hmx, rfl, rfl, rfl, rfl, rfl, ?_, hcell, fun m b hb => ?_⟩
    · intro x hx
      obtain ⟨i, hi⟩ := List.getElem?_of_mem hx
      exact (hxs i x hi).2
    · rw [hxl]
      refine ⟨_, some a, cap, hb, rfl, hl, Nat.le_refl _, fun hc => ⟨?_, fun _ => ?_, fun h _ _ => by cases h⟩⟩
      · have := hspot hc
        obtain ⟨g, o, s⟩ := a
        simp only at this
        subst this
        rfl
      · show a.off + 0 + cap * c.n ≤ a.off + cap * c.n
        omega
end
theorem L2.pure {m : MapM} {a : List Value} (h : a.all Zba = true) : L2 (CR m) a a :=
 ⟨rfl, fun i x y hx hy => by
  rw [hx] at hy; injection hy with hy; subst hy
  exact CR.of_pure (List.all_eq_true.1 h x (List.mem_of_getElem? hx))⟩
theorem L2.cell {m : MapM} {b o n k : Nat} {v : Value} (h : VR m (slv b o n k) v) : L2 (CR m) [slv b o n k] [v] := L2.cons h L2.nil
end Go.Flat
end
section
/- A scope in which the run jumps ahead to one label. -/
namespace Go.Flat
variable {P : Program} {G : Glob} {nt n0 : Nat} {Q : Exit → St → Prop} {s : St} {x : Code}
def Znp (Q : Exit → St → Prop) : Exit → St → Prop
  | .goto _, _ => False
  | e, s => Q e s
def Zuz (P : Program) (G : Glob) (nt n0 l : Nat) (rest : Code) (Q : Exit → St → Prop) : Exit → St → Prop
  | .goto l', s => l' = l ∧ C P G nt n0 rest (Znp Q) s
  | e, s => Q e s
theorem Z1p {l : Nat} {rest : Code} (hf : findLabel x l = some rest) (h : C P G nt n0 x (Zuz P G nt n0 l rest Q) s) : C P G nt n0 (.scope x) Q s := by
 refine ⟨fun E m a w h0 hr => ?_⟩
 refine wp_scope_jumps l (fun a w => ∃ s m, C P G nt n0 rest (Znp Q) s ∧ SRel G nt E m s a w) (fun _ _ => 0) hf (wp_mono (h.h E m a w h0 hr) ?_) ?_
 ·rintro e a' w' ⟨s', m', h1, h2⟩
  cases e with
  | goto l' => exact ⟨h1.1, s', m', h1.2, h2⟩
  | _ => exact ⟨s', m', h1, h2⟩
 ·rintro a w ⟨s', m', h1, h2⟩
  refine wp_mono (h1.h E m' a w h0 h2) ?_
  rintro e a' w' ⟨s2, m2, h3, h4⟩
  cases e with
  | goto l' => exact h3.elim
  | _ => exact ⟨s2, m2, h3, h4⟩
theorem Zhc {l : Nat} {rest : Code} (h : C P G nt n0 rest (Znp Q) s) : X (Zuz P G nt n0 l rest Q) (.goto l) s := ⟨rfl, h⟩
theorem Zpc {l : Nat} {rest : Code} (h : X Q .ret s) : X (Zuz P G nt n0 l rest Q) .ret s := ⟨h.h⟩
theorem Zpb (h : X Q .ret s) : X (Znp Q) .ret s := ⟨h.h⟩
end Go.Flat
end
section
/- Is a slice nil? A split that the code itself makes; parts of own rows that are appended to. -/
namespace Go.Flat
variable {P : Program} {G : Glob} {nt n0 : Nat} {Q : Exit → St → Prop}
theorem Zwu {x d1 d2 : Tmp} {ty1 ty2 t yt e : TypeId} {p1 p2 : String} {f1 f2 : Array Edge} {i b o n c : Nat} {rest : Code} {T : Nat → Value} {H : List Blk}
  (hu : P.underlying t = some (.slice e)) (hx : T x = slv b o n c) (hd1 : Zbb nt (some d1) = true) (hd2 : Zbb nt (some d2) = true)
  (h1 : n = 0 → C P G nt n0 (.seq (.region i #[⟨some d1, .move (.tmp x), ty1, p1, f1, none⟩, ⟨some d2, .binOp .eql t (.tmp d1) (.const (.slice none 0 0)) yt, ty2, p2, f2, none⟩] false) rest) Q ⟨upd T x (.slice none 0 0), H⟩)
  (h2 : C P G nt n0 rest Q ⟨upd (upd T d1 (slv b o n c)) d2 (.bool false), H⟩) :
  C P G nt n0 (.seq (.region i #[⟨some d1, .move (.tmp x), ty1, p1, f1, none⟩, ⟨some d2, .binOp .eql t (.tmp d1) (.const (.slice none 0 0)) yt, ty2, p2, f2, none⟩] false) rest) Q ⟨T, H⟩ := by
 refine ⟨fun E m a w h0 hr => ?_⟩
 have hv := hr.tmps x
 rw [show (⟨T, H⟩ : St).tmps x = slv b o n c from hx] at hv
 obtain ⟨r, a', c', hm, hv', hs⟩ := hv
 cases a' with
 | none =>
  have hc0 : c' = 0 := by
   rcases Nat.eq_zero_or_pos c' with h | h
   ·exact h
   ·exact absurd (hs.2.2 h).1 (by simp)
  have hn0 : n = 0 := by have := hs.1; have := hs.2.1; omega
  refine (h1 hn0).h E m a w h0 ⟨hr.size, fun j => ?_, hr.defers, hr.heap, hr.frame⟩
  show VR m (upd T x (.slice none 0 0) j) _
  unfold upd
  split
  ·rename_i hj
   subst hj
   rw [hv', hn0, hc0]
   exact rfl
  ·exact hr.tmps j
 | some ad =>
  refine wp_seq (wp_region_list ?_)
  refine wpList_plain rfl fun K hK => ?_
  unfold Oper.wp
  simp only [execOp, Sem.run_pure, Sem.run_bind, Result.andThen_ok]
  refine hK _ _ ?_
  refine wpList_plain rfl fun K hK => ?_
  have hd1' : d1 < nt := by simpa [Zbb] using hd1
  have he : (a.put (some d1) (a.eval (.tmp x))).eval (.tmp d1) = .slice (some ad) n c' := by
   have : a.eval (.tmp x) = .slice (some ad) n c' := hv'
   rw [this]
   simp [Act.put, Act.eval, hr.size, hd1']
  have hq := Lib.run_eql_slice_nil (P := P) w t e (some ad) n c' 0 0 hu
  have hcn : (a.put (some d1) (a.eval (.tmp x))).eval (.const (.slice none 0 0)) = .slice none 0 0 := rfl
  unfold Oper.wp
  simp only [execOp, Sem.run_pure, Sem.run_bind, Result.andThen_ok, he, hcn, eqGuard, hq, Bool.not_true, Bool.false_eq_true, if_false]
  refine hK _ _ ?_
  show rest.wp P (Zpd G nt E Q) _ w
  have hr1 : SRel G nt E m ⟨upd T d1 (slv b o n c), H⟩ (a.put (some d1) (a.eval (.tmp x))) w := SRel.put (s := ⟨T, H⟩) hr (d := some d1) hd1 (v := slv b o n c) (by rw [show a.eval (.tmp x) = .slice (some ad) n c' from hv']; exact ⟨r, some ad, c', hm, rfl, hs⟩)
  exact h2.h E m _ w h0 (SRel.put (s := ⟨upd T d1 (slv b o n c), H⟩) hr1 (d := some d2) hd2 (v := .bool false) rfl)

def Zsx (P : Program) (σ : List Blk) (t : TypeId) (nid : Nat) : Option (Value × Blk) :=
  match Zda P t with
  | some (sz, _, _) => if 0 < sz ∧ Zby σ nid = true then some (.slice (some ⟨nid, 0, none⟩) 0 0, Zb6 true false sz []) else none
  | none => none
theorem Zu6 {o : Oper} {s : St} {t : TypeId} {nid : Nat} {v : Value} {b : Blk} (ho : o.op = .buildSlice t 0 #[]) (h : Zsx P s.heap t nid = some (v, b)) : Zas P G o s v [(nid, b)] := by
 unfold Zsx at h
 split at h
 ·rename_i sz zc by_ ht
  split at h
  ·rename_i hh
   obtain ⟨hsz, hfr⟩ := hh
   injection h with h; injection h with h1 h2
   subst h1; subst h2
   obtain ⟨e, i, z, hu, hi, hz, he1, he2, he3⟩ := Zdo ht
   intro nt E m a w hr
   obtain ⟨m', g1, g2, g3, g4⟩ := Zdi hr.heap hr.frame hfr (Zb6 true false sz []) hsz #[] e (0, 0) (by simp [Zb6]) (by simp only [Zb6]; exact L2.nil) (by intro hq u hu'; simp [Zb6] at hu') (by simp)
   refine ⟨.slice (some ⟨w.heap.size, 0, none⟩) 0 0, _, m', .inl ?_, g1, g2, g3, _, _, _, g4, rfl, Nat.le_refl _, Nat.le_refl _, fun h => absurd h (by omega)⟩
   have hrun : (Instr.buildSlice t 0 #[]).run P w = .ok (.slice (some ⟨w.heap.size, 0, none⟩) 0 0) (w.alloc (.cells #[] e)) := by
    simp only [Instr.buildSlice, Sem.run_bind, run_underlying hu, Result.andThen_ok, Zb4 hi]
    rw [if_neg (by simp)]
    simp only [Sem.run_bind, Sem.run_pure, Result.andThen_ok, Nat.zero_mul, if_true]
    simp [Instr.fill, newRow, show Array.range 0 = #[] from rfl]
   simp only [execOp, ho, Sem.run_bind]
   simp [hrun]
  ·cases h
 ·cases h
section
variable {ops l : List Oper} {K : Trace → St → Prop} {tr : Trace} {T : Nat → Value} {H H' : List Blk} {d : Tmp} {ty : TypeId} {ps : String} {af : Array Edge} {g : Option (Nat × Bool)}
theorem Z4i {ops : Array Oper} {o : Oper} {s : St} {t : TypeId} {nid : Nat} {v : Value} {b : Blk} (hg : Zc3 nt s (Zc5 ops o) = some true) (hd : Zbb nt o.dst = true) (ho : o.op = .buildSlice t 0 #[]) (h : Zsx P s.heap t nid = some (v, b)) : Zae P G nt ops o s { val := v, sets := [(nid, b)], foot := [nid] } :=
 Zae.value hg hd fun s' ha => Zu6 ho (by
  unfold Zsx at h ⊢
  rw [show Zby s'.heap nid = Zby s.heap nid from by unfold Zby; rw [ha.heap nid (by simp), ha.len]]; exact h)
theorem Z4y {nid : Nat} (hg : gd nt T ops g = some true) (hd : Zbb nt (some d) = true) {t : TypeId} {v : Value} {blk : Blk} (h : Zsx P H t nid = some (v, blk)) (hH : Zeo H nid blk = H') (k : R P G nt ops K l (tr ++ [(⟨some d, .buildSlice t 0 #[], ty, ps, af, g⟩, { val := v, sets := [(nid, blk)], foot := [nid] })]) (upd T d v) H') : R P G nt ops K (⟨some d, .buildSlice t 0 #[], ty, ps, af, g⟩ :: l) tr T H :=
 ⟨Zbg.new (Z4i (by rw [Zcw]; exact hg) hd rfl h) rfl hH k.h⟩
end
end Go.Flat
end
section
/- Loops of few rounds, round by round; rows of structs that hold slices. -/
namespace Go.Flat
variable {P : Program} {G : Glob} {nt n0 : Nat} {Q : Exit → St → Prop}
def UL (P : Program) (G : Glob) (nt n0 : Nat) (y : Code) (Q : Exit → St → Prop) : Nat → St → Prop
  | 0, _ => False
  | k + 1, s => C P G nt n0 y (Zea (UL P G nt n0 y Q k) Q) s
theorem Zl2 {y : Code} {k : Nat} {s : St} (h : C P G nt n0 y (Zea (UL P G nt n0 y Q k) Q) s) : UL P G nt n0 y Q (k + 1) s := h
theorem Zwl {next : St → Prop} {s : St} (h : next s) : X (Zea next Q) .normal s := Zag h
theorem Zwd {p : Nat → Prop} (h : ∃ n, p n) : ∃ n, p n ∧ ∀ m, p m → n ≤ m := by
  obtain ⟨n, hn⟩ := h
  induction n using Nat.strongRecOn with
  | _ n ih =>
    by_cases hx : ∃ m, m < n ∧ p m
    · obtain ⟨m, h1, h2⟩ := hx; exact ih m h1 h2
    · exact ⟨n, hn, fun m hm => by rcases Nat.lt_or_ge m n with h | h; exact absurd ⟨m, h, hm⟩ hx; exact h⟩
theorem Zn0 {y : Code} {s : St} (k : Nat) (h : UL P G nt n0 y Q k s) : C P G nt n0 (.loop y) Q s := by
 classical
 refine ⟨fun E m a w h0 hr => ?_⟩
 let ok : Act → World → Nat → Prop := fun a w j => ∃ s m, UL P G nt n0 y Q j s ∧ SRel G nt E m s a w
 refine wp_loop (fun a w => ∃ j, ok a w j) (fun a w => if hx : ∃ j, ok a w j then Classical.choose (Zwd hx) else 0) ⟨k, s, m, h, hr⟩ ?_
 intro a w hI
 have hsp := Classical.choose_spec (Zwd hI)
 generalize hk : Classical.choose (Zwd hI) = j at hsp
 obtain ⟨⟨s1, m1, h1, hr1⟩, hmin⟩ := hsp
 cases j with
 | zero => exact h1.elim
 | succ j =>
  refine wp_mono (C.h (show C P G nt n0 y (Zea (UL P G nt n0 y Q j) Q) s1 from h1) E m1 a w h0 hr1) ?_
  rintro e a' w' ⟨s2, m2, h2, hr2⟩
  cases e with
  | normal =>
   have hI' : ∃ j, ok a' w' j := ⟨j, s2, m2, h2, hr2⟩
   refine ⟨hI', ?_⟩
   simp only [dif_pos hI, dif_pos hI', hk]
   exact Nat.lt_succ_of_le ((Classical.choose_spec (Zwd hI')).2 j ⟨s2, m2, h2, hr2⟩)
  | _ => exact ⟨s2, m2, h2, hr2⟩
def mxW (n : Nat) (l : List Value) : Blk := { cells := l, sz := n, wr := true, fix := false, mv := true, pur := false }
def mxR (n : Nat) (l : List Value) : Blk := { cells := l, sz := n, wr := false, fix := false, mv := true, pur := false }
theorem Zz2 {P : Program} {ts : Array TypeId} {t : TypeId} {x y : Int} (h : x ≤ y) : mmD P .min ts t [.int .i64 x, .int .i64 y] = some (.int .i64 x) := by
 show (if true = true then (Z0 P (Builtin.min_ ts t [Value.int .i64 x, .int .i64 y].toArray)).bind (fun v => if Za2 v = true then some v else none) else none) = _
 rw [if_pos rfl]
 have : Z0 P (Builtin.min_ ts t [Value.int .i64 x, .int .i64 y].toArray) = some (.int .i64 x) := by
  rw [show (some (Value.int .i64 x) : Option Value) = some (.int .i64 (if y < x then y else x)) by rw [if_neg (by omega)]]
  have e : Builtin.min_ ts t [Value.int .i64 x, .int .i64 y].toArray = pure (.int .i64 (if y < x then y else x)) := by simp [Builtin.min_, Builtin.min2]
  rw [e, Z4]
 simp [this, Za2, Zba]
theorem Zz3 {P : Program} {ts : Array TypeId} {t : TypeId} {x y : Int} (h : ¬ x ≤ y) : mmD P .min ts t [.int .i64 x, .int .i64 y] = some (.int .i64 y) := by
 show (if true = true then (Z0 P (Builtin.min_ ts t [Value.int .i64 x, .int .i64 y].toArray)).bind (fun v => if Za2 v = true then some v else none) else none) = _
 rw [if_pos rfl]
 have : Z0 P (Builtin.min_ ts t [Value.int .i64 x, .int .i64 y].toArray) = some (.int .i64 y) := by
  rw [show (some (Value.int .i64 y) : Option Value) = some (.int .i64 (if y < x then y else x)) by rw [if_pos (by omega)]]
  have e : Builtin.min_ ts t [Value.int .i64 x, .int .i64 y].toArray = pure (.int .i64 (if y < x then y else x)) := by simp [Builtin.min_, Builtin.min2]
  rw [e, Z4]
 simp [this, Za2, Zba]
theorem Zgz {P : Program} {G : Glob} {nt n0 : Nat} {Q : Exit → St → Prop} {x : Code} {T : Nat → Value} {H H' : List Blk} (hH : H = H') (h : C P G nt n0 x Q ⟨T, H'⟩) : C P G nt n0 x Q ⟨T, H⟩ := hH ▸ h
end Go.Flat
end
section
/- A walk's state with its blocks named anew: some dropped, some at other places. -/
namespace Go.Flat
def Zzi (e : Emb) (T : Nat → Value) : Nat → List Value → Prop
  | _, [] => True
  | i, v :: l => (v = dead ∨ Zii e v (T i)) ∧ Zzi e T (i + 1) l
theorem Zp6 {e : Emb} {T : Nat → Value} : ∀ {l : List Value} {i : Nat}, Zzi e T i l → ∀ (j : Nat) (v : Value), l[j]? = some v → v = dead ∨ Zii e v (T (i + j))
 | [], _, _, j, v, h => by simp at h
 | x :: l, i, hk, 0, v, h => by simp at h; subst h; exact hk.1
 | x :: l, i, hk, j + 1, v, h => by
  have := Zp6 hk.2 j v (by simpa using h)
  rw [show i + (j + 1) = i + 1 + j by omega]; exact this
theorem Zt0 {G : Glob} {nt n0 : Nat} (e : Emb) {T : Nat → Value} {H H' : List Blk} {l : List Value} (he : Zhu H e e H') (hd : Zil e H' = true) (hn : Zf7 e H' = true) (hf : e.take n0 = idE n0) (hh : H'.take n0 = H.take n0) (ht : Zzi e T 0 l) : Za7 G nt n0 ⟨T, H⟩ ⟨Tl l, H'⟩ := by
  intro E m a w h0 hr
  have hE : EmbOK H e H' := ⟨(Zes he).1, (Zes he).2, Znl (H := H) hd⟩
  have hnm : ∀ (i : Nat) (L : Blk), H'[i]? = some L → L.pur = true ∨ ∀ v, v ∈ L.cells → Zan (inE e) v = true := by
    intro i L hL
    simp only [Zf7, List.all_eq_true, Bool.or_eq_true] at hn
    exact hn L (List.mem_of_getElem? hL)
  refine ⟨mE m e H', hr.size, fun i => ?_, hr.defers, hr.heap.embed hE hnm, ⟨hr.frame.os, hr.frame.tape, hr.frame.output, hr.frame.size, hr.frame.block, ?_, ?_⟩⟩
  · show VR _ ((l[i]?).getD dead) _
    cases hl : l[i]? with
    | none => exact VR.dead
    | some v =>
      have := Zp6 ht i v hl
      rw [Nat.zero_add] at this
      rcases this with h1 | h1
      · rw [h1]; exact VR.dead
      · exact Znu hr.heap hE h1 (hr.tmps i)
  · intro b r h hw hlt
    rcases Zd8 hE h with ⟨id, sh, L, r0, B, h1, h2, h3, rfl, hB, hsz, hfx, hfs, hpu, hle, hwr, hc⟩ | ⟨L, h1, h2, rfl, hwr, hce, hsz⟩
    · unfold Zbn at hw hlt ⊢
      by_cases hL : L.wr = true
      · rw [if_pos hL] at hw hlt ⊢
        have h5 : r0.wr = true := hw
        exact hr.frame.reg id r0 h3 h5 hlt
      · rw [if_neg hL] at hw
        cases hw
    · have : L.wr = true := hw
      rw [hwr] at this; cases this
  · intro b r h hk
    have hb : b < n0 := by
      rcases Nat.lt_or_ge b n0 with h1 | h1
      · exact h1
      · rw [h0 b h1] at h; cases h
    have hm := hr.frame.keep b r h hk
    obtain ⟨B, hB, hs, h1, h2, h3, h4, h5⟩ := hr.heap.reg b r hm
    have he' : e[b]? = some (some (b, 0)) := by
      have := congrArg (fun q : Emb => q[b]?) hf
      simp only [List.getElem?_take, if_pos hb] at this
      rw [this]; exact Zio hb
    have hB' : H'[b]? = some B := by
      have := congrArg (fun q : List Blk => q[b]?) hh
      simp only [List.getElem?_take, if_pos hb] at this
      rw [this]; exact hB
    rw [Zff he' hB', hm]
    show some (Zbn r 0 B) = some r
    congr 1
    unfold Zbn
    obtain ⟨g, lo, hi, len, sz, wr, fix, mv⟩ := r
    dsimp only at h1 h2 h3 h4 h5
    subst h1; subst h2; subst h3; subst h4; subst h5
    split
    · rfl
    · rename_i hw
      simp only [Bool.not_eq_true] at hw
      simp [hw]
end Go.Flat
end
namespace Go.Flat
open Go.Proofs
variable {G : Glob}
def Zd5 : Cod Int := ⟨fun z => [.int .i64 z], 1, fun _ => rfl, by decide⟩
def Zhs (c : Claim) : List Field := [⟨1, (Zp c.region).1⟩, ⟨2, (Zp c.epoch).1⟩, ⟨3, (Zp c.node).1⟩, ⟨4, (Zp c.size).1⟩, ⟨5, Zo (dgL c.root)⟩]
theorem Zr9 (c : Claim) (i : Nat) (hi : i < 4) : (Zhs c).take i ++ [⟨((i : Nat) : Int) + 1, (Zp ([c.region, c.epoch, c.node, c.size].getD i default)).1⟩] = (Zhs c).take (i + 1) := by
 rcases i with _ | _ | _ | _ | i
 ·rfl
 ·rfl
 ·rfl
 ·rfl
 ·omega
theorem Zw0 {c : Claim} (hc : (1 ≤ c.region ∧ c.region ≤ 5) ∧ (1 ≤ c.epoch ∧ c.epoch ≤ 900000000) ∧ (1 ≤ c.node ∧ c.node ≤ 3) ∧ (0 ≤ c.size ∧ c.size ≤ 100000)) (i : Nat) (hi : i < 4) : -9223372036854775808 ≤ [c.region, c.epoch, c.node, c.size].getD i default ∧ [c.region, c.epoch, c.node, c.size].getD i default ≤ 9223372036854775807 := by
 rcases i with _ | _ | _ | _ | i
 ·show _ ≤ c.region ∧ c.region ≤ _; omega
 ·show _ ≤ c.epoch ∧ c.epoch ≤ _; omega
 ·show _ ≤ c.node ∧ c.node ≤ _; omega
 ·show _ ≤ c.size ∧ c.size ≤ _; omega
 ·omega
theorem Zwy (c : Claim) : (Z3 (Zhs c) 0 []).2 = 0 := by
 have h1 := Za4 c.region
 have h2 := Za4 c.epoch
 have h3 := Za4 c.node
 have h4 := Za4 c.size
 have h5 : (Zo (dgL c.root)).size = 32 := by rw [Zcc, Zju]
 have h := Zmj [(Zp c.region).1, (Zp c.epoch).1, (Zp c.node).1, (Zp c.size).1, Zo (dgL c.root)] 0 [] (by simp) (by
  intro x hx
  simp only [List.mem_cons, List.not_mem_nil, or_false] at hx
  rcases hx with rfl | rfl | rfl | rfl | rfl <;> omega)
 show (Z3 (Zgg 0 [(Zp c.region).1, (Zp c.epoch).1, (Zp c.node).1, (Zp c.size).1, Zo (dgL c.root)]) ((0 : Nat) : Int) []).2 = 0
 rw [h]
def Zcb (c : Claim) : Bs × Int := if Zdz c then ((Z3 (Zhs c) 0 []).1, 0) else ([], 60)
theorem Ztc (c : Claim) : (Zcb c).1.length ≤ 100 := by
 unfold Zcb
 split
 ·have := Zg5 (Zhs c) 0 []
  have h1 := Za4 c.region
  have h2 := Za4 c.epoch
  have h3 := Za4 c.node
  have h4 := Za4 c.size
  simp only [Zhs, Zmw, Zcc, Zju, List.length_nil] at this
  show (Z3 (Zhs c) 0 []).1.length ≤ 100
  simp only [Zhs]; omega
 ·exact Nat.zero_le _
theorem Zjv (ls : List Field) (n : Nat) (tag : Int) (x : ByteArray) (hn : ls.length = n) (hb : n ≤ 1000) : Z6 Tryd.prog G 84 [pt 0 0, Iv tag, .string x] [rfB (slv 1 0 n n), rwB cFd ls] (.tuple #[]) [rfB (slv 1 0 (n + 1) (n + 1)), rwB cFd (ls ++ [⟨tag, x⟩])] := by
  refine Zbh (fn := Tryd.f84) (nt := 16) rfl rfl rfl rfl ?_
  refine Zaf 1 (H' := [rfB (slv 1 0 n n), rwB cFd ls, hole]) rfl ?_
  refine Zg (Zd (pt 0 0) (Zd (pt 0 0) (Zeq (p := pt 0 0) (v := pt 0 0) ?_)))
  refine Zal (p := pt 0 0) (v := slv 1 0 n n) rfl rfl rfl rfl ?_
  refine Zd (Iv tag) (Zd (.string x) ?_)
  refine Zdb (vs := [(0, Iv tag), (1, .string x)]) (v := fdV (⟨tag, x⟩ : Field)) rfl rfl rfl (by kernel_rfl) ?_
  refine Zep (vs := [(0, fdV (⟨tag, x⟩ : Field))]) (v := slv 2 0 1 1) (blk := rwB cFd [(⟨tag, x⟩ : Field)]) (nid := 2) (H' := [rfB (slv 1 0 n n), rwB cFd ls, rwB cFd [(⟨tag, x⟩ : Field)]]) rfl rfl rfl (by kernel_rfl) (by kernel_rfl) ?_
  have hl2 : (ls ++ [(⟨tag, x⟩ : Field)]).length = n + 1 := by have := hn; have := (rfl : _ = 1); first | (rw [List.length_append]; omega) | (rw [List.length_append, List.length_take]; omega) | (simp; omega) | simp
  refine Zc6 (p := slv 1 0 n n) (q := slv 2 0 1 1) (v := slv 1 0 (n + 1) (n + 1)) (b := 1) (blk := rwB cFd (ls ++ [(⟨tag, x⟩ : Field)])) (H' := [rfB (dead), rwB cFd (ls ++ [(⟨tag, x⟩ : Field)]), rwB cFd [(⟨tag, x⟩ : Field)]]) rfl rfl rfl (.inl ⟨_, rfl⟩) rfl rfl (Zig cFd (by_ := 24) (k := 1) (n' := n + 1) (ms := [(⟨tag, x⟩ : Field)]) (fun _ => rfl) rfl rfl (by kernel_rfl) rfl rfl (by have := hn; omega) (by omega) (by decide) (by omega)) rfl (by kernel_rfl) ?_
  refine Zeq (p := pt 0 0) (v := pt 0 0) (Zab (p := pt 0 0) (v := slv 1 0 (n + 1) (n + 1)) (b := 0) (blk := rfB (slv 1 0 (n + 1) (n + 1))) (H' := [rfB (slv 1 0 (n + 1) (n + 1)), rwB cFd (ls ++ [(⟨tag, x⟩ : Field)]), rwB cFd [(⟨tag, x⟩ : Field)]]) (Za (Zkr ?_)))
  exact Zm (v := .tuple #[]) rfl rfl rfl (by simp [Zbe, rfB, rwB, cFd, Zib, Zeg]) trivial
theorem Zlb (ls : List Field) (n : Nat) (tag x : Int) (hn : ls.length = n) (hb : n ≤ 1000) (hl : -9223372036854775808 ≤ x) (hh : x ≤ 9223372036854775807) : Z6 Tryd.prog G 83 [pt 0 0, Iv tag, Iv x] [rfB (slv 1 0 n n), rwB cFd ls] (.tuple #[]) [rfB (slv 1 0 (n + 1) (n + 1)), rwB cFd (ls ++ [⟨tag, (Zp x).1⟩])] := by
 refine Zbh (fn := Tryd.f83) (nt := 17) rfl rfl rfl rfl ?_
 refine Zf (Zg (Zd (Iv x) ?_))
 refine Zs (Zpr (G := G) x (by omega) (by omega)) (vals := [Iv x]) (res' := .tuple #[.string ((Zp x).1), Iv ((Zp x).2)]) rfl rfl rfl rfl rfl (by kernel_rfl) ?_
 refine Zd (.tuple #[.string ((Zp x).1), Iv ((Zp x).2)]) (Z1 (vs := #[.string ((Zp x).1), Iv ((Zp x).2)]) (v := .string ((Zp x).1)) (Z1 (vs := #[.string ((Zp x).1), Iv ((Zp x).2)]) (v := Iv ((Zp x).2)) (Zb (.string ((Zp x).1)) (Zb (Iv ((Zp x).2)) (Za (Zc (Zg (Zd (pt 0 0) (Zd (Iv tag) (Zd (.string ((Zp x).1)) ?_))))))))))
 refine Zcp (e := [some (0, 0), some (1, 0)]) (nid := 0) (Zjv (G := G) ls n tag ((Zp x).1) hn (by omega)) (vals := [pt 0 0, Iv tag, .string ((Zp x).1)]) (v := .tuple #[]) (H' := [rfB (slv 1 0 (n + 1) (n + 1)), rwB cFd (ls ++ [(⟨tag, (Zp x).1⟩ : Field)])]) rfl rfl rfl rfl rfl rfl ⟨⟨⟨rfl, rfl⟩, rfl, rfl, trivial⟩, ⟨(Zad rfl rfl rfl rfl), (Zad rfl rfl rfl rfl), trivial⟩, rfl, rfl, rfl, Nat.le_refl _⟩ (by kernel_rfl) rfl (by kernel_rfl) ?_
 refine Za (Zkr ?_)
 exact Zm (v := .tuple #[]) rfl rfl rfl (by simp [Zbe, rfB, rwB, cFd, Zib, Zeg]) trivial
theorem Zgc (fs : List Field) (n c : Nat) (hn : fs.length = n) (hc : n ≤ c) (hb : n ≤ 1000) : Z6 Tryd.prog G 85 [slv 0 0 n c] [rwR cFd fs] (.tuple #[slv 1 0 (Z3 fs 0 []).1.length (Z3 fs 0 []).1.length, Iv (Z3 fs 0 []).2]) [rwR cFd fs, Zao (Z3 fs 0 []).1] := by
  refine Zbh (fn := Tryd.f85) (nt := 8) rfl rfl rfl rfl ?_
  refine Zaf 1 (H' := [rwR cFd fs, hole]) rfl ?_
  refine Zf (Zg (Zb (.slice none 0 0) (Zb (Iv 0) (Za (Zc (Zf (Zg (Zd (slv 0 0 n c) ?_))))))))
  refine Z5 (e := [some (0, 0)]) (nid := 1) (Zye (G := G) fs n c hn (by omega) (by omega)) (vals := [slv 0 0 n c]) (v := .tuple #[slv 1 0 ((Z3 fs 0 []).1.length) ((Z3 fs 0 []).1.length), Iv ((Z3 fs 0 []).2)]) (H' := [rwR cFd fs, Zao ((Z3 fs 0 []).1)]) rfl rfl rfl rfl rfl rfl rfl ⟨⟨⟨rfl, rfl, rfl, by first | omega | exact Nat.le_refl _, by first | omega | exact Nat.le_refl _⟩, trivial⟩, ⟨(Zbr rfl), trivial⟩, rfl, rfl, rfl⟩ (by kernel_rfl) (by kernel_rfl) ?_
  refine Z1 (vs := #[slv 1 0 ((Z3 fs 0 []).1.length) ((Z3 fs 0 []).1.length), Iv ((Z3 fs 0 []).2)]) (v := slv 1 0 ((Z3 fs 0 []).1.length) ((Z3 fs 0 []).1.length)) (Z1 (vs := #[slv 1 0 ((Z3 fs 0 []).1.length) ((Z3 fs 0 []).1.length), Iv ((Z3 fs 0 []).2)]) (v := Iv ((Z3 fs 0 []).2)) (Zb (slv 1 0 ((Z3 fs 0 []).1.length) ((Z3 fs 0 []).1.length)) (Zb (Iv ((Z3 fs 0 []).2)) (Za (Zc (Zr (Zt ?_)))))))
  exact Zbc [0, 1] (v := .tuple #[slv 1 0 ((Z3 fs 0 []).1.length) ((Z3 fs 0 []).1.length), Iv ((Z3 fs 0 []).2)]) rfl (by kernel_rfl) rfl rfl (by decide) (by simp [Zbe, rwR, Zao, cFd]) ⟨⟨rfl, rfl, rfl, by first | omega | exact Nat.le_refl _ | exact Nat.zero_le _ | (dsimp only; omega), by first | omega | exact Nat.le_refl _ | exact Nat.zero_le _ | (dsimp only; omega)⟩, rfl, trivial⟩
abbrev Y2 (c : Claim) : Blk := rwB Zd5 [c.region, c.epoch, c.node, c.size]
theorem Zru (c : Claim) : Z6 Tryd.prog G 87 [Zai c] [] (.tuple #[slv 0 0 (Zcb c).1.length (Zcb c).1.length, Iv (Zcb c).2]) [Zao (Zcb c).1] := by
  refine Zbh (fn := Tryd.f87) (nt := 41) rfl rfl rfl rfl ?_
  refine Zaf 4 (H' := [hole, hole, hole, hole]) rfl ?_
  refine Zf (Zg (Zb7 (v := Zai c) (b := bxB 36 (Zat c)) (nid := 0) (H' := [bxB 36 (Zat c), hole, hole, hole]) (Zb (.slice none 0 0) (Zb (Iv 0) (Za (Zc (Zf (Zf (Zg (Zn (p := pt 0 0) (v := Zai c) ?_))))))))))
  refine Zs (Zf4 (G := G) c) (vals := [Zai c]) (res' := Iv (Zdd c)) rfl rfl rfl rfl rfl rfl ?_
  refine Zb (Iv (Zdd c)) (Za (Zc (Zf (Zg (Zd (Iv (Zdd c)) ?_)))))
  by_cases h1 : (Zdd c) ≠ 0
  refine Zl (vx := Iv (Zdd c)) (vy := Iv 0) rfl rfl (.bool true) rfl rfl (Zgf (by omega)) ?_
  refine Za (Zc (Zy rfl (Zf (Zg (Zd (Iv (Zdd c)) (Zb (.slice none 0 0) (Zb (Iv (Zdd c)) (Za (Zc ?_)))))))))
  refine Zca (Za7.nilTmp (i := 2) (b := 1) true 1 rfl (by decide) rfl) ?_
  refine Zr (Z2 (Zt ?_))
  rw [show Zcb c = ([], (Zdd c)) from if_neg (fun q => Zkw (c := c) (by omega) q) |>.trans (by first | rfl | (unfold Zdd; rw [if_neg (Zkw (c := c) (by omega))]))]
  exact Zbc [1] (v := .tuple #[slv 1 0 0 0, Iv (Zdd c)]) rfl (by kernel_rfl) rfl rfl (by decide) (by simp [Zbe, Zao]) ⟨⟨rfl, rfl, rfl, by first | omega | exact Nat.le_refl _ | exact Nat.zero_le _ | (dsimp only; omega), by first | omega | exact Nat.le_refl _ | exact Nat.zero_le _ | (dsimp only; omega)⟩, rfl, trivial⟩
  refine Zl (vx := Iv (Zdd c)) (vy := Iv 0) rfl rfl (.bool false) rfl rfl (Zfw (by omega)) ?_
  refine Za (Zc (Zu rfl (Zz (Zc (Zf (Zg (Za9 (b := rfB (.slice none 0 0)) (nid := 1) (H' := [bxB 36 (Zat c), rfB (.slice none 0 0), hole, hole]) (Za (Zc (Zf (Zf ?_)))))))))))
  have hc := Zkx (c := c) (by omega)
  unfold Zdz at hc
  refine Zca (Za7.nilCell (k := 1) (j := 0) (b := 2) true 2 rfl (by decide) rfl (by show 0 < 1; decide) rfl rfl) ?_
  refine Zg (Zh (b := 0) (o := 0) (n := 0) (o' := 0) (Zn (p := pt 0 0) (v := Iv c.region) (Zh (b := 0) (o := 0) (n := 1) (o' := 1) (Zn (p := pt 0 1) (v := Iv c.epoch) (Zh (b := 0) (o := 0) (n := 2) (o' := 2) (Zn (p := pt 0 2) (v := Iv c.node) (Zh (b := 0) (o := 0) (n := 3) (o' := 3) (Zn (p := pt 0 3) (v := Iv c.size) ?_))))))))
  refine Zep (vs := [(0, Iv c.region), (1, Iv c.epoch), (2, Iv c.node), (3, Iv c.size)]) (v := slv 3 0 4 4) (blk := rwB Zd5 [c.region, c.epoch, c.node, c.size]) (nid := 3) (H' := [bxB 36 (Zat c), rfB (slv 2 0 0 0), rwB cFd [], Y2 c]) rfl rfl rfl (by kernel_rfl) (by kernel_rfl) ?_
  refine Zaw (p := slv 3 0 4 4) (v := Iv 4) (Zd (Iv 0) (Za (Zc (Z8 ?_))))
  refine Zbt (fun x : Nat × (List Field) => match x with | (i, acc) => [Zai c, pt 0 0, .slice none 0 0, Iv 0, Iv (Zdd c), pt 1 0, dead, dead, Zai c, Iv (Zdd c), Iv (Zdd c), .bool false, dead, pt 0 0, Iv c.region, pt 0 1, Iv c.epoch, pt 0 2, Iv c.node, pt 0 3, Iv c.size, slv 3 0 4 4, Iv 4, Iv (i : Nat)]) (fun x : Nat × (List Field) => match x with | (i, acc) => [bxB 36 (Zat c), rfB (slv 2 0 i i), rwB cFd acc, rwB Zd5 [c.region, c.epoch, c.node, c.size]]) (fun x : Nat × (List Field) => match x with | (i, acc) => acc = (Zhs c).take i ∧ i ≤ 4 ∧ acc.length = i) (fun x : Nat × (List Field) => match x with | (i, acc) => 4 - i) (0, []) ⟨rfl, by omega, rfl⟩ ?_ ?_
  · refine Zaj (n := 4) rfl ?_ (by kernel_rfl) (by kernel_rfl)
    repeat (first | exact trivial | refine ⟨.inl rfl, ?_⟩ | refine ⟨.inr ⟨rfl, rfl⟩, ?_⟩ | refine ⟨.inr ⟨congrArg (Value.int .i64) (by first | omega | (dsimp only; omega)), rfl⟩, ?_⟩)
  rintro ⟨i, acc⟩ ⟨hR, hi, ha⟩
  dsimp only at *
  refine Zaf 1 (H' := [bxB 36 (Zat c), rfB (slv 2 0 i i), rwB cFd acc, Y2 c, hole]) rfl ?_
  refine Zf (Zg ?_)
  by_cases h2 : (i : Nat) < 4
  refine Zl (vx := Iv (i : Nat)) (vy := Iv 4) rfl rfl (.bool true) rfl rfl (Zck (by omega)) ?_
  refine Za (Zc (Zf (Zy rfl (Zz (Zc (Zf (Z8 (Zf (Zg (Zd (Iv (i : Nat)) ?_))))))))))
  refine Zbo (b := 3) (o := 0) (j := i) (m := 4) (c := 4) (sz := 1) (i := (i : Nat)) (k := .i64) rfl rfl rfl rfl rfl (by omega) (by omega) (by omega) ?_
  refine Zal (p := pt 3 i) (v := Iv (([c.region, c.epoch, c.node, c.size]).getD i default)) rfl rfl rfl (Zli (m := 1) Zd5 (l := [c.region, c.epoch, c.node, c.size]) (i := i) rfl rfl rfl rfl (by have : ([c.region, c.epoch, c.node, c.size]).length = 4 := rfl; omega) (by omega) rfl rfl) ?_
  refine Zb (Iv (i : Nat)) (Zb (Iv (([c.region, c.epoch, c.node, c.size]).getD i default)) (Za (Zc ?_)))
  have hx := Zw0 hc i (by omega)
  refine Zg (Zd (Iv (i : Nat)) ?_)
  refine Zl (vx := Iv (i : Nat)) (vy := Iv 1) rfl rfl (Iv ((i : Nat) + 1)) rfl rfl (Zak (by omega) (by omega) (by omega)) ?_
  refine Zd (Iv (([c.region, c.epoch, c.node, c.size]).getD i default)) ?_
  refine Zcp (e := [some (1, 0), some (2, 0)]) (nid := 0) (Zlb (G := G) acc i ((i : Nat) + 1) (([c.region, c.epoch, c.node, c.size]).getD i default) ha (by omega) (by omega) (by omega)) (vals := [pt 1 0, Iv ((i : Nat) + 1), Iv (([c.region, c.epoch, c.node, c.size]).getD i default)]) (v := .tuple #[]) (H' := [bxB 36 (Zat c), rfB (slv 2 0 (i + 1) (i + 1)), rwB cFd (acc ++ [(⟨(i : Nat) + 1, (Zp (([c.region, c.epoch, c.node, c.size]).getD i default)).1⟩ : Field)]), Y2 c, hole]) rfl rfl rfl rfl rfl rfl ⟨⟨⟨rfl, rfl⟩, rfl, rfl, trivial⟩, ⟨(Zad rfl rfl rfl rfl), (Zad rfl rfl rfl rfl), trivial⟩, rfl, rfl, rfl, Nat.le_refl _⟩ (by kernel_rfl) rfl (by kernel_rfl) ?_
  refine Za (Z7 (Zc (Zg ?_)))
  refine Zl (vx := Iv (i : Nat)) (vy := Iv 1) rfl rfl (Iv ((i : Nat) + 1)) rfl rfl (Zak (by omega) (by omega) (by omega)) ?_
  refine Zd (Iv ((i : Nat) + 1)) (Za ?_)
  refine Zag ⟨((i + 1), (acc ++ [(⟨(i : Nat) + 1, (Zp (([c.region, c.epoch, c.node, c.size]).getD i default)).1⟩ : Field)])), ⟨by dsimp only; rw [hR]; exact Zr9 c i (by omega), by dsimp only; omega, by rw [List.length_append, ha]; rfl⟩, by show 4 - (i + 1) < 4 - i; omega, ?_⟩
  refine Zaj (n := 4) rfl ?_ (by kernel_rfl) (by kernel_rfl)
  repeat (first | exact trivial | refine ⟨.inl rfl, ?_⟩ | refine ⟨.inr ⟨rfl, rfl⟩, ?_⟩ | refine ⟨.inr ⟨congrArg (Value.int .i64) (by first | omega | (dsimp only; omega)), rfl⟩, ?_⟩)
  refine Zl (vx := Iv (i : Nat)) (vy := Iv 4) rfl rfl (.bool false) rfl rfl (Zcd (by omega)) ?_
  refine Za (Zc (Zf (Zu rfl (Zbm (Zaq (Zax (Zav rfl (Zc (Zf ?_)))))))))
  have hi4 : i = 4 := by omega
  refine Zg (Zh (b := 0) (o := 0) (n := 4) (o' := 4) ?_)
  refine Zcz (p := pt 0 4) (vl := none) (vh := none) (v := slv 0 4 32 32) rfl rfl rfl rfl rfl rfl ?_
  refine Zjm (p := slv 0 4 32 32) (v := .string (Zo (dgL c.root))) rfl rfl rfl (Zha (l := (dgL c.root)) rfl rfl rfl rfl (of_decide_eq_true (by kernel_rfl)) (by kernel_rfl)) ?_
  refine Zcp (e := [some (1, 0), some (2, 0)]) (nid := 0) (Zjv (G := G) acc i 5 (Zo (dgL c.root)) ha (by omega)) (vals := [pt 1 0, Iv 5, .string (Zo (dgL c.root))]) (v := .tuple #[]) (H' := [bxB 36 (Zat c), rfB (slv 2 0 (i + 1) (i + 1)), rwB cFd (acc ++ [(⟨5, (Zo (dgL c.root))⟩ : Field)]), Y2 c, hole]) rfl rfl rfl rfl rfl rfl ⟨⟨⟨rfl, rfl⟩, rfl, rfl, trivial⟩, ⟨(Zad rfl rfl rfl rfl), (Zad rfl rfl rfl rfl), trivial⟩, rfl, rfl, rfl, Nat.le_refl _⟩ (by kernel_rfl) rfl (by kernel_rfl) ?_
  refine Za (Zc (Zf (Zg ?_)))
  refine Zal (p := pt 1 0) (v := slv 2 0 (i + 1) (i + 1)) rfl rfl rfl rfl ?_
  refine Z5 (e := [some (2, 0)]) (nid := 4) (Zgc (G := G) (acc ++ [(⟨5, (Zo (dgL c.root))⟩ : Field)]) (i + 1) (i + 1) (by rw [List.length_append, ha]; rfl) (by omega) (by omega)) (vals := [slv 2 0 (i + 1) (i + 1)]) (v := .tuple #[slv 4 0 ((Z3 (acc ++ [(⟨5, (Zo (dgL c.root))⟩ : Field)]) 0 []).1.length) ((Z3 (acc ++ [(⟨5, (Zo (dgL c.root))⟩ : Field)]) 0 []).1.length), Iv ((Z3 (acc ++ [(⟨5, (Zo (dgL c.root))⟩ : Field)]) 0 []).2)]) (H' := [bxB 36 (Zat c), rfB (slv 2 0 (i + 1) (i + 1)), rwB cFd (acc ++ [(⟨5, (Zo (dgL c.root))⟩ : Field)]), Y2 c, Zao ((Z3 (acc ++ [(⟨5, (Zo (dgL c.root))⟩ : Field)]) 0 []).1)]) rfl rfl rfl rfl rfl rfl rfl ⟨⟨⟨rfl, rfl, rfl, by first | omega | exact Nat.le_refl _, by first | omega | exact Nat.le_refl _⟩, trivial⟩, ⟨(Zb8 rfl), trivial⟩, rfl, rfl, rfl⟩ (by kernel_rfl) (by kernel_rfl) ?_
  refine Z1 (vs := #[slv 4 0 ((Z3 (acc ++ [(⟨5, (Zo (dgL c.root))⟩ : Field)]) 0 []).1.length) ((Z3 (acc ++ [(⟨5, (Zo (dgL c.root))⟩ : Field)]) 0 []).1.length), Iv ((Z3 (acc ++ [(⟨5, (Zo (dgL c.root))⟩ : Field)]) 0 []).2)]) (v := slv 4 0 ((Z3 (acc ++ [(⟨5, (Zo (dgL c.root))⟩ : Field)]) 0 []).1.length) ((Z3 (acc ++ [(⟨5, (Zo (dgL c.root))⟩ : Field)]) 0 []).1.length)) (Z1 (vs := #[slv 4 0 ((Z3 (acc ++ [(⟨5, (Zo (dgL c.root))⟩ : Field)]) 0 []).1.length) ((Z3 (acc ++ [(⟨5, (Zo (dgL c.root))⟩ : Field)]) 0 []).1.length), Iv ((Z3 (acc ++ [(⟨5, (Zo (dgL c.root))⟩ : Field)]) 0 []).2)]) (v := Iv ((Z3 (acc ++ [(⟨5, (Zo (dgL c.root))⟩ : Field)]) 0 []).2)) (Zb (slv 4 0 ((Z3 (acc ++ [(⟨5, (Zo (dgL c.root))⟩ : Field)]) 0 []).1.length) ((Z3 (acc ++ [(⟨5, (Zo (dgL c.root))⟩ : Field)]) 0 []).1.length)) (Zb (Iv ((Z3 (acc ++ [(⟨5, (Zo (dgL c.root))⟩ : Field)]) 0 []).2)) (Za (Zc (Zr (Zt ?_)))))))
  have e : acc ++ [(⟨5, Zo (dgL c.root)⟩ : Field)] = Zhs c := by rw [hR, hi4]; rfl
  have ez := Zwy c
  rw [← e] at ez
  rw [show Zcb c = ((Z3 (acc ++ [(⟨5, Zo (dgL c.root)⟩ : Field)]) 0 []).1, (Z3 (acc ++ [(⟨5, Zo (dgL c.root)⟩ : Field)]) 0 []).2) from by rw [ez, e]; exact if_pos (Zkx (by omega))]
  exact Zbc [4] (v := .tuple #[slv 4 0 ((Z3 (acc ++ [(⟨5, (Zo (dgL c.root))⟩ : Field)]) 0 []).1.length) ((Z3 (acc ++ [(⟨5, (Zo (dgL c.root))⟩ : Field)]) 0 []).1.length), Iv ((Z3 (acc ++ [(⟨5, (Zo (dgL c.root))⟩ : Field)]) 0 []).2)]) rfl (by kernel_rfl) rfl rfl (by decide) (by simp [Zbe, Zao]) ⟨⟨rfl, rfl, rfl, by first | omega | exact Nat.le_refl _ | exact Nat.zero_le _ | (dsimp only; omega), by first | omega | exact Nat.le_refl _ | exact Nat.zero_le _ | (dsimp only; omega)⟩, rfl, trivial⟩
end Go.Flat
