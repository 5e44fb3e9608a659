/- Walks. -/
import Derived.Test.YtlnggiomppkjmaaDoorE3
import Derived.Test.YtlnggiomppkjmaaDoorFlatH
import Derived.Test.YtlnggiomppkjmaaDoorFlatG
import Derived.ScopeJumps
import Derived.Lib.SliceRun
import Derived.Test.YtlnggiomppkjmaaDoorH8
set_option linter.unusedVariables false
set_option maxRecDepth 20000
set_option linter.unusedSimpArgs false
namespace Go.Flat
open Go.Proofs
variable {G : Glob}
def Z65 (p : Nat → Bool) (n : Nat) : List Nat := (List.range n).filter p
def Z7q (p : Nat → Bool) (i : Nat) : Nat := (Z65 p i).length
def usP (l : List Item) (cl : Int) (i : Nat) : Bool := decide ((l.getD i default).entry.kind = 1 ∧ (l.getD i default).entry.client = cl)
def Z3m (c s : Int) : Nat → List Item → Int × Bool
  | _, [] => (0, false)
  | i, x :: l => if x.entry.kind = 1 ∧ x.entry.client = c ∧ x.entry.seq = s then ((i : Int), true) else Z3m c s (i + 1) l
def Z7d (l : List Item) (c s : Int) : Int × Bool := Z3m c s 0 l
def Z6w (c s : Int) (x : Item) : Bool := decide (x.entry.kind = 1 ∧ x.entry.client = c ∧ s ≤ x.entry.seq)
def Z6v (l : List Item) (c s : Int) : Bool := l.any (Z6w c s)
def Z7w (l : List Item) (n : Nat) (x : Item) : Int :=
  if ¬ Zix l ∨ ¬ Zdh x then 100 else if 0 < n ∧ x.epoch < (l.getD (n - 1) default).epoch then 102 else if 2000 ≤ n then 2 else if x.entry.kind ≠ 1 then 0 else if Z6v l x.entry.client x.entry.seq = true then 101 else 0
section
variable {l : List Item} {n : Nat} {x : Item}
end
end Go.Flat
section
/- Structs that hold slices: their values, boxes, arguments. -/
namespace Go.Flat
abbrev mxV (l : List Value) : Value := .agg l.toArray
def mxB (n : Nat) (l : List Value) : Blk := { cells := l, sz := n, wr := true, fix := true, mv := false, pur := false }
theorem Zbp {e : Emb} {a b : List Value} (hp : Za2 (mxV a) = false) (h : Zvs e a b) : Zik e (mxV a) (mxV b) := by
 unfold Zik
 rw [if_neg (by rw [hp]; decide)]
 exact h
open Go.ChangeShapes Go.WideShapes Go.RowKit
section
variable {H : Type} {enc : TypeId × Value → H} {P : Program} {W : World} {α : Type} {c : Cod α} {ok : α → Prop}
theorem Zxw {t te : TypeId} (ho : Zaq P te c.enc ok) (ht : P.underlying t = some (.slice te)) (hce : P.cellsOf te = c.n)
    {fuel : Nat} {cs : List Value} {x : DataW H × List MemPlace} (hf : DataW.trod enc P W 0 (fun _ => true) true fuel t cs = some x) :
    ∃ (v : Value) (xs : List α) (cap : Nat) (r : Reg), cs = [v] ∧ xs.length ≤ cap ∧ cap ≤ maxLen ∧ r.wr = false ∧ r.fix = false ∧ r.len = xs.length * c.n ∧ r.sz = c.n ∧ r.mv = true ∧ (∀ x, x ∈ xs → ok x) ∧ (∀ k v, (c.row xs)[k]? = some v → W.cell? ⟨r.g, r.lo + k, none⟩ = some v) ∧ ∀ (m : MapM) (b : Nat), m b = some r → VR m (slv b 0 xs.length cap) v := by
  have hn := c.pos
  rcases DataW.trod_slice ht hf with ⟨hcs, _⟩ | ⟨a, len, cap, elems, rest, k, _, hcs, _, _, hl, hmx, hlen, hel, hsp, _⟩
  · subst hcs
    refine ⟨.slice none 0 0, [], 0, ⟨0, 0, 0, 0, c.n, false, false, true⟩, rfl, Nat.le_refl _, Nat.zero_le _, rfl, rfl, by simp, rfl, rfl, fun x hx => by simp at hx, fun k v hk => by simp [Cod.row] at hk, fun m b hb => ?_⟩
    exact ⟨_, none, 0, hb, rfl, Nat.le_refl _, Nat.le_refl _, fun h => by omega⟩
  · subst hcs
    obtain ⟨xs, hxl, hxs⟩ := Zq7 (Q := fun i y => (∀ j, j < c.n → W.cell? ((a.add (i * c.n)).add j) = (c.enc y)[j]?) ∧ ok y) len fun i hi => by
      have e := hel i hi
      rw [hce, List.getElem?_eq_getElem (by omega)] at e
      exact Zqc ho e
    have hcell : ∀ k v, (c.row xs)[k]? = some v → W.cell? ⟨a.block, a.off + k, none⟩ = some v := by
      intro k v hk
      obtain ⟨y, h1, h2⟩ := c.row_get xs k v hk
      have h3 := (hxs _ _ h1).1 (k % c.n) (Nat.mod_lt _ hn)
      rw [h2, Zni, Nat.mul_comm, Nat.div_add_mod] at h3
      exact Zr1 h3
    have hspot : 0 < cap → a.spot = none := by
      intro hc
      have key : ∀ {fuel : Nat} {x : DataW H × List MemPlace}, (W.cells? 0 (a.add (0 * c.n)) c.n).bind (DataW.trod enc P W 0 (fun _ => true) true fuel te) = some x → a.spot = none := by
        intro fuel x h
        obtain ⟨y, h1, _⟩ := Zqc ho h
        have h2 := h1 0 hn
        rw [Zni, Nat.zero_mul, List.getElem?_eq_getElem (by rw [c.len]; exact hn)] at h2
        exact Zn3 h2
      rcases Nat.eq_zero_or_pos len with h0 | h0
      · subst h0
        obtain ⟨s1, s2⟩ := hsp rfl
        have e := s2 0 (by omega)
        rw [hce, List.getElem?_eq_getElem (by omega)] at e
        exact key e
      · have e := hel 0 h0
        rw [hce, List.getElem?_eq_getElem (by omega)] at e
        exact key e
    refine ⟨.slice (some a) len cap, xs, cap, ⟨a.block, a.off, a.off + cap * c.n, xs.length * c.n, c.n, false, false, true⟩, rfl, by omega, hmx, rfl, rfl, rfl, rfl, rfl, ?_, hcell, fun m b hb => ?_⟩
    · intro x hx
      obtain ⟨i, hi⟩ := List.getElem?_of_mem hx
      exact (hxs i x hi).2
    · rw [hxl]
      refine ⟨_, some a, cap, hb, rfl, hl, Nat.le_refl _, fun hc => ⟨?_, fun _ => ?_, fun h _ _ => by cases h⟩⟩
      · have := hspot hc
        obtain ⟨g, o, s⟩ := a
        simp only at this
        subst this
        rfl
      · show a.off + 0 + cap * c.n ≤ a.off + cap * c.n
        omega
end
theorem L2.pure {m : MapM} {a : List Value} (h : a.all Zbc = true) : L2 (CR m) a a :=
 ⟨rfl, fun i x y hx hy => by
  rw [hx] at hy; injection hy with hy; subst hy
  exact CR.of_pure (List.all_eq_true.1 h x (List.mem_of_getElem? hx))⟩
theorem L2.cell {m : MapM} {b o n k : Nat} {v : Value} (h : VR m (slv b o n k) v) : L2 (CR m) [slv b o n k] [v] := L2.cons h L2.nil
end Go.Flat
end
section
/- A scope in which the run jumps ahead to one label. -/
namespace Go.Flat
variable {P : Program} {G : Glob} {nt n0 : Nat} {Q : Exit → St → Prop} {s : St} {x : Code}
def Znq (Q : Exit → St → Prop) : Exit → St → Prop
  | .goto _, _ => False
  | e, s => Q e s
def Zu2 (P : Program) (G : Glob) (nt n0 l : Nat) (rest : Code) (Q : Exit → St → Prop) : Exit → St → Prop
  | .goto l', s => l' = l ∧ C P G nt n0 rest (Znq Q) s
  | e, s => Q e s
theorem Z1u {l : Nat} {rest : Code} (hf : findLabel x l = some rest) (h : C P G nt n0 x (Zu2 P G nt n0 l rest Q) s) : C P G nt n0 (.scope x) Q s := by
 refine ⟨fun E m a w h0 hr => ?_⟩
 refine wp_scope_jumps l (fun a w => ∃ s m, C P G nt n0 rest (Znq Q) s ∧ SRel G nt E m s a w) (fun _ _ => 0) hf (wp_mono (h.h E m a w h0 hr) ?_) ?_
 ·rintro e a' w' ⟨s', m', h1, h2⟩
  cases e with
  | goto l' => exact ⟨h1.1, s', m', h1.2, h2⟩
  | _ => exact ⟨s', m', h1, h2⟩
 ·rintro a w ⟨s', m', h1, h2⟩
  refine wp_mono (h1.h E m' a w h0 h2) ?_
  rintro e a' w' ⟨s2, m2, h3, h4⟩
  cases e with
  | goto l' => exact h3.elim
  | _ => exact ⟨s2, m2, h3, h4⟩
theorem Zhg {l : Nat} {rest : Code} (h : C P G nt n0 rest (Znq Q) s) : X (Zu2 P G nt n0 l rest Q) (.goto l) s := ⟨rfl, h⟩
theorem Zpa {l : Nat} {rest : Code} (h : X Q .ret s) : X (Zu2 P G nt n0 l rest Q) .ret s := ⟨h.h⟩
theorem Zo9 (h : X Q .ret s) : X (Znq Q) .ret s := ⟨h.h⟩
end Go.Flat
end
section
/- Is a slice nil? A split that the code itself makes; parts of own rows that are appended to. -/
namespace Go.Flat
variable {P : Program} {G : Glob} {nt n0 : Nat} {Q : Exit → St → Prop}
theorem Zwz {x d1 d2 : Tmp} {ty1 ty2 t yt e : TypeId} {p1 p2 : String} {f1 f2 : Array Edge} {i b o n c : Nat} {rest : Code} {T : Nat → Value} {H : List Blk}
  (hu : P.underlying t = some (.slice e)) (hx : T x = slv b o n c) (hd1 : Zbe nt (some d1) = true) (hd2 : Zbe nt (some d2) = true)
  (h1 : n = 0 → C P G nt n0 (.seq (.region i #[⟨some d1, .move (.tmp x), ty1, p1, f1, none⟩, ⟨some d2, .binOp .eql t (.tmp d1) (.const (.slice none 0 0)) yt, ty2, p2, f2, none⟩] false) rest) Q ⟨upd T x (.slice none 0 0), H⟩)
  (h2 : C P G nt n0 rest Q ⟨upd (upd T d1 (slv b o n c)) d2 (.bool false), H⟩) :
  C P G nt n0 (.seq (.region i #[⟨some d1, .move (.tmp x), ty1, p1, f1, none⟩, ⟨some d2, .binOp .eql t (.tmp d1) (.const (.slice none 0 0)) yt, ty2, p2, f2, none⟩] false) rest) Q ⟨T, H⟩ := by
 refine ⟨fun E m a w h0 hr => ?_⟩
 have hv := hr.tmps x
 rw [show (⟨T, H⟩ : St).tmps x = slv b o n c from hx] at hv
 obtain ⟨r, a', c', hm, hv', hs⟩ := hv
 cases a' with
 | none =>
  have hc0 : c' = 0 := by
   rcases Nat.eq_zero_or_pos c' with h | h
   ·exact h
   ·exact absurd (hs.2.2 h).1 (by simp)
  have hn0 : n = 0 := by have := hs.1; have := hs.2.1; omega
  refine (h1 hn0).h E m a w h0 ⟨hr.size, fun j => ?_, hr.defers, hr.heap, hr.frame⟩
  show VR m (upd T x (.slice none 0 0) j) _
  unfold upd
  split
  ·rename_i hj
   subst hj
   rw [hv', hn0, hc0]
   exact rfl
  ·exact hr.tmps j
 | some ad =>
  refine wp_seq (wp_region_list ?_)
  refine wpList_plain rfl fun K hK => ?_
  unfold Oper.wp
  simp only [execOp, Sem.run_pure, Sem.run_bind, Result.andThen_ok]
  refine hK _ _ ?_
  refine wpList_plain rfl fun K hK => ?_
  have hd1' : d1 < nt := by simpa [Zbe] using hd1
  have he : (a.put (some d1) (a.eval (.tmp x))).eval (.tmp d1) = .slice (some ad) n c' := by
   have : a.eval (.tmp x) = .slice (some ad) n c' := hv'
   rw [this]
   simp [Act.put, Act.eval, hr.size, hd1']
  have hq := Lib.run_eql_slice_nil (P := P) w t e (some ad) n c' 0 0 hu
  have hcn : (a.put (some d1) (a.eval (.tmp x))).eval (.const (.slice none 0 0)) = .slice none 0 0 := rfl
  unfold Oper.wp
  simp only [execOp, Sem.run_pure, Sem.run_bind, Result.andThen_ok, he, hcn, eqGuard, hq, Bool.not_true, Bool.false_eq_true, if_false]
  refine hK _ _ ?_
  show rest.wp P (Zpb G nt E Q) _ w
  have hr1 : SRel G nt E m ⟨upd T d1 (slv b o n c), H⟩ (a.put (some d1) (a.eval (.tmp x))) w := SRel.put (s := ⟨T, H⟩) hr (d := some d1) hd1 (v := slv b o n c) (by rw [show a.eval (.tmp x) = .slice (some ad) n c' from hv']; exact ⟨r, some ad, c', hm, rfl, hs⟩)
  exact h2.h E m _ w h0 (SRel.put (s := ⟨upd T d1 (slv b o n c), H⟩) hr1 (d := some d2) hd2 (v := .bool false) rfl)

def Zsw (P : Program) (σ : List Blk) (t : TypeId) (nid : Nat) : Option (Value × Blk) :=
  match Zdc P t with
  | some (sz, _, _) => if 0 < sz ∧ Zb6 σ nid = true then some (.slice (some ⟨nid, 0, none⟩) 0 0, Zcd true false sz []) else none
  | none => none
theorem Zu8 {o : Oper} {s : St} {t : TypeId} {nid : Nat} {v : Value} {b : Blk} (ho : o.op = .buildSlice t 0 #[]) (h : Zsw P s.heap t nid = some (v, b)) : Zax P G o s v [(nid, b)] := by
 unfold Zsw at h
 split at h
 ·rename_i sz zc by_ ht
  split at h
  ·rename_i hh
   obtain ⟨hsz, hfr⟩ := hh
   injection h with h; injection h with h1 h2
   subst h1; subst h2
   obtain ⟨e, i, z, hu, hi, hz, he1, he2, he3⟩ := Zdn ht
   intro nt E m a w hr
   obtain ⟨m', g1, g2, g3, g4⟩ := Zdz hr.heap hr.frame hfr (Zcd true false sz []) hsz #[] e (0, 0) (by simp [Zcd]) (by simp only [Zcd]; exact L2.nil) (by intro hq u hu'; simp [Zcd] at hu') (by simp)
   refine ⟨.slice (some ⟨w.heap.size, 0, none⟩) 0 0, _, m', .inl ?_, g1, g2, g3, _, _, _, g4, rfl, Nat.le_refl _, Nat.le_refl _, fun h => absurd h (by omega)⟩
   have hrun : (Instr.buildSlice t 0 #[]).run P w = .ok (.slice (some ⟨w.heap.size, 0, none⟩) 0 0) (w.alloc (.cells #[] e)) := by
    simp only [Instr.buildSlice, Sem.run_bind, run_underlying hu, Result.andThen_ok, Zb1 hi]
    rw [if_neg (by simp)]
    simp only [Sem.run_bind, Sem.run_pure, Result.andThen_ok, Nat.zero_mul, if_true]
    simp [Instr.fill, newRow, show Array.range 0 = #[] from rfl]
   simp only [execOp, ho, Sem.run_bind]
   simp [hrun]
  ·cases h
 ·cases h
section
variable {ops l : List Oper} {K : Trace → St → Prop} {tr : Trace} {T : Nat → Value} {H H' : List Blk} {d : Tmp} {ty : TypeId} {ps : String} {af : Array Edge} {g : Option (Nat × Bool)}
theorem Z4n {ops : Array Oper} {o : Oper} {s : St} {t : TypeId} {nid : Nat} {v : Value} {b : Blk} (hg : Zc4 nt s (Zc6 ops o) = some true) (hd : Zbe nt o.dst = true) (ho : o.op = .buildSlice t 0 #[]) (h : Zsw P s.heap t nid = some (v, b)) : Zaf P G nt ops o s { val := v, sets := [(nid, b)], foot := [nid] } :=
 Zaf.value hg hd fun s' ha => Zu8 ho (by
  unfold Zsw at h ⊢
  rw [show Zb6 s'.heap nid = Zb6 s.heap nid from by unfold Zb6; rw [ha.heap nid (by simp), ha.len]]; exact h)
theorem Z41 {nid : Nat} (hg : gd nt T ops g = some true) (hd : Zbe nt (some d) = true) {t : TypeId} {v : Value} {blk : Blk} (h : Zsw P H t nid = some (v, blk)) (hH : Zes H nid blk = H') (k : R P G nt ops K l (tr ++ [(⟨some d, .buildSlice t 0 #[], ty, ps, af, g⟩, { val := v, sets := [(nid, blk)], foot := [nid] })]) (upd T d v) H') : R P G nt ops K (⟨some d, .buildSlice t 0 #[], ty, ps, af, g⟩ :: l) tr T H :=
 ⟨Zbi.new (Z4n (by rw [Zcx]; exact hg) hd rfl h) rfl hH k.h⟩
end
end Go.Flat
end
section
/- Loops of few rounds, round by round; rows of structs that hold slices. -/
namespace Go.Flat
variable {P : Program} {G : Glob} {nt n0 : Nat} {Q : Exit → St → Prop}
def UL (P : Program) (G : Glob) (nt n0 : Nat) (y : Code) (Q : Exit → St → Prop) : Nat → St → Prop
  | 0, _ => False
  | k + 1, s => C P G nt n0 y (Zea (UL P G nt n0 y Q k) Q) s
theorem Zl2 {y : Code} {k : Nat} {s : St} (h : C P G nt n0 y (Zea (UL P G nt n0 y Q k) Q) s) : UL P G nt n0 y Q (k + 1) s := h
theorem Zwq {next : St → Prop} {s : St} (h : next s) : X (Zea next Q) .normal s := Zak h
theorem Zwh {p : Nat → Prop} (h : ∃ n, p n) : ∃ n, p n ∧ ∀ m, p m → n ≤ m := by
  obtain ⟨n, hn⟩ := h
  induction n using Nat.strongRecOn with
  | _ n ih =>
    by_cases hx : ∃ m, m < n ∧ p m
    · obtain ⟨m, h1, h2⟩ := hx; exact ih m h1 h2
    · exact ⟨n, hn, fun m hm => by rcases Nat.lt_or_ge m n with h | h; exact absurd ⟨m, h, hm⟩ hx; exact h⟩
theorem Zn1 {y : Code} {s : St} (k : Nat) (h : UL P G nt n0 y Q k s) : C P G nt n0 (.loop y) Q s := by
 classical
 refine ⟨fun E m a w h0 hr => ?_⟩
 let ok : Act → World → Nat → Prop := fun a w j => ∃ s m, UL P G nt n0 y Q j s ∧ SRel G nt E m s a w
 refine wp_loop (fun a w => ∃ j, ok a w j) (fun a w => if hx : ∃ j, ok a w j then Classical.choose (Zwh hx) else 0) ⟨k, s, m, h, hr⟩ ?_
 intro a w hI
 have hsp := Classical.choose_spec (Zwh hI)
 generalize hk : Classical.choose (Zwh hI) = j at hsp
 obtain ⟨⟨s1, m1, h1, hr1⟩, hmin⟩ := hsp
 cases j with
 | zero => exact h1.elim
 | succ j =>
  refine wp_mono (C.h (show C P G nt n0 y (Zea (UL P G nt n0 y Q j) Q) s1 from h1) E m1 a w h0 hr1) ?_
  rintro e a' w' ⟨s2, m2, h2, hr2⟩
  cases e with
  | normal =>
   have hI' : ∃ j, ok a' w' j := ⟨j, s2, m2, h2, hr2⟩
   refine ⟨hI', ?_⟩
   simp only [dif_pos hI, dif_pos hI', hk]
   exact Nat.lt_succ_of_le ((Classical.choose_spec (Zwh hI')).2 j ⟨s2, m2, h2, hr2⟩)
  | _ => exact ⟨s2, m2, h2, hr2⟩
def mxW (n : Nat) (l : List Value) : Blk := { cells := l, sz := n, wr := true, fix := false, mv := true, pur := false }
def mxR (n : Nat) (l : List Value) : Blk := { cells := l, sz := n, wr := false, fix := false, mv := true, pur := false }
theorem Zz5 {P : Program} {ts : Array TypeId} {t : TypeId} {x y : Int} (h : x ≤ y) : mmD P .min ts t [.int .i64 x, .int .i64 y] = some (.int .i64 x) := by
 show (if true = true then (Z0 P (Builtin.min_ ts t [Value.int .i64 x, .int .i64 y].toArray)).bind (fun v => if Za2 v = true then some v else none) else none) = _
 rw [if_pos rfl]
 have : Z0 P (Builtin.min_ ts t [Value.int .i64 x, .int .i64 y].toArray) = some (.int .i64 x) := by
  rw [show (some (Value.int .i64 x) : Option Value) = some (.int .i64 (if y < x then y else x)) by rw [if_neg (by omega)]]
  have e : Builtin.min_ ts t [Value.int .i64 x, .int .i64 y].toArray = pure (.int .i64 (if y < x then y else x)) := by simp [Builtin.min_, Builtin.min2]
  rw [e, Z4]
 simp [this, Za2, Zbc]
theorem Zz6 {P : Program} {ts : Array TypeId} {t : TypeId} {x y : Int} (h : ¬ x ≤ y) : mmD P .min ts t [.int .i64 x, .int .i64 y] = some (.int .i64 y) := by
 show (if true = true then (Z0 P (Builtin.min_ ts t [Value.int .i64 x, .int .i64 y].toArray)).bind (fun v => if Za2 v = true then some v else none) else none) = _
 rw [if_pos rfl]
 have : Z0 P (Builtin.min_ ts t [Value.int .i64 x, .int .i64 y].toArray) = some (.int .i64 y) := by
  rw [show (some (Value.int .i64 y) : Option Value) = some (.int .i64 (if y < x then y else x)) by rw [if_pos (by omega)]]
  have e : Builtin.min_ ts t [Value.int .i64 x, .int .i64 y].toArray = pure (.int .i64 (if y < x then y else x)) := by simp [Builtin.min_, Builtin.min2]
  rw [e, Z4]
 simp [this, Za2, Zbc]
theorem Zg2 {P : Program} {G : Glob} {nt n0 : Nat} {Q : Exit → St → Prop} {x : Code} {T : Nat → Value} {H H' : List Blk} (hH : H = H') (h : C P G nt n0 x Q ⟨T, H'⟩) : C P G nt n0 x Q ⟨T, H⟩ := hH ▸ h
end Go.Flat
end
section
/- A walk's state with its blocks named anew: some dropped, some at other places. -/
namespace Go.Flat
def Zzl (e : Emb) (T : Nat → Value) : Nat → List Value → Prop
  | _, [] => True
  | i, v :: l => (v = dead ∨ Zik e v (T i)) ∧ Zzl e T (i + 1) l
theorem Zp4 {e : Emb} {T : Nat → Value} : ∀ {l : List Value} {i : Nat}, Zzl e T i l → ∀ (j : Nat) (v : Value), l[j]? = some v → v = dead ∨ Zik e v (T (i + j))
 | [], _, _, j, v, h => by simp at h
 | x :: l, i, hk, 0, v, h => by simp at h; subst h; exact hk.1
 | x :: l, i, hk, j + 1, v, h => by
  have := Zp4 hk.2 j v (by simpa using h)
  rw [show i + (j + 1) = i + 1 + j by omega]; exact this
theorem Ztz {G : Glob} {nt n0 : Nat} (e : Emb) {T : Nat → Value} {H H' : List Blk} {l : List Value} (he : Zhw H e e H') (hd : Zin e H' = true) (hn : Zf5 e H' = true) (hf : e.take n0 = idE n0) (hh : H'.take n0 = H.take n0) (ht : Zzl e T 0 l) : Zba G nt n0 ⟨T, H⟩ ⟨Tl l, H'⟩ := by
  intro E m a w h0 hr
  have hE : EmbOK H e H' := ⟨(Zeq he).1, (Zeq he).2, Znm (H := H) hd⟩
  have hnm : ∀ (i : Nat) (L : Blk), H'[i]? = some L → L.pur = true ∨ ∀ v, v ∈ L.cells → Zan (inE e) v = true := by
    intro i L hL
    simp only [Zf5, List.all_eq_true, Bool.or_eq_true] at hn
    exact hn L (List.mem_of_getElem? hL)
  refine ⟨mE m e H', hr.size, fun i => ?_, hr.defers, hr.heap.embed hE hnm, ⟨hr.frame.os, hr.frame.tape, hr.frame.output, hr.frame.size, hr.frame.block, ?_, ?_⟩⟩
  · show VR _ ((l[i]?).getD dead) _
    cases hl : l[i]? with
    | none => exact VR.dead
    | some v =>
      have := Zp4 ht i v hl
      rw [Nat.zero_add] at this
      rcases this with h1 | h1
      · rw [h1]; exact VR.dead
      · exact Znv hr.heap hE h1 (hr.tmps i)
  · intro b r h hw hlt
    rcases Zd8 hE h with ⟨id, sh, L, r0, B, h1, h2, h3, rfl, hB, hsz, hfx, hfs, hpu, hle, hwr, hc⟩ | ⟨L, h1, h2, rfl, hwr, hce, hsz⟩
    · unfold Zbl at hw hlt ⊢
      by_cases hL : L.wr = true
      · rw [if_pos hL] at hw hlt ⊢
        have h5 : r0.wr = true := hw
        exact hr.frame.reg id r0 h3 h5 hlt
      · rw [if_neg hL] at hw
        cases hw
    · have : L.wr = true := hw
      rw [hwr] at this; cases this
  · intro b r h hk
    have hb : b < n0 := by
      rcases Nat.lt_or_ge b n0 with h1 | h1
      · exact h1
      · rw [h0 b h1] at h; cases h
    have hm := hr.frame.keep b r h hk
    obtain ⟨B, hB, hs, h1, h2, h3, h4, h5⟩ := hr.heap.reg b r hm
    have he' : e[b]? = some (some (b, 0)) := by
      have := congrArg (fun q : Emb => q[b]?) hf
      simp only [List.getElem?_take, if_pos hb] at this
      rw [this]; exact Zir hb
    have hB' : H'[b]? = some B := by
      have := congrArg (fun q : List Blk => q[b]?) hh
      simp only [List.getElem?_take, if_pos hb] at this
      rw [this]; exact hB
    rw [Zfh he' hB', hm]
    show some (Zbl r 0 B) = some r
    congr 1
    unfold Zbl
    obtain ⟨g, lo, hi, len, sz, wr, fix, mv⟩ := r
    dsimp only at h1 h2 h3 h4 h5
    subst h1; subst h2; subst h3; subst h4; subst h5
    split
    · rfl
    · rename_i hw
      simp only [Bool.not_eq_true] at hw
      simp [hw]
end Go.Flat
end
namespace Go.Flat
open Go.Proofs
variable {G : Glob}
def Zd5 : Cod Int := ⟨fun z => [.int .i64 z], 1, fun _ => rfl, by decide⟩
def Zhu (c : Claim) : List Field := [⟨1, (Zq c.region).1⟩, ⟨2, (Zq c.epoch).1⟩, ⟨3, (Zq c.node).1⟩, ⟨4, (Zq c.size).1⟩, ⟨5, Zp (dgL c.root)⟩]
theorem Zr7 (c : Claim) (i : Nat) (hi : i < 4) : (Zhu c).take i ++ [⟨((i : Nat) : Int) + 1, (Zq ([c.region, c.epoch, c.node, c.size].getD i default)).1⟩] = (Zhu c).take (i + 1) := by
 rcases i with _ | _ | _ | _ | i
 ·rfl
 ·rfl
 ·rfl
 ·rfl
 ·omega
theorem Zw5 {c : Claim} (hc : (1 ≤ c.region ∧ c.region ≤ 5) ∧ (1 ≤ c.epoch ∧ c.epoch ≤ 900000000) ∧ (1 ≤ c.node ∧ c.node ≤ 3) ∧ (0 ≤ c.size ∧ c.size ≤ 100000)) (i : Nat) (hi : i < 4) : -9223372036854775808 ≤ [c.region, c.epoch, c.node, c.size].getD i default ∧ [c.region, c.epoch, c.node, c.size].getD i default ≤ 9223372036854775807 := by
 rcases i with _ | _ | _ | _ | i
 ·show _ ≤ c.region ∧ c.region ≤ _; omega
 ·show _ ≤ c.epoch ∧ c.epoch ≤ _; omega
 ·show _ ≤ c.node ∧ c.node ≤ _; omega
 ·show _ ≤ c.size ∧ c.size ≤ _; omega
 ·omega
theorem Zw3 (c : Claim) : (Z2 (Zhu c) 0 []).2 = 0 := by
 have h1 := Za4 c.region
 have h2 := Za4 c.epoch
 have h3 := Za4 c.node
 have h4 := Za4 c.size
 have h5 : (Zp (dgL c.root)).size = 32 := by rw [Zca, Zju]
 have h := Zmj [(Zq c.region).1, (Zq c.epoch).1, (Zq c.node).1, (Zq c.size).1, Zp (dgL c.root)] 0 [] (by simp) (by
  intro x hx
  simp only [List.mem_cons, List.not_mem_nil, or_false] at hx
  rcases hx with rfl | rfl | rfl | rfl | rfl <;> omega)
 show (Z2 (Zgf 0 [(Zq c.region).1, (Zq c.epoch).1, (Zq c.node).1, (Zq c.size).1, Zp (dgL c.root)]) ((0 : Nat) : Int) []).2 = 0
 rw [h]
def Zb9 (c : Claim) : Bs × Int := if Zdw c then ((Z2 (Zhu c) 0 []).1, 0) else ([], 60)
theorem Ztb (c : Claim) : (Zb9 c).1.length ≤ 100 := by
 unfold Zb9
 split
 ·have := Zg9 (Zhu c) 0 []
  have h1 := Za4 c.region
  have h2 := Za4 c.epoch
  have h3 := Za4 c.node
  have h4 := Za4 c.size
  simp only [Zhu, Zmw, Zca, Zju, List.length_nil] at this
  show (Z2 (Zhu c) 0 []).1.length ≤ 100
  simp only [Zhu]; omega
 ·exact Nat.zero_le _
theorem Zjv (ls : List Field) (n : Nat) (tag : Int) (x : ByteArray) (hn : ls.length = n) (hb : n ≤ 1000) : Z6 Tryd.prog G 84 [pt 0 0, Iv tag, .string x] [rfB (slv 1 0 n n), rwB cFd ls] (.tuple #[]) [rfB (slv 1 0 (n + 1) (n + 1)), rwB cFd (ls ++ [⟨tag, x⟩])] := by
  refine Zbh (fn := Tryd.f84) (nt := 16) rfl rfl rfl rfl ?_
  refine Zag 1 (H' := [rfB (slv 1 0 n n), rwB cFd ls, hole]) rfl ?_
  refine Zg (Zd (pt 0 0) (Zd (pt 0 0) (Zeo (p := pt 0 0) (v := pt 0 0) ?_)))
  refine Zae (p := pt 0 0) (v := slv 1 0 n n) rfl rfl rfl rfl ?_
  refine Zd (Iv tag) (Zd (.string x) ?_)
  refine Zc5 (vs := [(0, Iv tag), (1, .string x)]) (v := fdV (⟨tag, x⟩ : Field)) rfl rfl rfl (by kernel_rfl) ?_
  refine Zen (vs := [(0, fdV (⟨tag, x⟩ : Field))]) (v := slv 2 0 1 1) (blk := rwB cFd [(⟨tag, x⟩ : Field)]) (nid := 2) (H' := [rfB (slv 1 0 n n), rwB cFd ls, rwB cFd [(⟨tag, x⟩ : Field)]]) rfl rfl rfl (by kernel_rfl) (by kernel_rfl) ?_
  have hl2 : (ls ++ [(⟨tag, x⟩ : Field)]).length = n + 1 := by have := hn; have := (rfl : _ = 1); first | (rw [List.length_append]; omega) | (rw [List.length_append, List.length_take]; omega) | (simp; omega) | simp
  refine Zc7 (p := slv 1 0 n n) (q := slv 2 0 1 1) (v := slv 1 0 (n + 1) (n + 1)) (b := 1) (blk := rwB cFd (ls ++ [(⟨tag, x⟩ : Field)])) (H' := [rfB (dead), rwB cFd (ls ++ [(⟨tag, x⟩ : Field)]), rwB cFd [(⟨tag, x⟩ : Field)]]) rfl rfl rfl (.inl ⟨_, rfl⟩) rfl rfl (Zii cFd (by_ := 24) (k := 1) (n' := n + 1) (ms := [(⟨tag, x⟩ : Field)]) (fun _ => rfl) rfl rfl (by kernel_rfl) rfl rfl (by have := hn; omega) (by omega) (by decide) (by omega)) rfl (by kernel_rfl) ?_
  refine Zeo (p := pt 0 0) (v := pt 0 0) (Zab (p := pt 0 0) (v := slv 1 0 (n + 1) (n + 1)) (b := 0) (blk := rfB (slv 1 0 (n + 1) (n + 1))) (H' := [rfB (slv 1 0 (n + 1) (n + 1)), rwB cFd (ls ++ [(⟨tag, x⟩ : Field)]), rwB cFd [(⟨tag, x⟩ : Field)]]) (Za (Zkv ?_)))
  exact Zn (v := .tuple #[]) rfl rfl rfl (by simp [Zbf, rfB, rwB, cFd, Zic, Zef]) trivial
theorem Zle (ls : List Field) (n : Nat) (tag x : Int) (hn : ls.length = n) (hb : n ≤ 1000) (hl : -9223372036854775808 ≤ x) (hh : x ≤ 9223372036854775807) : Z6 Tryd.prog G 83 [pt 0 0, Iv tag, Iv x] [rfB (slv 1 0 n n), rwB cFd ls] (.tuple #[]) [rfB (slv 1 0 (n + 1) (n + 1)), rwB cFd (ls ++ [⟨tag, (Zq x).1⟩])] := by
 refine Zbh (fn := Tryd.f83) (nt := 17) rfl rfl rfl rfl ?_
 refine Zf (Zg (Zd (Iv x) ?_))
 refine Zs (Zpo (G := G) x (by omega) (by omega)) (vals := [Iv x]) (res' := .tuple #[.string ((Zq x).1), Iv ((Zq x).2)]) rfl rfl rfl rfl rfl (by kernel_rfl) ?_
 refine Zd (.tuple #[.string ((Zq x).1), Iv ((Zq x).2)]) (Z1 (vs := #[.string ((Zq x).1), Iv ((Zq x).2)]) (v := .string ((Zq x).1)) (Z1 (vs := #[.string ((Zq x).1), Iv ((Zq x).2)]) (v := Iv ((Zq x).2)) (Zb (.string ((Zq x).1)) (Zb (Iv ((Zq x).2)) (Za (Zc (Zg (Zd (pt 0 0) (Zd (Iv tag) (Zd (.string ((Zq x).1)) ?_))))))))))
 refine Zcl (e := [some (0, 0), some (1, 0)]) (nid := 0) (Zjv (G := G) ls n tag ((Zq x).1) hn (by omega)) (vals := [pt 0 0, Iv tag, .string ((Zq x).1)]) (v := .tuple #[]) (H' := [rfB (slv 1 0 (n + 1) (n + 1)), rwB cFd (ls ++ [(⟨tag, (Zq x).1⟩ : Field)])]) rfl rfl rfl rfl rfl rfl ⟨⟨⟨rfl, rfl⟩, rfl, rfl, trivial⟩, ⟨(Zad rfl rfl rfl rfl), (Zad rfl rfl rfl rfl), trivial⟩, rfl, rfl, rfl, Nat.le_refl _⟩ (by kernel_rfl) rfl (by kernel_rfl) ?_
 refine Za (Zkv ?_)
 exact Zn (v := .tuple #[]) rfl rfl rfl (by simp [Zbf, rfB, rwB, cFd, Zic, Zef]) trivial
theorem Zga (fs : List Field) (n c : Nat) (hn : fs.length = n) (hc : n ≤ c) (hb : n ≤ 1000) : Z6 Tryd.prog G 85 [slv 0 0 n c] [rwR cFd fs] (.tuple #[slv 1 0 (Z2 fs 0 []).1.length (Z2 fs 0 []).1.length, Iv (Z2 fs 0 []).2]) [rwR cFd fs, Zap (Z2 fs 0 []).1] := by
  refine Zbh (fn := Tryd.f85) (nt := 8) rfl rfl rfl rfl ?_
  refine Zag 1 (H' := [rwR cFd fs, hole]) rfl ?_
  refine Zf (Zg (Zb (.slice none 0 0) (Zb (Iv 0) (Za (Zc (Zf (Zg (Zd (slv 0 0 n c) ?_))))))))
  refine Z5 (e := [some (0, 0)]) (nid := 1) (Zyh (G := G) fs n c hn (by omega) (by omega)) (vals := [slv 0 0 n c]) (v := .tuple #[slv 1 0 ((Z2 fs 0 []).1.length) ((Z2 fs 0 []).1.length), Iv ((Z2 fs 0 []).2)]) (H' := [rwR cFd fs, Zap ((Z2 fs 0 []).1)]) rfl rfl rfl rfl rfl rfl rfl ⟨⟨⟨rfl, rfl, rfl, by first | omega | exact Nat.le_refl _, by first | omega | exact Nat.le_refl _⟩, trivial⟩, ⟨(Zbq rfl), trivial⟩, rfl, rfl, rfl⟩ (by kernel_rfl) (by kernel_rfl) ?_
  refine Z1 (vs := #[slv 1 0 ((Z2 fs 0 []).1.length) ((Z2 fs 0 []).1.length), Iv ((Z2 fs 0 []).2)]) (v := slv 1 0 ((Z2 fs 0 []).1.length) ((Z2 fs 0 []).1.length)) (Z1 (vs := #[slv 1 0 ((Z2 fs 0 []).1.length) ((Z2 fs 0 []).1.length), Iv ((Z2 fs 0 []).2)]) (v := Iv ((Z2 fs 0 []).2)) (Zb (slv 1 0 ((Z2 fs 0 []).1.length) ((Z2 fs 0 []).1.length)) (Zb (Iv ((Z2 fs 0 []).2)) (Za (Zc (Zr (Zu ?_)))))))
  exact Zbd [0, 1] (v := .tuple #[slv 1 0 ((Z2 fs 0 []).1.length) ((Z2 fs 0 []).1.length), Iv ((Z2 fs 0 []).2)]) rfl (by kernel_rfl) rfl rfl (by decide) (by simp [Zbf, rwR, Zap, cFd]) ⟨⟨rfl, rfl, rfl, by first | omega | exact Nat.le_refl _ | exact Nat.zero_le _ | (dsimp only; omega), by first | omega | exact Nat.le_refl _ | exact Nat.zero_le _ | (dsimp only; omega)⟩, rfl, trivial⟩
abbrev Y2 (c : Claim) : Blk := rwB Zd5 [c.region, c.epoch, c.node, c.size]
theorem Zrr (c : Claim) : Z6 Tryd.prog G 87 [Zai c] [] (.tuple #[slv 0 0 (Zb9 c).1.length (Zb9 c).1.length, Iv (Zb9 c).2]) [Zap (Zb9 c).1] := by
  refine Zbh (fn := Tryd.f87) (nt := 41) rfl rfl rfl rfl ?_
  refine Zag 4 (H' := [hole, hole, hole, hole]) rfl ?_
  refine Zf (Zg (Zb4 (v := Zai c) (b := bxB 36 (Zat c)) (nid := 0) (H' := [bxB 36 (Zat c), hole, hole, hole]) (Zb (.slice none 0 0) (Zb (Iv 0) (Za (Zc (Zf (Zf (Zg (Zo (p := pt 0 0) (v := Zai c) ?_))))))))))
  refine Zs (Zf3 (G := G) c) (vals := [Zai c]) (res' := Iv (Zde c)) rfl rfl rfl rfl rfl rfl ?_
  refine Zb (Iv (Zde c)) (Za (Zc (Zf (Zg (Zd (Iv (Zde c)) ?_)))))
  by_cases h1 : (Zde c) ≠ 0
  refine Zm (vx := Iv (Zde c)) (vy := Iv 0) rfl rfl (.bool true) rfl rfl (Zgd (by omega)) ?_
  refine Za (Zc (Zz rfl (Zf (Zg (Zd (Iv (Zde c)) (Zb (.slice none 0 0) (Zb (Iv (Zde c)) (Za (Zc ?_)))))))))
  refine Zb8 (Zba.nilTmp (i := 2) (b := 1) true 1 rfl (by decide) rfl) ?_
  refine Zr (Z3 (Zu ?_))
  rw [show Zb9 c = ([], (Zde c)) from if_neg (fun q => Zk0 (c := c) (by omega) q) |>.trans (by first | rfl | (unfold Zde; rw [if_neg (Zk0 (c := c) (by omega))]))]
  exact Zbd [1] (v := .tuple #[slv 1 0 0 0, Iv (Zde c)]) rfl (by kernel_rfl) rfl rfl (by decide) (by simp [Zbf, Zap]) ⟨⟨rfl, rfl, rfl, by first | omega | exact Nat.le_refl _ | exact Nat.zero_le _ | (dsimp only; omega), by first | omega | exact Nat.le_refl _ | exact Nat.zero_le _ | (dsimp only; omega)⟩, rfl, trivial⟩
  refine Zm (vx := Iv (Zde c)) (vy := Iv 0) rfl rfl (.bool false) rfl rfl (Zft (by omega)) ?_
  refine Za (Zc (Zt rfl (Zy (Zc (Zf (Zg (Za9 (b := rfB (.slice none 0 0)) (nid := 1) (H' := [bxB 36 (Zat c), rfB (.slice none 0 0), hole, hole]) (Za (Zc (Zf (Zf ?_)))))))))))
  have hc := Zk1 (c := c) (by omega)
  unfold Zdw at hc
  refine Zb8 (Zba.nilCell (k := 1) (j := 0) (b := 2) true 2 rfl (by decide) rfl (by show 0 < 1; decide) rfl rfl) ?_
  refine Zg (Zh (b := 0) (o := 0) (n := 0) (o' := 0) (Zo (p := pt 0 0) (v := Iv c.region) (Zh (b := 0) (o := 0) (n := 1) (o' := 1) (Zo (p := pt 0 1) (v := Iv c.epoch) (Zh (b := 0) (o := 0) (n := 2) (o' := 2) (Zo (p := pt 0 2) (v := Iv c.node) (Zh (b := 0) (o := 0) (n := 3) (o' := 3) (Zo (p := pt 0 3) (v := Iv c.size) ?_))))))))
  refine Zen (vs := [(0, Iv c.region), (1, Iv c.epoch), (2, Iv c.node), (3, Iv c.size)]) (v := slv 3 0 4 4) (blk := rwB Zd5 [c.region, c.epoch, c.node, c.size]) (nid := 3) (H' := [bxB 36 (Zat c), rfB (slv 2 0 0 0), rwB cFd [], Y2 c]) rfl rfl rfl (by kernel_rfl) (by kernel_rfl) ?_
  refine Zav (p := slv 3 0 4 4) (v := Iv 4) (Zd (Iv 0) (Za (Zc (Z8 ?_))))
  refine Zbs (fun x : Nat × (List Field) => match x with | (i, acc) => [Zai c, pt 0 0, .slice none 0 0, Iv 0, Iv (Zde c), pt 1 0, dead, dead, Zai c, Iv (Zde c), Iv (Zde c), .bool false, dead, pt 0 0, Iv c.region, pt 0 1, Iv c.epoch, pt 0 2, Iv c.node, pt 0 3, Iv c.size, slv 3 0 4 4, Iv 4, Iv (i : Nat)]) (fun x : Nat × (List Field) => match x with | (i, acc) => [bxB 36 (Zat c), rfB (slv 2 0 i i), rwB cFd acc, rwB Zd5 [c.region, c.epoch, c.node, c.size]]) (fun x : Nat × (List Field) => match x with | (i, acc) => acc = (Zhu c).take i ∧ i ≤ 4 ∧ acc.length = i) (fun x : Nat × (List Field) => match x with | (i, acc) => 4 - i) (0, []) ⟨rfl, by omega, rfl⟩ ?_ ?_
  · refine Zaj (n := 4) rfl ?_ (by kernel_rfl) (by kernel_rfl)
    repeat (first | exact trivial | refine ⟨.inl rfl, ?_⟩ | refine ⟨.inr ⟨rfl, rfl⟩, ?_⟩ | refine ⟨.inr ⟨congrArg (Value.int .i64) (by first | omega | (dsimp only; omega)), rfl⟩, ?_⟩)
  rintro ⟨i, acc⟩ ⟨hR, hi, ha⟩
  dsimp only at *
  refine Zag 1 (H' := [bxB 36 (Zat c), rfB (slv 2 0 i i), rwB cFd acc, Y2 c, hole]) rfl ?_
  refine Zf (Zg ?_)
  by_cases h2 : (i : Nat) < 4
  refine Zm (vx := Iv (i : Nat)) (vy := Iv 4) rfl rfl (.bool true) rfl rfl (Zcz (by omega)) ?_
  refine Za (Zc (Zf (Zz rfl (Zy (Zc (Zf (Z8 (Zf (Zg (Zd (Iv (i : Nat)) ?_))))))))))
  refine Zbb (b := 3) (o := 0) (j := i) (m := 4) (c := 4) (sz := 1) (i := (i : Nat)) (k := .i64) rfl rfl rfl rfl rfl (by omega) (by omega) (by omega) ?_
  refine Zae (p := pt 3 i) (v := Iv (([c.region, c.epoch, c.node, c.size]).getD i default)) rfl rfl rfl (Zlj (m := 1) Zd5 (l := [c.region, c.epoch, c.node, c.size]) (i := i) rfl rfl rfl rfl (by have : ([c.region, c.epoch, c.node, c.size]).length = 4 := rfl; omega) (by omega) rfl rfl) ?_
  refine Zb (Iv (i : Nat)) (Zb (Iv (([c.region, c.epoch, c.node, c.size]).getD i default)) (Za (Zc ?_)))
  have hx := Zw5 hc i (by omega)
  refine Zg (Zd (Iv (i : Nat)) ?_)
  refine Zm (vx := Iv (i : Nat)) (vy := Iv 1) rfl rfl (Iv ((i : Nat) + 1)) rfl rfl (Zal (by omega) (by omega) (by omega)) ?_
  refine Zd (Iv (([c.region, c.epoch, c.node, c.size]).getD i default)) ?_
  refine Zcl (e := [some (1, 0), some (2, 0)]) (nid := 0) (Zle (G := G) acc i ((i : Nat) + 1) (([c.region, c.epoch, c.node, c.size]).getD i default) ha (by omega) (by omega) (by omega)) (vals := [pt 1 0, Iv ((i : Nat) + 1), Iv (([c.region, c.epoch, c.node, c.size]).getD i default)]) (v := .tuple #[]) (H' := [bxB 36 (Zat c), rfB (slv 2 0 (i + 1) (i + 1)), rwB cFd (acc ++ [(⟨(i : Nat) + 1, (Zq (([c.region, c.epoch, c.node, c.size]).getD i default)).1⟩ : Field)]), Y2 c, hole]) rfl rfl rfl rfl rfl rfl ⟨⟨⟨rfl, rfl⟩, rfl, rfl, trivial⟩, ⟨(Zad rfl rfl rfl rfl), (Zad rfl rfl rfl rfl), trivial⟩, rfl, rfl, rfl, Nat.le_refl _⟩ (by kernel_rfl) rfl (by kernel_rfl) ?_
  refine Za (Z7 (Zc (Zg ?_)))
  refine Zm (vx := Iv (i : Nat)) (vy := Iv 1) rfl rfl (Iv ((i : Nat) + 1)) rfl rfl (Zal (by omega) (by omega) (by omega)) ?_
  refine Zd (Iv ((i : Nat) + 1)) (Za ?_)
  refine Zak ⟨((i + 1), (acc ++ [(⟨(i : Nat) + 1, (Zq (([c.region, c.epoch, c.node, c.size]).getD i default)).1⟩ : Field)])), ⟨by dsimp only; rw [hR]; exact Zr7 c i (by omega), by dsimp only; omega, by rw [List.length_append, ha]; rfl⟩, by show 4 - (i + 1) < 4 - i; omega, ?_⟩
  refine Zaj (n := 4) rfl ?_ (by kernel_rfl) (by kernel_rfl)
  repeat (first | exact trivial | refine ⟨.inl rfl, ?_⟩ | refine ⟨.inr ⟨rfl, rfl⟩, ?_⟩ | refine ⟨.inr ⟨congrArg (Value.int .i64) (by first | omega | (dsimp only; omega)), rfl⟩, ?_⟩)
  refine Zm (vx := Iv (i : Nat)) (vy := Iv 4) rfl rfl (.bool false) rfl rfl (Zcv (by omega)) ?_
  refine Za (Zc (Zf (Zt rfl (Zbm (Zaw (Zay (Za0 rfl (Zc (Zf ?_)))))))))
  have hi4 : i = 4 := by omega
  refine Zg (Zh (b := 0) (o := 0) (n := 4) (o' := 4) ?_)
  refine Zc0 (p := pt 0 4) (vl := none) (vh := none) (v := slv 0 4 32 32) rfl rfl rfl rfl rfl rfl ?_
  refine Zjm (p := slv 0 4 32 32) (v := .string (Zp (dgL c.root))) rfl rfl rfl (Zhf (l := (dgL c.root)) rfl rfl rfl rfl (of_decide_eq_true (by kernel_rfl)) (by kernel_rfl)) ?_
  refine Zcl (e := [some (1, 0), some (2, 0)]) (nid := 0) (Zjv (G := G) acc i 5 (Zp (dgL c.root)) ha (by omega)) (vals := [pt 1 0, Iv 5, .string (Zp (dgL c.root))]) (v := .tuple #[]) (H' := [bxB 36 (Zat c), rfB (slv 2 0 (i + 1) (i + 1)), rwB cFd (acc ++ [(⟨5, (Zp (dgL c.root))⟩ : Field)]), Y2 c, hole]) rfl rfl rfl rfl rfl rfl ⟨⟨⟨rfl, rfl⟩, rfl, rfl, trivial⟩, ⟨(Zad rfl rfl rfl rfl), (Zad rfl rfl rfl rfl), trivial⟩, rfl, rfl, rfl, Nat.le_refl _⟩ (by kernel_rfl) rfl (by kernel_rfl) ?_
  refine Za (Zc (Zf (Zg ?_)))
  refine Zae (p := pt 1 0) (v := slv 2 0 (i + 1) (i + 1)) rfl rfl rfl rfl ?_
  refine Z5 (e := [some (2, 0)]) (nid := 4) (Zga (G := G) (acc ++ [(⟨5, (Zp (dgL c.root))⟩ : Field)]) (i + 1) (i + 1) (by rw [List.length_append, ha]; rfl) (by omega) (by omega)) (vals := [slv 2 0 (i + 1) (i + 1)]) (v := .tuple #[slv 4 0 ((Z2 (acc ++ [(⟨5, (Zp (dgL c.root))⟩ : Field)]) 0 []).1.length) ((Z2 (acc ++ [(⟨5, (Zp (dgL c.root))⟩ : Field)]) 0 []).1.length), Iv ((Z2 (acc ++ [(⟨5, (Zp (dgL c.root))⟩ : Field)]) 0 []).2)]) (H' := [bxB 36 (Zat c), rfB (slv 2 0 (i + 1) (i + 1)), rwB cFd (acc ++ [(⟨5, (Zp (dgL c.root))⟩ : Field)]), Y2 c, Zap ((Z2 (acc ++ [(⟨5, (Zp (dgL c.root))⟩ : Field)]) 0 []).1)]) rfl rfl rfl rfl rfl rfl rfl ⟨⟨⟨rfl, rfl, rfl, by first | omega | exact Nat.le_refl _, by first | omega | exact Nat.le_refl _⟩, trivial⟩, ⟨(Zbt rfl), trivial⟩, rfl, rfl, rfl⟩ (by kernel_rfl) (by kernel_rfl) ?_
  refine Z1 (vs := #[slv 4 0 ((Z2 (acc ++ [(⟨5, (Zp (dgL c.root))⟩ : Field)]) 0 []).1.length) ((Z2 (acc ++ [(⟨5, (Zp (dgL c.root))⟩ : Field)]) 0 []).1.length), Iv ((Z2 (acc ++ [(⟨5, (Zp (dgL c.root))⟩ : Field)]) 0 []).2)]) (v := slv 4 0 ((Z2 (acc ++ [(⟨5, (Zp (dgL c.root))⟩ : Field)]) 0 []).1.length) ((Z2 (acc ++ [(⟨5, (Zp (dgL c.root))⟩ : Field)]) 0 []).1.length)) (Z1 (vs := #[slv 4 0 ((Z2 (acc ++ [(⟨5, (Zp (dgL c.root))⟩ : Field)]) 0 []).1.length) ((Z2 (acc ++ [(⟨5, (Zp (dgL c.root))⟩ : Field)]) 0 []).1.length), Iv ((Z2 (acc ++ [(⟨5, (Zp (dgL c.root))⟩ : Field)]) 0 []).2)]) (v := Iv ((Z2 (acc ++ [(⟨5, (Zp (dgL c.root))⟩ : Field)]) 0 []).2)) (Zb (slv 4 0 ((Z2 (acc ++ [(⟨5, (Zp (dgL c.root))⟩ : Field)]) 0 []).1.length) ((Z2 (acc ++ [(⟨5, (Zp (dgL c.root))⟩ : Field)]) 0 []).1.length)) (Zb (Iv ((Z2 (acc ++ [(⟨5, (Zp (dgL c.root))⟩ : Field)]) 0 []).2)) (Za (Zc (Zr (Zu ?_)))))))
  have e : acc ++ [(⟨5, Zp (dgL c.root)⟩ : Field)] = Zhu c := by rw [hR, hi4]; rfl
  have ez := Zw3 c
  rw [← e] at ez
  rw [show Zb9 c = ((Z2 (acc ++ [(⟨5, Zp (dgL c.root)⟩ : Field)]) 0 []).1, (Z2 (acc ++ [(⟨5, Zp (dgL c.root)⟩ : Field)]) 0 []).2) from by rw [ez, e]; exact if_pos (Zk1 (by omega))]
  exact Zbd [4] (v := .tuple #[slv 4 0 ((Z2 (acc ++ [(⟨5, (Zp (dgL c.root))⟩ : Field)]) 0 []).1.length) ((Z2 (acc ++ [(⟨5, (Zp (dgL c.root))⟩ : Field)]) 0 []).1.length), Iv ((Z2 (acc ++ [(⟨5, (Zp (dgL c.root))⟩ : Field)]) 0 []).2)]) rfl (by kernel_rfl) rfl rfl (by decide) (by simp [Zbf, Zap]) ⟨⟨rfl, rfl, rfl, by first | omega | exact Nat.le_refl _ | exact Nat.zero_le _ | (dsimp only; omega), by first | omega | exact Nat.le_refl _ | exact Nat.zero_le _ | (dsimp only; omega)⟩, rfl, trivial⟩
end Go.Flat
