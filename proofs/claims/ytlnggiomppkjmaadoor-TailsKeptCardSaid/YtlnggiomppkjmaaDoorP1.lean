/- Walks. -/
import Derived.Test.YtlnggiomppkjmaaDoorE3
import Derived.Test.YtlnggiomppkjmaaDoorFlatH
import Derived.Test.YtlnggiomppkjmaaDoorFlatG
import Derived.ScopeJumps
import Derived.Lib.SliceRun
import Derived.Test.YtlnggiomppkjmaaDoorXD
import Derived.Test.YtlnggiomppkjmaaDoorH8
set_option linter.unusedVariables false
set_option maxRecDepth 20000
set_option linter.unusedSimpArgs false
namespace Go.Flat
open Go.Proofs
variable {G : Glob}
def Z6h (p : Nat → Bool) (n : Nat) : List Nat := (List.range n).filter p
def Z62 (p : Nat → Bool) (i : Nat) : Nat := (Z6h p i).length
def usP (l : List Item) (cl : Int) (i : Nat) : Bool := decide ((l.getD i default).entry.kind = 1 ∧ (l.getD i default).entry.client = cl)
def Z2w (c s : Int) : Nat → List Item → Int × Bool
  | _, [] => (0, false)
  | i, x :: l => if x.entry.kind = 1 ∧ x.entry.client = c ∧ x.entry.seq = s then ((i : Int), true) else Z2w c s (i + 1) l
def Z6q (l : List Item) (c s : Int) : Int × Bool := Z2w c s 0 l
def Z59 (c s : Int) (x : Item) : Bool := decide (x.entry.kind = 1 ∧ x.entry.client = c ∧ s ≤ x.entry.seq)
def Z58 (l : List Item) (c s : Int) : Bool := l.any (Z59 c s)
def Z68 (l : List Item) (n : Nat) (x : Item) : Int :=
  if ¬ Zim l ∨ ¬ Zcr x then 100 else if 0 < n ∧ x.epoch < (l.getD (n - 1) default).epoch then 102 else if 2000 ≤ n then 2 else if x.entry.kind ≠ 1 then 0 else if Z58 l x.entry.client x.entry.seq = true then 101 else 0
section
variable {l : List Item} {n : Nat} {x : Item}
end
end Go.Flat
section
/- Structs that hold slices: their values, boxes, arguments. -/
namespace Go.Flat
abbrev mxV (l : List Value) : Value := .agg l.toArray
def mxB (n : Nat) (l : List Value) : Blk := { cells := l, sz := n, wr := true, fix := true, mv := false, pur := false }
theorem Zbh {e : Emb} {a b : List Value} (hp : Za0 (mxV a) = false) (h : Zu9 e a b) : Zh8 e (mxV a) (mxV b) := by
 unfold Zh8
 rw [if_neg (by rw [hp]; decide)]
 exact h
open Go.ChangeShapes Go.WideShapes Go.RowKit
section
variable {H : Type} {enc : TypeId × Value → H} {P : Program} {W : World} {α : Type} {c : Cod α} {ok : α → Prop}
theorem Zxc {t te : TypeId} (ho : Zai P te c.enc ok) (ht : P.underlying t = some (.slice te)) (hce : P.cellsOf te = c.n)
    {fuel : Nat} {cs : List Value} {x : DataW H × List MemPlace} (hf : DataW.trod enc P W 0 (fun _ => true) true fuel t cs = some x) :
    ∃ (v : Value) (xs : List α) (cap : Nat) (r : Reg), cs = [v] ∧ xs.length ≤ cap ∧ cap ≤ maxLen ∧ r.wr = false ∧ r.fix = false ∧ r.len = xs.length * c.n ∧ r.sz = c.n ∧ r.mv = true ∧ (∀ x, x ∈ xs → ok x) ∧ (∀ k v, (c.row xs)[k]? = some v → W.cell? ⟨r.g, r.lo + k, none⟩ = some v) ∧ ∀ (m : MapM) (b : Nat), m b = some r → VR m (slv b 0 xs.length cap) v := by
  have hn := c.pos
  rcases DataW.trod_slice ht hf with ⟨hcs, _⟩ | ⟨a, len, cap, elems, rest, k, _, hcs, _, _, hl, hmx, hlen, hel, hsp, _⟩
  · subst hcs
    refine ⟨.slice none 0 0, [], 0, ⟨0, 0, 0, 0, c.n, false, false, true⟩, rfl, Nat.le_refl _, Nat.zero_le _, rfl, rfl, by simp, rfl, rfl, fun x hx => by simp at hx, fun k v hk => by simp [Cod.row] at hk, fun m b hb => ?_⟩
    exact ⟨_, none, 0, hb, rfl, Nat.le_refl _, Nat.le_refl _, fun h => by omega⟩
  · subst hcs
    obtain ⟨xs, hxl, hxs⟩ := Zvx (Q := fun i y => (∀ j, j < c.n → W.cell? ((a.add (i * c.n)).add j) = (c.enc y)[j]?) ∧ ok y) len fun i hi => by
      have e := hel i hi
      rw [hce, List.getElem?_eq_getElem (by omega)] at e
      exact Zp0 ho e
    have hcell : ∀ k v, (c.row xs)[k]? = some v → W.cell? ⟨a.block, a.off + k, none⟩ = some v := by
      intro k v hk
      obtain ⟨y, h1, h2⟩ := c.row_get xs k v hk
      have h3 := (hxs _ _ h1).1 (k % c.n) (Nat.mod_lt _ hn)
      rw [h2, Zu6, Nat.mul_comm, Nat.div_add_mod] at h3
      exact Zyf h3
    have hspot : 0 < cap → a.spot = none := by
      intro hc
      have key : ∀ {fuel : Nat} {x : DataW H × List MemPlace}, (W.cells? 0 (a.add (0 * c.n)) c.n).bind (DataW.trod enc P W 0 (fun _ => true) true fuel te) = some x → a.spot = none := by
        intro fuel x h
        obtain ⟨y, h1, _⟩ := Zp0 ho h
        have h2 := h1 0 hn
        rw [Zu6, Nat.zero_mul, List.getElem?_eq_getElem (by rw [c.len]; exact hn)] at h2
        exact Zts h2
      rcases Nat.eq_zero_or_pos len with h0 | h0
      · subst h0
        obtain ⟨s1, s2⟩ := hsp rfl
        have e := s2 0 (by omega)
        rw [hce, List.getElem?_eq_getElem (by omega)] at e
        exact key e
      · have e := hel 0 h0
        rw [hce, List.getElem?_eq_getElem (by omega)] at e
        exact key e
    refine ⟨.slice (some a) len cap, xs, cap, ⟨a.block, a.off, a.off + cap * c.n, xs.length * c.n, c.n, false, false, true⟩, rfl, by omega, hmx, rfl, rfl, rfl, rfl, rfl, ?_, hcell, fun m b hb => ?_⟩
    · intro x hx
      obtain ⟨i, hi⟩ := List.getElem?_of_mem hx
      exact (hxs i x hi).2
    · rw [hxl]
      refine ⟨_, some a, cap, hb, rfl, hl, Nat.le_refl _, fun hc => ⟨?_, fun _ => ?_, fun h _ _ => by cases h⟩⟩
      · have := hspot hc
        obtain ⟨g, o, s⟩ := a
        simp only at this
        subst this
        rfl
      · show a.off + 0 + cap * c.n ≤ a.off + cap * c.n
        omega
theorem HRel.addAt {G : Glob} {m : MapM} {σ : List Blk} (h : HRel G m σ W) (hm : ∀ b r, m b = some r → r.wr = false) {t te : TypeId} (c : Cod α) (ho : Zai P te c.enc ok) (ht : P.underlying t = some (.slice te)) (hce : P.cellsOf te = c.n) (hp : ∀ x, (c.enc x).all Za8 = true)
  {n off : Nat} {cs : List Value} {ys : List (DataW H × List MemPlace)} {i : Nat} {f : Go.Field} (hf : DataW.trod enc P W 0 (fun _ => true) true n f.type ((cs.drop f.offset).take (P.cellsOf f.type)) = ys[i]?) (hi : i < ys.length) (ht' : f.type = t) (hc : P.cellsOf t = 1) (hoff : f.offset = off) :
  ∃ (v : Value) (xs : List α) (cap : Nat) (m' : MapM), (cs.drop off).take 1 = [v] ∧ xs.length ≤ cap ∧ cap ≤ 9223372036854775807 ∧ (∀ x, x ∈ xs → ok x) ∧ HRel G m' (σ ++ [rwR c xs]) W ∧ (∀ b r, m' b = some r → r.wr = false) ∧ (∀ b r, m b = some r → m' b = some r) ∧ VR m' (slv σ.length 0 xs.length cap) v := by
 subst ht'; subst hoff
 rw [List.getElem?_eq_getElem hi, hc] at hf
 obtain ⟨v, xs, cap, r, hv, h1, h2, r1, r2, r3, r4, r5, h6, h3, h4⟩ := Zxc ho ht hce hf
 obtain ⟨g1, g2, g3⟩ := h.addRow hm (blk := rwR c xs) (r := r) rfl c.pos r1 r2 (by show _ = (c.row xs).length; rw [c.row_len, r3]) r4 r5 (fun i v hv => ⟨v, h3 i v hv, CR.of_pure (c.row_pure hp xs v (List.mem_of_getElem? hv))⟩) (fun _ v hv => c.row_pure hp xs v hv)
 exact ⟨v, xs, cap, _, hv, h1, h2, h6, g1, g2, g3, h4 _ _ (if_pos rfl)⟩
end
theorem L2.pure {m : MapM} {a : List Value} (h : a.all Za8 = true) : L2 (CR m) a a :=
 ⟨rfl, fun i x y hx hy => by
  rw [hx] at hy; injection hy with hy; subst hy
  exact CR.of_pure (List.all_eq_true.1 h x (List.mem_of_getElem? hx))⟩
theorem L2.cell {m : MapM} {b o n k : Nat} {v : Value} (h : VR m (slv b o n k) v) : L2 (CR m) [slv b o n k] [v] := L2.cons h L2.nil
theorem VR.mx {m : MapM} {l cs : List Value} (h : L2 (CR m) l cs) : VR m (mxV l) (.agg cs.toArray) := ⟨cs.toArray, rfl, h⟩
theorem Zua {P : Program} {W : World} {base : Nat} {t : TypeId} {v : Value} (hagg : ∃ fs, P.underlying t = some (.struct fs)) (hv : Value.okWide P W .any base t v) : ∃ cs : List Value, v = .agg cs.toArray := by
 unfold Value.okWide at hv
 obtain ⟨fs, e⟩ := hagg
 rw [e] at hv; obtain ⟨cs, h1, _⟩ := hv; exact ⟨cs.toList, by rw [h1]⟩
end Go.Flat
end
section
/- A scope in which the run jumps ahead to one label. -/
namespace Go.Flat
variable {P : Program} {G : Glob} {nt n0 : Nat} {Q : Exit → St → Prop} {s : St} {x : Code}
def Zm9 (Q : Exit → St → Prop) : Exit → St → Prop
  | .goto _, _ => False
  | e, s => Q e s
def Zuk (P : Program) (G : Glob) (nt n0 l : Nat) (rest : Code) (Q : Exit → St → Prop) : Exit → St → Prop
  | .goto l', s => l' = l ∧ C P G nt n0 rest (Zm9 Q) s
  | e, s => Q e s
theorem Z03 {l : Nat} {rest : Code} (hf : findLabel x l = some rest) (h : C P G nt n0 x (Zuk P G nt n0 l rest Q) s) : C P G nt n0 (.scope x) Q s := by
 refine ⟨fun E m a w h0 hr => ?_⟩
 refine wp_scope_jumps l (fun a w => ∃ s m, C P G nt n0 rest (Zm9 Q) s ∧ SRel G nt E m s a w) (fun _ _ => 0) hf (wp_mono (h.h E m a w h0 hr) ?_) ?_
 ·rintro e a' w' ⟨s', m', h1, h2⟩
  cases e with
  | goto l' => exact ⟨h1.1, s', m', h1.2, h2⟩
  | _ => exact ⟨s', m', h1, h2⟩
 ·rintro a w ⟨s', m', h1, h2⟩
  refine wp_mono (h1.h E m' a w h0 h2) ?_
  rintro e a' w' ⟨s2, m2, h3, h4⟩
  cases e with
  | goto l' => exact h3.elim
  | _ => exact ⟨s2, m2, h3, h4⟩
theorem Zg5 {l : Nat} {rest : Code} (h : C P G nt n0 rest (Zm9 Q) s) : X (Zuk P G nt n0 l rest Q) (.goto l) s := ⟨rfl, h⟩
theorem Zoy {l : Nat} {rest : Code} (h : X Q .ret s) : X (Zuk P G nt n0 l rest Q) .ret s := ⟨h.h⟩
theorem Zox (h : X Q .ret s) : X (Zm9 Q) .ret s := ⟨h.h⟩
end Go.Flat
end
section
/- Is a slice nil? A split that the code itself makes; parts of own rows that are appended to. -/
namespace Go.Flat
variable {P : Program} {G : Glob} {nt n0 : Nat} {Q : Exit → St → Prop}
theorem Zwf {x d1 d2 : Tmp} {ty1 ty2 t yt e : TypeId} {p1 p2 : String} {f1 f2 : Array Edge} {i b o n c : Nat} {rest : Code} {T : Nat → Value} {H : List Blk}
  (hu : P.underlying t = some (.slice e)) (hx : T x = slv b o n c) (hd1 : Zbb nt (some d1) = true) (hd2 : Zbb nt (some d2) = true)
  (h1 : n = 0 → C P G nt n0 (.seq (.region i #[⟨some d1, .move (.tmp x), ty1, p1, f1, none⟩, ⟨some d2, .binOp .eql t (.tmp d1) (.const (.slice none 0 0)) yt, ty2, p2, f2, none⟩] false) rest) Q ⟨upd T x (.slice none 0 0), H⟩)
  (h2 : C P G nt n0 rest Q ⟨upd (upd T d1 (slv b o n c)) d2 (.bool false), H⟩) :
  C P G nt n0 (.seq (.region i #[⟨some d1, .move (.tmp x), ty1, p1, f1, none⟩, ⟨some d2, .binOp .eql t (.tmp d1) (.const (.slice none 0 0)) yt, ty2, p2, f2, none⟩] false) rest) Q ⟨T, H⟩ := by
 refine ⟨fun E m a w h0 hr => ?_⟩
 have hv := hr.tmps x
 rw [show (⟨T, H⟩ : St).tmps x = slv b o n c from hx] at hv
 obtain ⟨r, a', c', hm, hv', hs⟩ := hv
 cases a' with
 | none =>
  have hc0 : c' = 0 := by
   rcases Nat.eq_zero_or_pos c' with h | h
   ·exact h
   ·exact absurd (hs.2.2 h).1 (by simp)
  have hn0 : n = 0 := by have := hs.1; have := hs.2.1; omega
  refine (h1 hn0).h E m a w h0 ⟨hr.size, fun j => ?_, hr.defers, hr.heap, hr.frame⟩
  show VR m (upd T x (.slice none 0 0) j) _
  unfold upd
  split
  ·rename_i hj
   subst hj
   rw [hv', hn0, hc0]
   exact rfl
  ·exact hr.tmps j
 | some ad =>
  refine wp_seq (wp_region_list ?_)
  refine wpList_plain rfl fun K hK => ?_
  unfold Oper.wp
  simp only [execOp, Sem.run_pure, Sem.run_bind, Result.andThen_ok]
  refine hK _ _ ?_
  refine wpList_plain rfl fun K hK => ?_
  have hd1' : d1 < nt := by simpa [Zbb] using hd1
  have he : (a.put (some d1) (a.eval (.tmp x))).eval (.tmp d1) = .slice (some ad) n c' := by
   have : a.eval (.tmp x) = .slice (some ad) n c' := hv'
   rw [this]
   simp [Act.put, Act.eval, hr.size, hd1']
  have hq := Lib.run_eql_slice_nil (P := P) w t e (some ad) n c' 0 0 hu
  have hcn : (a.put (some d1) (a.eval (.tmp x))).eval (.const (.slice none 0 0)) = .slice none 0 0 := rfl
  unfold Oper.wp
  simp only [execOp, Sem.run_pure, Sem.run_bind, Result.andThen_ok, he, hcn, eqGuard, hq, Bool.not_true, Bool.false_eq_true, if_false]
  refine hK _ _ ?_
  show rest.wp P (Zoz G nt E Q) _ w
  have hr1 : SRel G nt E m ⟨upd T d1 (slv b o n c), H⟩ (a.put (some d1) (a.eval (.tmp x))) w := SRel.put (s := ⟨T, H⟩) hr (d := some d1) hd1 (v := slv b o n c) (by rw [show a.eval (.tmp x) = .slice (some ad) n c' from hv']; exact ⟨r, some ad, c', hm, rfl, hs⟩)
  exact h2.h E m _ w h0 (SRel.put (s := ⟨upd T d1 (slv b o n c), H⟩) hr1 (d := some d2) hd2 (v := .bool false) rfl)

def Zsi (P : Program) (σ : List Blk) (t : TypeId) (nid : Nat) : Option (Value × Blk) :=
  match Zc8 P t with
  | some (sz, _, _) => if 0 < sz ∧ Zb4 σ nid = true then some (.slice (some ⟨nid, 0, none⟩) 0 0, Zca true false sz []) else none
  | none => none
theorem Zuq {o : Oper} {s : St} {t : TypeId} {nid : Nat} {v : Value} {b : Blk} (ho : o.op = .buildSlice t 0 #[]) (h : Zsi P s.heap t nid = some (v, b)) : Zas P G o s v [(nid, b)] := by
 unfold Zsi at h
 split at h
 ·rename_i sz zc by_ ht
  split at h
  ·rename_i hh
   obtain ⟨hsz, hfr⟩ := hh
   injection h with h; injection h with h1 h2
   subst h1; subst h2
   obtain ⟨e, i, z, hu, hi, hz, he1, he2, he3⟩ := Zdj ht
   intro nt E m a w hr
   obtain ⟨m', g1, g2, g3, g4⟩ := Zdw hr.heap hr.frame hfr (Zca true false sz []) hsz #[] e (0, 0) (by simp [Zca]) (by simp only [Zca]; exact L2.nil) (by intro hq u hu'; simp [Zca] at hu') (by simp)
   refine ⟨.slice (some ⟨w.heap.size, 0, none⟩) 0 0, _, m', .inl ?_, g1, g2, g3, _, _, _, g4, rfl, Nat.le_refl _, Nat.le_refl _, fun h => absurd h (by omega)⟩
   have hrun : (Instr.buildSlice t 0 #[]).run P w = .ok (.slice (some ⟨w.heap.size, 0, none⟩) 0 0) (w.alloc (.cells #[] e)) := by
    simp only [Instr.buildSlice, Sem.run_bind, run_underlying hu, Result.andThen_ok, Zbz hi]
    rw [if_neg (by simp)]
    simp only [Sem.run_bind, Sem.run_pure, Result.andThen_ok, Nat.zero_mul, if_true]
    simp [Instr.fill, newRow, show Array.range 0 = #[] from rfl]
   simp only [execOp, ho, Sem.run_bind]
   simp [hrun]
  ·cases h
 ·cases h
section
variable {ops l : List Oper} {K : Trace → St → Prop} {tr : Trace} {T : Nat → Value} {H H' : List Blk} {d : Tmp} {ty : TypeId} {ps : String} {af : Array Edge} {g : Option (Nat × Bool)}
theorem Z3w {ops : Array Oper} {o : Oper} {s : St} {t : TypeId} {nid : Nat} {v : Value} {b : Blk} (hg : Zcy nt s (Zc3 ops o) = some true) (hd : Zbb nt o.dst = true) (ho : o.op = .buildSlice t 0 #[]) (h : Zsi P s.heap t nid = some (v, b)) : Zaf P G nt ops o s { val := v, sets := [(nid, b)], foot := [nid] } :=
 Zaf.value hg hd fun s' ha => Zuq ho (by
  unfold Zsi at h ⊢
  rw [show Zb4 s'.heap nid = Zb4 s.heap nid from by unfold Zb4; rw [ha.heap nid (by simp), ha.len]]; exact h)
theorem Z4b {nid : Nat} (hg : gd nt T ops g = some true) (hd : Zbb nt (some d) = true) {t : TypeId} {v : Value} {blk : Blk} (h : Zsi P H t nid = some (v, blk)) (hH : Zer H nid blk = H') (k : R P G nt ops K l (tr ++ [(⟨some d, .buildSlice t 0 #[], ty, ps, af, g⟩, { val := v, sets := [(nid, blk)], foot := [nid] })]) (upd T d v) H') : R P G nt ops K (⟨some d, .buildSlice t 0 #[], ty, ps, af, g⟩ :: l) tr T H :=
 ⟨Zbf.new (Z3w (by rw [Zcq]; exact hg) hd rfl h) rfl hH k.h⟩
end
end Go.Flat
end
section
/- Loops of few rounds, round by round; rows of structs that hold slices. -/
namespace Go.Flat
variable {P : Program} {G : Glob} {nt n0 : Nat} {Q : Exit → St → Prop}
def UL (P : Program) (G : Glob) (nt n0 : Nat) (y : Code) (Q : Exit → St → Prop) : Nat → St → Prop
  | 0, _ => False
  | k + 1, s => C P G nt n0 y (Zd7 (UL P G nt n0 y Q k) Q) s
theorem Zlq {y : Code} {k : Nat} {s : St} (h : C P G nt n0 y (Zd7 (UL P G nt n0 y Q k) Q) s) : UL P G nt n0 y Q (k + 1) s := h
theorem Zv7 {next : St → Prop} {s : St} (h : next s) : X (Zd7 next Q) .normal s := Zak h
theorem Zvw {p : Nat → Prop} (h : ∃ n, p n) : ∃ n, p n ∧ ∀ m, p m → n ≤ m := by
  obtain ⟨n, hn⟩ := h
  induction n using Nat.strongRecOn with
  | _ n ih =>
    by_cases hx : ∃ m, m < n ∧ p m
    · obtain ⟨m, h1, h2⟩ := hx; exact ih m h1 h2
    · exact ⟨n, hn, fun m hm => by rcases Nat.lt_or_ge m n with h | h; exact absurd ⟨m, h, hm⟩ hx; exact h⟩
theorem Zni {y : Code} {s : St} (k : Nat) (h : UL P G nt n0 y Q k s) : C P G nt n0 (.loop y) Q s := by
 classical
 refine ⟨fun E m a w h0 hr => ?_⟩
 let ok : Act → World → Nat → Prop := fun a w j => ∃ s m, UL P G nt n0 y Q j s ∧ SRel G nt E m s a w
 refine wp_loop (fun a w => ∃ j, ok a w j) (fun a w => if hx : ∃ j, ok a w j then Classical.choose (Zvw hx) else 0) ⟨k, s, m, h, hr⟩ ?_
 intro a w hI
 have hsp := Classical.choose_spec (Zvw hI)
 generalize hk : Classical.choose (Zvw hI) = j at hsp
 obtain ⟨⟨s1, m1, h1, hr1⟩, hmin⟩ := hsp
 cases j with
 | zero => exact h1.elim
 | succ j =>
  refine wp_mono (C.h (show C P G nt n0 y (Zd7 (UL P G nt n0 y Q j) Q) s1 from h1) E m1 a w h0 hr1) ?_
  rintro e a' w' ⟨s2, m2, h2, hr2⟩
  cases e with
  | normal =>
   have hI' : ∃ j, ok a' w' j := ⟨j, s2, m2, h2, hr2⟩
   refine ⟨hI', ?_⟩
   simp only [dif_pos hI, dif_pos hI', hk]
   exact Nat.lt_succ_of_le ((Classical.choose_spec (Zvw hI')).2 j ⟨s2, m2, h2, hr2⟩)
  | _ => exact ⟨s2, m2, h2, hr2⟩
def mxW (n : Nat) (l : List Value) : Blk := { cells := l, sz := n, wr := true, fix := false, mv := true, pur := false }
def mxR (n : Nat) (l : List Value) : Blk := { cells := l, sz := n, wr := false, fix := false, mv := true, pur := false }
theorem Zzk {P : Program} {ts : Array TypeId} {t : TypeId} {x y : Int} (h : x ≤ y) : mmD P .min ts t [.int .i64 x, .int .i64 y] = some (.int .i64 x) := by
 show (if true = true then (Zw P (Builtin.min_ ts t [Value.int .i64 x, .int .i64 y].toArray)).bind (fun v => if Za0 v = true then some v else none) else none) = _
 rw [if_pos rfl]
 have : Zw P (Builtin.min_ ts t [Value.int .i64 x, .int .i64 y].toArray) = some (.int .i64 x) := by
  rw [show (some (Value.int .i64 x) : Option Value) = some (.int .i64 (if y < x then y else x)) by rw [if_neg (by omega)]]
  have e : Builtin.min_ ts t [Value.int .i64 x, .int .i64 y].toArray = pure (.int .i64 (if y < x then y else x)) := by simp [Builtin.min_, Builtin.min2]
  rw [e, Z2]
 simp [this, Za0, Za8]
theorem Zzl {P : Program} {ts : Array TypeId} {t : TypeId} {x y : Int} (h : ¬ x ≤ y) : mmD P .min ts t [.int .i64 x, .int .i64 y] = some (.int .i64 y) := by
 show (if true = true then (Zw P (Builtin.min_ ts t [Value.int .i64 x, .int .i64 y].toArray)).bind (fun v => if Za0 v = true then some v else none) else none) = _
 rw [if_pos rfl]
 have : Zw P (Builtin.min_ ts t [Value.int .i64 x, .int .i64 y].toArray) = some (.int .i64 y) := by
  rw [show (some (Value.int .i64 y) : Option Value) = some (.int .i64 (if y < x then y else x)) by rw [if_pos (by omega)]]
  have e : Builtin.min_ ts t [Value.int .i64 x, .int .i64 y].toArray = pure (.int .i64 (if y < x then y else x)) := by simp [Builtin.min_, Builtin.min2]
  rw [e, Z2]
 simp [this, Za0, Za8]
theorem Zia {P : Program} {G : Glob} {nt n0 : Nat} {Q : Exit → St → Prop} {x : Code} {T : Nat → Value} {H H' : List Blk} (hH : H = H') (h : C P G nt n0 x Q ⟨T, H'⟩) : C P G nt n0 x Q ⟨T, H⟩ := hH ▸ h
end Go.Flat
end
section
/- A walk's state with its blocks named anew: some dropped, some at other places. -/
namespace Go.Flat
def Zy0 (e : Emb) (T : Nat → Value) : Nat → List Value → Prop
  | _, [] => True
  | i, v :: l => (v = dead ∨ Zh8 e v (T i)) ∧ Zy0 e T (i + 1) l
theorem Zps {e : Emb} {T : Nat → Value} : ∀ {l : List Value} {i : Nat}, Zy0 e T i l → ∀ (j : Nat) (v : Value), l[j]? = some v → v = dead ∨ Zh8 e v (T (i + j))
 | [], _, _, j, v, h => by simp at h
 | x :: l, i, hk, 0, v, h => by simp at h; subst h; exact hk.1
 | x :: l, i, hk, j + 1, v, h => by
  have := Zps hk.2 j v (by simpa using h)
  rw [show i + (j + 1) = i + 1 + j by omega]; exact this
theorem Ztk {G : Glob} {nt n0 : Nat} (e : Emb) {T : Nat → Value} {H H' : List Blk} {l : List Value} (he : Zhl H e e H') (hd : Zib e H' = true) (hn : Zfx e H' = true) (hf : e.take n0 = idE n0) (hh : H'.take n0 = H.take n0) (ht : Zy0 e T 0 l) : Zbe G nt n0 ⟨T, H⟩ ⟨Tl l, H'⟩ := by
  intro E m a w h0 hr
  have hE : EmbOK H e H' := ⟨(Zeq he).1, (Zeq he).2, Zm5 (H := H) hd⟩
  have hnm : ∀ (i : Nat) (L : Blk), H'[i]? = some L → L.pur = true ∨ ∀ v, v ∈ L.cells → Zal (inE e) v = true := by
    intro i L hL
    simp only [Zfx, List.all_eq_true, Bool.or_eq_true] at hn
    exact hn L (List.mem_of_getElem? hL)
  refine ⟨mE m e H', hr.size, fun i => ?_, hr.defers, hr.heap.embed hE hnm, ⟨hr.frame.os, hr.frame.tape, hr.frame.output, hr.frame.size, hr.frame.block, ?_, ?_⟩⟩
  · show VR _ ((l[i]?).getD dead) _
    cases hl : l[i]? with
    | none => exact VR.dead
    | some v =>
      have := Zps ht i v hl
      rw [Nat.zero_add] at this
      rcases this with h1 | h1
      · rw [h1]; exact VR.dead
      · exact Znd hr.heap hE h1 (hr.tmps i)
  · intro b r h hw hlt
    rcases Zd5 hE h with ⟨id, sh, L, r0, B, h1, h2, h3, rfl, hB, hsz, hfx, hfs, hpu, hle, hwr, hc⟩ | ⟨L, h1, h2, rfl, hwr, hce, hsz⟩
    · unfold Zbl at hw hlt ⊢
      by_cases hL : L.wr = true
      · rw [if_pos hL] at hw hlt ⊢
        have h5 : r0.wr = true := hw
        exact hr.frame.reg id r0 h3 h5 hlt
      · rw [if_neg hL] at hw
        cases hw
    · have : L.wr = true := hw
      rw [hwr] at this; cases this
  · intro b r h hk
    have hb : b < n0 := by
      rcases Nat.lt_or_ge b n0 with h1 | h1
      · exact h1
      · rw [h0 b h1] at h; cases h
    have hm := hr.frame.keep b r h hk
    obtain ⟨B, hB, hs, h1, h2, h3, h4, h5⟩ := hr.heap.reg b r hm
    have he' : e[b]? = some (some (b, 0)) := by
      have := congrArg (fun q : Emb => q[b]?) hf
      simp only [List.getElem?_take, if_pos hb] at this
      rw [this]; exact Zie hb
    have hB' : H'[b]? = some B := by
      have := congrArg (fun q : List Blk => q[b]?) hh
      simp only [List.getElem?_take, if_pos hb] at this
      rw [this]; exact hB
    rw [Zfb he' hB', hm]
    show some (Zbl r 0 B) = some r
    congr 1
    unfold Zbl
    obtain ⟨g, lo, hi, len, sz, wr, fix, mv⟩ := r
    dsimp only at h1 h2 h3 h4 h5
    subst h1; subst h2; subst h3; subst h4; subst h5
    split
    · rfl
    · rename_i hw
      simp only [Bool.not_eq_true] at hw
      simp [hw]
end Go.Flat
end
namespace Go.Flat
open Go.Proofs
variable {G : Glob}
def Zd1 : Cod Int := ⟨fun z => [.int .i64 z], 1, fun _ => rfl, by decide⟩
def Zhj (c : Claim) : List Field := [⟨1, (Zo c.region).1⟩, ⟨2, (Zo c.epoch).1⟩, ⟨3, (Zo c.node).1⟩, ⟨4, (Zo c.size).1⟩, ⟨5, Zn (dgL c.root)⟩]
theorem Zru (c : Claim) (i : Nat) (hi : i < 4) : (Zhj c).take i ++ [⟨((i : Nat) : Int) + 1, (Zo ([c.region, c.epoch, c.node, c.size].getD i default)).1⟩] = (Zhj c).take (i + 1) := by
 rcases i with _ | _ | _ | _ | i
 ·rfl
 ·rfl
 ·rfl
 ·rfl
 ·omega
theorem Zwl {c : Claim} (hc : (1 ≤ c.region ∧ c.region ≤ 5) ∧ (1 ≤ c.epoch ∧ c.epoch ≤ 900000000) ∧ (1 ≤ c.node ∧ c.node ≤ 3) ∧ (0 ≤ c.size ∧ c.size ≤ 100000)) (i : Nat) (hi : i < 4) : -9223372036854775808 ≤ [c.region, c.epoch, c.node, c.size].getD i default ∧ [c.region, c.epoch, c.node, c.size].getD i default ≤ 9223372036854775807 := by
 rcases i with _ | _ | _ | _ | i
 ·show _ ≤ c.region ∧ c.region ≤ _; omega
 ·show _ ≤ c.epoch ∧ c.epoch ≤ _; omega
 ·show _ ≤ c.node ∧ c.node ≤ _; omega
 ·show _ ≤ c.size ∧ c.size ≤ _; omega
 ·omega
theorem Zwj (c : Claim) : (Zz (Zhj c) 0 []).2 = 0 := by
 have h1 := Zay c.region
 have h2 := Zay c.epoch
 have h3 := Zay c.node
 have h4 := Zay c.size
 have h5 : (Zn (dgL c.root)).size = 32 := by rw [Zb8, Zjl]
 have h := Zl7 [(Zo c.region).1, (Zo c.epoch).1, (Zo c.node).1, (Zo c.size).1, Zn (dgL c.root)] 0 [] (by simp) (by
  intro x hx
  simp only [List.mem_cons, List.not_mem_nil, or_false] at hx
  rcases hx with rfl | rfl | rfl | rfl | rfl <;> omega)
 show (Zz (Zf7 0 [(Zo c.region).1, (Zo c.epoch).1, (Zo c.node).1, (Zo c.size).1, Zn (dgL c.root)]) ((0 : Nat) : Int) []).2 = 0
 rw [h]
def Zb7 (c : Claim) : Bs × Int := if Zdb c then ((Zz (Zhj c) 0 []).1, 0) else ([], 60)
theorem Zsw (c : Claim) : (Zb7 c).1.length ≤ 100 := by
 unfold Zb7
 split
 ·have := Zgx (Zhj c) 0 []
  have h1 := Zay c.region
  have h2 := Zay c.epoch
  have h3 := Zay c.node
  have h4 := Zay c.size
  simp only [Zhj, Zmh, Zb8, Zjl, List.length_nil] at this
  show (Zz (Zhj c) 0 []).1.length ≤ 100
  simp only [Zhj]; omega
 ·exact Nat.zero_le _
theorem Zjn (ls : List Field) (n : Nat) (tag : Int) (x : ByteArray) (hn : ls.length = n) (hb : n ≤ 1000) : Z4 Tryd.prog G 84 [pt 0 0, Iv tag, .string x] [rfB (slv 1 0 n n), rwB cFd ls] (.tuple #[]) [rfB (slv 1 0 (n + 1) (n + 1)), rwB cFd (ls ++ [⟨tag, x⟩])] := by
  refine Zbd (fn := Tryd.f84) (nt := 16) rfl rfl rfl rfl ?_
  refine Zae 1 (H' := [rfB (slv 1 0 n n), rwB cFd ls, hole]) rfl ?_
  refine Zg (Zd (pt 0 0) (Zd (pt 0 0) (Zeo (p := pt 0 0) (v := pt 0 0) ?_)))
  refine Zaj (p := pt 0 0) (v := slv 1 0 n n) rfl rfl rfl rfl ?_
  refine Zd (Iv tag) (Zd (.string x) ?_)
  refine Zcz (vs := [(0, Iv tag), (1, .string x)]) (v := fdV (⟨tag, x⟩ : Field)) rfl rfl rfl (by kernel_rfl) ?_
  refine Zen (vs := [(0, fdV (⟨tag, x⟩ : Field))]) (v := slv 2 0 1 1) (blk := rwB cFd [(⟨tag, x⟩ : Field)]) (nid := 2) (H' := [rfB (slv 1 0 n n), rwB cFd ls, rwB cFd [(⟨tag, x⟩ : Field)]]) rfl rfl rfl (by kernel_rfl) (by kernel_rfl) ?_
  have hl2 : (ls ++ [(⟨tag, x⟩ : Field)]).length = n + 1 := by have := hn; have := (rfl : _ = 1); first | (rw [List.length_append]; omega) | (rw [List.length_append, List.length_take]; omega) | (simp; omega) | simp
  refine Zc4 (p := slv 1 0 n n) (q := slv 2 0 1 1) (v := slv 1 0 (n + 1) (n + 1)) (b := 1) (blk := rwB cFd (ls ++ [(⟨tag, x⟩ : Field)])) (H' := [rfB (dead), rwB cFd (ls ++ [(⟨tag, x⟩ : Field)]), rwB cFd [(⟨tag, x⟩ : Field)]]) rfl rfl rfl (.inl ⟨_, rfl⟩) rfl rfl (Zh6 cFd (by_ := 24) (k := 1) (n' := n + 1) (ms := [(⟨tag, x⟩ : Field)]) (fun _ => rfl) rfl rfl (by kernel_rfl) rfl rfl (by have := hn; omega) (by omega) (by decide) (by omega)) rfl (by kernel_rfl) ?_
  refine Zeo (p := pt 0 0) (v := pt 0 0) (Zaa (p := pt 0 0) (v := slv 1 0 (n + 1) (n + 1)) (b := 0) (blk := rfB (slv 1 0 (n + 1) (n + 1))) (H' := [rfB (slv 1 0 (n + 1) (n + 1)), rwB cFd (ls ++ [(⟨tag, x⟩ : Field)]), rwB cFd [(⟨tag, x⟩ : Field)]]) (Za (Zko ?_)))
  exact Zk (v := .tuple #[]) rfl rfl rfl (by simp [Za6, rfB, rwB, cFd, Zh0, Zee]) trivial
theorem Zk2 (ls : List Field) (n : Nat) (tag x : Int) (hn : ls.length = n) (hb : n ≤ 1000) (hl : -9223372036854775808 ≤ x) (hh : x ≤ 9223372036854775807) : Z4 Tryd.prog G 83 [pt 0 0, Iv tag, Iv x] [rfB (slv 1 0 n n), rwB cFd ls] (.tuple #[]) [rfB (slv 1 0 (n + 1) (n + 1)), rwB cFd (ls ++ [⟨tag, (Zo x).1⟩])] := by
 refine Zbd (fn := Tryd.f83) (nt := 17) rfl rfl rfl rfl ?_
 refine Ze (Zg (Zd (Iv x) ?_))
 refine Zq (Zpc (G := G) x (by omega) (by omega)) (vals := [Iv x]) (res' := .tuple #[.string ((Zo x).1), Iv ((Zo x).2)]) rfl rfl rfl rfl rfl (by kernel_rfl) ?_
 refine Zd (.tuple #[.string ((Zo x).1), Iv ((Zo x).2)]) (Z1 (vs := #[.string ((Zo x).1), Iv ((Zo x).2)]) (v := .string ((Zo x).1)) (Z1 (vs := #[.string ((Zo x).1), Iv ((Zo x).2)]) (v := Iv ((Zo x).2)) (Zc (.string ((Zo x).1)) (Zc (Iv ((Zo x).2)) (Za (Zb (Zg (Zd (pt 0 0) (Zd (Iv tag) (Zd (.string ((Zo x).1)) ?_))))))))))
 refine Zch (e := [some (0, 0), some (1, 0)]) (nid := 0) (Zjn (G := G) ls n tag ((Zo x).1) hn (by omega)) (vals := [pt 0 0, Iv tag, .string ((Zo x).1)]) (v := .tuple #[]) (H' := [rfB (slv 1 0 (n + 1) (n + 1)), rwB cFd (ls ++ [(⟨tag, (Zo x).1⟩ : Field)])]) rfl rfl rfl rfl rfl rfl ⟨⟨⟨rfl, rfl⟩, rfl, rfl, trivial⟩, ⟨(Zad rfl rfl rfl rfl), (Zad rfl rfl rfl rfl), trivial⟩, rfl, rfl, rfl, Nat.le_refl _⟩ (by kernel_rfl) rfl (by kernel_rfl) ?_
 refine Za (Zko ?_)
 exact Zk (v := .tuple #[]) rfl rfl rfl (by simp [Za6, rfB, rwB, cFd, Zh0, Zee]) trivial
theorem Zf4 (fs : List Field) (n c : Nat) (hn : fs.length = n) (hc : n ≤ c) (hb : n ≤ 1000) : Z4 Tryd.prog G 85 [slv 0 0 n c] [rwR cFd fs] (.tuple #[slv 1 0 (Zz fs 0 []).1.length (Zz fs 0 []).1.length, Iv (Zz fs 0 []).2]) [rwR cFd fs, Zao (Zz fs 0 []).1] := by
  refine Zbd (fn := Tryd.f85) (nt := 8) rfl rfl rfl rfl ?_
  refine Zae 1 (H' := [rwR cFd fs, hole]) rfl ?_
  refine Ze (Zg (Zc (.slice none 0 0) (Zc (Iv 0) (Za (Zb (Ze (Zg (Zd (slv 0 0 n c) ?_))))))))
  refine Z0 (e := [some (0, 0)]) (nid := 1) (Zxy (G := G) fs n c hn (by omega) (by omega)) (vals := [slv 0 0 n c]) (v := .tuple #[slv 1 0 ((Zz fs 0 []).1.length) ((Zz fs 0 []).1.length), Iv ((Zz fs 0 []).2)]) (H' := [rwR cFd fs, Zao ((Zz fs 0 []).1)]) rfl rfl rfl rfl rfl rfl rfl ⟨⟨⟨rfl, rfl, rfl, by first | omega | exact Nat.le_refl _, by first | omega | exact Nat.le_refl _⟩, trivial⟩, ⟨(Zaz rfl), trivial⟩, rfl, rfl, rfl⟩ (by kernel_rfl) (by kernel_rfl) ?_
  refine Z1 (vs := #[slv 1 0 ((Zz fs 0 []).1.length) ((Zz fs 0 []).1.length), Iv ((Zz fs 0 []).2)]) (v := slv 1 0 ((Zz fs 0 []).1.length) ((Zz fs 0 []).1.length)) (Z1 (vs := #[slv 1 0 ((Zz fs 0 []).1.length) ((Zz fs 0 []).1.length), Iv ((Zz fs 0 []).2)]) (v := Iv ((Zz fs 0 []).2)) (Zc (slv 1 0 ((Zz fs 0 []).1.length) ((Zz fs 0 []).1.length)) (Zc (Iv ((Zz fs 0 []).2)) (Za (Zb (Zr (Zs ?_)))))))
  exact Za9 [0, 1] (v := .tuple #[slv 1 0 ((Zz fs 0 []).1.length) ((Zz fs 0 []).1.length), Iv ((Zz fs 0 []).2)]) rfl (by kernel_rfl) rfl rfl (by decide) (by simp [Za6, rwR, Zao, cFd]) ⟨⟨rfl, rfl, rfl, by first | omega | exact Nat.le_refl _ | exact Nat.zero_le _ | (dsimp only; omega), by first | omega | exact Nat.le_refl _ | exact Nat.zero_le _ | (dsimp only; omega)⟩, rfl, trivial⟩
abbrev Y2 (c : Claim) : Blk := rwB Zd1 [c.region, c.epoch, c.node, c.size]
theorem Zre (c : Claim) : Z4 Tryd.prog G 87 [Zac c] [] (.tuple #[slv 0 0 (Zb7 c).1.length (Zb7 c).1.length, Iv (Zb7 c).2]) [Zao (Zb7 c).1] := by
  refine Zbd (fn := Tryd.f87) (nt := 41) rfl rfl rfl rfl ?_
  refine Zae 4 (H' := [hole, hole, hole, hole]) rfl ?_
  refine Ze (Zg (Zbs (v := Zac c) (b := bxB 36 (Zam c)) (nid := 0) (H' := [bxB 36 (Zam c), hole, hole, hole]) (Zc (.slice none 0 0) (Zc (Iv 0) (Za (Zb (Ze (Ze (Zg (Zm (p := pt 0 0) (v := Zac c) ?_))))))))))
  refine Zq (Zfv (G := G) c) (vals := [Zac c]) (res' := Iv (Zc9 c)) rfl rfl rfl rfl rfl rfl ?_
  refine Zc (Iv (Zc9 c)) (Za (Zb (Ze (Zg (Zd (Iv (Zc9 c)) ?_)))))
  by_cases h1 : (Zc9 c) ≠ 0
  refine Zl (vx := Iv (Zc9 c)) (vy := Iv 0) rfl rfl (.bool true) rfl rfl (Zfc (by omega)) ?_
  refine Za (Zb (Zy rfl (Ze (Zg (Zd (Iv (Zc9 c)) (Zc (.slice none 0 0) (Zc (Iv (Zc9 c)) (Za (Zb ?_)))))))))
  refine Zb6 (Zbe.nilTmp (i := 2) (b := 1) true 1 rfl (by decide) rfl) ?_
  refine Zr (Z3 (Zs ?_))
  rw [show Zb7 c = ([], (Zc9 c)) from if_neg (fun q => Zks (c := c) (by omega) q) |>.trans (by first | rfl | (unfold Zc9; rw [if_neg (Zks (c := c) (by omega))]))]
  exact Za9 [1] (v := .tuple #[slv 1 0 0 0, Iv (Zc9 c)]) rfl (by kernel_rfl) rfl rfl (by decide) (by simp [Za6, Zao]) ⟨⟨rfl, rfl, rfl, by first | omega | exact Nat.le_refl _ | exact Nat.zero_le _ | (dsimp only; omega), by first | omega | exact Nat.le_refl _ | exact Nat.zero_le _ | (dsimp only; omega)⟩, rfl, trivial⟩
  refine Zl (vx := Iv (Zc9 c)) (vy := Iv 0) rfl rfl (.bool false) rfl rfl (Ze3 (by omega)) ?_
  refine Za (Zb (Zt rfl (Zx (Zb (Ze (Zg (Zaw (b := rfB (.slice none 0 0)) (nid := 1) (H' := [bxB 36 (Zam c), rfB (.slice none 0 0), hole, hole]) (Za (Zb (Ze (Ze ?_)))))))))))
  have hc := Zi1 (c := c) (by omega)
  unfold Zdb at hc
  refine Zb6 (Zbe.nilCell (k := 1) (j := 0) (b := 2) true 2 rfl (by decide) rfl (by show 0 < 1; decide) rfl rfl) ?_
  refine Zg (Zi (b := 0) (o := 0) (n := 0) (o' := 0) (Zm (p := pt 0 0) (v := Iv c.region) (Zi (b := 0) (o := 0) (n := 1) (o' := 1) (Zm (p := pt 0 1) (v := Iv c.epoch) (Zi (b := 0) (o := 0) (n := 2) (o' := 2) (Zm (p := pt 0 2) (v := Iv c.node) (Zi (b := 0) (o := 0) (n := 3) (o' := 3) (Zm (p := pt 0 3) (v := Iv c.size) ?_))))))))
  refine Zen (vs := [(0, Iv c.region), (1, Iv c.epoch), (2, Iv c.node), (3, Iv c.size)]) (v := slv 3 0 4 4) (blk := rwB Zd1 [c.region, c.epoch, c.node, c.size]) (nid := 3) (H' := [bxB 36 (Zam c), rfB (slv 2 0 0 0), rwB cFd [], Y2 c]) rfl rfl rfl (by kernel_rfl) (by kernel_rfl) ?_
  refine Zba (p := slv 3 0 4 4) (v := Iv 4) (Zd (Iv 0) (Za (Zb (Z7 ?_))))
  refine Zb2 (fun x : Nat × (List Field) => match x with | (i, acc) => [Zac c, pt 0 0, .slice none 0 0, Iv 0, Iv (Zc9 c), pt 1 0, dead, dead, Zac c, Iv (Zc9 c), Iv (Zc9 c), .bool false, dead, pt 0 0, Iv c.region, pt 0 1, Iv c.epoch, pt 0 2, Iv c.node, pt 0 3, Iv c.size, slv 3 0 4 4, Iv 4, Iv (i : Nat)]) (fun x : Nat × (List Field) => match x with | (i, acc) => [bxB 36 (Zam c), rfB (slv 2 0 i i), rwB cFd acc, rwB Zd1 [c.region, c.epoch, c.node, c.size]]) (fun x : Nat × (List Field) => match x with | (i, acc) => acc = (Zhj c).take i ∧ i ≤ 4 ∧ acc.length = i) (fun x : Nat × (List Field) => match x with | (i, acc) => 4 - i) (0, []) ⟨rfl, by omega, rfl⟩ ?_ ?_
  · refine Zah (n := 4) rfl ?_ (by kernel_rfl) (by kernel_rfl)
    repeat (first | exact trivial | refine ⟨.inl rfl, ?_⟩ | refine ⟨.inr ⟨rfl, rfl⟩, ?_⟩ | refine ⟨.inr ⟨congrArg (Value.int .i64) (by first | omega | (dsimp only; omega)), rfl⟩, ?_⟩)
  rintro ⟨i, acc⟩ ⟨hR, hi, ha⟩
  dsimp only at *
  refine Zae 1 (H' := [bxB 36 (Zam c), rfB (slv 2 0 i i), rwB cFd acc, Y2 c, hole]) rfl ?_
  refine Ze (Zg ?_)
  by_cases h2 : (i : Nat) < 4
  refine Zl (vx := Iv (i : Nat)) (vy := Iv 4) rfl rfl (.bool true) rfl rfl (Zc0 (by omega)) ?_
  refine Za (Zb (Ze (Zy rfl (Zx (Zb (Ze (Z7 (Ze (Zg (Zd (Iv (i : Nat)) ?_))))))))))
  refine Zb1 (b := 3) (o := 0) (j := i) (m := 4) (c := 4) (sz := 1) (i := (i : Nat)) (k := .i64) rfl rfl rfl rfl rfl (by omega) (by omega) (by omega) ?_
  refine Zaj (p := pt 3 i) (v := Iv (([c.region, c.epoch, c.node, c.size]).getD i default)) rfl rfl rfl (Zk6 (m := 1) Zd1 (l := [c.region, c.epoch, c.node, c.size]) (i := i) rfl rfl rfl rfl (by have : ([c.region, c.epoch, c.node, c.size]).length = 4 := rfl; omega) (by omega) rfl rfl) ?_
  refine Zc (Iv (i : Nat)) (Zc (Iv (([c.region, c.epoch, c.node, c.size]).getD i default)) (Za (Zb ?_)))
  have hx := Zwl hc i (by omega)
  refine Zg (Zd (Iv (i : Nat)) ?_)
  refine Zl (vx := Iv (i : Nat)) (vy := Iv 1) rfl rfl (Iv ((i : Nat) + 1)) rfl rfl (Zan (by omega) (by omega) (by omega)) ?_
  refine Zd (Iv (([c.region, c.epoch, c.node, c.size]).getD i default)) ?_
  refine Zch (e := [some (1, 0), some (2, 0)]) (nid := 0) (Zk2 (G := G) acc i ((i : Nat) + 1) (([c.region, c.epoch, c.node, c.size]).getD i default) ha (by omega) (by omega) (by omega)) (vals := [pt 1 0, Iv ((i : Nat) + 1), Iv (([c.region, c.epoch, c.node, c.size]).getD i default)]) (v := .tuple #[]) (H' := [bxB 36 (Zam c), rfB (slv 2 0 (i + 1) (i + 1)), rwB cFd (acc ++ [(⟨(i : Nat) + 1, (Zo (([c.region, c.epoch, c.node, c.size]).getD i default)).1⟩ : Field)]), Y2 c, hole]) rfl rfl rfl rfl rfl rfl ⟨⟨⟨rfl, rfl⟩, rfl, rfl, trivial⟩, ⟨(Zad rfl rfl rfl rfl), (Zad rfl rfl rfl rfl), trivial⟩, rfl, rfl, rfl, Nat.le_refl _⟩ (by kernel_rfl) rfl (by kernel_rfl) ?_
  refine Za (Z8 (Zb (Zg ?_)))
  refine Zl (vx := Iv (i : Nat)) (vy := Iv 1) rfl rfl (Iv ((i : Nat) + 1)) rfl rfl (Zan (by omega) (by omega) (by omega)) ?_
  refine Zd (Iv ((i : Nat) + 1)) (Za ?_)
  refine Zak ⟨((i + 1), (acc ++ [(⟨(i : Nat) + 1, (Zo (([c.region, c.epoch, c.node, c.size]).getD i default)).1⟩ : Field)])), ⟨by dsimp only; rw [hR]; exact Zru c i (by omega), by dsimp only; omega, by rw [List.length_append, ha]; rfl⟩, by show 4 - (i + 1) < 4 - i; omega, ?_⟩
  refine Zah (n := 4) rfl ?_ (by kernel_rfl) (by kernel_rfl)
  repeat (first | exact trivial | refine ⟨.inl rfl, ?_⟩ | refine ⟨.inr ⟨rfl, rfl⟩, ?_⟩ | refine ⟨.inr ⟨congrArg (Value.int .i64) (by first | omega | (dsimp only; omega)), rfl⟩, ?_⟩)
  refine Zl (vx := Iv (i : Nat)) (vy := Iv 4) rfl rfl (.bool false) rfl rfl (Zct (by omega)) ?_
  refine Za (Zb (Ze (Zt rfl (Zbp (Zau (Za2 (Za1 rfl (Zb (Ze ?_)))))))))
  have hi4 : i = 4 := by omega
  refine Zg (Zi (b := 0) (o := 0) (n := 4) (o' := 4) ?_)
  refine Zcu (p := pt 0 4) (vl := none) (vh := none) (v := slv 0 4 32 32) rfl rfl rfl rfl rfl rfl ?_
  refine Zjd (p := slv 0 4 32 32) (v := .string (Zn (dgL c.root))) rfl rfl rfl (Zg3 (l := (dgL c.root)) rfl rfl rfl rfl (of_decide_eq_true (by kernel_rfl)) (by kernel_rfl)) ?_
  refine Zch (e := [some (1, 0), some (2, 0)]) (nid := 0) (Zjn (G := G) acc i 5 (Zn (dgL c.root)) ha (by omega)) (vals := [pt 1 0, Iv 5, .string (Zn (dgL c.root))]) (v := .tuple #[]) (H' := [bxB 36 (Zam c), rfB (slv 2 0 (i + 1) (i + 1)), rwB cFd (acc ++ [(⟨5, (Zn (dgL c.root))⟩ : Field)]), Y2 c, hole]) rfl rfl rfl rfl rfl rfl ⟨⟨⟨rfl, rfl⟩, rfl, rfl, trivial⟩, ⟨(Zad rfl rfl rfl rfl), (Zad rfl rfl rfl rfl), trivial⟩, rfl, rfl, rfl, Nat.le_refl _⟩ (by kernel_rfl) rfl (by kernel_rfl) ?_
  refine Za (Zb (Ze (Zg ?_)))
  refine Zaj (p := pt 1 0) (v := slv 2 0 (i + 1) (i + 1)) rfl rfl rfl rfl ?_
  refine Z0 (e := [some (2, 0)]) (nid := 4) (Zf4 (G := G) (acc ++ [(⟨5, (Zn (dgL c.root))⟩ : Field)]) (i + 1) (i + 1) (by rw [List.length_append, ha]; rfl) (by omega) (by omega)) (vals := [slv 2 0 (i + 1) (i + 1)]) (v := .tuple #[slv 4 0 ((Zz (acc ++ [(⟨5, (Zn (dgL c.root))⟩ : Field)]) 0 []).1.length) ((Zz (acc ++ [(⟨5, (Zn (dgL c.root))⟩ : Field)]) 0 []).1.length), Iv ((Zz (acc ++ [(⟨5, (Zn (dgL c.root))⟩ : Field)]) 0 []).2)]) (H' := [bxB 36 (Zam c), rfB (slv 2 0 (i + 1) (i + 1)), rwB cFd (acc ++ [(⟨5, (Zn (dgL c.root))⟩ : Field)]), Y2 c, Zao ((Zz (acc ++ [(⟨5, (Zn (dgL c.root))⟩ : Field)]) 0 []).1)]) rfl rfl rfl rfl rfl rfl rfl ⟨⟨⟨rfl, rfl, rfl, by first | omega | exact Nat.le_refl _, by first | omega | exact Nat.le_refl _⟩, trivial⟩, ⟨(Zbq rfl), trivial⟩, rfl, rfl, rfl⟩ (by kernel_rfl) (by kernel_rfl) ?_
  refine Z1 (vs := #[slv 4 0 ((Zz (acc ++ [(⟨5, (Zn (dgL c.root))⟩ : Field)]) 0 []).1.length) ((Zz (acc ++ [(⟨5, (Zn (dgL c.root))⟩ : Field)]) 0 []).1.length), Iv ((Zz (acc ++ [(⟨5, (Zn (dgL c.root))⟩ : Field)]) 0 []).2)]) (v := slv 4 0 ((Zz (acc ++ [(⟨5, (Zn (dgL c.root))⟩ : Field)]) 0 []).1.length) ((Zz (acc ++ [(⟨5, (Zn (dgL c.root))⟩ : Field)]) 0 []).1.length)) (Z1 (vs := #[slv 4 0 ((Zz (acc ++ [(⟨5, (Zn (dgL c.root))⟩ : Field)]) 0 []).1.length) ((Zz (acc ++ [(⟨5, (Zn (dgL c.root))⟩ : Field)]) 0 []).1.length), Iv ((Zz (acc ++ [(⟨5, (Zn (dgL c.root))⟩ : Field)]) 0 []).2)]) (v := Iv ((Zz (acc ++ [(⟨5, (Zn (dgL c.root))⟩ : Field)]) 0 []).2)) (Zc (slv 4 0 ((Zz (acc ++ [(⟨5, (Zn (dgL c.root))⟩ : Field)]) 0 []).1.length) ((Zz (acc ++ [(⟨5, (Zn (dgL c.root))⟩ : Field)]) 0 []).1.length)) (Zc (Iv ((Zz (acc ++ [(⟨5, (Zn (dgL c.root))⟩ : Field)]) 0 []).2)) (Za (Zb (Zr (Zs ?_)))))))
  have e : acc ++ [(⟨5, Zn (dgL c.root)⟩ : Field)] = Zhj c := by rw [hR, hi4]; rfl
  have ez := Zwj c
  rw [← e] at ez
  rw [show Zb7 c = ((Zz (acc ++ [(⟨5, Zn (dgL c.root)⟩ : Field)]) 0 []).1, (Zz (acc ++ [(⟨5, Zn (dgL c.root)⟩ : Field)]) 0 []).2) from by rw [ez, e]; exact if_pos (Zi1 (by omega))]
  exact Za9 [4] (v := .tuple #[slv 4 0 ((Zz (acc ++ [(⟨5, (Zn (dgL c.root))⟩ : Field)]) 0 []).1.length) ((Zz (acc ++ [(⟨5, (Zn (dgL c.root))⟩ : Field)]) 0 []).1.length), Iv ((Zz (acc ++ [(⟨5, (Zn (dgL c.root))⟩ : Field)]) 0 []).2)]) rfl (by kernel_rfl) rfl rfl (by decide) (by simp [Za6, Zao]) ⟨⟨rfl, rfl, rfl, by first | omega | exact Nat.le_refl _ | exact Nat.zero_le _ | (dsimp only; omega), by first | omega | exact Nat.le_refl _ | exact Nat.zero_le _ | (dsimp only; omega)⟩, rfl, trivial⟩
end Go.Flat
