/- Walks. -/
import Derived.Test.YtfjkagjbanhdlaaDoorFlatG
import Derived.ScopeJumps
import Derived.Lib.SliceRun
import Derived.Test.YtfjkagjbanhdlaaDoorK1
import Derived.Test.YtfjkagjbanhdlaaDoorH10
set_option linter.unusedVariables false
set_option linter.unusedSimpArgs false
set_option maxRecDepth 20000
section
/- Structs that hold slices: their values, boxes, arguments. -/
namespace Go.Flat
abbrev mxV (l : List Value) : Value := .agg l.toArray
def mxB (n : Nat) (l : List Value) : Blk := { cells := l, sz := n, wr := true, fix := true, mv := false, pur := false }
theorem Zbb {e : Emb} : ∀ {a a' b b' : List Value}, Znx e a a' → Znx e b b' → Znx e (a ++ b) (a' ++ b')
 | [], [], _, _, _, h => h
 | _ :: _, _ :: _, _, _, h1, h => ⟨h1.1, Zbb h1.2 h⟩
 | [], _ :: _, _, _, h1, _ => h1.elim
 | _ :: _, [], _, _, h1, _ => h1.elim
theorem Zyp {e : Emb} {v : Value} (h : Zbk v = true) : Zv9 e v v := by
  cases v
  case slice a n c => rcases a with _ | ⟨b, o, q⟩
                      · exact ⟨rfl, rfl⟩
                      · cases h
  case pointer a => rcases a with _ | ⟨b, o, q⟩
                    · exact ⟨rfl, rfl⟩
                    · cases h
  all_goals first | exact ⟨rfl, rfl⟩ | (cases h)
theorem Zb1 {e : Emb} : ∀ {a : List Value}, a.all Zbk = true → Znx e a a
 | [], _ => trivial
 | x :: l, h => by
  rw [List.all_cons, Bool.and_eq_true] at h
  exact ⟨Zyp h.1, Zb1 h.2⟩
theorem Zhr {e : Emb} {a b : List Value} (hp : Zbm (mxV a) = false) (h : Znx e a b) : Zj4 e (mxV a) (mxV b) := by
 unfold Zj4
 rw [if_neg (by rw [hp]; decide)]
 exact h
open Go.ChangeShapes Go.WideShapes Go.RowKit
section
variable {H : Type} {enc : TypeId × Value → H} {P : Program} {W : World} {α : Type} {c : Cod α} {ok : α → Prop}
theorem Zyw {t te : TypeId} (ho : Zao P te c.enc ok) (ht : P.underlying t = some (.slice te)) (hce : P.cellsOf te = c.n)
  {fuel : Nat} {cs : List Value} {x : DataW H × List MemPlace} (hf : DataW.trod enc P W 0 (fun _ => true) true fuel t cs = some x) :
  ∃ (v : Value) (xs : List α) (cap : Nat) (r : Reg), cs = [v] ∧ xs.length ≤ cap ∧ cap ≤ maxLen ∧ r.wr = false ∧ r.fix = false ∧ r.len = xs.length * c.n ∧ r.sz = c.n ∧ r.mv = true ∧ (∀ x, x ∈ xs → ok x) ∧ (∀ k v, (c.row xs)[k]? = some v → W.cell? ⟨r.g, r.lo + k, none⟩ = some v) ∧ ∀ (m : MapM) (b : Nat), m b = some r → VR m (slv b 0 xs.length cap) v := by
 have hn := c.pos
 rcases DataW.trod_slice ht hf with ⟨hcs, _⟩ | ⟨a, len, cap, elems, rest, k, _, hcs, _, _, hl, hmx, hlen, hel, hsp, _⟩
 ·subst hcs
  refine ⟨.slice none 0 0, [], 0, ⟨0, 0, 0, 0, c.n, false, false, true⟩, rfl, Nat.le_refl _, Nat.zero_le _, rfl, rfl, by simp, rfl, rfl, fun x hx => by simp at hx, fun k v hk => by simp [Cod.row] at hk, fun m b hb => ?_⟩
  exact ⟨_, none, 0, hb, rfl, Nat.le_refl _, Nat.le_refl _, fun h => by omega⟩
 ·subst hcs
  obtain ⟨xs, hxl, hxs⟩ := Zss (Q := fun i y => (∀ j, j < c.n → W.cell? ((a.add (i * c.n)).add j) = (c.enc y)[j]?) ∧ ok y) len fun i hi => by
   have e := hel i hi
   rw [hce, List.getElem?_eq_getElem (by omega)] at e
   exact Zkq ho e
  have hcell : ∀ k v, (c.row xs)[k]? = some v → W.cell? ⟨a.block, a.off + k, none⟩ = some v := by
   intro k v hk
   obtain ⟨y, h1, h2⟩ := c.row_get xs k v hk
   have h3 := (hxs _ _ h1).1 (k % c.n) (Nat.mod_lt _ hn)
   rw [h2, Zog, Nat.mul_comm, Nat.div_add_mod] at h3
   exact Zt0 h3
  have hspot : 0 < cap → a.spot = none := by
   intro hc
   have key : ∀ {fuel : Nat} {x : DataW H × List MemPlace}, (W.cells? 0 (a.add (0 * c.n)) c.n).bind (DataW.trod enc P W 0 (fun _ => true) true fuel te) = some x → a.spot = none := by
    intro fuel x h
    obtain ⟨y, h1, _⟩ := Zkq ho h
    have h2 := h1 0 hn
    rw [Zog, Nat.zero_mul, List.getElem?_eq_getElem (by rw [c.len]; exact hn)] at h2
    exact Zp6 h2
   rcases Nat.eq_zero_or_pos len with h0 | h0
   ·subst h0
    obtain ⟨s1, s2⟩ := hsp rfl
    have e := s2 0 (by omega)
    rw [hce, List.getElem?_eq_getElem (by omega)] at e
    exact key e
   ·have e := hel 0 h0
    rw [hce, List.getElem?_eq_getElem (by omega)] at e
    exact key e
  refine ⟨.slice (some a) len cap, xs, cap, ⟨a.block, a.off, a.off + cap * c.n, xs.length * c.n, c.n, false, false, true⟩, rfl, by omega, hmx, rfl, rfl, rfl, rfl, rfl, ?_, hcell, fun m b hb => ?_⟩
  ·intro x hx
   obtain ⟨i, hi⟩ := List.getElem?_of_mem hx
   exact (hxs i x hi).2
  ·rw [hxl]
   refine ⟨_, some a, cap, hb, rfl, hl, Nat.le_refl _, fun hc => ⟨?_, fun _ => ?_⟩⟩
   ·have := hspot hc
    obtain ⟨g, o, s⟩ := a
    simp only at this
    subst this
    rfl
   ·show a.off + 0 + cap * c.n ≤ a.off + cap * c.n
    omega
theorem HRel.addAt {G : Glob} {m : MapM} {σ : List Blk} (h : HRel G m σ W) (hm : ∀ b r, m b = some r → r.wr = false) {t te : TypeId} (c : Cod α) (ho : Zao P te c.enc ok) (ht : P.underlying t = some (.slice te)) (hce : P.cellsOf te = c.n) (hp : ∀ x, (c.enc x).all Zbk = true)
  {n off : Nat} {cs : List Value} {ys : List (DataW H × List MemPlace)} {i : Nat} {f : Go.Field} (hf : DataW.trod enc P W 0 (fun _ => true) true n f.type ((cs.drop f.offset).take (P.cellsOf f.type)) = ys[i]?) (hi : i < ys.length) (ht' : f.type = t) (hc : P.cellsOf t = 1) (hoff : f.offset = off) :
  ∃ (v : Value) (xs : List α) (cap : Nat) (m' : MapM), (cs.drop off).take 1 = [v] ∧ xs.length ≤ cap ∧ cap ≤ 9223372036854775807 ∧ (∀ x, x ∈ xs → ok x) ∧ HRel G m' (σ ++ [rwR c xs]) W ∧ (∀ b r, m' b = some r → r.wr = false) ∧ (∀ b r, m b = some r → m' b = some r) ∧ VR m' (slv σ.length 0 xs.length cap) v := by
 subst ht'; subst hoff
 rw [List.getElem?_eq_getElem hi, hc] at hf
 obtain ⟨v, xs, cap, r, hv, h1, h2, r1, r2, r3, r4, r5, h6, h3, h4⟩ := Zyw ho ht hce hf
 obtain ⟨g1, g2, g3⟩ := h.addRow hm (blk := rwR c xs) (r := r) rfl c.pos r1 r2 (by show _ = (c.row xs).length; rw [c.row_len, r3]) r4 r5 (fun i v hv => ⟨v, h3 i v hv, CR.of_pure (c.row_pure hp xs v (List.mem_of_getElem? hv))⟩) (fun _ v hv => c.row_pure hp xs v hv)
 exact ⟨v, xs, cap, _, hv, h1, h2, h6, g1, g2, g3, h4 _ _ (if_pos rfl)⟩
end
theorem L2.pure {m : MapM} {a : List Value} (h : a.all Zbk = true) : L2 (CR m) a a :=
 ⟨rfl, fun i x y hx hy => by
  rw [hx] at hy; injection hy with hy; subst hy
  exact CR.of_pure (List.all_eq_true.1 h x (List.mem_of_getElem? hx))⟩
theorem L2.cell {m : MapM} {b o n k : Nat} {v : Value} (h : VR m (slv b o n k) v) : L2 (CR m) [slv b o n k] [v] := L2.cons h L2.nil
theorem VR.mx {m : MapM} {l cs : List Value} (h : L2 (CR m) l cs) : VR m (mxV l) (.agg cs.toArray) := ⟨cs.toArray, rfl, h⟩
theorem Zpr {P : Program} {W : World} {base : Nat} {t : TypeId} {v : Value} (hagg : ∃ fs, P.underlying t = some (.struct fs)) (hv : Value.okWide P W .any base t v) : ∃ cs : List Value, v = .agg cs.toArray := by
 unfold Value.okWide at hv
 obtain ⟨fs, e⟩ := hagg
 rw [e] at hv; obtain ⟨cs, h1, _⟩ := hv; exact ⟨cs.toList, by rw [h1]⟩
end Go.Flat
end
section
/- A scope in which the run jumps ahead to one label. -/
namespace Go.Flat
variable {P : Program} {G : Glob} {nt n0 : Nat} {Q : Exit → St → Prop} {s : St} {x : Code}
def Zwx (Q : Exit → St → Prop) : Exit → St → Prop
  | .goto _, _ => False
  | e, s => Q e s
def Z1s (P : Program) (G : Glob) (nt n0 l : Nat) (rest : Code) (Q : Exit → St → Prop) : Exit → St → Prop
  | .goto l', s => l' = l ∧ C P G nt n0 rest (Zwx Q) s
  | e, s => Q e s
theorem Zsj {l : Nat} {rest : Code} (hf : findLabel x l = some rest) (h : C P G nt n0 x (Z1s P G nt n0 l rest Q) s) : C P G nt n0 (.scope x) Q s := by
 refine ⟨fun E m a w h0 hr => ?_⟩
 refine wp_scope_jumps l (fun a w => ∃ s m, C P G nt n0 rest (Zwx Q) s ∧ SRel G nt E m s a w) (fun _ _ => 0) hf (wp_mono (h.h E m a w h0 hr) ?_) ?_
 ·rintro e a' w' ⟨s', m', h1, h2⟩
  cases e with
  | goto l' => exact ⟨h1.1, s', m', h1.2, h2⟩
  | _ => exact ⟨s', m', h1, h2⟩
 ·rintro a w ⟨s', m', h1, h2⟩
  refine wp_mono (h1.h E m' a w h0 h2) ?_
  rintro e a' w' ⟨s2, m2, h3, h4⟩
  cases e with
  | goto l' => exact h3.elim
  | _ => exact ⟨s2, m2, h3, h4⟩
theorem Zin {l : Nat} {rest : Code} (h : X Q .ret s) : X (Z1s P G nt n0 l rest Q) .ret s := ⟨h.h⟩
end Go.Flat
end
section
/- Is a slice nil? A split that the code itself makes; parts of own rows that are appended to. -/
namespace Go.Flat
variable {P : Program} {G : Glob} {nt n0 : Nat} {Q : Exit → St → Prop}
def Z6w (P : Program) (σ : List Blk) (t : TypeId) (nid : Nat) : Option (Value × Blk) :=
  match Zdc P t with
  | some (sz, _, _) => if 0 < sz ∧ Zd3 σ nid = true then some (.slice (some ⟨nid, 0, none⟩) 0 0, Zex true false sz []) else none
  | none => none
section
variable {ops l : List Oper} {K : Trace → St → Prop} {tr : Trace} {T : Nat → Value} {H H' : List Blk} {d : Tmp} {ty : TypeId} {ps : String} {af : Array Edge} {g : Option (Nat × Bool)}
end
end Go.Flat
end
section
/- Loops of few rounds, round by round; rows of structs that hold slices. -/
namespace Go.Flat
variable {P : Program} {G : Glob} {nt n0 : Nat} {Q : Exit → St → Prop}
def UL (P : Program) (G : Glob) (nt n0 : Nat) (y : Code) (Q : Exit → St → Prop) : Nat → St → Prop
  | 0, _ => False
  | k + 1, s => C P G nt n0 y (Zd8 (UL P G nt n0 y Q k) Q) s
theorem Zfy {y : Code} {k : Nat} {s : St} (h : C P G nt n0 y (Zd8 (UL P G nt n0 y Q k) Q) s) : UL P G nt n0 y Q (k + 1) s := h
theorem Zjc {next : St → Prop} {s : St} (h : next s) : X (Zd8 next Q) .normal s := Zas h
theorem Zxo {p : Nat → Prop} (h : ∃ n, p n) : ∃ n, p n ∧ ∀ m, p m → n ≤ m := by
  obtain ⟨n, hn⟩ := h
  induction n using Nat.strongRecOn with
  | _ n ih =>
    by_cases hx : ∃ m, m < n ∧ p m
    · obtain ⟨m, h1, h2⟩ := hx; exact ih m h1 h2
    · exact ⟨n, hn, fun m hm => by rcases Nat.lt_or_ge m n with h | h; exact absurd ⟨m, h, hm⟩ hx; exact h⟩
theorem Zlq {y : Code} {s : St} (k : Nat) (h : UL P G nt n0 y Q k s) : C P G nt n0 (.loop y) Q s := by
 classical
 refine ⟨fun E m a w h0 hr => ?_⟩
 let ok : Act → World → Nat → Prop := fun a w j => ∃ s m, UL P G nt n0 y Q j s ∧ SRel G nt E m s a w
 refine wp_loop (fun a w => ∃ j, ok a w j) (fun a w => if hx : ∃ j, ok a w j then Classical.choose (Zxo hx) else 0) ⟨k, s, m, h, hr⟩ ?_
 intro a w hI
 have hsp := Classical.choose_spec (Zxo hI)
 generalize hk : Classical.choose (Zxo hI) = j at hsp
 obtain ⟨⟨s1, m1, h1, hr1⟩, hmin⟩ := hsp
 cases j with
 | zero => exact h1.elim
 | succ j =>
  refine wp_mono (C.h (show C P G nt n0 y (Zd8 (UL P G nt n0 y Q j) Q) s1 from h1) E m1 a w h0 hr1) ?_
  rintro e a' w' ⟨s2, m2, h2, hr2⟩
  cases e with
  | normal =>
   have hI' : ∃ j, ok a' w' j := ⟨j, s2, m2, h2, hr2⟩
   refine ⟨hI', ?_⟩
   simp only [dif_pos hI, dif_pos hI', hk]
   exact Nat.lt_succ_of_le ((Classical.choose_spec (Zxo hI')).2 j ⟨s2, m2, h2, hr2⟩)
  | _ => exact ⟨s2, m2, h2, hr2⟩
def mxW (n : Nat) (l : List Value) : Blk := { cells := l, sz := n, wr := true, fix := false, mv := true, pur := false }
def mxR (n : Nat) (l : List Value) : Blk := { cells := l, sz := n, wr := false, fix := false, mv := true, pur := false }
end Go.Flat
end
namespace Go.Flat
open Go.Proofs
variable {G : Glob}
theorem Zjy (kk : Nat → BitVec 32) (l : List Item) (k i : Int) : (Zw kk l k i).1.length ≤ 1000 := by
 unfold Zw
 split
 ·split
  ·have := Zjw kk 11 (Zai kk l k).1 i.toNat (Nat.le_trans (Zpx kk l k) (by decide))
   show (Zc1 kk (Zai kk l k).1 i.toNat).length ≤ 1000
   omega
  ·exact Nat.zero_le _
 ·exact Nat.zero_le _
structure PStep where
  index : Int
  item : Item
  proof : List D
  head : Signed
def Zeu (kk : Nat → BitVec 32) (l : List Item) (i : Int) (s : Signed) : PStep × Int :=
  if (Zaf kk l s.head.size).2 = 0 ∧ Zj3 s ∧ Za6 32 (Zaf kk l s.head.size).1 s.head.root = true then
    (if (Zw kk l s.head.size i).2 = 0 then (⟨i, l.getD i.toNat default, (Zw kk l s.head.size i).1, s⟩, 0) else ((⟨0, (⟨0, (⟨0, 0, 0, ⟨#[]⟩, (⟨(⟨0, 0, 0, dz, 0⟩ : Head), 0, dz⟩ : Signed), (⟨0, 0, 0, 0, dz⟩ : Claim)⟩ : Entry)⟩ : Item), [], (⟨(⟨0, 0, 0, dz, 0⟩ : Head), 0, dz⟩ : Signed)⟩ : PStep), 131)) else ((⟨0, (⟨0, (⟨0, 0, 0, ⟨#[]⟩, (⟨(⟨0, 0, 0, dz, 0⟩ : Head), 0, dz⟩ : Signed), (⟨0, 0, 0, 0, dz⟩ : Claim)⟩ : Entry)⟩ : Item), [], (⟨(⟨0, 0, 0, dz, 0⟩ : Head), 0, dz⟩ : Signed)⟩ : PStep), 130)
theorem Zil {s : Signed} (h : (Zak s).2 = 0) : Zj3 s := by
 by_cases q : Zj3 s
 ·exact q
 ·rw [Zrg q] at h; exact absurd h (by decide)
theorem Zkf {s : Signed} (h : ¬ (Zak s).2 = 0) : ¬ Zj3 s := fun q => h (by rw [Zrj q])
section
variable {kk : Nat → BitVec 32} {l : List Item} {i : Int} {s : Signed}
theorem Z1k (h1 : (Zaf kk l s.head.size).2 = 0) (h2 : Zj3 s) (h3 : Za6 32 (Zaf kk l s.head.size).1 s.head.root = true) (h4 : (Zw kk l s.head.size i).2 = 0) : Zeu kk l i s = (⟨i, l.getD i.toNat default, (Zw kk l s.head.size i).1, s⟩, 0) := by
 unfold Zeu; rw [if_pos ⟨h1, h2, h3⟩, if_pos h4]
theorem Zpe (h1 : (Zaf kk l s.head.size).2 = 0) (h2 : Zj3 s) (h3 : Za6 32 (Zaf kk l s.head.size).1 s.head.root = true) (h4 : ¬ (Zw kk l s.head.size i).2 = 0) : Zeu kk l i s = ((⟨0, (⟨0, (⟨0, 0, 0, ⟨#[]⟩, (⟨(⟨0, 0, 0, dz, 0⟩ : Head), 0, dz⟩ : Signed), (⟨0, 0, 0, 0, dz⟩ : Claim)⟩ : Entry)⟩ : Item), [], (⟨(⟨0, 0, 0, dz, 0⟩ : Head), 0, dz⟩ : Signed)⟩ : PStep), 131) := by
 unfold Zeu; rw [if_pos ⟨h1, h2, h3⟩, if_neg h4]
theorem Zpq (h : ¬ (Zaf kk l s.head.size).2 = 0 ∨ ¬ Zj3 s ∨ Za6 32 (Zaf kk l s.head.size).1 s.head.root = false) : Zeu kk l i s = ((⟨0, (⟨0, (⟨0, 0, 0, ⟨#[]⟩, (⟨(⟨0, 0, 0, dz, 0⟩ : Head), 0, dz⟩ : Signed), (⟨0, 0, 0, 0, dz⟩ : Claim)⟩ : Entry)⟩ : Item), [], (⟨(⟨0, 0, 0, dz, 0⟩ : Head), 0, dz⟩ : Signed)⟩ : PStep), 130) := by
  unfold Zeu; rw [if_neg (fun q => by rcases h with h | h | h; exact h q.1; exact h q.2.1; rw [q.2.2] at h; cases h)]
theorem Z2z {k i : Int} (h : (Zw kk l k i).2 = 0) : 0 ≤ i ∧ i < l.length := by
 by_cases h0 : (Zai kk l k).2 = 0
 ·have hlen : (Zai kk l k).1.length ≤ l.length := by
   unfold Zai at h0 ⊢
   split at h0
   ·rename_i g
    split at h0
    ·rename_i g2
     rw [if_pos g, if_pos g2]; show (acL kk l k.toNat).length ≤ _; rw [Zfe]; omega
    ·exact absurd h0 (by decide)
   ·exact absurd h0 (by decide)
  by_cases h1 : 0 ≤ i ∧ i < (Zai kk l k).1.length
  ·omega
  ·rw [show Zw kk l k i = ([], 20) from by unfold Zw; rw [if_pos h0, if_neg h1]] at h
   exact absurd h (by decide)
 ·rw [show Zw kk l k i = ([], (Zai kk l k).2) from by unfold Zw; rw [if_neg h0]] at h
  exact absurd h h0
end
def Zag (kk : Nat → BitVec 32) (master : D) (x : PStep) : Int :=
  if Zb6 kk master x.head = 0 then (if (Z1 kk x.item).2 = 0 then Zdk kk x.head.head.root (Z1 kk x.item).1 x.head.head.size x.index x.proof else 130) else Zb6 kk master x.head
section
variable {kk : Nat → BitVec 32} {master : D} {x : PStep}
theorem Z2o (h : ¬ Zb6 kk master x.head = 0) : Zag kk master x = Zb6 kk master x.head := if_neg h
theorem Z27 (h : Zb6 kk master x.head = 0) (h1 : ¬ (Z1 kk x.item).2 = 0) : Zag kk master x = 130 := by unfold Zag; rw [if_pos h, if_neg h1]
theorem Zw0 (h : Zb6 kk master x.head = 0) (h1 : (Z1 kk x.item).2 = 0) : Zag kk master x = Zdk kk x.head.head.root (Z1 kk x.item).1 x.head.head.size x.index x.proof := by unfold Zag; rw [if_pos h, if_pos h1]
end
theorem Z2l (kk : Nat → BitVec 32) (hG : G 0 = some (Zac w32 64 kk)) (hG1 : G 2 = some (Zac u8N 64 dbF)) (l : List Item) (n c : Nat) (hn : l.length = n) (hc : n ≤ c) (hb : n ≤ 1048576) (i : Int) (s : Signed) : Zae Tryd.prog G 11 [slv 0 0 n c, Iv i, Z0 s] [rwR Zy l] (.tuple #[mxV ([Iv ((Zeu kk l i s).1.index)] ++ (Zh ((Zeu kk l i s).1.item) ++ ([slv 1 0 ((Zeu kk l i s).1.proof.length) ((Zeu kk l i s).1.proof.length)] ++ (Zd ((Zeu kk l i s).1.head))))), Iv (Zeu kk l i s).2]) [rwR Zy l, dsB (Zeu kk l i s).1.proof] := by
  refine Zbj (fn := Tryd.f11) (nt := 60) rfl rfl rfl rfl ?_
  refine Zaj 6 (H' := [rwR Zy l, hole, hole, hole, hole, hole, hole]) rfl ?_
  refine Zf (Zg ?_)
  refine Zbr (v := Z0 s) (b := bxB 69 (Zd s)) (nid := 1) (H' := [rwR Zy l, bxB 69 (Zd s), hole, hole, hole, hole, hole]) rfl rfl rfl (by kernel_rfl) (by kernel_rfl) ?_
  refine Z7 (b := mxB 181 ([Iv 0] ++ (Zh (⟨0, (⟨0, 0, 0, ⟨#[]⟩, (⟨(⟨0, 0, 0, dz, 0⟩ : Head), 0, dz⟩ : Signed), (⟨0, 0, 0, 0, dz⟩ : Claim)⟩ : Entry)⟩ : Item) ++ ([.slice none 0 0] ++ (Zd (⟨(⟨0, 0, 0, dz, 0⟩ : Head), 0, dz⟩ : Signed)))))) (nid := 2) (H' := [rwR Zy l, bxB 69 (Zd s), mxB 181 ([Iv 0] ++ (Zh (⟨0, (⟨0, 0, 0, ⟨#[]⟩, (⟨(⟨0, 0, 0, dz, 0⟩ : Head), 0, dz⟩ : Signed), (⟨0, 0, 0, 0, dz⟩ : Claim)⟩ : Entry)⟩ : Item) ++ ([.slice none 0 0] ++ (Zd (⟨(⟨0, 0, 0, dz, 0⟩ : Head), 0, dz⟩ : Signed))))), hole, hole, hole, hole]) rfl rfl (by kernel_rfl) (by kernel_rfl) ?_
  refine Zc rfl rfl (Iv 0) rfl (Za (Zb (Zf (Zg (Ze rfl rfl (slv 0 0 n c) rfl ?_)))))
  refine Zi (b := 1) (o := 0) (n := 0) (o' := 0) rfl rfl rfl rfl rfl ?_
  refine Zi (b := 1) (o := 0) (n := 2) (o' := 2) rfl rfl rfl rfl rfl ?_
  refine Zl (p := pt 1 2) (v := Iv s.head.size) rfl rfl rfl (by kernel_rfl) ?_
  refine Z4 (e := [some (0, 0)]) (nid := 0) (Zul (G := G) kk hG hG1 l n c hn (by omega) (by omega) s.head.size) (vals := [slv 0 0 n c, Iv s.head.size]) (v := .tuple #[dgV ((Zaf kk l s.head.size).1), Iv ((Zaf kk l s.head.size).2)]) (H' := [rwR Zy l, bxB 69 (Zd s), mxB 181 ([Iv 0] ++ (Zh (⟨0, (⟨0, 0, 0, ⟨#[]⟩, (⟨(⟨0, 0, 0, dz, 0⟩ : Head), 0, dz⟩ : Signed), (⟨0, 0, 0, 0, dz⟩ : Claim)⟩ : Entry)⟩ : Item) ++ ([.slice none 0 0] ++ (Zd (⟨(⟨0, 0, 0, dz, 0⟩ : Head), 0, dz⟩ : Signed))))), hole, hole, hole, hole]) rfl rfl rfl rfl rfl rfl rfl ⟨⟨⟨rfl, rfl, rfl, by first | omega | exact Nat.le_refl _, by first | omega | exact Nat.le_refl _⟩, rfl, trivial⟩, ⟨(Zd2 rfl), trivial⟩, rfl, rfl, rfl⟩ (by kernel_rfl) (by kernel_rfl) ?_
  refine Ze rfl rfl (.tuple #[dgV ((Zaf kk l s.head.size).1), Iv ((Zaf kk l s.head.size).2)]) rfl (Zp (vs := #[dgV ((Zaf kk l s.head.size).1), Iv ((Zaf kk l s.head.size).2)]) (v := dgV ((Zaf kk l s.head.size).1)) rfl rfl rfl rfl (Zp (vs := #[dgV ((Zaf kk l s.head.size).1), Iv ((Zaf kk l s.head.size).2)]) (v := Iv ((Zaf kk l s.head.size).2)) rfl rfl rfl rfl ?_))
  refine Z7 (b := dgB dz) (nid := 3) (H' := [rwR Zy l, bxB 69 (Zd s), mxB 181 ([Iv 0] ++ (Zh (⟨0, (⟨0, 0, 0, ⟨#[]⟩, (⟨(⟨0, 0, 0, dz, 0⟩ : Head), 0, dz⟩ : Signed), (⟨0, 0, 0, 0, dz⟩ : Claim)⟩ : Entry)⟩ : Item) ++ ([.slice none 0 0] ++ (Zd (⟨(⟨0, 0, 0, dz, 0⟩ : Head), 0, dz⟩ : Signed))))), dgB dz, hole, hole, hole]) rfl rfl (by kernel_rfl) (by kernel_rfl) ?_
  refine Zx (p := pt 3 0) (v := dgV ((Zaf kk l s.head.size).1)) (b := 3) (blk := dgB ((Zaf kk l s.head.size).1)) (H' := [rwR Zy l, bxB 69 (Zd s), mxB 181 ([Iv 0] ++ (Zh (⟨0, (⟨0, 0, 0, ⟨#[]⟩, (⟨(⟨0, 0, 0, dz, 0⟩ : Head), 0, dz⟩ : Signed), (⟨0, 0, 0, 0, dz⟩ : Claim)⟩ : Entry)⟩ : Item) ++ ([.slice none 0 0] ++ (Zd (⟨(⟨0, 0, 0, dz, 0⟩ : Head), 0, dz⟩ : Signed))))), dgB ((Zaf kk l s.head.size).1), hole, hole, hole]) rfl rfl rfl (by kernel_rfl) (by kernel_rfl) ?_
  refine Zc rfl rfl (Iv ((Zaf kk l s.head.size).2)) rfl (Za (Zb (Zf (Zg ?_))))
  refine Zl (p := pt 1 0) (v := Z0 s) rfl rfl rfl (by kernel_rfl) ?_
  refine Z4 (e := []) (nid := 4) (Zmv (G := G) s) (vals := [Z0 s]) (v := .tuple #[slv 4 0 ((Zak s).1.length) ((Zak s).1.length), Iv ((Zak s).2)]) (H' := [rwR Zy l, bxB 69 (Zd s), mxB 181 ([Iv 0] ++ (Zh (⟨0, (⟨0, 0, 0, ⟨#[]⟩, (⟨(⟨0, 0, 0, dz, 0⟩ : Head), 0, dz⟩ : Signed), (⟨0, 0, 0, 0, dz⟩ : Claim)⟩ : Entry)⟩ : Item) ++ ([.slice none 0 0] ++ (Zd (⟨(⟨0, 0, 0, dz, 0⟩ : Head), 0, dz⟩ : Signed))))), dgB ((Zaf kk l s.head.size).1), Zaq ((Zak s).1), hole, hole]) rfl rfl rfl rfl rfl rfl rfl ⟨⟨rfl, trivial⟩, trivial, rfl, rfl, rfl⟩ (by kernel_rfl) (by kernel_rfl) ?_
  refine Ze rfl rfl (.tuple #[slv 4 0 ((Zak s).1.length) ((Zak s).1.length), Iv ((Zak s).2)]) rfl (Zp (vs := #[slv 4 0 ((Zak s).1.length) ((Zak s).1.length), Iv ((Zak s).2)]) (v := slv 4 0 ((Zak s).1.length) ((Zak s).1.length)) rfl rfl rfl rfl (Zp (vs := #[slv 4 0 ((Zak s).1.length) ((Zak s).1.length), Iv ((Zak s).2)]) (v := Iv ((Zak s).2)) rfl rfl rfl rfl (Zc rfl rfl (slv 4 0 ((Zak s).1.length) ((Zak s).1.length)) rfl (Zc rfl rfl (Iv ((Zak s).2)) rfl (Za (Zb (Zf (Zf (Zg (Ze rfl rfl (Iv ((Zaf kk l s.head.size).2)) rfl ?_))))))))))
  by_cases h1 : ((Zaf kk l s.head.size).2) ≠ 0
  refine Zk (vx := Iv ((Zaf kk l s.head.size).2)) (vy := Iv 0) rfl rfl (.bool true) rfl rfl (Zdg (by omega)) ?_
  refine Ze rfl rfl (.bool true) rfl (Zj rfl rfl (Zj rfl rfl (Zo rfl rfl (.bool true) rfl (Ze rfl rfl (.bool true) rfl (Zj rfl rfl (Zj rfl rfl (Zj rfl rfl (Zj rfl rfl (Zj rfl rfl (Zo rfl rfl (.bool true) rfl (Za (Zb (Zz rfl (Zf (Zg ?_)))))))))))))))
  refine Zbn (vs := []) (v := mxV ([Iv 0] ++ (Zh (⟨0, (⟨0, 0, 0, ⟨#[]⟩, (⟨(⟨0, 0, 0, dz, 0⟩ : Head), 0, dz⟩ : Signed), (⟨0, 0, 0, 0, dz⟩ : Claim)⟩ : Entry)⟩ : Item) ++ ([.slice none 0 0] ++ (Zd (⟨(⟨0, 0, 0, dz, 0⟩ : Head), 0, dz⟩ : Signed)))))) rfl rfl rfl (by kernel_rfl) ?_
  refine Zx (p := pt 2 0) (v := mxV ([Iv 0] ++ (Zh (⟨0, (⟨0, 0, 0, ⟨#[]⟩, (⟨(⟨0, 0, 0, dz, 0⟩ : Head), 0, dz⟩ : Signed), (⟨0, 0, 0, 0, dz⟩ : Claim)⟩ : Entry)⟩ : Item) ++ ([.slice none 0 0] ++ (Zd (⟨(⟨0, 0, 0, dz, 0⟩ : Head), 0, dz⟩ : Signed)))))) (b := 2) (blk := mxB 181 ([Iv 0] ++ (Zh (⟨0, (⟨0, 0, 0, ⟨#[]⟩, (⟨(⟨0, 0, 0, dz, 0⟩ : Head), 0, dz⟩ : Signed), (⟨0, 0, 0, 0, dz⟩ : Claim)⟩ : Entry)⟩ : Item) ++ ([.slice none 0 0] ++ (Zd (⟨(⟨0, 0, 0, dz, 0⟩ : Head), 0, dz⟩ : Signed)))))) (H' := [rwR Zy l, bxB 69 (Zd s), mxB 181 ([Iv 0] ++ (Zh (⟨0, (⟨0, 0, 0, ⟨#[]⟩, (⟨(⟨0, 0, 0, dz, 0⟩ : Head), 0, dz⟩ : Signed), (⟨0, 0, 0, 0, dz⟩ : Claim)⟩ : Entry)⟩ : Item) ++ ([.slice none 0 0] ++ (Zd (⟨(⟨0, 0, 0, dz, 0⟩ : Head), 0, dz⟩ : Signed))))), dgB ((Zaf kk l s.head.size).1), Zaq ((Zak s).1), hole, hole]) rfl rfl rfl (by kernel_rfl) (by kernel_rfl) ?_
  refine Zc rfl rfl (Iv 130) rfl (Za (Zb ?_))
  refine Zb4 (Zbz.nilCell (k := 2) (j := 111) (b := 5) true 32 rfl (by decide) rfl (by show 0 < 181; decide) rfl rfl) ?_
  refine Zt (Z3 (Zu ?_))
  rw [show Zeu kk l i s = ((⟨0, (⟨0, (⟨0, 0, 0, ⟨#[]⟩, (⟨(⟨0, 0, 0, dz, 0⟩ : Head), 0, dz⟩ : Signed), (⟨0, 0, 0, 0, dz⟩ : Claim)⟩ : Entry)⟩ : Item), [], (⟨(⟨0, 0, 0, dz, 0⟩ : Head), 0, dz⟩ : Signed)⟩ : PStep), 130) from by first | exact Zpq (by first | exact .inl (by omega) | exact .inr (.inl (Zkf (by omega))) | exact .inr (.inr (by assumption))) | exact Zpe (by omega) (Zil (by omega)) (by assumption) (by omega)]
  exact Za7 [0, 5] (v := .tuple #[mxV ([Iv 0] ++ (Zh (⟨0, (⟨0, 0, 0, ⟨#[]⟩, (⟨(⟨0, 0, 0, dz, 0⟩ : Head), 0, dz⟩ : Signed), (⟨0, 0, 0, 0, dz⟩ : Claim)⟩ : Entry)⟩ : Item) ++ ([slv 5 0 0 0] ++ (Zd (⟨(⟨0, 0, 0, dz, 0⟩ : Head), 0, dz⟩ : Signed))))), Iv 130]) rfl (by kernel_rfl) rfl rfl (by decide) (by simp [Za9, rwR, dsB, Zy]) ⟨(Zhr (by kernel_rfl) (Zbb ⟨⟨rfl, rfl⟩, trivial⟩ (Zbb (Zb1 (by kernel_rfl)) (Zbb ⟨⟨rfl, rfl, rfl, by first | omega | exact Nat.le_refl _ | exact Nat.zero_le _ | (dsimp only; omega), by first | omega | exact Nat.le_refl _ | exact Nat.zero_le _ | (dsimp only; omega)⟩, trivial⟩ (Zb1 (by kernel_rfl)))))), rfl, trivial⟩
  refine Zk (vx := Iv ((Zaf kk l s.head.size).2)) (vy := Iv 0) rfl rfl (.bool false) rfl rfl (Zc5 (by omega)) ?_
  refine Ze rfl rfl (.bool false) rfl (Ze rfl rfl (Iv ((Zak s).2)) rfl ?_)
  by_cases h2 : ((Zak s).2) ≠ 0
  refine Zk (vx := Iv ((Zak s).2)) (vy := Iv 0) rfl rfl (.bool true) rfl rfl (Zdg (by omega)) ?_
  refine Zo rfl rfl (.bool true) rfl (Ze rfl rfl (.bool true) rfl (Zj rfl rfl (Zj rfl rfl (Zj rfl rfl (Zj rfl rfl (Zj rfl rfl (Zo rfl rfl (.bool true) rfl (Za (Zb (Zz rfl (Zf (Zg ?_))))))))))))
  refine Zbn (vs := []) (v := mxV ([Iv 0] ++ (Zh (⟨0, (⟨0, 0, 0, ⟨#[]⟩, (⟨(⟨0, 0, 0, dz, 0⟩ : Head), 0, dz⟩ : Signed), (⟨0, 0, 0, 0, dz⟩ : Claim)⟩ : Entry)⟩ : Item) ++ ([.slice none 0 0] ++ (Zd (⟨(⟨0, 0, 0, dz, 0⟩ : Head), 0, dz⟩ : Signed)))))) rfl rfl rfl (by kernel_rfl) ?_
  refine Zx (p := pt 2 0) (v := mxV ([Iv 0] ++ (Zh (⟨0, (⟨0, 0, 0, ⟨#[]⟩, (⟨(⟨0, 0, 0, dz, 0⟩ : Head), 0, dz⟩ : Signed), (⟨0, 0, 0, 0, dz⟩ : Claim)⟩ : Entry)⟩ : Item) ++ ([.slice none 0 0] ++ (Zd (⟨(⟨0, 0, 0, dz, 0⟩ : Head), 0, dz⟩ : Signed)))))) (b := 2) (blk := mxB 181 ([Iv 0] ++ (Zh (⟨0, (⟨0, 0, 0, ⟨#[]⟩, (⟨(⟨0, 0, 0, dz, 0⟩ : Head), 0, dz⟩ : Signed), (⟨0, 0, 0, 0, dz⟩ : Claim)⟩ : Entry)⟩ : Item) ++ ([.slice none 0 0] ++ (Zd (⟨(⟨0, 0, 0, dz, 0⟩ : Head), 0, dz⟩ : Signed)))))) (H' := [rwR Zy l, bxB 69 (Zd s), mxB 181 ([Iv 0] ++ (Zh (⟨0, (⟨0, 0, 0, ⟨#[]⟩, (⟨(⟨0, 0, 0, dz, 0⟩ : Head), 0, dz⟩ : Signed), (⟨0, 0, 0, 0, dz⟩ : Claim)⟩ : Entry)⟩ : Item) ++ ([.slice none 0 0] ++ (Zd (⟨(⟨0, 0, 0, dz, 0⟩ : Head), 0, dz⟩ : Signed))))), dgB ((Zaf kk l s.head.size).1), Zaq ((Zak s).1), hole, hole]) rfl rfl rfl (by kernel_rfl) (by kernel_rfl) ?_
  refine Zc rfl rfl (Iv 130) rfl (Za (Zb ?_))
  refine Zb4 (Zbz.nilCell (k := 2) (j := 111) (b := 5) true 32 rfl (by decide) rfl (by show 0 < 181; decide) rfl rfl) ?_
  refine Zt (Z3 (Zu ?_))
  rw [show Zeu kk l i s = ((⟨0, (⟨0, (⟨0, 0, 0, ⟨#[]⟩, (⟨(⟨0, 0, 0, dz, 0⟩ : Head), 0, dz⟩ : Signed), (⟨0, 0, 0, 0, dz⟩ : Claim)⟩ : Entry)⟩ : Item), [], (⟨(⟨0, 0, 0, dz, 0⟩ : Head), 0, dz⟩ : Signed)⟩ : PStep), 130) from by first | exact Zpq (by first | exact .inl (by omega) | exact .inr (.inl (Zkf (by omega))) | exact .inr (.inr (by assumption))) | exact Zpe (by omega) (Zil (by omega)) (by assumption) (by omega)]
  exact Za7 [0, 5] (v := .tuple #[mxV ([Iv 0] ++ (Zh (⟨0, (⟨0, 0, 0, ⟨#[]⟩, (⟨(⟨0, 0, 0, dz, 0⟩ : Head), 0, dz⟩ : Signed), (⟨0, 0, 0, 0, dz⟩ : Claim)⟩ : Entry)⟩ : Item) ++ ([slv 5 0 0 0] ++ (Zd (⟨(⟨0, 0, 0, dz, 0⟩ : Head), 0, dz⟩ : Signed))))), Iv 130]) rfl (by kernel_rfl) rfl rfl (by decide) (by simp [Za9, rwR, dsB, Zy]) ⟨(Zhr (by kernel_rfl) (Zbb ⟨⟨rfl, rfl⟩, trivial⟩ (Zbb (Zb1 (by kernel_rfl)) (Zbb ⟨⟨rfl, rfl, rfl, by first | omega | exact Nat.le_refl _ | exact Nat.zero_le _ | (dsimp only; omega), by first | omega | exact Nat.le_refl _ | exact Nat.zero_le _ | (dsimp only; omega)⟩, trivial⟩ (Zb1 (by kernel_rfl)))))), rfl, trivial⟩
  refine Zk (vx := Iv ((Zak s).2)) (vy := Iv 0) rfl rfl (.bool false) rfl rfl (Zc5 (by omega)) ?_
  refine Zo rfl rfl (.bool false) rfl (Ze rfl rfl (.bool false) rfl ?_)
  refine Zl (p := pt 3 0) (v := dgV ((Zaf kk l s.head.size).1)) rfl rfl rfl (by kernel_rfl) ?_
  refine Zi (b := 1) (o := 0) (n := 0) (o' := 0) rfl rfl rfl rfl rfl ?_
  refine Zi (b := 1) (o := 0) (n := 3) (o' := 3) rfl rfl rfl rfl rfl ?_
  refine Zl (p := pt 1 3) (v := dgV s.head.root) rfl rfl rfl (by kernel_rfl) ?_
  rcases Bool.eq_false_or_eq_true (Za6 32 ((Zaf kk l s.head.size).1) s.head.root) with h3 | h3
  refine Zk (vx := dgV ((Zaf kk l s.head.size).1)) (vy := dgV s.head.root) rfl rfl (.bool false) rfl rfl (Eq.trans (Zr3 (n := 32) (a := (Zaf kk l s.head.size).1) (b := s.head.root) (by kernel_rfl) rfl rfl rfl) (by rw [h3] <;> rfl)) ?_
  refine Zo rfl rfl (.bool false) rfl (Za (Zb (Zv rfl (Z2 (Zb (Zf (Zg (Ze rfl rfl (slv 0 0 n c) rfl ?_))))))))
  refine Zi (b := 1) (o := 0) (n := 0) (o' := 0) rfl rfl rfl rfl rfl ?_
  refine Zi (b := 1) (o := 0) (n := 2) (o' := 2) rfl rfl rfl rfl rfl ?_
  refine Zl (p := pt 1 2) (v := Iv s.head.size) rfl rfl rfl (by kernel_rfl) ?_
  refine Ze rfl rfl (Iv i) rfl ?_
  have hpl3 := Zjy kk l s.head.size i
  refine Z4 (e := [some (0, 0)]) (nid := 5) (Z17 (G := G) kk hG hG1 l n c hn (by omega) (by omega) s.head.size i) (vals := [slv 0 0 n c, Iv s.head.size, Iv i]) (v := .tuple #[slv 5 0 ((Zw kk l s.head.size i).1.length) ((Zw kk l s.head.size i).1.length), Iv ((Zw kk l s.head.size i).2)]) (H' := [rwR Zy l, bxB 69 (Zd s), mxB 181 ([Iv 0] ++ (Zh (⟨0, (⟨0, 0, 0, ⟨#[]⟩, (⟨(⟨0, 0, 0, dz, 0⟩ : Head), 0, dz⟩ : Signed), (⟨0, 0, 0, 0, dz⟩ : Claim)⟩ : Entry)⟩ : Item) ++ ([.slice none 0 0] ++ (Zd (⟨(⟨0, 0, 0, dz, 0⟩ : Head), 0, dz⟩ : Signed))))), dgB ((Zaf kk l s.head.size).1), Zaq ((Zak s).1), dsB ((Zw kk l s.head.size i).1), hole]) rfl rfl rfl rfl rfl rfl rfl ⟨⟨⟨rfl, rfl, rfl, by first | omega | exact Nat.le_refl _, by first | omega | exact Nat.le_refl _⟩, rfl, rfl, trivial⟩, ⟨(Zd2 rfl), trivial⟩, rfl, rfl, rfl⟩ (by kernel_rfl) (by kernel_rfl) ?_
  refine Ze rfl rfl (.tuple #[slv 5 0 ((Zw kk l s.head.size i).1.length) ((Zw kk l s.head.size i).1.length), Iv ((Zw kk l s.head.size i).2)]) rfl (Zp (vs := #[slv 5 0 ((Zw kk l s.head.size i).1.length) ((Zw kk l s.head.size i).1.length), Iv ((Zw kk l s.head.size i).2)]) (v := slv 5 0 ((Zw kk l s.head.size i).1.length) ((Zw kk l s.head.size i).1.length)) rfl rfl rfl rfl (Zp (vs := #[slv 5 0 ((Zw kk l s.head.size i).1.length) ((Zw kk l s.head.size i).1.length), Iv ((Zw kk l s.head.size i).2)]) (v := Iv ((Zw kk l s.head.size i).2)) rfl rfl rfl rfl (Zc rfl rfl (slv 5 0 ((Zw kk l s.head.size i).1.length) ((Zw kk l s.head.size i).1.length)) rfl (Zc rfl rfl (Iv ((Zw kk l s.head.size i).2)) rfl (Za (Zb (Zf (Zf (Zg (Ze rfl rfl (Iv ((Zw kk l s.head.size i).2)) rfl ?_))))))))))
  by_cases h4 : ((Zw kk l s.head.size i).2) ≠ 0
  refine Zk (vx := Iv ((Zw kk l s.head.size i).2)) (vy := Iv 0) rfl rfl (.bool true) rfl rfl (Zdg (by omega)) ?_
  refine Za (Zb (Zz rfl (Zf (Zg ?_))))
  refine Zbn (vs := []) (v := mxV ([Iv 0] ++ (Zh (⟨0, (⟨0, 0, 0, ⟨#[]⟩, (⟨(⟨0, 0, 0, dz, 0⟩ : Head), 0, dz⟩ : Signed), (⟨0, 0, 0, 0, dz⟩ : Claim)⟩ : Entry)⟩ : Item) ++ ([.slice none 0 0] ++ (Zd (⟨(⟨0, 0, 0, dz, 0⟩ : Head), 0, dz⟩ : Signed)))))) rfl rfl rfl (by kernel_rfl) ?_
  refine Zx (p := pt 2 0) (v := mxV ([Iv 0] ++ (Zh (⟨0, (⟨0, 0, 0, ⟨#[]⟩, (⟨(⟨0, 0, 0, dz, 0⟩ : Head), 0, dz⟩ : Signed), (⟨0, 0, 0, 0, dz⟩ : Claim)⟩ : Entry)⟩ : Item) ++ ([.slice none 0 0] ++ (Zd (⟨(⟨0, 0, 0, dz, 0⟩ : Head), 0, dz⟩ : Signed)))))) (b := 2) (blk := mxB 181 ([Iv 0] ++ (Zh (⟨0, (⟨0, 0, 0, ⟨#[]⟩, (⟨(⟨0, 0, 0, dz, 0⟩ : Head), 0, dz⟩ : Signed), (⟨0, 0, 0, 0, dz⟩ : Claim)⟩ : Entry)⟩ : Item) ++ ([.slice none 0 0] ++ (Zd (⟨(⟨0, 0, 0, dz, 0⟩ : Head), 0, dz⟩ : Signed)))))) (H' := [rwR Zy l, bxB 69 (Zd s), mxB 181 ([Iv 0] ++ (Zh (⟨0, (⟨0, 0, 0, ⟨#[]⟩, (⟨(⟨0, 0, 0, dz, 0⟩ : Head), 0, dz⟩ : Signed), (⟨0, 0, 0, 0, dz⟩ : Claim)⟩ : Entry)⟩ : Item) ++ ([.slice none 0 0] ++ (Zd (⟨(⟨0, 0, 0, dz, 0⟩ : Head), 0, dz⟩ : Signed))))), dgB ((Zaf kk l s.head.size).1), Zaq ((Zak s).1), dsB ((Zw kk l s.head.size i).1), hole]) rfl rfl rfl (by kernel_rfl) (by kernel_rfl) ?_
  refine Zc rfl rfl (Iv 131) rfl (Za (Zb ?_))
  refine Zb4 (Zbz.nilCell (k := 2) (j := 111) (b := 6) true 32 rfl (by decide) rfl (by show 0 < 181; decide) rfl rfl) ?_
  refine Zt (Z3 (Zu ?_))
  rw [show Zeu kk l i s = ((⟨0, (⟨0, (⟨0, 0, 0, ⟨#[]⟩, (⟨(⟨0, 0, 0, dz, 0⟩ : Head), 0, dz⟩ : Signed), (⟨0, 0, 0, 0, dz⟩ : Claim)⟩ : Entry)⟩ : Item), [], (⟨(⟨0, 0, 0, dz, 0⟩ : Head), 0, dz⟩ : Signed)⟩ : PStep), 131) from by first | exact Zpq (by first | exact .inl (by omega) | exact .inr (.inl (Zkf (by omega))) | exact .inr (.inr (by assumption))) | exact Zpe (by omega) (Zil (by omega)) (by assumption) (by omega)]
  exact Za7 [0, 6] (v := .tuple #[mxV ([Iv 0] ++ (Zh (⟨0, (⟨0, 0, 0, ⟨#[]⟩, (⟨(⟨0, 0, 0, dz, 0⟩ : Head), 0, dz⟩ : Signed), (⟨0, 0, 0, 0, dz⟩ : Claim)⟩ : Entry)⟩ : Item) ++ ([slv 6 0 0 0] ++ (Zd (⟨(⟨0, 0, 0, dz, 0⟩ : Head), 0, dz⟩ : Signed))))), Iv 131]) rfl (by kernel_rfl) rfl rfl (by decide) (by simp [Za9, rwR, dsB, Zy]) ⟨(Zhr (by kernel_rfl) (Zbb ⟨⟨rfl, rfl⟩, trivial⟩ (Zbb (Zb1 (by kernel_rfl)) (Zbb ⟨⟨rfl, rfl, rfl, by first | omega | exact Nat.le_refl _ | exact Nat.zero_le _ | (dsimp only; omega), by first | omega | exact Nat.le_refl _ | exact Nat.zero_le _ | (dsimp only; omega)⟩, trivial⟩ (Zb1 (by kernel_rfl)))))), rfl, trivial⟩
  refine Zk (vx := Iv ((Zw kk l s.head.size i).2)) (vy := Iv 0) rfl rfl (.bool false) rfl rfl (Zc5 (by omega)) ?_
  refine Za (Zb (Zv rfl (Z2 (Zb (Zf ?_)))))
  have hin := Z2z (by omega : (Zw kk l s.head.size i).2 = 0)
  refine Zdu (by kernel_rfl) ?_
  refine Ze rfl rfl (Iv i) rfl (Ze rfl rfl (slv 0 0 n c) rfl (Ze rfl rfl (Iv i) rfl ?_))
  refine Zbf (b := 0) (o := 0) (j := i.toNat * 110) (m := n) (c := c) (sz := 110) (i := i) (k := .i64) rfl rfl rfl rfl rfl (by omega) (by omega) (by omega) ?_
  refine Zl (p := pt 0 (i.toNat * 110)) (v := Za1 (l.getD i.toNat default)) rfl rfl rfl (Zkt (n := 0) (m := 110) Zy rfl rfl rfl rfl (by have := hn; omega) (by omega)) ?_
  refine Ze rfl rfl (slv 5 0 ((Zw kk l s.head.size i).1.length) ((Zw kk l s.head.size i).1.length)) rfl ?_
  refine Zl (p := pt 1 0) (v := Z0 s) rfl rfl rfl (by kernel_rfl) ?_
  refine Zbn (vs := [(0, Iv i), (1, Za1 (l.getD i.toNat default)), (2, slv 5 0 ((Zw kk l s.head.size i).1.length) ((Zw kk l s.head.size i).1.length)), (3, Z0 s)]) (v := mxV ([Iv i] ++ (Zh (l.getD i.toNat default) ++ ([slv 5 0 ((Zw kk l s.head.size i).1.length) ((Zw kk l s.head.size i).1.length)] ++ (Zd s))))) rfl rfl rfl (by kernel_rfl) ?_
  refine Zx (p := pt 2 0) (v := mxV ([Iv i] ++ (Zh (l.getD i.toNat default) ++ ([slv 5 0 ((Zw kk l s.head.size i).1.length) ((Zw kk l s.head.size i).1.length)] ++ (Zd s))))) (b := 2) (blk := mxB 181 ([Iv i] ++ (Zh (l.getD i.toNat default) ++ ([slv 5 0 ((Zw kk l s.head.size i).1.length) ((Zw kk l s.head.size i).1.length)] ++ (Zd s))))) (H' := [rwR Zy l, bxB 69 (Zd s), mxB 181 ([Iv i] ++ (Zh (l.getD i.toNat default) ++ ([slv 5 0 ((Zw kk l s.head.size i).1.length) ((Zw kk l s.head.size i).1.length)] ++ (Zd s)))), dgB ((Zaf kk l s.head.size).1), Zaq ((Zak s).1), dsB ((Zw kk l s.head.size i).1), hole]) rfl rfl rfl (by kernel_rfl) (by kernel_rfl) ?_
  refine Zc rfl rfl (Iv 0) rfl ?_
  refine Zcu (Zgw [[], [], [], [1, 2], [1, 2, 3], [], [], [0, 1, 2, 3, 4, 5, 6], [0, 1, 2, 3, 4, 5, 6, 7], [0, 1, 2, 3, 4, 5, 6, 7, 8]] (by kernel_rfl) (by kernel_rfl)) ?_
  refine Zb (Zt (Zu ?_))
  rw [show Zeu kk l i s = ((⟨i, l.getD i.toNat default, (Zw kk l s.head.size i).1, s⟩ : PStep), 0) from Z1k (by omega) (Zil (by omega)) (by assumption) (by omega)]
  exact Za7 [0, 5] (v := .tuple #[mxV ([Iv i] ++ (Zh (l.getD i.toNat default) ++ ([slv 5 0 ((Zw kk l s.head.size i).1.length) ((Zw kk l s.head.size i).1.length)] ++ (Zd s)))), Iv 0]) rfl (by kernel_rfl) rfl rfl (by decide) (by simp [Za9, rwR, dsB, Zy]) ⟨(Zhr (by kernel_rfl) (Zbb ⟨⟨rfl, rfl⟩, trivial⟩ (Zbb (Zb1 (by kernel_rfl)) (Zbb ⟨⟨rfl, rfl, rfl, by first | omega | exact Nat.le_refl _ | exact Nat.zero_le _ | (dsimp only; omega), by first | omega | exact Nat.le_refl _ | exact Nat.zero_le _ | (dsimp only; omega)⟩, trivial⟩ (Zb1 (by kernel_rfl)))))), rfl, trivial⟩
  refine Zk (vx := dgV ((Zaf kk l s.head.size).1)) (vy := dgV s.head.root) rfl rfl (.bool true) rfl rfl (Eq.trans (Zr3 (n := 32) (a := (Zaf kk l s.head.size).1) (b := s.head.root) (by kernel_rfl) rfl rfl rfl) (by rw [h3] <;> rfl)) ?_
  refine Zo rfl rfl (.bool true) rfl (Za (Zb (Zz rfl (Zf (Zg ?_)))))
  refine Zbn (vs := []) (v := mxV ([Iv 0] ++ (Zh (⟨0, (⟨0, 0, 0, ⟨#[]⟩, (⟨(⟨0, 0, 0, dz, 0⟩ : Head), 0, dz⟩ : Signed), (⟨0, 0, 0, 0, dz⟩ : Claim)⟩ : Entry)⟩ : Item) ++ ([.slice none 0 0] ++ (Zd (⟨(⟨0, 0, 0, dz, 0⟩ : Head), 0, dz⟩ : Signed)))))) rfl rfl rfl (by kernel_rfl) ?_
  refine Zx (p := pt 2 0) (v := mxV ([Iv 0] ++ (Zh (⟨0, (⟨0, 0, 0, ⟨#[]⟩, (⟨(⟨0, 0, 0, dz, 0⟩ : Head), 0, dz⟩ : Signed), (⟨0, 0, 0, 0, dz⟩ : Claim)⟩ : Entry)⟩ : Item) ++ ([.slice none 0 0] ++ (Zd (⟨(⟨0, 0, 0, dz, 0⟩ : Head), 0, dz⟩ : Signed)))))) (b := 2) (blk := mxB 181 ([Iv 0] ++ (Zh (⟨0, (⟨0, 0, 0, ⟨#[]⟩, (⟨(⟨0, 0, 0, dz, 0⟩ : Head), 0, dz⟩ : Signed), (⟨0, 0, 0, 0, dz⟩ : Claim)⟩ : Entry)⟩ : Item) ++ ([.slice none 0 0] ++ (Zd (⟨(⟨0, 0, 0, dz, 0⟩ : Head), 0, dz⟩ : Signed)))))) (H' := [rwR Zy l, bxB 69 (Zd s), mxB 181 ([Iv 0] ++ (Zh (⟨0, (⟨0, 0, 0, ⟨#[]⟩, (⟨(⟨0, 0, 0, dz, 0⟩ : Head), 0, dz⟩ : Signed), (⟨0, 0, 0, 0, dz⟩ : Claim)⟩ : Entry)⟩ : Item) ++ ([.slice none 0 0] ++ (Zd (⟨(⟨0, 0, 0, dz, 0⟩ : Head), 0, dz⟩ : Signed))))), dgB ((Zaf kk l s.head.size).1), Zaq ((Zak s).1), hole, hole]) rfl rfl rfl (by kernel_rfl) (by kernel_rfl) ?_
  refine Zc rfl rfl (Iv 130) rfl (Za (Zb ?_))
  refine Zb4 (Zbz.nilCell (k := 2) (j := 111) (b := 5) true 32 rfl (by decide) rfl (by show 0 < 181; decide) rfl rfl) ?_
  refine Zt (Z3 (Zu ?_))
  rw [show Zeu kk l i s = ((⟨0, (⟨0, (⟨0, 0, 0, ⟨#[]⟩, (⟨(⟨0, 0, 0, dz, 0⟩ : Head), 0, dz⟩ : Signed), (⟨0, 0, 0, 0, dz⟩ : Claim)⟩ : Entry)⟩ : Item), [], (⟨(⟨0, 0, 0, dz, 0⟩ : Head), 0, dz⟩ : Signed)⟩ : PStep), 130) from by first | exact Zpq (by first | exact .inl (by omega) | exact .inr (.inl (Zkf (by omega))) | exact .inr (.inr (by assumption))) | exact Zpe (by omega) (Zil (by omega)) (by assumption) (by omega)]
  exact Za7 [0, 5] (v := .tuple #[mxV ([Iv 0] ++ (Zh (⟨0, (⟨0, 0, 0, ⟨#[]⟩, (⟨(⟨0, 0, 0, dz, 0⟩ : Head), 0, dz⟩ : Signed), (⟨0, 0, 0, 0, dz⟩ : Claim)⟩ : Entry)⟩ : Item) ++ ([slv 5 0 0 0] ++ (Zd (⟨(⟨0, 0, 0, dz, 0⟩ : Head), 0, dz⟩ : Signed))))), Iv 130]) rfl (by kernel_rfl) rfl rfl (by decide) (by simp [Za9, rwR, dsB, Zy]) ⟨(Zhr (by kernel_rfl) (Zbb ⟨⟨rfl, rfl⟩, trivial⟩ (Zbb (Zb1 (by kernel_rfl)) (Zbb ⟨⟨rfl, rfl, rfl, by first | omega | exact Nat.le_refl _ | exact Nat.zero_le _ | (dsimp only; omega), by first | omega | exact Nat.le_refl _ | exact Nat.zero_le _ | (dsimp only; omega)⟩, trivial⟩ (Zb1 (by kernel_rfl)))))), rfl, trivial⟩
theorem Zoz (kk : Nat → BitVec 32) (hG : G 0 = some (Zac w32 64 kk)) (master : D) (x : PStep) (n c : Nat) (hn : x.proof.length = n) (hc : n ≤ c) (hb : n ≤ 1000) (hx : (-9223372036854775808 ≤ x.index ∧ x.index ≤ 9223372036854775807) ∧ -9223372036854775808 ≤ x.head.head.size ∧ x.head.head.size ≤ 9223372036854775807) : Zae Tryd.prog G 30 [dgV master, mxV ([Iv x.index] ++ (Zh x.item ++ ([slv 0 0 n c] ++ (Zd x.head))))] [dsR x.proof] (Iv (Zag kk master x)) [dsR x.proof] := by
  refine Zbj (fn := Tryd.f30) (nt := 43) rfl rfl rfl rfl ?_
  refine Zaj 3 (H' := [dsR x.proof, hole, hole, hole]) rfl ?_
  refine Zf (Zg ?_)
  refine Zbr (v := dgV master) (b := dgB master) (nid := 1) (H' := [dsR x.proof, dgB master, hole, hole]) rfl rfl rfl (by kernel_rfl) (by kernel_rfl) ?_
  refine Zbr (v := mxV ([Iv x.index] ++ (Zh x.item ++ ([slv 0 0 n c] ++ (Zd x.head))))) (b := mxB 181 ([Iv x.index] ++ (Zh x.item ++ ([slv 0 0 n c] ++ (Zd x.head))))) (nid := 2) (H' := [dsR x.proof, dgB master, mxB 181 ([Iv x.index] ++ (Zh x.item ++ ([slv 0 0 n c] ++ (Zd x.head)))), hole]) rfl rfl rfl (by kernel_rfl) (by kernel_rfl) ?_
  refine Zc rfl rfl (Iv 0) rfl (Za (Zb (Zf (Zg ?_))))
  refine Zl (p := pt 1 0) (v := dgV master) rfl rfl rfl (by kernel_rfl) ?_
  refine Zi (b := 2) (o := 0) (n := 112) (o' := 112) rfl rfl rfl rfl rfl ?_
  refine Zl (p := pt 2 112) (v := Z0 x.head) rfl rfl rfl (by kernel_rfl) ?_
  refine Zq (Zv5 (G := G) kk hG master x.head) (vals := [dgV master, Z0 x.head]) (res' := Iv (Zb6 kk master x.head)) rfl rfl rfl rfl rfl rfl ?_
  refine Zc rfl rfl (Iv (Zb6 kk master x.head)) rfl (Za (Zb (Zf (Zg ?_))))
  refine Zi (b := 2) (o := 0) (n := 1) (o' := 1) rfl rfl rfl rfl rfl ?_
  refine Zl (p := pt 2 1) (v := Za1 x.item) rfl rfl rfl (by kernel_rfl) ?_
  refine Zq (Zok (G := G) kk hG x.item) (vals := [Za1 x.item]) (res' := .tuple #[dgV ((Z1 kk x.item).1), Iv ((Z1 kk x.item).2)]) rfl rfl rfl rfl rfl (by kernel_rfl) ?_
  refine Ze rfl rfl (.tuple #[dgV ((Z1 kk x.item).1), Iv ((Z1 kk x.item).2)]) rfl (Zp (vs := #[dgV ((Z1 kk x.item).1), Iv ((Z1 kk x.item).2)]) (v := dgV ((Z1 kk x.item).1)) rfl rfl rfl rfl (Zp (vs := #[dgV ((Z1 kk x.item).1), Iv ((Z1 kk x.item).2)]) (v := Iv ((Z1 kk x.item).2)) rfl rfl rfl rfl ?_))
  refine Z7 (b := dgB dz) (nid := 3) (H' := [dsR x.proof, dgB master, mxB 181 ([Iv x.index] ++ (Zh x.item ++ ([slv 0 0 n c] ++ (Zd x.head)))), dgB dz]) rfl rfl (by kernel_rfl) (by kernel_rfl) ?_
  refine Zx (p := pt 3 0) (v := dgV ((Z1 kk x.item).1)) (b := 3) (blk := dgB ((Z1 kk x.item).1)) (H' := [dsR x.proof, dgB master, mxB 181 ([Iv x.index] ++ (Zh x.item ++ ([slv 0 0 n c] ++ (Zd x.head)))), dgB ((Z1 kk x.item).1)]) rfl rfl rfl (by kernel_rfl) (by kernel_rfl) ?_
  refine Zc rfl rfl (Iv ((Z1 kk x.item).2)) rfl (Za (Zb (Zf (Z9 (Zf (Z9 (Zf (Z9 (Zf (Zf (Zf (Zg (Ze rfl rfl (Iv (Zb6 kk master x.head)) rfl ?_)))))))))))))
  by_cases h1 : (Zb6 kk master x.head) = 0
  refine Zk (vx := Iv (Zb6 kk master x.head)) (vy := Iv 0) rfl rfl (.bool true) rfl rfl (Zdl (by omega)) ?_
  refine Ze rfl rfl (.bool true) rfl (Ze rfl rfl (Iv ((Z1 kk x.item).2)) rfl ?_)
  by_cases h2 : ((Z1 kk x.item).2) ≠ 0
  refine Zk (vx := Iv ((Z1 kk x.item).2)) (vy := Iv 0) rfl rfl (.bool true) rfl rfl (Zdg (by omega)) ?_
  refine Zo rfl rfl (.bool true) rfl (Zc rfl rfl (.bool true) rfl (Za (Zb (Zz rfl (Zbh (Zar (Zar (Zaw rfl (Zb (Zg (Zc rfl rfl (Iv 130) rfl (Za (Zab (Zb (Zf (Zf (Zg (Ze rfl rfl (Iv 130) rfl (Zc rfl rfl (Iv 130) rfl (Za (Zb (Zt (Z3 (Zbq (Z3 (Zu ?_))))))))))))))))))))))))))
  rw [show Zag kk master x = 130 from Z27 (by omega) (by omega)]
  exact Zm (v := Iv 130) rfl rfl rfl (by kernel_rfl) rfl
  refine Zk (vx := Iv ((Z1 kk x.item).2)) (vy := Iv 0) rfl rfl (.bool false) rfl rfl (Zc5 (by omega)) ?_
  refine Zo rfl rfl (.bool false) rfl (Zc rfl rfl (.bool false) rfl (Za (Zb (Zv rfl (Z2 (Zb (Zf (Zg (Ze rfl rfl (Iv (Zb6 kk master x.head)) rfl ?_)))))))))
  refine Zk (vx := Iv (Zb6 kk master x.head)) (vy := Iv 0) rfl rfl (.bool false) rfl rfl (Zc5 (by omega)) ?_
  refine Zc rfl rfl (.bool false) rfl (Za (Zb (Zv rfl (Z2 (Zb (Zbh (Ziq rfl (Zar (Ziq rfl (Zar (Zaw rfl (Zb (Zf (Zg ?_))))))))))))))
  refine Zi (b := 2) (o := 0) (n := 112) (o' := 112) rfl rfl rfl rfl rfl ?_
  refine Zi (b := 2) (o := 112) (n := 0) (o' := 112) rfl rfl rfl rfl rfl ?_
  refine Zi (b := 2) (o := 112) (n := 3) (o' := 115) rfl rfl rfl rfl rfl ?_
  refine Zl (p := pt 2 115) (v := dgV x.head.head.root) rfl rfl rfl (by kernel_rfl) ?_
  refine Zi (b := 2) (o := 0) (n := 112) (o' := 112) rfl rfl rfl rfl rfl ?_
  refine Zi (b := 2) (o := 112) (n := 0) (o' := 112) rfl rfl rfl rfl rfl ?_
  refine Zi (b := 2) (o := 112) (n := 2) (o' := 114) rfl rfl rfl rfl rfl ?_
  refine Zl (p := pt 2 114) (v := Iv x.head.head.size) rfl rfl rfl (by kernel_rfl) ?_
  refine Zi (b := 2) (o := 0) (n := 0) (o' := 0) rfl rfl rfl rfl rfl ?_
  refine Zl (p := pt 2 0) (v := Iv x.index) rfl rfl rfl (by kernel_rfl) ?_
  refine Zl (p := pt 3 0) (v := dgV ((Z1 kk x.item).1)) rfl rfl rfl (by kernel_rfl) ?_
  refine Zi (b := 2) (o := 0) (n := 111) (o' := 111) rfl rfl rfl rfl rfl ?_
  refine Zl (p := pt 2 111) (v := slv 0 0 n c) rfl rfl rfl (by kernel_rfl) ?_
  refine Z4 (e := [some (0, 0)]) (nid := 0) (Zjs (G := G) kk hG x.head.head.root ((Z1 kk x.item).1) x.head.head.size x.index x.proof n c hn (by omega) (by omega) (by omega) (by omega) (by omega) (by omega)) (vals := [dgV x.head.head.root, Iv x.head.head.size, Iv x.index, dgV ((Z1 kk x.item).1), slv 0 0 n c]) (v := Iv (Zdk kk x.head.head.root ((Z1 kk x.item).1) x.head.head.size x.index x.proof)) (H' := [dsR x.proof, dgB master, mxB 181 ([Iv x.index] ++ (Zh x.item ++ ([slv 0 0 n c] ++ (Zd x.head)))), dgB ((Z1 kk x.item).1)]) rfl rfl rfl rfl rfl rfl rfl ⟨⟨rfl, rfl, rfl, rfl, ⟨rfl, rfl, rfl, by first | omega | exact Nat.le_refl _, by first | omega | exact Nat.le_refl _⟩, trivial⟩, ⟨(Zer rfl), trivial⟩, rfl, rfl, rfl⟩ rfl (by kernel_rfl) ?_
  refine Zc rfl rfl (Iv (Zdk kk x.head.head.root ((Z1 kk x.item).1) x.head.head.size x.index x.proof)) rfl (Za (Zb (Zt (Zu ?_))))
  rw [show Zag kk master x = (Zdk kk x.head.head.root ((Z1 kk x.item).1) x.head.head.size x.index x.proof) from Zw0 (by omega) (by omega)]
  exact Zm (v := Iv (Zdk kk x.head.head.root ((Z1 kk x.item).1) x.head.head.size x.index x.proof)) rfl rfl rfl (by kernel_rfl) rfl
  refine Zk (vx := Iv (Zb6 kk master x.head)) (vy := Iv 0) rfl rfl (.bool false) rfl rfl (Zge (by omega)) ?_
  refine Ze rfl rfl (.bool false) rfl (Zj rfl rfl (Zj rfl rfl (Zo rfl rfl (.bool false) rfl (Zc rfl rfl (.bool false) rfl (Za (Zb (Zv rfl (Z2 (Zb (Zf (Zg (Ze rfl rfl (Iv (Zb6 kk master x.head)) rfl ?_))))))))))))
  refine Zk (vx := Iv (Zb6 kk master x.head)) (vy := Iv 0) rfl rfl (.bool true) rfl rfl (Zdg (by omega)) ?_
  refine Zc rfl rfl (.bool true) rfl (Za (Zb (Zz rfl (Zbh (Zar (Ziq rfl (Zar (Zaw rfl (Zb (Zf (Zf (Zg (Ze rfl rfl (Iv (Zb6 kk master x.head)) rfl (Zc rfl rfl (Iv (Zb6 kk master x.head)) rfl (Za (Zb (Zt (Z3 (Zbq (Z3 (Zu ?_)))))))))))))))))))))
  rw [show Zag kk master x = Zb6 kk master x.head from Z2o (by omega)]
  exact Zm (v := Iv (Zb6 kk master x.head)) rfl rfl rfl (by kernel_rfl) rfl
end Go.Flat
