/- Walks. -/
import Derived.Test.YtfjkagjbanhdlaaDoorRef
import Derived.Defers
import Derived.Recover
set_option linter.unusedVariables false
set_option linter.unusedSimpArgs false
section
/- Panics: a function that ends in one; a call that does; the code around it. -/
namespace Go.Flat
section
variable {P : Program} {G : Glob}
abbrev Zhv (u : TypeId) (v : Value) : Exit := .panic [{ v := .iface u v, recovered := false }]
def Zsc (P : Program) (G : Glob) (f : FuncId) (args : List Value) (σ : List Blk) : Prop :=
  ∀ m w args', HRel G m σ w → L2 (VR m) args args' →
    Calls P f args'.toArray w fun e w' => ∃ u v, e = .panicked [{ v := .iface u v, recovered := false }] ∧ Frame ⟨m, w, []⟩ m w'
theorem Zsc.intro {f : FuncId} {fn : Func} {c : Code} {args : List Value} {σ : List Blk} (hf : P.funcs[f]? = some fn) (hb : fn.body = some c) (hn : args.length ≤ fn.ntmps)
  (h : WpL P G fn.ntmps σ.length c (fun e _ => ∃ u v, e = Zhv u v) ⟨Zht args, σ⟩) : Zsc P G f args σ := by
 intro m w args' hH hA
 refine calls_of_wp hf hb ?_
 have hl := hA.1
 have hdom : ∀ b, σ.length ≤ b → m b = none := fun b hb => hH.dom hb
 have h0 := h ⟨m, w, []⟩ m { tmps := args'.toArray ++ Array.replicate (fn.ntmps - args'.toArray.size) undef, defers := [] } w hdom
  ⟨by simp; omega, fun i => by
   rcases hA.at_ i with ⟨x, y, h1, h2, h3⟩ | ⟨h1, h2⟩
   ·have hi : i < args'.length := (List.getElem?_eq_some_iff.1 h2).1
    simp only [Zht, h1, Option.getD_some]
    rw [Array.getD_eq_getD_getElem?, Array.getElem?_append_left (by simpa using hi)]
    simp only [List.getElem?_toArray, h2, Option.getD_some]
    exact h3
   ·simp only [Zht, h1, Option.getD_none]
    have : args'.length ≤ i := by simpa using h2
    rw [Array.getD_eq_getD_getElem?, Array.getElem?_append_right (by simpa using this)]
    rw [Array.getElem?_replicate]
    split <;> exact VR.undef, rfl, hH, Frame.refl [] hH⟩
 refine wp_mono h0 ?_
 rintro e a w' ⟨s, m', ⟨u, v, rfl⟩, hr⟩
 exact ⟨hr.defers, u, v, rfl, hr.frame.os, hr.frame.tape, hr.frame.output, hr.frame.size, hr.frame.block, fun b r hb hw hlt => .inr fun j h1 h2 => ⟨b, r, hb, hw, rfl, h1, h2⟩, fun b r hb _ => hb⟩


structure Ext (w w' : World) : Prop where
  os : w'.os = w.os
  tape : w'.tape = w.tape
  output : w'.output = w.output
  size : w.heap.size ≤ w'.heap.size
  block : ∀ (g : Nat) (o : Obj), w.heap[g]? = some o → w'.heap[g]? = some o
theorem Frame.ext {m m' : MapM} {w w' : World} (hm : ∀ b r, m b = some r → r.wr = false) (h : Frame ⟨m, w, []⟩ m' w') : Ext w w' := by
 refine ⟨h.os, h.tape, h.output, h.size, fun g o ho => ?_⟩
 obtain ⟨o', h1, h2⟩ := h.block g o ho
 rw [h1, h2.same hm]
theorem Ext.cell {w w' : World} (h : Ext w w') {a : Addr} {v : Value} (hc : w.cell? a = some v) : w'.cell? a = some v := by
  unfold World.cell? at hc ⊢
  cases ho : w.heap[a.block]? with
  | none => rw [ho] at hc; cases hc
  | some o => rw [ho] at hc; rw [h.block _ _ ho]; exact hc
theorem Ext.frozen {w w' : World} (h : Ext w w') {a : Addr} {v : Value} (hc : w.cell? a = some v) : w'.frozen? a = w.frozen? a := by
  unfold World.cell? at hc
  cases ho : w.heap[a.block]? with
  | none => rw [ho] at hc; cases hc
  | some o => unfold World.frozen?; rw [ho, h.block _ _ ho]
theorem HRel.ext {m : MapM} {σ : List Blk} {w w' : World} (h : HRel G m σ w) (hx : Ext w w') : HRel G m σ w' where
 reg := h.reg
 live := h.live
 cell := fun b blk r i v h1 h2 h3 => let ⟨v', g1, g2⟩ := h.cell b blk r i v h1 h2 h3; ⟨v', hx.cell g1, g2⟩
 pur := h.pur
 own := fun b r h1 h2 => ⟨(h.own b r h1 h2).1, fun j h3 h4 => let ⟨v, g1, g2⟩ := (h.own b r h1 h2).2 j h3 h4; ⟨v, hx.cell g1, by rw [hx.frozen g1]; exact g2⟩⟩
 dis := h.dis
 glob := fun g cs hg => ⟨Nat.lt_of_lt_of_le (h.glob g cs hg).1 hx.size, fun i v hv => ⟨hx.cell ((h.glob g cs hg).2 i v hv).1, ((h.glob g cs hg).2 i v hv).2⟩⟩
 gwr := h.gwr
 clean := fun b r h1 h2 h3 h4 => let ⟨c, t, h5⟩ := h.clean b r h1 h2 h3 h4; ⟨c, t, hx.block _ _ h5⟩
theorem Frame.thenExt {E : Ent} {m : MapM} {w w' : World} (h : Frame E m w) (hx : Ext w w') : Frame E m w' :=
 ⟨hx.os.trans h.os, hx.tape.trans h.tape, hx.output.trans h.output, Nat.le_trans h.size hx.size, fun g o ho => let ⟨o', h1, h2⟩ := h.block g o ho; ⟨o', hx.block g o' h1, h2⟩, h.reg, h.keep⟩
theorem SRel.ext {nt : Nat} {E : Ent} {m : MapM} {s : St} {a : Act} {w w' : World} (h : SRel G nt E m s a w) (hx : Ext w w') : SRel G nt E m s a w' :=
 ⟨h.size, h.tmps, h.defers, h.heap.ext hx, h.frame.thenExt hx⟩


def Zhc (P : Program) (G : Glob) (nt : Nat) (ops : Array Oper) (o : Oper) (s : St) : Prop :=
  ∀ E m a w, SRel G nt E m s a w → ∀ (K : Act → World → Prop) (Q : Exit → Act → World → Prop), (∀ u v a' w', SRel G nt E m s a' w' → Q (Zhv u v) a' w') →
    Region.wanted o (yielded ops a.tmps) = true ∧ o.wp P a w K Q
theorem Zhc.call {nt : Nat} {ops : Array Oper} {o : Oper} {s : St} {f : Operand} {args : Array Operand} {ts : Array TypeId} {k : FuncId} {first captured : Array Value}
  (ho : o.op = .call { callee := .value f, args := args, argTypes := ts }) (hf : s.eval f = .func (.func k) first captured) (hcap : first.toList.all Zc8 = true ∧ captured.toList.all Zc8 = true) (hk : Zc6 P k = true) (hg : Zds nt s (Zdz ops o) = some true)
  {argsL : List Value} {σ : List Blk} (hC : Zsc P G k argsL σ) (e : Emb) (hro : (σ.all fun L => !L.wr) = true) (hargs : Zjs e argsL (first.toList ++ args.toList.map s.eval ++ captured.toList)) (hemb : Zii s.heap e e σ) (hdist : Zj6 e σ = true) (hnames : Zg4 e σ = true) :
  Zhc P G nt ops o s := by
 intro E m a w hr K Q hK
 refine ⟨Zfb hg hr, ?_⟩
 have hfv := hr.eval f
 rw [hf] at hfv
 obtain ⟨first', captured', hf', hL1, hL2⟩ := hfv
 have hex := Zns (P := P) ho hf' hk w
 have hargsC : L2 (VR m) (first.toList ++ args.toList.map s.eval ++ captured.toList) (first' ++ args.map a.eval ++ captured').toList := by
  simp only [Array.toList_append, Array.toList_map]
  refine ((Zkv hL1 hcap.1).append ?_).append (Zkv hL2 hcap.2)
  refine ⟨by simp, fun i x y hx hy => ?_⟩
  simp only [List.getElem?_map, Option.map_eq_some_iff] at hx hy
  obtain ⟨p, hp1, rfl⟩ := hx
  obtain ⟨q, hq1, rfl⟩ := hy
  rw [hp1] at hq1; injection hq1 with hq1; subst hq1
  exact hr.eval p
 obtain ⟨hel, hone⟩ := Zg1 hemb
 have hE : EmbOK s.heap e σ := ⟨hel, hone, Zsm (H := s.heap) hdist⟩
 have hnm : ∀ (i : Nat) (L : Blk), σ[i]? = some L → L.pur = true ∨ ∀ v, v ∈ L.cells → Za9 (inE e) v = true := by
  intro i L hL
  have := hnames
  simp only [Zg4, List.all_eq_true, Bool.or_eq_true] at this
  exact this L (List.mem_of_getElem? hL)
 have hA := Zox hr.heap hE _ _ _ hargs hargsC
 have hem := hr.heap.embed hE hnm
 have hcall := hC (mE m e σ) w (first' ++ args.map a.eval ++ captured').toList hem hA
 rw [Array.toArray_toList] at hcall
 unfold Oper.wp
 rw [hex]
 show Calls P k (first' ++ args.map a.eval ++ captured') w _
 refine hcall.mono ?_
 rintro en w' ⟨u, v, rfl, hF⟩
 refine hK u v a w' (hr.ext (hF.ext ?_))
 intro b r hb
 obtain ⟨blk, g1, _, g3, _⟩ := hem.reg b r hb
 rw [g3]
 simp only [List.all_eq_true] at hro
 have := hro blk (List.mem_of_getElem? g1)
 simpa using this
theorem Zhc.sound {nt : Nat} {ops : Array Oper} {Q : Exit → Act → World → Prop} {E : Ent} {o : Oper} {post : List Oper} {s : St} (h : Zhc P G nt ops o s) (hQ : ∀ u v m a w, SRel G nt E m s a w → Q (Zhv u v) a w) {m : MapM} {a : Act} {w : World} (hr : SRel G nt E m s a w) : wpList P ops Q (o :: post) a w := by
 obtain ⟨h1, h2⟩ := h E m a w hr (wpList P ops Q post) Q (fun u v a' w' h => hQ u v m a' w' h)
 unfold wpList
 rw [if_pos h1]
 exact .inl h2
theorem Zeh.pan {nt : Nat} {ops : Array Oper} {Q : Exit → Act → World → Prop} {E : Ent} {o : Oper} {post : List Oper} {R : St → Prop} (hQ : ∀ s u v m a w, R s → SRel G nt E m s a w → Q (Zhv u v) a w) :
  ∀ (l : List Oper) (s : St), Zeh P G nt ops (fun s => Zhc P G nt ops o s ∧ R s) l s → ∀ m a w, SRel G nt E m s a w → wpList P ops Q (l ++ o :: post) a w
 | [], s, h, m, a, w, hr => h.1.sound (fun u v m a w hr => hQ s u v m a w h.2 hr) hr
 | o' :: l, s, h, m, a, w, hr => by
  obtain ⟨s2, h1, h2⟩ := h
  have := h1 E m a w hr (wpList P ops Q (l ++ o :: post)) Q (fun m' a' w' hr' => Zeh.pan hQ l s2 h2 m' a' w' hr')
  rw [List.cons_append]
  unfold wpList
  split
  ·rename_i hw; rw [if_pos hw] at this; exact .inl this
  ·rename_i hw; rw [if_neg hw] at this; exact this
end
end Go.Flat
end
section
/- A function that defers one call which recovers. -/
namespace Go.Flat
section
variable {P : Program} {G : Glob}
def WpS (P : Program) (G : Glob) (nt n0 : Nat) (c : Code) (Φ : Ent → Exit → Act → World → Prop) (s : St) : Prop :=
  ∀ E m a w, E.defers = [] → (∀ b, n0 ≤ b → E.m b = none) → SRel G nt E m s a w → c.wp P (Φ E) a w
def Z1a (P : Program) (G : Glob) (fn : Func) (res : Value) (σ' : List Blk) (E : Ent) : Exit → Act → World → Prop :=
  bodyPostD P fn fun en w' => ∃ v' m', en = .returned v' ∧ HRel G m' σ' w' ∧ VR m' res v' ∧ Frame E m' w'
theorem Z9.introS {f : FuncId} {fn : Func} {c : Code} {args : List Value} {σ σ' : List Blk} {res : Value} (hf : P.funcs[f]? = some fn) (hb : fn.body = some c) (hn : args.length ≤ fn.ntmps)
  (h : WpS P G fn.ntmps σ.length c (Z1a P G fn res σ') ⟨Zht args, σ⟩) : Z9 P G f args σ res σ' := by
 intro m w args' hH hA
 refine calls_of_wp_defers hf hb ?_
 have hl := hA.1
 have hdom : ∀ b, σ.length ≤ b → m b = none := fun b hb => hH.dom hb
 exact h ⟨m, w, []⟩ m { tmps := args'.toArray ++ Array.replicate (fn.ntmps - args'.toArray.size) undef, defers := [] } w rfl hdom
  ⟨by simp; omega, fun i => by
   rcases hA.at_ i with ⟨x, y, h1, h2, h3⟩ | ⟨h1, h2⟩
   ·have hi : i < args'.length := (List.getElem?_eq_some_iff.1 h2).1
    simp only [Zht, h1, Option.getD_some]
    rw [Array.getD_eq_getD_getElem?, Array.getElem?_append_left (by simpa using hi)]
    simp only [List.getElem?_toArray, h2, Option.getD_some]
    exact h3
   ·simp only [Zht, h1, Option.getD_none]
    have : args'.length ≤ i := by simpa using h2
    rw [Array.getD_eq_getD_getElem?, Array.getElem?_append_right (by simpa using this)]
    rw [Array.getElem?_replicate]
    split <;> exact VR.undef, rfl, hH, Frame.refl [] hH⟩
theorem Z1b {fn : Func} {σ σ' : List Blk} {res : Value} {s : St} {E : Ent} {m : MapM} {a : Act} {w : World} (hE : E.defers = []) (hdom : ∀ b, σ.length ≤ b → E.m b = none) (h : ∃ v e, EndOK P G fn σ res σ' s v e) (hr : SRel G fn.ntmps E m s a w) :
  Z1a P G fn res σ' E .ret a w := by
 obtain ⟨v, e, hO⟩ := h
 obtain ⟨v', g1, g2⟩ := Zdl hr hO.out
 obtain ⟨E1, E2, E3⟩ := E
 obtain ⟨k1, k2, k3⟩ := hO.back hdom hr.heap hr.frame g2 (ds' := E3)
 show Leaves P fn a.tmps _ a.defers .returning w
 rw [hr.defers, hE]
 exact ⟨v', g1, v', _, rfl, k1, k2, k3⟩
theorem WpS.seqL {fn : Func} {σ σ' : List Blk} {res : Value} {s : St} {x y : Code} {K : St → Prop} (hx : WpL P G fn.ntmps σ.length x (Zea K (Zqb P G fn σ res σ')) s) (hy : ∀ s, K s → WpS P G fn.ntmps σ.length y (Z1a P G fn res σ') s) :
  WpS P G fn.ntmps σ.length (.seq x y) (Z1a P G fn res σ') s := by
 intro E m a w hE hdom hr
 refine wp_seq (wp_mono (hx E m a w hdom hr) ?_)
 rintro e a' w' ⟨s', m', h1, h2⟩
 cases e with
 | normal => exact hy s' h1 E m' a' w' hE hdom h2
 | ret => exact Z1b hE hdom h1 h2
 | _ => exact h1.elim
theorem Frame.join {E : Ent} {m1 m2 : MapM} {w w1 : World} {ds : List Deferred} (h : Frame E m1 w) (h' : Frame ⟨m1, w, ds⟩ m2 w1) (hk : ∀ b r, E.m b = some r → (r.wr = false ∨ r.mv = false) → m2 b = some r) : Frame E m2 w1 :=
 h.trans h' (fun _ _ h => h) (fun b r hb _ => .inr ⟨b, hb⟩) hk
theorem Frame.joinKeep {E : Ent} {m1 m2 : MapM} {w w1 : World} {ds : List Deferred} (h : Frame E m1 w) (h' : Frame ⟨m1, w, ds⟩ m2 w1) : Frame E m2 w1 :=
 h.join h' fun b r h1 h2 => h'.keep b r (h.keep b r h1 h2) h2
theorem Zeh.before {nt : Nat} {ops : Array Oper} {Q : Exit → Act → World → Prop} {E : Ent} {o : Oper} {R : St → Prop} (hQ : ∀ s m a w, R s → SRel G nt E m s a w → wpList P ops Q [o] a w) :
  ∀ (l : List Oper) (s : St), Zeh P G nt ops R l s → ∀ m a w, SRel G nt E m s a w → wpList P ops Q (l ++ [o]) a w
 | [], s, h, m, a, w, hr => hQ s m a w h hr
 | o' :: l, s, h, m, a, w, hr => by
  obtain ⟨s2, h1, h2⟩ := h
  have := h1 E m a w hr (wpList P ops Q (l ++ [o])) Q (fun m' a' w' hr' => Zeh.before hQ l s2 h2 m' a' w' hr')
  rw [List.cons_append]
  unfold wpList
  split
  ·rename_i hw; rw [if_pos hw] at this; exact .inl this
  ·rename_i hw; rw [if_neg hw] at this; exact this
def Z7x (P : Program) (G : Glob) (fn : Func) (σ : List Blk) (res : Value) (σ' : List Blk) (tE : TypeId) (b : Nat) (errv : Value) : Exit → St → Prop
  | .normal, s | .ret, s => ∃ v e, EndOK P G fn σ res σ' s v e
  | .panic ch, s => (∃ u pv, ch = [{ v := .iface u pv, recovered := false }]) ∧ ∃ v e blk', Zfg P tE s.heap (.pointer (some ⟨b, 0, none⟩)) errv = some (b, blk') ∧ EndOK P G fn σ res σ' ⟨s.tmps, s.heap.set b blk'⟩ v e
  | _, _ => False
def Zxs (P : Program) (kf : FuncId) (tE : TypeId) (errv : Value) : Prop :=
  (∀ (p : Addr) (u : TypeId) (pv : Value) (w w' : World), (Instr.storeAt tE (.pointer (some p)) errv).run P w = .ok () w' →
    CallsD P kf #[.pointer (some p)] (.panicking [{ v := .iface u pv, recovered := false }]) w fun e u' w'' => (∃ r, e = .returned r) ∧ u' = .panicking [{ v := .iface u pv, recovered := true }] ∧ w'' = w') ∧
  ∀ (p : Addr) (w : World), CallsD P kf #[.pointer (some p)] .returning w fun e u' w'' => (∃ r, e = .returned r) ∧ u' = .returning ∧ w'' = w
theorem WpS.deferC {fn : Func} {σ σ' : List Blk} {res : Value} {s : St} {i : Nat} {pre : List Oper} {o : Oper} {z : Code} {kf : FuncId} {x : Operand} {ts : Array TypeId} {tE : TypeId} {errv : Value} {K : St → Prop}
    (hop : o.op = .defer { callee := .value (.func kf), args := #[x], argTypes := ts }) (hgd : o.guard = none) (hdst : Zb1 fn.ntmps o.dst = true) (hk : Zc6 P kf = true) (herr : Zbl errv = true) (hcatch : Zxs P kf tE errv)
    (hpre : Zeh P G fn.ntmps (pre ++ [o]).toArray K pre s)
    (hrest : ∀ s1, K s1 → ∃ b blk, s1.eval x = .pointer (some ⟨b, 0, none⟩) ∧ s1.heap[b]? = some blk ∧ 0 < blk.sz ∧ blk.mv = false ∧ WpL P G fn.ntmps s1.heap.length z (Z7x P G fn σ res σ' tE b errv) (s1.put o.dst undef)) :
    WpS P G fn.ntmps σ.length (.seq (.region i (pre ++ [o]).toArray false) z) (Z1a P G fn res σ') s := by
  intro E m a w hE hdom hr
  refine wp_seq (wp_region_list ?_)
  refine Zeh.before (E := E) (R := K) ?_ pre s hpre m a w hr
  intro s1 m1 a1 w1 hK hr1
  obtain ⟨b, blk, he, hb, hsz, hmv, hz⟩ := hrest s1 hK
  have hev := hr1.eval x
  rw [he] at hev
  obtain ⟨r, hrb, hpe⟩ : ∃ r, m1 b = some r ∧ a1.eval x = .pointer (some ⟨r.g, r.lo + 0, none⟩) := hev
  have hex : (execOp a1.eval o).run P w1 = .ok (.defer { target := .fn (.func kf) #[], args := #[a1.eval x] }) w1 := by
    simp [execOp, hop, resolve, Deferred.ofValue, Act.eval]
  have hwant : Region.wanted o (yielded (pre ++ [o]).toArray a1.tmps) = true := by unfold Region.wanted; rw [hgd]
  unfold wpList
  rw [if_pos hwant]
  refine .inl ?_
  unfold Oper.wp
  rw [hex]
  show z.wp P _ _ w1
  have hdf : a1.defers = [] := by rw [hr1.defers, hE]
  have hp := hr1.put hdst (v := undef) (v' := undef) VR.undef
  have hsize : (({ a1 with defers := { target := .fn (.func kf) #[], args := #[a1.eval x] } :: a1.defers } : Act).put o.dst undef).tmps = (a1.put o.dst undef).tmps := by cases o.dst <;> rfl
  have hdefs : (({ a1 with defers := { target := .fn (.func kf) #[], args := #[a1.eval x] } :: a1.defers } : Act).put o.dst undef).defers = [{ target := .fn (.func kf) #[], args := #[a1.eval x] }] := by
    cases o.dst <;> simp [Act.put, hdf]
  have hheap : (s1.put o.dst undef).heap = s1.heap := by cases o.dst <;> rfl
  have hr2 : SRel G fn.ntmps ⟨m1, w1, [{ target := .fn (.func kf) #[], args := #[a1.eval x] }]⟩ m1 (s1.put o.dst undef) (({ a1 with defers := { target := .fn (.func kf) #[], args := #[a1.eval x] } :: a1.defers } : Act).put o.dst undef) w1 :=
    ⟨by rw [hsize]; exact hp.size, by rw [hsize]; exact hp.tmps, hdefs, hp.heap, Frame.refl _ hr1.heap⟩
  refine wp_mono (hz ⟨m1, w1, [{ target := .fn (.func kf) #[], args := #[a1.eval x] }]⟩ m1 _ w1 (fun q hq => hr1.heap.dom hq) hr2) ?_
  rintro e a2 w2 ⟨s2, m2, hq, hr3⟩
  have hm2 : m2 b = some r := hr3.frame.keep b r hrb (.inr (by have := hr1.heap.at_ hb hrb; rw [this.2.2.2.2.2]; exact hmv))
  have hinv : (invoke (.fn (.func kf) #[]) #[a1.eval x]).run P w2 = .ok (.enter kf #[a1.eval x]) w2 := by
    have := Zjq (P := P) hk #[a1.eval x] w2
    simpa [invoke] using this
  have hfin : ∀ (s3 : St) (w3 : World), SRel G fn.ntmps ⟨m1, w1, [{ target := .fn (.func kf) #[], args := #[a1.eval x] }]⟩ m2 s3 a2 w3 → (∃ v e, EndOK P G fn σ res σ' s3 v e) →
      ∃ v, (results fn a2.tmps).run P w3 = .ok v w3 ∧ ∃ v' m', Ending.returned v = .returned v' ∧ HRel G m' σ' w3 ∧ VR m' res v' ∧ Frame E m' w3 := by
    rintro s3 w3 hs3 ⟨v, e, hO⟩
    obtain ⟨v', g1, g2⟩ := Zdl hs3 hO.out
    have hF : Frame E m2 w3 := hr1.frame.joinKeep hs3.frame
    obtain ⟨E1, E2, E3⟩ := E
    obtain ⟨k1, k2, k3⟩ := hO.back hdom hs3.heap hF g2 (ds' := E3)
    exact ⟨v', g1, v', _, rfl, k1, k2, k3⟩
  have hret : (∃ v e, EndOK P G fn σ res σ' s2 v e) → Leaves P fn a2.tmps (fun en w' => ∃ v' m', en = .returned v' ∧ HRel G m' σ' w' ∧ VR m' res v' ∧ Frame E m' w') a2.defers .returning w2 := by
    intro h
    rw [hr3.defers]
    refine leaves_cons (by simp) hinv ?_
    rw [hpe]
    refine (hcatch.2 _ w2).mono ?_
    rintro e u' w3 ⟨⟨rv, rfl⟩, rfl, rfl⟩
    exact hfin s2 _ hr3 h
  cases e with
  | normal => exact hret hq
  | ret => exact hret hq
  | panic ch =>
    obtain ⟨⟨u, pv, rfl⟩, v, e, blk', hst, hO⟩ := hq
    obtain ⟨h1, h2⟩ := Zvm hst
    obtain ⟨w3, h3, h4, h5⟩ := Znd (x' := errv) (v' := .pointer (some ⟨r.g, r.lo + 0, none⟩)) hr3.heap hr3.frame h1 ⟨r, hm2, rfl⟩ (VR.of_pure herr)
    show Leaves P fn a2.tmps _ a2.defers (.panicking _) w2
    rw [hr3.defers]
    refine leaves_cons (by simp) hinv ?_
    rw [hpe]
    refine (hcatch.1 _ u pv w2 w3 h3).mono ?_
    rintro e u' w4 ⟨⟨rv, rfl⟩, rfl, rfl⟩
    exact hfin ⟨s2.tmps, s2.heap.set b blk'⟩ _ ⟨hr3.size, hr3.tmps, hr3.defers, h4, h5⟩ ⟨v, e, hO⟩
  | _ => exact hq.elim
end
end Go.Flat
end
section
/- The rules of the walks, where something panics. -/
namespace Go.Flat
section
variable {P : Program} {G : Glob} {nt n0 : Nat} {Q : Exit → St → Prop} {s : St} {x y z : Code}
theorem Z5i {f : FuncId} {fn : Func} {c : Code} {args : List Value} {σ : List Blk} (hf : P.funcs[f]? = some fn) (hb : fn.body = some c) {nt : Nat} (hn : fn.ntmps = nt) (hl : decide (args.length ≤ nt) = true)
  (h : C P G nt σ.length c (fun e _ => ∃ u v, e = Zhv u v) ⟨Zht args, σ⟩) : Zsc P G f args σ := by subst hn; exact Zsc.intro hf hb (by simpa using hl) h.h
theorem Z3g {u : TypeId} {v : Value} : X (fun e _ => ∃ u v, e = Zhv u v) (Zhv u v) s := ⟨⟨u, v, rfl⟩⟩
theorem Zo6 {u : TypeId} {v : Value} (h : X Q (Zhv u v) s) : X (Z0s P G nt n0 x Q) (Zhv u v) s := ⟨h.h⟩
theorem Znk {i : Nat} {u : TypeId} {v : Value} (h : X Q (Zhv u v) s) : X (Zed i Q) (Zhv u v) s := ⟨h.h⟩
theorem Znl {next : St → Prop} {u : TypeId} {v : Value} (h : X Q (Zhv u v) s) : X (Zea next Q) (Zhv u v) s := ⟨h.h⟩
variable {T : Nat → Value} {H : List Blk}
theorem Zbv.mono {ops : Array Oper} {K K' : Trace → St → Prop} (hk : ∀ tr s, K tr s → K' tr s) : ∀ {l : List Oper} {tr : Trace} {s : St}, Zbv P G nt ops K l tr s → Zbv P G nt ops K' l tr s
 | [], _, _, h => hk _ _ h
 | _ :: _, _, _, ⟨δ, h1, h2⟩ => ⟨δ, h1, Zbv.mono hk h2⟩
theorem Z5w {i : Nat} {L pre post : List Oper} {o : Oper} (hL : L = pre ++ o :: post) (h : R P G nt L (fun _ s => Zhc P G nt L.toArray o s ∧ ∀ u v, X Q (Zhv u v) s) pre [] T H) : C P G nt n0 (.region i L.toArray false) Q ⟨T, H⟩ := ⟨by
 intro E m a w h0 hr
 refine wp_region_list ?_
 rw [List.toList_toArray]
 have := Zeh.pan (P := P) (G := G) (nt := nt) (ops := L.toArray) (Q := Zqu G nt E Q) (E := E) (o := o) (post := post) (R := fun s => ∀ u v, X Q (Zhv u v) s) (fun s u v m a w h1 h2 => ⟨s, m, (h1 u v).h, h2⟩) pre ⟨T, H⟩ (by
  have hs := (Zbv.mono (K' := fun _ s => Zhc P G nt L.toArray o s ∧ ∀ u v, X Q (Zhv u v) s) (fun _ _ h => h) h.h).seq
  have : ∀ (l : List Oper) (s : St), Zeh P G nt L.toArray (fun s => ∃ tr : Trace, Zhc P G nt L.toArray o s ∧ ∀ u v, X Q (Zhv u v) s) l s → Zeh P G nt L.toArray (fun s => Zhc P G nt L.toArray o s ∧ ∀ u v, X Q (Zhv u v) s) l s := by
   intro l
   induction l with
   | nil => exact fun s ⟨_, h⟩ => h
   | cons o l ih => exact fun s ⟨s2, h1, h2⟩ => ⟨s2, h1, ih _ h2⟩
  exact this _ _ hs) m a w hr
 rw [hL] at this ⊢
 exact this⟩
variable {ops : List Oper} {d : Option Tmp} {ty : TypeId} {ps : String} {af : Array Edge} {g : Option (Nat × Bool)}
theorem Z6c {f : Operand} {args : Array Operand} {ts : Array TypeId} {k : FuncId} {first captured : Array Value} {argsL vals : List Value} {σ : List Blk} {e : Emb} (hC : Zsc P G k argsL σ) (hg : gd nt T ops g = some true) (hf : St.eval ⟨T, H⟩ f = .func (.func k) first captured) (hcap : (first.toList.all Zc8 && captured.toList.all Zc8) = true) (hk : Zc6 P k = true)
  (ha : first.toList ++ args.toList.map (St.eval ⟨T, H⟩) ++ captured.toList = vals) (hro : (σ.all fun L => !L.wr) = true) (hdist : Zj6 e σ = true) (hnames : Zg4 e σ = true) (hargs : Zjs e argsL vals) (hemb : Zii H e e σ) :
  Zhc P G nt ops.toArray ⟨d, .call { callee := .value f, args := args, argTypes := ts }, ty, ps, af, g⟩ ⟨T, H⟩ := by
 subst ha
 exact Zhc.call rfl hf (by simpa using hcap) hk (by rw [Zc7]; exact hg) hC e hro hargs hemb hdist hnames
theorem Zyt {x : Operand} {u : TypeId} {v : Value} (hg : gd nt T ops g = some true) (hx : St.eval ⟨T, H⟩ x = .iface u v) : Zhc P G nt ops.toArray ⟨d, .panic x, ty, ps, af, g⟩ ⟨T, H⟩ := by
 intro E m a w hr K Q hK
 refine ⟨Zfb (by rw [Zc7]; exact hg) hr, ?_⟩
 have hv := Zbg hr (x := x) (by rw [hx]; rfl)
 rw [hx] at hv
 unfold Oper.wp
 have : (execOp a.eval ⟨d, .panic x, ty, ps, af, g⟩).run P w = .halt (.panic (.iface u v)) w := by
  simp [execOp, hv, Instr.panic, goPanic]
 rw [this]
 exact hK u v a w hr
end
end Go.Flat
end
section
/- A region that draws its order, and in which an operation panics. -/
namespace Go.Flat
section
variable {P : Program} {G : Glob}
def Zsa (P : Program) (G : Glob) (nt : Nat) (ops : Array Oper) (o : Oper) (foot : List Nat) (s : St) : Prop := ∀ s', Agree ops o foot s s' → Zhc P G nt ops o s'
theorem Zzf {nt : Nat} {ops : Array Oper} {tr : Trace} {po : Oper} {foot : List Nat} {s0 : St} {n : Nat} (hm : P.follows .mixedOrders = true) (hn : tr.length = n) (hops : (tr.map (·.1)) = ops.toList.take n) (hpo : ops[n]? = some po)
    (hok : Zev ops (tr ++ [(po, { val := undef, foot := foot })]) s0.heap.length = true) (hlater : ∀ j, n < j → j < ops.size → n ∈ (clo ops.toList).getD j [])
    (hloc : ∀ (i : Nat) (o : Oper) (δ : Delta), tr[i]? = some (o, δ) → Zau P G nt ops o (stS s0 (fun _ => true) (tr.take i) 0) δ)
    (hpan : Zsa P G nt ops po foot (stS s0 (fun _ => true) tr 0))
    {id : Nat} {Q : Exit → Act → World → Prop} {E : Ent} {m : MapM} {a : Act} {w : World} (hr : SRel G nt E m s0 a w) (hQ : ∀ S u v m a w, SRel G nt E m (stS s0 S tr 0) a w → Q (Zhv u v) a w) : (Code.region id ops true).wp P Q a w := by
  have htrn : (tr ++ [(po, ({ val := undef, foot := foot } : Delta))])[n]? = some (po, { val := undef, foot := foot }) := by subst hn; simp
  have hnlt : n < ops.size := (Array.getElem?_eq_some_iff.1 hpo).1
  have hcut : ∀ S : Nat → Bool, S n = false → stS s0 S (tr ++ [(po, { val := undef, foot := foot })]) 0 = stS s0 S tr 0 := by
    intro S hS
    have : ∀ (l : Trace) (k : Nat) (s : St), S (k + l.length) = false → stS s S (l ++ [(po, { val := undef, foot := foot })]) k = stS s S l k := by
      intro l
      induction l with
      | nil => intro k s h; simp only [List.length_nil, Nat.add_zero] at h; simp [stS, h]
      | cons p l ih =>
        intro k s h
        obtain ⟨o, δ⟩ := p
        simp only [List.cons_append, stS]
        exact ih (k + 1) _ (by rw [← h]; congr 1; simp; omega)
    exact this tr 0 s0 (by rw [Nat.zero_add, hn]; exact hS)
  simp only [Zev, Bool.and_eq_true, List.all_eq_true] at hok
  obtain ⟨⟨hin, hback⟩, hind⟩ := hok
  generalize htrP : tr ++ [(po, ({ val := undef, foot := foot } : Delta))] = trP at *
  have hlen : trP.length = n + 1 := by rw [← htrP]; simp [hn]
  have hpre : ∀ (i : Nat), i < n → trP[i]? = tr[i]? := by
    intro i hi
    rw [← htrP, List.getElem?_append_left (by omega)]
  have htk : ∀ (i : Nat), i ≤ n → trP.take i = tr.take i := by
    intro i hi
    rw [← htrP, List.take_append_of_le_length (by omega)]
  have htr : ∀ (i : Nat) (p : Oper × Delta), trP[i]? = some p → ops[i]? = some p.1 := by
    intro i p hp
    have hi : i < n + 1 := by rw [← hlen]; exact (List.getElem?_eq_some_iff.1 hp).1
    rcases Nat.lt_or_ge i n with h | h
    · rw [hpre i h] at hp
      have := congrArg (fun l => l[i]?) hops
      simp only [List.getElem?_map, hp, Option.map_some, List.getElem?_take, if_pos h, Array.getElem?_toList] at this
      exact this.symm
    · have : i = n := by omega
      subst this
      rw [htrn] at hp; injection hp with hp; subst hp
      exact hpo
  have hinp : ∀ (i j : Nat) (p q : Oper × Delta), trP[i]? = some p → trP[j]? = some q → i < j → i ∈ (clo ops.toList).getD j [] ∨ Zh6 ops p.1 p.2 q.1 q.2 = true := by
    intro i j p q hp hq hij
    have h1 := hind (p, i) (by rw [List.mem_iff_getElem?]; exact ⟨i, by simp [List.getElem?_zipIdx, hp]⟩)
    have h2 := h1 (q, j) (by rw [List.mem_iff_getElem?]; exact ⟨j, by simp [List.getElem?_zipIdx, hq]⟩)
    simp only [Bool.or_eq_true, decide_eq_true_eq] at h2
    rcases h2 with (h2 | h2) | h2
    · omega
    · exact .inl (by simpa using h2)
    · exact .inr h2
  have hbk : ∀ (j : Nat) (o : Oper), ops[j]? = some o → ∀ e, e ∈ o.after → Region.binds .any e = true → e.on < j := by
    intro j o ho e he hb
    have h1 := hback (o, j) (by rw [List.mem_iff_getElem?]; exact ⟨j, by simp [List.getElem?_zipIdx, ho]⟩)
    simp only [Array.all_eq_true_iff_forall_mem] at h1
    have := h1 e he
    rw [hb] at this
    simpa using this
  have key : ∀ (fuel : Nat) (listed : Array Bool) (m : MapM) (a : Act) (w : World), listed.size = ops.size → Zi5 ops.toList (fun j => listed.getD j false) → unl ops.size (fun j => listed.getD j false) ≤ fuel → listed.getD n false = false →
      SRel G nt E m (stS s0 (fun j => listed.getD j false) trP 0) a w → wpAny P .any ops Q fuel listed a w := by
    intro fuel
    have hdone : ∀ (listed : Array Bool) (a : Act) (w : World), listed.size = ops.size → listed.getD n false = false → Region.ready .any ops listed = [] → Q .normal a w := by
      intro listed a w hsz hnn hrd
      exfalso
      obtain ⟨q, hq1, hq2, hq3⟩ := Zjd (p := fun j => listed.getD j false = false) ⟨n, hnlt, hnn⟩
      have : q ∈ Region.ready .any ops listed := by
        refine mem_ready.2 ⟨?_, ops[q], by simp [hq1], fun e he hb => ?_⟩
        · have : q < listed.size := by omega
          simpa [Array.getD_eq_getD_getElem?, Array.getElem?_eq_getElem this] using hq2
        · have hlt := hbk q ops[q] (by simp [hq1]) e he hb
          have := hq3 e.on hlt
          simpa using this
      rw [hrd] at this; cases this
    induction fuel with
    | zero =>
      intro listed m a w hsz hc hu hnn hr
      have hall := Zqq (Nat.le_zero.1 hu) n hnlt
      rw [hnn] at hall; cases hall
    | succ fuel ih =>
      intro listed m a w hsz hc hu hnn hr
      refine ⟨fun hrd => hdone listed a w hsz hnn hrd, fun i hi => ?_⟩
      obtain ⟨h1, o, ho, hed⟩ := mem_ready.1 hi
      have hlt : i < ops.size := (Array.getElem?_eq_some_iff.1 ho).1
      have hltl : i < listed.size := by omega
      have hSi : listed.getD i false = false := by
        simp [Array.getD_eq_getD_getElem?, Array.getElem?_eq_getElem hltl] at h1 ⊢; exact h1
      have hin1 : i ≤ n := by
        rcases Nat.lt_or_ge n i with hgt | hle
        · exfalso
          have hc' : Zi5 ops.toList (fun k => k == i || listed.getD k false) := by
            intro k ok hk hSk e he hb
            by_cases hki : k = i
            · subst hki
              have : ok = o := by rw [Array.getElem?_toList, ho] at hk; injection hk with hk; exact hk.symm
              subst this
              have := hed e he hb
              simp only [this, Bool.or_true]
            · have : listed.getD k false = true := by simpa [hki] using hSk
              have := hc k ok hk this e he hb
              simp only at this
              simp only [this, Bool.or_true]
          have h4 := Zep hc' (i := n) (j := i) (by simp) (hlater i hgt hlt)
          have : n ≠ i := by omega
          simp only [beq_iff_eq, this, Bool.or_eq_true, false_or, hnn] at h4
          cases h4
        · exact hle
      have hltt : i < trP.length := by omega
      obtain ⟨p, hp⟩ : ∃ p, trP[i]? = some p := ⟨trP[i], by simp [hltt]⟩
      obtain ⟨o', δ⟩ := p
      have hoo := htr i _ hp
      rw [ho] at hoo; injection hoo with hoo
      simp only at hoo
      subst hoo
      -- the state where it stands in the text
      have hag : Agree ops o δ.foot (stS s0 (fun _ => true) (trP.take i) 0) (stS s0 (fun j => listed.getD j false) trP 0) := by
        have h2 := Zkn trP 0 i s0
        simp only [Nat.zero_add] at h2
        rw [← h2]
        refine Zqn trP 0 s0 s0 hin ⟨fun _ _ => rfl, fun _ _ => rfl, rfl⟩ ?_
        intro j q hq
        rw [Nat.zero_add]
        by_cases hji : j < i
        · cases hS : listed.getD j false with
          | true => left; simp [hji]
          | false =>
            right; left
            rcases hinp j i q (o, δ) hq hp hji with h3 | h3
            · exfalso
              have hc' : Zi5 ops.toList (fun k => k == i || listed.getD k false) := by
                intro k ok hk hSk e he hb
                by_cases hki : k = i
                · subst hki
                  have : ok = o := by rw [Array.getElem?_toList, ho] at hk; injection hk with hk; exact hk.symm
                  subst this
                  have := hed e he hb
                  simp only [this, Bool.or_true]
                · have : listed.getD k false = true := by simpa [hki] using hSk
                  have := hc k ok hk this e he hb
                  simp only at this
                  simp only [this, Bool.or_true]
              have h4 := Zep hc' (i := j) (j := i) (by simp) h3
              have : j ≠ i := by omega
              simp only [beq_iff_eq, this, Bool.or_eq_true, false_or, hS] at h4
              cases h4
            · exact h3
        · by_cases hje : j = i
          · subst hje; left; simp [hSi]
          · cases hS : listed.getD j false with
            | false => left; simp [hji]
            | true =>
              right; right
              rcases hinp i j (o, δ) q hp hq (by omega) with h3 | h3
              · exfalso
                have := Zep hc (i := i) (j := j) hS h3
                rw [hSi] at this; cases this
              · exact h3
      rcases Nat.lt_or_ge i n with hin2 | hin2
      case inr =>
        have hie : i = n := by omega
        subst hie
        rw [htrn] at hp
        injection hp with hp
        obtain ⟨rfl, rfl⟩ := Prod.mk.inj hp
        rw [htk i (Nat.le_refl _), List.take_of_length_le (by omega)] at hag
        obtain ⟨g1, g2⟩ := hpan _ hag E m a w hr (wpAny P .any ops Q fuel (listed.setIfInBounds i true)) Q (fun u v a' w' h => hQ (fun j => listed.getD j false) u v m a' w' (by rw [← hcut _ hnn]; exact h))
        unfold wpOp
        simp only [ho]
        rw [if_pos g1]
        exact .inl g2
      have hto := hloc i o δ (by rw [← hpre i hin2]; exact hp) _ (by rw [← htk i (by omega)]; exact hag) E m a w hr
      unfold wpOp
      simp only [ho]
      have hnext : ∀ m' a' w', SRel G nt E m' (δ.apply o.dst (stS s0 (fun j => listed.getD j false) trP 0)) a' w' → wpAny P .any ops Q fuel (listed.setIfInBounds i true) a' w' := by
        intro m' a' w' hr'
        have hS' : (fun j => (listed.setIfInBounds i true).getD j false) = fun j => j == i || listed.getD j false := by
          funext j
          by_cases hji : j = i
          · subst hji; simp [Array.getD_eq_getD_getElem?, Array.getElem?_setIfInBounds, hltl]
          · rw [getD_set_ne false (fun e => hji e.symm)]; simp [hji]
        refine ih _ m' a' w' (by simp [hsz]) ?_ ?_ (by rw [getD_set_ne false (fun e => by omega)]; exact hnn) ?_
        · rw [hS']
          intro k ok hk hSk e he hb
          by_cases hki : k = i
          · subst hki
            have : ok = o := by rw [Array.getElem?_toList, ho] at hk; injection hk with hk; exact hk.symm
            subst this
            have := hed e he hb
            simp only [this, Bool.or_true]
          · have : listed.getD k false = true := by simpa [hki] using hSk
            have := hc k ok hk this e he hb
            simp only at this
            simp only [this, Bool.or_true]
        · rw [hS']
          have := Zl3 (S := fun j => listed.getD j false) hlt hSi
          omega
        · rw [hS', Zl0 (ops := ops) (S := fun j => listed.getD j false) hSi trP 0 s0 (Nat.zero_le _) (by simpa using hp) hin (fun j q hq hlt' hSj => ?_)]
          · exact hr'
          · rw [Nat.zero_add] at hlt' hSj
            rcases hinp i j (o, δ) q hp hq hlt' with h3 | h3
            · exfalso
              have := Zep hc (i := i) (j := j) hSj h3
              rw [hSi] at this; cases this
            · exact h3
      have h5 := hto _ Q hnext
      split
      · rename_i hw; rw [if_pos hw] at h5; exact .inl h5
      · rename_i hw; rw [if_neg hw] at h5; exact h5
  refine wp_region_any hm ?_
  refine key ops.size (Array.replicate ops.size false) m a w.drew (by simp) ?_ ?_ (by simp [Array.getD_eq_getD_getElem?, Array.getElem?_replicate, hnlt]) ?_
  · intro j o ho hS e he hb
    exfalso
    simp [Array.getD_eq_getD_getElem?, Array.getElem?_replicate] at hS
    split at hS <;> simp at hS
  · unfold unl
    have := List.length_filter_le (fun j => !(Array.replicate ops.size false).getD j false) (List.range ops.size)
    simpa using this
  · have : stS s0 (fun j => (Array.replicate ops.size false).getD j false) trP 0 = s0 := by
      rw [Zd8 (T := fun _ => false) trP 0 s0 (fun j hj => by simp [Array.getD_eq_getD_getElem?, Array.getElem?_replicate]; split <;> rfl)]
      exact Zkm _ _ _
    rw [this]
    exact hr.drew
end
end Go.Flat
end
section
/- The rule for a region that draws its order and panics. -/
namespace Go.Flat
section
variable {P : Program} {G : Glob} {nt n0 : Nat} {Q : Exit → St → Prop} {T : Nat → Value} {H : List Blk}
def Zqe (tr : Trace) : Bool := tr.all fun p => p.2.sets.isEmpty && p.2.kill.isNone
def Zog (tr : Trace) : List Nat := tr.filterMap fun p => p.1.dst
def deadT (l : List Nat) (T : Nat → Value) : Nat → Value := fun t => if l.contains t then dead else T t
theorem Zr0 {S : Nat → Bool} : ∀ (tr : Trace) (k : Nat) (s : St), Zqe tr = true → (stS s S tr k).heap = s.heap ∧ ∀ t, (Zog tr).contains t = false → (stS s S tr k).tmps t = s.tmps t
  | [], k, s, _ => ⟨rfl, fun _ _ => rfl⟩
  | (o, δ) :: l, k, s, h => by
    simp only [Zqe, List.all_cons, Bool.and_eq_true] at h
    obtain ⟨⟨h1, h2⟩, h3⟩ := h
    have hs : δ.sets = [] := by simpa using h1
    have hk : δ.kill = none := by simpa using h2
    obtain ⟨g1, g2⟩ := Zr0 (S := S) l (k + 1) (if S k then δ.apply o.dst s else s) h3
    simp only [stS]
    have hh : (if S k then δ.apply o.dst s else s).heap = s.heap := by
      split
      · simp only [Delta.apply, hs, hk, Zd7]; cases o.dst <;> rfl
      · rfl
    refine ⟨g1.trans hh, fun t ht => ?_⟩
    have ht2 : (Zog l).contains t = false ∧ o.dst ≠ some t := by
      unfold Zog at ht ⊢
      cases ho : o.dst with
      | none => simp [ho] at ht ⊢; exact ht
      | some d => simp [ho] at ht ⊢; exact ⟨ht.2, fun e => ht.1 e.symm⟩
    rw [g2 t ht2.1]
    split
    · rw [Zbz]; unfold Zq4; rw [if_neg ht2.2, hk]
    · rfl
theorem SRel.deadT {E : Ent} {m : MapM} {s : St} {tr : Trace} {S : Nat → Bool} {a : Act} {w : World} (hq : Zqe tr = true) (h : SRel G nt E m (stS s S tr 0) a w) : SRel G nt E m ⟨Flat.deadT (Zog tr) s.tmps, s.heap⟩ a w := by
 obtain ⟨g1, g2⟩ := Zr0 (S := S) tr 0 s hq
 refine ⟨h.size, fun t => ?_, h.defers, by rw [← g1]; exact h.heap, h.frame⟩
 show VR m (if (Zog tr).contains t then dead else s.tmps t) _
 cases hc : (Zog tr).contains t with
 | true => rw [if_pos rfl]; exact VR.dead
 | false =>
  rw [if_neg (by simp)]
  have := h.tmps t
  rw [g2 t hc] at this
  exact this
def Zsx (L : List Oper) (n : Nat) : Bool := (List.range L.length).all fun j => decide (j ≤ n) || ((clo L).getD j []).contains n
theorem Z3s {i : Nat} {L pre post : List Oper} {o : Oper} {foot : List Nat} (hm : P.follows .mixedOrders = true) (hL : L = pre ++ o :: post) (hl : Zsx L pre.length = true)
  (h : R P G nt L (fun tr s => Zev L.toArray (tr ++ [(o, { val := undef, foot := foot })]) H.length = true ∧ Zsa P G nt L.toArray o foot s ∧ Zqe tr = true ∧ ∀ u v, X Q (Zhv u v) ⟨deadT (Zog tr) T, H⟩) pre [] T H) : C P G nt n0 (.region i L.toArray true) Q ⟨T, H⟩ := ⟨by
 intro E m a w h0 hr
 obtain ⟨tr, g1, ⟨g2, g4, g5, g6⟩, g3⟩ := Zbv.drawn (s0 := ⟨T, H⟩) h.h rfl (by simp)
 simp only [List.map_nil, List.nil_append] at g1
 have hlen : tr.length = pre.length := by have := congrArg List.length g1; simpa using this
 refine Zzf (po := o) (foot := foot) (n := pre.length) hm hlen (by rw [g1, hL]; simp) (by rw [hL]; simp) g2 (fun j h1 h2 => ?_) g3 g4 hr (fun S u v m a w hr => ⟨_, m, (g6 u v).h, hr.deadT g5⟩)
 unfold Zsx at hl
 rw [List.all_eq_true] at hl
 have := hl j (by simpa using h2)
 simp only [Bool.or_eq_true, decide_eq_true_eq] at this
 rcases this with h | h
 ·omega
 ·simpa using h⟩
variable {ops : List Oper} {d : Option Tmp} {ty : TypeId} {ps : String} {af : Array Edge} {g : Option (Nat × Bool)}
theorem Z4k {f : Operand} {args : Array Operand} {ts : Array TypeId} {k : FuncId} {first captured : Array Value} {argsL vals : List Value} {σ : List Blk} {e : Emb} (hC : Zsc P G k argsL σ) (hg : gd nt T ops g = some true) (hf : St.eval ⟨T, H⟩ f = .func (.func k) first captured) (hcap : (first.toList.all Zc8 && captured.toList.all Zc8) = true) (hk : Zc6 P k = true)
  (ha : first.toList ++ args.toList.map (St.eval ⟨T, H⟩) ++ captured.toList = vals) (hro : (σ.all fun L => !L.wr) = true) (hdist : Zj6 e σ = true) (hnames : Zg4 e σ = true) (hargs : Zjs e argsL vals) (hemb : Zii H e e σ) :
  Zsa P G nt ops.toArray ⟨d, .call { callee := .value f, args := args, argTypes := ts }, ty, ps, af, g⟩ (Zrj e) ⟨T, H⟩ := by
 intro s' hs
 subst ha
 have hop : ∀ x, x ∈ (Op.call { callee := .value f, args := args, argTypes := ts }).operands → s'.eval x = St.eval ⟨T, H⟩ x := fun x hx => Zag hs hx
 have hf' : s'.eval f = .func (.func k) first captured := by rw [hop f (by simp [Op.operands, Call.operands])]; exact hf
 have hargs' : args.toList.map s'.eval = args.toList.map (St.eval ⟨T, H⟩) := List.map_congr_left fun x hx => hop x (by simp [Op.operands, Call.operands]; exact .inr (by simpa using hx))
 refine Zhc.call rfl hf' (by simpa using hcap) hk ?_ hC e hro (by rw [hargs']; exact hargs) ?_ hdist hnames
 ·rw [Zgo hs, Zc7]; exact hg
 ·refine Zjb (fun p hp q hq => ?_) hemb
  subst hq
  exact hs.heap q.1 (List.mem_filterMap.2 ⟨some q, hp, rfl⟩)
end
end Go.Flat
end
section
/- The two rules, by the place of the operation that panics. -/
namespace Go.Flat
section
variable {P : Program} {G : Glob} {nt n0 : Nat} {Q : Exit → St → Prop} {T : Nat → Value} {H : List Blk}
theorem Zwh {α : Type} {L : List α} {n : Nat} {o : α} (ho : L[n]? = some o) : L = L.take n ++ o :: L.drop (n + 1) := by
 obtain ⟨h, he⟩ := List.getElem?_eq_some_iff.1 ho
 rw [← he, ← List.drop_eq_getElem_cons h, List.take_append_drop]
theorem Zsk (n : Nat) {i : Nat} {L pre : List Oper} {o : Oper} (ho : L[n]? = some o) (hp : L.take n = pre) (h : R P G nt L (fun _ s => Zhc P G nt L.toArray o s ∧ ∀ u v, X Q (Zhv u v) s) pre [] T H) : C P G nt n0 (.region i L.toArray false) Q ⟨T, H⟩ := by
 subst hp; exact Z5w (Zwh ho) h
theorem Z00 (n : Nat) {i : Nat} {L pre : List Oper} {o : Oper} {foot : List Nat} (hm : P.follows .mixedOrders = true) (ho : L[n]? = some o) (hp : L.take n = pre) (hl : Zsx L n = true)
  (h : R P G nt L (fun tr s => Zev L.toArray (tr ++ [(o, { val := undef, foot := foot })]) H.length = true ∧ Zsa P G nt L.toArray o foot s ∧ Zqe tr = true ∧ ∀ u v, X Q (Zhv u v) ⟨deadT (Zog tr) T, H⟩) pre [] T H) : C P G nt n0 (.region i L.toArray true) Q ⟨T, H⟩ := by
 subst hp
 have hlen : (L.take n).length = n := by
  have := (List.getElem?_eq_some_iff.1 ho).1
  simp; omega
 exact Z3s (foot := foot) hm (Zwh ho) (by rw [hlen]; exact hl) h
end
end Go.Flat
end
