/- Panics, defers and recovers over the abstract heap; no condition. -/
import Derived.Test.YthfklplpfbmkgaaDoorFlatD
import Derived.Defers
import Derived.Recover
section
/- Panics: a function that ends in one; a call that does; the code around it. -/
set_option linter.unusedVariables false
set_option linter.unusedSimpArgs false
namespace Go.Flat
section
variable {P : Program} {G : Glob}
abbrev panE (u : TypeId) (v : Value) : Exit := .panic [{ v := .iface u v, recovered := false }]
def PanL (P : Program) (G : Glob) (f : FuncId) (args : List Value) (σ : List Blk) : Prop :=
  ∀ m w args', HRel G m σ w → L2 (VR m) args args' →
    Calls P f args'.toArray w fun e w' => ∃ u v, e = .panicked [{ v := .iface u v, recovered := false }] ∧ Frame ⟨m, w, []⟩ m w'
theorem PanL.intro {f : FuncId} {fn : Func} {c : Code} {args : List Value} {σ : List Blk} (hf : P.funcs[f]? = some fn) (hb : fn.body = some c) (hn : args.length ≤ fn.ntmps)
    (h : WpL P G fn.ntmps σ.length c (fun e _ => ∃ u v, e = panE u v) ⟨argT args, σ⟩) : PanL P G f args σ := by
  intro m w args' hH hA
  refine calls_of_wp hf hb ?_
  have hl := hA.1
  have hdom : ∀ b, σ.length ≤ b → m b = none := fun b hb => hH.dom hb
  have h0 := h ⟨m, w, []⟩ m { tmps := args'.toArray ++ Array.replicate (fn.ntmps - args'.toArray.size) undef, defers := [] } w hdom
    ⟨by simp; omega, fun i => by
      rcases hA.at_ i with ⟨x, y, h1, h2, h3⟩ | ⟨h1, h2⟩
      · have hi : i < args'.length := (List.getElem?_eq_some_iff.1 h2).1
        simp only [argT, h1, Option.getD_some]
        rw [Array.getD_eq_getD_getElem?, Array.getElem?_append_left (by simpa using hi)]
        simp only [List.getElem?_toArray, h2, Option.getD_some]
        exact h3
      · simp only [argT, h1, Option.getD_none]
        have : args'.length ≤ i := by simpa using h2
        rw [Array.getD_eq_getD_getElem?, Array.getElem?_append_right (by simpa using this)]
        rw [Array.getElem?_replicate]
        split <;> exact VR.undef, rfl, hH, Frame.refl [] hH⟩
  refine wp_mono h0 ?_
  rintro e a w' ⟨s, m', ⟨u, v, rfl⟩, hr⟩
  exact ⟨hr.defers, u, v, rfl, hr.frame.os, hr.frame.tape, hr.frame.output, hr.frame.size, hr.frame.block, fun b r hb hw hlt => .inr fun j h1 h2 => ⟨b, r, hb, hw, rfl, h1, h2⟩, fun b r hb _ => hb⟩


structure Ext (w w' : World) : Prop where
  os : w'.os = w.os
  tape : w'.tape = w.tape
  output : w'.output = w.output
  size : w.heap.size ≤ w'.heap.size
  block : ∀ (g : Nat) (o : Obj), w.heap[g]? = some o → w'.heap[g]? = some o
theorem Frame.ext {m m' : MapM} {w w' : World} (hm : ∀ b r, m b = some r → r.wr = false) (h : Frame ⟨m, w, []⟩ m' w') : Ext w w' := by
  refine ⟨h.os, h.tape, h.output, h.size, fun g o ho => ?_⟩
  obtain ⟨o', h1, h2⟩ := h.block g o ho
  rw [h1, h2.same hm]
theorem Ext.cell {w w' : World} (h : Ext w w') {a : Addr} {v : Value} (hc : w.cell? a = some v) : w'.cell? a = some v := by
  unfold World.cell? at hc ⊢
  cases ho : w.heap[a.block]? with
  | none => rw [ho] at hc; cases hc
  | some o => rw [ho] at hc; rw [h.block _ _ ho]; exact hc
theorem Ext.frozen {w w' : World} (h : Ext w w') {a : Addr} {v : Value} (hc : w.cell? a = some v) : w'.frozen? a = w.frozen? a := by
  unfold World.cell? at hc
  cases ho : w.heap[a.block]? with
  | none => rw [ho] at hc; cases hc
  | some o => unfold World.frozen?; rw [ho, h.block _ _ ho]
theorem HRel.ext {m : MapM} {σ : List Blk} {w w' : World} (h : HRel G m σ w) (hx : Ext w w') : HRel G m σ w' where
  reg := h.reg
  live := h.live
  cell := fun b blk r i v h1 h2 h3 => let ⟨v', g1, g2⟩ := h.cell b blk r i v h1 h2 h3; ⟨v', hx.cell g1, g2⟩
  pur := h.pur
  own := fun b r h1 h2 => ⟨(h.own b r h1 h2).1, fun j h3 h4 => let ⟨v, g1, g2⟩ := (h.own b r h1 h2).2 j h3 h4; ⟨v, hx.cell g1, by rw [hx.frozen g1]; exact g2⟩⟩
  dis := h.dis
  glob := fun g cs hg => ⟨Nat.lt_of_lt_of_le (h.glob g cs hg).1 hx.size, fun i v hv => ⟨hx.cell ((h.glob g cs hg).2 i v hv).1, ((h.glob g cs hg).2 i v hv).2⟩⟩
  gwr := h.gwr
theorem Frame.thenExt {E : Ent} {m : MapM} {w w' : World} (h : Frame E m w) (hx : Ext w w') : Frame E m w' :=
  ⟨hx.os.trans h.os, hx.tape.trans h.tape, hx.output.trans h.output, Nat.le_trans h.size hx.size, fun g o ho => let ⟨o', h1, h2⟩ := h.block g o ho; ⟨o', hx.block g o' h1, h2⟩, h.reg, h.keep⟩
theorem SRel.ext {nt : Nat} {E : Ent} {m : MapM} {s : St} {a : Act} {w w' : World} (h : SRel G nt E m s a w) (hx : Ext w w') : SRel G nt E m s a w' :=
  ⟨h.size, h.tmps, h.defers, h.heap.ext hx, h.frame.thenExt hx⟩


def PanTo (P : Program) (G : Glob) (nt : Nat) (ops : Array Oper) (o : Oper) (s : St) : Prop :=
  ∀ E m a w, SRel G nt E m s a w → ∀ (K : Act → World → Prop) (Q : Exit → Act → World → Prop), (∀ u v a' w', SRel G nt E m s a' w' → Q (panE u v) a' w') →
    Region.wanted o (yielded ops a.tmps) = true ∧ o.wp P a w K Q
theorem PanTo.call {nt : Nat} {ops : Array Oper} {o : Oper} {s : St} {f : Operand} {args : Array Operand} {ts : Array TypeId} {k : FuncId} {first captured : Array Value}
    (ho : o.op = .call { callee := .value f, args := args, argTypes := ts }) (hf : s.eval f = .func (.func k) first captured) (hcap : first.toList.all okCap = true ∧ captured.toList.all okCap = true) (hk : callable P k = true) (hg : guardA nt s (guardT ops o) = some true)
    {argsL : List Value} {σ : List Blk} (hC : PanL P G k argsL σ) (e : Emb) (hro : (σ.all fun L => !L.wr) = true) (hargs : argVs e argsL (first.toList ++ args.toList.map s.eval ++ captured.toList)) (hemb : embAll s.heap e e σ) (hdist : distOK e σ = true) (hnames : namesOK e σ = true) :
    PanTo P G nt ops o s := by
  intro E m a w hr K Q hK
  refine ⟨guardA_sound hg hr, ?_⟩
  have hfv := hr.eval f
  rw [hf] at hfv
  obtain ⟨first', captured', hf', hL1, hL2⟩ := hfv
  have hex := exec_call (P := P) ho hf' hk w
  have hargsC : L2 (VR m) (first.toList ++ args.toList.map s.eval ++ captured.toList) (first' ++ args.map a.eval ++ captured').toList := by
    simp only [Array.toList_append, Array.toList_map]
    refine ((caps_VR hL1 hcap.1).append ?_).append (caps_VR hL2 hcap.2)
    refine ⟨by simp, fun i x y hx hy => ?_⟩
    simp only [List.getElem?_map, Option.map_eq_some_iff] at hx hy
    obtain ⟨p, hp1, rfl⟩ := hx
    obtain ⟨q, hq1, rfl⟩ := hy
    rw [hp1] at hq1; injection hq1 with hq1; subst hq1
    exact hr.eval p
  obtain ⟨hel, hone⟩ := embAll_sound hemb
  have hE : EmbOK s.heap e σ := ⟨hel, hone, dist_of (H := s.heap) hdist⟩
  have hnm : ∀ (i : Nat) (L : Blk), σ[i]? = some L → L.pur = true ∨ ∀ v, v ∈ L.cells → namesC (inE e) v = true := by
    intro i L hL
    have := hnames
    simp only [namesOK, List.all_eq_true, Bool.or_eq_true] at this
    exact this L (List.mem_of_getElem? hL)
  have hA := arg_VRs hr.heap hE _ _ _ hargs hargsC
  have hem := hr.heap.embed hE hnm
  have hcall := hC (mE m e σ) w (first' ++ args.map a.eval ++ captured').toList hem hA
  rw [Array.toArray_toList] at hcall
  unfold Oper.wp
  rw [hex]
  show Calls P k (first' ++ args.map a.eval ++ captured') w _
  refine hcall.mono ?_
  rintro en w' ⟨u, v, rfl, hF⟩
  refine hK u v a w' (hr.ext (hF.ext ?_))
  intro b r hb
  obtain ⟨blk, g1, _, g3, _⟩ := hem.reg b r hb
  rw [g3]
  simp only [List.all_eq_true] at hro
  have := hro blk (List.mem_of_getElem? g1)
  simpa using this
theorem PanTo.sound {nt : Nat} {ops : Array Oper} {Q : Exit → Act → World → Prop} {E : Ent} {o : Oper} {post : List Oper} {s : St} (h : PanTo P G nt ops o s) (hQ : ∀ u v m a w, SRel G nt E m s a w → Q (panE u v) a w) {m : MapM} {a : Act} {w : World} (hr : SRel G nt E m s a w) : wpList P ops Q (o :: post) a w := by
  obtain ⟨h1, h2⟩ := h E m a w hr (wpList P ops Q post) Q (fun u v a' w' h => hQ u v m a' w' h)
  unfold wpList
  rw [if_pos h1]
  exact .inl h2
end
end Go.Flat
end
section
/- A function that defers one call which recovers. -/
set_option linter.unusedVariables false
set_option linter.unusedSimpArgs false
namespace Go.Flat
section
variable {P : Program} {G : Glob}
def WpS (P : Program) (G : Glob) (nt n0 : Nat) (c : Code) (Φ : Ent → Exit → Act → World → Prop) (s : St) : Prop :=
  ∀ E m a w, E.defers = [] → (∀ b, n0 ≤ b → E.m b = none) → SRel G nt E m s a w → c.wp P (Φ E) a w
def endD (P : Program) (G : Glob) (fn : Func) (res : Value) (σ' : List Blk) (E : Ent) : Exit → Act → World → Prop :=
  bodyPostD P fn fun en w' => ∃ v' m', en = .returned v' ∧ HRel G m' σ' w' ∧ VR m' res v' ∧ Frame E m' w'
theorem Frame.join {E : Ent} {m1 m2 : MapM} {w w1 : World} {ds : List Deferred} (h : Frame E m1 w) (h' : Frame ⟨m1, w, ds⟩ m2 w1) (hk : ∀ b r, E.m b = some r → (r.wr = false ∨ r.mv = false) → m2 b = some r) : Frame E m2 w1 :=
  h.trans h' (fun _ _ h => h) (fun b r hb _ => .inr ⟨b, hb⟩) hk
theorem Frame.joinKeep {E : Ent} {m1 m2 : MapM} {w w1 : World} {ds : List Deferred} (h : Frame E m1 w) (h' : Frame ⟨m1, w, ds⟩ m2 w1) : Frame E m2 w1 :=
  h.join h' fun b r h1 h2 => h'.keep b r (h.keep b r h1 h2) h2
theorem SeqTo.before {nt : Nat} {ops : Array Oper} {Q : Exit → Act → World → Prop} {E : Ent} {o : Oper} {R : St → Prop} (hQ : ∀ s m a w, R s → SRel G nt E m s a w → wpList P ops Q [o] a w) :
    ∀ (l : List Oper) (s : St), SeqTo P G nt ops R l s → ∀ m a w, SRel G nt E m s a w → wpList P ops Q (l ++ [o]) a w
  | [], s, h, m, a, w, hr => hQ s m a w h hr
  | o' :: l, s, h, m, a, w, hr => by
    obtain ⟨s2, h1, h2⟩ := h
    have := h1 E m a w hr (wpList P ops Q (l ++ [o])) Q (fun m' a' w' hr' => SeqTo.before hQ l s2 h2 m' a' w' hr')
    rw [List.cons_append]
    unfold wpList
    split
    · rename_i hw; rw [if_pos hw] at this; exact .inl this
    · rename_i hw; rw [if_neg hw] at this; exact this
def endQ (P : Program) (G : Glob) (fn : Func) (σ : List Blk) (res : Value) (σ' : List Blk) (tE : TypeId) (b : Nat) (errv : Value) : Exit → St → Prop
  | .normal, s | .ret, s => ∃ v e, EndOK P G fn σ res σ' s v e
  | .panic ch, s => (∃ u pv, ch = [{ v := .iface u pv, recovered := false }]) ∧ ∃ v e blk', storeD P tE s.heap (.pointer (some ⟨b, 0, none⟩)) errv = some (b, blk') ∧ EndOK P G fn σ res σ' ⟨s.tmps, s.heap.set b blk'⟩ v e
  | _, _ => False
def CatchOK (P : Program) (kf : FuncId) (tE : TypeId) (errv : Value) : Prop :=
  (∀ (p : Addr) (u : TypeId) (pv : Value) (w w' : World), (Instr.storeAt tE (.pointer (some p)) errv).run P w = .ok () w' →
    CallsD P kf #[.pointer (some p)] (.panicking [{ v := .iface u pv, recovered := false }]) w fun e u' w'' => (∃ r, e = .returned r) ∧ u' = .panicking [{ v := .iface u pv, recovered := true }] ∧ w'' = w') ∧
  ∀ (p : Addr) (w : World), CallsD P kf #[.pointer (some p)] .returning w fun e u' w'' => (∃ r, e = .returned r) ∧ u' = .returning ∧ w'' = w
end
end Go.Flat
end
section
/- The rules of the walks, where something panics. -/
set_option linter.unusedVariables false
namespace Go.Flat
section
variable {P : Program} {G : Glob} {nt n0 : Nat} {Q : Exit → St → Prop} {s : St} {x y z : Code}
variable {T : Nat → Value} {H : List Blk}
theorem RunD.mono {ops : Array Oper} {K K' : Trace → St → Prop} (hk : ∀ tr s, K tr s → K' tr s) : ∀ {l : List Oper} {tr : Trace} {s : St}, RunD P G nt ops K l tr s → RunD P G nt ops K' l tr s
  | [], _, _, h => hk _ _ h
  | _ :: _, _, _, ⟨δ, h1, h2⟩ => ⟨δ, h1, RunD.mono hk h2⟩
variable {ops : List Oper} {d : Option Tmp} {ty : TypeId} {ps : String} {af : Array Edge} {g : Option (Nat × Bool)}
end
end Go.Flat
end
section
/- A region that draws its order, and in which an operation panics. -/
set_option linter.unusedVariables false
set_option linter.unusedSimpArgs false
namespace Go.Flat
section
variable {P : Program} {G : Glob}
def LPanTo (P : Program) (G : Glob) (nt : Nat) (ops : Array Oper) (o : Oper) (foot : List Nat) (s : St) : Prop := ∀ s', Agree ops o foot s s' → PanTo P G nt ops o s'
end
end Go.Flat
end
section
/- The rule for a region that draws its order and panics. -/
set_option linter.unusedVariables false
namespace Go.Flat
section
variable {P : Program} {G : Glob} {nt n0 : Nat} {Q : Exit → St → Prop} {T : Nat → Value} {H : List Blk}
def quietT (tr : Trace) : Bool := tr.all fun p => p.2.sets.isEmpty && p.2.kill.isNone
def dstsT (tr : Trace) : List Nat := tr.filterMap fun p => p.1.dst
def deadT (l : List Nat) (T : Nat → Value) : Nat → Value := fun t => if l.contains t then dead else T t
theorem stS_quiet {S : Nat → Bool} : ∀ (tr : Trace) (k : Nat) (s : St), quietT tr = true → (stS s S tr k).heap = s.heap ∧ ∀ t, (dstsT tr).contains t = false → (stS s S tr k).tmps t = s.tmps t
  | [], k, s, _ => ⟨rfl, fun _ _ => rfl⟩
  | (o, δ) :: l, k, s, h => by
    simp only [quietT, List.all_cons, Bool.and_eq_true] at h
    obtain ⟨⟨h1, h2⟩, h3⟩ := h
    have hs : δ.sets = [] := by simpa using h1
    have hk : δ.kill = none := by simpa using h2
    obtain ⟨g1, g2⟩ := stS_quiet (S := S) l (k + 1) (if S k then δ.apply o.dst s else s) h3
    simp only [stS]
    have hh : (if S k then δ.apply o.dst s else s).heap = s.heap := by
      split
      · simp only [Delta.apply, hs, hk, setsA]; cases o.dst <;> rfl
      · rfl
    refine ⟨g1.trans hh, fun t ht => ?_⟩
    have ht2 : (dstsT l).contains t = false ∧ o.dst ≠ some t := by
      unfold dstsT at ht ⊢
      cases ho : o.dst with
      | none => simp [ho] at ht ⊢; exact ht
      | some d => simp [ho] at ht ⊢; exact ⟨ht.2, fun e => ht.1 e.symm⟩
    rw [g2 t ht2.1]
    split
    · rw [apply_tmps]; unfold tmpF; rw [if_neg ht2.2, hk]
    · rfl
theorem SRel.deadT {E : Ent} {m : MapM} {s : St} {tr : Trace} {S : Nat → Bool} {a : Act} {w : World} (hq : quietT tr = true) (h : SRel G nt E m (stS s S tr 0) a w) : SRel G nt E m ⟨Flat.deadT (dstsT tr) s.tmps, s.heap⟩ a w := by
  obtain ⟨g1, g2⟩ := stS_quiet (S := S) tr 0 s hq
  refine ⟨h.size, fun t => ?_, h.defers, by rw [← g1]; exact h.heap, h.frame⟩
  show VR m (if (dstsT tr).contains t then dead else s.tmps t) _
  cases hc : (dstsT tr).contains t with
  | true => rw [if_pos rfl]; exact VR.dead
  | false =>
    rw [if_neg (by simp)]
    have := h.tmps t
    rw [g2 t hc] at this
    exact this
def laterOK (L : List Oper) (n : Nat) : Bool := (List.range L.length).all fun j => decide (j ≤ n) || ((clo L).getD j []).contains n
variable {ops : List Oper} {d : Option Tmp} {ty : TypeId} {ps : String} {af : Array Edge} {g : Option (Nat × Bool)}
end
end Go.Flat
end
section
/- The two rules, by the place of the operation that panics. -/
set_option linter.unusedVariables false
namespace Go.Flat
section
variable {P : Program} {G : Glob} {nt n0 : Nat} {Q : Exit → St → Prop} {T : Nat → Value} {H : List Blk}
theorem cut_at {α : Type} {L : List α} {n : Nat} {o : α} (ho : L[n]? = some o) : L = L.take n ++ o :: L.drop (n + 1) := by
  obtain ⟨h, he⟩ := List.getElem?_eq_some_iff.1 ho
  rw [← he, ← List.drop_eq_getElem_cons h, List.take_append_drop]
end
end Go.Flat
end
