/- Walks. -/
import Derived.Test.YtlnggiomppkjmaaDoorFlatG
import Derived.RangeFuncRecord
import Derived.RangeFuncIn
import Derived.RangeFuncLeaves
import Derived.RangeFuncCalls
import Derived.RangeFuncSeq
import Derived.OrdersIn
import Derived.ControlIn
import Derived.TacticsIn
import Derived.LoopNIn
set_option linter.unusedVariables false
set_option linter.unusedSimpArgs false
section
/- Code in a round of a range over a function; and code that calls such a round. -/
namespace Go.Flat
section
variable {P : Program} {G : Glob}
def FR (ro : Option Nat) : Fence := { Fence.wide with round := ro }
theorem Z33 {ro : Option Nat} {n : Nat} {f : FuncId} {args : Array Value} {w : World} {R : Ending → World → Prop} (h : Calls P f args w R) : CallsIn (FR ro) n P f args w R := by
 have := (callsIn_wide (n := n)).2 h
 exact this
theorem Z5u {ro : Option Nat} {n : Nat} {row : String} {args : Array Value} {w : World} {R : Value → World → Prop} (h : Rows P row args w R) : RowsIn (FR ro) n P row args w R := by
 intro c cs _
 obtain ⟨v, w', r, s⟩ := h c cs
 exact ⟨v, w', r, stepsIn_wide.2 s⟩
theorem Z56 {ro : Option Nat} {o : Oper} {a : Act} {w : World} {K : Act → World → Prop} {Q : Exit → Act → World → Prop} (hnd : ∀ c, o.op ≠ .defer c) (h : o.wp P a w K Q) : o.wpIn (FR ro) 0 P a w K Q := by
  refine ⟨fun _ _ => trivial, ?_⟩
  rw [Oper.semAt_eq _ _ _ hnd]
  unfold Oper.wp at h
  revert h
  generalize (execOp a.eval o).run P w = r
  intro h
  cases r with
  | ok x w' =>
    cases x <;> simp only [Oper.upon, Oper.uponIn] at h ⊢ <;> first | exact h | exact h.elim | exact ⟨fun e => (by cases e), Z33 h⟩ | exact ⟨fun e => (by cases e), Z5u h⟩
  | halt x w' => cases x <;> simp only [Oper.upon, Oper.uponIn] at h ⊢ <;> exact h
theorem Zgb.soundR {ro : Option Nat} {nt : Nat} {ops : Array Oper} {K : St → Prop} {Q : Exit → Act → World → Prop} {E : Ent} {rest : List Oper} (hQ : ∀ s m a w, K s → SRel G nt E m s a w → wpListIn (FR ro) 0 P ops Q rest a w) :
  ∀ (l : List Oper) (s : St), (∀ o, o ∈ l → ∀ c, o.op ≠ .defer c) → Zgb P G nt ops K l s → ∀ m a w, SRel G nt E m s a w → wpListIn (FR ro) 0 P ops Q (l ++ rest) a w
 | [], s, hnd, h, m, a, w, hr => hQ s m a w h hr
 | o :: l, s, hnd, h, m, a, w, hr => by
  obtain ⟨s2, h1, h2⟩ := h
  have := h1 E m a w hr (wpListIn (FR ro) 0 P ops Q (l ++ rest)) Q (fun m' a' w' hr' => Zgb.soundR hQ l s2 (fun o ho => hnd o (List.mem_cons_of_mem _ ho)) h2 m' a' w' hr')
  rw [List.cons_append]
  unfold wpListIn
  split
  ·rename_i hw; rw [if_pos hw] at this; exact Z56 (hnd o List.mem_cons_self) this
  ·rename_i hw; rw [if_neg hw] at this; exact ⟨fun _ _ => trivial, this⟩
def Zno (l : List Oper) : Bool := l.all fun o => match o.op with | .defer _ => false | _ => true
theorem Zkl {l : List Oper} (h : Zno l = true) : ∀ o, o ∈ l → ∀ c, o.op ≠ .defer c := by
  intro o ho c e
  have := List.all_eq_true.1 h o ho
  rw [e] at this; cases this

def WpR (ro : Option Nat) (P : Program) (G : Glob) (nt n0 : Nat) (c : Code) (Q : Exit → St → Prop) (s : St) : Prop :=
  ∀ E m a w, (∀ b, n0 ≤ b → E.m b = none) → SRel G nt E m s a w → c.wpIn (FR ro) 0 P (Zpd G nt E Q) a w
structure CW (ro : Option Nat) (P : Program) (G : Glob) (nt n0 : Nat) (c : Code) (Q : Exit → St → Prop) (s : St) : Prop where
  h : WpR ro P G nt n0 c Q s
section
variable {ro : Option Nat} {nt n0 : Nat} {Q : Exit → St → Prop} {s : St} {x y z : Code} {c : Operand}
theorem CW.mono {Q' : Exit → St → Prop} (h : CW ro P G nt n0 x Q s) (hq : ∀ e s, Q e s → Q' e s) : CW ro P G nt n0 x Q' s :=
 ⟨fun E m a w h0 hr => wpIn_mono (h.h E m a w h0 hr) fun e a w ⟨s, m, h1, h2⟩ => ⟨s, m, hq _ _ h1, h2⟩⟩
theorem Z35 (h : CW ro P G nt n0 x (Zea (CW ro P G nt n0 y Q) Q) s) : CW ro P G nt n0 (.seq x y) Q s := ⟨fun E m a w h0 hr => by
 refine wpIn_seq (wpIn_mono (h.h E m a w h0 hr) ?_)
 rintro e a' w' ⟨s', m', h1, h2⟩
 cases e with
 | normal => exact h1.h E m' a' w' h0 h2
 | _ => exact ⟨s', m', h1, h2⟩⟩
theorem Zn5 {i : Nat} {L : List Oper} {T : Nat → Value} {H : List Blk} (hnd : Zno L = true) (h : R P G nt L (fun _ s => X Q .normal s) L [] T H) : CW ro P G nt n0 (.region i L.toArray false) Q ⟨T, H⟩ := ⟨fun E m a w h0 hr => by
 refine wpIn_region_list ?_
 have := Zgb.soundR (ro := ro) (Q := Zpd G nt E Q) (K := fun s => ∃ tr : Trace, X Q .normal s) (rest := []) (ops := L.toArray) (fun s m a w ⟨_, h1⟩ h2 => ⟨s, m, h1.h, h2⟩) L _ (Zkl hnd) h.h.seq m a w hr
 rw [List.append_nil] at this
 simpa using this⟩
theorem Zy0 (h : X Q .ret s) : CW ro P G nt n0 .ret Q s := ⟨fun E m a w h0 hr => wpIn_ret ⟨s, m, h.h, hr⟩⟩
theorem Z1u (hc : s.eval c = .bool true) (h : CW ro P G nt n0 x Q s) : CW ro P G nt n0 (.cond c x y) Q s := ⟨fun E m a w h0 hr => wpIn_cond (t := true) (by rw [Za6 hr (by rw [hc]; rfl), hc]) (h.h E m a w h0 hr)⟩
theorem Zkg {i : Nat} {E : Ent} {e : Exit} {a : Act} {w : World} (h : Zpd G nt E (Zee i Q) e a w) : Exit.inBlock i (Zpd G nt E Q) e a w := by
 obtain ⟨s', m', h1, h2⟩ := h
 cases e with
 | exit i' =>
  by_cases he : i' = i
  ·simp only [Zee, if_pos he] at h1
   simp only [Exit.inBlock, if_pos he]
   exact ⟨s', m', h1, h2⟩
  ·simp only [Zee, if_neg he] at h1
   simp only [Exit.inBlock, if_neg he]
   exact ⟨s', m', h1, h2⟩
 | _ => exact ⟨s', m', h1, h2⟩
theorem Zyz {i : Nat} (h : CW ro P G nt n0 x (Zee i Q) s) : CW ro P G nt n0 (.block i x) Q s := ⟨fun E m a w h0 hr => wpIn_block (wpIn_mono (h.h E m a w h0 hr) fun e a w h => Zkg h)⟩
theorem Zv5 {s' : St} (hw : Za7 G nt n0 s s') (h : CW ro P G nt n0 x Q s') : CW ro P G nt n0 x Q s := ⟨fun E m a w h0 hr => let ⟨m', h1⟩ := hw E m a w h0 hr; h.h E m' a w h0 h1⟩
theorem Zv4 (n : Nat) {T : Nat → Value} {H H' : List Blk} (hH : H ++ List.replicate n hole = H') (h : CW ro P G nt n0 x Q ⟨T, H'⟩) : CW ro P G nt n0 x Q ⟨T, H⟩ := by subst hH; exact Zv5 (Za7.reserve ⟨T, H⟩ n) h
end


def Zpp (G : Glob) (nt : Nat) (E : Ent) (St' : Ent → Prop) (Q Qs : Exit → St → Prop) : Exit → Act → World → Prop :=
  fun e a w => (∃ s m, Q e s ∧ SRel G nt E m s a w) ∨ ∃ E' s m, St' E' ∧ (∀ b, E'.m b = none) ∧ Qs e s ∧ SRel G nt E' m s a w
structure CY (P : Program) (G : Glob) (nt : Nat) (E : Ent) (St' : Ent → Prop) (c : Code) (Q Qs : Exit → St → Prop) (s : St) : Prop where
  h : ∀ m a w, SRel G nt E m s a w → c.wpIn (FR none) 0 P (Zpp G nt E St' Q Qs) a w
def Zgk (H : List Blk) (b : Nat) : Bool := match H[b]? with | some x => !(x.wr && x.mv) | none => false
def Zng (P : Program) (G : Glob) (E : Ent) (l : Nat) (argsL : List Value) (H H' : List Blk) (ok : Prop) (Stop : World → Prop) : Prop :=
  ∀ m w args', HRel G m H w → Frame E m w → L2 (VR m) argsL args' → YieldAt (FR none) 0 P l args'.toArray w fun e w' =>
    (e = .returned (.bool true) ∧ ok ∧ ∃ m', HRel G m' H' w' ∧ Frame E m' w' ∧ ∀ b r, m b = some r → (r.wr = false ∨ r.mv = false) → m' b = some r) ∨ (e = .returned (.bool false) ∧ Stop w' ∧ HRel G (fun _ => none) [] w')
section
variable {nt n0 : Nat} {E : Ent} {St' : Ent → Prop} {Q Qs : Exit → St → Prop} {s : St} {x y z : Code} {c : Operand}
theorem Zjb (h : CY P G nt E St' x (Zea (CY P G nt E St' y Q Qs) Q) (Zea (CW none P G nt 0 y Qs) Qs) s) : CY P G nt E St' (.seq x y) Q Qs s := ⟨fun m a w hr => by
 refine wpIn_seq (wpIn_mono (h.h m a w hr) ?_)
 rintro e a' w' (⟨s', m', h1, h2⟩ | ⟨E', s', m', g1, g2, h1, h2⟩)
 ·cases e with
  | normal => exact h1.h m' a' w' h2
  | _ => exact .inl ⟨s', m', h1, h2⟩
 ·cases e with
  | normal => exact wpIn_mono (h1.h E' m' a' w' (fun b _ => g2 b) h2) fun e a w ⟨s, m, q1, q2⟩ => .inr ⟨E', s, m, g1, g2, q1, q2⟩
  | _ => exact .inr ⟨E', s', m', g1, g2, h1, h2⟩⟩
theorem CY.of (hE : ∀ b, n0 ≤ b → E.m b = none) (h : CW none P G nt n0 x Q s) : CY P G nt E St' x Q Qs s := ⟨fun m a w hr => wpIn_mono (h.h E m a w hE hr) fun e a w ⟨s, m, q1, q2⟩ => .inl ⟨s, m, q1, q2⟩⟩
theorem Zn6 {i : Nat} {L : List Oper} {T : Nat → Value} {H : List Blk} (hnd : Zno L = true) (h : R P G nt L (fun _ s => X Q .normal s) L [] T H) : CY P G nt E St' (.region i L.toArray false) Q Qs ⟨T, H⟩ := ⟨fun m a w hr => by
 refine wpIn_region_list ?_
 have := Zgb.soundR (ro := none) (Q := Zpp G nt E St' Q Qs) (K := fun s => ∃ tr : Trace, X Q .normal s) (rest := []) (ops := L.toArray) (fun s m a w ⟨_, h1⟩ h2 => .inl ⟨s, m, h1.h, h2⟩) L _ (Zkl hnd) h.h.seq m a w hr
 rw [List.append_nil] at this
 simpa using this⟩
theorem Zv6 (h : X Q .normal s) : CY P G nt E St' .skip Q Qs s := ⟨fun m a w hr => wpIn_skip (.inl ⟨s, m, h.h, hr⟩)⟩
theorem Z1v {i : Nat} (h : X Q (.exit i) s) : CY P G nt E St' (.exit i) Q Qs s := ⟨fun m a w hr => wpIn_exit (.inl ⟨s, m, h.h, hr⟩)⟩
theorem Z1y (hc : s.eval c = .bool true) (h : CY P G nt E St' x Q Qs s) : CY P G nt E St' (.cond c x y) Q Qs s := ⟨fun m a w hr => wpIn_cond (t := true) (by rw [Za6 hr (by rw [hc]; rfl), hc]) (h.h m a w hr)⟩
theorem Zse (hc : s.eval c = .bool false) (h : CY P G nt E St' y Q Qs s) : CY P G nt E St' (.cond c x y) Q Qs s := ⟨fun m a w hr => wpIn_cond (t := false) (by rw [Za6 hr (by rw [hc]; rfl), hc]) (h.h m a w hr)⟩
theorem Zsd {i : Nat} (h : CY P G nt E St' x (Zee i Q) (Zee i Qs) s) : CY P G nt E St' (.block i x) Q Qs s := ⟨fun m a w hr => by
 refine wpIn_block (wpIn_mono (h.h m a w hr) fun e a w h => ?_)
 rcases h with h | ⟨E', s', m', g1, g2, h1, h2⟩
 ·have := Zkg (E := E) (i := i) (e := e) (a := a) (w := w) (Q := Q) h
  cases e with
  | exit i' => simp only [Exit.inBlock] at this ⊢; split at this <;> (split <;> first | exact .inl this | contradiction)
  | _ => exact .inl this
 ·have := Zkg (E := E') (i := i) (e := e) (a := a) (w := w) (Q := Qs) ⟨s', m', h1, h2⟩
  cases e with
  | exit i' =>
   simp only [Exit.inBlock] at this ⊢
   split at this
   ·rename_i he; rw [if_pos he]; obtain ⟨s2, m2, q1, q2⟩ := this; exact .inr ⟨E', s2, m2, g1, g2, q1, q2⟩
   ·rename_i he; rw [if_neg he]; obtain ⟨s2, m2, q1, q2⟩ := this; exact .inr ⟨E', s2, m2, g1, g2, q1, q2⟩
  | _ => obtain ⟨s2, m2, q1, q2⟩ := this; exact .inr ⟨E', s2, m2, g1, g2, q1, q2⟩⟩
theorem Z1z (hE : ∀ b, n0 ≤ b → E.m b = none) {s' : St} (hw : Za7 G nt n0 s s') (h : CY P G nt E St' x Q Qs s') : CY P G nt E St' x Q Qs s := ⟨fun m a w hr => let ⟨m', h1⟩ := hw E m a w hE hr; h.h m' a w h1⟩
theorem Z1w (hE : ∀ b, n0 ≤ b → E.m b = none) (n : Nat) {T : Nat → Value} {H H' : List Blk} (hH : H ++ List.replicate n hole = H') (h : CY P G nt E St' x Q Qs ⟨T, H'⟩) : CY P G nt E St' x Q Qs ⟨T, H⟩ := by subst hH; exact Z1z hE (Za7.reserve ⟨T, H⟩ n) h
theorem Z1x {α : Type} (hE : ∀ b, n0 ≤ b → E.m b = none) {T : Nat → Value} {H : List Blk} (st : α → List Value) (hp : α → List Blk) (φ : α → Prop) (μ : α → Nat) (x0 : α) (h0 : φ x0) (hs : Za7 G nt n0 ⟨T, H⟩ ⟨Tl (st x0), hp x0⟩)
  (round : ∀ x, φ x → CY P G nt E St' y (Zea (fun s1 => ∃ y, φ y ∧ μ y < μ x ∧ Za7 G nt n0 s1 ⟨Tl (st y), hp y⟩) Q) (Zea (fun _ => False) Qs) ⟨Tl (st x), hp x⟩) : CY P G nt E St' (.loop y) Q Qs ⟨T, H⟩ := ⟨fun m a w hr => by
 obtain ⟨m1, hr1⟩ := hs E m a w hE hr
 have key : ∀ n x, φ x → μ x < n → ∀ m a w, SRel G nt E m ⟨Tl (st x), hp x⟩ a w → Code.roundsIn (FR none) 0 P y (Zpp G nt E St' Q Qs) n a w := by
  intro n
  induction n with
  | zero => intro x hx hn; omega
  | succ n ih =>
   intro x hx hn m a w hr
   show y.wpIn (FR none) 0 P _ a w
   refine wpIn_mono ((round x hx).h m a w hr) ?_
   rintro e a' w' (⟨s', m', h1, h2⟩ | ⟨E', s', m', g1, g2, h1, h2⟩)
   ·cases e with
    | normal =>
     obtain ⟨y', hy1, hy2, hy3⟩ := h1
     obtain ⟨m2, hr2⟩ := hy3 E m' a' w' hE h2
     exact ih y' hy1 (by omega) m2 a' w' hr2
    | _ => exact .inl ⟨s', m', h1, h2⟩
   ·cases e with
    | normal => exact h1.elim
    | _ => exact .inr ⟨E', s', m', g1, g2, h1, h2⟩
 exact wpIn_loop_rounds (μ x0 + 1) (key _ x0 h0 (by omega) m1 a w hr1)⟩
def Zvl (P : Program) (G : Glob) (nt : Nat) (E : Ent) (Stop : World → Prop) (L post : List Oper) (f : Operand) (args : Array Operand) (d : Tmp) (Q Qs : Exit → St → Prop) (s : St) : Prop :=
  ∃ l vals H2 ok, s.eval f = .func (.yield l) #[] #[] ∧ args.toList.map s.eval = vals ∧ d < nt ∧ Zng P G E l vals s.heap H2 ok Stop ∧
    (ok → R P G nt L (fun _ s => X Q .normal s) post [] (upd (fun i => killV (Zgk s.heap) (s.tmps i)) d (.bool true)) H2) ∧
    R P G nt L (fun _ s => X Qs .normal s) post [] (upd (fun i => killV (fun _ => false) (s.tmps i)) d (.bool false)) []
theorem Zy1 {i : Nat} {Stop : World → Prop} (hS : ∀ w', Stop w' → St' ⟨fun _ => none, w', E.defers⟩) (n : Nat) {L pre post : List Oper} {f : Operand} {args : Array Operand} {ts : Array TypeId} {d : Tmp} {ty : TypeId} {ps : String} {af : Array Edge} (ho : L[n]? = some ⟨some d, .call { callee := .value f, args := args, argTypes := ts }, ty, ps, af, none⟩)
    (hp : L.take n = pre) (hq : L.drop (n + 1) = post) (hnd : Zno L = true) {T : Nat → Value} {H : List Blk}
    (h : R P G nt L (fun _ s => Zvl P G nt E Stop L post f args d Q Qs s) pre [] T H) : CY P G nt E St' (.region i L.toArray false) Q Qs ⟨T, H⟩ := ⟨fun m a w hr => by
  refine wpIn_region_list ?_
  have hL : L = pre ++ ⟨some d, .call { callee := .value f, args := args, argTypes := ts }, ty, ps, af, none⟩ :: post := by rw [← hp, ← hq]; exact Z36 ho
  have hndL := Zkl hnd
  have hndp : ∀ o, o ∈ pre → ∀ c, o.op ≠ .defer c := fun o ho => hndL o (by rw [hL]; exact List.mem_append_left _ ho)
  have hndq : ∀ o, o ∈ post → ∀ c, o.op ≠ .defer c := fun o ho => hndL o (by rw [hL]; exact List.mem_append_right _ (List.mem_cons_of_mem _ ho))
  rw [List.toList_toArray]
  have main := Zgb.soundR (ro := none) (ops := L.toArray) (Q := Zpp G nt E St' Q Qs) (K := fun s => ∃ tr : Trace, Zvl P G nt E Stop L post f args d Q Qs s) (rest := ⟨some d, .call { callee := .value f, args := args, argTypes := ts }, ty, ps, af, none⟩ :: post) (E := E) (fun s1 m1 a1 w1 hY hr1 => ?_) pre ⟨T, H⟩ hndp h.h.seq m a w hr
  · rw [← hL] at main; exact main
  obtain ⟨_, l, vals, H2, ok, hf, hv, hd, hyt, h1, h2⟩ := hY
  have hfv : a1.eval f = .func (.yield l) #[] #[] := by
    have := hr1.eval f
    rw [hf] at this
    obtain ⟨xs', ys', g1, g2, g3⟩ : ∃ xs' ys', a1.eval f = .func (.yield l) xs' ys' ∧ L2 (CR0 m1) [] xs'.toList ∧ L2 (CR0 m1) [] ys'.toList := this
    have e1 : xs' = #[] := by have := g2.nil_inv; cases xs'; simp at this; rw [this]
    have e2 : ys' = #[] := by have := g3.nil_inv; cases ys'; simp at this; rw [this]
    rw [g1, e1, e2]
  have hargs : L2 (VR m1) vals (args.map a1.eval).toList := by
    subst hv
    rw [Array.toList_map]
    refine ⟨by simp, fun j x' y' hx hy => ?_⟩
    rw [List.getElem?_map] at hx hy
    cases ho' : args.toList[j]? with
    | none => rw [ho'] at hx; cases hx
    | some o' =>
      rw [ho'] at hx hy
      simp at hx hy
      subst hx; subst hy
      exact hr1.eval o'
  obtain ⟨fn, tmps, assign, body, hy1, hy2⟩ := hyt m1 w1 _ hr1.heap hr1.frame hargs
  rw [Array.toArray_toList] at hy1
  unfold wpListIn
  rw [if_pos (show Region.wanted _ _ = true from rfl)]
  refine ⟨fun _ _ => trivial, ?_⟩
  have hex : (Oper.semAt (FR none).round a1.eval ⟨some d, .call { callee := .value f, args := args, argTypes := ts }, ty, ps, af, none⟩).run P w1 = .ok (.round l fn tmps assign body) w1 := by
    have : (FR none).round = none := rfl
    rw [this, Oper.semAt_none]
    simp [execOp, resolve, invoke, Deferred.ofValue, hfv, Sem.run_bind, Result.andThen, hy1]
  rw [hex]
  refine ⟨fun e => (by cases e), RoundIn.mono hy2 ?_⟩
  have hdst : Zbb nt (some d) = true := by simpa [Zbb] using hd
  rintro e w' (⟨rfl, hok, m', q1, q2, q3⟩ | ⟨rfl, q1, hH0⟩)
  · have hr2 : SRel G nt E m' ⟨upd (fun i => killV (Zgk s1.heap) (s1.tmps i)) d (.bool true), H2⟩ (a1.put (some d) (.bool true)) w' := by
      refine SRel.put (s := ⟨fun i => killV (Zgk s1.heap) (s1.tmps i), H2⟩) ?_ hdst (VR.of_pure rfl)
      refine ⟨hr1.size, fun i => ((hr1.tmps i).killV _).congr (p := Zgk s1.heap) (fun b r hb hm => q3 b r hm ?_) (Zgd _ _), hr1.defers, q1, q2⟩
      unfold Zgk at hb
      cases hH : s1.heap[b]? with
      | none => rw [hH] at hb; cases hb
      | some B =>
        rw [hH] at hb
        have := hr1.heap.at_ hH hm
        rw [this.2.1, this.2.2.2.2.2]
        cases hw : B.wr <;> cases hm' : B.mv <;> simp_all
    have := Zgb.soundR (ro := none) (ops := L.toArray) (Q := Zpp G nt E St' Q Qs) (K := fun s => ∃ tr : Trace, X Q .normal s) (rest := []) (E := E) (fun s m a w ⟨_, h1⟩ h2 => .inl ⟨s, m, h1.h, h2⟩) post _ hndq (h1 hok).h.seq m' _ w' hr2
    rw [List.append_nil] at this
    exact this
  · have hr2 : SRel G nt ⟨fun _ => none, w', E.defers⟩ (fun _ => none) ⟨upd (fun i => killV (fun _ => false) (s1.tmps i)) d (.bool false), []⟩ (a1.put (some d) (.bool false)) w' := by
      refine SRel.put (s := ⟨fun i => killV (fun _ => false) (s1.tmps i), []⟩) ?_ hdst (VR.of_pure rfl)
      exact ⟨hr1.size, fun i => ((hr1.tmps i).killV _).congr (p := fun _ => false) (fun b r hb => by cases hb) (Zgd _ _), hr1.defers, hH0, Frame.refl _ hH0⟩
    have := Zgb.soundR (ro := none) (ops := L.toArray) (Q := Zpp G nt E St' Q Qs) (K := fun s => ∃ tr : Trace, X Qs .normal s) (rest := []) (E := ⟨fun _ => none, w', E.defers⟩) (fun s m a w ⟨_, h1⟩ h2 => .inr ⟨_, s, m, hS w' q1, fun _ => rfl, h1.h, h2⟩) post _ hndq h2.h.seq _ _ w' hr2
    rw [List.append_nil] at this
    exact this⟩
end
end
end Go.Flat
end
section
/- The call of a round that stands under a guard. -/
namespace Go.Flat

section
variable {P : Program} {G : Glob}
variable {ro : Option Nat} {nt n0 : Nat} {Q : Exit → St → Prop} {s : St} {x y z : Code} {c : Operand}
variable {nt n0 : Nat} {E : Ent} {St' : Ent → Prop} {Q Qs : Exit → St → Prop} {s : St} {x y z : Code} {c : Operand}
def Z6f (P : Program) (G : Glob) (nt : Nat) (E : Ent) (Stop : World → Prop) (L post : List Oper) (g : Option (Nat × Bool)) (f : Operand) (args : Array Operand) (d : Tmp) (Q Qs : Exit → St → Prop) (s : St) : Prop :=
  ∃ l vals H2 ok, gd nt s.tmps L g = some true ∧ s.eval f = .func (.yield l) #[] #[] ∧ args.toList.map s.eval = vals ∧ d < nt ∧ Zng P G E l vals s.heap H2 ok Stop ∧
    (ok → R P G nt L (fun _ s => X Q .normal s) post [] (upd (fun i => killV (Zgk s.heap) (s.tmps i)) d (.bool true)) H2) ∧
    R P G nt L (fun _ s => X Qs .normal s) post [] (upd (fun i => killV (fun _ => false) (s.tmps i)) d (.bool false)) []
end
end Go.Flat
end
section
/- A range over a function: what its caller owes, what its iterator owes. -/
namespace Go.Flat
section
variable {P : Program} {G : Glob}

theorem Ztf {w : World} {l : Nat} {o0 o : Obj} (h0 : w.heap[l]? = some o0) (hn : o0.isCells = false) (ho : o.isCells = false) (a : Addr) : (w.putObj l o).cell? a = w.cell? a := by
 unfold World.cell?
 by_cases e : a.block = l
 ·rw [e, h0, World.putObj_heap_same (Array.getElem?_eq_some_iff.1 h0).1]
  cases o0 <;> cases o <;> simp_all [Obj.isCells]
 ·rw [World.putObj_heap_other e]
theorem Zpk {w : World} {l : Nat} {o0 o : Obj} (h0 : w.heap[l]? = some o0) (hn : o0.isCells = false) (ho : o.isCells = false) (a : Addr) : (w.putObj l o).frozen? a = w.frozen? a := by
 unfold World.frozen?
 by_cases e : a.block = l
 ·rw [e, h0, World.putObj_heap_same (Array.getElem?_eq_some_iff.1 h0).1]
  cases o0 <;> cases o <;> simp_all [Obj.isCells]
 ·rw [World.putObj_heap_other e]
theorem HRel.putObj {m : MapM} {σ : List Blk} {w : World} (h : HRel G m σ w) {l : Nat} {o0 o : Obj} (h0 : w.heap[l]? = some o0) (hn : o0.isCells = false) (ho : o.isCells = false) : HRel G m σ (w.putObj l o) :=
 h.congrW (by rw [World.putObj_size]; exact Nat.le_refl _) (fun a v hv => by rw [Ztf h0 hn ho]; exact hv) (fun a v hv => Zpk h0 hn ho a) (fun g c t hg => ⟨c, by
  rw [World.putObj_heap_other (fun e => by subst e; rw [h0] at hg; injection hg with hg; subst hg; cases hn)]; exact hg⟩)
theorem Frame.at_ {E : Ent} {m : MapM} {w : World} (h : Frame E m w) {l : Nat} {o : Obj} (h0 : E.w.heap[l]? = some o) (hn : o.isCells = false) : w.heap[l]? = some o := by
 obtain ⟨o', h1, h2⟩ := h.block l o h0
 rcases h2 with rfl | ⟨c, t, fr, c', rfl, _⟩
 ·exact h1
 ·cases hn
theorem Frame.put2 {m0 : MapM} {m : MapM} {w0 w : World} {ds ds' : List Deferred} (h : Frame ⟨m0, w0, ds⟩ m w) {l : Nat} (o : Obj) (hl : l < w0.heap.size) : Frame ⟨m0, w0.putObj l o, ds'⟩ m (w.putObj l o) := by
 refine ⟨h.os, h.tape, h.output, by simpa using h.size, fun g o' ho => ?_, fun b r h1 h2 h3 => by simpa using h.reg b r h1 h2 h3, h.keep⟩
 by_cases e : g = l
 ·subst e
  have hl2 : g < w.heap.size := Nat.lt_of_lt_of_le hl h.size
  simp only [World.putObj_heap_same hl] at ho
  injection ho with ho
  exact ⟨o, World.putObj_heap_same hl2, .inl ho⟩
 ·simp only [World.putObj_heap_other e] at ho ⊢
  exact h.block g o' ho
theorem Frame.putNew {E : Ent} {m : MapM} {w : World} (h : Frame E m w) {l : Nat} (o : Obj) (hl : E.w.heap.size ≤ l) : Frame E m (w.putObj l o) := by
 refine ⟨h.os, h.tape, h.output, by simpa using h.size, fun g o' ho => ?_, h.reg, h.keep⟩
 have hg : g < E.w.heap.size := (Array.getElem?_eq_some_iff.1 ho).1
 rw [World.putObj_heap_other (by omega)]
 exact h.block g o' ho
theorem Zte {w : World} {l : Nat} {o o' : Obj} (h : w.heap[l]? = some o) : (w.putObj l o').putObj l o = w := by
 unfold World.putObj
 have : (w.heap.setIfInBounds l o').setIfInBounds l o = w.heap := by
  apply Array.ext
  ·simp
  ·intro i h1 h2
   rw [Array.getElem_setIfInBounds (by simpa using h2)]
   split
   ·rename_i e; subst e
    rw [Array.getElem?_eq_getElem h2] at h; injection h with h; exact h.symm
   ·rename_i e
    rw [Array.getElem_setIfInBounds h2, if_neg e]
 simp only [this]
theorem Zrg {w : World} {l : Nat} {o o' : Obj} : (w.putObj l o').putObj l o = w.putObj l o := by
 unfold World.putObj
 have : (w.heap.setIfInBounds l o').setIfInBounds l o = w.heap.setIfInBounds l o := by
  apply Array.ext
  ·simp
  ·intro i h1 h2
   simp at h2
   rw [Array.getElem_setIfInBounds (by simpa using h2), Array.getElem_setIfInBounds h2]
   split
   ·rename_i e; rw [Array.getElem_setIfInBounds h2, if_pos e]
   ·rename_i e; rw [Array.getElem_setIfInBounds h2, if_neg e]
 simp only [this]
theorem Ext.alloc (w : World) (o : Obj) : Ext w (w.alloc o) :=
 ⟨rfl, rfl, rfl, by rw [World.size_alloc]; omega, fun g x hg => by
  have := (Array.getElem?_eq_some_iff.1 hg).1
  show (w.heap.push o)[g]? = some x
  rw [Array.getElem?_push, if_neg (by omega)]; exact hg⟩
theorem Ext.trans {w w' w'' : World} (h : Ext w w') (h' : Ext w' w'') : Ext w w'' :=
 ⟨h'.os.trans h.os, h'.tape.trans h.tape, h'.output.trans h.output, Nat.le_trans h.size h'.size, fun g o ho => h'.block g o (h.block g o ho)⟩
theorem HRel.none {m : MapM} {σ : List Blk} {w : World} (h : HRel G m σ w) : HRel G (fun _ => Option.none) [] w :=
  ⟨fun b r h => (by cases h), fun b x h => (by simp at h), fun b x r i v h => (by simp at h), fun b x h => (by simp at h), fun b r h => (by cases h), fun b r h => (by cases h), fun b b' r r' _ h => (by cases h), h.glob, fun b r j h => (by cases h)⟩


def Zyd (P : Program) (G : Glob) (gf : FuncId) (lbs : List Value) (N : Nat) (encs : Nat → List Value) (H0 : List Blk) (hpY hpZ : Nat → List Blk) (ok : Nat → Prop) (HE : List Blk) : Prop :=
  ∀ (E : Ent) (l : Nat) (Stop : World → Prop), (∀ w w', Ext w w' → Stop w → Stop w') → (∀ b, H0.length ≤ b → E.m b = none) → E.defers = [] →
    (∀ k, k < N → (∀ j, j < k → ok j) → Zng P G E l (encs k) (hpY k) (hpZ k) (ok k) Stop) →
    ∀ m w lb', HRel G m H0 w → Frame E m w → L2 (VR m) lbs lb' →
      CallsIn (FR none) 0 P gf (#[.func (.yield l) #[] #[]] ++ lb'.toArray) w fun e w' => (∃ v, e = .returned v) ∧ (((∀ k, k < N → ok k) ∧ ∃ m', HRel G m' HE w' ∧ Frame E m' w') ∨ Stop w')
theorem Zui {gf : FuncId} {fn : Func} {c : Code} {lbs : List Value} {N : Nat} {encs : Nat → List Value} {H0 HE : List Blk} {hpY hpZ : Nat → List Blk} {ok : Nat → Prop} (hf : P.funcs[gf]? = some fn) (hb : fn.body = some c) {nt : Nat} (hnt : fn.ntmps = nt) (hn : decide (lbs.length + 1 ≤ nt) = true) (hres : fn.results.toList = [])
  (h : ∀ (E : Ent) (l : Nat) (Stop : World → Prop), (∀ b, H0.length ≤ b → E.m b = none) → E.defers = [] → (∀ k, k < N → (∀ j, j < k → ok j) → Zng P G E l (encs k) (hpY k) (hpZ k) (ok k) Stop) →
   CY P G nt E (fun E' => ∃ w', Stop w' ∧ E' = ⟨fun _ => none, w', E.defers⟩) c (fun e s => (e = .normal ∨ e = .ret) ∧ (∀ k, k < N → ok k) ∧ ∃ T, Za7 G nt H0.length s ⟨T, HE⟩) (fun e s => e = .normal ∨ e = .ret) ⟨Zih (.func (.yield l) #[] #[] :: lbs), H0⟩) :
  Zyd P G gf lbs N encs H0 hpY hpZ ok HE := by
 subst hnt
 intro E l Stop hS hE hd hY m w lb' hH hF hlb
 have hn' : lbs.length + 1 ≤ fn.ntmps := by simpa using hn
 have hl := hlb.1
 refine callsIn_of_wp (F := FR none) hf hb trivial ?_ rfl
 have hA : L2 (VR m) (.func (.yield l) #[] #[] :: lbs) (.func (.yield l) #[] #[] :: lb') := L2.cons ⟨#[], #[], rfl, L2.nil, L2.nil⟩ hlb
 have hargs : (#[.func (.yield l) #[] #[]] ++ lb'.toArray : Array Value) = (Value.func (.yield l) #[] #[] :: lb').toArray := by simp
 rw [hargs]
 have hr : SRel G fn.ntmps E m ⟨Zih (.func (.yield l) #[] #[] :: lbs), H0⟩ { tmps := (Value.func (.yield l) #[] #[] :: lb').toArray ++ Array.replicate (fn.ntmps - (Value.func (.yield l) #[] #[] :: lb').toArray.size) undef, defers := [] } w :=
  ⟨by simp; omega, fun i => by
   rcases hA.at_ i with ⟨x, y, h1, h2, h3⟩ | ⟨h1, h2⟩
   ·have hi : i < (Value.func (.yield l) #[] #[] :: lb').length := (List.getElem?_eq_some_iff.1 h2).1
    simp only [Zih, h1, Option.getD_some]
    rw [Array.getD_eq_getD_getElem?, Array.getElem?_append_left (by simpa using hi)]
    simp only [List.getElem?_toArray, h2, Option.getD_some]
    exact h3
   ·simp only [Zih, h1, Option.getD_none]
    have : (Value.func (.yield l) #[] #[] :: lb').length ≤ i := by simpa using h2
    rw [Array.getD_eq_getD_getElem?, Array.getElem?_append_right (by simpa using this)]
    rw [Array.getElem?_replicate]
    split <;> exact VR.undef, hd.symm, hH, hF⟩
 refine wpIn_mono ((h E l Stop hE hd hY).h m _ w hr) ?_
 have hrun : ∀ {E : Ent} {m : MapM} {s : St} {a : Act} {w : World}, SRel G fn.ntmps E m s a w → ∃ v, (results fn a.tmps).run P w = .ok v w := by
  intro E m s a w hr
  obtain ⟨v, h1, _⟩ := Zec (fn := fn) (v := .tuple #[]) hr (by unfold Zd9; rw [hres])
  exact ⟨v, h1⟩
 rintro e a' w' (⟨s, m', ⟨he, hall, T, hw⟩, hr'⟩ | ⟨E', s, m', ⟨w1, hs, rfl⟩, hE', he, hr'⟩)
 ·obtain ⟨m2, hr2⟩ := hw E m' a' w' hE hr'
  obtain ⟨v, hv⟩ := hrun hr'
  have : a'.defers = [] ∧ ∃ v, (results fn a'.tmps).run P w' = .ok v w' ∧ (∃ v', Ending.returned v = .returned v') ∧ (((∀ k, k < N → ok k) ∧ ∃ m', HRel G m' HE w' ∧ Frame E m' w') ∨ Stop w') := ⟨by rw [hr'.defers, hd], v, hv, ⟨v, rfl⟩, .inl ⟨hall, m2, hr2.heap, hr2.frame⟩⟩
  rcases he with rfl | rfl <;> exact this
 ·obtain ⟨v, hv⟩ := hrun hr'
  have hx : Ext w1 w' := by
   have hf := hr'.frame
   have : Frame ⟨fun _ => none, w1, []⟩ m' w' := ⟨hf.os, hf.tape, hf.output, hf.size, hf.block, hf.reg, hf.keep⟩
   exact this.ext (fun b r h => by cases h)
  have : a'.defers = [] ∧ ∃ v, (results fn a'.tmps).run P w' = .ok v w' ∧ (∃ v', Ending.returned v = .returned v') ∧ (((∀ k, k < N → ok k) ∧ ∃ m', HRel G m' HE w' ∧ Frame E m' w') ∨ Stop w') := ⟨by rw [hr'.defers]; exact hd, v, hv, ⟨v, rfl⟩, .inr (hS _ _ hx hs)⟩
  rcases he with rfl | rfl <;> exact this


def Z15 (P : Program) (G : Glob) (fn : Func) (res : Value) (σ' : List Blk) (E : Ent) : Exit → Act → World → Prop :=
  bodyPostM (FR none) 0 P fn fun en w' => ∃ v' m', en = .returned v' ∧ HRel G m' σ' w' ∧ VR m' res v' ∧ Frame E m' w'
def Zpx (F : Fence) (n : Nat) (P : Program) : List Code → (Exit → Act → World → Prop) → Exit → Act → World → Prop
  | [], Q => Q
  | z :: K, Q => Exit.then (z.wpIn F n P (Zpx F n P K Q)) (Zpx F n P K Q)
structure CM (P : Program) (G : Glob) (fn : Func) (σ : List Blk) (res : Value) (σ' : List Blk) (c : Code) (K : List Code) (s : St) : Prop where
  h : ∀ E m a w, E.defers = [] → (∀ b, σ.length ≤ b → E.m b = none) → SRel G fn.ntmps E m s a w → c.wpIn (FR none) 0 P (Zpx (FR none) 0 P K (Z15 P G fn res σ' E)) a w
def CK (P : Program) (G : Glob) (nt n0 : Nat) : List Code → (Exit → St → Prop) → St → Prop
  | [], Q, s => X Q .normal s
  | z :: K, Q, s => CW none P G nt n0 z (Zea (CK P G nt n0 K Q) Q) s
theorem Zjt {F : Fence} {n : Nat} {Q : Exit → Act → World → Prop} {a : Act} {w : World} (h : Q .ret a w) : ∀ K, Zpx F n P K Q .ret a w
 | [] => h
 | z :: K => Zjt h K
theorem CK.wp {nt n0 : Nat} {E : Ent} {Q : Exit → St → Prop} (hdom : ∀ b, n0 ≤ b → E.m b = none) : ∀ (K : List Code) (s : St), CK P G nt n0 K Q s → ∀ m a w, SRel G nt E m s a w → ∀ (Z : Exit → Act → World → Prop), (∀ e a w, Zpd G nt E Q e a w → Zpx (FR none) 0 P [] Z e a w) → (∀ a w, Zpd G nt E Q .ret a w → Z .ret a w) → (∀ e s, Q e s → e = .normal ∨ e = .ret) →
    match K with
    | [] => Z .normal a w
    | z :: K => z.wpIn (FR none) 0 P (Zpx (FR none) 0 P K Z) a w
  | [], s, h, m, a, w, hr, Z, hZ, hZr, hQ => hZ .normal a w ⟨s, m, h.h, hr⟩
  | z :: K, s, h, m, a, w, hr, Z, hZ, hZr, hQ => by
    have h' : CW none P G nt n0 z (Zea (CK P G nt n0 K Q) Q) s := h
    refine wpIn_mono (h'.h E m a w hdom hr) ?_
    rintro e a' w' ⟨s', m', h1, h2⟩
    cases e with
    | normal =>
      have := CK.wp hdom K s' h1 m' a' w' h2 Z hZ hZr hQ
      cases K with
      | nil => exact this
      | cons z' K' => exact this
    | ret => exact Zjt (hZr a' w' ⟨s', m', h1, h2⟩) K
    | _ => rcases hQ _ _ h1 with e | e <;> cases e
section
variable {fn : Func} {σ σ' : List Blk} {res : Value} {s : St} {x y z : Code}
theorem Zy7 {E : Ent} {m : MapM} {a : Act} {w : World} (hE : E.defers = []) (hdom : ∀ b, σ.length ≤ b → E.m b = none) (h : ∃ v e, EndOK P G fn σ res σ' s v e) (hr : SRel G fn.ntmps E m s a w) :
  LeavesInM (FR none) 0 P fn a.tmps (fun en w' => ∃ v' m', en = .returned v' ∧ HRel G m' σ' w' ∧ VR m' res v' ∧ Frame E m' w') a.defers .returning w := by
 obtain ⟨v, e, hO⟩ := h
 obtain ⟨v', g1, g2⟩ := Zec hr hO.out
 obtain ⟨E1, E2, E3⟩ := E
 obtain ⟨k1, k2, k3⟩ := hO.back hdom hr.heap hr.frame g2 (ds' := E3)
 rw [hr.defers, hE]
 exact ⟨v', g1, v', _, rfl, k1, k2, k3⟩
theorem Zub {K : List Code} (h : CM P G fn σ res σ' x (y :: K) s) : CM P G fn σ res σ' (.seq x y) K s := ⟨fun E m a w hE hdom hr => wpIn_seq (h.h E m a w hE hdom hr)⟩
theorem Zyy {K : List Code} (h : CW none P G fn.ntmps σ.length x (Zea (CM P G fn σ res σ' y K) (Zqg P G fn σ res σ')) s) : CM P G fn σ res σ' x (y :: K) s := ⟨fun E m a w hE hdom hr => by
 refine wpIn_mono (h.h E m a w hdom hr) ?_
 rintro e a' w' ⟨s', m', h1, h2⟩
 cases e with
 | normal => exact h1.h E m' a' w' hE hdom h2
 | ret => exact Zjt (Q := Z15 P G fn res σ' E) (Zy7 hE hdom h1 h2) K
 | _ => exact h1.elim⟩
theorem Z6.introM {f : FuncId} {c : Code} {args : List Value} (hf : P.funcs[f]? = some fn) (hb : fn.body = some c) {nt : Nat} (hnt : fn.ntmps = nt) (hn : decide (args.length ≤ nt) = true) (h : CM P G fn σ res σ' c [] ⟨Zih args, σ⟩) : Z6 P G f args σ res σ' := by
 subst hnt
 intro m w args' hH hA
 have hn' : args.length ≤ fn.ntmps := by simpa using hn
 refine (callsIn_wide (n := 0)).1 ?_
 refine callsIn_of_wp_marks (F := FR none) hf hb trivial ?_ rfl
 have hl := hA.1
 have hdom : ∀ b, σ.length ≤ b → m b = none := fun b hb => hH.dom hb
 exact h.h ⟨m, w, []⟩ m { tmps := args'.toArray ++ Array.replicate (fn.ntmps - args'.toArray.size) undef, defers := [] } w rfl hdom
  ⟨by simp; omega, fun i => by
   rcases hA.at_ i with ⟨x, y, h1, h2, h3⟩ | ⟨h1, h2⟩
   ·have hi : i < args'.length := (List.getElem?_eq_some_iff.1 h2).1
    simp only [Zih, h1, Option.getD_some]
    rw [Array.getD_eq_getD_getElem?, Array.getElem?_append_left (by simpa using hi)]
    simp only [List.getElem?_toArray, h2, Option.getD_some]
    exact h3
   ·simp only [Zih, h1, Option.getD_none]
    have : args'.length ≤ i := by simpa using h2
    rw [Array.getD_eq_getD_getElem?, Array.getElem?_append_right (by simpa using this)]
    rw [Array.getElem?_replicate]
    split <;> exact VR.undef, rfl, hH, Frame.refl [] hH⟩
end
end
end Go.Flat
end
section
/- The rule for a range over a function. -/
namespace Go.Flat
section
variable {P : Program} {G : Glob}
def Zxt : List Tmp → List Value → (Nat → Value) → Nat → Value
  | t :: ts, v :: vs, T => Zxt ts vs (upd T t v)
  | _, _, T => T
theorem Zov {nt : Nat} {E : Ent} {m : MapM} {w : World} {H : List Blk} : ∀ (ts : List Tmp) (vs vs' : List Value) (T : Nat → Value) (a : Act), (∀ t, t ∈ ts → t < nt) → L2 (VR m) vs vs' → SRel G nt E m ⟨T, H⟩ a w →
    SRel G nt E m ⟨Zxt ts vs T, H⟩ { tmps := (ts.zip vs').foldl (fun tmps (p : Tmp × Value) => tmps.setIfInBounds p.1 p.2) a.tmps, defers := a.defers } w
  | [], vs, vs', T, a, _, _, hr => by cases vs <;> simpa [Zxt] using hr
  | t :: ts, [], vs', T, a, _, hv, hr => by rw [hv.nil_inv]; simpa [Zxt] using hr
  | t :: ts, v :: vs, vs', T, a, ht, hv, hr => by
    obtain ⟨v', vs1, rfl, h1, h2⟩ := hv.inv
    have hd : Zbb nt (some t) = true := by simpa [Zbb] using ht t List.mem_cons_self
    have := Zov ts vs vs1 (upd T t v) (a.put (some t) v') (fun t' ht' => ht t' (List.mem_cons_of_mem _ ht')) h2 (hr.put hd h1)
    simpa [Zxt, Act.put] using this
theorem Zwr {m : MapM} {v v' : Value} (h : Zdy v = true) (h' : CR0 m v v') : VR m v v' := by
 unfold Zdy Zhf at h
 simp only [Bool.and_eq_true, Bool.not_eq_true'] at h
 rw [Zfp h.1.2, Zhq h.1.1, Zi7 h.2]; exact h'
def Z5e (P : Program) (G : Glob) (fn : Func) (σ : List Blk) (res : Value) (σ' : List Blk) (T0 : Nat → Value) (n0 : Nat) (ok : Prop) (hZ : List Blk) : Exit → St → Prop
  | .normal, s => ok ∧ ∃ T, Za7 G fn.ntmps n0 s ⟨T, hZ⟩
  | .ret, s => ∃ v e, EndOK P G fn σ res σ' ⟨T0, s.heap⟩ v e
  | _, _ => False
theorem Zyx {fn : Func} {σ σ' : List Blk} {res : Value} {i : Nat} {g : Operand} {ps : Array Tmp} {assign body : Code} {K : List Code} {T0 : Nat → Value} {H0 HE : List Blk} {gf : FuncId} {lbs : Array Value} {N : Nat} {encs : Nat → List Value} {hpY hpZ : Nat → List Blk} {ok : Nat → Prop}
    (hg : St.eval ⟨T0, H0⟩ g = .func (.func gf) #[] lbs) (hcap : lbs.toList.all Zdy = true) (hk : Zd6 P gf = true) (iter : Zyd P G gf lbs.toList N encs H0 hpY hpZ ok HE)
    (hsz : ∀ k, k < N → (encs k).length = ps.size) (hps : (ps.toList.all fun t => decide (t < fn.ntmps)) = true)
    (hround : ∀ l k, k < N → (∀ j, j < k → ok j) → CW (some l) P G fn.ntmps (hpY k).length assign (Zea (fun s => CW (some l) P G fn.ntmps (hpY k).length body (Z5e P G fn σ res σ' (fun i => killV (Zgk H0) (T0 i)) (hpY k).length (ok k) (hpZ k)) s) (fun _ _ => False)) ⟨Zxt ps.toList (encs k) (fun i => killV (Zgk H0) (T0 i)), hpY k⟩)
    (hrest : (∀ k, k < N → ok k) → CK P G fn.ntmps HE.length K (Zqg P G fn σ res σ') ⟨fun i => killV (Zgk H0) (T0 i), HE⟩) :
    CM P G fn σ res σ' (.block i (.rangeFunc g ps assign body)) K ⟨T0, H0⟩ := ⟨fun E0 m a w hE hdom hr => by
  refine wpIn_block (wpIn_rangeFunc (F := FR none) ?_)
  intro f0 _
  obtain ⟨lb', hgv, hlb⟩ : ∃ lb' : Array Value, a.eval g = .func (.func gf) #[] lb' ∧ L2 (VR m) lbs.toList lb'.toList := by
    have := hr.eval g
    rw [hg] at this
    obtain ⟨xs', ys', g1, g2, g3⟩ : ∃ xs' ys', a.eval g = .func (.func gf) xs' ys' ∧ L2 (CR0 m) [] xs'.toList ∧ L2 (CR0 m) lbs.toList ys'.toList := this
    have e1 : xs' = #[] := by have := g2.nil_inv; cases xs'; simp at this; rw [this]
    refine ⟨ys', by rw [g1, e1], g3.mono fun x hx y hxy => Zwr (List.all_eq_true.1 hcap x hx) hxy⟩
  obtain ⟨rec, hrec⟩ : ∃ rec : LoopState → Option Code → Loop, rec = fun st pe => { state := st, pending := pe, fn := f0, tmps := a.tmps, params := ps, assign, body, defers := w.heap.size } := ⟨_, rfl⟩
  obtain ⟨W1, hW1⟩ : ∃ W1, (w.alloc (.deferred (some []))).alloc (.loop (rec .ready none)) = W1 := ⟨_, rfl⟩
  have hL1 : W1.heap[w.heap.size + 1]? = some (.loop (rec .ready none)) := by
    rw [← hW1]; have := World.alloc_heap_new (w.alloc (.deferred (some []))) (.loop (rec .ready none)); rwa [World.size_alloc] at this
  have hD1 : W1.heap[w.heap.size]? = some (.deferred (some [])) := by
    rw [← hW1]; exact (Ext.alloc _ _).block _ _ (World.alloc_heap_new w _)
  have hx1 : Ext w W1 := by rw [← hW1]; exact (Ext.alloc w _).trans (Ext.alloc _ _)
  have hF01 : Frame E0 m W1 := hr.frame.thenExt hx1
  have hE0s : E0.w.heap.size ≤ w.heap.size := hr.frame.size
  refine ⟨w.heap.size + 1, [{ target := .collected w.heap.size, args := #[] }], W1, { target := .fn (.func gf) lb', args := #[.func (.yield (w.heap.size + 1)) #[] #[]] }, W1, gf,
    #[.func (.yield (w.heap.size + 1)) #[] #[]] ++ lb', W1, ?_, ?_, fun _ _ => trivial, ?_, fun e => (by cases e), ?_⟩
  · rw [← hW1, hrec]; exact run_enterLoop_outer _ _ _ _ _
  · simp [rangeCall, resolve, Deferred.ofValue, hgv, Act.eval]
    simp [Act.eval] at hgv
    first | rfl | (cases g <;> simp_all [Act.eval]) | skip
  · have := Zlu (P := P) hk (#[.func (.yield (w.heap.size + 1)) #[] #[]] ++ lb') W1
    simpa [invoke] using this
  · have hHW : HRel G m H0 W1 := hr.heap.ext hx1
    let Stop : World → Prop := fun w' => ∃ H' m', (∃ v e, EndOK P G fn σ res σ' ⟨fun i => killV (Zgk H0) (T0 i), H'⟩ v e) ∧ HRel G m' H' w' ∧ Frame E0 m' w' ∧ (∀ b r, m b = some r → (r.wr = false ∨ r.mv = false) → m' b = some r) ∧
      w'.heap[w.heap.size + 1]? = some (.loop (rec .done (some .ret))) ∧ w'.heap[w.heap.size]? = some (.deferred (some []))
    have hkeepT : ∀ {m' : MapM}, (∀ b r, m b = some r → (r.wr = false ∨ r.mv = false) → m' b = some r) → ∀ i, VR m' (killV (Zgk H0) (T0 i)) (a.tmps.getD i undef) := fun {m'} hkp i =>
      ((hr.tmps i).killV _).congr (p := Zgk H0) (fun b r hb hm => hkp b r hm (by
        unfold Zgk at hb
        cases hH : H0[b]? with
        | none => rw [hH] at hb; cases hb
        | some B =>
          rw [hH] at hb
          have := hr.heap.at_ hH hm
          rw [this.2.1, this.2.2.2.2.2]
          cases hw : B.wr <;> cases hm' : B.mv <;> simp_all)) (Zgd _ _)
    have hit := iter ⟨m, W1, []⟩ (w.heap.size + 1) Stop (fun w1 w2 hx ⟨H', m', h1, h2, h3, h4, h5, h6⟩ => ⟨H', m', h1, h2.ext hx, h3.thenExt hx, h4, hx.block _ _ h5, hx.block _ _ h6⟩) (fun b hb => hr.heap.dom hb) rfl ?_ m W1 lb'.toList hHW (Frame.refl _ hHW) hlb
    · rw [Array.toArray_toList] at hit
      refine CallsIn.mono hit ?_
      rintro e w2 ⟨⟨v, rfl⟩, (⟨hall, m', h1, h2⟩ | ⟨H', m', h1, h2, h3, h4, h5, h6⟩)⟩
      · have hl2 : w2.heap[w.heap.size + 1]? = some (.loop (rec .ready none)) := h2.at_ hL1 rfl
        have hd2 : w2.heap[w.heap.size]? = some (.deferred (some [])) := h2.at_ hD1 rfl
        have hend := run_endLoop (P := P) hl2 (by rw [hrec]; simp)
        rw [hrec] at hend
        refine ⟨none, _, hend, ?_⟩
        have hH3 := h1.putObj (o := .loop { rec .ready none with state := .exhausted }) hl2 rfl rfl
        have hF3 : Frame E0 m' (w2.putObj (w.heap.size + 1) (.loop { rec .ready none with state := .exhausted })) := (hF01.joinKeep h2).putNew _ (by omega)
        have hd3 : (w2.putObj (w.heap.size + 1) (.loop { rec .ready none with state := .exhausted })).heap[w.heap.size]? = some (.deferred (some [])) := (World.putObj_heap_other (by omega)).trans hd2
        rw [hrec] at hH3 hF3 hd3
        have hr3 : SRel G fn.ntmps ⟨m', w2.putObj (w.heap.size + 1) (.loop { state := .exhausted, pending := none, fn := f0, tmps := a.tmps, params := ps, assign := assign, body := body, defers := w.heap.size }), { target := .collected w.heap.size, args := #[] } :: a.defers⟩ m' ⟨fun i => killV (Zgk H0) (T0 i), HE⟩ { a with defers := { target := .collected w.heap.size, args := #[] } :: a.defers } _ :=
          ⟨hr.size, hkeepT (fun b r hb hw => h2.keep b r hb hw), rfl, hH3, Frame.refl _ hH3⟩
        have hfin : ∀ (a' : Act) (w' : World), Zpd G fn.ntmps ⟨m', w2.putObj (w.heap.size + 1) (.loop { state := .exhausted, pending := none, fn := f0, tmps := a.tmps, params := ps, assign := assign, body := body, defers := w.heap.size }), { target := .collected w.heap.size, args := #[] } :: a.defers⟩ (fun e s => ∃ v e, EndOK P G fn σ res σ' s v e) .ret a' w' →
            LeavesInM (FR none) 0 P fn a'.tmps (fun en w' => ∃ v' m', en = .returned v' ∧ HRel G m' σ' w' ∧ VR m' res v' ∧ Frame E0 m' w') a'.defers .returning w' := by
          rintro a' w' ⟨s4, m4, ⟨v4, e4, hO⟩, hr4⟩
          have hd4 : w'.heap[w.heap.size]? = some (.deferred (some [])) := hr4.frame.at_ hd3 rfl
          rw [hr4.defers, hr.defers, hE]
          refine ⟨by simp, .inl ⟨_, _, rfl, run_takeDeferred hd4, ?_⟩⟩
          have hH5 := hr4.heap.putObj (o := .deferred none) hd4 rfl rfl
          have hF5 : Frame E0 m4 (w'.putObj w.heap.size (.deferred none)) := (hF3.joinKeep hr4.frame).putNew _ (by omega)
          have hr5 : SRel G fn.ntmps ⟨m4, w'.putObj w.heap.size (.deferred none), a'.defers⟩ m4 s4 a' (w'.putObj w.heap.size (.deferred none)) := ⟨hr4.size, hr4.tmps, rfl, hH5, Frame.refl _ hH5⟩
          obtain ⟨v', g1, g2⟩ := Zec hr5 hO.out
          obtain ⟨E1, E2, E3⟩ := E0
          obtain ⟨k1, k2, k3⟩ := hO.back hdom hH5 hF5 g2 (ds' := E3)
          exact ⟨v', g1, v', _, rfl, k1, k2, k3⟩
        have := CK.wp (n0 := HE.length) (E := ⟨m', w2.putObj (w.heap.size + 1) (.loop { state := .exhausted, pending := none, fn := f0, tmps := a.tmps, params := ps, assign := assign, body := body, defers := w.heap.size }), { target := .collected w.heap.size, args := #[] } :: a.defers⟩) (fun b hb => hH3.dom hb) K _ (hrest hall) m' _ _ hr3 (Z15 P G fn res σ' E0) (fun e a' w' ⟨s4, m4, h4, hr4⟩ => by
            cases e with
            | normal => exact hfin a' w' ⟨s4, m4, h4, hr4⟩
            | ret => exact hfin a' w' ⟨s4, m4, h4, hr4⟩
            | _ => exact h4.elim) (fun a' w' ⟨s4, m4, h4, hr4⟩ => hfin a' w' ⟨s4, m4, h4, hr4⟩) (fun e s h => by cases e <;> first | exact .inl rfl | exact .inr rfl | exact h.elim)
        cases K with
        | nil => exact this
        | cons z K' => exact this
      · have hend := run_endLoop (P := P) h5 (by rw [hrec]; simp)
        rw [hrec] at hend
        refine ⟨some .ret, _, hend, wpIn_ret ?_⟩
        have hH3 := h2.putObj (o := .loop { rec .done (some .ret) with state := .exhausted }) h5 rfl rfl
        have hF3 : Frame E0 m' (w2.putObj (w.heap.size + 1) (.loop { rec .done (some .ret) with state := .exhausted })) := h3.putNew _ (by omega)
        have hd3 : (w2.putObj (w.heap.size + 1) (.loop { rec .done (some .ret) with state := .exhausted })).heap[w.heap.size]? = some (.deferred (some [])) := (World.putObj_heap_other (by omega)).trans h6
        rw [hrec] at hH3 hF3 hd3
        refine Zjt (Q := Z15 P G fn res σ' E0) ?_ K
        show LeavesInM (FR none) 0 P fn a.tmps _ ({ target := .collected w.heap.size, args := #[] } :: a.defers) .returning _
        rw [hr.defers, hE]
        refine ⟨by simp, .inl ⟨_, _, rfl, run_takeDeferred hd3, ?_⟩⟩
        obtain ⟨v4, e4, hO⟩ := h1
        have hH5 := hH3.putObj (o := .deferred none) hd3 rfl rfl
        have hF5 := hF3.putNew (l := w.heap.size) (.deferred none) (by omega)
        have hr5 := (⟨hr.size, hkeepT h4, rfl, hH5, Frame.refl a.defers hH5⟩ : SRel G fn.ntmps ⟨m', _, a.defers⟩ m' ⟨fun i => killV (Zgk H0) (T0 i), H'⟩ a _)
        obtain ⟨v', g1, g2⟩ := Zec hr5 hO.out
        obtain ⟨E1, E2, E3⟩ := E0
        obtain ⟨k1, k2, k3⟩ := hO.back hdom hH5 hF5 g2 (ds' := E3)
        exact ⟨v', g1, v', _, rfl, k1, k2, k3⟩
    · -- one round
      intro k hkN hks m1 w1 args' hH hF hargs
      have hl : w1.heap[w.heap.size + 1]? = some (.loop (rec .ready none)) := hF.at_ hL1 rfl
      have hd : w1.heap[w.heap.size]? = some (.deferred (some [])) := hF.at_ hD1 rfl
      have hlt : w.heap.size + 1 < w1.heap.size := (Array.getElem?_eq_some_iff.1 hl).1
      have hsize : args'.toArray.size = ps.size := by rw [List.size_toArray, ← hargs.1, hsz k hkN]
      have hy := run_yield (P := P) (args := args'.toArray) hl (by rw [hrec]; exact hsize)
      rw [hrec] at hy
      refine ⟨f0, _, assign, body, hy, roundIn_of_wpIn (F := FR none) (n := 0) trivial ?_⟩
      have hkp1 : ∀ b r, m b = some r → (r.wr = false ∨ r.mv = false) → m1 b = some r := fun b r hb hw => hF.keep b r hb hw
      have hr1 : SRel G fn.ntmps ⟨m1, w1, []⟩ m1 ⟨fun i => killV (Zgk H0) (T0 i), hpY k⟩ { tmps := a.tmps, defers := [] } w1 := ⟨hr.size, hkeepT hkp1, rfl, hH, Frame.refl _ hH⟩
      have hr2 := Zov ps.toList (encs k) args' _ _ (fun t ht => of_decide_eq_true (List.all_eq_true.1 hps t ht)) hargs hr1
      have hfold : (ps.zip args'.toArray).foldl (fun tmps (x : Tmp × Value) => tmps.setIfInBounds x.1 x.2) a.tmps = (ps.toList.zip args').foldl (fun tmps (p : Tmp × Value) => tmps.setIfInBounds p.1 p.2) a.tmps := by
        rw [← Array.foldl_toList, Array.toList_zip]
      have hwa := (hround (w.heap.size + 1) k hkN hks).h ⟨m1, w1, []⟩ m1 _ w1 (fun b hb => hH.dom hb) hr2
      rw [← hfold] at hwa
      refine wpIn_mono hwa ?_
      rintro e a2 w2 ⟨s2, m2, h1, hr3⟩
      cases e with
      | normal =>
        have hl2 : w2.heap[w.heap.size + 1]? = some (.loop (rec .ready none)) := hr3.frame.at_ hl rfl
        refine ⟨_, run_beginRound hl2 (by rw [hrec]), ?_⟩
        have hlt2 : w.heap.size + 1 < w2.heap.size := (Array.getElem?_eq_some_iff.1 hl2).1
        have hr4 : SRel G fn.ntmps ⟨m1, w1.putObj (w.heap.size + 1) (.loop { rec .ready none with state := .busy }), []⟩ m2 s2 a2 (w2.putObj (w.heap.size + 1) (.loop { rec .ready none with state := .busy })) :=
          ⟨hr3.size, hr3.tmps, hr3.defers, hr3.heap.putObj hl2 rfl rfl, hr3.frame.put2 _ hlt⟩
        have hwb := h1.h _ m2 a2 _ (fun b hb => hH.dom hb) hr4
        refine wpIn_mono hwb ?_
        have hlb1 : (w1.putObj (w.heap.size + 1) (.loop { rec .ready none with state := .busy })).heap[w.heap.size + 1]? = some (.loop { rec .ready none with state := .busy }) := World.putObj_heap_same hlt
        have hdb1 : (w1.putObj (w.heap.size + 1) (.loop { rec .ready none with state := .busy })).heap[w.heap.size]? = some (.deferred (some [])) := (World.putObj_heap_other (by omega)).trans hd
        rintro e a3 w3 ⟨s3, m3, hq, hr5⟩
        have hl3 : w3.heap[w.heap.size + 1]? = some (.loop { rec .ready none with state := .busy }) := hr5.frame.at_ hlb1 rfl
        have hd3 : w3.heap[w.heap.size]? = some (.deferred (some [])) := hr5.frame.at_ hdb1 rfl
        have hlt3 : w.heap.size + 1 < w3.heap.size := (Array.getElem?_eq_some_iff.1 hl3).1
        have hback : ∀ {m4 : MapM}, Frame ⟨m1, w1.putObj (w.heap.size + 1) (.loop { rec .ready none with state := .busy }), []⟩ m4 w3 → Frame ⟨m1, w1, []⟩ m4 (w3.putObj (w.heap.size + 1) (.loop (rec .ready none))) := fun h => by
          have := h.put2 (ds' := []) (l := w.heap.size + 1) (.loop (rec .ready none)) (by simpa using hlt)
          rwa [Zte hl] at this
        cases e with
        | normal =>
          obtain ⟨hok, T, hwk⟩ := hq
          obtain ⟨m4, hr6⟩ := hwk _ m3 a3 w3 (fun b hb => hH.dom hb) hr5
          have hend := run_endRound (P := P) none hl3
          rw [hrec] at hend
          refine ⟨_, _, hend, .inl ⟨rfl, hok, m4, ?_, ?_, fun b r hb hw => (hback hr6.frame).keep b r hb hw⟩⟩
          · have := hr6.heap.putObj (o := .loop (rec .ready none)) hl3 rfl rfl
            rw [hrec] at this; exact this
          · have := hF.joinKeep (hback hr6.frame)
            rw [hrec] at this; exact this
        | ret =>
          have hend := run_endRound (P := P) (some .ret) hl3
          rw [hrec] at hend
          have hH4 := hr5.heap.putObj (o := .loop (rec .done (some .ret))) hl3 rfl rfl
          have hF4 : Frame E0 m3 (w3.putObj (w.heap.size + 1) (.loop (rec .done (some .ret)))) := by
            have := ((hF01.joinKeep hF).joinKeep (hback hr5.frame)).putNew (l := w.heap.size + 1) (.loop (rec .done (some .ret))) (by omega)
            rwa [Zrg] at this
          have hst : Stop (w3.putObj (w.heap.size + 1) (.loop (rec .done (some .ret)))) := ⟨s3.heap, m3, hq, hH4, hF4, fun b r hb hw => (hback hr5.frame).keep b r (hkp1 b r hb hw) hw, World.putObj_heap_same hlt3, (World.putObj_heap_other (by omega)).trans hd3⟩
          have hn := hH4.none
          rw [hrec] at hst hn
          exact ⟨_, _, hend, .inr ⟨rfl, hst, hn⟩⟩
        | _ => exact hq.elim
      | _ => exact h1.elim⟩
end
end Go.Flat
end
