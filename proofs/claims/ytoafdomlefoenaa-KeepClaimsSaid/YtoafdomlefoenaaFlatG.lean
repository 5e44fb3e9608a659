/- Walks. -/
import Derived.Test.YtoafdomlefoenaaSha
import Derived.Carry
import Derived.ReadAgain
import Derived.Test.YtoafdomlefoenaaRows
import Derived.ProofKit
import Derived.OpenShut
import Derived.LaidMore
import Derived.Lay
import Derived.SevenTiedAt
import Derived.Defers
import Derived.Recover
set_option linter.unusedVariables false
set_option linter.unusedSimpArgs false
set_option maxRecDepth 20000
section
/- A law's row, out of its contract: whatever the arguments, as long as what was there is not written. -/
namespace Go.Flat
open Go.ChangeShapes Go.WideShapes Go.RowKit
section
variable {H : Type} {enc : TypeId × Value → H} {P : Program} {m m' : MapM} {W W' : World}
theorem Ziw (hl : laidOutB P = true) {sp : Nat → Bool} (hk : ∀ g, g < W.heap.size → W'.heap[g]? = W.heap[g]?) : ∀ {ts : List TypeId} {vs : List Value} {ds : List (DataW H)} {ps : List MemPlace}, (ts.all fun t => P.readableRec t && decide (t < P.types.size)) = true →
  DataW.TrodAll enc P W 0 (fun _ => true) true ts vs ds ps → (∀ p ∈ ps, p.block < W.heap.size) → (∀ p ∈ ps, sp p.block = true) → DataW.TrodAll enc P W' 0 sp true ts vs ds ps
 | [], [], [], _, _, h, _, _ => h
 | t :: ts, v :: vs, d :: ds, ps, ht, ⟨p, q, h1, h2, e⟩, hlt, hs => by
  rw [List.all_cons, Bool.and_eq_true, Bool.and_eq_true] at ht
  refine ⟨p, q, WideElems.Trod_stays hl ht.1.1 (of_decide_eq_true ht.1.2) h1 (fun x hx => ?_) (fun x hx => hs x (by rw [e]; exact List.mem_append_left _ hx)), Ziw hl hk ht.2 h2 (fun x hx => hlt x (by rw [e]; exact List.mem_append_right _ hx)) (fun x hx => hs x (by rw [e]; exact List.mem_append_right _ hx)), e⟩
  have := hk x.block (hlt x (by rw [e]; exact List.mem_append_left _ hx))
  unfold World.sameAt
  cases x <;> simp_all [MemPlace.block, World.cell?]
 | [], _ :: _, _, _, _, h, _, _ => h.elim
 | [], [], _ :: _, _, _, h, _, _ => h.elim
 | _ :: _, [], _, _, _, h, _, _ => h.elim
 | _ :: _, _ :: _, [], _, _, h, _, _ => h.elim
theorem Zvl {f : Func} {s : ChangeSpec} {apart fresh handsOn again : Bool} {args : Array Value} {ds gs : List (DataW H)} {before : List MemPlace} {tb : TypeId}
  (hW : DataW.Whole enc P f.params.toList s.vars apart W args.toList ds gs before) (hv : s.vars = []) (hs : s.fn H ds = { results := [.lit (.bool true)], args := ds })
  (hr : f.resultTypes = #[tb]) (hb : P.underlying tb = some .bool) (hl : laidOutB P = true) (ht : (f.params.toList.all fun t => P.readableRec t && decide (t < P.types.size)) = true)
  (hm : ∀ b r, m b = some r → r.wr = false) (hf : Frame ⟨m, W, []⟩ m' W') : s.post enc P f apart fresh handsOn again W args (.bool true) W' := by
 have hlt : ∀ p ∈ before, p.block < W.heap.size := fun p hp => hW.lt p hp
 have hW' := hW
 obtain ⟨p, q, hA, hV, he, _, _⟩ := hW'
 rw [hv] at hV
 obtain ⟨rfl, rfl⟩ := trodVars_none hV
 rw [List.append_nil] at he
 subst he
 have e1 := hs
 refine Zp1 (pa := before) (pv := []) hW (fun _ _ _ => ?_) (fun sp hsp => ?_) (fun sp hsp => ?_) (by simp) (hf.kept hm _) (fun a ha => hf.frozen hm a ha) ?_
 ·rw [List.append_nil, e1, hr]
  exact trodAll_mk1 (shut_bool hb _)
 ·rw [List.append_nil, e1]
  exact Ziw hl (fun g hg => hf.same hm hg) ht hA hlt hsp
 ·rw [List.append_nil, e1, hv]; rfl
 ·intro j t r h1 h2
  rw [hr] at h1 h2
  cases j with
  | zero =>
   simp [Value.resultList] at h1 h2
   subst h1; subst h2
   exact okWide_bool_mk hb _
  | succ j => simp at h1
theorem Zto {f : FuncId} {fn : Func} {G : Glob} {s : ChangeSpec} {apart fresh handsOn again : Bool} {args : Array Value} {ds gs : List (DataW H)} {before : List MemPlace} {tb : TypeId} {σ σ' : List Blk} {argsL : List Value}
  (hW : DataW.Whole enc P fn.params.toList s.vars apart W args.toList ds gs before) (hv : s.vars = []) (hs : s.fn H ds = { results := [.lit (.bool true)], args := ds })
  (hr : fn.resultTypes = #[tb]) (hb : P.underlying tb = some .bool) (hl : laidOutB P = true) (ht : (fn.params.toList.all fun t => P.readableRec t && decide (t < P.types.size)) = true)
  (hm : ∀ b r, m b = some r → r.wr = false) (hrel : HRel G m σ W) (ha : L2 (VR m) argsL args.toList) (hC : Zas P G f argsL σ (.bool true) σ') :
  Calls P f args W fun e W' => ∃ v, e = .returned v ∧ s.post enc P fn apart fresh handsOn again W args v W' := by
 refine (hC m W args.toList hrel ha).mono ?_
 rintro e w' ⟨v', m', rfl, h1, h2, h3⟩
 have : v' = .bool true := h2
 subst this
 exact ⟨_, rfl, Zvl hW hv hs hr hb hl ht hm h3⟩
theorem HRel.addRow {G : Glob} {σ : List Blk} (h : HRel G m σ W) (hm : ∀ b r, m b = some r → r.wr = false) {blk : Blk} {r : Reg} (hw : blk.wr = false) (hsz : 0 < blk.sz) (h1 : r.wr = false) (h2 : r.fix = blk.fix) (h3 : r.len = blk.cells.length) (h4 : r.sz = blk.sz) (h5 : r.mv = blk.mv)
    (hc : ∀ i v, blk.cells[i]? = some v → ∃ v', W.cell? ⟨r.g, r.lo + i, none⟩ = some v' ∧ CR (fun b => if b = σ.length then some r else m b) v v') (hp : blk.pur = true → ∀ v, v ∈ blk.cells → Za9 v = true) :
    HRel G (fun b => if b = σ.length then some r else m b) (σ ++ [blk]) W ∧ (∀ b r', (if b = σ.length then some r else m b) = some r' → r'.wr = false) ∧ ∀ b r', m b = some r' → (if b = σ.length then some r else m b) = some r' := by
  have hdom : m σ.length = none := h.dom (Nat.le_refl _)
  have hext : ∀ b r', m b = some r' → (if b = σ.length then some r else m b) = some r' := by
    intro b r' hb
    by_cases e : b = σ.length
    · subst e; rw [hdom] at hb; cases hb
    · rw [if_neg e]; exact hb
  have hro : ∀ b r', (if b = σ.length then some r else m b) = some r' → r'.wr = false := by
    intro b r' hb
    by_cases e : b = σ.length
    · rw [if_pos e] at hb; injection hb with hb; subst hb; exact h1
    · rw [if_neg e] at hb; exact hm b r' hb
  have hget : ∀ b x, (σ ++ [blk])[b]? = some x → (b < σ.length ∧ σ[b]? = some x) ∨ (b = σ.length ∧ x = blk) := by
    intro b x hx
    rcases Nat.lt_or_ge b σ.length with hlt | hge
    · rw [List.getElem?_append_left hlt] at hx; exact .inl ⟨hlt, hx⟩
    · rw [List.getElem?_append_right hge] at hx
      cases e : b - σ.length with
      | zero => rw [e] at hx; simp at hx; exact .inr ⟨by omega, hx.symm⟩
      | succ k => rw [e] at hx; simp at hx
  refine ⟨{ reg := ?_, live := ?_, cell := ?_, pur := ?_, own := ?_, dis := ?_, glob := h.glob, gwr := ?_, clean := fun b r' hb hw' => by rw [hro b r' hb] at hw'; cases hw' }, hro, hext⟩
  · intro b r' hb
    by_cases e : b = σ.length
    · subst e
      rw [if_pos rfl] at hb; injection hb with hb; subst hb
      exact ⟨blk, by simp, hsz, by rw [h1, hw], h2, h3, h4, h5⟩
    · rw [if_neg e] at hb
      obtain ⟨B, g1, g2⟩ := h.reg b r' hb
      exact ⟨B, by rw [List.getElem?_append_left (List.getElem?_eq_some_iff.1 g1).1]; exact g1, g2⟩
  · intro b x hx h0
    rcases hget b x hx with ⟨hlt, hx⟩ | ⟨rfl, rfl⟩
    · obtain ⟨r', hr'⟩ := h.live b x hx h0
      exact ⟨r', hext _ _ hr'⟩
    · exact ⟨r, if_pos rfl⟩
  · intro b x r' i v hx hb hv
    rcases hget b x hx with ⟨hlt, hx⟩ | ⟨rfl, rfl⟩
    · rw [if_neg (by omega)] at hb
      obtain ⟨v', g1, g2⟩ := h.cell b x r' i v hx hb hv
      exact ⟨v', g1, g2.mono hext⟩
    · rw [if_pos rfl] at hb; injection hb with hb; subst hb
      exact hc i v hv
  · intro b x hx
    rcases hget b x hx with ⟨hlt, hx⟩ | ⟨rfl, rfl⟩
    · exact h.pur b x hx
    · exact hp
  · intro b r' hb hw'
    rw [hro b r' hb] at hw'; cases hw'
  · intro b b' r1 r2 _ hb _ hw'
    rw [hro b r1 hb] at hw'; cases hw'
  · intro b r' j hb hw'
    rw [hro b r' hb] at hw'; cases hw'
end
end Go.Flat
end
section
/- Opening an argument: a slice of arrays of bytes. -/
namespace Go.Flat
open Go.ChangeShapes Go.WideShapes Go.RowKit
section
variable {H : Type} {enc : TypeId × Value → H} {P : Program} {W : World}
theorem Zsa {a : Addr} {x : Nat} {v : Value} (h : W.cell? (a.add x) = some v) : W.cell? ⟨a.block, a.off + x, none⟩ = some v ∧ a.spot = none ∨ (W.cell? ⟨a.block, a.off + x, none⟩ = some v ∧ 0 < x) := by
 obtain ⟨b, o, s⟩ := a
 unfold Addr.add at h
 split at h
 ·rename_i hx
  subst hx
  cases s with
  | none => exact .inl ⟨h, rfl⟩
  | some q => unfold World.cell? at h; split at h <;> simp at h
 ·exact .inr ⟨h, by omega⟩
theorem Zut {a : Addr} {x : Nat} {v : Value} (h : W.cell? (a.add x) = some v) : W.cell? ⟨a.block, a.off + x, none⟩ = some v := by
 rcases Zsa h with h | h
 ·exact h.1
 ·exact h.1
theorem Zqv {a : Addr} {v : Value} (h : W.cell? (a.add 0) = some v) : a.spot = none := by
 rcases Zsa h with h | h
 ·exact h.2
 ·omega
theorem Zrz (a : Addr) (x y : Nat) : (a.add x).add y = a.add (x + y) := by
 obtain ⟨b, o, s⟩ := a
 unfold Addr.add
 by_cases hx : x = 0
 ·subst hx; by_cases hy : y = 0
  ·subst hy; simp
  ·simp [hy]
 ·by_cases hy : y = 0
  ·subst hy; simp [hx]
  ·simp [hx, hy]; omega
def Z0z (W : World) (g o : Nat) : BitVec 8 := match W.cell? ⟨g, o, none⟩ with | some (.int _ z) => BitVec.ofInt 8 z | _ => 0
end
end Go.Flat
end
section
namespace Go.Flat
open Go.Proofs
variable {G : Glob}

def Z1q (kk : Nat → BitVec 32) (l : List D) (i : Nat) : List D := (Zvb kk l.length l i []).reverse
def Zov (n : Nat) : Nat := (Zh8 n).toNat

end Go.Flat
end
section
namespace Go.Flat
open Go.Proofs
section
variable {H : Type} {enc : TypeId × Value → H} {P : Program} {W : World} {G : Glob} {m : MapM} {σ : List Blk}
def Z13 (n : Nat) (f : Nat → BitVec 8) : List D := (List.range n).map fun i j => f (i * 32 + j)
end
end Go.Flat
end
namespace Go.Proofs.Ytoafdomlefoenaa
open Go.RowKit
theorem own : ownKnob Try.prog.godebug = none := by kernel_rfl
noncomputable def G1 : Flat.Glob := fun _ => none
theorem hrel0 {W : World} : Flat.HRel G1 (fun _ => none) [] W := Flat.HRel.plain fun g cs hg => by cases hg
end Go.Proofs.Ytoafdomlefoenaa
section
namespace Go.Flat

theorem Zl9 {n : Nat} (h : 2 ≤ n) : 1 ≤ Zov n ∧ Zov n < n := by
 obtain ⟨s1, s2, _⟩ := Zrt (n := n) h
 exact ⟨s1, s2⟩
def Zv9 (kk : Nat → BitVec 32) (ds : List D) : D :=
  if h : ds.length ≤ 1 then (if ds.length = 0 then Zqe kk [] else ds.getD 0 d0)
  else Zx5 kk (Zv9 kk (ds.take (Zov ds.length))) (Zv9 kk (ds.drop (Zov ds.length)))
termination_by ds.length
decreasing_by
  · have := Zl9 (n := ds.length) (by omega)
    simp; omega
  · have := Zl9 (n := ds.length) (by omega)
    simp; omega
def pk (kk : Nat → BitVec 32) (ds : List D) : List D :=
  if h : ds.length = 0 then [] else Zv9 kk (ds.take (big ds.length)) :: pk kk (ds.drop (big ds.length))
termination_by ds.length
decreasing_by
  have := Zum (n := ds.length) (by omega)
  simp; omega
end Go.Flat
end
section
namespace Go.Flat
open Go.Proofs
variable {G : Glob}

def Z1m (kk : Nat → BitVec 32) (l : List D) (m : Nat) : List D := (Zsb kk l.length l m true []).reverse
end Go.Flat
end
section
namespace Go.Flat
open Go.Proofs
variable {G : Glob}
end Go.Flat
end
section
namespace Go.Proofs.Ytoafdomlefoenaa
open Go.ChangeShapes Go.WideShapes Go.ChangeAt Go.RowKit
end Go.Proofs.Ytoafdomlefoenaa
end
section
namespace Go.Flat
open Go.Proofs
variable {G : Glob}
def Zic (x : BitVec 32) (n : Nat) : BitVec 32 := x >>> n ||| x <<< (32 - n)
def Z2e (w : Nat → BitVec 32) : Blk := { cells := Zd2 w32 64 w, sz := 64, wr := true, fix := true, mv := false, pur := true }
def inR (b : Nat → BitVec 8) : Nat → Nat → BitVec 32
  | 0 => fun _ => 0
  | k + 1 => Zrv (inR b k) (k / 4) (inR b k (k / 4) * BitVec.ofInt 32 256 + (b k).setWidth 32)
def Z1e (w : Nat → BitVec 32) (t : Nat) : BitVec 32 := w (t - 16) + w (t - 7) + (Zic (w (t - 15)) 7 ^^^ Zic (w (t - 15)) 18 ^^^ w (t - 15) >>> 3) + (Zic (w (t - 2)) 17 ^^^ Zic (w (t - 2)) 19 ^^^ w (t - 2) >>> 10)
def Zxt (b : Nat → BitVec 8) : Nat → Nat → BitVec 32
  | 0 => inR b 64
  | k + 1 => Zrv (Zxt b k) (16 + k) (Z1e (Zxt b k) (16 + k))
end Go.Flat
end
section
namespace Go.Flat
open Go.Proofs
variable {G : Glob}
def Z1b (k : BitVec 32) (v w : Nat → BitVec 32) (t : Nat) : BitVec 32 := v 7 + (Zic (v 4) 6 ^^^ Zic (v 4) 11 ^^^ Zic (v 4) 25) + ((v 4 &&& v 5) ^^^ (~~~(v 4) &&& v 6)) + k + w t
def Z1c (v : Nat → BitVec 32) : BitVec 32 := (Zic (v 0) 2 ^^^ Zic (v 0) 13 ^^^ Zic (v 0) 22) + ((v 0 &&& v 1) ^^^ (v 0 &&& v 2) ^^^ (v 1 &&& v 2))
def Zxp (kk : Nat → BitVec 32) (v w : Nat → BitVec 32) : Nat → Nat → BitVec 32
  | 0 => v
  | t + 1 => Zyc (Z1b (kk t) (Zxp kk v w t) w t) (Z1c (Zxp kk v w t)) (Zxp kk v w t)
def Z1a (kk : Nat → BitVec 32) (v : Nat → BitVec 32) (b : Nat → BitVec 8) : Nat → BitVec 32 := Zwm v (Zxp kk v (Zxt b 48) 64) 8
attribute [local irreducible] Zic
end Go.Flat
end
section
namespace Go.Flat
open Go.Proofs
variable {G : Glob}
end Go.Flat
end
section
namespace Go.Flat
open Go.Proofs
variable {G : Glob}
def Zzg (kk v : Nat → BitVec 32) (l : Bs) : Nat → Nat → BitVec 32
  | 0 => v
  | j + 1 => Z1a kk (Zzg kk v l j) (Zx0 l j)
def Z1d (kk : Nat → BitVec 32) (M : Bs) : Nat → BitVec 8 := Zwd (Zzg kk Z0f (M ++ Zy5 M 8) ((M ++ Zy5 M 8).length / 64)) 32
end Go.Flat
end
section
namespace Go.Flat
open Go.Proofs
variable {G : Glob}
def Z1v (kk : Nat → BitVec 32) (a b : Nat → BitVec 8) : Nat → BitVec 8 := Z1d kk (Zsu [Zz5, Zfh (dgL a), Zfh (dgL b)])
end Go.Flat
end
section
namespace Go.Flat

def wF (b : Nat → BitVec 8) (i : Nat) : BitVec 32 := Zxt b (i - 15) i
end Go.Flat
end
section
namespace Go.Flat
open Go.Proofs
variable {G : Glob}
end Go.Flat
end
section
namespace Go.Flat
open Go.Proofs
variable {G : Glob}
end Go.Flat
end
section
namespace Go.Flat
open Go.Proofs
variable {G : Glob}
def Z1n (kk : Nat → BitVec 32) (l : List D) (m : Nat) (kn : Bool) : List D := (Zsb kk l.length l m kn []).reverse
end Go.Flat
end
section
/- Panics: a function that ends in one; a call that does; the code around it. -/
namespace Go.Flat
section
variable {P : Program} {G : Glob}
abbrev Zy6 (u : TypeId) (v : Value) : Exit := .panic [{ v := .iface u v, recovered := false }]
def Zyj (P : Program) (G : Glob) (f : FuncId) (args : List Value) (σ : List Blk) : Prop :=
  ∀ m w args', HRel G m σ w → L2 (VR m) args args' →
    Calls P f args'.toArray w fun e w' => ∃ u v, e = .panicked [{ v := .iface u v, recovered := false }] ∧ Frame ⟨m, w, []⟩ m w'
theorem Zyj.intro {f : FuncId} {fn : Func} {c : Code} {args : List Value} {σ : List Blk} (hf : P.funcs[f]? = some fn) (hb : fn.body = some c) (hn : args.length ≤ fn.ntmps)
  (h : WpL P G fn.ntmps σ.length c (fun e _ => ∃ u v, e = Zy6 u v) ⟨Zg2 args, σ⟩) : Zyj P G f args σ := by
 intro m w args' hH hA
 refine calls_of_wp hf hb ?_
 have hl := hA.1
 have hdom : ∀ b, σ.length ≤ b → m b = none := fun b hb => hH.dom hb
 have h0 := h ⟨m, w, []⟩ m { tmps := args'.toArray ++ Array.replicate (fn.ntmps - args'.toArray.size) undef, defers := [] } w hdom
  ⟨by simp; omega, fun i => by
   rcases hA.at_ i with ⟨x, y, h1, h2, h3⟩ | ⟨h1, h2⟩
   ·have hi : i < args'.length := (List.getElem?_eq_some_iff.1 h2).1
    simp only [Zg2, h1, Option.getD_some]
    rw [Array.getD_eq_getD_getElem?, Array.getElem?_append_left (by simpa using hi)]
    simp only [List.getElem?_toArray, h2, Option.getD_some]
    exact h3
   ·simp only [Zg2, h1, Option.getD_none]
    have : args'.length ≤ i := by simpa using h2
    rw [Array.getD_eq_getD_getElem?, Array.getElem?_append_right (by simpa using this)]
    rw [Array.getElem?_replicate]
    split <;> exact VR.undef, rfl, hH, Frame.refl [] hH⟩
 refine wp_mono h0 ?_
 rintro e a w' ⟨s, m', ⟨u, v, rfl⟩, hr⟩
 exact ⟨hr.defers, u, v, rfl, hr.frame.os, hr.frame.tape, hr.frame.output, hr.frame.size, hr.frame.block, fun b r hb hw hlt => .inr fun j h1 h2 => ⟨b, r, hb, hw, rfl, h1, h2⟩, fun b r hb _ => hb⟩


structure Ext (w w' : World) : Prop where
  os : w'.os = w.os
  tape : w'.tape = w.tape
  output : w'.output = w.output
  size : w.heap.size ≤ w'.heap.size
  block : ∀ (g : Nat) (o : Obj), w.heap[g]? = some o → w'.heap[g]? = some o
theorem Frame.ext {m m' : MapM} {w w' : World} (hm : ∀ b r, m b = some r → r.wr = false) (h : Frame ⟨m, w, []⟩ m' w') : Ext w w' := by
 refine ⟨h.os, h.tape, h.output, h.size, fun g o ho => ?_⟩
 obtain ⟨o', h1, h2⟩ := h.block g o ho
 rw [h1, h2.same hm]
theorem Ext.cell {w w' : World} (h : Ext w w') {a : Addr} {v : Value} (hc : w.cell? a = some v) : w'.cell? a = some v := by
  unfold World.cell? at hc ⊢
  cases ho : w.heap[a.block]? with
  | none => rw [ho] at hc; cases hc
  | some o => rw [ho] at hc; rw [h.block _ _ ho]; exact hc
theorem Ext.frozen {w w' : World} (h : Ext w w') {a : Addr} {v : Value} (hc : w.cell? a = some v) : w'.frozen? a = w.frozen? a := by
  unfold World.cell? at hc
  cases ho : w.heap[a.block]? with
  | none => rw [ho] at hc; cases hc
  | some o => unfold World.frozen?; rw [ho, h.block _ _ ho]
theorem HRel.ext {m : MapM} {σ : List Blk} {w w' : World} (h : HRel G m σ w) (hx : Ext w w') : HRel G m σ w' where
 reg := h.reg
 live := h.live
 cell := fun b blk r i v h1 h2 h3 => let ⟨v', g1, g2⟩ := h.cell b blk r i v h1 h2 h3; ⟨v', hx.cell g1, g2⟩
 pur := h.pur
 own := fun b r h1 h2 => ⟨(h.own b r h1 h2).1, fun j h3 h4 => let ⟨v, g1, g2⟩ := (h.own b r h1 h2).2 j h3 h4; ⟨v, hx.cell g1, by rw [hx.frozen g1]; exact g2⟩⟩
 dis := h.dis
 glob := fun g cs hg => ⟨Nat.lt_of_lt_of_le (h.glob g cs hg).1 hx.size, fun i v hv => ⟨hx.cell ((h.glob g cs hg).2 i v hv).1, ((h.glob g cs hg).2 i v hv).2⟩⟩
 gwr := h.gwr
 clean := fun b r h1 h2 h3 h4 => let ⟨c, t, h5⟩ := h.clean b r h1 h2 h3 h4; ⟨c, t, hx.block _ _ h5⟩
theorem Frame.thenExt {E : Ent} {m : MapM} {w w' : World} (h : Frame E m w) (hx : Ext w w') : Frame E m w' :=
 ⟨hx.os.trans h.os, hx.tape.trans h.tape, hx.output.trans h.output, Nat.le_trans h.size hx.size, fun g o ho => let ⟨o', h1, h2⟩ := h.block g o ho; ⟨o', hx.block g o' h1, h2⟩, h.reg, h.keep⟩
theorem SRel.ext {nt : Nat} {E : Ent} {m : MapM} {s : St} {a : Act} {w w' : World} (h : SRel G nt E m s a w) (hx : Ext w w') : SRel G nt E m s a w' :=
 ⟨h.size, h.tmps, h.defers, h.heap.ext hx, h.frame.thenExt hx⟩


def Zoz (P : Program) (G : Glob) (nt : Nat) (ops : Array Oper) (o : Oper) (s : St) : Prop :=
  ∀ E m a w, SRel G nt E m s a w → ∀ (K : Act → World → Prop) (Q : Exit → Act → World → Prop), (∀ u v a' w', SRel G nt E m s a' w' → Q (Zy6 u v) a' w') →
    Region.wanted o (yielded ops a.tmps) = true ∧ o.wp P a w K Q
theorem Zoz.call {nt : Nat} {ops : Array Oper} {o : Oper} {s : St} {f : Operand} {args : Array Operand} {ts : Array TypeId} {k : FuncId} {first captured : Array Value}
  (ho : o.op = .call { callee := .value f, args := args, argTypes := ts }) (hf : s.eval f = .func (.func k) first captured) (hcap : first.toList.all Zdm = true ∧ captured.toList.all Zdm = true) (hk : Zdy P k = true) (hg : Zcn nt s (Zct ops o) = some true)
  {argsL : List Value} {σ : List Blk} (hC : Zyj P G k argsL σ) (e : Emb) (hro : (σ.all fun L => !L.wr) = true) (hargs : Zkn e argsL (first.toList ++ args.toList.map s.eval ++ captured.toList)) (hemb : Zi1 s.heap e e σ) (hdist : Zln e σ = true) (hnames : Zjs e σ = true) :
  Zoz P G nt ops o s := by
 intro E m a w hr K Q hK
 refine ⟨Ze0 hg hr, ?_⟩
 have hfv := hr.eval f
 rw [hf] at hfv
 obtain ⟨first', captured', hf', hL1, hL2⟩ := hfv
 have hex := Zm9 (P := P) ho hf' hk w
 have hargsC : L2 (VR m) (first.toList ++ args.toList.map s.eval ++ captured.toList) (first' ++ args.map a.eval ++ captured').toList := by
  simp only [Array.toList_append, Array.toList_map]
  refine ((Zk5 hL1 hcap.1).append ?_).append (Zk5 hL2 hcap.2)
  refine ⟨by simp, fun i x y hx hy => ?_⟩
  simp only [List.getElem?_map, Option.map_eq_some_iff] at hx hy
  obtain ⟨p, hp1, rfl⟩ := hx
  obtain ⟨q, hq1, rfl⟩ := hy
  rw [hp1] at hq1; injection hq1 with hq1; subst hq1
  exact hr.eval p
 obtain ⟨hel, hone⟩ := Zg3 hemb
 have hE : EmbOK s.heap e σ := ⟨hel, hone, Zsd (H := s.heap) hdist⟩
 have hnm : ∀ (i : Nat) (L : Blk), σ[i]? = some L → L.pur = true ∨ ∀ v, v ∈ L.cells → Zbc (inE e) v = true := by
  intro i L hL
  have := hnames
  simp only [Zjs, List.all_eq_true, Bool.or_eq_true] at this
  exact this L (List.mem_of_getElem? hL)
 have hA := Zn2 hr.heap hE _ _ _ hargs hargsC
 have hem := hr.heap.embed hE hnm
 have hcall := hC (mE m e σ) w (first' ++ args.map a.eval ++ captured').toList hem hA
 rw [Array.toArray_toList] at hcall
 unfold Oper.wp
 rw [hex]
 show Calls P k (first' ++ args.map a.eval ++ captured') w _
 refine hcall.mono ?_
 rintro en w' ⟨u, v, rfl, hF⟩
 refine hK u v a w' (hr.ext (hF.ext ?_))
 intro b r hb
 obtain ⟨blk, g1, _, g3, _⟩ := hem.reg b r hb
 rw [g3]
 simp only [List.all_eq_true] at hro
 have := hro blk (List.mem_of_getElem? g1)
 simpa using this
theorem Zoz.sound {nt : Nat} {ops : Array Oper} {Q : Exit → Act → World → Prop} {E : Ent} {o : Oper} {post : List Oper} {s : St} (h : Zoz P G nt ops o s) (hQ : ∀ u v m a w, SRel G nt E m s a w → Q (Zy6 u v) a w) {m : MapM} {a : Act} {w : World} (hr : SRel G nt E m s a w) : wpList P ops Q (o :: post) a w := by
 obtain ⟨h1, h2⟩ := h E m a w hr (wpList P ops Q post) Q (fun u v a' w' h => hQ u v m a' w' h)
 unfold wpList
 rw [if_pos h1]
 exact .inl h2
end
end Go.Flat
end
section
/- A function that defers one call which recovers. -/
namespace Go.Flat
section
variable {P : Program} {G : Glob}
def WpS (P : Program) (G : Glob) (nt n0 : Nat) (c : Code) (Φ : Ent → Exit → Act → World → Prop) (s : St) : Prop :=
  ∀ E m a w, E.defers = [] → (∀ b, n0 ≤ b → E.m b = none) → SRel G nt E m s a w → c.wp P (Φ E) a w
def Z14 (P : Program) (G : Glob) (fn : Func) (res : Value) (σ' : List Blk) (E : Ent) : Exit → Act → World → Prop :=
  bodyPostD P fn fun en w' => ∃ v' m', en = .returned v' ∧ HRel G m' σ' w' ∧ VR m' res v' ∧ Frame E m' w'
theorem Frame.join {E : Ent} {m1 m2 : MapM} {w w1 : World} {ds : List Deferred} (h : Frame E m1 w) (h' : Frame ⟨m1, w, ds⟩ m2 w1) (hk : ∀ b r, E.m b = some r → (r.wr = false ∨ r.mv = false) → m2 b = some r) : Frame E m2 w1 :=
 h.trans h' (fun _ _ h => h) (fun b r hb _ => .inr ⟨b, hb⟩) hk
theorem Frame.joinKeep {E : Ent} {m1 m2 : MapM} {w w1 : World} {ds : List Deferred} (h : Frame E m1 w) (h' : Frame ⟨m1, w, ds⟩ m2 w1) : Frame E m2 w1 :=
 h.join h' fun b r h1 h2 => h'.keep b r (h.keep b r h1 h2) h2
theorem Zfc.before {nt : Nat} {ops : Array Oper} {Q : Exit → Act → World → Prop} {E : Ent} {o : Oper} {R : St → Prop} (hQ : ∀ s m a w, R s → SRel G nt E m s a w → wpList P ops Q [o] a w) :
  ∀ (l : List Oper) (s : St), Zfc P G nt ops R l s → ∀ m a w, SRel G nt E m s a w → wpList P ops Q (l ++ [o]) a w
 | [], s, h, m, a, w, hr => hQ s m a w h hr
 | o' :: l, s, h, m, a, w, hr => by
  obtain ⟨s2, h1, h2⟩ := h
  have := h1 E m a w hr (wpList P ops Q (l ++ [o])) Q (fun m' a' w' hr' => Zfc.before hQ l s2 h2 m' a' w' hr')
  rw [List.cons_append]
  unfold wpList
  split
  ·rename_i hw; rw [if_pos hw] at this; exact .inl this
  ·rename_i hw; rw [if_neg hw] at this; exact this
def Z15 (P : Program) (G : Glob) (fn : Func) (σ : List Blk) (res : Value) (σ' : List Blk) (tE : TypeId) (b : Nat) (errv : Value) : Exit → St → Prop
  | .normal, s | .ret, s => ∃ v e, EndOK P G fn σ res σ' s v e
  | .panic ch, s => (∃ u pv, ch = [{ v := .iface u pv, recovered := false }]) ∧ ∃ v e blk', Zib P tE s.heap (.pointer (some ⟨b, 0, none⟩)) errv = some (b, blk') ∧ EndOK P G fn σ res σ' ⟨s.tmps, s.heap.set b blk'⟩ v e
  | _, _ => False
def Z0o (P : Program) (kf : FuncId) (tE : TypeId) (errv : Value) : Prop :=
  (∀ (p : Addr) (u : TypeId) (pv : Value) (w w' : World), (Instr.storeAt tE (.pointer (some p)) errv).run P w = .ok () w' →
    CallsD P kf #[.pointer (some p)] (.panicking [{ v := .iface u pv, recovered := false }]) w fun e u' w'' => (∃ r, e = .returned r) ∧ u' = .panicking [{ v := .iface u pv, recovered := true }] ∧ w'' = w') ∧
  ∀ (p : Addr) (w : World), CallsD P kf #[.pointer (some p)] .returning w fun e u' w'' => (∃ r, e = .returned r) ∧ u' = .returning ∧ w'' = w
end
end Go.Flat
end
section
/- The rules of the walks, where something panics. -/
namespace Go.Flat
section
variable {P : Program} {G : Glob} {nt n0 : Nat} {Q : Exit → St → Prop} {s : St} {x y z : Code}
variable {T : Nat → Value} {H : List Blk}
theorem Zbi.mono {ops : Array Oper} {K K' : Trace → St → Prop} (hk : ∀ tr s, K tr s → K' tr s) : ∀ {l : List Oper} {tr : Trace} {s : St}, Zbi P G nt ops K l tr s → Zbi P G nt ops K' l tr s
 | [], _, _, h => hk _ _ h
 | _ :: _, _, _, ⟨δ, h1, h2⟩ => ⟨δ, h1, Zbi.mono hk h2⟩
variable {ops : List Oper} {d : Option Tmp} {ty : TypeId} {ps : String} {af : Array Edge} {g : Option (Nat × Bool)}
end
end Go.Flat
end
section
/- A region that draws its order, and in which an operation panics. -/
namespace Go.Flat
section
variable {P : Program} {G : Glob}
def Z0v (P : Program) (G : Glob) (nt : Nat) (ops : Array Oper) (o : Oper) (foot : List Nat) (s : St) : Prop := ∀ s', Agree ops o foot s s' → Zoz P G nt ops o s'
end
end Go.Flat
end
section
/- The rule for a region that draws its order and panics. -/
namespace Go.Flat
section
variable {P : Program} {G : Glob} {nt n0 : Nat} {Q : Exit → St → Prop} {T : Nat → Value} {H : List Blk}
def Zra (tr : Trace) : Bool := tr.all fun p => p.2.sets.isEmpty && p.2.kill.isNone
def Zm6 (tr : Trace) : List Nat := tr.filterMap fun p => p.1.dst
def deadT (l : List Nat) (T : Nat → Value) : Nat → Value := fun t => if l.contains t then dead else T t
theorem Znu {S : Nat → Bool} : ∀ (tr : Trace) (k : Nat) (s : St), Zra tr = true → (stS s S tr k).heap = s.heap ∧ ∀ t, (Zm6 tr).contains t = false → (stS s S tr k).tmps t = s.tmps t
  | [], k, s, _ => ⟨rfl, fun _ _ => rfl⟩
  | (o, δ) :: l, k, s, h => by
    simp only [Zra, List.all_cons, Bool.and_eq_true] at h
    obtain ⟨⟨h1, h2⟩, h3⟩ := h
    have hs : δ.sets = [] := by simpa using h1
    have hk : δ.kill = none := by simpa using h2
    obtain ⟨g1, g2⟩ := Znu (S := S) l (k + 1) (if S k then δ.apply o.dst s else s) h3
    simp only [stS]
    have hh : (if S k then δ.apply o.dst s else s).heap = s.heap := by
      split
      · simp only [Delta.apply, hs, hk, Zdf]; cases o.dst <;> rfl
      · rfl
    refine ⟨g1.trans hh, fun t ht => ?_⟩
    have ht2 : (Zm6 l).contains t = false ∧ o.dst ≠ some t := by
      unfold Zm6 at ht ⊢
      cases ho : o.dst with
      | none => simp [ho] at ht ⊢; exact ht
      | some d => simp [ho] at ht ⊢; exact ⟨ht.2, fun e => ht.1 e.symm⟩
    rw [g2 t ht2.1]
    split
    · rw [Zbj]; unfold Zmt; rw [if_neg ht2.2, hk]
    · rfl
theorem SRel.deadT {E : Ent} {m : MapM} {s : St} {tr : Trace} {S : Nat → Bool} {a : Act} {w : World} (hq : Zra tr = true) (h : SRel G nt E m (stS s S tr 0) a w) : SRel G nt E m ⟨Flat.deadT (Zm6 tr) s.tmps, s.heap⟩ a w := by
 obtain ⟨g1, g2⟩ := Znu (S := S) tr 0 s hq
 refine ⟨h.size, fun t => ?_, h.defers, by rw [← g1]; exact h.heap, h.frame⟩
 show VR m (if (Zm6 tr).contains t then dead else s.tmps t) _
 cases hc : (Zm6 tr).contains t with
 | true => rw [if_pos rfl]; exact VR.dead
 | false =>
  rw [if_neg (by simp)]
  have := h.tmps t
  rw [g2 t hc] at this
  exact this
def Z0p (L : List Oper) (n : Nat) : Bool := (List.range L.length).all fun j => decide (j ≤ n) || ((clo L).getD j []).contains n
variable {ops : List Oper} {d : Option Tmp} {ty : TypeId} {ps : String} {af : Array Edge} {g : Option (Nat × Bool)}
end
end Go.Flat
end
section
/- The two rules, by the place of the operation that panics. -/
namespace Go.Flat
section
variable {P : Program} {G : Glob} {nt n0 : Nat} {Q : Exit → St → Prop} {T : Nat → Value} {H : List Blk}
theorem Zyp {α : Type} {L : List α} {n : Nat} {o : α} (ho : L[n]? = some o) : L = L.take n ++ o :: L.drop (n + 1) := by
 obtain ⟨h, he⟩ := List.getElem?_eq_some_iff.1 ho
 rw [← he, ← List.drop_eq_getElem_cons h, List.take_append_drop]
end
end Go.Flat
end
section
/- Boxes, rows by a code, the loads that sx prints. -/
namespace Go.Flat
def bxB (n : Nat) (l : List Value) : Blk := { cells := l, sz := n, wr := true, fix := true, mv := false, pur := true }
def rfB (v : Value) : Blk := { cells := [v], sz := 1, wr := true, fix := true, mv := false, pur := false }
structure Cod (α : Type) where
  enc : α → List Value
  n : Nat
  len : ∀ x, (enc x).length = n
  pos : 0 < n
def Cod.row {α : Type} (c : Cod α) (l : List α) : List Value := (l.map c.enc).flatten
def rwB {α : Type} (c : Cod α) (l : List α) : Blk := { cells := c.row l, sz := c.n, wr := true, fix := false, mv := true, pur := true }
def rwR {α : Type} (c : Cod α) (l : List α) : Blk := { cells := c.row l, sz := c.n, wr := false, fix := false, mv := true, pur := true }
theorem Zas.res {P : Program} {G : Glob} {f : FuncId} {a : List Value} {σ σ' : List Blk} {r r' : Value} (h : Zas P G f a σ r σ') (e : r = r') : Zas P G f a σ r' σ' := e ▸ h
section
variable {α : Type} (c : Cod α)
theorem Cod.row_len (l : List α) : (c.row l).length = l.length * c.n := by
 induction l with
 | nil => simp [Cod.row]
 | cons x l ih =>
  unfold Cod.row at ih ⊢
  rw [List.map_cons, List.flatten_cons, List.length_append, ih, c.len, List.length_cons, Nat.add_mul, Nat.one_mul, Nat.add_comm]
theorem Cod.row_app (l m : List α) : c.row (l ++ m) = c.row l ++ c.row m := by simp [Cod.row]
theorem Cod.row_drop (l : List α) : ∀ i, (c.row l).drop (i * c.n) = c.row (l.drop i) := by
 induction l with
 | nil => intro i; simp [Cod.row]
 | cons x l ih =>
  intro i
  cases i with
  | zero => simp
  | succ i =>
   rw [show c.row (x :: l) = c.enc x ++ c.row l from by simp [Cod.row], show (i + 1) * c.n = (c.enc x).length + i * c.n from by rw [c.len, Nat.add_mul, Nat.one_mul, Nat.add_comm], List.drop_length_add_append, ih]
   simp
theorem Cod.row_take (l : List α) : ∀ i, (c.row l).take (i * c.n) = c.row (l.take i) := by
 induction l with
 | nil => intro i; simp [Cod.row]
 | cons x l ih =>
  intro i
  cases i with
  | zero => simp [Cod.row]
  | succ i =>
   rw [show c.row (x :: l) = c.enc x ++ c.row l from by simp [Cod.row], show (i + 1) * c.n = (c.enc x).length + i * c.n from by rw [c.len, Nat.add_mul, Nat.one_mul, Nat.add_comm], List.take_length_add_append, ih]
   simp [Cod.row]
theorem Cod.at_ [Inhabited α] {l : List α} {i : Nat} (h : i < l.length) : ((c.row l).drop (i * c.n)).take c.n = c.enc (l.getD i default) := by
 rw [c.row_drop, List.drop_eq_getElem_cons h, show c.row (l[i] :: l.drop (i + 1)) = c.enc l[i] ++ c.row (l.drop (i + 1)) from by unfold Cod.row; rw [List.map_cons, List.flatten_cons]]
 rw [List.take_append_of_le_length (by rw [c.len]; exact Nat.le_refl _), List.take_of_length_le (by rw [c.len]; exact Nat.le_refl _), List.getD_eq_getElem?_getD, List.getElem?_eq_getElem h]; rfl
theorem Cod.cell [Inhabited α] {l : List α} {i k : Nat} (h : i < l.length) (hk : k < c.n) : (c.row l)[i * c.n + k]? = (c.enc (l.getD i default))[k]? := by
 rw [← c.at_ h, List.getElem?_take, if_pos hk, List.getElem?_drop]
variable {P : Program} {G : Glob} {t : TypeId} {H : List Blk} {b : Nat} {blk : Blk} {c}
theorem Zei [Inhabited α] (c : Cod α) {l : List α} {i o m n : Nat} (hm : m = c.n) (hk : Zhj P t = some (true, m)) (hb : H[b]? = some blk) (hc : blk.cells = c.row l) (hi : i < l.length) (ho : o = i * m) : Zfn P G t H (.pointer (some ⟨b, o, none⟩)) = some (.agg (c.enc (l.getD i default)).toArray) := by
 subst hm; subst ho
 refine Ztq hk hb ?_ (by rw [hc]; exact c.at_ hi)
 rw [hc, c.row_len]
 have := Nat.mul_le_mul_right c.n (Nat.succ_le_of_lt hi)
 rw [Nat.succ_mul] at this
 exact this
theorem Zvs [Inhabited α] (c : Cod α) {l : List α} {i o m : Nat} {v : Value} (h1 : c.n = 1) (hk : Zhj P t = some (false, m)) (hb : H[b]? = some blk) (hc : blk.cells = c.row l) (hi : i < l.length) (ho : o = i) (hv : c.enc (l.getD i default) = [v]) (h2 : Zi7 v = true) : Zfn P G t H (.pointer (some ⟨b, o, none⟩)) = some v := by
 subst ho
 refine Zpr hk hb ?_ h2
 have := c.cell (k := 0) hi (by rw [h1]; exact Nat.zero_lt_one)
 rw [h1, hv] at this
 rw [hc]; simpa using this
theorem Zii [Inhabited α] (c : Cod α) {l : List α} {i o k m n : Nat} {v : Value} (hm : m = c.n) (hk : Zhj P t = some (false, n)) (hb : H[b]? = some blk) (hc : blk.cells = c.row l) (hi : i < l.length) (ho : o = i * m + k) (hv : (c.enc (l.getD i default))[k]? = some v) (h2 : Zi7 v = true) : Zfn P G t H (.pointer (some ⟨b, o, none⟩)) = some v := by
 subst hm; subst ho
 refine Zpr hk hb ?_ h2
 have hkn : k < c.n := by
  have := (List.getElem?_eq_some_iff.1 hv).1
  rw [c.len] at this; exact this
 rw [hc, c.cell hi hkn, hv]
end
section
variable {P : Program} {t : TypeId} {x y : Operand}
theorem Zun {op : BinOp} {a b r : Bool} (h : Zz P (binOp op t (.bool a) (.bool b)) = some (.bool r)) (hg : Zz P (eqGuard op t x y (.bool a) (.bool b)) = some ()) : Zc5 P op t x y (.bool a) (.bool b) = some (.bool r) := by
 unfold Zc5
 rw [if_pos (show (Zbf (.bool a) && Zbf (.bool b)) = true from rfl), Z3, hg, Option.bind_some, h]
 rfl
theorem Zw1 {d : Nat} {a b : Bool} (hu : P.underlying t = some .bool) : Zz P (Op.equalIn (d + 1) t (.bool a) (.bool b)) = some (a == b) := by
 simp only [Op.equalIn, Z3, Za3 hu, Option.bind_some]
 rfl
theorem Zuo {a b : Bool} (hu : P.underlying t = some .bool) : Zc5 P .eql t x y (.bool a) (.bool b) = some (.bool (a == b)) := Zun (by
 have : binOp .eql t (.bool a) (.bool b) = (do pure (.bool (← Op.equal t (.bool a) (.bool b)))) := rfl
 rw [this, Z3, show Zz P (Op.equal t (.bool a) (.bool b)) = some (a == b) from Zw1 (d := 9999) hu]; rfl) rfl
theorem Zsg {a b a' b' : Bool} (hu : P.underlying t = some .bool) (ha : a = a') (hb : b = b') : Zc5 P .eql t x y (.bool a) (.bool b) = some (.bool (a' == b')) := by subst ha; subst hb; exact Zuo hu
end
end Go.Flat
end
namespace Go.Flat
open Go.Proofs
def dz : D := fun _ => 0
section
variable {P : Program} {G : Glob} {t : TypeId} {H : List Blk} {b : Nat} {blk : Blk}
theorem Zaa {α : Type} {c : Cod α} {e : Emb} {id : Nat} {l : List α} (hB : H[id]? = some (rwB c l)) : Ze9 H e (some (id, 0)) (rwR c l) :=
 Zuy hB (by show (decide (0 < c.n) && decide (0 < c.n) && _ && (_ || c.n == c.n) && _ && _ && _) = true; simp [c.pos, rwR, rwB]) (by show 0 + (c.row _).length ≤ (c.row _).length; omega) (by show ((c.row l).drop 0).take (c.row l).length = c.row l; simp)
theorem Zae {α : Type} {c : Cod α} {e : Emb} {id : Nat} {l : List α} (hB : H[id]? = some (rwR c l)) : Ze9 H e (some (id, 0)) (rwR c l) :=
 Zuy hB (by show (decide (0 < c.n) && decide (0 < c.n) && _ && (_ || c.n == c.n) && _ && _ && _) = true; simp [c.pos, rwR]) (by show 0 + (c.row _).length ≤ (c.row _).length; omega) (by show ((c.row l).drop 0).take (c.row l).length = c.row l; simp)
end
def txB (ts : List ByteArray) : Blk := { cells := ts.map Value.string, sz := 1, wr := true, fix := false, mv := true, pur := true }
def Z1x (a b : ByteArray) : Bool := a.toList == b.toList
variable {G : Glob}
end Go.Flat
section
/- Opening arguments of any pure type; rows of such things. -/
namespace Go.Flat
open Go.ChangeShapes Go.WideShapes Go.RowKit
def Zao {α : Type} (P : Program) (t : TypeId) (enc : α → List Value) (ok : α → Prop) : Prop :=
  ∀ {H : Type} {encH : TypeId × Value → H} {W : World} {fuel : Nat} {cs : List Value} {x : DataW H × List MemPlace}, DataW.trod encH P W 0 (fun _ => true) true fuel t cs = some x → ∃ a, cs = enc a ∧ ok a
section
variable {P : Program} {t : TypeId}
theorem Zao.int (ht : P.underlying t = some (.int .i64)) : Zao P t (fun z : Int => [.int .i64 z]) (fun z => -9223372036854775808 ≤ z ∧ z ≤ 9223372036854775807) := by
 intro H encH W fuel cs x h
 obtain ⟨z, rfl, _, hw⟩ := DataW.trod_int ht h
 rw [Lit.wf, Bool.and_eq_true] at hw
 exact ⟨z, rfl, of_decide_eq_true hw.1, of_decide_eq_true hw.2⟩
theorem Zao.bool (ht : P.underlying t = some .bool) : Zao P t (fun b : Bool => [.bool b]) (fun _ => True) := by
 intro H encH W fuel cs x h
 obtain ⟨z, rfl, _⟩ := DataW.trod_bool ht h
 exact ⟨z, rfl, trivial⟩
theorem Zao.str (ht : P.underlying t = some .string) : Zao P t (fun s : ByteArray => [.string s]) (fun s => s.size ≤ maxLen) := by
 intro H encH W fuel cs x h
 obtain ⟨z, rfl, _, hw⟩ := DataW.trod_string ht h
 exact ⟨z, rfl, hw⟩
theorem Zao.u8 (ht : P.underlying t = some (.int .u8)) : Zao P t (fun b : BitVec 8 => [w8 b]) (fun _ => True) := by
 intro H encH W fuel cs x h
 obtain ⟨z, rfl, _, hw⟩ := DataW.trod_int ht h
 rw [Lit.wf, Bool.and_eq_true] at hw
 have h1 : (0 : Int) ≤ z := of_decide_eq_true hw.1
 have h2 : z ≤ 255 := of_decide_eq_true hw.2
 refine ⟨BitVec.ofInt 8 z, ?_, trivial⟩
 congr 2
 rw [BitVec.toNat_ofInt]; omega
theorem Zao.bytes {tb : TypeId} {n : Nat} (ht : P.underlying t = some (.array n tb)) (htb : P.underlying tb = some (.int .u8)) (hcb : P.cellsOf tb = 1) (hct : P.cellsOf t = n) : Zao P t (fun d : Nat → BitVec 8 => Zd2 w8 n d) (fun _ => True) := by
  intro H encH W fuel cs x h
  obtain ⟨xs, m, _, _, hl, hxl, hel⟩ := DataW.trod_array ht h
  rw [hct] at hl
  refine ⟨fun j => match cs[j]? with | some (.int _ z) => BitVec.ofInt 8 z | _ => 0, ?_, trivial⟩
  apply List.ext_getElem?
  intro j
  rcases Nat.lt_or_ge j n with hj | hj
  · have e := hel j hj
    rw [hcb, Nat.mul_one, List.getElem?_eq_getElem (by omega)] at e
    obtain ⟨b, e1, _⟩ := Zao.u8 htb e
    have hc : cs[j]? = some (w8 b) := by
      have : ((cs.drop j).take 1)[0]? = some (w8 b) := by rw [e1]; rfl
      simpa using this
    rw [Zh6 hj, hc]
    simp only []
    rw [ofI]
  · rw [List.getElem?_eq_none (by omega), List.getElem?_eq_none (by rw [Zwb]; omega)]
theorem Zao.at_ {α : Type} {enc : α → List Value} {ok : α → Prop} (ho : Zao P t enc ok) {H : Type} {encH : TypeId × Value → H} {W : World} {n off k : Nat} {cs : List Value} {xs : List (DataW H × List MemPlace)} {i : Nat} {f : Field} (hf : DataW.trod encH P W 0 (fun _ => true) true n f.type ((cs.drop f.offset).take (P.cellsOf f.type)) = xs[i]?) (hi : i < xs.length) (ht : f.type = t) (hc : P.cellsOf t = k) (hoff : f.offset = off) : ∃ a, (cs.drop off).take k = enc a ∧ ok a := by
 subst ht; subst hc; subst hoff
 rw [List.getElem?_eq_getElem hi] at hf
 exact ho hf
theorem Zaz {cs : List Value} (off k : Nat) : cs.drop off = (cs.drop off).take k ++ cs.drop (off + k) := by
 rw [← List.drop_drop]; exact (List.take_append_drop k _).symm
theorem Zao.val {α : Type} {enc : α → List Value} {ok : α → Prop} (ho : Zao P t enc ok) {H : Type} {encH : TypeId × Value → H} {W : World} {base : Nat} {v : Value} {d : DataW H} {p : List MemPlace} (hagg : (∃ fs, P.underlying t = some (.struct fs)) ∨ (∃ n e, P.underlying t = some (.array n e)))
  (hv : Value.okWide P W .any base t v) (h : DataW.Trod encH P W 0 (fun _ => true) true t v d p) : ∃ a, v = .agg (enc a).toArray ∧ ok a := by
 have hx : ∃ cs, v = .agg cs := by
  unfold Value.okWide at hv
  rcases hagg with ⟨fs, e⟩ | ⟨n, e', e⟩
  ·rw [e] at hv; obtain ⟨cs, h1, _⟩ := hv; exact ⟨cs, h1⟩
  ·rw [e] at hv; obtain ⟨cs, h1, _⟩ := hv; exact ⟨cs, h1⟩
 obtain ⟨cs, rfl⟩ := hx
 obtain ⟨fuel, hf⟩ := h
 obtain ⟨a, h1, h2⟩ := ho hf
 refine ⟨a, ?_, h2⟩
 have h1' : cs.toList = enc a := h1
 rw [← h1']
theorem Zao.one {α : Type} {enc : α → Value} {ok : α → Prop} (ho : Zao P t (fun a => [enc a]) ok) {H : Type} {encH : TypeId × Value → H} {W : World} {base : Nat} {v : Value} {d : DataW H} {p : List MemPlace} (hsc : P.underlying t = some .bool ∨ P.underlying t = some .string ∨ ∃ k, P.underlying t = some (.int k))
  (hv : Value.okWide P W .any base t v) (h : DataW.Trod encH P W 0 (fun _ => true) true t v d p) : ∃ a, v = enc a ∧ ok a := by
 obtain ⟨fuel, hf⟩ := h
 obtain ⟨a, h1, h2⟩ := ho hf
 refine ⟨a, ?_, h2⟩
 rcases hsc with e | e | ⟨k, e⟩
 ·obtain ⟨b, rfl⟩ := okWide_bool e hv
  have h1' : [Value.bool b] = [enc a] := h1
  injection h1'
 ·obtain ⟨b, rfl⟩ := okWide_string e hv
  have h1' : [Value.string b] = [enc a] := h1
  injection h1'
 ·obtain ⟨b, rfl⟩ := okWide_int e hv
  have h1' : [Value.int k b] = [enc a] := h1
  injection h1'
end
end Go.Flat
end
section
/- Opening a row of any pure things. -/
namespace Go.Flat
open Go.ChangeShapes Go.WideShapes Go.RowKit
theorem Zsp {α : Type} {Q : Nat → α → Prop} : ∀ (n : Nat), (∀ i, i < n → ∃ a, Q i a) → ∃ xs : List α, xs.length = n ∧ ∀ i x, xs[i]? = some x → Q i x
  | 0, _ => ⟨[], rfl, fun i x h => by simp at h⟩
  | n + 1, h => by
    obtain ⟨xs, hl, hx⟩ := Zsp n fun i hi => h i (by omega)
    obtain ⟨a, ha⟩ := h n (by omega)
    refine ⟨xs ++ [a], by simp [hl], fun i x hi => ?_⟩
    rcases Nat.lt_or_ge i n with hlt | hge
    · rw [List.getElem?_append_left (by omega)] at hi; exact hx i x hi
    · rw [List.getElem?_append_right (by omega)] at hi
      have h0 : i - xs.length = 0 := by
        rcases Nat.eq_zero_or_pos (i - xs.length) with e | e
        · exact e
        · rw [List.getElem?_eq_none (by simp; omega)] at hi; cases hi
      rw [h0] at hi
      have e : i = n := by omega
      subst e
      injection hi with hi; subst hi; exact ha
theorem Cod.row_get {α : Type} (c : Cod α) : ∀ (l : List α) (k : Nat) (v : Value), (c.row l)[k]? = some v → ∃ x, l[k / c.n]? = some x ∧ (c.enc x)[k % c.n]? = some v
 | [], k, v, h => by simp [Cod.row] at h
 | x :: l, k, v, h => by
  have hp := c.pos
  rw [show c.row (x :: l) = c.enc x ++ c.row l from by simp [Cod.row]] at h
  rcases Nat.lt_or_ge k c.n with hlt | hge
  ·rw [List.getElem?_append_left (by rw [c.len]; exact hlt)] at h
   exact ⟨x, by rw [Nat.div_eq_of_lt hlt]; rfl, by rw [Nat.mod_eq_of_lt hlt]; exact h⟩
  ·rw [List.getElem?_append_right (by rw [c.len]; exact hge), c.len] at h
   obtain ⟨y, h1, h2⟩ := c.row_get l _ _ h
   refine ⟨y, ?_, ?_⟩
   ·rw [show k / c.n = (k - c.n) / c.n + 1 from by rw [← Nat.add_div_right _ hp, Nat.sub_add_cancel hge]]; exact h1
   ·rw [Nat.mod_eq_sub_mod hge]; exact h2
section
variable {H : Type} {enc : TypeId × Value → H} {P : Program} {W : World} {α : Type} {c : Cod α} {ok : α → Prop}
theorem Znl {te : TypeId} (ho : Zao P te c.enc ok) {fuel : Nat} {a : Addr} {x : DataW H × List MemPlace} (h : (W.cells? 0 a c.n).bind (DataW.trod enc P W 0 (fun _ => true) true fuel te) = some x) :
  ∃ y, (∀ j, j < c.n → W.cell? (a.add j) = (c.enc y)[j]?) ∧ ok y := by
 obtain ⟨cs, h1, h2⟩ := Option.bind_eq_some_iff.1 h
 obtain ⟨_, hl, hc⟩ := World.cells?_some h1
 obtain ⟨y, rfl, h3⟩ := ho h2
 exact ⟨y, hc, h3⟩
theorem Cod.row_pure (c : Cod α) (hp : ∀ x, (c.enc x).all Za9 = true) (l : List α) : ∀ v, v ∈ c.row l → Za9 v = true := by
 intro v hv
 unfold Cod.row at hv
 rw [List.mem_flatten] at hv
 obtain ⟨q, h1, h2⟩ := hv
 obtain ⟨x, _, rfl⟩ := List.mem_map.1 h1
 exact List.all_eq_true.1 (hp x) v h2
end
end Go.Flat
end
section
/- The first part of a row of things, lent. -/
namespace Go.Flat
end Go.Flat
end
