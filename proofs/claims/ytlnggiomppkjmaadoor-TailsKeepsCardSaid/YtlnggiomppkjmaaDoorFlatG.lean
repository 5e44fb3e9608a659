/- Walks. -/
import Derived.Test.YtlnggiomppkjmaaDoorFlatC
import Derived.Carry
import Derived.ReadAgain
import Derived.Test.YtlnggiomppkjmaaDoorSha
import Derived.Test.YtlnggiomppkjmaaDoorTie
import Derived.Test.YtlnggiomppkjmaaDoorCards
import Derived.ProofKit
import Derived.OpenShut
import Derived.LaidMore
import Derived.Lay
import Derived.SevenTiedAt
import Derived.Defers
import Derived.Recover
set_option linter.unusedVariables false
set_option linter.unusedSimpArgs false
set_option maxRecDepth 20000
section
/- A law's row, out of its contract: whatever the arguments, as long as what was there is not written. -/
namespace Go.Flat
open Go.ChangeShapes Go.WideShapes Go.RowKit
section
variable {H : Type} {enc : TypeId × Value → H} {P : Program} {m m' : MapM} {W W' : World}
theorem Zkc (hl : laidOutB P = true) {sp : Nat → Bool} (hk : ∀ g, g < W.heap.size → W'.heap[g]? = W.heap[g]?) : ∀ {ts : List TypeId} {vs : List Value} {ds : List (DataW H)} {ps : List MemPlace}, (ts.all fun t => P.readableRec t && decide (t < P.types.size)) = true →
  DataW.TrodAll enc P W 0 (fun _ => true) true ts vs ds ps → (∀ p ∈ ps, p.block < W.heap.size) → (∀ p ∈ ps, sp p.block = true) → DataW.TrodAll enc P W' 0 sp true ts vs ds ps
 | [], [], [], _, _, h, _, _ => h
 | t :: ts, v :: vs, d :: ds, ps, ht, ⟨p, q, h1, h2, e⟩, hlt, hs => by
  rw [List.all_cons, Bool.and_eq_true, Bool.and_eq_true] at ht
  refine ⟨p, q, WideElems.Trod_stays hl ht.1.1 (of_decide_eq_true ht.1.2) h1 (fun x hx => ?_) (fun x hx => hs x (by rw [e]; exact List.mem_append_left _ hx)), Zkc hl hk ht.2 h2 (fun x hx => hlt x (by rw [e]; exact List.mem_append_right _ hx)) (fun x hx => hs x (by rw [e]; exact List.mem_append_right _ hx)), e⟩
  have := hk x.block (hlt x (by rw [e]; exact List.mem_append_left _ hx))
  unfold World.sameAt
  cases x <;> simp_all [MemPlace.block, World.cell?]
 | [], _ :: _, _, _, _, h, _, _ => h.elim
 | [], [], _ :: _, _, _, h, _, _ => h.elim
 | _ :: _, [], _, _, _, h, _, _ => h.elim
 | _ :: _, _ :: _, [], _, _, h, _, _ => h.elim
theorem Zzr {f : Func} {s : ChangeSpec} {apart fresh handsOn again : Bool} {args : Array Value} {ds gs : List (DataW H)} {before : List MemPlace} {tb : TypeId}
  (hW : DataW.Whole enc P f.params.toList s.vars apart W args.toList ds gs before) (hv : s.vars = []) (hs : s.fn H ds = { results := [.lit (.bool true)], args := ds })
  (hr : f.resultTypes = #[tb]) (hb : P.underlying tb = some .bool) (hl : laidOutB P = true) (ht : (f.params.toList.all fun t => P.readableRec t && decide (t < P.types.size)) = true)
  (hm : ∀ b r, m b = some r → r.wr = false) (hf : Frame ⟨m, W, []⟩ m' W') : s.post enc P f apart fresh handsOn again W args (.bool true) W' := by
 have hlt : ∀ p ∈ before, p.block < W.heap.size := fun p hp => hW.lt p hp
 have hW' := hW
 obtain ⟨p, q, hA, hV, he, _, _⟩ := hW'
 rw [hv] at hV
 obtain ⟨rfl, rfl⟩ := trodVars_none hV
 rw [List.append_nil] at he
 subst he
 have e1 := hs
 refine Zta (pa := before) (pv := []) hW (fun _ _ _ => ?_) (fun sp hsp => ?_) (fun sp hsp => ?_) (by simp) (hf.kept hm _) (fun a ha => hf.frozen hm a ha) ?_
 ·rw [List.append_nil, e1, hr]
  exact trodAll_mk1 (shut_bool hb _)
 ·rw [List.append_nil, e1]
  exact Zkc hl (fun g hg => hf.same hm hg) ht hA hlt hsp
 ·rw [List.append_nil, e1, hv]; rfl
 ·intro j t r h1 h2
  rw [hr] at h1 h2
  cases j with
  | zero =>
   simp [Value.resultList] at h1 h2
   subst h1; subst h2
   exact okWide_bool_mk hb _
  | succ j => simp at h1
theorem Zxf {f : FuncId} {fn : Func} {G : Glob} {s : ChangeSpec} {apart fresh handsOn again : Bool} {args : Array Value} {ds gs : List (DataW H)} {before : List MemPlace} {tb : TypeId} {σ σ' : List Blk} {argsL : List Value}
  (hW : DataW.Whole enc P fn.params.toList s.vars apart W args.toList ds gs before) (hv : s.vars = []) (hs : s.fn H ds = { results := [.lit (.bool true)], args := ds })
  (hr : fn.resultTypes = #[tb]) (hb : P.underlying tb = some .bool) (hl : laidOutB P = true) (ht : (fn.params.toList.all fun t => P.readableRec t && decide (t < P.types.size)) = true)
  (hm : ∀ b r, m b = some r → r.wr = false) (hrel : HRel G m σ W) (ha : L2 (VR m) argsL args.toList) (hC : Z6 P G f argsL σ (.bool true) σ') :
  Calls P f args W fun e W' => ∃ v, e = .returned v ∧ s.post enc P fn apart fresh handsOn again W args v W' := by
 refine (hC m W args.toList hrel ha).mono ?_
 rintro e w' ⟨v', m', rfl, h1, h2, h3⟩
 have : v' = .bool true := h2
 subst this
 exact ⟨_, rfl, Zzr hW hv hs hr hb hl ht hm h3⟩
end
end Go.Flat
end
section
/- Opening an argument: a slice of arrays of bytes. -/
namespace Go.Flat
open Go.ChangeShapes Go.WideShapes Go.RowKit
section
variable {H : Type} {enc : TypeId × Value → H} {P : Program} {W : World}
theorem Zv2 {a : Addr} {x : Nat} {v : Value} (h : W.cell? (a.add x) = some v) : W.cell? ⟨a.block, a.off + x, none⟩ = some v ∧ a.spot = none ∨ (W.cell? ⟨a.block, a.off + x, none⟩ = some v ∧ 0 < x) := by
 obtain ⟨b, o, s⟩ := a
 unfold Addr.add at h
 split at h
 ·rename_i hx
  subst hx
  cases s with
  | none => exact .inl ⟨h, rfl⟩
  | some q => unfold World.cell? at h; split at h <;> simp at h
 ·exact .inr ⟨h, by omega⟩
theorem Zr4 {a : Addr} {x : Nat} {v : Value} (h : W.cell? (a.add x) = some v) : W.cell? ⟨a.block, a.off + x, none⟩ = some v := by
 rcases Zv2 h with h | h
 ·exact h.1
 ·exact h.1
theorem Zn2 {a : Addr} {v : Value} (h : W.cell? (a.add 0) = some v) : a.spot = none := by
 rcases Zv2 h with h | h
 ·exact h.2
 ·omega
theorem Znh (a : Addr) (x y : Nat) : (a.add x).add y = a.add (x + y) := by
 obtain ⟨b, o, s⟩ := a
 unfold Addr.add
 by_cases hx : x = 0
 ·subst hx; by_cases hy : y = 0
  ·subst hy; simp
  ·simp [hy]
 ·by_cases hy : y = 0
  ·subst hy; simp [hx]
  ·simp [hx, hy]; omega
def Z6k (W : World) (g o : Nat) : BitVec 8 := match W.cell? ⟨g, o, none⟩ with | some (.int _ z) => BitVec.ofInt 8 z | _ => 0
end
end Go.Flat
end
section
namespace Go.Flat
open Go.Proofs
variable {G : Glob}

def Z5j (kk : Nat → BitVec 32) (l : List D) (i : Nat) : List D := (Zzf kk l.length l i []).reverse
def Zrm (n : Nat) : Nat := (Zjq n).toNat

theorem Zyg (kk : Nat → BitVec 32) (hG : G 0 = some (Zah w32 64 kk)) (hG1 : G 2 = some (Zah u8N 64 dbF)) (ds : List D) {c n : Nat} {x : D} (hl : ds.length = n) (hn : n ≤ 1000000) (hc : n ≤ c) (hx : Zfk kk ds = x) :
  Z6 Tryd.prog G 52 [slv 0 0 n c] [dsR ds] (dgV x) [dsR ds] := by
 subst hl; subst hx
 exact Z1e (G := G) kk hG hG1 ds c hn hc
end Go.Flat
end
section
namespace Go.Flat
open Go.Proofs
section
variable {H : Type} {enc : TypeId × Value → H} {P : Program} {W : World} {G : Glob} {m : MapM} {σ : List Blk}
def Z7r (n : Nat) (f : Nat → BitVec 8) : List D := (List.range n).map fun i j => f (i * 32 + j)
end
end Go.Flat
end
namespace Go.Proofs.YtlnggiomppkjmaaDoor
open Go.ChangeShapes Go.WideShapes Go.ChangeAt Go.RowKit
def ints (l : List (DataW Unit)) : List Int := l.map fun | .lit (.int _ z) => z | _ => 0
def parts : DataW Unit → List (DataW Unit) | .agg l => l | _ => []
noncomputable def kz : List Int := ints (parts Rows.laid_estreat_sha_table)
noncomputable def bz : List Int := ints (parts Rows.laid_math_bits_deBruijn64tab)
noncomputable def kk : Nat → BitVec 32 := Flat.Z68 32 kz
noncomputable def G0 : Flat.Glob := fun g => if g = 0 then some (Flat.Zah Flat.w32 64 kk) else if g = 2 then some (Flat.Zah Flat.u8N 64 Flat.dbF) else none
theorem hG : G0 0 = some (Flat.Zah Flat.w32 64 kk) := rfl
theorem hG1 : G0 2 = some (Flat.Zah Flat.u8N 64 Flat.dbF) := rfl
theorem own : ownKnob Tryd.prog.godebug = none := by kernel_rfl
theorem hrel_of_laid {W : World} {l : List (String × DataW Unit)} (hp : (l.all fun x => x.2.handleName?.isNone) = true) (h : laidMetH Tryd.prog l W)
    (h0 : ("estreat/sha.table", Rows.laid_estreat_sha_table) ∈ l) (h1 : ("math/bits.deBruijn64tab", Rows.laid_math_bits_deBruijn64tab) ∈ l) : Flat.HRel G0 (fun _ => none) [] W := by
  refine Flat.HRel.plain fun g cs hg => ?_
  unfold G0 at hg
  split at hg
  · rename_i e
    subst e
    injection hg with hg
    subst hg
    have r := Flat.Zon h hp h0
    rw [show (Rows.laid_estreat_sha_table : DataW Unit) = Lib.tabData .u32 kz from by kernel_rfl] at r
    exact r.tab (g := 0) (t := 124) (e := 98) (c := 64) (by kernel_rfl) (by kernel_rfl) (by kernel_rfl) (by kernel_rfl) (by kernel_rfl) (by kernel_rfl) (by decide +kernel) (by kernel_rfl)
  split at hg
  · rename_i e
    subst e
    injection hg with hg
    subst hg
    have r := Flat.Zon h hp h1
    rw [show (Rows.laid_math_bits_deBruijn64tab : DataW Unit) = Lib.tabData .u8 bz from by kernel_rfl] at r
    exact r.tab (g := 2) (t := 131) (e := 5) (c := 64) (by kernel_rfl) (by kernel_rfl) (by kernel_rfl) (by kernel_rfl) (by kernel_rfl) (by kernel_rfl) (by decide +kernel) (by kernel_rfl)
  · cases hg
end Go.Proofs.YtlnggiomppkjmaaDoor
section
namespace Go.Flat

theorem Zo4 {n : Nat} (h : 2 ≤ n) : 1 ≤ Zrm n ∧ Zrm n < n := by
 obtain ⟨s1, s2, _⟩ := Zve (n := n) h
 exact ⟨s1, s2⟩
def Z0p (kk : Nat → BitVec 32) (ds : List D) : D :=
  if h : ds.length ≤ 1 then (if ds.length = 0 then Zct kk [] else ds.getD 0 d0)
  else Zol kk (Z0p kk (ds.take (Zrm ds.length))) (Z0p kk (ds.drop (Zrm ds.length)))
termination_by ds.length
decreasing_by
  · have := Zo4 (n := ds.length) (by omega)
    simp; omega
  · have := Zo4 (n := ds.length) (by omega)
    simp; omega
def pk (kk : Nat → BitVec 32) (ds : List D) : List D :=
  if h : ds.length = 0 then [] else Z0p kk (ds.take (big ds.length)) :: pk kk (ds.drop (big ds.length))
termination_by ds.length
decreasing_by
  have := Zl9 (n := ds.length) (by omega)
  simp; omega
end Go.Flat
end
section
namespace Go.Flat
open Go.Proofs
variable {G : Glob}

def Z5f (kk : Nat → BitVec 32) (l : List D) (m : Nat) : List D := (Zv3 kk l.length l m true []).reverse
end Go.Flat
end
section
namespace Go.Flat
open Go.Proofs
variable {G : Glob}
end Go.Flat
end
section
namespace Go.Proofs.YtlnggiomppkjmaaDoor
open Go.ChangeShapes Go.WideShapes Go.ChangeAt Go.RowKit
end Go.Proofs.YtlnggiomppkjmaaDoor
end
section
namespace Go.Flat
open Go.Proofs
variable {G : Glob}
def Zjr (x : BitVec 32) (n : Nat) : BitVec 32 := x >>> n ||| x <<< (32 - n)
def Z7x (w : Nat → BitVec 32) : Blk := { cells := Zah w32 64 w, sz := 64, wr := true, fix := true, mv := false, pur := true }
def inR (b : Nat → BitVec 8) : Nat → Nat → BitVec 32
  | 0 => fun _ => 0
  | k + 1 => Zhb (inR b k) (k / 4) (inR b k (k / 4) * BitVec.ofInt 32 256 + (b k).setWidth 32)
def Z61 (w : Nat → BitVec 32) (t : Nat) : BitVec 32 := w (t - 16) + w (t - 7) + (Zjr (w (t - 15)) 7 ^^^ Zjr (w (t - 15)) 18 ^^^ w (t - 15) >>> 3) + (Zjr (w (t - 2)) 17 ^^^ Zjr (w (t - 2)) 19 ^^^ w (t - 2) >>> 10)
def Z2z (b : Nat → BitVec 8) : Nat → Nat → BitVec 32
  | 0 => inR b 64
  | k + 1 => Zhb (Z2z b k) (16 + k) (Z61 (Z2z b k) (16 + k))
end Go.Flat
end
section
namespace Go.Flat
open Go.Proofs
variable {G : Glob}
def Z6y (k : BitVec 32) (v w : Nat → BitVec 32) (t : Nat) : BitVec 32 := v 7 + (Zjr (v 4) 6 ^^^ Zjr (v 4) 11 ^^^ Zjr (v 4) 25) + ((v 4 &&& v 5) ^^^ (~~~(v 4) &&& v 6)) + k + w t
def Z6z (v : Nat → BitVec 32) : BitVec 32 := (Zjr (v 0) 2 ^^^ Zjr (v 0) 13 ^^^ Zjr (v 0) 22) + ((v 0 &&& v 1) ^^^ (v 0 &&& v 2) ^^^ (v 1 &&& v 2))
def Z2t (kk : Nat → BitVec 32) (v w : Nat → BitVec 32) : Nat → Nat → BitVec 32
  | 0 => v
  | t + 1 => Z3o (Z6y (kk t) (Z2t kk v w t) w t) (Z6z (Z2t kk v w t)) (Z2t kk v w t)
def Z6x (kk : Nat → BitVec 32) (v : Nat → BitVec 32) (b : Nat → BitVec 8) : Nat → BitVec 32 := Zyj v (Z2t kk v (Z2z b 48) 64) 8
attribute [local irreducible] Zjr
end Go.Flat
end
section
namespace Go.Flat
open Go.Proofs
variable {G : Glob}
theorem Zrw {P : Program} {H : List Blk} {t : TypeId} {q : Value} {b c n k n' by_ : Nat} {zc : List Value} {ls : Bs} {ms : List Value} {ms' : Bs} (ht : Zda P t = some (1, zc, by_)) (hz : zc.length = 1) (hs : Zg8 H 1 q = some (k, ms)) (hms : ms = ms'.map w8) (hb : H[b]? = some (Zao ls)) (hn : ls.length = n) (hk : n + k = n') (hby : 0 < by_) (hm : n' * by_ ≤ 140737488355328) :
  Znt P H t (slv b 0 n c) q = some (slv b 0 n' n', b, Zao (ls ++ ms')) := by
 subst hms
 have hc : (Zao ls).cells.length = n := by show (ls.map w8).length = _; simp [hn]
 rw [Zfy (n' := n') (p := (k, ms'.map w8)) ht hs hb rfl rfl hz (Zxl ms') (by rw [hc]; omega) hby hk hm]
 have : List.take (n * 1) (List.drop 0 (Zao ls).cells) ++ ms'.map w8 = (ls ++ ms').map w8 := by
  rw [List.drop_zero, List.take_of_length_le (by rw [hc]; omega), List.map_append]; rfl
 simp only [this]
 rfl
end Go.Flat
end
section
namespace Go.Flat
open Go.Proofs
variable {G : Glob}
def Z49 (kk v : Nat → BitVec 32) (l : Bs) : Nat → Nat → BitVec 32
  | 0 => v
  | j + 1 => Z6x kk (Z49 kk v l j) (Zh3 l j)
def Z60 (kk : Nat → BitVec 32) (M : Bs) : Nat → BitVec 8 := Ztk (Z49 kk Zx2 (M ++ Zfa M 8) ((M ++ Zfa M 8).length / 64)) 32
end Go.Flat
end
section
namespace Go.Flat
open Go.Proofs
variable {G : Glob}
def Z7g (kk : Nat → BitVec 32) (a b : Nat → BitVec 8) : Nat → BitVec 8 := Z60 kk (Zd2 [Z2o, Zo (dgL a), Zo (dgL b)])
end Go.Flat
end
section
namespace Go.Flat

def wF (b : Nat → BitVec 8) (i : Nat) : BitVec 32 := Z2z b (i - 15) i
end Go.Flat
end
section
namespace Go.Flat
open Go.Proofs
variable {G : Glob}
end Go.Flat
end
section
namespace Go.Flat
open Go.Proofs
variable {G : Glob}
end Go.Flat
end
section
namespace Go.Flat
open Go.Proofs
variable {G : Glob}
def Z7a (kk : Nat → BitVec 32) (l : List D) (m : Nat) (kn : Bool) : List D := (Zv3 kk l.length l m kn []).reverse
end Go.Flat
end
section
/- Panics: a function that ends in one; a call that does; the code around it. -/
namespace Go.Flat
section
variable {P : Program} {G : Glob}
abbrev Z4q (u : TypeId) (v : Value) : Exit := .panic [{ v := .iface u v, recovered := false }]
def Z3x (P : Program) (G : Glob) (f : FuncId) (args : List Value) (σ : List Blk) : Prop :=
  ∀ m w args', HRel G m σ w → L2 (VR m) args args' →
    Calls P f args'.toArray w fun e w' => ∃ u v, e = .panicked [{ v := .iface u v, recovered := false }] ∧ Frame ⟨m, w, []⟩ m w'
theorem Z3x.intro {f : FuncId} {fn : Func} {c : Code} {args : List Value} {σ : List Blk} (hf : P.funcs[f]? = some fn) (hb : fn.body = some c) (hn : args.length ≤ fn.ntmps)
  (h : WpL P G fn.ntmps σ.length c (fun e _ => ∃ u v, e = Z4q u v) ⟨Zih args, σ⟩) : Z3x P G f args σ := by
 intro m w args' hH hA
 refine calls_of_wp hf hb ?_
 have hl := hA.1
 have hdom : ∀ b, σ.length ≤ b → m b = none := fun b hb => hH.dom hb
 have h0 := h ⟨m, w, []⟩ m { tmps := args'.toArray ++ Array.replicate (fn.ntmps - args'.toArray.size) undef, defers := [] } w hdom
  ⟨by simp; omega, fun i => by
   rcases hA.at_ i with ⟨x, y, h1, h2, h3⟩ | ⟨h1, h2⟩
   ·have hi : i < args'.length := (List.getElem?_eq_some_iff.1 h2).1
    simp only [Zih, h1, Option.getD_some]
    rw [Array.getD_eq_getD_getElem?, Array.getElem?_append_left (by simpa using hi)]
    simp only [List.getElem?_toArray, h2, Option.getD_some]
    exact h3
   ·simp only [Zih, h1, Option.getD_none]
    have : args'.length ≤ i := by simpa using h2
    rw [Array.getD_eq_getD_getElem?, Array.getElem?_append_right (by simpa using this)]
    rw [Array.getElem?_replicate]
    split <;> exact VR.undef, rfl, hH, Frame.refl [] hH⟩
 refine wp_mono h0 ?_
 rintro e a w' ⟨s, m', ⟨u, v, rfl⟩, hr⟩
 exact ⟨hr.defers, u, v, rfl, hr.frame.os, hr.frame.tape, hr.frame.output, hr.frame.size, hr.frame.block, fun b r hb hw hlt => .inr fun j h1 h2 => ⟨b, r, hb, hw, rfl, h1, h2⟩, fun b r hb _ => hb⟩


structure Ext (w w' : World) : Prop where
  os : w'.os = w.os
  tape : w'.tape = w.tape
  output : w'.output = w.output
  size : w.heap.size ≤ w'.heap.size
  block : ∀ (g : Nat) (o : Obj), w.heap[g]? = some o → w'.heap[g]? = some o
theorem Frame.ext {m m' : MapM} {w w' : World} (hm : ∀ b r, m b = some r → r.wr = false) (h : Frame ⟨m, w, []⟩ m' w') : Ext w w' := by
 refine ⟨h.os, h.tape, h.output, h.size, fun g o ho => ?_⟩
 obtain ⟨o', h1, h2⟩ := h.block g o ho
 rw [h1, h2.same hm]
theorem Ext.cell {w w' : World} (h : Ext w w') {a : Addr} {v : Value} (hc : w.cell? a = some v) : w'.cell? a = some v := by
  unfold World.cell? at hc ⊢
  cases ho : w.heap[a.block]? with
  | none => rw [ho] at hc; cases hc
  | some o => rw [ho] at hc; rw [h.block _ _ ho]; exact hc
theorem Ext.frozen {w w' : World} (h : Ext w w') {a : Addr} {v : Value} (hc : w.cell? a = some v) : w'.frozen? a = w.frozen? a := by
  unfold World.cell? at hc
  cases ho : w.heap[a.block]? with
  | none => rw [ho] at hc; cases hc
  | some o => unfold World.frozen?; rw [ho, h.block _ _ ho]
theorem HRel.ext {m : MapM} {σ : List Blk} {w w' : World} (h : HRel G m σ w) (hx : Ext w w') : HRel G m σ w' where
 reg := h.reg
 live := h.live
 cell := fun b blk r i v h1 h2 h3 => let ⟨v', g1, g2⟩ := h.cell b blk r i v h1 h2 h3; ⟨v', hx.cell g1, g2⟩
 pur := h.pur
 own := fun b r h1 h2 => ⟨(h.own b r h1 h2).1, fun j h3 h4 => let ⟨v, g1, g2⟩ := (h.own b r h1 h2).2 j h3 h4; ⟨v, hx.cell g1, by rw [hx.frozen g1]; exact g2⟩⟩
 dis := h.dis
 glob := fun g cs hg => ⟨Nat.lt_of_lt_of_le (h.glob g cs hg).1 hx.size, fun i v hv => ⟨hx.cell ((h.glob g cs hg).2 i v hv).1, ((h.glob g cs hg).2 i v hv).2⟩⟩
 gwr := h.gwr
 clean := fun b r h1 h2 h3 h4 => let ⟨c, t, h5⟩ := h.clean b r h1 h2 h3 h4; ⟨c, t, hx.block _ _ h5⟩
theorem Frame.thenExt {E : Ent} {m : MapM} {w w' : World} (h : Frame E m w) (hx : Ext w w') : Frame E m w' :=
 ⟨hx.os.trans h.os, hx.tape.trans h.tape, hx.output.trans h.output, Nat.le_trans h.size hx.size, fun g o ho => let ⟨o', h1, h2⟩ := h.block g o ho; ⟨o', hx.block g o' h1, h2⟩, h.reg, h.keep⟩
theorem SRel.ext {nt : Nat} {E : Ent} {m : MapM} {s : St} {a : Act} {w w' : World} (h : SRel G nt E m s a w) (hx : Ext w w') : SRel G nt E m s a w' :=
 ⟨h.size, h.tmps, h.defers, h.heap.ext hx, h.frame.thenExt hx⟩


def Zrt (P : Program) (G : Glob) (nt : Nat) (ops : Array Oper) (o : Oper) (s : St) : Prop :=
  ∀ E m a w, SRel G nt E m s a w → ∀ (K : Act → World → Prop) (Q : Exit → Act → World → Prop), (∀ u v a' w', SRel G nt E m s a' w' → Q (Z4q u v) a' w') →
    Region.wanted o (yielded ops a.tmps) = true ∧ o.wp P a w K Q
theorem Zrt.call {nt : Nat} {ops : Array Oper} {o : Oper} {s : St} {f : Operand} {args : Array Operand} {ts : Array TypeId} {k : FuncId} {first captured : Array Value}
  (ho : o.op = .call { callee := .value f, args := args, argTypes := ts }) (hf : s.eval f = .func (.func k) first captured) (hcap : first.toList.all Zdy = true ∧ captured.toList.all Zdy = true) (hk : Zd6 P k = true) (hg : Zc3 nt s (Zc5 ops o) = some true)
  {argsL : List Value} {σ : List Blk} (hC : Z3x P G k argsL σ) (e : Emb) (hro : (σ.all fun L => !L.wr) = true) (hargs : Zix e argsL (first.toList ++ args.toList.map s.eval ++ captured.toList)) (hemb : Zhu s.heap e e σ) (hdist : Zil e σ = true) (hnames : Zf7 e σ = true) :
  Zrt P G nt ops o s := by
 intro E m a w hr K Q hK
 refine ⟨Zgo hg hr, ?_⟩
 have hfv := hr.eval f
 rw [hf] at hfv
 obtain ⟨first', captured', hf', hL1, hL2⟩ := hfv
 have hex := Zp1 (P := P) ho hf' hk w
 have hargsC : L2 (VR m) (first.toList ++ args.toList.map s.eval ++ captured.toList) (first' ++ args.map a.eval ++ captured').toList := by
  simp only [Array.toList_append, Array.toList_map]
  refine ((Znj hL1 hcap.1).append ?_).append (Znj hL2 hcap.2)
  refine ⟨by simp, fun i x y hx hy => ?_⟩
  simp only [List.getElem?_map, Option.map_eq_some_iff] at hx hy
  obtain ⟨p, hp1, rfl⟩ := hx
  obtain ⟨q, hq1, rfl⟩ := hy
  rw [hp1] at hq1; injection hq1 with hq1; subst hq1
  exact hr.eval p
 obtain ⟨hel, hone⟩ := Zes hemb
 have hE : EmbOK s.heap e σ := ⟨hel, hone, Znl (H := s.heap) hdist⟩
 have hnm : ∀ (i : Nat) (L : Blk), σ[i]? = some L → L.pur = true ∨ ∀ v, v ∈ L.cells → Zan (inE e) v = true := by
  intro i L hL
  have := hnames
  simp only [Zf7, List.all_eq_true, Bool.or_eq_true] at this
  exact this L (List.mem_of_getElem? hL)
 have hA := Zni hr.heap hE _ _ _ hargs hargsC
 have hem := hr.heap.embed hE hnm
 have hcall := hC (mE m e σ) w (first' ++ args.map a.eval ++ captured').toList hem hA
 rw [Array.toArray_toList] at hcall
 unfold Oper.wp
 rw [hex]
 show Calls P k (first' ++ args.map a.eval ++ captured') w _
 refine hcall.mono ?_
 rintro en w' ⟨u, v, rfl, hF⟩
 refine hK u v a w' (hr.ext (hF.ext ?_))
 intro b r hb
 obtain ⟨blk, g1, _, g3, _⟩ := hem.reg b r hb
 rw [g3]
 simp only [List.all_eq_true] at hro
 have := hro blk (List.mem_of_getElem? g1)
 simpa using this
theorem Zrt.sound {nt : Nat} {ops : Array Oper} {Q : Exit → Act → World → Prop} {E : Ent} {o : Oper} {post : List Oper} {s : St} (h : Zrt P G nt ops o s) (hQ : ∀ u v m a w, SRel G nt E m s a w → Q (Z4q u v) a w) {m : MapM} {a : Act} {w : World} (hr : SRel G nt E m s a w) : wpList P ops Q (o :: post) a w := by
 obtain ⟨h1, h2⟩ := h E m a w hr (wpList P ops Q post) Q (fun u v a' w' h => hQ u v m a' w' h)
 unfold wpList
 rw [if_pos h1]
 exact .inl h2
end
end Go.Flat
end
section
/- A function that defers one call which recovers. -/
namespace Go.Flat
section
variable {P : Program} {G : Glob}
def WpS (P : Program) (G : Glob) (nt n0 : Nat) (c : Code) (Φ : Ent → Exit → Act → World → Prop) (s : St) : Prop :=
  ∀ E m a w, E.defers = [] → (∀ b, n0 ≤ b → E.m b = none) → SRel G nt E m s a w → c.wp P (Φ E) a w
def Z7s (P : Program) (G : Glob) (fn : Func) (res : Value) (σ' : List Blk) (E : Ent) : Exit → Act → World → Prop :=
  bodyPostD P fn fun en w' => ∃ v' m', en = .returned v' ∧ HRel G m' σ' w' ∧ VR m' res v' ∧ Frame E m' w'
theorem Frame.join {E : Ent} {m1 m2 : MapM} {w w1 : World} {ds : List Deferred} (h : Frame E m1 w) (h' : Frame ⟨m1, w, ds⟩ m2 w1) (hk : ∀ b r, E.m b = some r → (r.wr = false ∨ r.mv = false) → m2 b = some r) : Frame E m2 w1 :=
 h.trans h' (fun _ _ h => h) (fun b r hb _ => .inr ⟨b, hb⟩) hk
theorem Frame.joinKeep {E : Ent} {m1 m2 : MapM} {w w1 : World} {ds : List Deferred} (h : Frame E m1 w) (h' : Frame ⟨m1, w, ds⟩ m2 w1) : Frame E m2 w1 :=
 h.join h' fun b r h1 h2 => h'.keep b r (h.keep b r h1 h2) h2
theorem Zgb.before {nt : Nat} {ops : Array Oper} {Q : Exit → Act → World → Prop} {E : Ent} {o : Oper} {R : St → Prop} (hQ : ∀ s m a w, R s → SRel G nt E m s a w → wpList P ops Q [o] a w) :
  ∀ (l : List Oper) (s : St), Zgb P G nt ops R l s → ∀ m a w, SRel G nt E m s a w → wpList P ops Q (l ++ [o]) a w
 | [], s, h, m, a, w, hr => hQ s m a w h hr
 | o' :: l, s, h, m, a, w, hr => by
  obtain ⟨s2, h1, h2⟩ := h
  have := h1 E m a w hr (wpList P ops Q (l ++ [o])) Q (fun m' a' w' hr' => Zgb.before hQ l s2 h2 m' a' w' hr')
  rw [List.cons_append]
  unfold wpList
  split
  ·rename_i hw; rw [if_pos hw] at this; exact .inl this
  ·rename_i hw; rw [if_neg hw] at this; exact this
def Z7t (P : Program) (G : Glob) (fn : Func) (σ : List Blk) (res : Value) (σ' : List Blk) (tE : TypeId) (b : Nat) (errv : Value) : Exit → St → Prop
  | .normal, s | .ret, s => ∃ v e, EndOK P G fn σ res σ' s v e
  | .panic ch, s => (∃ u pv, ch = [{ v := .iface u pv, recovered := false }]) ∧ ∃ v e blk', Zfn P tE s.heap (.pointer (some ⟨b, 0, none⟩)) errv = some (b, blk') ∧ EndOK P G fn σ res σ' ⟨s.tmps, s.heap.set b blk'⟩ v e
  | _, _ => False
def Z6a (P : Program) (kf : FuncId) (tE : TypeId) (errv : Value) : Prop :=
  (∀ (p : Addr) (u : TypeId) (pv : Value) (w w' : World), (Instr.storeAt tE (.pointer (some p)) errv).run P w = .ok () w' →
    CallsD P kf #[.pointer (some p)] (.panicking [{ v := .iface u pv, recovered := false }]) w fun e u' w'' => (∃ r, e = .returned r) ∧ u' = .panicking [{ v := .iface u pv, recovered := true }] ∧ w'' = w') ∧
  ∀ (p : Addr) (w : World), CallsD P kf #[.pointer (some p)] .returning w fun e u' w'' => (∃ r, e = .returned r) ∧ u' = .returning ∧ w'' = w
end
end Go.Flat
end
section
/- The rules of the walks, where something panics. -/
namespace Go.Flat
section
variable {P : Program} {G : Glob} {nt n0 : Nat} {Q : Exit → St → Prop} {s : St} {x y z : Code}
variable {T : Nat → Value} {H : List Blk}
theorem Zbg.mono {ops : Array Oper} {K K' : Trace → St → Prop} (hk : ∀ tr s, K tr s → K' tr s) : ∀ {l : List Oper} {tr : Trace} {s : St}, Zbg P G nt ops K l tr s → Zbg P G nt ops K' l tr s
 | [], _, _, h => hk _ _ h
 | _ :: _, _, _, ⟨δ, h1, h2⟩ => ⟨δ, h1, Zbg.mono hk h2⟩
variable {ops : List Oper} {d : Option Tmp} {ty : TypeId} {ps : String} {af : Array Edge} {g : Option (Nat × Bool)}
end
end Go.Flat
end
section
/- A region that draws its order, and in which an operation panics. -/
namespace Go.Flat
section
variable {P : Program} {G : Glob}
def Z6e (P : Program) (G : Glob) (nt : Nat) (ops : Array Oper) (o : Oper) (foot : List Nat) (s : St) : Prop := ∀ s', Agree ops o foot s s' → Zrt P G nt ops o s'
end
end Go.Flat
end
section
/- The rule for a region that draws its order and panics. -/
namespace Go.Flat
section
variable {P : Program} {G : Glob} {nt n0 : Nat} {Q : Exit → St → Prop} {T : Nat → Value} {H : List Blk}
def Zuw (tr : Trace) : Bool := tr.all fun p => p.2.sets.isEmpty && p.2.kill.isNone
def Zpz (tr : Trace) : List Nat := tr.filterMap fun p => p.1.dst
def deadT (l : List Nat) (T : Nat → Value) : Nat → Value := fun t => if l.contains t then dead else T t
theorem Zql {S : Nat → Bool} : ∀ (tr : Trace) (k : Nat) (s : St), Zuw tr = true → (stS s S tr k).heap = s.heap ∧ ∀ t, (Zpz tr).contains t = false → (stS s S tr k).tmps t = s.tmps t
  | [], k, s, _ => ⟨rfl, fun _ _ => rfl⟩
  | (o, δ) :: l, k, s, h => by
    simp only [Zuw, List.all_cons, Bool.and_eq_true] at h
    obtain ⟨⟨h1, h2⟩, h3⟩ := h
    have hs : δ.sets = [] := by simpa using h1
    have hk : δ.kill = none := by simpa using h2
    obtain ⟨g1, g2⟩ := Zql (S := S) l (k + 1) (if S k then δ.apply o.dst s else s) h3
    simp only [stS]
    have hh : (if S k then δ.apply o.dst s else s).heap = s.heap := by
      split
      · simp only [Delta.apply, hs, hk, Zd0]; cases o.dst <;> rfl
      · rfl
    refine ⟨g1.trans hh, fun t ht => ?_⟩
    have ht2 : (Zpz l).contains t = false ∧ o.dst ≠ some t := by
      unfold Zpz at ht ⊢
      cases ho : o.dst with
      | none => simp [ho] at ht ⊢; exact ht
      | some d => simp [ho] at ht ⊢; exact ⟨ht.2, fun e => ht.1 e.symm⟩
    rw [g2 t ht2.1]
    split
    · rw [Zbs]; unfold Zpn; rw [if_neg ht2.2, hk]
    · rfl
theorem SRel.deadT {E : Ent} {m : MapM} {s : St} {tr : Trace} {S : Nat → Bool} {a : Act} {w : World} (hq : Zuw tr = true) (h : SRel G nt E m (stS s S tr 0) a w) : SRel G nt E m ⟨Flat.deadT (Zpz tr) s.tmps, s.heap⟩ a w := by
 obtain ⟨g1, g2⟩ := Zql (S := S) tr 0 s hq
 refine ⟨h.size, fun t => ?_, h.defers, by rw [← g1]; exact h.heap, h.frame⟩
 show VR m (if (Zpz tr).contains t then dead else s.tmps t) _
 cases hc : (Zpz tr).contains t with
 | true => rw [if_pos rfl]; exact VR.dead
 | false =>
  rw [if_neg (by simp)]
  have := h.tmps t
  rw [g2 t hc] at this
  exact this
def Z6b (L : List Oper) (n : Nat) : Bool := (List.range L.length).all fun j => decide (j ≤ n) || ((clo L).getD j []).contains n
variable {ops : List Oper} {d : Option Tmp} {ty : TypeId} {ps : String} {af : Array Edge} {g : Option (Nat × Bool)}
end
end Go.Flat
end
section
/- The two rules, by the place of the operation that panics. -/
namespace Go.Flat
section
variable {P : Program} {G : Glob} {nt n0 : Nat} {Q : Exit → St → Prop} {T : Nat → Value} {H : List Blk}
theorem Z36 {α : Type} {L : List α} {n : Nat} {o : α} (ho : L[n]? = some o) : L = L.take n ++ o :: L.drop (n + 1) := by
 obtain ⟨h, he⟩ := List.getElem?_eq_some_iff.1 ho
 rw [← he, ← List.drop_eq_getElem_cons h, List.take_append_drop]
end
end Go.Flat
end
section
/- Boxes, rows by a code, the loads that sx prints. -/
namespace Go.Flat
def bxB (n : Nat) (l : List Value) : Blk := { cells := l, sz := n, wr := true, fix := true, mv := false, pur := true }
def rfB (v : Value) : Blk := { cells := [v], sz := 1, wr := true, fix := true, mv := false, pur := false }
structure Cod (α : Type) where
  enc : α → List Value
  n : Nat
  len : ∀ x, (enc x).length = n
  pos : 0 < n
def Cod.row {α : Type} (c : Cod α) (l : List α) : List Value := (l.map c.enc).flatten
def rwB {α : Type} (c : Cod α) (l : List α) : Blk := { cells := c.row l, sz := c.n, wr := true, fix := false, mv := true, pur := true }
def rwR {α : Type} (c : Cod α) (l : List α) : Blk := { cells := c.row l, sz := c.n, wr := false, fix := false, mv := true, pur := true }
theorem Z6.res {P : Program} {G : Glob} {f : FuncId} {a : List Value} {σ σ' : List Blk} {r r' : Value} (h : Z6 P G f a σ r σ') (e : r = r') : Z6 P G f a σ r' σ' := e ▸ h
section
variable {α : Type} (c : Cod α)
theorem Cod.row_len (l : List α) : (c.row l).length = l.length * c.n := by
 induction l with
 | nil => simp [Cod.row]
 | cons x l ih =>
  unfold Cod.row at ih ⊢
  rw [List.map_cons, List.flatten_cons, List.length_append, ih, c.len, List.length_cons, Nat.add_mul, Nat.one_mul, Nat.add_comm]
theorem Cod.row_app (l m : List α) : c.row (l ++ m) = c.row l ++ c.row m := by simp [Cod.row]
theorem Cod.row_drop (l : List α) : ∀ i, (c.row l).drop (i * c.n) = c.row (l.drop i) := by
 induction l with
 | nil => intro i; simp [Cod.row]
 | cons x l ih =>
  intro i
  cases i with
  | zero => simp
  | succ i =>
   rw [show c.row (x :: l) = c.enc x ++ c.row l from by simp [Cod.row], show (i + 1) * c.n = (c.enc x).length + i * c.n from by rw [c.len, Nat.add_mul, Nat.one_mul, Nat.add_comm], List.drop_length_add_append, ih]
   simp
theorem Cod.row_take (l : List α) : ∀ i, (c.row l).take (i * c.n) = c.row (l.take i) := by
 induction l with
 | nil => intro i; simp [Cod.row]
 | cons x l ih =>
  intro i
  cases i with
  | zero => simp [Cod.row]
  | succ i =>
   rw [show c.row (x :: l) = c.enc x ++ c.row l from by simp [Cod.row], show (i + 1) * c.n = (c.enc x).length + i * c.n from by rw [c.len, Nat.add_mul, Nat.one_mul, Nat.add_comm], List.take_length_add_append, ih]
   simp [Cod.row]
theorem Cod.at_ [Inhabited α] {l : List α} {i : Nat} (h : i < l.length) : ((c.row l).drop (i * c.n)).take c.n = c.enc (l.getD i default) := by
 rw [c.row_drop, List.drop_eq_getElem_cons h, show c.row (l[i] :: l.drop (i + 1)) = c.enc l[i] ++ c.row (l.drop (i + 1)) from by unfold Cod.row; rw [List.map_cons, List.flatten_cons]]
 rw [List.take_append_of_le_length (by rw [c.len]; exact Nat.le_refl _), List.take_of_length_le (by rw [c.len]; exact Nat.le_refl _), List.getD_eq_getElem?_getD, List.getElem?_eq_getElem h]; rfl
theorem Cod.cell [Inhabited α] {l : List α} {i k : Nat} (h : i < l.length) (hk : k < c.n) : (c.row l)[i * c.n + k]? = (c.enc (l.getD i default))[k]? := by
 rw [← c.at_ h, List.getElem?_take, if_pos hk, List.getElem?_drop]
variable {P : Program} {G : Glob} {t : TypeId} {H : List Blk} {b : Nat} {blk : Blk} {c}
theorem Zf6 [Inhabited α] (c : Cod α) {l : List α} {i o m n : Nat} (hm : m = c.n) (hk : Zdw P t = some (true, m)) (hb : H[b]? = some blk) (hc : blk.cells = c.row l) (hi : i < l.length) (ho : o = i * m) : Zde P G t H (.pointer (some ⟨b, o, none⟩)) = some (.agg (c.enc (l.getD i default)).toArray) := by
 subst hm; subst ho
 refine Zgv hk hb ?_ (by rw [hc]; exact c.at_ hi)
 rw [hc, c.row_len]
 have := Nat.mul_le_mul_right c.n (Nat.succ_le_of_lt hi)
 rw [Nat.succ_mul] at this
 exact this
theorem Zli [Inhabited α] (c : Cod α) {l : List α} {i o m : Nat} {v : Value} (h1 : c.n = 1) (hk : Zdw P t = some (false, m)) (hb : H[b]? = some blk) (hc : blk.cells = c.row l) (hi : i < l.length) (ho : o = i) (hv : c.enc (l.getD i default) = [v]) (h2 : Zhf v = true) : Zde P G t H (.pointer (some ⟨b, o, none⟩)) = some v := by
 subst ho
 refine Zlh hk hb ?_ h2
 have := c.cell (k := 0) hi (by rw [h1]; exact Nat.zero_lt_one)
 rw [h1, hv] at this
 rw [hc]; simpa using this
theorem Zml [Inhabited α] (c : Cod α) {l : List α} {i o k m n : Nat} {v : Value} (hm : m = c.n) (hk : Zdw P t = some (false, n)) (hb : H[b]? = some blk) (hc : blk.cells = c.row l) (hi : i < l.length) (ho : o = i * m + k) (hv : (c.enc (l.getD i default))[k]? = some v) (h2 : Zhf v = true) : Zde P G t H (.pointer (some ⟨b, o, none⟩)) = some v := by
 subst hm; subst ho
 refine Zlh hk hb ?_ h2
 have hkn : k < c.n := by
  have := (List.getElem?_eq_some_iff.1 hv).1
  rw [c.len] at this; exact this
 rw [hc, c.cell hi hkn, hv]
end
section
variable {P : Program} {t : TypeId} {x y : Operand}
end
end Go.Flat
end
namespace Go.Flat
open Go.Proofs
def dz : D := fun _ => 0
section
variable {P : Program} {G : Glob} {t : TypeId} {H : List Blk} {b : Nat} {blk : Blk}
theorem Z14 {e : Emb} {id : Nat} {ds : List D} (hB : H[id]? = some (dsB ds)) : Zd3 H e (some (id, 0)) (dsR ds) := Z39 hB
theorem Zb8 {α : Type} {c : Cod α} {e : Emb} {id : Nat} {l : List α} (hB : H[id]? = some (rwB c l)) : Zd3 H e (some (id, 0)) (rwR c l) :=
 Zco hB (by show (decide (0 < c.n) && decide (0 < c.n) && _ && (_ || c.n == c.n) && _ && _ && _) = true; simp [c.pos, rwR, rwB]) (by show 0 + (c.row _).length ≤ (c.row _).length; omega) (by show ((c.row l).drop 0).take (c.row l).length = c.row l; simp)
theorem Zbr {α : Type} {c : Cod α} {e : Emb} {id : Nat} {l : List α} (hB : H[id]? = some (rwR c l)) : Zd3 H e (some (id, 0)) (rwR c l) :=
 Zco hB (by show (decide (0 < c.n) && decide (0 < c.n) && _ && (_ || c.n == c.n) && _ && _ && _) = true; simp [c.pos, rwR]) (by show 0 + (c.row _).length ≤ (c.row _).length; omega) (by show ((c.row l).drop 0).take (c.row l).length = c.row l; simp)
end
def txB (ts : List ByteArray) : Blk := { cells := ts.map Value.string, sz := 1, wr := true, fix := false, mv := true, pur := true }
theorem Z4a {e : Emb} {id : Nat} {ts : List ByteArray} {H : List Blk} (hB : H[id]? = some (txB ts)) : Zd3 H e (some (id, 0)) (Zj7 ts) :=
 Zco hB rfl (by show 0 + (ts.map Value.string).length ≤ (ts.map Value.string).length; omega) (by show ((ts.map Value.string).drop 0).take (ts.map Value.string).length = ts.map Value.string; rw [List.drop_zero, List.take_length])
def Z7j (a b : ByteArray) : Bool := a.toList == b.toList
variable {G : Glob}
end Go.Flat
section
/- Opening arguments of any pure type; rows of such things. -/
namespace Go.Flat
open Go.ChangeShapes Go.WideShapes Go.RowKit
def Zam {α : Type} (P : Program) (t : TypeId) (enc : α → List Value) (ok : α → Prop) : Prop :=
  ∀ {H : Type} {encH : TypeId × Value → H} {W : World} {fuel : Nat} {cs : List Value} {x : DataW H × List MemPlace}, DataW.trod encH P W 0 (fun _ => true) true fuel t cs = some x → ∃ a, cs = enc a ∧ ok a
section
variable {P : Program} {t : TypeId}
theorem Zam.int (ht : P.underlying t = some (.int .i64)) : Zam P t (fun z : Int => [.int .i64 z]) (fun z => -9223372036854775808 ≤ z ∧ z ≤ 9223372036854775807) := by
 intro H encH W fuel cs x h
 obtain ⟨z, rfl, _, hw⟩ := DataW.trod_int ht h
 rw [Lit.wf, Bool.and_eq_true] at hw
 exact ⟨z, rfl, of_decide_eq_true hw.1, of_decide_eq_true hw.2⟩
theorem Zam.bool (ht : P.underlying t = some .bool) : Zam P t (fun b : Bool => [.bool b]) (fun _ => True) := by
 intro H encH W fuel cs x h
 obtain ⟨z, rfl, _⟩ := DataW.trod_bool ht h
 exact ⟨z, rfl, trivial⟩
theorem Zam.str (ht : P.underlying t = some .string) : Zam P t (fun s : ByteArray => [.string s]) (fun s => s.size ≤ maxLen) := by
 intro H encH W fuel cs x h
 obtain ⟨z, rfl, _, hw⟩ := DataW.trod_string ht h
 exact ⟨z, rfl, hw⟩
theorem Zam.u8 (ht : P.underlying t = some (.int .u8)) : Zam P t (fun b : BitVec 8 => [w8 b]) (fun _ => True) := by
 intro H encH W fuel cs x h
 obtain ⟨z, rfl, _, hw⟩ := DataW.trod_int ht h
 rw [Lit.wf, Bool.and_eq_true] at hw
 have h1 : (0 : Int) ≤ z := of_decide_eq_true hw.1
 have h2 : z ≤ 255 := of_decide_eq_true hw.2
 refine ⟨BitVec.ofInt 8 z, ?_, trivial⟩
 congr 2
 rw [BitVec.toNat_ofInt]; omega
theorem Zam.bytes {tb : TypeId} {n : Nat} (ht : P.underlying t = some (.array n tb)) (htb : P.underlying tb = some (.int .u8)) (hcb : P.cellsOf tb = 1) (hct : P.cellsOf t = n) : Zam P t (fun d : Nat → BitVec 8 => Zah w8 n d) (fun _ => True) := by
  intro H encH W fuel cs x h
  obtain ⟨xs, m, _, _, hl, hxl, hel⟩ := DataW.trod_array ht h
  rw [hct] at hl
  refine ⟨fun j => match cs[j]? with | some (.int _ z) => BitVec.ofInt 8 z | _ => 0, ?_, trivial⟩
  apply List.ext_getElem?
  intro j
  rcases Nat.lt_or_ge j n with hj | hj
  · have e := hel j hj
    rw [hcb, Nat.mul_one, List.getElem?_eq_getElem (by omega)] at e
    obtain ⟨b, e1, _⟩ := Zam.u8 htb e
    have hc : cs[j]? = some (w8 b) := by
      have : ((cs.drop j).take 1)[0]? = some (w8 b) := by rw [e1]; rfl
      simpa using this
    rw [Zc9 hj, hc]
    simp only []
    rw [ofI]
  · rw [List.getElem?_eq_none (by omega), List.getElem?_eq_none (by rw [Zcs]; omega)]
theorem Zam.at_ {α : Type} {enc : α → List Value} {ok : α → Prop} (ho : Zam P t enc ok) {H : Type} {encH : TypeId × Value → H} {W : World} {n off k : Nat} {cs : List Value} {xs : List (DataW H × List MemPlace)} {i : Nat} {f : Field} (hf : DataW.trod encH P W 0 (fun _ => true) true n f.type ((cs.drop f.offset).take (P.cellsOf f.type)) = xs[i]?) (hi : i < xs.length) (ht : f.type = t) (hc : P.cellsOf t = k) (hoff : f.offset = off) : ∃ a, (cs.drop off).take k = enc a ∧ ok a := by
 subst ht; subst hc; subst hoff
 rw [List.getElem?_eq_getElem hi] at hf
 exact ho hf
theorem Za3 {cs : List Value} (off k : Nat) : cs.drop off = (cs.drop off).take k ++ cs.drop (off + k) := by
 rw [← List.drop_drop]; exact (List.take_append_drop k _).symm
theorem Zam.val {α : Type} {enc : α → List Value} {ok : α → Prop} (ho : Zam P t enc ok) {H : Type} {encH : TypeId × Value → H} {W : World} {base : Nat} {v : Value} {d : DataW H} {p : List MemPlace} (hagg : (∃ fs, P.underlying t = some (.struct fs)) ∨ (∃ n e, P.underlying t = some (.array n e)))
  (hv : Value.okWide P W .any base t v) (h : DataW.Trod encH P W 0 (fun _ => true) true t v d p) : ∃ a, v = .agg (enc a).toArray ∧ ok a := by
 have hx : ∃ cs, v = .agg cs := by
  unfold Value.okWide at hv
  rcases hagg with ⟨fs, e⟩ | ⟨n, e', e⟩
  ·rw [e] at hv; obtain ⟨cs, h1, _⟩ := hv; exact ⟨cs, h1⟩
  ·rw [e] at hv; obtain ⟨cs, h1, _⟩ := hv; exact ⟨cs, h1⟩
 obtain ⟨cs, rfl⟩ := hx
 obtain ⟨fuel, hf⟩ := h
 obtain ⟨a, h1, h2⟩ := ho hf
 refine ⟨a, ?_, h2⟩
 have h1' : cs.toList = enc a := h1
 rw [← h1']
theorem Zam.one {α : Type} {enc : α → Value} {ok : α → Prop} (ho : Zam P t (fun a => [enc a]) ok) {H : Type} {encH : TypeId × Value → H} {W : World} {base : Nat} {v : Value} {d : DataW H} {p : List MemPlace} (hsc : P.underlying t = some .bool ∨ P.underlying t = some .string ∨ ∃ k, P.underlying t = some (.int k))
  (hv : Value.okWide P W .any base t v) (h : DataW.Trod encH P W 0 (fun _ => true) true t v d p) : ∃ a, v = enc a ∧ ok a := by
 obtain ⟨fuel, hf⟩ := h
 obtain ⟨a, h1, h2⟩ := ho hf
 refine ⟨a, ?_, h2⟩
 rcases hsc with e | e | ⟨k, e⟩
 ·obtain ⟨b, rfl⟩ := okWide_bool e hv
  have h1' : [Value.bool b] = [enc a] := h1
  injection h1'
 ·obtain ⟨b, rfl⟩ := okWide_string e hv
  have h1' : [Value.string b] = [enc a] := h1
  injection h1'
 ·obtain ⟨b, rfl⟩ := okWide_int e hv
  have h1' : [Value.int k b] = [enc a] := h1
  injection h1'
end
end Go.Flat
end
section
/- Opening a row of any pure things. -/
namespace Go.Flat
open Go.ChangeShapes Go.WideShapes Go.RowKit
theorem Zrb {α : Type} {Q : Nat → α → Prop} : ∀ (n : Nat), (∀ i, i < n → ∃ a, Q i a) → ∃ xs : List α, xs.length = n ∧ ∀ i x, xs[i]? = some x → Q i x
  | 0, _ => ⟨[], rfl, fun i x h => by simp at h⟩
  | n + 1, h => by
    obtain ⟨xs, hl, hx⟩ := Zrb n fun i hi => h i (by omega)
    obtain ⟨a, ha⟩ := h n (by omega)
    refine ⟨xs ++ [a], by simp [hl], fun i x hi => ?_⟩
    rcases Nat.lt_or_ge i n with hlt | hge
    · rw [List.getElem?_append_left (by omega)] at hi; exact hx i x hi
    · rw [List.getElem?_append_right (by omega)] at hi
      have h0 : i - xs.length = 0 := by
        rcases Nat.eq_zero_or_pos (i - xs.length) with e | e
        · exact e
        · rw [List.getElem?_eq_none (by simp; omega)] at hi; cases hi
      rw [h0] at hi
      have e : i = n := by omega
      subst e
      injection hi with hi; subst hi; exact ha
theorem Cod.row_get {α : Type} (c : Cod α) : ∀ (l : List α) (k : Nat) (v : Value), (c.row l)[k]? = some v → ∃ x, l[k / c.n]? = some x ∧ (c.enc x)[k % c.n]? = some v
 | [], k, v, h => by simp [Cod.row] at h
 | x :: l, k, v, h => by
  have hp := c.pos
  rw [show c.row (x :: l) = c.enc x ++ c.row l from by simp [Cod.row]] at h
  rcases Nat.lt_or_ge k c.n with hlt | hge
  ·rw [List.getElem?_append_left (by rw [c.len]; exact hlt)] at h
   exact ⟨x, by rw [Nat.div_eq_of_lt hlt]; rfl, by rw [Nat.mod_eq_of_lt hlt]; exact h⟩
  ·rw [List.getElem?_append_right (by rw [c.len]; exact hge), c.len] at h
   obtain ⟨y, h1, h2⟩ := c.row_get l _ _ h
   refine ⟨y, ?_, ?_⟩
   ·rw [show k / c.n = (k - c.n) / c.n + 1 from by rw [← Nat.add_div_right _ hp, Nat.sub_add_cancel hge]]; exact h1
   ·rw [Nat.mod_eq_sub_mod hge]; exact h2
section
variable {H : Type} {enc : TypeId × Value → H} {P : Program} {W : World} {α : Type} {c : Cod α} {ok : α → Prop}
theorem Zqe {te : TypeId} (ho : Zam P te c.enc ok) {fuel : Nat} {a : Addr} {x : DataW H × List MemPlace} (h : (W.cells? 0 a c.n).bind (DataW.trod enc P W 0 (fun _ => true) true fuel te) = some x) :
  ∃ y, (∀ j, j < c.n → W.cell? (a.add j) = (c.enc y)[j]?) ∧ ok y := by
 obtain ⟨cs, h1, h2⟩ := Option.bind_eq_some_iff.1 h
 obtain ⟨_, hl, hc⟩ := World.cells?_some h1
 obtain ⟨y, rfl, h3⟩ := ho h2
 exact ⟨y, hc, h3⟩
theorem Cod.row_pure (c : Cod α) (hp : ∀ x, (c.enc x).all Zba = true) (l : List α) : ∀ v, v ∈ c.row l → Zba v = true := by
 intro v hv
 unfold Cod.row at hv
 rw [List.mem_flatten] at hv
 obtain ⟨q, h1, h2⟩ := hv
 obtain ⟨x, _, rfl⟩ := List.mem_map.1 h1
 exact List.all_eq_true.1 (hp x) v h2
end
end Go.Flat
end
section
/- The first part of a row of things, lent. -/
namespace Go.Flat
end Go.Flat
end
