/- Walks. -/
import Derived.Test.YtlnggiomppkjmaaDoorFlatC
import Derived.Carry
import Derived.ReadAgain
import Derived.Test.YtlnggiomppkjmaaDoorSha
import Derived.Test.YtlnggiomppkjmaaDoorTie
import Derived.Test.YtlnggiomppkjmaaDoorCards
import Derived.ProofKit
import Derived.OpenShut
import Derived.LaidMore
import Derived.Lay
import Derived.SevenTiedAt
import Derived.Defers
import Derived.Recover
set_option linter.unusedVariables false
set_option linter.unusedSimpArgs false
set_option maxRecDepth 20000
section
/- A law's row, out of its contract: whatever the arguments, as long as what was there is not written. -/
namespace Go.Flat
open Go.ChangeShapes Go.WideShapes Go.RowKit
section
variable {H : Type} {enc : TypeId × Value → H} {P : Program} {m m' : MapM} {W W' : World}
theorem Zj7 (hl : laidOutB P = true) {sp : Nat → Bool} (hk : ∀ g, g < W.heap.size → W'.heap[g]? = W.heap[g]?) : ∀ {ts : List TypeId} {vs : List Value} {ds : List (DataW H)} {ps : List MemPlace}, (ts.all fun t => P.readableRec t && decide (t < P.types.size)) = true →
  DataW.TrodAll enc P W 0 (fun _ => true) true ts vs ds ps → (∀ p ∈ ps, p.block < W.heap.size) → (∀ p ∈ ps, sp p.block = true) → DataW.TrodAll enc P W' 0 sp true ts vs ds ps
 | [], [], [], _, _, h, _, _ => h
 | t :: ts, v :: vs, d :: ds, ps, ht, ⟨p, q, h1, h2, e⟩, hlt, hs => by
  rw [List.all_cons, Bool.and_eq_true, Bool.and_eq_true] at ht
  refine ⟨p, q, WideElems.Trod_stays hl ht.1.1 (of_decide_eq_true ht.1.2) h1 (fun x hx => ?_) (fun x hx => hs x (by rw [e]; exact List.mem_append_left _ hx)), Zj7 hl hk ht.2 h2 (fun x hx => hlt x (by rw [e]; exact List.mem_append_right _ hx)) (fun x hx => hs x (by rw [e]; exact List.mem_append_right _ hx)), e⟩
  have := hk x.block (hlt x (by rw [e]; exact List.mem_append_left _ hx))
  unfold World.sameAt
  cases x <;> simp_all [MemPlace.block, World.cell?]
 | [], _ :: _, _, _, _, h, _, _ => h.elim
 | [], [], _ :: _, _, _, h, _, _ => h.elim
 | _ :: _, [], _, _, _, h, _, _ => h.elim
 | _ :: _, _ :: _, [], _, _, h, _, _ => h.elim
theorem Zy9 {f : Func} {s : ChangeSpec} {apart fresh handsOn again : Bool} {args : Array Value} {ds gs : List (DataW H)} {before : List MemPlace} {tb : TypeId}
  (hW : DataW.Whole enc P f.params.toList s.vars apart W args.toList ds gs before) (hv : s.vars = []) (hs : s.fn H ds = { results := [.lit (.bool true)], args := ds })
  (hr : f.resultTypes = #[tb]) (hb : P.underlying tb = some .bool) (hl : laidOutB P = true) (ht : (f.params.toList.all fun t => P.readableRec t && decide (t < P.types.size)) = true)
  (hm : ∀ b r, m b = some r → r.wr = false) (hf : Frame ⟨m, W, []⟩ m' W') : s.post enc P f apart fresh handsOn again W args (.bool true) W' := by
 have hlt : ∀ p ∈ before, p.block < W.heap.size := fun p hp => hW.lt p hp
 have hW' := hW
 obtain ⟨p, q, hA, hV, he, _, _⟩ := hW'
 rw [hv] at hV
 obtain ⟨rfl, rfl⟩ := trodVars_none hV
 rw [List.append_nil] at he
 subst he
 have e1 := hs
 refine Zsu (pa := before) (pv := []) hW (fun _ _ _ => ?_) (fun sp hsp => ?_) (fun sp hsp => ?_) (by simp) (hf.kept hm _) (fun a ha => hf.frozen hm a ha) ?_
 ·rw [List.append_nil, e1, hr]
  exact trodAll_mk1 (shut_bool hb _)
 ·rw [List.append_nil, e1]
  exact Zj7 hl (fun g hg => hf.same hm hg) ht hA hlt hsp
 ·rw [List.append_nil, e1, hv]; rfl
 ·intro j t r h1 h2
  rw [hr] at h1 h2
  cases j with
  | zero =>
   simp [Value.resultList] at h1 h2
   subst h1; subst h2
   exact okWide_bool_mk hb _
  | succ j => simp at h1
theorem Zw1 {f : FuncId} {fn : Func} {G : Glob} {s : ChangeSpec} {apart fresh handsOn again : Bool} {args : Array Value} {ds gs : List (DataW H)} {before : List MemPlace} {tb : TypeId} {σ σ' : List Blk} {argsL : List Value}
  (hW : DataW.Whole enc P fn.params.toList s.vars apart W args.toList ds gs before) (hv : s.vars = []) (hs : s.fn H ds = { results := [.lit (.bool true)], args := ds })
  (hr : fn.resultTypes = #[tb]) (hb : P.underlying tb = some .bool) (hl : laidOutB P = true) (ht : (fn.params.toList.all fun t => P.readableRec t && decide (t < P.types.size)) = true)
  (hm : ∀ b r, m b = some r → r.wr = false) (hrel : HRel G m σ W) (ha : L2 (VR m) argsL args.toList) (hC : Z4 P G f argsL σ (.bool true) σ') :
  Calls P f args W fun e W' => ∃ v, e = .returned v ∧ s.post enc P fn apart fresh handsOn again W args v W' := by
 refine (hC m W args.toList hrel ha).mono ?_
 rintro e w' ⟨v', m', rfl, h1, h2, h3⟩
 have : v' = .bool true := h2
 subst this
 exact ⟨_, rfl, Zy9 hW hv hs hr hb hl ht hm h3⟩
theorem HRel.addRow {G : Glob} {σ : List Blk} (h : HRel G m σ W) (hm : ∀ b r, m b = some r → r.wr = false) {blk : Blk} {r : Reg} (hw : blk.wr = false) (hsz : 0 < blk.sz) (h1 : r.wr = false) (h2 : r.fix = blk.fix) (h3 : r.len = blk.cells.length) (h4 : r.sz = blk.sz) (h5 : r.mv = blk.mv)
    (hc : ∀ i v, blk.cells[i]? = some v → ∃ v', W.cell? ⟨r.g, r.lo + i, none⟩ = some v' ∧ CR (fun b => if b = σ.length then some r else m b) v v') (hp : blk.pur = true → ∀ v, v ∈ blk.cells → Za8 v = true) :
    HRel G (fun b => if b = σ.length then some r else m b) (σ ++ [blk]) W ∧ (∀ b r', (if b = σ.length then some r else m b) = some r' → r'.wr = false) ∧ ∀ b r', m b = some r' → (if b = σ.length then some r else m b) = some r' := by
  have hdom : m σ.length = none := h.dom (Nat.le_refl _)
  have hext : ∀ b r', m b = some r' → (if b = σ.length then some r else m b) = some r' := by
    intro b r' hb
    by_cases e : b = σ.length
    · subst e; rw [hdom] at hb; cases hb
    · rw [if_neg e]; exact hb
  have hro : ∀ b r', (if b = σ.length then some r else m b) = some r' → r'.wr = false := by
    intro b r' hb
    by_cases e : b = σ.length
    · rw [if_pos e] at hb; injection hb with hb; subst hb; exact h1
    · rw [if_neg e] at hb; exact hm b r' hb
  have hget : ∀ b x, (σ ++ [blk])[b]? = some x → (b < σ.length ∧ σ[b]? = some x) ∨ (b = σ.length ∧ x = blk) := by
    intro b x hx
    rcases Nat.lt_or_ge b σ.length with hlt | hge
    · rw [List.getElem?_append_left hlt] at hx; exact .inl ⟨hlt, hx⟩
    · rw [List.getElem?_append_right hge] at hx
      cases e : b - σ.length with
      | zero => rw [e] at hx; simp at hx; exact .inr ⟨by omega, hx.symm⟩
      | succ k => rw [e] at hx; simp at hx
  refine ⟨{ reg := ?_, live := ?_, cell := ?_, pur := ?_, own := ?_, dis := ?_, glob := h.glob, gwr := ?_, clean := fun b r' hb hw' => by rw [hro b r' hb] at hw'; cases hw' }, hro, hext⟩
  · intro b r' hb
    by_cases e : b = σ.length
    · subst e
      rw [if_pos rfl] at hb; injection hb with hb; subst hb
      exact ⟨blk, by simp, hsz, by rw [h1, hw], h2, h3, h4, h5⟩
    · rw [if_neg e] at hb
      obtain ⟨B, g1, g2⟩ := h.reg b r' hb
      exact ⟨B, by rw [List.getElem?_append_left (List.getElem?_eq_some_iff.1 g1).1]; exact g1, g2⟩
  · intro b x hx h0
    rcases hget b x hx with ⟨hlt, hx⟩ | ⟨rfl, rfl⟩
    · obtain ⟨r', hr'⟩ := h.live b x hx h0
      exact ⟨r', hext _ _ hr'⟩
    · exact ⟨r, if_pos rfl⟩
  · intro b x r' i v hx hb hv
    rcases hget b x hx with ⟨hlt, hx⟩ | ⟨rfl, rfl⟩
    · rw [if_neg (by omega)] at hb
      obtain ⟨v', g1, g2⟩ := h.cell b x r' i v hx hb hv
      exact ⟨v', g1, g2.mono hext⟩
    · rw [if_pos rfl] at hb; injection hb with hb; subst hb
      exact hc i v hv
  · intro b x hx
    rcases hget b x hx with ⟨hlt, hx⟩ | ⟨rfl, rfl⟩
    · exact h.pur b x hx
    · exact hp
  · intro b r' hb hw'
    rw [hro b r' hb] at hw'; cases hw'
  · intro b b' r1 r2 _ hb _ hw'
    rw [hro b r1 hb] at hw'; cases hw'
  · intro b r' j hb hw'
    rw [hro b r' hb] at hw'; cases hw'
end
end Go.Flat
end
section
/- Opening an argument: a slice of arrays of bytes. -/
namespace Go.Flat
open Go.ChangeShapes Go.WideShapes Go.RowKit
section
variable {H : Type} {enc : TypeId × Value → H} {P : Program} {W : World}
theorem Zvl {a : Addr} {x : Nat} {v : Value} (h : W.cell? (a.add x) = some v) : W.cell? ⟨a.block, a.off + x, none⟩ = some v ∧ a.spot = none ∨ (W.cell? ⟨a.block, a.off + x, none⟩ = some v ∧ 0 < x) := by
 obtain ⟨b, o, s⟩ := a
 unfold Addr.add at h
 split at h
 ·rename_i hx
  subst hx
  cases s with
  | none => exact .inl ⟨h, rfl⟩
  | some q => unfold World.cell? at h; split at h <;> simp at h
 ·exact .inr ⟨h, by omega⟩
theorem Zyf {a : Addr} {x : Nat} {v : Value} (h : W.cell? (a.add x) = some v) : W.cell? ⟨a.block, a.off + x, none⟩ = some v := by
 rcases Zvl h with h | h
 ·exact h.1
 ·exact h.1
theorem Zts {a : Addr} {v : Value} (h : W.cell? (a.add 0) = some v) : a.spot = none := by
 rcases Zvl h with h | h
 ·exact h.2
 ·omega
theorem Zu6 (a : Addr) (x y : Nat) : (a.add x).add y = a.add (x + y) := by
 obtain ⟨b, o, s⟩ := a
 unfold Addr.add
 by_cases hx : x = 0
 ·subst hx; by_cases hy : y = 0
  ·subst hy; simp
  ·simp [hy]
 ·by_cases hy : y = 0
  ·subst hy; simp [hx]
  ·simp [hx, hy]; omega
def Z5z (W : World) (g o : Nat) : BitVec 8 := match W.cell? ⟨g, o, none⟩ with | some (.int _ z) => BitVec.ofInt 8 z | _ => 0
end
end Go.Flat
end
section
namespace Go.Flat
open Go.Proofs
variable {G : Glob}

def Z4x (kk : Nat → BitVec 32) (l : List D) (i : Nat) : List D := (Zyx kk l.length l i []).reverse
def Zq6 (n : Nat) : Nat := (Zjh n).toNat

theorem Zx0 (kk : Nat → BitVec 32) (hG : G 0 = some (Zag w32 64 kk)) (hG1 : G 2 = some (Zag u8N 64 dbF)) (ds : List D) {c n : Nat} {x : D} (hl : ds.length = n) (hn : n ≤ 1000000) (hc : n ≤ c) (hx : Zfg kk ds = x) :
  Z4 Tryd.prog G 52 [slv 0 0 n c] [dsR ds] (dgV x) [dsR ds] := by
 subst hl; subst hx
 exact Z0t (G := G) kk hG hG1 ds c hn hc
end Go.Flat
end
section
namespace Go.Flat
open Go.Proofs
section
variable {H : Type} {enc : TypeId × Value → H} {P : Program} {W : World} {G : Glob} {m : MapM} {σ : List Blk}
def Z64 (n : Nat) (f : Nat → BitVec 8) : List D := (List.range n).map fun i j => f (i * 32 + j)
end
end Go.Flat
end
namespace Go.Proofs.YtlnggiomppkjmaaDoor
open Go.ChangeShapes Go.WideShapes Go.ChangeAt Go.RowKit
def ints (l : List (DataW Unit)) : List Int := l.map fun | .lit (.int _ z) => z | _ => 0
def parts : DataW Unit → List (DataW Unit) | .agg l => l | _ => []
noncomputable def kz : List Int := ints (parts Rows.laid_estreat_sha_table)
noncomputable def bz : List Int := ints (parts Rows.laid_math_bits_deBruijn64tab)
noncomputable def kk : Nat → BitVec 32 := Flat.Z6m 32 kz
noncomputable def G0 : Flat.Glob := fun g => if g = 0 then some (Flat.Zag Flat.w32 64 kk) else if g = 2 then some (Flat.Zag Flat.u8N 64 Flat.dbF) else none
theorem hG : G0 0 = some (Flat.Zag Flat.w32 64 kk) := rfl
theorem hG1 : G0 2 = some (Flat.Zag Flat.u8N 64 Flat.dbF) := rfl
theorem own : ownKnob Tryd.prog.godebug = none := by kernel_rfl
theorem hrel_of_laid {W : World} {l : List (String × DataW Unit)} (hp : (l.all fun x => x.2.handleName?.isNone) = true) (h : laidMetH Tryd.prog l W)
    (h0 : ("estreat/sha.table", Rows.laid_estreat_sha_table) ∈ l) (h1 : ("math/bits.deBruijn64tab", Rows.laid_math_bits_deBruijn64tab) ∈ l) : Flat.HRel G0 (fun _ => none) [] W := by
  refine Flat.HRel.plain fun g cs hg => ?_
  unfold G0 at hg
  split at hg
  · rename_i e
    subst e
    injection hg with hg
    subst hg
    have r := Flat.Zn7 h hp h0
    rw [show (Rows.laid_estreat_sha_table : DataW Unit) = Lib.tabData .u32 kz from by kernel_rfl] at r
    exact r.tab (g := 0) (t := 124) (e := 98) (c := 64) (by kernel_rfl) (by kernel_rfl) (by kernel_rfl) (by kernel_rfl) (by kernel_rfl) (by kernel_rfl) (by decide +kernel) (by kernel_rfl)
  split at hg
  · rename_i e
    subst e
    injection hg with hg
    subst hg
    have r := Flat.Zn7 h hp h1
    rw [show (Rows.laid_math_bits_deBruijn64tab : DataW Unit) = Lib.tabData .u8 bz from by kernel_rfl] at r
    exact r.tab (g := 2) (t := 131) (e := 5) (c := 64) (by kernel_rfl) (by kernel_rfl) (by kernel_rfl) (by kernel_rfl) (by kernel_rfl) (by kernel_rfl) (by decide +kernel) (by kernel_rfl)
  · cases hg
end Go.Proofs.YtlnggiomppkjmaaDoor
section
namespace Go.Flat

theorem Zop {n : Nat} (h : 2 ≤ n) : 1 ≤ Zq6 n ∧ Zq6 n < n := by
 obtain ⟨s1, s2, _⟩ := Zuy (n := n) h
 exact ⟨s1, s2⟩
def Zz5 (kk : Nat → BitVec 32) (ds : List D) : D :=
  if h : ds.length ≤ 1 then (if ds.length = 0 then Zck kk [] else ds.getD 0 d0)
  else Zn5 kk (Zz5 kk (ds.take (Zq6 ds.length))) (Zz5 kk (ds.drop (Zq6 ds.length)))
termination_by ds.length
decreasing_by
  · have := Zop (n := ds.length) (by omega)
    simp; omega
  · have := Zop (n := ds.length) (by omega)
    simp; omega
def pk (kk : Nat → BitVec 32) (ds : List D) : List D :=
  if h : ds.length = 0 then [] else Zz5 kk (ds.take (big ds.length)) :: pk kk (ds.drop (big ds.length))
termination_by ds.length
decreasing_by
  have := Zlx (n := ds.length) (by omega)
  simp; omega
end Go.Flat
end
section
namespace Go.Flat
open Go.Proofs
variable {G : Glob}

def Z4t (kk : Nat → BitVec 32) (l : List D) (m : Nat) : List D := (Zvm kk l.length l m true []).reverse
end Go.Flat
end
section
namespace Go.Flat
open Go.Proofs
variable {G : Glob}
end Go.Flat
end
section
namespace Go.Proofs.YtlnggiomppkjmaaDoor
open Go.ChangeShapes Go.WideShapes Go.ChangeAt Go.RowKit
end Go.Proofs.YtlnggiomppkjmaaDoor
end
section
namespace Go.Flat
open Go.Proofs
variable {G : Glob}
def Zji (x : BitVec 32) (n : Nat) : BitVec 32 := x >>> n ||| x <<< (32 - n)
def Z7a (w : Nat → BitVec 32) : Blk := { cells := Zag w32 64 w, sz := 64, wr := true, fix := true, mv := false, pur := true }
def inR (b : Nat → BitVec 8) : Nat → Nat → BitVec 32
  | 0 => fun _ => 0
  | k + 1 => Zg4 (inR b k) (k / 4) (inR b k (k / 4) * BitVec.ofInt 32 256 + (b k).setWidth 32)
def Z6f (w : Nat → BitVec 32) (t : Nat) : BitVec 32 := w (t - 16) + w (t - 7) + (Zji (w (t - 15)) 7 ^^^ Zji (w (t - 15)) 18 ^^^ w (t - 15) >>> 3) + (Zji (w (t - 2)) 17 ^^^ Zji (w (t - 2)) 19 ^^^ w (t - 2) >>> 10)
def Z2e (b : Nat → BitVec 8) : Nat → Nat → BitVec 32
  | 0 => inR b 64
  | k + 1 => Zg4 (Z2e b k) (16 + k) (Z6f (Z2e b k) (16 + k))
end Go.Flat
end
section
namespace Go.Flat
open Go.Proofs
variable {G : Glob}
def Z6c (k : BitVec 32) (v w : Nat → BitVec 32) (t : Nat) : BitVec 32 := v 7 + (Zji (v 4) 6 ^^^ Zji (v 4) 11 ^^^ Zji (v 4) 25) + ((v 4 &&& v 5) ^^^ (~~~(v 4) &&& v 6)) + k + w t
def Z6d (v : Nat → BitVec 32) : BitVec 32 := (Zji (v 0) 2 ^^^ Zji (v 0) 13 ^^^ Zji (v 0) 22) + ((v 0 &&& v 1) ^^^ (v 0 &&& v 2) ^^^ (v 1 &&& v 2))
def Z18 (kk : Nat → BitVec 32) (v w : Nat → BitVec 32) : Nat → Nat → BitVec 32
  | 0 => v
  | t + 1 => Z22 (Z6c (kk t) (Z18 kk v w t) w t) (Z6d (Z18 kk v w t)) (Z18 kk v w t)
def Z6b (kk : Nat → BitVec 32) (v : Nat → BitVec 32) (b : Nat → BitVec 8) : Nat → BitVec 32 := Zx2 v (Z18 kk v (Z2e b 48) 64) 8
attribute [local irreducible] Zji
end Go.Flat
end
section
namespace Go.Flat
open Go.Proofs
variable {G : Glob}
theorem Zrh {P : Program} {H : List Blk} {t : TypeId} {q : Value} {b c n k n' by_ : Nat} {zc : List Value} {ls : Bs} {ms : List Value} {ms' : Bs} (ht : Zc8 P t = some (1, zc, by_)) (hz : zc.length = 1) (hs : Zg1 H 1 q = some (k, ms)) (hms : ms = ms'.map w8) (hb : H[b]? = some (Zao ls)) (hn : ls.length = n) (hk : n + k = n') (hby : 0 < by_) (hm : n' * by_ ≤ 140737488355328) :
  Znc P H t (slv b 0 n c) q = some (slv b 0 n' n', b, Zao (ls ++ ms')) := by
 subst hms
 have hc : (Zao ls).cells.length = n := by show (ls.map w8).length = _; simp [hn]
 rw [Zfq (n' := n') (p := (k, ms'.map w8)) ht hs hb rfl rfl hz (Zw5 ms') (by rw [hc]; omega) hby hk hm]
 have : List.take (n * 1) (List.drop 0 (Zao ls).cells) ++ ms'.map w8 = (ls ++ ms').map w8 := by
  rw [List.drop_zero, List.take_of_length_le (by rw [hc]; omega), List.map_append]; rfl
 simp only [this]
 rfl
end Go.Flat
end
section
namespace Go.Flat
open Go.Proofs
variable {G : Glob}
def Z4n (kk v : Nat → BitVec 32) (l : Bs) : Nat → Nat → BitVec 32
  | 0 => v
  | j + 1 => Z6b kk (Z4n kk v l j) (Zhs l j)
def Z6e (kk : Nat → BitVec 32) (M : Bs) : Nat → BitVec 8 := Zs4 (Z4n kk Zxm (M ++ Ze5 M 8) ((M ++ Ze5 M 8).length / 64)) 32
end Go.Flat
end
section
namespace Go.Flat
open Go.Proofs
variable {G : Glob}
def Z6t (kk : Nat → BitVec 32) (a b : Nat → BitVec 8) : Nat → BitVec 8 := Z6e kk (Zdx [Z13, Zn (dgL a), Zn (dgL b)])
end Go.Flat
end
section
namespace Go.Flat

def wF (b : Nat → BitVec 8) (i : Nat) : BitVec 32 := Z2e b (i - 15) i
end Go.Flat
end
section
namespace Go.Flat
open Go.Proofs
variable {G : Glob}
end Go.Flat
end
section
namespace Go.Flat
open Go.Proofs
variable {G : Glob}
end Go.Flat
end
section
namespace Go.Flat
open Go.Proofs
variable {G : Glob}
def Z6p (kk : Nat → BitVec 32) (l : List D) (m : Nat) (kn : Bool) : List D := (Zvm kk l.length l m kn []).reverse
end Go.Flat
end
section
/- Panics: a function that ends in one; a call that does; the code around it. -/
namespace Go.Flat
section
variable {P : Program} {G : Glob}
abbrev Z34 (u : TypeId) (v : Value) : Exit := .panic [{ v := .iface u v, recovered := false }]
def Z3b (P : Program) (G : Glob) (f : FuncId) (args : List Value) (σ : List Blk) : Prop :=
  ∀ m w args', HRel G m σ w → L2 (VR m) args args' →
    Calls P f args'.toArray w fun e w' => ∃ u v, e = .panicked [{ v := .iface u v, recovered := false }] ∧ Frame ⟨m, w, []⟩ m w'
theorem Z3b.intro {f : FuncId} {fn : Func} {c : Code} {args : List Value} {σ : List Blk} (hf : P.funcs[f]? = some fn) (hb : fn.body = some c) (hn : args.length ≤ fn.ntmps)
  (h : WpL P G fn.ntmps σ.length c (fun e _ => ∃ u v, e = Z34 u v) ⟨Zh7 args, σ⟩) : Z3b P G f args σ := by
 intro m w args' hH hA
 refine calls_of_wp hf hb ?_
 have hl := hA.1
 have hdom : ∀ b, σ.length ≤ b → m b = none := fun b hb => hH.dom hb
 have h0 := h ⟨m, w, []⟩ m { tmps := args'.toArray ++ Array.replicate (fn.ntmps - args'.toArray.size) undef, defers := [] } w hdom
  ⟨by simp; omega, fun i => by
   rcases hA.at_ i with ⟨x, y, h1, h2, h3⟩ | ⟨h1, h2⟩
   ·have hi : i < args'.length := (List.getElem?_eq_some_iff.1 h2).1
    simp only [Zh7, h1, Option.getD_some]
    rw [Array.getD_eq_getD_getElem?, Array.getElem?_append_left (by simpa using hi)]
    simp only [List.getElem?_toArray, h2, Option.getD_some]
    exact h3
   ·simp only [Zh7, h1, Option.getD_none]
    have : args'.length ≤ i := by simpa using h2
    rw [Array.getD_eq_getD_getElem?, Array.getElem?_append_right (by simpa using this)]
    rw [Array.getElem?_replicate]
    split <;> exact VR.undef, rfl, hH, Frame.refl [] hH⟩
 refine wp_mono h0 ?_
 rintro e a w' ⟨s, m', ⟨u, v, rfl⟩, hr⟩
 exact ⟨hr.defers, u, v, rfl, hr.frame.os, hr.frame.tape, hr.frame.output, hr.frame.size, hr.frame.block, fun b r hb hw hlt => .inr fun j h1 h2 => ⟨b, r, hb, hw, rfl, h1, h2⟩, fun b r hb _ => hb⟩


structure Ext (w w' : World) : Prop where
  os : w'.os = w.os
  tape : w'.tape = w.tape
  output : w'.output = w.output
  size : w.heap.size ≤ w'.heap.size
  block : ∀ (g : Nat) (o : Obj), w.heap[g]? = some o → w'.heap[g]? = some o
theorem Frame.ext {m m' : MapM} {w w' : World} (hm : ∀ b r, m b = some r → r.wr = false) (h : Frame ⟨m, w, []⟩ m' w') : Ext w w' := by
 refine ⟨h.os, h.tape, h.output, h.size, fun g o ho => ?_⟩
 obtain ⟨o', h1, h2⟩ := h.block g o ho
 rw [h1, h2.same hm]
theorem Ext.cell {w w' : World} (h : Ext w w') {a : Addr} {v : Value} (hc : w.cell? a = some v) : w'.cell? a = some v := by
  unfold World.cell? at hc ⊢
  cases ho : w.heap[a.block]? with
  | none => rw [ho] at hc; cases hc
  | some o => rw [ho] at hc; rw [h.block _ _ ho]; exact hc
theorem Ext.frozen {w w' : World} (h : Ext w w') {a : Addr} {v : Value} (hc : w.cell? a = some v) : w'.frozen? a = w.frozen? a := by
  unfold World.cell? at hc
  cases ho : w.heap[a.block]? with
  | none => rw [ho] at hc; cases hc
  | some o => unfold World.frozen?; rw [ho, h.block _ _ ho]
theorem HRel.ext {m : MapM} {σ : List Blk} {w w' : World} (h : HRel G m σ w) (hx : Ext w w') : HRel G m σ w' where
 reg := h.reg
 live := h.live
 cell := fun b blk r i v h1 h2 h3 => let ⟨v', g1, g2⟩ := h.cell b blk r i v h1 h2 h3; ⟨v', hx.cell g1, g2⟩
 pur := h.pur
 own := fun b r h1 h2 => ⟨(h.own b r h1 h2).1, fun j h3 h4 => let ⟨v, g1, g2⟩ := (h.own b r h1 h2).2 j h3 h4; ⟨v, hx.cell g1, by rw [hx.frozen g1]; exact g2⟩⟩
 dis := h.dis
 glob := fun g cs hg => ⟨Nat.lt_of_lt_of_le (h.glob g cs hg).1 hx.size, fun i v hv => ⟨hx.cell ((h.glob g cs hg).2 i v hv).1, ((h.glob g cs hg).2 i v hv).2⟩⟩
 gwr := h.gwr
 clean := fun b r h1 h2 h3 h4 => let ⟨c, t, h5⟩ := h.clean b r h1 h2 h3 h4; ⟨c, t, hx.block _ _ h5⟩
theorem Frame.thenExt {E : Ent} {m : MapM} {w w' : World} (h : Frame E m w) (hx : Ext w w') : Frame E m w' :=
 ⟨hx.os.trans h.os, hx.tape.trans h.tape, hx.output.trans h.output, Nat.le_trans h.size hx.size, fun g o ho => let ⟨o', h1, h2⟩ := h.block g o ho; ⟨o', hx.block g o' h1, h2⟩, h.reg, h.keep⟩
theorem SRel.ext {nt : Nat} {E : Ent} {m : MapM} {s : St} {a : Act} {w w' : World} (h : SRel G nt E m s a w) (hx : Ext w w') : SRel G nt E m s a w' :=
 ⟨h.size, h.tmps, h.defers, h.heap.ext hx, h.frame.thenExt hx⟩


def Zrd (P : Program) (G : Glob) (nt : Nat) (ops : Array Oper) (o : Oper) (s : St) : Prop :=
  ∀ E m a w, SRel G nt E m s a w → ∀ (K : Act → World → Prop) (Q : Exit → Act → World → Prop), (∀ u v a' w', SRel G nt E m s a' w' → Q (Z34 u v) a' w') →
    Region.wanted o (yielded ops a.tmps) = true ∧ o.wp P a w K Q
theorem Zrd.call {nt : Nat} {ops : Array Oper} {o : Oper} {s : St} {f : Operand} {args : Array Operand} {ts : Array TypeId} {k : FuncId} {first captured : Array Value}
  (ho : o.op = .call { callee := .value f, args := args, argTypes := ts }) (hf : s.eval f = .func (.func k) first captured) (hcap : first.toList.all Zds = true ∧ captured.toList.all Zds = true) (hk : Zd2 P k = true) (hg : Zcy nt s (Zc3 ops o) = some true)
  {argsL : List Value} {σ : List Blk} (hC : Z3b P G k argsL σ) (e : Emb) (hro : (σ.all fun L => !L.wr) = true) (hargs : Ziq e argsL (first.toList ++ args.toList.map s.eval ++ captured.toList)) (hemb : Zhl s.heap e e σ) (hdist : Zib e σ = true) (hnames : Zfx e σ = true) :
  Zrd P G nt ops o s := by
 intro E m a w hr K Q hK
 refine ⟨Zgd hg hr, ?_⟩
 have hfv := hr.eval f
 rw [hf] at hfv
 obtain ⟨first', captured', hf', hL1, hL2⟩ := hfv
 have hex := Zpn (P := P) ho hf' hk w
 have hargsC : L2 (VR m) (first.toList ++ args.toList.map s.eval ++ captured.toList) (first' ++ args.map a.eval ++ captured').toList := by
  simp only [Array.toList_append, Array.toList_map]
  refine ((Zm3 hL1 hcap.1).append ?_).append (Zm3 hL2 hcap.2)
  refine ⟨by simp, fun i x y hx hy => ?_⟩
  simp only [List.getElem?_map, Option.map_eq_some_iff] at hx hy
  obtain ⟨p, hp1, rfl⟩ := hx
  obtain ⟨q, hq1, rfl⟩ := hy
  rw [hp1] at hq1; injection hq1 with hq1; subst hq1
  exact hr.eval p
 obtain ⟨hel, hone⟩ := Zeq hemb
 have hE : EmbOK s.heap e σ := ⟨hel, hone, Zm5 (H := s.heap) hdist⟩
 have hnm : ∀ (i : Nat) (L : Blk), σ[i]? = some L → L.pur = true ∨ ∀ v, v ∈ L.cells → Zal (inE e) v = true := by
  intro i L hL
  have := hnames
  simp only [Zfx, List.all_eq_true, Bool.or_eq_true] at this
  exact this L (List.mem_of_getElem? hL)
 have hA := Zm2 hr.heap hE _ _ _ hargs hargsC
 have hem := hr.heap.embed hE hnm
 have hcall := hC (mE m e σ) w (first' ++ args.map a.eval ++ captured').toList hem hA
 rw [Array.toArray_toList] at hcall
 unfold Oper.wp
 rw [hex]
 show Calls P k (first' ++ args.map a.eval ++ captured') w _
 refine hcall.mono ?_
 rintro en w' ⟨u, v, rfl, hF⟩
 refine hK u v a w' (hr.ext (hF.ext ?_))
 intro b r hb
 obtain ⟨blk, g1, _, g3, _⟩ := hem.reg b r hb
 rw [g3]
 simp only [List.all_eq_true] at hro
 have := hro blk (List.mem_of_getElem? g1)
 simpa using this
theorem Zrd.sound {nt : Nat} {ops : Array Oper} {Q : Exit → Act → World → Prop} {E : Ent} {o : Oper} {post : List Oper} {s : St} (h : Zrd P G nt ops o s) (hQ : ∀ u v m a w, SRel G nt E m s a w → Q (Z34 u v) a w) {m : MapM} {a : Act} {w : World} (hr : SRel G nt E m s a w) : wpList P ops Q (o :: post) a w := by
 obtain ⟨h1, h2⟩ := h E m a w hr (wpList P ops Q post) Q (fun u v a' w' h => hQ u v m a' w' h)
 unfold wpList
 rw [if_pos h1]
 exact .inl h2
end
end Go.Flat
end
section
/- A function that defers one call which recovers. -/
namespace Go.Flat
section
variable {P : Program} {G : Glob}
def WpS (P : Program) (G : Glob) (nt n0 : Nat) (c : Code) (Φ : Ent → Exit → Act → World → Prop) (s : St) : Prop :=
  ∀ E m a w, E.defers = [] → (∀ b, n0 ≤ b → E.m b = none) → SRel G nt E m s a w → c.wp P (Φ E) a w
def Z65 (P : Program) (G : Glob) (fn : Func) (res : Value) (σ' : List Blk) (E : Ent) : Exit → Act → World → Prop :=
  bodyPostD P fn fun en w' => ∃ v' m', en = .returned v' ∧ HRel G m' σ' w' ∧ VR m' res v' ∧ Frame E m' w'
theorem Frame.join {E : Ent} {m1 m2 : MapM} {w w1 : World} {ds : List Deferred} (h : Frame E m1 w) (h' : Frame ⟨m1, w, ds⟩ m2 w1) (hk : ∀ b r, E.m b = some r → (r.wr = false ∨ r.mv = false) → m2 b = some r) : Frame E m2 w1 :=
 h.trans h' (fun _ _ h => h) (fun b r hb _ => .inr ⟨b, hb⟩) hk
theorem Frame.joinKeep {E : Ent} {m1 m2 : MapM} {w w1 : World} {ds : List Deferred} (h : Frame E m1 w) (h' : Frame ⟨m1, w, ds⟩ m2 w1) : Frame E m2 w1 :=
 h.join h' fun b r h1 h2 => h'.keep b r (h.keep b r h1 h2) h2
theorem Zf2.before {nt : Nat} {ops : Array Oper} {Q : Exit → Act → World → Prop} {E : Ent} {o : Oper} {R : St → Prop} (hQ : ∀ s m a w, R s → SRel G nt E m s a w → wpList P ops Q [o] a w) :
  ∀ (l : List Oper) (s : St), Zf2 P G nt ops R l s → ∀ m a w, SRel G nt E m s a w → wpList P ops Q (l ++ [o]) a w
 | [], s, h, m, a, w, hr => hQ s m a w h hr
 | o' :: l, s, h, m, a, w, hr => by
  obtain ⟨s2, h1, h2⟩ := h
  have := h1 E m a w hr (wpList P ops Q (l ++ [o])) Q (fun m' a' w' hr' => Zf2.before hQ l s2 h2 m' a' w' hr')
  rw [List.cons_append]
  unfold wpList
  split
  ·rename_i hw; rw [if_pos hw] at this; exact .inl this
  ·rename_i hw; rw [if_neg hw] at this; exact this
def Z66 (P : Program) (G : Glob) (fn : Func) (σ : List Blk) (res : Value) (σ' : List Blk) (tE : TypeId) (b : Nat) (errv : Value) : Exit → St → Prop
  | .normal, s | .ret, s => ∃ v e, EndOK P G fn σ res σ' s v e
  | .panic ch, s => (∃ u pv, ch = [{ v := .iface u pv, recovered := false }]) ∧ ∃ v e blk', Zfi P tE s.heap (.pointer (some ⟨b, 0, none⟩)) errv = some (b, blk') ∧ EndOK P G fn σ res σ' ⟨s.tmps, s.heap.set b blk'⟩ v e
  | _, _ => False
def Z5o (P : Program) (kf : FuncId) (tE : TypeId) (errv : Value) : Prop :=
  (∀ (p : Addr) (u : TypeId) (pv : Value) (w w' : World), (Instr.storeAt tE (.pointer (some p)) errv).run P w = .ok () w' →
    CallsD P kf #[.pointer (some p)] (.panicking [{ v := .iface u pv, recovered := false }]) w fun e u' w'' => (∃ r, e = .returned r) ∧ u' = .panicking [{ v := .iface u pv, recovered := true }] ∧ w'' = w') ∧
  ∀ (p : Addr) (w : World), CallsD P kf #[.pointer (some p)] .returning w fun e u' w'' => (∃ r, e = .returned r) ∧ u' = .returning ∧ w'' = w
end
end Go.Flat
end
section
/- The rules of the walks, where something panics. -/
namespace Go.Flat
section
variable {P : Program} {G : Glob} {nt n0 : Nat} {Q : Exit → St → Prop} {s : St} {x y z : Code}
variable {T : Nat → Value} {H : List Blk}
theorem Zbf.mono {ops : Array Oper} {K K' : Trace → St → Prop} (hk : ∀ tr s, K tr s → K' tr s) : ∀ {l : List Oper} {tr : Trace} {s : St}, Zbf P G nt ops K l tr s → Zbf P G nt ops K' l tr s
 | [], _, _, h => hk _ _ h
 | _ :: _, _, _, ⟨δ, h1, h2⟩ => ⟨δ, h1, Zbf.mono hk h2⟩
variable {ops : List Oper} {d : Option Tmp} {ty : TypeId} {ps : String} {af : Array Edge} {g : Option (Nat × Bool)}
end
end Go.Flat
end
section
/- A region that draws its order, and in which an operation panics. -/
namespace Go.Flat
section
variable {P : Program} {G : Glob}
def Z5s (P : Program) (G : Glob) (nt : Nat) (ops : Array Oper) (o : Oper) (foot : List Nat) (s : St) : Prop := ∀ s', Agree ops o foot s s' → Zrd P G nt ops o s'
end
end Go.Flat
end
section
/- The rule for a region that draws its order and panics. -/
namespace Go.Flat
section
variable {P : Program} {G : Glob} {nt n0 : Nat} {Q : Exit → St → Prop} {T : Nat → Value} {H : List Blk}
def Zuh (tr : Trace) : Bool := tr.all fun p => p.2.sets.isEmpty && p.2.kill.isNone
def Zpl (tr : Trace) : List Nat := tr.filterMap fun p => p.1.dst
def deadT (l : List Nat) (T : Nat → Value) : Nat → Value := fun t => if l.contains t then dead else T t
theorem Zp6 {S : Nat → Bool} : ∀ (tr : Trace) (k : Nat) (s : St), Zuh tr = true → (stS s S tr k).heap = s.heap ∧ ∀ t, (Zpl tr).contains t = false → (stS s S tr k).tmps t = s.tmps t
  | [], k, s, _ => ⟨rfl, fun _ _ => rfl⟩
  | (o, δ) :: l, k, s, h => by
    simp only [Zuh, List.all_cons, Bool.and_eq_true] at h
    obtain ⟨⟨h1, h2⟩, h3⟩ := h
    have hs : δ.sets = [] := by simpa using h1
    have hk : δ.kill = none := by simpa using h2
    obtain ⟨g1, g2⟩ := Zp6 (S := S) l (k + 1) (if S k then δ.apply o.dst s else s) h3
    simp only [stS]
    have hh : (if S k then δ.apply o.dst s else s).heap = s.heap := by
      split
      · simp only [Delta.apply, hs, hk, Zdt]; cases o.dst <;> rfl
      · rfl
    refine ⟨g1.trans hh, fun t ht => ?_⟩
    have ht2 : (Zpl l).contains t = false ∧ o.dst ≠ some t := by
      unfold Zpl at ht ⊢
      cases ho : o.dst with
      | none => simp [ho] at ht ⊢; exact ht
      | some d => simp [ho] at ht ⊢; exact ⟨ht.2, fun e => ht.1 e.symm⟩
    rw [g2 t ht2.1]
    split
    · rw [Zbo]; unfold Zo8; rw [if_neg ht2.2, hk]
    · rfl
theorem SRel.deadT {E : Ent} {m : MapM} {s : St} {tr : Trace} {S : Nat → Bool} {a : Act} {w : World} (hq : Zuh tr = true) (h : SRel G nt E m (stS s S tr 0) a w) : SRel G nt E m ⟨Flat.deadT (Zpl tr) s.tmps, s.heap⟩ a w := by
 obtain ⟨g1, g2⟩ := Zp6 (S := S) tr 0 s hq
 refine ⟨h.size, fun t => ?_, h.defers, by rw [← g1]; exact h.heap, h.frame⟩
 show VR m (if (Zpl tr).contains t then dead else s.tmps t) _
 cases hc : (Zpl tr).contains t with
 | true => rw [if_pos rfl]; exact VR.dead
 | false =>
  rw [if_neg (by simp)]
  have := h.tmps t
  rw [g2 t hc] at this
  exact this
def Z5p (L : List Oper) (n : Nat) : Bool := (List.range L.length).all fun j => decide (j ≤ n) || ((clo L).getD j []).contains n
variable {ops : List Oper} {d : Option Tmp} {ty : TypeId} {ps : String} {af : Array Edge} {g : Option (Nat × Bool)}
end
end Go.Flat
end
section
/- The two rules, by the place of the operation that panics. -/
namespace Go.Flat
section
variable {P : Program} {G : Glob} {nt n0 : Nat} {Q : Exit → St → Prop} {T : Nat → Value} {H : List Blk}
theorem Z3k {α : Type} {L : List α} {n : Nat} {o : α} (ho : L[n]? = some o) : L = L.take n ++ o :: L.drop (n + 1) := by
 obtain ⟨h, he⟩ := List.getElem?_eq_some_iff.1 ho
 rw [← he, ← List.drop_eq_getElem_cons h, List.take_append_drop]
end
end Go.Flat
end
section
/- Boxes, rows by a code, the loads that sx prints. -/
namespace Go.Flat
def bxB (n : Nat) (l : List Value) : Blk := { cells := l, sz := n, wr := true, fix := true, mv := false, pur := true }
def rfB (v : Value) : Blk := { cells := [v], sz := 1, wr := true, fix := true, mv := false, pur := false }
structure Cod (α : Type) where
  enc : α → List Value
  n : Nat
  len : ∀ x, (enc x).length = n
  pos : 0 < n
def Cod.row {α : Type} (c : Cod α) (l : List α) : List Value := (l.map c.enc).flatten
def rwB {α : Type} (c : Cod α) (l : List α) : Blk := { cells := c.row l, sz := c.n, wr := true, fix := false, mv := true, pur := true }
def rwR {α : Type} (c : Cod α) (l : List α) : Blk := { cells := c.row l, sz := c.n, wr := false, fix := false, mv := true, pur := true }
theorem Z4.res {P : Program} {G : Glob} {f : FuncId} {a : List Value} {σ σ' : List Blk} {r r' : Value} (h : Z4 P G f a σ r σ') (e : r = r') : Z4 P G f a σ r' σ' := e ▸ h
section
variable {α : Type} (c : Cod α)
theorem Cod.row_len (l : List α) : (c.row l).length = l.length * c.n := by
 induction l with
 | nil => simp [Cod.row]
 | cons x l ih =>
  unfold Cod.row at ih ⊢
  rw [List.map_cons, List.flatten_cons, List.length_append, ih, c.len, List.length_cons, Nat.add_mul, Nat.one_mul, Nat.add_comm]
theorem Cod.row_app (l m : List α) : c.row (l ++ m) = c.row l ++ c.row m := by simp [Cod.row]
theorem Cod.row_drop (l : List α) : ∀ i, (c.row l).drop (i * c.n) = c.row (l.drop i) := by
 induction l with
 | nil => intro i; simp [Cod.row]
 | cons x l ih =>
  intro i
  cases i with
  | zero => simp
  | succ i =>
   rw [show c.row (x :: l) = c.enc x ++ c.row l from by simp [Cod.row], show (i + 1) * c.n = (c.enc x).length + i * c.n from by rw [c.len, Nat.add_mul, Nat.one_mul, Nat.add_comm], List.drop_length_add_append, ih]
   simp
theorem Cod.row_take (l : List α) : ∀ i, (c.row l).take (i * c.n) = c.row (l.take i) := by
 induction l with
 | nil => intro i; simp [Cod.row]
 | cons x l ih =>
  intro i
  cases i with
  | zero => simp [Cod.row]
  | succ i =>
   rw [show c.row (x :: l) = c.enc x ++ c.row l from by simp [Cod.row], show (i + 1) * c.n = (c.enc x).length + i * c.n from by rw [c.len, Nat.add_mul, Nat.one_mul, Nat.add_comm], List.take_length_add_append, ih]
   simp [Cod.row]
theorem Cod.at_ [Inhabited α] {l : List α} {i : Nat} (h : i < l.length) : ((c.row l).drop (i * c.n)).take c.n = c.enc (l.getD i default) := by
 rw [c.row_drop, List.drop_eq_getElem_cons h, show c.row (l[i] :: l.drop (i + 1)) = c.enc l[i] ++ c.row (l.drop (i + 1)) from by unfold Cod.row; rw [List.map_cons, List.flatten_cons]]
 rw [List.take_append_of_le_length (by rw [c.len]; exact Nat.le_refl _), List.take_of_length_le (by rw [c.len]; exact Nat.le_refl _), List.getD_eq_getElem?_getD, List.getElem?_eq_getElem h]; rfl
theorem Cod.cell [Inhabited α] {l : List α} {i k : Nat} (h : i < l.length) (hk : k < c.n) : (c.row l)[i * c.n + k]? = (c.enc (l.getD i default))[k]? := by
 rw [← c.at_ h, List.getElem?_take, if_pos hk, List.getElem?_drop]
variable {P : Program} {G : Glob} {t : TypeId} {H : List Blk} {b : Nat} {blk : Blk} {c}
theorem Zhf [Inhabited α] (c : Cod α) {l : List α} {i o m n : Nat} (hm : m = c.n) (hk : Zd4 P t = some (true, m)) (hb : H[b]? = some blk) (hc : blk.cells = c.row l) (hi : i < l.length) (ho : o = i * m) : Zdq P G t H (.pointer (some ⟨b, o, none⟩)) = some (.agg (c.enc (l.getD i default)).toArray) := by
 subst hm; subst ho
 refine Zgk hk hb ?_ (by rw [hc]; exact c.at_ hi)
 rw [hc, c.row_len]
 have := Nat.mul_le_mul_right c.n (Nat.succ_le_of_lt hi)
 rw [Nat.succ_mul] at this
 exact this
theorem Zk6 [Inhabited α] (c : Cod α) {l : List α} {i o m : Nat} {v : Value} (h1 : c.n = 1) (hk : Zd4 P t = some (false, m)) (hb : H[b]? = some blk) (hc : blk.cells = c.row l) (hi : i < l.length) (ho : o = i) (hv : c.enc (l.getD i default) = [v]) (h2 : Zh1 v = true) : Zdq P G t H (.pointer (some ⟨b, o, none⟩)) = some v := by
 subst ho
 refine Zk5 hk hb ?_ h2
 have := c.cell (k := 0) hi (by rw [h1]; exact Nat.zero_lt_one)
 rw [h1, hv] at this
 rw [hc]; simpa using this
theorem Zl9 [Inhabited α] (c : Cod α) {l : List α} {i o k m n : Nat} {v : Value} (hm : m = c.n) (hk : Zd4 P t = some (false, n)) (hb : H[b]? = some blk) (hc : blk.cells = c.row l) (hi : i < l.length) (ho : o = i * m + k) (hv : (c.enc (l.getD i default))[k]? = some v) (h2 : Zh1 v = true) : Zdq P G t H (.pointer (some ⟨b, o, none⟩)) = some v := by
 subst hm; subst ho
 refine Zk5 hk hb ?_ h2
 have hkn : k < c.n := by
  have := (List.getElem?_eq_some_iff.1 hv).1
  rw [c.len] at this; exact this
 rw [hc, c.cell hi hkn, hv]
end
section
variable {P : Program} {t : TypeId} {x y : Operand}
end
end Go.Flat
end
namespace Go.Flat
open Go.Proofs
def dz : D := fun _ => 0
section
variable {P : Program} {G : Glob} {t : TypeId} {H : List Blk} {b : Nat} {blk : Blk}
theorem Z1i {e : Emb} {id : Nat} {ds : List D} (hB : H[id]? = some (dsB ds)) : Zdz H e (some (id, 0)) (dsR ds) := Z3n hB
theorem Zbq {α : Type} {c : Cod α} {e : Emb} {id : Nat} {l : List α} (hB : H[id]? = some (rwB c l)) : Zdz H e (some (id, 0)) (rwR c l) :=
 Zcn hB (by show (decide (0 < c.n) && decide (0 < c.n) && _ && (_ || c.n == c.n) && _ && _ && _) = true; simp [c.pos, rwR, rwB]) (by show 0 + (c.row _).length ≤ (c.row _).length; omega) (by show ((c.row l).drop 0).take (c.row l).length = c.row l; simp)
theorem Zaz {α : Type} {c : Cod α} {e : Emb} {id : Nat} {l : List α} (hB : H[id]? = some (rwR c l)) : Zdz H e (some (id, 0)) (rwR c l) :=
 Zcn hB (by show (decide (0 < c.n) && decide (0 < c.n) && _ && (_ || c.n == c.n) && _ && _ && _) = true; simp [c.pos, rwR]) (by show 0 + (c.row _).length ≤ (c.row _).length; omega) (by show ((c.row l).drop 0).take (c.row l).length = c.row l; simp)
end
def txB (ts : List ByteArray) : Blk := { cells := ts.map Value.string, sz := 1, wr := true, fix := false, mv := true, pur := true }
theorem Z3o {e : Emb} {id : Nat} {ts : List ByteArray} {H : List Blk} (hB : H[id]? = some (txB ts)) : Zdz H e (some (id, 0)) (Zj0 ts) :=
 Zcn hB rfl (by show 0 + (ts.map Value.string).length ≤ (ts.map Value.string).length; omega) (by show ((ts.map Value.string).drop 0).take (ts.map Value.string).length = ts.map Value.string; rw [List.drop_zero, List.take_length])
def Z6w (a b : ByteArray) : Bool := a.toList == b.toList
variable {G : Glob}
end Go.Flat
