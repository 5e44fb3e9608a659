/- Walks. -/
import Derived.Test.YtfjkagjbanhdlaaDoorFlatC
import Derived.Carry
import Derived.ReadAgain
import Derived.Test.YtfjkagjbanhdlaaDoorSha
import Derived.Test.YtfjkagjbanhdlaaDoorTie
import Derived.Test.YtfjkagjbanhdlaaDoorCards
import Derived.ProofKit
import Derived.OpenShut
import Derived.LaidMore
import Derived.Lay
import Derived.SevenTiedAt
set_option linter.unusedVariables false
set_option linter.unusedSimpArgs false
set_option maxRecDepth 20000
section
/- A law's row, out of its contract: whatever the arguments, as long as what was there is not written. -/
namespace Go.Flat
open Go.ChangeShapes Go.WideShapes Go.RowKit
section
variable {H : Type} {enc : TypeId × Value → H} {P : Program} {m m' : MapM} {W W' : World}
theorem Zk6 (hl : laidOutB P = true) {sp : Nat → Bool} (hk : ∀ g, g < W.heap.size → W'.heap[g]? = W.heap[g]?) : ∀ {ts : List TypeId} {vs : List Value} {ds : List (DataW H)} {ps : List MemPlace}, (ts.all fun t => P.readableRec t && decide (t < P.types.size)) = true →
  DataW.TrodAll enc P W 0 (fun _ => true) true ts vs ds ps → (∀ p ∈ ps, p.block < W.heap.size) → (∀ p ∈ ps, sp p.block = true) → DataW.TrodAll enc P W' 0 sp true ts vs ds ps
 | [], [], [], _, _, h, _, _ => h
 | t :: ts, v :: vs, d :: ds, ps, ht, ⟨p, q, h1, h2, e⟩, hlt, hs => by
  rw [List.all_cons, Bool.and_eq_true, Bool.and_eq_true] at ht
  refine ⟨p, q, WideElems.Trod_stays hl ht.1.1 (of_decide_eq_true ht.1.2) h1 (fun x hx => ?_) (fun x hx => hs x (by rw [e]; exact List.mem_append_left _ hx)), Zk6 hl hk ht.2 h2 (fun x hx => hlt x (by rw [e]; exact List.mem_append_right _ hx)) (fun x hx => hs x (by rw [e]; exact List.mem_append_right _ hx)), e⟩
  have := hk x.block (hlt x (by rw [e]; exact List.mem_append_left _ hx))
  unfold World.sameAt
  cases x <;> simp_all [MemPlace.block, World.cell?]
 | [], _ :: _, _, _, _, h, _, _ => h.elim
 | [], [], _ :: _, _, _, h, _, _ => h.elim
 | _ :: _, [], _, _, _, h, _, _ => h.elim
 | _ :: _, _ :: _, [], _, _, h, _, _ => h.elim
theorem Z1w {f : Func} {s : ChangeSpec} {apart fresh handsOn again : Bool} {args : Array Value} {ds gs : List (DataW H)} {before : List MemPlace} {tb : TypeId}
  (hW : DataW.Whole enc P f.params.toList s.vars apart W args.toList ds gs before) (hv : s.vars = []) (hs : s.fn H ds = { results := [.lit (.bool true)], args := ds })
  (hr : f.resultTypes = #[tb]) (hb : P.underlying tb = some .bool) (hl : laidOutB P = true) (ht : (f.params.toList.all fun t => P.readableRec t && decide (t < P.types.size)) = true)
  (hm : ∀ b r, m b = some r → r.wr = false) (hf : Frame ⟨m, W, []⟩ m' W') : s.post enc P f apart fresh handsOn again W args (.bool true) W' := by
 have hlt : ∀ p ∈ before, p.block < W.heap.size := fun p hp => hW.lt p hp
 have hW' := hW
 obtain ⟨p, q, hA, hV, he, _, _⟩ := hW'
 rw [hv] at hV
 obtain ⟨rfl, rfl⟩ := trodVars_none hV
 rw [List.append_nil] at he
 subst he
 have e1 := hs
 refine Zs8 (pa := before) (pv := []) hW (fun _ _ _ => ?_) (fun sp hsp => ?_) (fun sp hsp => ?_) (by simp) (hf.kept hm _) (fun a ha => hf.frozen hm a ha) ?_
 ·rw [List.append_nil, e1, hr]
  exact trodAll_mk1 (shut_bool hb _)
 ·rw [List.append_nil, e1]
  exact Zk6 hl (fun g hg => hf.same hm hg) ht hA hlt hsp
 ·rw [List.append_nil, e1, hv]; rfl
 ·intro j t r h1 h2
  rw [hr] at h1 h2
  cases j with
  | zero =>
   simp [Value.resultList] at h1 h2
   subst h1; subst h2
   exact okWide_bool_mk hb _
  | succ j => simp at h1
theorem Zx5 {f : FuncId} {fn : Func} {G : Glob} {s : ChangeSpec} {apart fresh handsOn again : Bool} {args : Array Value} {ds gs : List (DataW H)} {before : List MemPlace} {tb : TypeId} {σ σ' : List Blk} {argsL : List Value}
  (hW : DataW.Whole enc P fn.params.toList s.vars apart W args.toList ds gs before) (hv : s.vars = []) (hs : s.fn H ds = { results := [.lit (.bool true)], args := ds })
  (hr : fn.resultTypes = #[tb]) (hb : P.underlying tb = some .bool) (hl : laidOutB P = true) (ht : (fn.params.toList.all fun t => P.readableRec t && decide (t < P.types.size)) = true)
  (hm : ∀ b r, m b = some r → r.wr = false) (hrel : HRel G m σ W) (ha : L2 (VR m) argsL args.toList) (hC : Zaf P G f argsL σ (.bool true) σ') :
  Calls P f args W fun e W' => ∃ v, e = .returned v ∧ s.post enc P fn apart fresh handsOn again W args v W' := by
 refine (hC m W args.toList hrel ha).mono ?_
 rintro e w' ⟨v', m', rfl, h1, h2, h3⟩
 have : v' = .bool true := h2
 subst this
 exact ⟨_, rfl, Z1w hW hv hs hr hb hl ht hm h3⟩
theorem HRel.addRow {G : Glob} {σ : List Blk} (h : HRel G m σ W) (hm : ∀ b r, m b = some r → r.wr = false) {blk : Blk} {r : Reg} (hw : blk.wr = false) (hsz : 0 < blk.sz) (h1 : r.wr = false) (h2 : r.fix = blk.fix) (h3 : r.len = blk.cells.length) (h4 : r.sz = blk.sz) (h5 : r.mv = blk.mv)
    (hc : ∀ i v, blk.cells[i]? = some v → ∃ v', W.cell? ⟨r.g, r.lo + i, none⟩ = some v' ∧ CR (fun b => if b = σ.length then some r else m b) v v') (hp : blk.pur = true → ∀ v, v ∈ blk.cells → Zbk v = true) :
    HRel G (fun b => if b = σ.length then some r else m b) (σ ++ [blk]) W ∧ (∀ b r', (if b = σ.length then some r else m b) = some r' → r'.wr = false) ∧ ∀ b r', m b = some r' → (if b = σ.length then some r else m b) = some r' := by
  have hdom : m σ.length = none := h.dom (Nat.le_refl _)
  have hext : ∀ b r', m b = some r' → (if b = σ.length then some r else m b) = some r' := by
    intro b r' hb
    by_cases e : b = σ.length
    · subst e; rw [hdom] at hb; cases hb
    · rw [if_neg e]; exact hb
  have hro : ∀ b r', (if b = σ.length then some r else m b) = some r' → r'.wr = false := by
    intro b r' hb
    by_cases e : b = σ.length
    · rw [if_pos e] at hb; injection hb with hb; subst hb; exact h1
    · rw [if_neg e] at hb; exact hm b r' hb
  have hget : ∀ b x, (σ ++ [blk])[b]? = some x → (b < σ.length ∧ σ[b]? = some x) ∨ (b = σ.length ∧ x = blk) := by
    intro b x hx
    rcases Nat.lt_or_ge b σ.length with hlt | hge
    · rw [List.getElem?_append_left hlt] at hx; exact .inl ⟨hlt, hx⟩
    · rw [List.getElem?_append_right hge] at hx
      cases e : b - σ.length with
      | zero => rw [e] at hx; simp at hx; exact .inr ⟨by omega, hx.symm⟩
      | succ k => rw [e] at hx; simp at hx
  refine ⟨{ reg := ?_, live := ?_, cell := ?_, pur := ?_, own := ?_, dis := ?_, glob := h.glob, gwr := ?_ }, hro, hext⟩
  · intro b r' hb
    by_cases e : b = σ.length
    · subst e
      rw [if_pos rfl] at hb; injection hb with hb; subst hb
      exact ⟨blk, by simp, hsz, by rw [h1, hw], h2, h3, h4, h5⟩
    · rw [if_neg e] at hb
      obtain ⟨B, g1, g2⟩ := h.reg b r' hb
      exact ⟨B, by rw [List.getElem?_append_left (List.getElem?_eq_some_iff.1 g1).1]; exact g1, g2⟩
  · intro b x hx h0
    rcases hget b x hx with ⟨hlt, hx⟩ | ⟨rfl, rfl⟩
    · obtain ⟨r', hr'⟩ := h.live b x hx h0
      exact ⟨r', hext _ _ hr'⟩
    · exact ⟨r, if_pos rfl⟩
  · intro b x r' i v hx hb hv
    rcases hget b x hx with ⟨hlt, hx⟩ | ⟨rfl, rfl⟩
    · rw [if_neg (by omega)] at hb
      obtain ⟨v', g1, g2⟩ := h.cell b x r' i v hx hb hv
      exact ⟨v', g1, g2.mono hext⟩
    · rw [if_pos rfl] at hb; injection hb with hb; subst hb
      exact hc i v hv
  · intro b x hx
    rcases hget b x hx with ⟨hlt, hx⟩ | ⟨rfl, rfl⟩
    · exact h.pur b x hx
    · exact hp
  · intro b r' hb hw'
    rw [hro b r' hb] at hw'; cases hw'
  · intro b b' r1 r2 _ hb _ hw'
    rw [hro b r1 hb] at hw'; cases hw'
  · intro b r' j hb hw'
    rw [hro b r' hb] at hw'; cases hw'
end
end Go.Flat
end
section
/- Opening an argument: a slice of arrays of bytes. -/
namespace Go.Flat
open Go.ChangeShapes Go.WideShapes Go.RowKit
section
variable {H : Type} {enc : TypeId × Value → H} {P : Program} {W : World}
theorem Zx2 {a : Addr} {x : Nat} {v : Value} (h : W.cell? (a.add x) = some v) : W.cell? ⟨a.block, a.off + x, none⟩ = some v ∧ a.spot = none ∨ (W.cell? ⟨a.block, a.off + x, none⟩ = some v ∧ 0 < x) := by
 obtain ⟨b, o, s⟩ := a
 unfold Addr.add at h
 split at h
 ·rename_i hx
  subst hx
  cases s with
  | none => exact .inl ⟨h, rfl⟩
  | some q => unfold World.cell? at h; split at h <;> simp at h
 ·exact .inr ⟨h, by omega⟩
theorem Z0w {a : Addr} {x : Nat} {v : Value} (h : W.cell? (a.add x) = some v) : W.cell? ⟨a.block, a.off + x, none⟩ = some v := by
 rcases Zx2 h with h | h
 ·exact h.1
 ·exact h.1
theorem Zvq {a : Addr} {v : Value} (h : W.cell? (a.add 0) = some v) : a.spot = none := by
 rcases Zx2 h with h | h
 ·exact h.2
 ·omega
theorem Zxu (a : Addr) (x y : Nat) : (a.add x).add y = a.add (x + y) := by
 obtain ⟨b, o, s⟩ := a
 unfold Addr.add
 by_cases hx : x = 0
 ·subst hx; by_cases hy : y = 0
  ·subst hy; simp
  ·simp [hy]
 ·by_cases hy : y = 0
  ·subst hy; simp [hx]
  ·simp [hx, hy]; omega
def Z6j (W : World) (g o : Nat) : BitVec 8 := match W.cell? ⟨g, o, none⟩ with | some (.int _ z) => BitVec.ofInt 8 z | _ => 0
end
end Go.Flat
end
section
namespace Go.Flat
open Go.Proofs
variable {G : Glob}

theorem Zum (P : List D) : ∀ (i : Nat), 2 * i ≤ P.length → ∀ j, j < P.length → (Zjz P i)[j]? = if j < i ∨ P.length - i ≤ j then P[P.length - 1 - j]? else P[j]?
 | 0, _, j, hj => by simp [Zjz]; omega
 | i + 1, h, j, hj => by
  have ih := Zum P i (by omega)
  have hl := Zl9 P i
  have gd : ∀ k, k < P.length → (Zjz P i)[k]? = some ((Zjz P i).getD k d0) := fun k hk => by
   rw [List.getD_eq_getElem?_getD, List.getElem?_eq_getElem (by omega)]; rfl
  simp only [Zjz]
  rcases Nat.lt_trichotomy j (P.length - 1 - i) with h1 | h1 | h1
  ·rw [List.getElem?_set_ne (by omega)]
   rcases Nat.lt_trichotomy j i with h2 | h2 | h2
   ·rw [List.getElem?_set_ne (by omega), ih j hj, if_pos (.inl h2), if_pos (.inl (by omega))]
   ·subst h2
    rw [List.getElem?_set_self (by omega), ← gd _ (by omega), ih _ (by omega), if_neg (by omega), if_pos (.inl (by omega))]
   ·rw [List.getElem?_set_ne (by omega), ih j hj, if_neg (by omega), if_neg (by omega)]
  ·subst h1
   rw [List.getElem?_set_self (by rw [List.length_set]; omega), ← gd _ (by omega), ih i (by omega), if_neg (by omega), if_pos (.inr (by omega))]
   congr 1; omega
  ·rw [List.getElem?_set_ne (by omega), List.getElem?_set_ne (by omega), ih j hj, if_pos (.inr (by omega)), if_pos (.inr (by omega))]
theorem Z0n (P : List D) : Zjz P (P.length / 2) = P.reverse := by
 apply List.ext_getElem?
 intro j
 rcases Nat.lt_or_ge j P.length with h | h
 ·rw [Zum P _ (by omega) j h, List.getElem?_reverse h]
  split
  ·rfl
  ·congr 1; omega
 ·rw [List.getElem?_eq_none (by rw [Zl9]; exact h), List.getElem?_eq_none (by simpa using h)]
theorem Zhi (kk : Nat → BitVec 32) : ∀ (f : Nat) (l : List D) (i : Nat) (dn : List D), Zfs kk f l i dn = dn ++ Zfs kk f l i []
 | 0, l, i, dn => by simp [Zfs]
 | f + 1, l, i, dn => by
  unfold Zfs
  split
  ·simp
  ·dsimp only
   split
   ·rw [Zhi kk f _ _ (dn ++ _), Zhi kk f _ _ ([] ++ _)]; simp
   ·rw [Zhi kk f _ _ (dn ++ _), Zhi kk f _ _ ([] ++ _)]; simp
theorem Zjb (kk : Nat → BitVec 32) : ∀ (f g : Nat) (l : List D) (i : Nat) (dn : List D), l.length ≤ f + 1 → l.length ≤ g + 1 → Zfs kk f l i dn = Zfs kk g l i dn
  | 0, 0, _, _, _, _, _ => rfl
  | 0, g + 1, l, i, dn, h, _ => by conv => rhs; unfold Zfs
                                   rw [if_pos (by omega)]; rfl
  | f + 1, 0, l, i, dn, _, h => by conv => lhs; unfold Zfs
                                   rw [if_pos (by omega)]; rfl
  | f + 1, g + 1, l, i, dn, h1, h2 => by
    unfold Zfs
    split
    · rfl
    · rename_i hl
      obtain ⟨s1, s2, _⟩ := Zfm (n := l.length) (by omega)
      dsimp only
      split
      · exact Zjb kk f g _ _ _ (by simp; omega) (by simp; omega)
      · exact Zjb kk f g _ _ _ (by simp; omega) (by simp; omega)
def Zc8 (kk : Nat → BitVec 32) (l : List D) (i : Nat) : List D := (Zfs kk l.length l i []).reverse
def Zap (n : Nat) : Nat := (Zdx n).toNat
theorem Zmu (kk : Nat → BitVec 32) {l : List D} (i : Nat) (h : l.length ≤ 1) : Zc8 kk l i = [] := by
 unfold Zc8
 cases e : l.length with
 | zero => rfl
 | succ n => unfold Zfs; rw [if_pos h]; rfl
theorem Zuq (kk : Nat → BitVec 32) {l : List D} {i : Nat} (h : 2 ≤ l.length) (hi : i < Zap l.length) : Zc8 kk l i = Zc8 kk (l.take (Zap l.length)) i ++ [Zb8 kk (l.drop (Zap l.length))] := by
 obtain ⟨s1, s2, _⟩ := Zfm (n := l.length) h
 change 1 ≤ Zap l.length at s1
 change Zap l.length < l.length at s2
 unfold Zc8
 obtain ⟨f, hf⟩ : ∃ f, l.length = f + 1 := ⟨l.length - 1, by omega⟩
 conv => lhs; rw [hf]; unfold Zfs
 rw [if_neg (by omega)]
 dsimp only
 rw [show (Zdx (l.length : Int)).toNat = Zap l.length from rfl, if_pos hi, Zhi, Zjb kk f (l.take (Zap l.length)).length _ _ _ (by simp; omega) (by omega)]
 simp
theorem Zux (kk : Nat → BitVec 32) {l : List D} {i : Nat} (h : 2 ≤ l.length) (hi : Zap l.length ≤ i) : Zc8 kk l i = Zc8 kk (l.drop (Zap l.length)) (i - Zap l.length) ++ [Zb8 kk (l.take (Zap l.length))] := by
 obtain ⟨s1, s2, _⟩ := Zfm (n := l.length) h
 change 1 ≤ Zap l.length at s1
 change Zap l.length < l.length at s2
 unfold Zc8
 obtain ⟨f, hf⟩ : ∃ f, l.length = f + 1 := ⟨l.length - 1, by omega⟩
 conv => lhs; rw [hf]; unfold Zfs
 rw [if_neg (by omega)]
 dsimp only
 rw [show (Zdx (l.length : Int)).toNat = Zap l.length from rfl, if_neg (by omega), Zhi, Zjb kk f (l.drop (Zap l.length)).length _ _ _ (by simp; omega) (by omega)]
 simp

theorem Z18 (kk : Nat → BitVec 32) (hG : G 0 = some (Zad w32 64 kk)) (hG1 : G 2 = some (Zad u8N 64 dbF)) (ds : List D) (c i : Nat) {n q : Nat} (hl : ds.length = n) (hn : n ≤ 1000000) (hc : n ≤ c) (hi : i < n) (hq : (Zc8 kk ds i).length = q) :
  Zaf Tryd.prog G 46 [slv 0 0 n c, Iv (i : Nat)] [dsR ds] (.tuple #[slv 1 0 q q, Iv 0]) [dsR ds, dsB (Zc8 kk ds i)] := by
 subst hl; subst hq
 have h := Zrz (G := G) kk hG hG1 ds c i hn hc hi
 dsimp only at h
 rw [Z0n] at h
 unfold Zc8
 rw [List.length_reverse]
 exact h
theorem Zzy (kk : Nat → BitVec 32) (hG : G 0 = some (Zad w32 64 kk)) (hG1 : G 2 = some (Zad u8N 64 dbF)) (ds : List D) {c n : Nat} {x : D} (hl : ds.length = n) (hn : n ≤ 1000000) (hc : n ≤ c) (hx : Zb8 kk ds = x) :
  Zaf Tryd.prog G 40 [slv 0 0 n c] [dsR ds] (dgV x) [dsR ds] := by
 subst hl; subst hx
 exact Zrv (G := G) kk hG hG1 ds c hn hc
theorem Zl6 {H : List Blk} {e : Emb} {id o m j : Nat} {ds : List D} {B : Blk} (hB : H[id]? = some B) (hb : B = dsR ds ∨ B = dsB ds) (h : o + m ≤ ds.length) (hj : j = o * 32) : Zd1 H e (some (id, j)) (dsR (sub ds o m)) := by
  subst hj
  have hc : B.cells = dsC ds := by rcases hb with rfl | rfl <;> rfl
  refine Zc5 hB (by rcases hb with rfl | rfl <;> rfl) ?_ ?_
  · show _ + (dsC _).length ≤ _
    rw [hc, Zb5, Zb5, Zdg h]; omega
  · show (B.cells.drop _).take (dsC _).length = dsC _
    rw [hc, Zb5, Zdg h]
    exact Zr2 h
end Go.Flat
end
section
namespace Go.Flat
open Go.Proofs
section
variable {H : Type} {enc : TypeId × Value → H} {P : Program} {W : World} {G : Glob} {m : MapM} {σ : List Blk}
def Z63 (n : Nat) (f : Nat → BitVec 8) : List D := (List.range n).map fun i j => f (i * 32 + j)
end
end Go.Flat
end
namespace Go.Proofs.YtfjkagjbanhdlaaDoor
open Go.ChangeShapes Go.WideShapes Go.ChangeAt Go.RowKit
def ints (l : List (DataW Unit)) : List Int := l.map fun | .lit (.int _ z) => z | _ => 0
def parts : DataW Unit → List (DataW Unit) | .agg l => l | _ => []
noncomputable def kz : List Int := ints (parts Rows.laid_estreat_sha_table)
noncomputable def bz : List Int := ints (parts Rows.laid_math_bits_deBruijn64tab)
noncomputable def kk : Nat → BitVec 32 := Flat.Z6k 32 kz
noncomputable def G0 : Flat.Glob := fun g => if g = 0 then some (Flat.Zad Flat.w32 64 kk) else if g = 2 then some (Flat.Zad Flat.u8N 64 Flat.dbF) else none
theorem hG : G0 0 = some (Flat.Zad Flat.w32 64 kk) := rfl
theorem hG1 : G0 2 = some (Flat.Zad Flat.u8N 64 Flat.dbF) := rfl
theorem own : ownKnob Tryd.prog.godebug = none := by kernel_rfl
theorem hrel_of_laid {W : World} {l : List (String × DataW Unit)} (hp : (l.all fun x => x.2.handleName?.isNone) = true) (h : laidMetH Tryd.prog l W)
    (h0 : ("estreat/sha.table", Rows.laid_estreat_sha_table) ∈ l) (h1 : ("math/bits.deBruijn64tab", Rows.laid_math_bits_deBruijn64tab) ∈ l) : Flat.HRel G0 (fun _ => none) [] W := by
  refine Flat.HRel.plain fun g cs hg => ?_
  unfold G0 at hg
  split at hg
  · rename_i e
    subst e
    injection hg with hg
    subst hg
    have r := Flat.Zo1 h hp h0
    rw [show (Rows.laid_estreat_sha_table : DataW Unit) = Lib.tabData .u32 kz from by kernel_rfl] at r
    exact r.tab (g := 0) (t := 146) (e := 90) (c := 64) (by kernel_rfl) (by kernel_rfl) (by kernel_rfl) (by kernel_rfl) (by kernel_rfl) (by kernel_rfl) (by decide +kernel) (by kernel_rfl)
  split at hg
  · rename_i e
    subst e
    injection hg with hg
    subst hg
    have r := Flat.Zo1 h hp h1
    rw [show (Rows.laid_math_bits_deBruijn64tab : DataW Unit) = Lib.tabData .u8 bz from by kernel_rfl] at r
    exact r.tab (g := 2) (t := 138) (e := 5) (c := 64) (by kernel_rfl) (by kernel_rfl) (by kernel_rfl) (by kernel_rfl) (by kernel_rfl) (by kernel_rfl) (by decide +kernel) (by kernel_rfl)
  · cases hg
end Go.Proofs.YtfjkagjbanhdlaaDoor
section
namespace Go.Flat

theorem Zfk {n : Nat} (h : 2 ≤ n) : 1 ≤ Zap n ∧ Zap n < n := by
 obtain ⟨s1, s2, _⟩ := Zfm (n := n) h
 exact ⟨s1, s2⟩
theorem Znd {n : Nat} (h : 2 ≤ n) : Zap n = 2 ^ (n - 1).log2 := by
 unfold Zap Zdx Za6
 rw [if_neg (by omega)]
 have hb : ((n : Int) - 1).toNat = n - 1 := by omega
 rw [hb, if_neg (by omega)]
 have : ((2 : Int) ^ ((n - 1).log2 + 1 - 1)) = ((2 ^ (n - 1).log2 : Nat) : Int) := by simp
 rw [this]; rfl
theorem Zrk {n j : Nat} (h1 : 2 ^ j < n) (h2 : n ≤ 2 * 2 ^ j) : Zap n = 2 ^ j := by
 have h3 : 0 < 2 ^ j := Nat.pow_pos (by decide)
 rw [Znd (by omega)]
 congr 1
 rw [Nat.log2_eq_iff (by omega)]
 rw [Nat.pow_succ]; omega
def Zg4 (kk : Nat → BitVec 32) (ds : List D) : D :=
  if h : ds.length ≤ 1 then (if ds.length = 0 then Zck kk [] else ds.getD 0 d0)
  else Zgi kk (Zg4 kk (ds.take (Zap ds.length))) (Zg4 kk (ds.drop (Zap ds.length)))
termination_by ds.length
decreasing_by
  · have := Zfk (n := ds.length) (by omega)
    simp; omega
  · have := Zfk (n := ds.length) (by omega)
    simp; omega
theorem Zmt (kk : Nat → BitVec 32) {ds : List D} (h : 2 ≤ ds.length) : Zg4 kk ds = Zgi kk (Zg4 kk (ds.take (Zap ds.length))) (Zg4 kk (ds.drop (Zap ds.length))) := by
 rw [Zg4, dif_neg (by omega)]
theorem Zyv (kk : Nat → BitVec 32) (d : D) : Zg4 kk [d] = d := by
 rw [Zg4, dif_pos (by simp)]; simp
def pk (kk : Nat → BitVec 32) (ds : List D) : List D :=
  if h : ds.length = 0 then [] else Zg4 kk (ds.take (big ds.length)) :: pk kk (ds.drop (big ds.length))
termination_by ds.length
decreasing_by
  have := Zkd (n := ds.length) (by omega)
  simp; omega
theorem Znm (kk : Nat → BitVec 32) {ds : List D} (h : 0 < ds.length) : pk kk ds = Zg4 kk (ds.take (big ds.length)) :: pk kk (ds.drop (big ds.length)) := by
 rw [pk, dif_neg (by omega)]
theorem Zmw (kk : Nat → BitVec 32) {ds : List D} (h : ds.length = 0) : pk kk ds = [] := by
 rw [pk, dif_pos h]
theorem Zv2 (kk : Nat → BitVec 32) {P : List D} (a : D) (h : 2 ≤ P.length) : Zia kk (a :: P) = a :: Zia kk P := by
 unfold Zia
 simp only [List.length_cons]
 rw [show P.length + 1 - 2 = (P.length - 2) + 1 from by omega, show P.length + 1 - 1 = (P.length - 1) + 1 from by omega]
 simp
theorem Zjl (kk : Nat → BitVec 32) {P : List D} (a : D) : ∀ n, n + 1 ≤ P.length → Zec kk n (a :: P) = a :: Zec kk n P
 | 0, _ => rfl
 | n + 1, h => by
  simp only [Zec]
  rw [Zjl kk a n (by omega), Zv2 kk a (by rw [Zi7 kk n (by omega)]; omega)]
theorem Zqq (kk : Nat → BitVec 32) (a b : D) : Zia kk [a, b] = [Zgi kk a b] := by simp [Zia]
theorem Z40 (kk : Nat → BitVec 32) (d : D) : ∀ (n : Nat) (ds : List D), ds.length = n → tz (n + 1) ≤ (pk kk ds).length ∧ Zec kk (tz (n + 1)) (pk kk ds ++ [d]) = pk kk (ds ++ [d]) := by
 intro n
 induction n using Nat.strongRecOn with
 | ind n ih =>
  intro ds hn
  rcases Nat.eq_zero_or_pos n with h0 | h0
  ·subst h0
   have : ds = [] := List.eq_nil_of_length_eq_zero hn
   subst this
   rw [Zmw kk rfl]
   refine ⟨by decide, ?_⟩
   rw [Znm kk (by simp)]
   simp only [List.nil_append, List.length_cons, List.length_nil]
   rw [show big (0 + 1) = 1 from by decide, show tz (0 + 1) = 0 from by decide]
   simp [Zyv, Zmw, Zec]
  ·obtain ⟨b1, b2, b3⟩ := Zkd h0
   have ht := Zwr h0
   obtain ⟨i1, i2⟩ := ih (n - big n) (by omega) (ds.drop (big n)) (by simp [hn])
   have hp : pk kk ds = Zg4 kk (ds.take (big n)) :: pk kk (ds.drop (big n)) := by rw [Znm kk (by omega), hn]
   rw [hp]
   by_cases hd : n + 1 = 2 * big n
   ·rw [if_pos hd] at ht
    rw [ht]
    refine ⟨by simp; omega, ?_⟩
    rw [List.cons_append]
    show Zia kk (Zec kk _ _) = _
    rw [Zjl kk _ _ (by simp; omega), i2]
    have hl2 : (ds.drop (big n) ++ [d]).length = big n := by simp [hn]; omega
    have e1 : pk kk (ds.drop (big n) ++ [d]) = [Zg4 kk (ds.drop (big n) ++ [d])] := by
     rw [Znm kk (by simp)]
     have hb : big (ds.drop (big n) ++ [d]).length = (ds.drop (big n) ++ [d]).length := by
      rw [hl2]; unfold big; rw [Nat.log2_two_pow]
     rw [hb, List.take_length, List.drop_length, Zmw kk rfl]
    rw [e1, Zqq, Znm kk (by simp)]
    have hlen : (ds ++ [d]).length = n + 1 := by simp [hn]
    rw [hlen, Zxg h0 hd, ← hlen, List.take_length, List.drop_length, Zmw kk rfl, Zmt kk (ds := ds ++ [d]) (by omega), hlen]
    have hs : Zap (n + 1) = big n := Zrk (by unfold big at *; omega) (by unfold big at *; omega)
    rw [hs, List.take_append_of_le_length (by omega), List.drop_append_of_le_length (by omega)]
   ·rw [if_neg hd] at ht
    simp only [Nat.add_zero] at ht
    rw [ht]
    refine ⟨by simp; omega, ?_⟩
    rw [List.cons_append, Zjl kk _ _ (by simp; omega), i2, Znm kk (ds := ds ++ [d]) (by simp)]
    have hlen : (ds ++ [d]).length = n + 1 := by simp [hn]
    rw [hlen, Zw6 h0 (by omega), List.take_append_of_le_length (by omega), List.drop_append_of_le_length (by omega)]
theorem Zw0 (kk : Nat → BitVec 32) (ds : List D) : ∀ i, i ≤ ds.length → Zj7 kk ds i = pk kk (ds.take i)
 | 0, _ => by rw [Zmw kk (by simp)]; rfl
 | i + 1, h => by
  simp only [Zj7]
  rw [Zw0 kk ds i (by omega), (Z40 kk (ds.getD i d0) i (ds.take i) (by simp; omega)).2]
  congr 1
  rw [List.take_add_one]
  congr 1
  simp [List.getD_eq_getElem?_getD, show i < ds.length from by omega]
theorem Z2b (kk : Nat → BitVec 32) : ∀ (n : Nat) (ds : List D), ds.length = n → 0 < n → 1 ≤ (pk kk ds).length ∧ Zec kk ((pk kk ds).length - 1) (pk kk ds) = [Zg4 kk ds] := by
 intro n
 induction n using Nat.strongRecOn with
 | ind n ih =>
  intro ds hn h0
  obtain ⟨b1, b2, b3⟩ := Zkd h0
  have hp : pk kk ds = Zg4 kk (ds.take (big n)) :: pk kk (ds.drop (big n)) := by rw [Znm kk (by omega), hn]
  rw [hp]
  refine ⟨by simp, ?_⟩
  rcases Nat.eq_or_lt_of_le b1 with he | hlt
  ·rw [Zmw kk (ds := ds.drop (big n)) (by simp; omega), List.take_of_length_le (by omega)]; rfl
  ·obtain ⟨i1, i2⟩ := ih (n - big n) (by omega) (ds.drop (big n)) (by simp [hn]) (by omega)
   simp only [List.length_cons, Nat.add_sub_cancel]
   obtain ⟨m, hm⟩ : ∃ m, (pk kk (ds.drop (big n))).length = m + 1 := ⟨_, (Nat.sub_add_cancel i1).symm⟩
   rw [hm] at i2 ⊢
   show Zia kk (Zec kk m _) = _
   rw [Zjl kk _ m (by omega)]
   rw [Nat.add_sub_cancel] at i2
   rw [i2, Zqq, Zmt kk (ds := ds) (by omega), hn]
   have hs : Zap n = big n := Zrk (by unfold big at *; omega) (by unfold big at *; omega)
   rw [hs]
theorem Zou (kk : Nat → BitVec 32) (ds : List D) : Zb8 kk ds = Zg4 kk ds := by
 unfold Zb8
 split
 ·rename_i h0
  rw [Zg4, dif_pos (by omega), if_pos h0]
 ·rename_i h0
  have hp := Zw0 kk ds ds.length (Nat.le_refl _)
  rw [List.take_length] at hp
  have hl := Zkm kk ds ds.length
  rw [← hl, hp, (Z2b kk ds.length ds rfl (by omega)).2]
  rfl
theorem Zyr (kk : Nat → BitVec 32) {ds : List D} (h : 2 ≤ ds.length) : Zb8 kk ds = Zgi kk (Zb8 kk (ds.take (Zap ds.length))) (Zb8 kk (ds.drop (Zap ds.length))) := by
 rw [Zou, Zmt kk h, Zou, Zou]
end Go.Flat
end
section
namespace Go.Flat
open Go.Proofs
variable {G : Glob}

def Z54 (kk : Nat → BitVec 32) (l : List D) (m : Nat) : List D := (Zxf kk l.length l m true []).reverse
theorem Zs0 {n t : Nat} (h : 2 ≤ n) (ht : n ≤ 2 ^ (t + 1)) : Zap n ≤ 2 ^ t ∧ n - Zap n ≤ 2 ^ t ∧ n ≤ 2 * Zap n := by
 have e := Znd h
 have h1 := Nat.log2_self_le (n := n - 1) (by omega)
 have h2 := Nat.lt_log2_self (n := n - 1)
 rw [Nat.pow_succ, ← e] at h2
 rw [← e] at h1
 have h3 : Zap n ≤ 2 ^ t := by
  rw [e]
  refine Nat.pow_le_pow_right (by decide) ?_
  have : 2 ^ (n - 1).log2 < 2 ^ (t + 1) := by rw [← e]; omega
  have := (Nat.pow_lt_pow_iff_right (a := 2) (by decide)).1 this
  omega
 omega
theorem Zj9 (kk : Nat → BitVec 32) : ∀ (t : Nat) (l : List D) (i : Nat), l.length ≤ 2 ^ t → (Zc8 kk l i).length ≤ t
 | 0, l, i, h => by rw [Zmu kk i (by simpa using h)]; exact Nat.le_refl _
 | t + 1, l, i, h => by
  by_cases h2 : 2 ≤ l.length
  ·obtain ⟨k1, k2, _⟩ := Zs0 h2 h
   by_cases hi : i < Zap l.length
   ·rw [Zuq kk h2 hi, List.length_append]
    have := Zj9 kk t (l.take (Zap l.length)) i (by simp; omega)
    simp at this ⊢; omega
   ·rw [Zux kk h2 (by omega), List.length_append]
    have := Zj9 kk t (l.drop (Zap l.length)) (i - Zap l.length) (by simp; omega)
    simp at this ⊢; omega
  ·rw [Zmu kk i (by omega)]; simp
end Go.Flat
end
section
namespace Go.Flat
open Go.Proofs
variable {G : Glob}
end Go.Flat
end
section
namespace Go.Proofs.YtfjkagjbanhdlaaDoor
open Go.ChangeShapes Go.WideShapes Go.ChangeAt Go.RowKit
end Go.Proofs.YtfjkagjbanhdlaaDoor
end
section
namespace Go.Flat
open Go.Proofs
variable {G : Glob}
def Zj8 (x : BitVec 32) (n : Nat) : BitVec 32 := x >>> n ||| x <<< (32 - n)
def Z65 (w : Nat → BitVec 32) : Blk := { cells := Zad w32 64 w, sz := 64, wr := true, fix := true, mv := false, pur := true }
def inR (b : Nat → BitVec 8) : Nat → Nat → BitVec 32
  | 0 => fun _ => 0
  | k + 1 => Zh0 (inR b k) (k / 4) (inR b k (k / 4) * BitVec.ofInt 32 256 + (b k).setWidth 32)
def Z56 (w : Nat → BitVec 32) (t : Nat) : BitVec 32 := w (t - 16) + w (t - 7) + (Zj8 (w (t - 15)) 7 ^^^ Zj8 (w (t - 15)) 18 ^^^ w (t - 15) >>> 3) + (Zj8 (w (t - 2)) 17 ^^^ Zj8 (w (t - 2)) 19 ^^^ w (t - 2) >>> 10)
def Z3n (b : Nat → BitVec 8) : Nat → Nat → BitVec 32
  | 0 => inR b 64
  | k + 1 => Zh0 (Z3n b k) (16 + k) (Z56 (Z3n b k) (16 + k))
end Go.Flat
end
section
namespace Go.Flat
open Go.Proofs
variable {G : Glob}
def Z6e (k : BitVec 32) (v w : Nat → BitVec 32) (t : Nat) : BitVec 32 := v 7 + (Zj8 (v 4) 6 ^^^ Zj8 (v 4) 11 ^^^ Zj8 (v 4) 25) + ((v 4 &&& v 5) ^^^ (~~~(v 4) &&& v 6)) + k + w t
def Z6i (v : Nat → BitVec 32) : BitVec 32 := (Zj8 (v 0) 2 ^^^ Zj8 (v 0) 13 ^^^ Zj8 (v 0) 22) + ((v 0 &&& v 1) ^^^ (v 0 &&& v 2) ^^^ (v 1 &&& v 2))
def Z15 (kk : Nat → BitVec 32) (v w : Nat → BitVec 32) : Nat → Nat → BitVec 32
  | 0 => v
  | t + 1 => Z30 (Z6e (kk t) (Z15 kk v w t) w t) (Z6i (Z15 kk v w t)) (Z15 kk v w t)
def Z6c (kk : Nat → BitVec 32) (v : Nat → BitVec 32) (b : Nat → BitVec 8) : Nat → BitVec 32 := Z0c v (Z15 kk v (Z3n b 48) 64) 8
attribute [local irreducible] Zj8
end Go.Flat
end
section
namespace Go.Flat
open Go.Proofs
variable {G : Glob}
theorem Ztf {P : Program} {H : List Blk} {t : TypeId} {q : Value} {b c n k n' by_ : Nat} {zc : List Value} {ls : Bs} {ms : List Value} {ms' : Bs} (ht : Zde P t = some (1, zc, by_)) (hz : zc.length = 1) (hs : Zg6 H 1 q = some (k, ms)) (hms : ms = ms'.map w8) (hb : H[b]? = some (Zaq ls)) (hn : ls.length = n) (hk : n + k = n') (hby : 0 < by_) (hm : n' * by_ ≤ 140737488355328) :
  Zo5 P H t (slv b 0 n c) q = some (slv b 0 n' n', b, Zaq (ls ++ ms')) := by
 subst hms
 have hc : (Zaq ls).cells.length = n := by show (ls.map w8).length = _; simp [hn]
 rw [Zeq (n' := n') (p := (k, ms'.map w8)) ht hs hb rfl rfl hz (Zyw ms') (by rw [hc]; omega) hby hk hm]
 have : List.take (n * 1) (List.drop 0 (Zaq ls).cells) ++ ms'.map w8 = (ls ++ ms').map w8 := by
  rw [List.drop_zero, List.take_of_length_le (by rw [hc]; omega), List.map_append]; rfl
 simp only [this]
 rfl
end Go.Flat
end
section
namespace Go.Flat
open Go.Proofs
variable {G : Glob}
def Z5l (kk v : Nat → BitVec 32) (l : Bs) : Nat → Nat → BitVec 32
  | 0 => v
  | j + 1 => Z6c kk (Z5l kk v l j) (Ziu l j)
def Z6m (kk : Nat → BitVec 32) (M : Bs) : Nat → BitVec 8 := Zsw (Z5l kk Zyu (M ++ Zfv M 8) ((M ++ Zfv M 8).length / 64)) 32
end Go.Flat
end
section
namespace Go.Flat
open Go.Proofs
variable {G : Glob}
theorem Zk0 {P : Program} {t : TypeId} {x y : Operand} {a b : ByteArray} (h : a.size + b.size ≤ 140737488351232) : Zb1 P .add t x y (.string a) (.string b) = some (.string (a ++ b)) := by
 unfold Zb1
 rw [if_pos (show (Zbi (.string a) && Zbi (.string b)) = true from rfl)]
 have hg : Z6 P (eqGuard .add t x y (.string a) (.string b)) = some () := rfl
 rw [Zac, hg, Option.bind_some]
 have e : binOp .add t (.string a) (.string b) = Op.stringOp .add a b := rfl
 rw [e]
 unfold Op.stringOp
 dsimp only
 rw [if_neg (by show ¬ (((a.size + b.size : Nat) : Int) > 9223372036854775807); omega)]
 rfl
def Z6u (kk : Nat → BitVec 32) (a b : Nat → BitVec 8) : Nat → BitVec 8 := Z6m kk (Zbq [Zqo, Zr (dgL a), Zr (dgL b)])
end Go.Flat
end
section
namespace Go.Flat

def wF (b : Nat → BitVec 8) (i : Nat) : BitVec 32 := Z3n b (i - 15) i
end Go.Flat
end
section
namespace Go.Flat
open Go.Proofs
variable {G : Glob}
end Go.Flat
end
section
namespace Go.Flat
open Go.Proofs
variable {G : Glob}
end Go.Flat
end
section
namespace Go.Flat
open Go.Proofs
variable {G : Glob}
def Z6t (kk : Nat → BitVec 32) (l : List D) (m : Nat) (kn : Bool) : List D := (Zxf kk l.length l m kn []).reverse
end Go.Flat
end
