/- Walks. -/
import Derived.Test.YtfjkagjbanhdlaaGreatDoorFlatC
import Derived.Carry
import Derived.ReadAgain
import Derived.Test.YtfjkagjbanhdlaaGreatDoorSha
import Derived.Test.YtfjkagjbanhdlaaGreatDoorTie
import Derived.Test.YtfjkagjbanhdlaaGreatDoorCards
import Derived.ProofKit
import Derived.OpenShut
import Derived.LaidMore
import Derived.Lay
import Derived.SevenTiedAt
set_option linter.unusedVariables false
set_option linter.unusedSimpArgs false
set_option maxRecDepth 20000
section
/- A law's row, out of its contract: whatever the arguments, as long as what was there is not written. -/
namespace Go.Flat
open Go.ChangeShapes Go.WideShapes Go.RowKit
section
variable {H : Type} {enc : TypeId × Value → H} {P : Program} {m m' : MapM} {W W' : World}
theorem Zl9 (hl : laidOutB P = true) {sp : Nat → Bool} (hk : ∀ g, g < W.heap.size → W'.heap[g]? = W.heap[g]?) : ∀ {ts : List TypeId} {vs : List Value} {ds : List (DataW H)} {ps : List MemPlace}, (ts.all fun t => P.readableRec t && decide (t < P.types.size)) = true →
  DataW.TrodAll enc P W 0 (fun _ => true) true ts vs ds ps → (∀ p ∈ ps, p.block < W.heap.size) → (∀ p ∈ ps, sp p.block = true) → DataW.TrodAll enc P W' 0 sp true ts vs ds ps
 | [], [], [], _, _, h, _, _ => h
 | t :: ts, v :: vs, d :: ds, ps, ht, ⟨p, q, h1, h2, e⟩, hlt, hs => by
  rw [List.all_cons, Bool.and_eq_true, Bool.and_eq_true] at ht
  refine ⟨p, q, WideElems.Trod_stays hl ht.1.1 (of_decide_eq_true ht.1.2) h1 (fun x hx => ?_) (fun x hx => hs x (by rw [e]; exact List.mem_append_left _ hx)), Zl9 hl hk ht.2 h2 (fun x hx => hlt x (by rw [e]; exact List.mem_append_right _ hx)) (fun x hx => hs x (by rw [e]; exact List.mem_append_right _ hx)), e⟩
  have := hk x.block (hlt x (by rw [e]; exact List.mem_append_left _ hx))
  unfold World.sameAt
  cases x <;> simp_all [MemPlace.block, World.cell?]
 | [], _ :: _, _, _, _, h, _, _ => h.elim
 | [], [], _ :: _, _, _, h, _, _ => h.elim
 | _ :: _, [], _, _, _, h, _, _ => h.elim
 | _ :: _, _ :: _, [], _, _, h, _, _ => h.elim
theorem Z3h {f : Func} {s : ChangeSpec} {apart fresh handsOn again : Bool} {args : Array Value} {ds gs : List (DataW H)} {before : List MemPlace} {tb : TypeId}
  (hW : DataW.Whole enc P f.params.toList s.vars apart W args.toList ds gs before) (hv : s.vars = []) (hs : s.fn H ds = { results := [.lit (.bool true)], args := ds })
  (hr : f.resultTypes = #[tb]) (hb : P.underlying tb = some .bool) (hl : laidOutB P = true) (ht : (f.params.toList.all fun t => P.readableRec t && decide (t < P.types.size)) = true)
  (hm : ∀ b r, m b = some r → r.wr = false) (hf : Frame ⟨m, W, []⟩ m' W') : s.post enc P f apart fresh handsOn again W args (.bool true) W' := by
 have hlt : ∀ p ∈ before, p.block < W.heap.size := fun p hp => hW.lt p hp
 have hW' := hW
 obtain ⟨p, q, hA, hV, he, _, _⟩ := hW'
 rw [hv] at hV
 obtain ⟨rfl, rfl⟩ := trodVars_none hV
 rw [List.append_nil] at he
 subst he
 have e1 := hs
 refine Zw2 (pa := before) (pv := []) hW (fun _ _ _ => ?_) (fun sp hsp => ?_) (fun sp hsp => ?_) (by simp) (hf.kept hm _) (fun a ha => hf.frozen hm a ha) ?_
 ·rw [List.append_nil, e1, hr]
  exact trodAll_mk1 (shut_bool hb _)
 ·rw [List.append_nil, e1]
  exact Zl9 hl (fun g hg => hf.same hm hg) ht hA hlt hsp
 ·rw [List.append_nil, e1, hv]; rfl
 ·intro j t r h1 h2
  rw [hr] at h1 h2
  cases j with
  | zero =>
   simp [Value.resultList] at h1 h2
   subst h1; subst h2
   exact okWide_bool_mk hb _
  | succ j => simp at h1
theorem Z1v {f : FuncId} {fn : Func} {G : Glob} {s : ChangeSpec} {apart fresh handsOn again : Bool} {args : Array Value} {ds gs : List (DataW H)} {before : List MemPlace} {tb : TypeId} {σ σ' : List Blk} {argsL : List Value}
  (hW : DataW.Whole enc P fn.params.toList s.vars apart W args.toList ds gs before) (hv : s.vars = []) (hs : s.fn H ds = { results := [.lit (.bool true)], args := ds })
  (hr : fn.resultTypes = #[tb]) (hb : P.underlying tb = some .bool) (hl : laidOutB P = true) (ht : (fn.params.toList.all fun t => P.readableRec t && decide (t < P.types.size)) = true)
  (hm : ∀ b r, m b = some r → r.wr = false) (hrel : HRel G m σ W) (ha : L2 (VR m) argsL args.toList) (hC : Z6 P G f argsL σ (.bool true) σ') :
  Calls P f args W fun e W' => ∃ v, e = .returned v ∧ s.post enc P fn apart fresh handsOn again W args v W' := by
 refine (hC m W args.toList hrel ha).mono ?_
 rintro e w' ⟨v', m', rfl, h1, h2, h3⟩
 have : v' = .bool true := h2
 subst this
 exact ⟨_, rfl, Z3h hW hv hs hr hb hl ht hm h3⟩
theorem HRel.addRow {G : Glob} {σ : List Blk} (h : HRel G m σ W) (hm : ∀ b r, m b = some r → r.wr = false) {blk : Blk} {r : Reg} (hw : blk.wr = false) (hsz : 0 < blk.sz) (h1 : r.wr = false) (h2 : r.fix = blk.fix) (h3 : r.len = blk.cells.length) (h4 : r.sz = blk.sz) (h5 : r.mv = blk.mv)
    (hc : ∀ i v, blk.cells[i]? = some v → ∃ v', W.cell? ⟨r.g, r.lo + i, none⟩ = some v' ∧ CR (fun b => if b = σ.length then some r else m b) v v') (hp : blk.pur = true → ∀ v, v ∈ blk.cells → Zb9 v = true) :
    HRel G (fun b => if b = σ.length then some r else m b) (σ ++ [blk]) W ∧ (∀ b r', (if b = σ.length then some r else m b) = some r' → r'.wr = false) ∧ ∀ b r', m b = some r' → (if b = σ.length then some r else m b) = some r' := by
  have hdom : m σ.length = none := h.dom (Nat.le_refl _)
  have hext : ∀ b r', m b = some r' → (if b = σ.length then some r else m b) = some r' := by
    intro b r' hb
    by_cases e : b = σ.length
    · subst e; rw [hdom] at hb; cases hb
    · rw [if_neg e]; exact hb
  have hro : ∀ b r', (if b = σ.length then some r else m b) = some r' → r'.wr = false := by
    intro b r' hb
    by_cases e : b = σ.length
    · rw [if_pos e] at hb; injection hb with hb; subst hb; exact h1
    · rw [if_neg e] at hb; exact hm b r' hb
  have hget : ∀ b x, (σ ++ [blk])[b]? = some x → (b < σ.length ∧ σ[b]? = some x) ∨ (b = σ.length ∧ x = blk) := by
    intro b x hx
    rcases Nat.lt_or_ge b σ.length with hlt | hge
    · rw [List.getElem?_append_left hlt] at hx; exact .inl ⟨hlt, hx⟩
    · rw [List.getElem?_append_right hge] at hx
      cases e : b - σ.length with
      | zero => rw [e] at hx; simp at hx; exact .inr ⟨by omega, hx.symm⟩
      | succ k => rw [e] at hx; simp at hx
  refine ⟨{ reg := ?_, live := ?_, cell := ?_, pur := ?_, own := ?_, dis := ?_, glob := h.glob, gwr := ?_ }, hro, hext⟩
  · intro b r' hb
    by_cases e : b = σ.length
    · subst e
      rw [if_pos rfl] at hb; injection hb with hb; subst hb
      exact ⟨blk, by simp, hsz, by rw [h1, hw], h2, h3, h4, h5⟩
    · rw [if_neg e] at hb
      obtain ⟨B, g1, g2⟩ := h.reg b r' hb
      exact ⟨B, by rw [List.getElem?_append_left (List.getElem?_eq_some_iff.1 g1).1]; exact g1, g2⟩
  · intro b x hx h0
    rcases hget b x hx with ⟨hlt, hx⟩ | ⟨rfl, rfl⟩
    · obtain ⟨r', hr'⟩ := h.live b x hx h0
      exact ⟨r', hext _ _ hr'⟩
    · exact ⟨r, if_pos rfl⟩
  · intro b x r' i v hx hb hv
    rcases hget b x hx with ⟨hlt, hx⟩ | ⟨rfl, rfl⟩
    · rw [if_neg (by omega)] at hb
      obtain ⟨v', g1, g2⟩ := h.cell b x r' i v hx hb hv
      exact ⟨v', g1, g2.mono hext⟩
    · rw [if_pos rfl] at hb; injection hb with hb; subst hb
      exact hc i v hv
  · intro b x hx
    rcases hget b x hx with ⟨hlt, hx⟩ | ⟨rfl, rfl⟩
    · exact h.pur b x hx
    · exact hp
  · intro b r' hb hw'
    rw [hro b r' hb] at hw'; cases hw'
  · intro b b' r1 r2 _ hb _ hw'
    rw [hro b r1 hb] at hw'; cases hw'
  · intro b r' j hb hw'
    rw [hro b r' hb] at hw'; cases hw'
end
end Go.Flat
end
section
/- Opening an argument: a slice of arrays of bytes. -/
namespace Go.Flat
open Go.ChangeShapes Go.WideShapes Go.RowKit
section
variable {H : Type} {enc : TypeId × Value → H} {P : Program} {W : World}
theorem Zzo {a : Addr} {x : Nat} {v : Value} (h : W.cell? (a.add x) = some v) : W.cell? ⟨a.block, a.off + x, none⟩ = some v ∧ a.spot = none ∨ (W.cell? ⟨a.block, a.off + x, none⟩ = some v ∧ 0 < x) := by
 obtain ⟨b, o, s⟩ := a
 unfold Addr.add at h
 split at h
 ·rename_i hx
  subst hx
  cases s with
  | none => exact .inl ⟨h, rfl⟩
  | some q => unfold World.cell? at h; split at h <;> simp at h
 ·exact .inr ⟨h, by omega⟩
theorem Z2y {a : Addr} {x : Nat} {v : Value} (h : W.cell? (a.add x) = some v) : W.cell? ⟨a.block, a.off + x, none⟩ = some v := by
 rcases Zzo h with h | h
 ·exact h.1
 ·exact h.1
theorem Zx7 {a : Addr} {v : Value} (h : W.cell? (a.add 0) = some v) : a.spot = none := by
 rcases Zzo h with h | h
 ·exact h.2
 ·omega
theorem Z0g (a : Addr) (x y : Nat) : (a.add x).add y = a.add (x + y) := by
 obtain ⟨b, o, s⟩ := a
 unfold Addr.add
 by_cases hx : x = 0
 ·subst hx; by_cases hy : y = 0
  ·subst hy; simp
  ·simp [hy]
 ·by_cases hy : y = 0
  ·subst hy; simp [hx]
  ·simp [hx, hy]; omega
def byteAt (W : World) (g o : Nat) : BitVec 8 := match W.cell? ⟨g, o, none⟩ with | some (.int _ z) => BitVec.ofInt 8 z | _ => 0
end
end Go.Flat
end
section
namespace Go.Flat
open Go.Proofs
variable {G : Glob}

theorem Zxa (P : List D) : ∀ (i : Nat), 2 * i ≤ P.length → ∀ j, j < P.length → (Zkt P i)[j]? = if j < i ∨ P.length - i ≤ j then P[P.length - 1 - j]? else P[j]?
 | 0, _, j, hj => by simp [Zkt]; omega
 | i + 1, h, j, hj => by
  have ih := Zxa P i (by omega)
  have hl := Zoc P i
  have gd : ∀ k, k < P.length → (Zkt P i)[k]? = some ((Zkt P i).getD k d0) := fun k hk => by
   rw [List.getD_eq_getElem?_getD, List.getElem?_eq_getElem (by omega)]; rfl
  simp only [Zkt]
  rcases Nat.lt_trichotomy j (P.length - 1 - i) with h1 | h1 | h1
  ·rw [List.getElem?_set_ne (by omega)]
   rcases Nat.lt_trichotomy j i with h2 | h2 | h2
   ·rw [List.getElem?_set_ne (by omega), ih j hj, if_pos (.inl h2), if_pos (.inl (by omega))]
   ·subst h2
    rw [List.getElem?_set_self (by omega), ← gd _ (by omega), ih _ (by omega), if_neg (by omega), if_pos (.inl (by omega))]
   ·rw [List.getElem?_set_ne (by omega), ih j hj, if_neg (by omega), if_neg (by omega)]
  ·subst h1
   rw [List.getElem?_set_self (by rw [List.length_set]; omega), ← gd _ (by omega), ih i (by omega), if_neg (by omega), if_pos (.inr (by omega))]
   congr 1; omega
  ·rw [List.getElem?_set_ne (by omega), List.getElem?_set_ne (by omega), ih j hj, if_pos (.inr (by omega)), if_pos (.inr (by omega))]
theorem Z4s (P : List D) : Zkt P (P.length / 2) = P.reverse := by
 apply List.ext_getElem?
 intro j
 rcases Nat.lt_or_ge j P.length with h | h
 ·rw [Zxa P _ (by omega) j h, List.getElem?_reverse h]
  split
  ·rfl
  ·congr 1; omega
 ·rw [List.getElem?_eq_none (by rw [Zoc]; exact h), List.getElem?_eq_none (by simpa using h)]
theorem Zh9 (kk : Nat → BitVec 32) : ∀ (f : Nat) (l : List D) (i : Nat) (dn : List D), Zgk kk f l i dn = dn ++ Zgk kk f l i []
 | 0, l, i, dn => by simp [Zgk]
 | f + 1, l, i, dn => by
  unfold Zgk
  split
  ·simp
  ·dsimp only
   split
   ·rw [Zh9 kk f _ _ (dn ++ _), Zh9 kk f _ _ ([] ++ _)]; simp
   ·rw [Zh9 kk f _ _ (dn ++ _), Zh9 kk f _ _ ([] ++ _)]; simp
theorem Zj5 (kk : Nat → BitVec 32) : ∀ (f g : Nat) (l : List D) (i : Nat) (dn : List D), l.length ≤ f + 1 → l.length ≤ g + 1 → Zgk kk f l i dn = Zgk kk g l i dn
  | 0, 0, _, _, _, _, _ => rfl
  | 0, g + 1, l, i, dn, h, _ => by conv => rhs; unfold Zgk
                                   rw [if_pos (by omega)]; rfl
  | f + 1, 0, l, i, dn, _, h => by conv => lhs; unfold Zgk
                                   rw [if_pos (by omega)]; rfl
  | f + 1, g + 1, l, i, dn, h1, h2 => by
    unfold Zgk
    split
    · rfl
    · rename_i hl
      obtain ⟨s1, s2, _⟩ := Zd7 (n := l.length) (by omega)
      dsimp only
      split
      · exact Zj5 kk f g _ _ _ (by simp; omega) (by simp; omega)
      · exact Zj5 kk f g _ _ _ (by simp; omega) (by simp; omega)
def Zcp (kk : Nat → BitVec 32) (l : List D) (i : Nat) : List D := (Zgk kk l.length l i []).reverse
def Zaz (n : Nat) : Nat := (Zdh n).toNat
theorem Zh7 (kk : Nat → BitVec 32) {l : List D} (i : Nat) (h : l.length ≤ 1) : Zcp kk l i = [] := by
 unfold Zcp
 cases e : l.length with
 | zero => rfl
 | succ n => unfold Zgk; rw [if_pos h]; rfl
theorem Zm5 (kk : Nat → BitVec 32) {l : List D} {i : Nat} (h : 2 ≤ l.length) (hi : i < Zaz l.length) : Zcp kk l i = Zcp kk (l.take (Zaz l.length)) i ++ [Zby kk (l.drop (Zaz l.length))] := by
 obtain ⟨s1, s2, _⟩ := Zd7 (n := l.length) h
 change 1 ≤ Zaz l.length at s1
 change Zaz l.length < l.length at s2
 unfold Zcp
 obtain ⟨f, hf⟩ : ∃ f, l.length = f + 1 := ⟨l.length - 1, by omega⟩
 conv => lhs; rw [hf]; unfold Zgk
 rw [if_neg (by omega)]
 dsimp only
 rw [show (Zdh (l.length : Int)).toNat = Zaz l.length from rfl, if_pos hi, Zh9, Zj5 kk f (l.take (Zaz l.length)).length _ _ _ (by simp; omega) (by omega)]
 simp
theorem Zng (kk : Nat → BitVec 32) {l : List D} {i : Nat} (h : 2 ≤ l.length) (hi : Zaz l.length ≤ i) : Zcp kk l i = Zcp kk (l.drop (Zaz l.length)) (i - Zaz l.length) ++ [Zby kk (l.take (Zaz l.length))] := by
 obtain ⟨s1, s2, _⟩ := Zd7 (n := l.length) h
 change 1 ≤ Zaz l.length at s1
 change Zaz l.length < l.length at s2
 unfold Zcp
 obtain ⟨f, hf⟩ : ∃ f, l.length = f + 1 := ⟨l.length - 1, by omega⟩
 conv => lhs; rw [hf]; unfold Zgk
 rw [if_neg (by omega)]
 dsimp only
 rw [show (Zdh (l.length : Int)).toNat = Zaz l.length from rfl, if_neg (by omega), Zh9, Zj5 kk f (l.drop (Zaz l.length)).length _ _ _ (by simp; omega) (by omega)]
 simp
theorem Zlw (kk : Nat → BitVec 32) : ∀ (f : Nat) (l : List D) (i : Nat), l.length ≤ f → (Zcp kk l i).length ≤ l.length
 | 0, l, i, h => by rw [Zh7 kk i (by omega)]; simp
 | f + 1, l, i, h => by
  by_cases h2 : 2 ≤ l.length
  ·obtain ⟨s1, s2, _⟩ := Zd7 (n := l.length) h2
   change 1 ≤ Zaz l.length at s1
   change Zaz l.length < l.length at s2
   by_cases hi : i < Zaz l.length
   ·rw [Zm5 kk h2 hi, List.length_append]
    have := Zlw kk f (l.take (Zaz l.length)) i (by simp; omega)
    simp at this ⊢; omega
   ·rw [Zng kk h2 (by omega), List.length_append]
    have := Zlw kk f (l.drop (Zaz l.length)) (i - Zaz l.length) (by simp; omega)
    simp at this ⊢; omega
  ·rw [Zh7 kk i (by omega)]; simp

theorem Z6o (kk : Nat → BitVec 32) (hG : G 3 = some (Zag w32 64 kk)) (hG1 : G 1 = some (Zag u8N 64 dbF)) (ds : List D) (c i : Nat) {n q : Nat} (hl : ds.length = n) (hn : n ≤ 1000000) (hc : n ≤ c) (hi : i < n) (hq : (Zcp kk ds i).length = q) :
  Z6 Tryz.prog G 37 [slv 0 0 n c, Iv (i : Nat)] [dsR ds] (.tuple #[slv 1 0 q q, Iv 0]) [dsR ds, dsB (Zcp kk ds i)] := by
 subst hl; subst hq
 have h := Zus (G := G) kk hG hG1 ds c i hn hc hi
 dsimp only at h
 rw [Z4s] at h
 unfold Zcp
 rw [List.length_reverse]
 exact h
theorem Z5k (kk : Nat → BitVec 32) (hG : G 3 = some (Zag w32 64 kk)) (hG1 : G 1 = some (Zag u8N 64 dbF)) (ds : List D) {c n : Nat} {x : D} (hl : ds.length = n) (hn : n ≤ 1000000) (hc : n ≤ c) (hx : Zby kk ds = x) :
  Z6 Tryz.prog G 31 [slv 0 0 n c] [dsR ds] (dgV x) [dsR ds] := by
 subst hl; subst hx
 exact Ztt (G := G) kk hG hG1 ds c hn hc
theorem Zgx {H : List Blk} {e : Emb} {id o m j : Nat} {ds : List D} {B : Blk} (hB : H[id]? = some B) (hb : B = dsR ds ∨ B = dsB ds) (h : o + m ≤ ds.length) (hj : j = o * 32) : Zek H e (some (id, j)) (dsR (sub ds o m)) := by
  subst hj
  have hc : B.cells = dsC ds := by rcases hb with rfl | rfl <;> rfl
  refine Zeb hB (by rcases hb with rfl | rfl <;> rfl) ?_ ?_
  · show _ + (dsC _).length ≤ _
    rw [hc, Zb8, Zb8, Zcr h]; omega
  · show (B.cells.drop _).take (dsC _).length = dsC _
    rw [hc, Zb8, Zcr h]
    exact Zt8 h
end Go.Flat
end
section
namespace Go.Flat
open Go.Proofs
section
variable {H : Type} {enc : TypeId × Value → H} {P : Program} {W : World} {G : Glob} {m : MapM} {σ : List Blk}
def dsOf (n : Nat) (f : Nat → BitVec 8) : List D := (List.range n).map fun i j => f (i * 32 + j)
end
end Go.Flat
end
namespace Go.Proofs.YtfjkagjbanhdlaaGreatDoor
open Go.ChangeShapes Go.WideShapes Go.ChangeAt Go.RowKit
def ints (l : List (DataW Unit)) : List Int := l.map fun | .lit (.int _ z) => z | _ => 0
def parts : DataW Unit → List (DataW Unit) | .agg l => l | _ => []
noncomputable def kz : List Int := ints (parts Rows.laid_estreat_sha_table)
noncomputable def bz : List Int := ints (parts Rows.laid_math_bits_deBruijn64tab)
noncomputable def kk : Nat → BitVec 32 := Flat.tabW 32 kz
noncomputable def G0 : Flat.Glob := fun g => if g = 3 then some (Flat.Zag Flat.w32 64 kk) else if g = 1 then some (Flat.Zag Flat.u8N 64 Flat.dbF) else if g = 2 then some (Flat.Zag Flat.w32 64 kk) else none
theorem hG : G0 3 = some (Flat.Zag Flat.w32 64 kk) := rfl
theorem hG1 : G0 1 = some (Flat.Zag Flat.u8N 64 Flat.dbF) := rfl
theorem hG2 : G0 2 = some (Flat.Zag Flat.w32 64 kk) := rfl
theorem own : ownKnob Tryz.prog.godebug = none := by kernel_rfl
theorem hrel_of_laid {W : World} {l : List (String × DataW Unit)} (hp : (l.all fun x => x.2.handleName?.isNone) = true) (h : laidMetH Tryz.prog l W)
    (h0 : ("estreat/sha.table", Rows.laid_estreat_sha_table) ∈ l) (h1 : ("math/bits.deBruijn64tab", Rows.laid_math_bits_deBruijn64tab) ∈ l) (h2 : ("estreat/estreatref02.consts", Rows.laid_estreat_estreatref02_consts) ∈ l) : Flat.HRel G0 (fun _ => none) [] W := by
  refine Flat.HRel.plain fun g cs hg => ?_
  unfold G0 at hg
  split at hg
  · rename_i e
    subst e
    injection hg with hg
    subst hg
    have r := Flat.Zm1 h hp h0
    rw [show (Rows.laid_estreat_sha_table : DataW Unit) = Lib.tabData .u32 kz from by kernel_rfl] at r
    exact r.tab (g := 3) (t := 169) (e := 135) (c := 64) (by kernel_rfl) (by kernel_rfl) (by kernel_rfl) (by kernel_rfl) (by kernel_rfl) (by kernel_rfl) (by decide +kernel) (by kernel_rfl)
  split at hg
  · rename_i e
    subst e
    injection hg with hg
    subst hg
    have r := Flat.Zm1 h hp h1
    rw [show (Rows.laid_math_bits_deBruijn64tab : DataW Unit) = Lib.tabData .u8 bz from by kernel_rfl] at r
    exact r.tab (g := 1) (t := 168) (e := 5) (c := 64) (by kernel_rfl) (by kernel_rfl) (by kernel_rfl) (by kernel_rfl) (by kernel_rfl) (by kernel_rfl) (by decide +kernel) (by kernel_rfl)
  split at hg
  · rename_i e
    subst e
    injection hg with hg
    subst hg
    have r := Flat.Zm1 h hp h2
    rw [show (Rows.laid_estreat_estreatref02_consts : DataW Unit) = Lib.tabData .u32 kz from by kernel_rfl] at r
    exact r.tab (g := 2) (t := 169) (e := 135) (c := 64) (by kernel_rfl) (by kernel_rfl) (by kernel_rfl) (by kernel_rfl) (by kernel_rfl) (by kernel_rfl) (by decide +kernel) (by kernel_rfl)
  · cases hg
end Go.Proofs.YtfjkagjbanhdlaaGreatDoor
section
namespace Go.Flat

theorem Zgg {n : Nat} (h : 2 ≤ n) : 1 ≤ Zaz n ∧ Zaz n < n := by
 obtain ⟨s1, s2, _⟩ := Zd7 (n := n) h
 exact ⟨s1, s2⟩
theorem Zor {n : Nat} (h : 2 ≤ n) : Zaz n = 2 ^ (n - 1).log2 := by
 unfold Zaz Zdh Zbj
 rw [if_neg (by omega)]
 have hb : ((n : Int) - 1).toNat = n - 1 := by omega
 rw [hb, if_neg (by omega)]
 have : ((2 : Int) ^ ((n - 1).log2 + 1 - 1)) = ((2 ^ (n - 1).log2 : Nat) : Int) := by simp
 rw [this]; rfl
theorem Zo2 {n j : Nat} (h1 : 2 ^ j < n) (h2 : n ≤ 2 * 2 ^ j) : Zaz n = 2 ^ j := by
 have h3 : 0 < 2 ^ j := Nat.pow_pos (by decide)
 rw [Zor (by omega)]
 congr 1
 rw [Nat.log2_eq_iff (by omega)]
 rw [Nat.pow_succ]; omega
def Zhw (kk : Nat → BitVec 32) (ds : List D) : D :=
  if h : ds.length ≤ 1 then (if ds.length = 0 then Zcq kk [] else ds.getD 0 d0)
  else Zgr kk (Zhw kk (ds.take (Zaz ds.length))) (Zhw kk (ds.drop (Zaz ds.length)))
termination_by ds.length
decreasing_by
  · have := Zgg (n := ds.length) (by omega)
    simp; omega
  · have := Zgg (n := ds.length) (by omega)
    simp; omega
theorem Zou (kk : Nat → BitVec 32) {ds : List D} (h : 2 ≤ ds.length) : Zhw kk ds = Zgr kk (Zhw kk (ds.take (Zaz ds.length))) (Zhw kk (ds.drop (Zaz ds.length))) := by
 rw [Zhw, dif_neg (by omega)]
theorem Z2h (kk : Nat → BitVec 32) (d : D) : Zhw kk [d] = d := by
 rw [Zhw, dif_pos (by simp)]; simp
def pk (kk : Nat → BitVec 32) (ds : List D) : List D :=
  if h : ds.length = 0 then [] else Zhw kk (ds.take (big ds.length)) :: pk kk (ds.drop (big ds.length))
termination_by ds.length
decreasing_by
  have := Zld (n := ds.length) (by omega)
  simp; omega
theorem Zom (kk : Nat → BitVec 32) {ds : List D} (h : 0 < ds.length) : pk kk ds = Zhw kk (ds.take (big ds.length)) :: pk kk (ds.drop (big ds.length)) := by
 rw [pk, dif_neg (by omega)]
theorem Zol (kk : Nat → BitVec 32) {ds : List D} (h : ds.length = 0) : pk kk ds = [] := by
 rw [pk, dif_pos h]
theorem Zx9 (kk : Nat → BitVec 32) {P : List D} (a : D) (h : 2 ≤ P.length) : Zix kk (a :: P) = a :: Zix kk P := by
 unfold Zix
 simp only [List.length_cons]
 rw [show P.length + 1 - 2 = (P.length - 2) + 1 from by omega, show P.length + 1 - 1 = (P.length - 1) + 1 from by omega]
 simp
theorem Zj6 (kk : Nat → BitVec 32) {P : List D} (a : D) : ∀ n, n + 1 ≤ P.length → Ze6 kk n (a :: P) = a :: Ze6 kk n P
 | 0, _ => rfl
 | n + 1, h => by
  simp only [Ze6]
  rw [Zj6 kk a n (by omega), Zx9 kk a (by rw [Zjt kk n (by omega)]; omega)]
theorem Zs9 (kk : Nat → BitVec 32) (a b : D) : Zix kk [a, b] = [Zgr kk a b] := by simp [Zix]
theorem pk_add (kk : Nat → BitVec 32) (d : D) : ∀ (n : Nat) (ds : List D), ds.length = n → tz (n + 1) ≤ (pk kk ds).length ∧ Ze6 kk (tz (n + 1)) (pk kk ds ++ [d]) = pk kk (ds ++ [d]) := by
 intro n
 induction n using Nat.strongRecOn with
 | ind n ih =>
  intro ds hn
  rcases Nat.eq_zero_or_pos n with h0 | h0
  ·subst h0
   have : ds = [] := List.eq_nil_of_length_eq_zero hn
   subst this
   rw [Zol kk rfl]
   refine ⟨by decide, ?_⟩
   rw [Zom kk (by simp)]
   simp only [List.nil_append, List.length_cons, List.length_nil]
   rw [show big (0 + 1) = 1 from by decide, show tz (0 + 1) = 0 from by decide]
   simp [Z2h, Zol, Ze6]
  ·obtain ⟨b1, b2, b3⟩ := Zld h0
   have ht := Zzm h0
   obtain ⟨i1, i2⟩ := ih (n - big n) (by omega) (ds.drop (big n)) (by simp [hn])
   have hp : pk kk ds = Zhw kk (ds.take (big n)) :: pk kk (ds.drop (big n)) := by rw [Zom kk (by omega), hn]
   rw [hp]
   by_cases hd : n + 1 = 2 * big n
   ·rw [if_pos hd] at ht
    rw [ht]
    refine ⟨by simp; omega, ?_⟩
    rw [List.cons_append]
    show Zix kk (Ze6 kk _ _) = _
    rw [Zj6 kk _ _ (by simp; omega), i2]
    have hl2 : (ds.drop (big n) ++ [d]).length = big n := by simp [hn]; omega
    have e1 : pk kk (ds.drop (big n) ++ [d]) = [Zhw kk (ds.drop (big n) ++ [d])] := by
     rw [Zom kk (by simp)]
     have hb : big (ds.drop (big n) ++ [d]).length = (ds.drop (big n) ++ [d]).length := by
      rw [hl2]; unfold big; rw [Nat.log2_two_pow]
     rw [hb, List.take_length, List.drop_length, Zol kk rfl]
    rw [e1, Zs9, Zom kk (by simp)]
    have hlen : (ds ++ [d]).length = n + 1 := by simp [hn]
    rw [hlen, Zz7 h0 hd, ← hlen, List.take_length, List.drop_length, Zol kk rfl, Zou kk (ds := ds ++ [d]) (by omega), hlen]
    have hs : Zaz (n + 1) = big n := Zo2 (by unfold big at *; omega) (by unfold big at *; omega)
    rw [hs, List.take_append_of_le_length (by omega), List.drop_append_of_le_length (by omega)]
   ·rw [if_neg hd] at ht
    simp only [Nat.add_zero] at ht
    rw [ht]
    refine ⟨by simp; omega, ?_⟩
    rw [List.cons_append, Zj6 kk _ _ (by simp; omega), i2, Zom kk (ds := ds ++ [d]) (by simp)]
    have hlen : (ds ++ [d]).length = n + 1 := by simp [hn]
    rw [hlen, Zz4 h0 (by omega), List.take_append_of_le_length (by omega), List.drop_append_of_le_length (by omega)]
theorem Z0f (kk : Nat → BitVec 32) (ds : List D) : ∀ i, i ≤ ds.length → Zle kk ds i = pk kk (ds.take i)
 | 0, _ => by rw [Zol kk (by simp)]; rfl
 | i + 1, h => by
  simp only [Zle]
  rw [Z0f kk ds i (by omega), (pk_add kk (ds.getD i d0) i (ds.take i) (by simp; omega)).2]
  congr 1
  rw [List.take_add_one]
  congr 1
  simp [List.getD_eq_getElem?_getD, show i < ds.length from by omega]
theorem Z5x (kk : Nat → BitVec 32) : ∀ (n : Nat) (ds : List D), ds.length = n → 0 < n → 1 ≤ (pk kk ds).length ∧ Ze6 kk ((pk kk ds).length - 1) (pk kk ds) = [Zhw kk ds] := by
 intro n
 induction n using Nat.strongRecOn with
 | ind n ih =>
  intro ds hn h0
  obtain ⟨b1, b2, b3⟩ := Zld h0
  have hp : pk kk ds = Zhw kk (ds.take (big n)) :: pk kk (ds.drop (big n)) := by rw [Zom kk (by omega), hn]
  rw [hp]
  refine ⟨by simp, ?_⟩
  rcases Nat.eq_or_lt_of_le b1 with he | hlt
  ·rw [Zol kk (ds := ds.drop (big n)) (by simp; omega), List.take_of_length_le (by omega)]; rfl
  ·obtain ⟨i1, i2⟩ := ih (n - big n) (by omega) (ds.drop (big n)) (by simp [hn]) (by omega)
   simp only [List.length_cons, Nat.add_sub_cancel]
   obtain ⟨m, hm⟩ : ∃ m, (pk kk (ds.drop (big n))).length = m + 1 := ⟨_, (Nat.sub_add_cancel i1).symm⟩
   rw [hm] at i2 ⊢
   show Zix kk (Ze6 kk m _) = _
   rw [Zj6 kk _ m (by omega)]
   rw [Nat.add_sub_cancel] at i2
   rw [i2, Zs9, Zou kk (ds := ds) (by omega), hn]
   have hs : Zaz n = big n := Zo2 (by unfold big at *; omega) (by unfold big at *; omega)
   rw [hs]
theorem Zq2 (kk : Nat → BitVec 32) (ds : List D) : Zby kk ds = Zhw kk ds := by
 unfold Zby
 split
 ·rename_i h0
  rw [Zhw, dif_pos (by omega), if_pos h0]
 ·rename_i h0
  have hp := Z0f kk ds ds.length (Nat.le_refl _)
  rw [List.take_length] at hp
  have hl := Zlv kk ds ds.length
  rw [← hl, hp, (Z5x kk ds.length ds rfl (by omega)).2]
  rfl
theorem Zs5 (kk : Nat → BitVec 32) {ds : List D} (h : 2 ≤ ds.length) : Zby kk ds = Zgr kk (Zby kk (ds.take (Zaz ds.length))) (Zby kk (ds.drop (Zaz ds.length))) := by
 rw [Zq2, Zou kk h, Zq2, Zq2]
end Go.Flat
end
section
namespace Go.Flat
open Go.Proofs
variable {G : Glob}

def consP (kk : Nat → BitVec 32) (l : List D) (m : Nat) : List D := (Z0w kk l.length l m true []).reverse
theorem Zwm {n t : Nat} (h : 2 ≤ n) (ht : n ≤ 2 ^ (t + 1)) : Zaz n ≤ 2 ^ t ∧ n - Zaz n ≤ 2 ^ t ∧ n ≤ 2 * Zaz n := by
 have e := Zor h
 have h1 := Nat.log2_self_le (n := n - 1) (by omega)
 have h2 := Nat.lt_log2_self (n := n - 1)
 rw [Nat.pow_succ, ← e] at h2
 rw [← e] at h1
 have h3 : Zaz n ≤ 2 ^ t := by
  rw [e]
  refine Nat.pow_le_pow_right (by decide) ?_
  have : 2 ^ (n - 1).log2 < 2 ^ (t + 1) := by rw [← e]; omega
  have := (Nat.pow_lt_pow_iff_right (a := 2) (by decide)).1 this
  omega
 omega
theorem Zk9 (kk : Nat → BitVec 32) : ∀ (t : Nat) (l : List D) (i : Nat), l.length ≤ 2 ^ t → (Zcp kk l i).length ≤ t
 | 0, l, i, h => by rw [Zh7 kk i (by simpa using h)]; exact Nat.le_refl _
 | t + 1, l, i, h => by
  by_cases h2 : 2 ≤ l.length
  ·obtain ⟨k1, k2, _⟩ := Zwm h2 h
   by_cases hi : i < Zaz l.length
   ·rw [Zm5 kk h2 hi, List.length_append]
    have := Zk9 kk t (l.take (Zaz l.length)) i (by simp; omega)
    simp at this ⊢; omega
   ·rw [Zng kk h2 (by omega), List.length_append]
    have := Zk9 kk t (l.drop (Zaz l.length)) (i - Zaz l.length) (by simp; omega)
    simp at this ⊢; omega
  ·rw [Zh7 kk i (by omega)]; simp
end Go.Flat
end
section
namespace Go.Flat
open Go.Proofs
variable {G : Glob}
theorem Z41 {H : List Blk} {b n : Nat} {B : Blk} {ds : List D} {c : Nat} (hb : H[b]? = some B) (hc : B.cells = dsC ds) (hn : ds.length = n) : Zgh H 32 (slv b 0 n c) = some (n, dsC ds) := by
 subst hn; exact Z6t ds c hb hc
theorem Z6b {P : Program} {H : List Blk} {t : TypeId} {q : Value} {nid n by_ : Nat} {zc : List Value} {ds : List D} (ht : Zdo P t = some (32, zc, by_)) (hz : (zc.length == 32 && zc.all Zhh) = true) (hs : Zgh H 32 q = some (n, dsC ds)) (hby : 0 < by_) (hm : n * by_ ≤ 140737488355328) (hf : Zd3 H nid = true) :
  Zt6 P H t Zuw q nid = some (slv nid 0 n n, dsB ds) := by
 rw [Bool.and_eq_true, beq_iff_eq] at hz
 unfold Zt6
 rw [ht]
 simp only [hs, Option.bind_some]
 rw [if_pos ⟨trivial, trivial, hz.1, by rw [hz.2]; exact Zw4 ds, by decide, hby, hm, hf⟩, hz.2]
 rfl
theorem Z6j {P : Program} {H : List Blk} {t : TypeId} {q : Value} {b c n k n' by_ : Nat} {zc : List Value} {ls ms : List D} (ht : Zdo P t = some (32, zc, by_)) (hz : zc.length = 32) (hs : Zgh H 32 q = some (k, dsC ms)) (hb : H[b]? = some (dsB ls)) (hn : ls.length = n) (hk : n + k = n') (hby : 0 < by_) (hm : n' * by_ ≤ 140737488355328) :
  Zpv P H t (slv b 0 n c) q = some (slv b 0 n' n', b, dsB (ls ++ ms)) := by
 have hc : (dsB ls).cells.length = n * 32 := by show (dsC ls).length = _; rw [Zb8, hn]
 rw [Zey (n' := n') (p := (k, dsC ms)) ht hs hb rfl rfl hz (Zw4 ms) (by rw [hc]; omega) hby hk hm]
 have : List.take (n * 32) (List.drop 0 (dsB ls).cells) ++ dsC ms = dsC (ls ++ ms) := by
  rw [List.drop_zero, List.take_of_length_le (by rw [hc]; exact Nat.le_refl _), Zis]; rfl
 simp only [this]
 rfl
end Go.Flat
end
section
namespace Go.Proofs.YtfjkagjbanhdlaaGreatDoor
open Go.ChangeShapes Go.WideShapes Go.ChangeAt Go.RowKit
end Go.Proofs.YtfjkagjbanhdlaaGreatDoor
end
