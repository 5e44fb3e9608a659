/- Walks. -/
import Derived.Test.YtfjkagjbanhdlaaDoorFlatC
import Derived.Carry
import Derived.ReadAgain
import Derived.Test.YtfjkagjbanhdlaaDoorSha
import Derived.Test.YtfjkagjbanhdlaaDoorTie
import Derived.Test.YtfjkagjbanhdlaaDoorCards
import Derived.ProofKit
import Derived.OpenShut
import Derived.LaidMore
import Derived.Lay
import Derived.SevenTiedAt
set_option linter.unusedVariables false
set_option linter.unusedSimpArgs false
set_option maxRecDepth 20000
section
/- A law's row, out of its contract: whatever the arguments, as long as what was there is not written. -/
namespace Go.Flat
open Go.ChangeShapes Go.WideShapes Go.RowKit
section
variable {H : Type} {enc : TypeId × Value → H} {P : Program} {m m' : MapM} {W W' : World}
theorem Zli (hl : laidOutB P = true) {sp : Nat → Bool} (hk : ∀ g, g < W.heap.size → W'.heap[g]? = W.heap[g]?) : ∀ {ts : List TypeId} {vs : List Value} {ds : List (DataW H)} {ps : List MemPlace}, (ts.all fun t => P.readableRec t && decide (t < P.types.size)) = true →
  DataW.TrodAll enc P W 0 (fun _ => true) true ts vs ds ps → (∀ p ∈ ps, p.block < W.heap.size) → (∀ p ∈ ps, sp p.block = true) → DataW.TrodAll enc P W' 0 sp true ts vs ds ps
 | [], [], [], _, _, h, _, _ => h
 | t :: ts, v :: vs, d :: ds, ps, ht, ⟨p, q, h1, h2, e⟩, hlt, hs => by
  rw [List.all_cons, Bool.and_eq_true, Bool.and_eq_true] at ht
  refine ⟨p, q, WideElems.Trod_stays hl ht.1.1 (of_decide_eq_true ht.1.2) h1 (fun x hx => ?_) (fun x hx => hs x (by rw [e]; exact List.mem_append_left _ hx)), Zli hl hk ht.2 h2 (fun x hx => hlt x (by rw [e]; exact List.mem_append_right _ hx)) (fun x hx => hs x (by rw [e]; exact List.mem_append_right _ hx)), e⟩
  have := hk x.block (hlt x (by rw [e]; exact List.mem_append_left _ hx))
  unfold World.sameAt
  cases x <;> simp_all [MemPlace.block, World.cell?]
 | [], _ :: _, _, _, _, h, _, _ => h.elim
 | [], [], _ :: _, _, _, h, _, _ => h.elim
 | _ :: _, [], _, _, _, h, _, _ => h.elim
 | _ :: _, _ :: _, [], _, _, h, _, _ => h.elim
theorem Z11 {f : Func} {s : ChangeSpec} {apart fresh handsOn again : Bool} {args : Array Value} {ds gs : List (DataW H)} {before : List MemPlace} {tb : TypeId}
  (hW : DataW.Whole enc P f.params.toList s.vars apart W args.toList ds gs before) (hv : s.vars = []) (hs : s.fn H ds = { results := [.lit (.bool true)], args := ds })
  (hr : f.resultTypes = #[tb]) (hb : P.underlying tb = some .bool) (hl : laidOutB P = true) (ht : (f.params.toList.all fun t => P.readableRec t && decide (t < P.types.size)) = true)
  (hm : ∀ b r, m b = some r → r.wr = false) (hf : Frame ⟨m, W, []⟩ m' W') : s.post enc P f apart fresh handsOn again W args (.bool true) W' := by
 have hlt : ∀ p ∈ before, p.block < W.heap.size := fun p hp => hW.lt p hp
 have hW' := hW
 obtain ⟨p, q, hA, hV, he, _, _⟩ := hW'
 rw [hv] at hV
 obtain ⟨rfl, rfl⟩ := trodVars_none hV
 rw [List.append_nil] at he
 subst he
 have e1 := hs
 refine Zu0 (pa := before) (pv := []) hW (fun _ _ _ => ?_) (fun sp hsp => ?_) (fun sp hsp => ?_) (by simp) (hf.kept hm _) (fun a ha => hf.frozen hm a ha) ?_
 ·rw [List.append_nil, e1, hr]
  exact trodAll_mk1 (shut_bool hb _)
 ·rw [List.append_nil, e1]
  exact Zli hl (fun g hg => hf.same hm hg) ht hA hlt hsp
 ·rw [List.append_nil, e1, hv]; rfl
 ·intro j t r h1 h2
  rw [hr] at h1 h2
  cases j with
  | zero =>
   simp [Value.resultList] at h1 h2
   subst h1; subst h2
   exact okWide_bool_mk hb _
  | succ j => simp at h1
theorem Zzm {f : FuncId} {fn : Func} {G : Glob} {s : ChangeSpec} {apart fresh handsOn again : Bool} {args : Array Value} {ds gs : List (DataW H)} {before : List MemPlace} {tb : TypeId} {σ σ' : List Blk} {argsL : List Value}
  (hW : DataW.Whole enc P fn.params.toList s.vars apart W args.toList ds gs before) (hv : s.vars = []) (hs : s.fn H ds = { results := [.lit (.bool true)], args := ds })
  (hr : fn.resultTypes = #[tb]) (hb : P.underlying tb = some .bool) (hl : laidOutB P = true) (ht : (fn.params.toList.all fun t => P.readableRec t && decide (t < P.types.size)) = true)
  (hm : ∀ b r, m b = some r → r.wr = false) (hrel : HRel G m σ W) (ha : L2 (VR m) argsL args.toList) (hC : Z9 P G f argsL σ (.bool true) σ') :
  Calls P f args W fun e W' => ∃ v, e = .returned v ∧ s.post enc P fn apart fresh handsOn again W args v W' := by
 refine (hC m W args.toList hrel ha).mono ?_
 rintro e w' ⟨v', m', rfl, h1, h2, h3⟩
 have : v' = .bool true := h2
 subst this
 exact ⟨_, rfl, Z11 hW hv hs hr hb hl ht hm h3⟩
end
end Go.Flat
end
section
/- Opening an argument: a slice of arrays of bytes. -/
namespace Go.Flat
open Go.ChangeShapes Go.WideShapes Go.RowKit
section
variable {H : Type} {enc : TypeId × Value → H} {P : Program} {W : World}
theorem Zx9 {a : Addr} {x : Nat} {v : Value} (h : W.cell? (a.add x) = some v) : W.cell? ⟨a.block, a.off + x, none⟩ = some v ∧ a.spot = none ∨ (W.cell? ⟨a.block, a.off + x, none⟩ = some v ∧ 0 < x) := by
 obtain ⟨b, o, s⟩ := a
 unfold Addr.add at h
 split at h
 ·rename_i hx
  subst hx
  cases s with
  | none => exact .inl ⟨h, rfl⟩
  | some q => unfold World.cell? at h; split at h <;> simp at h
 ·exact .inr ⟨h, by omega⟩
theorem Ztt {a : Addr} {x : Nat} {v : Value} (h : W.cell? (a.add x) = some v) : W.cell? ⟨a.block, a.off + x, none⟩ = some v := by
 rcases Zx9 h with h | h
 ·exact h.1
 ·exact h.1
theorem Zpi {a : Addr} {v : Value} (h : W.cell? (a.add 0) = some v) : a.spot = none := by
 rcases Zx9 h with h | h
 ·exact h.2
 ·omega
theorem Zow (a : Addr) (x y : Nat) : (a.add x).add y = a.add (x + y) := by
 obtain ⟨b, o, s⟩ := a
 unfold Addr.add
 by_cases hx : x = 0
 ·subst hx; by_cases hy : y = 0
  ·subst hy; simp
  ·simp [hy]
 ·by_cases hy : y = 0
  ·subst hy; simp [hx]
  ·simp [hx, hy]; omega
def Z7v (W : World) (g o : Nat) : BitVec 8 := match W.cell? ⟨g, o, none⟩ with | some (.int _ z) => BitVec.ofInt 8 z | _ => 0
end
end Go.Flat
end
section
namespace Go.Flat
open Go.Proofs
variable {G : Glob}

theorem Zu9 (P : List D) : ∀ (i : Nat), 2 * i ≤ P.length → ∀ j, j < P.length → (Zj0 P i)[j]? = if j < i ∨ P.length - i ≤ j then P[P.length - 1 - j]? else P[j]?
 | 0, _, j, hj => by simp [Zj0]; omega
 | i + 1, h, j, hj => by
  have ih := Zu9 P i (by omega)
  have hl := Zm9 P i
  have gd : ∀ k, k < P.length → (Zj0 P i)[k]? = some ((Zj0 P i).getD k d0) := fun k hk => by
   rw [List.getD_eq_getElem?_getD, List.getElem?_eq_getElem (by omega)]; rfl
  simp only [Zj0]
  rcases Nat.lt_trichotomy j (P.length - 1 - i) with h1 | h1 | h1
  ·rw [List.getElem?_set_ne (by omega)]
   rcases Nat.lt_trichotomy j i with h2 | h2 | h2
   ·rw [List.getElem?_set_ne (by omega), ih j hj, if_pos (.inl h2), if_pos (.inl (by omega))]
   ·subst h2
    rw [List.getElem?_set_self (by omega), ← gd _ (by omega), ih _ (by omega), if_neg (by omega), if_pos (.inl (by omega))]
   ·rw [List.getElem?_set_ne (by omega), ih j hj, if_neg (by omega), if_neg (by omega)]
  ·subst h1
   rw [List.getElem?_set_self (by rw [List.length_set]; omega), ← gd _ (by omega), ih i (by omega), if_neg (by omega), if_pos (.inr (by omega))]
   congr 1; omega
  ·rw [List.getElem?_set_ne (by omega), List.getElem?_set_ne (by omega), ih j hj, if_pos (.inr (by omega)), if_pos (.inr (by omega))]
theorem Z2t (P : List D) : Zj0 P (P.length / 2) = P.reverse := by
 apply List.ext_getElem?
 intro j
 rcases Nat.lt_or_ge j P.length with h | h
 ·rw [Zu9 P _ (by omega) j h, List.getElem?_reverse h]
  split
  ·rfl
  ·congr 1; omega
 ·rw [List.getElem?_eq_none (by rw [Zm9]; exact h), List.getElem?_eq_none (by simpa using h)]
theorem Zg9 (kk : Nat → BitVec 32) : ∀ (f : Nat) (l : List D) (i : Nat) (dn : List D), Zfr kk f l i dn = dn ++ Zfr kk f l i []
 | 0, l, i, dn => by simp [Zfr]
 | f + 1, l, i, dn => by
  unfold Zfr
  split
  ·simp
  ·dsimp only
   split
   ·rw [Zg9 kk f _ _ (dn ++ _), Zg9 kk f _ _ ([] ++ _)]; simp
   ·rw [Zg9 kk f _ _ (dn ++ _), Zg9 kk f _ _ ([] ++ _)]; simp
theorem Zjh (kk : Nat → BitVec 32) : ∀ (f g : Nat) (l : List D) (i : Nat) (dn : List D), l.length ≤ f + 1 → l.length ≤ g + 1 → Zfr kk f l i dn = Zfr kk g l i dn
  | 0, 0, _, _, _, _, _ => rfl
  | 0, g + 1, l, i, dn, h, _ => by conv => rhs; unfold Zfr
                                   rw [if_pos (by omega)]; rfl
  | f + 1, 0, l, i, dn, _, h => by conv => lhs; unfold Zfr
                                   rw [if_pos (by omega)]; rfl
  | f + 1, g + 1, l, i, dn, h1, h2 => by
    unfold Zfr
    split
    · rfl
    · rename_i hl
      obtain ⟨s1, s2, _⟩ := Zfo (n := l.length) (by omega)
      dsimp only
      split
      · exact Zjh kk f g _ _ _ (by simp; omega) (by simp; omega)
      · exact Zjh kk f g _ _ _ (by simp; omega) (by simp; omega)
def Zdc (kk : Nat → BitVec 32) (l : List D) (i : Nat) : List D := (Zfr kk l.length l i []).reverse
def Zaq (n : Nat) : Nat := (Zd2 n).toNat
theorem Znw (kk : Nat → BitVec 32) {l : List D} (i : Nat) (h : l.length ≤ 1) : Zdc kk l i = [] := by
 unfold Zdc
 cases e : l.length with
 | zero => rfl
 | succ n => unfold Zfr; rw [if_pos h]; rfl
theorem Zuj (kk : Nat → BitVec 32) {l : List D} {i : Nat} (h : 2 ≤ l.length) (hi : i < Zaq l.length) : Zdc kk l i = Zdc kk (l.take (Zaq l.length)) i ++ [Zcf kk (l.drop (Zaq l.length))] := by
 obtain ⟨s1, s2, _⟩ := Zfo (n := l.length) h
 change 1 ≤ Zaq l.length at s1
 change Zaq l.length < l.length at s2
 unfold Zdc
 obtain ⟨f, hf⟩ : ∃ f, l.length = f + 1 := ⟨l.length - 1, by omega⟩
 conv => lhs; rw [hf]; unfold Zfr
 rw [if_neg (by omega)]
 dsimp only
 rw [show (Zd2 (l.length : Int)).toNat = Zaq l.length from rfl, if_pos hi, Zg9, Zjh kk f (l.take (Zaq l.length)).length _ _ _ (by simp; omega) (by omega)]
 simp
theorem Zui (kk : Nat → BitVec 32) {l : List D} {i : Nat} (h : 2 ≤ l.length) (hi : Zaq l.length ≤ i) : Zdc kk l i = Zdc kk (l.drop (Zaq l.length)) (i - Zaq l.length) ++ [Zcf kk (l.take (Zaq l.length))] := by
 obtain ⟨s1, s2, _⟩ := Zfo (n := l.length) h
 change 1 ≤ Zaq l.length at s1
 change Zaq l.length < l.length at s2
 unfold Zdc
 obtain ⟨f, hf⟩ : ∃ f, l.length = f + 1 := ⟨l.length - 1, by omega⟩
 conv => lhs; rw [hf]; unfold Zfr
 rw [if_neg (by omega)]
 dsimp only
 rw [show (Zd2 (l.length : Int)).toNat = Zaq l.length from rfl, if_neg (by omega), Zg9, Zjh kk f (l.drop (Zaq l.length)).length _ _ _ (by simp; omega) (by omega)]
 simp

theorem Z3j (kk : Nat → BitVec 32) (hG : G 0 = some (Z6 w32 64 kk)) (hG1 : G 2 = some (Z6 u8N 64 dbF)) (ds : List D) (c i : Nat) {n q : Nat} (hl : ds.length = n) (hn : n ≤ 1000000) (hc : n ≤ c) (hi : i < n) (hq : (Zdc kk ds i).length = q) :
  Z9 Tryd.prog G 46 [slv 0 0 n c, Iv (i : Nat)] [dsR ds] (.tuple #[slv 1 0 q q, Iv 0]) [dsR ds, dsB (Zdc kk ds i)] := by
 subst hl; subst hq
 have h := Zr8 (G := G) kk hG hG1 ds c i hn hc hi
 dsimp only at h
 rw [Z2t] at h
 unfold Zdc
 rw [List.length_reverse]
 exact h
theorem Z0q (kk : Nat → BitVec 32) (hG : G 0 = some (Z6 w32 64 kk)) (hG1 : G 2 = some (Z6 u8N 64 dbF)) (ds : List D) {c n : Nat} {x : D} (hl : ds.length = n) (hn : n ≤ 1000000) (hc : n ≤ c) (hx : Zcf kk ds = x) :
  Z9 Tryd.prog G 40 [slv 0 0 n c] [dsR ds] (dgV x) [dsR ds] := by
 subst hl; subst hx
 exact Zsd (G := G) kk hG hG1 ds c hn hc
theorem Zmc {H : List Blk} {e : Emb} {id o m j : Nat} {ds : List D} {B : Blk} (hB : H[id]? = some B) (hb : B = dsR ds ∨ B = dsB ds) (h : o + m ≤ ds.length) (hj : j = o * 32) : Zdp H e (some (id, j)) (dsR (sub ds o m)) := by
  subst hj
  have hc : B.cells = dsC ds := by rcases hb with rfl | rfl <;> rfl
  refine Zdh hB (by rcases hb with rfl | rfl <;> rfl) ?_ ?_
  · show _ + (dsC _).length ≤ _
    rw [hc, Zb7, Zb7, Zdr h]; omega
  · show (B.cells.drop _).take (dsC _).length = dsC _
    rw [hc, Zb7, Zdr h]
    exact Zso h
end Go.Flat
end
section
namespace Go.Flat
open Go.Proofs
section
variable {H : Type} {enc : TypeId × Value → H} {P : Program} {W : World} {G : Glob} {m : MapM} {σ : List Blk}
def dsOf (n : Nat) (f : Nat → BitVec 8) : List D := (List.range n).map fun i j => f (i * 32 + j)
end
end Go.Flat
end
namespace Go.Proofs.YtfjkagjbanhdlaaDoor
open Go.ChangeShapes Go.WideShapes Go.ChangeAt Go.RowKit
def ints (l : List (DataW Unit)) : List Int := l.map fun | .lit (.int _ z) => z | _ => 0
def parts : DataW Unit → List (DataW Unit) | .agg l => l | _ => []
noncomputable def kz : List Int := ints (parts Rows.laid_estreat_sha_table)
noncomputable def bz : List Int := ints (parts Rows.laid_math_bits_deBruijn64tab)
noncomputable def kk : Nat → BitVec 32 := Flat.tabW 32 kz
noncomputable def G0 : Flat.Glob := fun g => if g = 0 then some (Flat.Z6 Flat.w32 64 kk) else if g = 2 then some (Flat.Z6 Flat.u8N 64 Flat.dbF) else none
theorem hG : G0 0 = some (Flat.Z6 Flat.w32 64 kk) := rfl
theorem hG1 : G0 2 = some (Flat.Z6 Flat.u8N 64 Flat.dbF) := rfl
theorem own : ownKnob Tryd.prog.godebug = none := by kernel_rfl
theorem hrel_of_laid {W : World} {l : List (String × DataW Unit)} (hp : (l.all fun x => x.2.handleName?.isNone) = true) (h : laidMetH Tryd.prog l W)
    (h0 : ("estreat/sha.table", Rows.laid_estreat_sha_table) ∈ l) (h1 : ("math/bits.deBruijn64tab", Rows.laid_math_bits_deBruijn64tab) ∈ l) : Flat.HRel G0 (fun _ => none) [] W := by
  refine Flat.HRel.plain fun g cs hg => ?_
  unfold G0 at hg
  split at hg
  · rename_i e
    subst e
    injection hg with hg
    subst hg
    have r := Flat.Zpy h hp h0
    rw [show (Rows.laid_estreat_sha_table : DataW Unit) = Lib.tabData .u32 kz from by kernel_rfl] at r
    exact r.tab (g := 0) (t := 146) (e := 90) (c := 64) (by kernel_rfl) (by kernel_rfl) (by kernel_rfl) (by kernel_rfl) (by kernel_rfl) (by kernel_rfl) (by decide +kernel) (by kernel_rfl)
  split at hg
  · rename_i e
    subst e
    injection hg with hg
    subst hg
    have r := Flat.Zpy h hp h1
    rw [show (Rows.laid_math_bits_deBruijn64tab : DataW Unit) = Lib.tabData .u8 bz from by kernel_rfl] at r
    exact r.tab (g := 2) (t := 138) (e := 5) (c := 64) (by kernel_rfl) (by kernel_rfl) (by kernel_rfl) (by kernel_rfl) (by kernel_rfl) (by kernel_rfl) (by decide +kernel) (by kernel_rfl)
  · cases hg
end Go.Proofs.YtfjkagjbanhdlaaDoor
section
namespace Go.Flat

theorem Zfp {n : Nat} (h : 2 ≤ n) : 1 ≤ Zaq n ∧ Zaq n < n := by
 obtain ⟨s1, s2, _⟩ := Zfo (n := n) h
 exact ⟨s1, s2⟩
theorem Zob {n : Nat} (h : 2 ≤ n) : Zaq n = 2 ^ (n - 1).log2 := by
 unfold Zaq Zd2 Za4
 rw [if_neg (by omega)]
 have hb : ((n : Int) - 1).toNat = n - 1 := by omega
 rw [hb, if_neg (by omega)]
 have : ((2 : Int) ^ ((n - 1).log2 + 1 - 1)) = ((2 ^ (n - 1).log2 : Nat) : Int) := by simp
 rw [this]; rfl
theorem Zry {n j : Nat} (h1 : 2 ^ j < n) (h2 : n ≤ 2 * 2 ^ j) : Zaq n = 2 ^ j := by
 have h3 : 0 < 2 ^ j := Nat.pow_pos (by decide)
 rw [Zob (by omega)]
 congr 1
 rw [Nat.log2_eq_iff (by omega)]
 rw [Nat.pow_succ]; omega
def Zg0 (kk : Nat → BitVec 32) (ds : List D) : D :=
  if h : ds.length ≤ 1 then (if ds.length = 0 then Zcx kk [] else ds.getD 0 d0)
  else Zf6 kk (Zg0 kk (ds.take (Zaq ds.length))) (Zg0 kk (ds.drop (Zaq ds.length)))
termination_by ds.length
decreasing_by
  · have := Zfp (n := ds.length) (by omega)
    simp; omega
  · have := Zfp (n := ds.length) (by omega)
    simp; omega
theorem Zn8 (kk : Nat → BitVec 32) {ds : List D} (h : 2 ≤ ds.length) : Zg0 kk ds = Zf6 kk (Zg0 kk (ds.take (Zaq ds.length))) (Zg0 kk (ds.drop (Zaq ds.length))) := by
 rw [Zg0, dif_neg (by omega)]
theorem Zzz (kk : Nat → BitVec 32) (d : D) : Zg0 kk [d] = d := by
 rw [Zg0, dif_pos (by simp)]; simp
def pk (kk : Nat → BitVec 32) (ds : List D) : List D :=
  if h : ds.length = 0 then [] else Zg0 kk (ds.take (big ds.length)) :: pk kk (ds.drop (big ds.length))
termination_by ds.length
decreasing_by
  have := Zj3 (n := ds.length) (by omega)
  simp; omega
theorem Zn5 (kk : Nat → BitVec 32) {ds : List D} (h : 0 < ds.length) : pk kk ds = Zg0 kk (ds.take (big ds.length)) :: pk kk (ds.drop (big ds.length)) := by
 rw [pk, dif_neg (by omega)]
theorem Zn4 (kk : Nat → BitVec 32) {ds : List D} (h : ds.length = 0) : pk kk ds = [] := by
 rw [pk, dif_pos h]
theorem Zww (kk : Nat → BitVec 32) {P : List D} (a : D) (h : 2 ≤ P.length) : Zh8 kk (a :: P) = a :: Zh8 kk P := by
 unfold Zh8
 simp only [List.length_cons]
 rw [show P.length + 1 - 2 = (P.length - 2) + 1 from by omega, show P.length + 1 - 1 = (P.length - 1) + 1 from by omega]
 simp
theorem Zjj (kk : Nat → BitVec 32) {P : List D} (a : D) : ∀ n, n + 1 ≤ P.length → Zec kk n (a :: P) = a :: Zec kk n P
 | 0, _ => rfl
 | n + 1, h => by
  simp only [Zec]
  rw [Zjj kk a n (by omega), Zww kk a (by rw [Ziv kk n (by omega)]; omega)]
theorem Zro (kk : Nat → BitVec 32) (a b : D) : Zh8 kk [a, b] = [Zf6 kk a b] := by simp [Zh8]
theorem Z6d (kk : Nat → BitVec 32) (d : D) : ∀ (n : Nat) (ds : List D), ds.length = n → tz (n + 1) ≤ (pk kk ds).length ∧ Zec kk (tz (n + 1)) (pk kk ds ++ [d]) = pk kk (ds ++ [d]) := by
 intro n
 induction n using Nat.strongRecOn with
 | ind n ih =>
  intro ds hn
  rcases Nat.eq_zero_or_pos n with h0 | h0
  ·subst h0
   have : ds = [] := List.eq_nil_of_length_eq_zero hn
   subst this
   rw [Zn4 kk rfl]
   refine ⟨by decide, ?_⟩
   rw [Zn5 kk (by simp)]
   simp only [List.nil_append, List.length_cons, List.length_nil]
   rw [show big (0 + 1) = 1 from by decide, show tz (0 + 1) = 0 from by decide]
   simp [Zzz, Zn4, Zec]
  ·obtain ⟨b1, b2, b3⟩ := Zj3 h0
   have ht := Zy0 h0
   obtain ⟨i1, i2⟩ := ih (n - big n) (by omega) (ds.drop (big n)) (by simp [hn])
   have hp : pk kk ds = Zg0 kk (ds.take (big n)) :: pk kk (ds.drop (big n)) := by rw [Zn5 kk (by omega), hn]
   rw [hp]
   by_cases hd : n + 1 = 2 * big n
   ·rw [if_pos hd] at ht
    rw [ht]
    refine ⟨by simp; omega, ?_⟩
    rw [List.cons_append]
    show Zh8 kk (Zec kk _ _) = _
    rw [Zjj kk _ _ (by simp; omega), i2]
    have hl2 : (ds.drop (big n) ++ [d]).length = big n := by simp [hn]; omega
    have e1 : pk kk (ds.drop (big n) ++ [d]) = [Zg0 kk (ds.drop (big n) ++ [d])] := by
     rw [Zn5 kk (by simp)]
     have hb : big (ds.drop (big n) ++ [d]).length = (ds.drop (big n) ++ [d]).length := by
      rw [hl2]; unfold big; rw [Nat.log2_two_pow]
     rw [hb, List.take_length, List.drop_length, Zn4 kk rfl]
    rw [e1, Zro, Zn5 kk (by simp)]
    have hlen : (ds ++ [d]).length = n + 1 := by simp [hn]
    rw [hlen, Zx2 h0 hd, ← hlen, List.take_length, List.drop_length, Zn4 kk rfl, Zn8 kk (ds := ds ++ [d]) (by omega), hlen]
    have hs : Zaq (n + 1) = big n := Zry (by unfold big at *; omega) (by unfold big at *; omega)
    rw [hs, List.take_append_of_le_length (by omega), List.drop_append_of_le_length (by omega)]
   ·rw [if_neg hd] at ht
    simp only [Nat.add_zero] at ht
    rw [ht]
    refine ⟨by simp; omega, ?_⟩
    rw [List.cons_append, Zjj kk _ _ (by simp; omega), i2, Zn5 kk (ds := ds ++ [d]) (by simp)]
    have hlen : (ds ++ [d]).length = n + 1 := by simp [hn]
    rw [hlen, Zx1 h0 (by omega), List.take_append_of_le_length (by omega), List.drop_append_of_le_length (by omega)]
theorem Zyu (kk : Nat → BitVec 32) (ds : List D) : ∀ i, i ≤ ds.length → Zkh kk ds i = pk kk (ds.take i)
 | 0, _ => by rw [Zn4 kk (by simp)]; rfl
 | i + 1, h => by
  simp only [Zkh]
  rw [Zyu kk ds i (by omega), (Z6d kk (ds.getD i d0) i (ds.take i) (by simp; omega)).2]
  congr 1
  rw [List.take_add_one]
  congr 1
  simp [List.getD_eq_getElem?_getD, show i < ds.length from by omega]
theorem Z4r (kk : Nat → BitVec 32) : ∀ (n : Nat) (ds : List D), ds.length = n → 0 < n → 1 ≤ (pk kk ds).length ∧ Zec kk ((pk kk ds).length - 1) (pk kk ds) = [Zg0 kk ds] := by
 intro n
 induction n using Nat.strongRecOn with
 | ind n ih =>
  intro ds hn h0
  obtain ⟨b1, b2, b3⟩ := Zj3 h0
  have hp : pk kk ds = Zg0 kk (ds.take (big n)) :: pk kk (ds.drop (big n)) := by rw [Zn5 kk (by omega), hn]
  rw [hp]
  refine ⟨by simp, ?_⟩
  rcases Nat.eq_or_lt_of_le b1 with he | hlt
  ·rw [Zn4 kk (ds := ds.drop (big n)) (by simp; omega), List.take_of_length_le (by omega)]; rfl
  ·obtain ⟨i1, i2⟩ := ih (n - big n) (by omega) (ds.drop (big n)) (by simp [hn]) (by omega)
   simp only [List.length_cons, Nat.add_sub_cancel]
   obtain ⟨m, hm⟩ : ∃ m, (pk kk (ds.drop (big n))).length = m + 1 := ⟨_, (Nat.sub_add_cancel i1).symm⟩
   rw [hm] at i2 ⊢
   show Zh8 kk (Zec kk m _) = _
   rw [Zjj kk _ m (by omega)]
   rw [Nat.add_sub_cancel] at i2
   rw [i2, Zro, Zn8 kk (ds := ds) (by omega), hn]
   have hs : Zaq n = big n := Zry (by unfold big at *; omega) (by unfold big at *; omega)
   rw [hs]
theorem Zqh (kk : Nat → BitVec 32) (ds : List D) : Zcf kk ds = Zg0 kk ds := by
 unfold Zcf
 split
 ·rename_i h0
  rw [Zg0, dif_pos (by omega), if_pos h0]
 ·rename_i h0
  have hp := Zyu kk ds ds.length (Nat.le_refl _)
  rw [List.take_length] at hp
  have hl := Zk4 kk ds ds.length
  rw [← hl, hp, (Z4r kk ds.length ds rfl (by omega)).2]
  rfl
theorem Zzy (kk : Nat → BitVec 32) {ds : List D} (h : 2 ≤ ds.length) : Zcf kk ds = Zf6 kk (Zcf kk (ds.take (Zaq ds.length))) (Zcf kk (ds.drop (Zaq ds.length))) := by
 rw [Zqh, Zn8 kk h, Zqh, Zqh]
end Go.Flat
end
section
namespace Go.Flat
open Go.Proofs
variable {G : Glob}

def Z6w (kk : Nat → BitVec 32) (l : List D) (m : Nat) : List D := (Zya kk l.length l m true []).reverse
theorem Zvj {n t : Nat} (h : 2 ≤ n) (ht : n ≤ 2 ^ (t + 1)) : Zaq n ≤ 2 ^ t ∧ n - Zaq n ≤ 2 ^ t ∧ n ≤ 2 * Zaq n := by
 have e := Zob h
 have h1 := Nat.log2_self_le (n := n - 1) (by omega)
 have h2 := Nat.lt_log2_self (n := n - 1)
 rw [Nat.pow_succ, ← e] at h2
 rw [← e] at h1
 have h3 : Zaq n ≤ 2 ^ t := by
  rw [e]
  refine Nat.pow_le_pow_right (by decide) ?_
  have : 2 ^ (n - 1).log2 < 2 ^ (t + 1) := by rw [← e]; omega
  have := (Nat.pow_lt_pow_iff_right (a := 2) (by decide)).1 this
  omega
 omega
theorem Zj8 (kk : Nat → BitVec 32) : ∀ (t : Nat) (l : List D) (i : Nat), l.length ≤ 2 ^ t → (Zdc kk l i).length ≤ t
 | 0, l, i, h => by rw [Znw kk i (by simpa using h)]; exact Nat.le_refl _
 | t + 1, l, i, h => by
  by_cases h2 : 2 ≤ l.length
  ·obtain ⟨k1, k2, _⟩ := Zvj h2 h
   by_cases hi : i < Zaq l.length
   ·rw [Zuj kk h2 hi, List.length_append]
    have := Zj8 kk t (l.take (Zaq l.length)) i (by simp; omega)
    simp at this ⊢; omega
   ·rw [Zui kk h2 (by omega), List.length_append]
    have := Zj8 kk t (l.drop (Zaq l.length)) (i - Zaq l.length) (by simp; omega)
    simp at this ⊢; omega
  ·rw [Znw kk i (by omega)]; simp
end Go.Flat
end
section
namespace Go.Flat
open Go.Proofs
variable {G : Glob}
end Go.Flat
end
section
namespace Go.Proofs.YtfjkagjbanhdlaaDoor
open Go.ChangeShapes Go.WideShapes Go.ChangeAt Go.RowKit
end Go.Proofs.YtfjkagjbanhdlaaDoor
end
section
namespace Go.Flat
open Go.Proofs
variable {G : Glob}
def Zko (x : BitVec 32) (n : Nat) : BitVec 32 := x >>> n ||| x <<< (32 - n)
def wB64 (w : Nat → BitVec 32) : Blk := { cells := Z6 w32 64 w, sz := 64, wr := true, fix := true, mv := false, pur := true }
def inR (b : Nat → BitVec 8) : Nat → Nat → BitVec 32
  | 0 => fun _ => 0
  | k + 1 => Zhx (inR b k) (k / 4) (inR b k (k / 4) * BitVec.ofInt 32 256 + (b k).setWidth 32)
def refW (w : Nat → BitVec 32) (t : Nat) : BitVec 32 := w (t - 16) + w (t - 7) + (Zko (w (t - 15)) 7 ^^^ Zko (w (t - 15)) 18 ^^^ w (t - 15) >>> 3) + (Zko (w (t - 2)) 17 ^^^ Zko (w (t - 2)) 19 ^^^ w (t - 2) >>> 10)
def Z4x (b : Nat → BitVec 8) : Nat → Nat → BitVec 32
  | 0 => inR b 64
  | k + 1 => Zhx (Z4x b k) (16 + k) (refW (Z4x b k) (16 + k))
end Go.Flat
end
section
namespace Go.Flat
open Go.Proofs
variable {G : Glob}
def refP (k : BitVec 32) (v w : Nat → BitVec 32) (t : Nat) : BitVec 32 := v 7 + (Zko (v 4) 6 ^^^ Zko (v 4) 11 ^^^ Zko (v 4) 25) + ((v 4 &&& v 5) ^^^ (~~~(v 4) &&& v 6)) + k + w t
def refQ (v : Nat → BitVec 32) : BitVec 32 := (Zko (v 0) 2 ^^^ Zko (v 0) 13 ^^^ Zko (v 0) 22) + ((v 0 &&& v 1) ^^^ (v 0 &&& v 2) ^^^ (v 1 &&& v 2))
def Z4t (kk : Nat → BitVec 32) (v w : Nat → BitVec 32) : Nat → Nat → BitVec 32
  | 0 => v
  | t + 1 => Z5l (refP (kk t) (Z4t kk v w t) w t) (refQ (Z4t kk v w t)) (Z4t kk v w t)
def refB (kk : Nat → BitVec 32) (v : Nat → BitVec 32) (b : Nat → BitVec 8) : Nat → BitVec 32 := Z0t v (Z4t kk v (Z4x b 48) 64) 8
attribute [local irreducible] Zko
end Go.Flat
end
section
namespace Go.Flat
open Go.Proofs
variable {G : Glob}
theorem Ztm {P : Program} {H : List Blk} {t : TypeId} {q : Value} {b c n k n' by_ : Nat} {zc : List Value} {ls : Bs} {ms : List Value} {ms' : Bs} (ht : Zdf P t = some (1, zc, by_)) (hz : zc.length = 1) (hs : Zhw H 1 q = some (k, ms)) (hms : ms = ms'.map w8) (hb : H[b]? = some (Zar ls)) (hn : ls.length = n) (hk : n + k = n') (hby : 0 < by_) (hm : n' * by_ ≤ 140737488355328) :
  Zpb P H t (slv b 0 n c) q = some (slv b 0 n' n', b, Zar (ls ++ ms')) := by
 subst hms
 have hc : (Zar ls).cells.length = n := by show (ls.map w8).length = _; simp [hn]
 rw [Zeo (n' := n') (p := (k, ms'.map w8)) ht hs hb rfl rfl hz (Zzp ms') (by rw [hc]; omega) hby hk hm]
 have : List.take (n * 1) (List.drop 0 (Zar ls).cells) ++ ms'.map w8 = (ls ++ ms').map w8 := by
  rw [List.drop_zero, List.take_of_length_le (by rw [hc]; omega), List.map_append]; rfl
 simp only [this]
 rfl
end Go.Flat
end
section
namespace Go.Flat
open Go.Proofs
variable {G : Glob}
def Z6p (kk v : Nat → BitVec 32) (l : Bs) : Nat → Nat → BitVec 32
  | 0 => v
  | j + 1 => refB kk (Z6p kk v l j) (Zir l j)
def refS (kk : Nat → BitVec 32) (M : Bs) : Nat → BitVec 8 := Zvc (Z6p kk Zz2 (M ++ Zfu M 8) ((M ++ Zfu M 8).length / 64)) 32
end Go.Flat
end
section
namespace Go.Flat
open Go.Proofs
variable {G : Glob}
theorem Zks {P : Program} {t : TypeId} {x y : Operand} {a b : ByteArray} (h : a.size + b.size ≤ 140737488351232) : Zb0 P .add t x y (.string a) (.string b) = some (.string (a ++ b)) := by
 unfold Zb0
 rw [if_pos (show (Zbl (.string a) && Zbl (.string b)) = true from rfl)]
 have hg : Z3 P (eqGuard .add t x y (.string a) (.string b)) = some () := rfl
 rw [Z7, hg, Option.bind_some]
 have e : binOp .add t (.string a) (.string b) = Op.stringOp .add a b := rfl
 rw [e]
 unfold Op.stringOp
 dsimp only
 rw [if_neg (by show ¬ (((a.size + b.size : Nat) : Int) > 9223372036854775807); omega)]
 rfl
def refKF (kk : Nat → BitVec 32) (a b : Nat → BitVec 8) : Nat → BitVec 8 := refS kk (Zby [Zq0, Zk (dgL a), Zk (dgL b)])
end Go.Flat
end
section
namespace Go.Flat

def wF (b : Nat → BitVec 8) (i : Nat) : BitVec 32 := Z4x b (i - 15) i
end Go.Flat
end
section
namespace Go.Flat
open Go.Proofs
variable {G : Glob}
end Go.Flat
end
section
namespace Go.Flat
open Go.Proofs
variable {G : Glob}
end Go.Flat
end
section
namespace Go.Flat
open Go.Proofs
variable {G : Glob}
def consR (kk : Nat → BitVec 32) (l : List D) (m : Nat) (kn : Bool) : List D := (Zya kk l.length l m kn []).reverse
end Go.Flat
end
