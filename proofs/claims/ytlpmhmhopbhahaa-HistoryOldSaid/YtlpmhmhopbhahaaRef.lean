/- Walks of the reference's sum and tree: they come to what the program's come to. -/
import Derived.Test.YtlpmhmhopbhahaaSha
import Derived.Test.YtlpmhmhopbhahaaFlatC
import Derived.Test.YtlpmhmhopbhahaaLast
section
set_option linter.unusedVariables false
set_option linter.unusedSimpArgs false
set_option maxRecDepth 20000
namespace Go.Flat
open Go.Proofs
variable {G : Glob}
def turnF (x : BitVec 32) (n : Nat) : BitVec 32 := x >>> n ||| x <<< (32 - n)
def wB64 (w : Nat → BitVec 32) : Blk := { cells := rowE w32 64 w, sz := 64, wr := true, fix := true, mv := false, pur := true }
def inR (b : Nat → BitVec 8) : Nat → Nat → BitVec 32
  | 0 => fun _ => 0
  | k + 1 => updN (inR b k) (k / 4) (inR b k (k / 4) * BitVec.ofInt 32 256 + (b k).setWidth 32)
def refW (w : Nat → BitVec 32) (t : Nat) : BitVec 32 := w (t - 16) + w (t - 7) + (turnF (w (t - 15)) 7 ^^^ turnF (w (t - 15)) 18 ^^^ w (t - 15) >>> 3) + (turnF (w (t - 2)) 17 ^^^ turnF (w (t - 2)) 19 ^^^ w (t - 2) >>> 10)
def schR (b : Nat → BitVec 8) : Nat → Nat → BitVec 32
  | 0 => inR b 64
  | k + 1 => updN (schR b k) (16 + k) (refW (schR b k) (16 + k))
end Go.Flat
end
section
set_option linter.unusedVariables false
set_option maxRecDepth 20000
namespace Go.Flat
open Go.Proofs
variable {G : Glob}
def refP (k : BitVec 32) (v w : Nat → BitVec 32) (t : Nat) : BitVec 32 := v 7 + (turnF (v 4) 6 ^^^ turnF (v 4) 11 ^^^ turnF (v 4) 25) + ((v 4 &&& v 5) ^^^ (~~~(v 4) &&& v 6)) + k + w t
def refQ (v : Nat → BitVec 32) : BitVec 32 := (turnF (v 0) 2 ^^^ turnF (v 0) 13 ^^^ turnF (v 0) 22) + ((v 0 &&& v 1) ^^^ (v 0 &&& v 2) ^^^ (v 1 &&& v 2))
def refT (kk : Nat → BitVec 32) (v w : Nat → BitVec 32) : Nat → Nat → BitVec 32
  | 0 => v
  | t + 1 => sha3v (refP (kk t) (refT kk v w t) w t) (refQ (refT kk v w t)) (refT kk v w t)
def refB (kk : Nat → BitVec 32) (v : Nat → BitVec 32) (b : Nat → BitVec 8) : Nat → BitVec 32 := addV v (refT kk v (schR b 48) 64) 8
theorem un_xor32 {P : Program} {x : Int} {a : BitVec 32} (hx : BitVec.ofInt 32 x = a) : unD P .xor (.int .u32 x) = some (.int .u32 ((~~~a).toNat : Int)) := by
  subst hx
  unfold unD
  rw [if_pos (show pureV (.int .u32 x) = true from rfl)]
  have : evalPure P (Op.unary .xor (.int .u32 x)) = some (.int .u32 (IntKind.u32.wrap ((BitVec.ofInt 32 4294967295 ^^^ BitVec.ofInt 32 x).toNat : Int))) := rfl
  rw [this, wrap32, ofI]
  rw [show BitVec.ofInt 32 4294967295 = BitVec.allOnes 32 from by decide, BitVec.allOnes_xor]
  rfl
theorem emb_same {H : List Blk} {e : Emb} {id : Nat} {L B : Blk} (hB : H[id]? = some B) (hf : (decide (0 < L.sz) && decide (0 < B.sz) && L.fix == B.fix && (L.fix || L.sz == B.sz) && (!L.pur || B.pur) && !L.wr) = true) (hc : B.cells = L.cells) (hR : cellsR e L = L.cells) : embOneM H e (some (id, 0)) L :=
  emb_ro hB hf (by rw [hc]; omega) (by rw [hc, hR]; simp)
attribute [local irreducible] turnF
end Go.Flat
end
section
set_option linter.unusedVariables false
set_option maxRecDepth 20000
namespace Go.Flat
open Go.Proofs
variable {G : Glob}
theorem appN_row {P : Program} {H : List Blk} {t : TypeId} {s : ByteArray} {nid by_ : Nat} {zc : List Value} (ht : sliceTyA P t = some (1, zc, by_)) (hz : (zc.length == 1 && zc.all scalC) = true) (hby : 0 < by_) (hm : s.size * by_ ≤ 140737488355328) (hf : freeA H nid = true) :
    appN P H t nilS (.string s) nid = some (slv nid 0 s.size s.size, rowB (bl s)) := by
  rw [Bool.and_eq_true, beq_iff_eq] at hz
  unfold appN
  rw [ht]
  have hs : srcA H 1 (.string s) = some (s.size, bytesV s) := rfl
  simp only [hs, Option.bind_some]
  rw [if_pos ⟨trivial, trivial, hz.1, by rw [hz.2]; exact bytesV_pure s, by decide, hby, hm, hf⟩, hz.2, bytesV_bl]
  rfl
theorem appD_row {P : Program} {H : List Blk} {t : TypeId} {q : Value} {b c n k n' by_ : Nat} {zc : List Value} {ls : Bs} {ms : List Value} {ms' : Bs} (ht : sliceTyA P t = some (1, zc, by_)) (hz : zc.length = 1) (hs : srcA H 1 q = some (k, ms)) (hms : ms = ms'.map w8) (hb : H[b]? = some (rowB ls)) (hn : ls.length = n) (hk : n + k = n') (hby : 0 < by_) (hm : n' * by_ ≤ 140737488355328) :
    appD P H t (slv b 0 n c) q = some (slv b 0 n' n', b, rowB (ls ++ ms')) := by
  subst hms
  have hc : (rowB ls).cells.length = n := by show (ls.map w8).length = _; simp [hn]
  rw [appD_pure (n' := n') (p := (k, ms'.map w8)) ht hs hb rfl rfl hz (mapW_pure ms') (by rw [hc]; omega) hby hk hm]
  have : List.take (n * 1) (List.drop 0 (rowB ls).cells) ++ ms'.map w8 = (ls ++ ms').map w8 := by
    rw [List.drop_zero, List.take_of_length_le (by rw [hc]; omega), List.map_append]; rfl
  simp only [this]
  rfl
theorem padN_zero (r : Nat) (n : BitVec 64) : padN r n 0 = pad0 r := rfl
end Go.Flat
end
section
set_option linter.unusedVariables false
set_option maxRecDepth 20000
namespace Go.Flat
open Go.Proofs
variable {G : Glob}
theorem slice_both {P : Program} {H : List Blk} {t : TypeId} {b o n c : Nat} {k k' : IntKind} {l h sz j m c' : Nat} {e : TypeId} {i : TypeInfo} {x y : Int} (hu : P.underlying t = some (.slice e)) (hi : P.info? e = some i) (hz : i.size = sz) (hx : x = (l : Int)) (hy : y = (h : Int)) (hl : l ≤ h) (hh : h ≤ c) (ho : slcOK H b i.size = true) (hj : o + l * sz = j) (hm : h - l = m) (hc' : c - l = c') :
    sliceD P H t (slv b o n c) (some (.int k x)) (some (.int k' y)) = some (slv b j m c') := by
  subst hx; subst hy; subst hz; subst hm; subst hc'
  unfold sliceD
  rw [hu]
  simp only [boundsA, intA, Option.bind_some]
  rw [if_pos ⟨by omega, by omega⟩]
  simp [hi, ho, hj, hl]
def absR (kk v : Nat → BitVec 32) (l : Bs) : Nat → Nat → BitVec 32
  | 0 => v
  | j + 1 => refB kk (absR kk v l j) (blk64 l j)
def refS (kk : Nat → BitVec 32) (M : Bs) : Nat → BitVec 8 := shaDs (absR kk shaI (M ++ padM M 8) ((M ++ padM M 8).length / 64)) 32
end Go.Flat
end
section
set_option linter.unusedVariables false
set_option maxRecDepth 20000
namespace Go.Flat
open Go.Proofs
variable {G : Glob}
theorem bin_cat {P : Program} {t : TypeId} {x y : Operand} {a b : ByteArray} (h : a.size + b.size ≤ 140737488351232) : binD P .add t x y (.string a) (.string b) = some (.string (a ++ b)) := by
  unfold binD
  rw [if_pos (show (pureV (.string a) && pureV (.string b)) = true from rfl)]
  have hg : evalPure P (eqGuard .add t x y (.string a) (.string b)) = some () := rfl
  rw [evalPure_bind, hg, Option.bind_some]
  have e : binOp .add t (.string a) (.string b) = Op.stringOp .add a b := rfl
  rw [e]
  unfold Op.stringOp
  dsimp only
  rw [if_neg (by show ¬ (((a.size + b.size : Nat) : Int) > 9223372036854775807); omega)]
  rfl
theorem bl_append (a b : ByteArray) : bl (a ++ b) = bl a ++ bl b := by
  unfold bl
  simp
def refKF (kk : Nat → BitVec 32) (a b : Nat → BitVec 8) : Nat → BitVec 8 := refS kk (msgOf [one1, strOf (dgL a), strOf (dgL b)])
end Go.Flat
end
section
set_option linter.unusedVariables false
set_option maxRecDepth 20000
namespace Go.Flat
/-! ### Plain: the two ways to the sum come to the same -/
theorem rot_turn (x : BitVec 32) {n : Nat} (h0 : 0 < n) (h1 : n < 32) {z : Int} (hz : z = -(n : Int)) : rot x (z % 32).toNat = turnF x n := by
  subst hz
  have e : ((-(n : Int)) % 32).toNat = 32 - n := by omega
  unfold rot turnF
  rw [e, show 32 - (32 - n) = n from by omega, BitVec.or_comm]
theorem chF (x y z : BitVec 32) : z ^^^ (x &&& (y ^^^ z)) = (x &&& y) ^^^ (~~~x &&& z) := by
  apply BitVec.eq_of_getLsbD_eq
  intro i hi
  simp only [BitVec.getLsbD_xor, BitVec.getLsbD_and, BitVec.getLsbD_not, hi, decide_true, Bool.true_and]
  cases x.getLsbD i <;> cases y.getLsbD i <;> cases z.getLsbD i <;> rfl
theorem byteF (x : BitVec 32) (y : BitVec 8) : x <<< 8 ||| y.setWidth 32 = x * BitVec.ofInt 32 256 + y.setWidth 32 := by
  apply BitVec.eq_of_toNat_eq
  rw [BitVec.toNat_or, BitVec.toNat_shiftLeft, BitVec.toNat_setWidth, BitVec.toNat_add, BitVec.toNat_mul, BitVec.toNat_setWidth]
  have hy := y.isLt
  have hx := x.isLt
  have h256 : (BitVec.ofInt 32 256).toNat = 256 := rfl
  rw [h256, Nat.mod_eq_of_lt (show y.toNat < 2 ^ 32 by omega)]
  have e : x.toNat <<< 8 % 2 ^ 32 = (x.toNat % 2 ^ 24) <<< 8 := by
    rw [Nat.shiftLeft_eq, Nat.shiftLeft_eq]; omega
  rw [e, ← Nat.shiftLeft_add_eq_or_of_lt (by omega : y.toNat < 2 ^ 8), Nat.shiftLeft_eq]
  omega
theorem inBs_eq (b : Nat → BitVec 8) : ∀ k, inBs b k = inR b k
  | 0 => rfl
  | k + 1 => by
    simp only [inBs, inR, inB]
    rw [inBs_eq b k, byteF]
def wF (b : Nat → BitVec 8) (i : Nat) : BitVec 32 := schR b (i - 15) i
theorem schR_eq (b : Nat → BitVec 8) : ∀ k i, i < 16 + k → schR b k i = wF b i
  | 0, i, h => by unfold wF; rw [show i - 15 = 0 from by omega]
  | k + 1, i, h => by
    by_cases he : i = 16 + k
    · subst he; unfold wF; rw [show 16 + k - 15 = k + 1 from by omega]
    · have := schR_eq b k i (by omega)
      rw [← this]
      simp only [schR, updN, he, if_false]
theorem wF_step (b : Nat → BitVec 8) (t : Nat) : wF b (t + 16) = refW (wF b) (t + 16) := by
  have e : wF b (t + 16) = refW (schR b t) (16 + t) := by
    unfold wF
    rw [show t + 16 - 15 = t + 1 from by omega]
    simp only [schR, updN]
    rw [if_pos (by omega)]
  rw [e, Nat.add_comm 16 t]
  unfold refW
  rw [schR_eq b t _ (by omega), schR_eq b t _ (by omega), schR_eq b t _ (by omega), schR_eq b t _ (by omega)]
theorem roll (kk v : Nat → BitVec 32) (b : Nat → BitVec 8) : ∀ t j, j < 16 → (shaT kk v (inBs b 64) t).2 ((t + j) % 16) = wF b (t + j)
  | 0, j, h => by
    rw [Nat.zero_add, Nat.mod_eq_of_lt h]
    show inBs b 64 j = _
    rw [inBs_eq]
    exact schR_eq b 0 j (by omega)
  | t + 1, j, h => by
    have ih := roll kk v b t
    simp only [shaT]
    generalize (shaT kk v (inBs b 64) t).2 = w at ih ⊢
    unfold sha3w updN
    by_cases he : (t + 1 + j) % 16 = t % 16
    · rw [if_pos he]
      have hj : j = 15 := by omega
      subst hj
      have h0 := ih 0 (by omega)
      have h1 := ih 1 (by omega)
      have h9 := ih 9 (by omega)
      have h14 := ih 14 (by omega)
      rw [Nat.add_zero] at h0
      rw [show t + 1 + 15 = t + 16 from by omega, wF_step]
      unfold refW three3
      rw [h0, h1, h9, h14, rot_turn _ (n := 7) (by omega) (by omega) (by omega), rot_turn _ (n := 18) (by omega) (by omega) (by omega), rot_turn _ (n := 17) (by omega) (by omega) (by omega), rot_turn _ (n := 19) (by omega) (by omega) (by omega)]
      rw [show t + 16 - 16 = t from by omega, show t + 16 - 7 = t + 9 from by omega, show t + 16 - 15 = t + 1 from by omega, show t + 16 - 2 = t + 14 from by omega]
      simp only [BitVec.add_assoc]
    · rw [if_neg he, show t + 1 + j = t + (j + 1) from by omega]
      exact ih (j + 1) (by omega)
theorem refT_eq (kk v : Nat → BitVec 32) (b : Nat → BitVec 8) : ∀ t, t ≤ 64 → (shaT kk v (inBs b 64) t).1 = refT kk v (schR b 48) t
  | 0, _ => rfl
  | t + 1, h => by
    have ih := refT_eq kk v b t (by omega)
    have hr := roll kk v b t 0 (by omega)
    rw [Nat.add_zero] at hr
    simp only [shaT, refT]
    rw [ih]
    generalize refT kk v (schR b 48) t = V
    have hp : sha3p (kk t) V (shaT kk v (inBs b 64) t).2 t = refP (kk t) V (schR b 48) t := by
      unfold sha3p refP three3
      rw [hr, schR_eq b 48 t (by omega), chF, rot_turn _ (n := 6) (by omega) (by omega) (by omega), rot_turn _ (n := 11) (by omega) (by omega) (by omega), rot_turn _ (n := 25) (by omega) (by omega) (by omega)]
    have hq : sha3q V = refQ V := by
      unfold sha3q refQ three3
      rw [rot_turn _ (n := 2) (by omega) (by omega) (by omega), rot_turn _ (n := 13) (by omega) (by omega) (by omega), rot_turn _ (n := 22) (by omega) (by omega) (by omega)]
    rw [hp, hq]
theorem refB_eq (kk v : Nat → BitVec 32) (b : Nat → BitVec 8) : refB kk v b = rndV kk v b := by
  unfold refB rndV
  rw [refT_eq kk v b 64 (Nat.le_refl _)]
theorem absR_eq (kk v : Nat → BitVec 32) (l : Bs) : ∀ j, absR kk v l j = absN kk v l j
  | 0 => rfl
  | j + 1 => by
    simp only [absR, absN]
    rw [absR_eq kk v l j, refB_eq]
theorem refS_eq (kk : Nat → BitVec 32) (M : Bs) : refS kk M = shaOf kk M := by
  unfold refS shaOf absM
  rw [absR_eq]
theorem refKF_eq (kk : Nat → BitVec 32) (a b : Nat → BitVec 8) : refKF kk a b = knotF kk a b := refS_eq kk _
end Go.Flat
end
section
set_option linter.unusedVariables false
set_option maxRecDepth 20000
namespace Go.Flat
open Go.Proofs
variable {G : Glob}
end Go.Flat
end
section
set_option linter.unusedVariables false
set_option maxRecDepth 20000
namespace Go.Flat
open Go.Proofs
variable {G : Glob}
end Go.Flat
end
section
set_option linter.unusedVariables false
set_option maxRecDepth 20000
namespace Go.Flat
open Go.Proofs
variable {G : Glob}
def consR (kk : Nat → BitVec 32) (l : List D) (m : Nat) (kn : Bool) : List D := (consN kk l.length l m kn []).reverse
theorem consR_end (kk : Nat → BitVec 32) {l : List D} {m : Nat} (kn : Bool) (h : l.length ≤ m) : consR kk l m kn = if kn then [] else [rootI kk l] := by
  unfold consR
  cases e : l.length with
  | zero => unfold consN; cases kn <;> rfl
  | succ n => unfold consN; rw [if_pos h]; cases kn <;> rfl
theorem consR_lo (kk : Nat → BitVec 32) {l : List D} {m : Nat} (kn : Bool) (h1 : 1 ≤ m) (hm : m < l.length) (hi : m ≤ splitN l.length) : consR kk l m kn = consR kk (l.take (splitN l.length)) m kn ++ [rootI kk (l.drop (splitN l.length))] := by
  obtain ⟨s1, s2⟩ := splitN_pos (n := l.length) (by omega)
  unfold consR
  obtain ⟨f, hf⟩ : ∃ f, l.length = f + 1 := ⟨l.length - 1, by omega⟩
  conv => lhs; rw [hf]; unfold consN
  rw [if_neg (by omega)]
  dsimp only
  rw [show (splitF (l.length : Int)).toNat = splitN l.length from rfl, if_pos hi, consN_acc, consN_fuel kk f (l.take (splitN l.length)).length _ _ _ _ h1 (by simp; omega) (by omega)]
  simp
theorem consR_hi (kk : Nat → BitVec 32) {l : List D} {m : Nat} (kn : Bool) (hm : m < l.length) (hi : splitN l.length < m) : consR kk l m kn = consR kk (l.drop (splitN l.length)) (m - splitN l.length) false ++ [rootI kk (l.take (splitN l.length))] := by
  obtain ⟨s1, s2⟩ := splitN_pos (n := l.length) (by omega)
  unfold consR
  obtain ⟨f, hf⟩ : ∃ f, l.length = f + 1 := ⟨l.length - 1, by omega⟩
  conv => lhs; rw [hf]; unfold consN
  rw [if_neg (by omega)]
  dsimp only
  rw [show (splitF (l.length : Int)).toNat = splitN l.length from rfl, if_neg (by omega), consN_acc, consN_fuel kk f (l.drop (splitN l.length)).length _ _ _ _ (by omega) (by simp; omega) (by omega)]
  simp
theorem consR_len (kk : Nat → BitVec 32) : ∀ (f : Nat) (l : List D) (m : Nat) (kn : Bool), l.length ≤ f → 1 ≤ m → (consR kk l m kn).length ≤ l.length + 1
  | 0, l, m, kn, h, h1 => by rw [consR_end kk kn (by omega)]; cases kn <;> simp
  | f + 1, l, m, kn, h, h1 => by
    by_cases hm : l.length ≤ m
    · rw [consR_end kk kn hm]; cases kn <;> simp
    · obtain ⟨s1, s2⟩ := splitN_pos (n := l.length) (by omega)
      by_cases hi : m ≤ splitN l.length
      · rw [consR_lo kk kn h1 (by omega) hi, List.length_append]
        have := consR_len kk f (l.take (splitN l.length)) m kn (by simp; omega) h1
        simp at this ⊢; omega
      · rw [consR_hi kk kn (by omega) (by omega), List.length_append]
        have := consR_len kk f (l.drop (splitN l.length)) (m - splitN l.length) false (by simp; omega) (by omega)
        simp at this ⊢; omega
end Go.Flat
end
