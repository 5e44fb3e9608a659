/- Walks. -/
import Derived.Test.YtfjkagjbanhdlaaDoorH10
set_option linter.unusedVariables false
set_option maxRecDepth 20000
set_option linter.unusedSimpArgs false
namespace Go.Flat
open Go.Proofs
variable {G : Glob}
def Z02 (kk : Nat → BitVec 32) (old : D) (m n : Nat) (kn : Bool) (ds : List D) : Option (D × D) :=
  if m = n ∧ kn = true then (if ds.length = 0 then some (old, old) else none)
  else if ds.length = 0 then none
  else if m = n then (if ds.length = 1 then some (ds.getD (ds.length - 1) d0, ds.getD (ds.length - 1) d0) else none)
  else if h : n ≤ 1 then none
  else if m ≤ Zan n then (Z02 kk old m (Zan n) kn (ds.take (ds.length - 1))).map fun p => (p.1, Ze8 kk p.2 (ds.getD (ds.length - 1) d0))
  else (Z02 kk old (m - Zan n) (n - Zan n) false (ds.take (ds.length - 1))).map fun p => (Ze8 kk (ds.getD (ds.length - 1) d0) p.1, Ze8 kk (ds.getD (ds.length - 1) d0) p.2)
termination_by n
decreasing_by
  · exact (Zdx (n := n) (by omega)).2
  · have := Zdx (n := n) (by omega); omega
def dgR (d : D) : Blk := { cells := Zac w8 32 d, sz := 32, wr := false, fix := true, mv := false, pur := true }
end Go.Flat
namespace Go.Flat
open Go.Proofs
variable {G : Glob}
end Go.Flat
namespace Go.Flat
open Go.Proofs
variable {G : Glob}
def Z6z (kk : Nat → BitVec 32) (m : Int) (old : D) (n : Int) (root : D) (ds : List D) : Int :=
  if n < 0 ∨ 100000 < n ∨ m < 0 ∨ n < m ∨ (m = 0 ∧ 0 < ds.length) then 40 else
    if m = 0 then (if Za6 32 old (Zbi kk []) = false ∨ (n = 0 ∧ Za6 32 root old = false) then 41 else 0) else
    match Z02 kk old m.toNat n.toNat true ds with
    | none => 40
    | some p => if Za6 32 p.1 old && Za6 32 p.2 root then 0 else 41
def fnN : Blk := { cells := [.nilFunc], sz := 1, wr := true, fix := true, mv := false, pur := false }
end Go.Flat
namespace Go.Flat
open Go.Proofs
variable {G : Glob}
def Zff : List ByteArray → List ByteArray → Option (ByteArray × ByteArray)
  | a :: A, b :: B => if Zjg a b then Zff A B else some (a, b)
  | _, _ => none
def Zf2 (kk : Nat → BitVec 32) (root : D) (size index : Int) (a : D) (p : List D) (b : D) (q : List D) : Option (ByteArray × ByteArray) :=
  if Za6 32 a b = true ∨ Zdk kk root a size index p ≠ 0 ∨ Zdk kk root b size index q ≠ 0 then none else
    match Zfa size.toNat index.toNat p, Zfa size.toNat index.toNat q with
    | some la, some lb => Zff (knT kk a la) (knT kk b lb)
    | _, _ => none
def Zlm : Option (ByteArray × ByteArray) → Value
  | none => .tuple #[.string ⟨#[]⟩, .string ⟨#[]⟩, .bool false]
  | some p => .tuple #[.string p.1, .string p.2, .bool true]
theorem Zm5 : ∀ (t size index : Nat) (p q : List D) (la lb : List Stp), size ≤ 2 ^ t → Zfa size index p = some la → Zfa size index q = some lb → la.length = lb.length
  | 0, size, index, p, q, la, lb, h, hp, hq => by
    rw [Zfr index _ (by simpa using h)] at hp hq
    split at hp <;> first | (cases hp; done) | skip
    split at hq <;> first | (cases hq; done) | skip
    injection hp with hp; injection hq with hq; subst hp; subst hq; rfl
  | t + 1, size, index, p, q, la, lb, h, hp, hq => by
    by_cases h2 : 2 ≤ size
    · have e := Zkv h2
      have h1 := Nat.log2_self_le (n := size - 1) (by omega)
      have h3 := Nat.lt_log2_self (n := size - 1)
      rw [Nat.pow_succ, ← e] at h3
      rw [← e] at h1
      have hk : Zan size ≤ 2 ^ t := by
        rw [e]
        refine Nat.pow_le_pow_right (by decide) ?_
        have : size - 1 < 2 ^ (t + 1) := by omega
        have := (Nat.log2_lt (n := size - 1) (by omega)).2 this
        omega
      rcases Nat.eq_zero_or_pos p.length with h0 | h0
      · rw [Zid index h2 h0] at hp; cases hp
      rcases Nat.eq_zero_or_pos q.length with h4 | h4
      · rw [Zid index h2 h4] at hq; cases hq
      by_cases hi : index < Zan size
      · rw [Zhp h2 h0 hi] at hp
        rw [Zhp h2 h4 hi] at hq
        obtain ⟨la', h5, rfl⟩ := Option.map_eq_some_iff.1 hp
        obtain ⟨lb', h6, rfl⟩ := Option.map_eq_some_iff.1 hq
        have := Zm5 t _ _ _ _ _ _ hk h5 h6
        simp [this]
      · rw [Zhu h2 h0 (by omega)] at hp
        rw [Zhu h2 h4 (by omega)] at hq
        obtain ⟨la', h5, rfl⟩ := Option.map_eq_some_iff.1 hp
        obtain ⟨lb', h6, rfl⟩ := Option.map_eq_some_iff.1 hq
        have := Zm5 t _ _ _ _ _ _ (by omega) h5 h6
        simp [this]
    · rw [Zfr index _ (by omega)] at hp hq
      split at hp <;> first | (cases hp; done) | skip
      split at hq <;> first | (cases hq; done) | skip
      injection hp with hp; injection hq with hq; subst hp; subst hq; rfl
theorem Zix {kk : Nat → BitVec 32} {root leaf : D} {size index : Int} {ds : List D} (h : Zdk kk root leaf size index ds = 0) :
  ∃ (sz ix : Nat) (l : List Stp), size = sz ∧ index = ix ∧ 1 ≤ sz ∧ sz ≤ 100000 ∧ ix < sz ∧ Zfa sz ix ds = some l ∧ Za6 32 ((knA kk leaf l).getD 0 d0) root = true := by
 unfold Zdk at h
 split at h
 ·cases h
 ·rename_i hb
  refine ⟨size.toNat, index.toNat, ?_⟩
  split at h
  ·cases h
  ·rename_i l hl
   split at h
   ·rename_i hs
    exact ⟨l, by omega, by omega, by omega, by omega, by omega, hl, hs⟩
   ·cases h
theorem Zuv {A : List ByteArray} {i : Nat} (h : i < A.length) : A.drop i = A.getD i ⟨#[]⟩ :: A.drop (i + 1) := by
 rw [List.drop_eq_getElem_cons h, List.getD_eq_getElem?_getD, List.getElem?_eq_getElem h]; rfl
theorem Z0w {A : List ByteArray} {i : Nat} (h : i < A.length) : (txB A).cells[i]? = some (.string (A.getD i ⟨#[]⟩)) := by
 show (A.map Value.string)[i]? = _
 rw [List.getElem?_map, List.getElem?_eq_getElem h, List.getD_eq_getElem?_getD, List.getElem?_eq_getElem h]; rfl
set_option maxRecDepth 20000 in
set_option maxHeartbeats 8000000 in
theorem Z1u (kk : Nat → BitVec 32) (hG : G 0 = some (Zac w32 64 kk)) (root : D) (size index : Int) (a : D) (p : List D) (b : D) (q : List D) (m n c c' : Nat) (hm : p.length = m) (hn : q.length = n) (hb : m ≤ 1000) (hb' : n ≤ 1000) (hc : m ≤ c) (hc' : n ≤ c')
  (s1 : -9223372036854775808 ≤ size) (s2 : size ≤ 9223372036854775807) (i1 : -9223372036854775808 ≤ index) (i2 : index ≤ 9223372036854775807) :
  Zae Tryd.prog G 19 [dgV root, Iv size, Iv index, dgV a, slv 0 0 m c, dgV b, slv 1 0 n c'] [dsR p, dsR q] (Zlm (Zf2 kk root size index a p b q)) [dsR p, dsR q] := by
 have hI1 := Zjs (G := G) kk hG root a size index p m c hm hb hc s1 s2 i1 i2
 have hI2 := Zjs (G := G) kk hG root b size index q n c' hn hb' hc' s1 s2 i1 i2
 have hend : (([dsR p, dsR q] : List Blk).all (Za9 ([dsR p, dsR q] : List Blk).length)) = true := by simp [Za9, dsR]
 refine Zbj (fn := Tryd.f19) (nt := 81) rfl rfl rfl rfl ?_
 refine Zaj 9 (H' := [dsR p, dsR q, hole, hole, hole, hole, hole, hole, hole, hole, hole]) rfl ?_
 cases hs : Za6 32 a b with
 | true =>
  rw [show Zf2 kk root size index a p b q = none from by unfold Zf2; rw [if_pos (.inl hs)]]
  repeat (first
   | ((with_reducible apply Zl); rfl; rfl; exact (rfl : _ = Value.pointer (some ⟨3, _, _⟩)); exact (show _ = some (dgV a) by kernel_rfl))
   | ((with_reducible apply Zl); rfl; rfl; exact (rfl : _ = Value.pointer (some ⟨4, _, _⟩)); exact (show _ = some (dgV b) by kernel_rfl))
   | ((with_reducible apply Zk); rfl; rfl; exact (rfl : _ = Value.agg _); exact (rfl : _ = Value.agg _); refine Eq.trans (Zlk (a := a) (b := b) (by kernel_rfl) rfl rfl rfl) ?_; rw [hs])
   | ((with_reducible apply Ze); rfl; rfl; (exact (rfl : _ = Value.bool _)))
   | ((with_reducible apply Zc); rfl; rfl; (first
   | exact (rfl : _ = Value.bool _)
   | exact (rfl : _ = Value.string _)))
   | ((with_reducible apply Zo); rfl; rfl; (exact (rfl : _ = some (Value.bool _))))
   | ((with_reducible apply Zbr (nid := 2)); rfl; rfl; (exact (rfl : _ = Value.agg _)); rfl; exact (rfl : _ = _ :: _))
   | ((with_reducible apply Zbr (nid := 3)); rfl; rfl; (exact (rfl : _ = Value.agg _)); rfl; exact (rfl : _ = _ :: _))
   | ((with_reducible apply Zbr (nid := 4)); rfl; rfl; (exact (rfl : _ = Value.agg _)); rfl; exact (rfl : _ = _ :: _))
   | ((with_reducible apply Zj); rfl; rfl)
   | with_reducible refine Za ?_
   | with_reducible refine Zg ?_
   | with_reducible refine Zf ?_
   | with_reducible refine Zt ?_
   | with_reducible refine Zb ?_
   | with_reducible refine Z3 ?_
   | ((with_reducible apply Zz); rfl))
  refine Zu ?_
  exact Zm (v := Zlm none) rfl rfl rfl hend ⟨rfl, rfl, rfl, trivial⟩
 | false =>
  by_cases hz1 : Zdk kk root a size index p = 0
  ·by_cases hz2 : Zdk kk root b size index q = 0
   ·have hE : Zf2 kk root size index a p b q = (match Zfa size.toNat index.toNat p, Zfa size.toNat index.toNat q with
     | some la, some lb => Zff (knT kk a la) (knT kk b lb)
     | _, _ => none) := by
     unfold Zf2; rw [if_neg (by rw [hs, hz1, hz2]; simp)]
    obtain ⟨sz, ix, la, rfl, rfl, g1, g2, g3, hwa, hra⟩ := Zix hz1
    obtain ⟨sz', ix', lb, g4, g5, g6, g7, g8, hwb, hrb⟩ := Zix hz2
    obtain rfl : sz = sz' := by omega
    obtain rfl : ix = ix' := by omega
    rw [hz1] at hI1
    rw [hz2] at hI2
    rw [show (sz : Int).toNat = sz from rfl, show (ix : Int).toNat = ix from rfl, hwa, hwb] at hE
    dsimp only at hE
    have hW1 := Zv7 (G := G) sz ix p m c la hm hb hc (by omega) (by omega) hwa
    have hW2 := Zv7 (G := G) sz ix q n c' lb hn hb' hc' (by omega) (by omega) hwb
    have hlen := Zm5 17 sz ix p q la lb (by omega) hwa hwb
    have hll := Zlw 17 sz ix p la (by omega) hwa
    have hK1 := Zp1 (G := G) kk hG a la la.length la.length rfl (by omega) (Nat.le_refl _)
    have hK2 := Zp1 (G := G) kk hG b lb lb.length lb.length rfl (by omega) (Nat.le_refl _)
    rw [← hlen] at hK2 hW2
    have hTA := Zsq kk a la
    have hTB := Zsq kk b lb
    rw [← hlen] at hTB
    generalize hkl : la.length = k at *
    have hk17 : k ≤ 17 := by omega
    have hcA : (txB (knT kk a la)).cells.length = k := by show (List.map _ _).length = k; rw [List.length_map, hTA]
    have hcB : (txB (knT kk b lb)).cells.length = k := by show (List.map _ _).length = k; rw [List.length_map, hTB]
    generalize knA kk a la = KA at *
    generalize knT kk a la = TA at *
    generalize knA kk b lb = KB at *
    generalize knT kk b lb = TB at *
    rw [hE]
    repeat (first
     | ((with_reducible apply Zl); rfl; rfl; exact (rfl : _ = Value.pointer (some ⟨2, _, _⟩)); exact (show _ = some (dgV root) by kernel_rfl))
     | ((with_reducible apply Zl); rfl; rfl; exact (rfl : _ = Value.pointer (some ⟨3, _, _⟩)); exact (show _ = some (dgV a) by kernel_rfl))
     | ((with_reducible apply Zl); rfl; rfl; exact (rfl : _ = Value.pointer (some ⟨4, _, _⟩)); exact (show _ = some (dgV b) by kernel_rfl))
     | ((with_reducible apply Zk); rfl; rfl; exact (rfl : _ = Value.agg _); exact (rfl : _ = Value.agg _); refine Eq.trans (Zlk (a := a) (b := b) (by kernel_rfl) rfl rfl rfl) ?_; rw [hs])
     | ((with_reducible apply Z4 (e := [some (0, 0)]) (nid := 0) hI1); rfl; rfl; rfl; rfl; rfl; rfl; rfl; refine ⟨⟨rfl, rfl, rfl, rfl, ⟨rfl, rfl, rfl, by omega, by omega⟩, trivial⟩, ⟨Zcg rfl rfl (by show 0 + (dsC _).length ≤ (dsC _).length; omega) (Zdh _), trivial⟩, rfl, rfl, rfl⟩; exact (show _ = Value.int .i64 0 by kernel_rfl); exact (rfl : _ = _ :: _))
     | ((with_reducible apply Z4 (e := [some (1, 0)]) (nid := 0) hI2); rfl; rfl; rfl; rfl; rfl; rfl; rfl; refine ⟨⟨rfl, rfl, rfl, rfl, ⟨rfl, rfl, rfl, by omega, by omega⟩, trivial⟩, ⟨Zcg rfl rfl (by show 0 + (dsC _).length ≤ (dsC _).length; omega) (Zdh _), trivial⟩, rfl, rfl, rfl⟩; exact (show _ = Value.int .i64 0 by kernel_rfl); exact (rfl : _ = _ :: _))
     | ((with_reducible apply Z4 (e := [some (0, 0)]) (nid := 5) hW1); rfl; rfl; rfl; rfl; rfl; rfl; rfl; refine ⟨⟨rfl, rfl, ⟨rfl, rfl, rfl, by omega, by omega⟩, trivial⟩, ⟨Zcg rfl rfl (by show 0 + (dsC _).length ≤ (dsC _).length; omega) (Zdh _), trivial⟩, rfl, rfl, rfl⟩; exact (show _ = slv 5 0 k k by kernel_rfl); exact (show _ = [dsR p, dsR q, dgB root, dgB a, dgB b, Zb8 la, hole, hole, hole, hole, hole] by kernel_rfl))
     | ((with_reducible apply Z4 (e := [some (5, 0)]) (nid := 6) hK1); rfl; rfl; rfl; rfl; rfl; rfl; rfl; refine ⟨⟨rfl, ⟨rfl, rfl, rfl, by omega, by omega⟩, trivial⟩, ⟨Zos rfl, trivial⟩, rfl, rfl, rfl⟩; exact (show _ = Value.tuple #[slv 6 0 (k + 1) (k + 1), slv 7 0 k k] by kernel_rfl); exact (show _ = [dsR p, dsR q, dgB root, dgB a, dgB b, Zb8 la, dsB KA, txB TA, hole, hole, hole] by kernel_rfl))
     | ((with_reducible apply Z4 (e := [some (1, 0)]) (nid := 8) hW2); rfl; rfl; rfl; rfl; rfl; rfl; rfl; refine ⟨⟨rfl, rfl, ⟨rfl, rfl, rfl, by omega, by omega⟩, trivial⟩, ⟨Zcg rfl rfl (by show 0 + (dsC _).length ≤ (dsC _).length; omega) (Zdh _), trivial⟩, rfl, rfl, rfl⟩; exact (show _ = slv 8 0 k k by kernel_rfl); exact (show _ = [dsR p, dsR q, dgB root, dgB a, dgB b, Zb8 la, dsB KA, txB TA, Zb8 lb, hole, hole] by kernel_rfl))
     | ((with_reducible apply Z4 (e := [some (8, 0)]) (nid := 9) hK2); rfl; rfl; rfl; rfl; rfl; rfl; rfl; refine ⟨⟨rfl, ⟨rfl, rfl, rfl, by omega, by omega⟩, trivial⟩, ⟨Zos rfl, trivial⟩, rfl, rfl, rfl⟩; exact (show _ = Value.tuple #[slv 9 0 (k + 1) (k + 1), slv 10 0 k k] by kernel_rfl); exact (show _ = [dsR p, dsR q, dgB root, dgB a, dgB b, Zb8 la, dsB KA, txB TA, Zb8 lb, dsB KB, txB TB] by kernel_rfl))
     | ((with_reducible apply Ze); rfl; rfl; (first
     | exact (rfl : _ = Value.int _ _)
     | exact (rfl : _ = Value.bool _)
     | exact (rfl : _ = Value.slice _ _ _)
     | exact (rfl : _ = Value.tuple _)))
     | ((with_reducible apply Zc); rfl; rfl; (first
     | exact (rfl : _ = Value.bool _)
     | exact (rfl : _ = Value.slice _ _ _)
     | exact (rfl : _ = Value.string _)))
     | ((with_reducible apply Zk); rfl; rfl; (exact (rfl : _ = Value.int _ _)); (exact (rfl : _ = Value.int _ _)); (with_reducible exact Zc5 (by omega)))
     | ((with_reducible apply Zo); rfl; rfl; (exact (rfl : _ = some (Value.bool _))))
     | ((with_reducible apply Zbl); rfl; rfl; (exact (rfl : _ = Value.slice _ _ _)); (exact (rfl : _ = some (Value.int _ _))))
     | ((with_reducible apply Zp); rfl; rfl; rfl; (exact (rfl : _ = some (Value.slice _ _ _))))
     | ((with_reducible apply Zbr (nid := 2)); rfl; rfl; (exact (rfl : _ = Value.agg _)); rfl; exact (rfl : _ = _ :: _))
     | ((with_reducible apply Zbr (nid := 3)); rfl; rfl; (exact (rfl : _ = Value.agg _)); rfl; exact (rfl : _ = _ :: _))
     | ((with_reducible apply Zbr (nid := 4)); rfl; rfl; (exact (rfl : _ = Value.agg _)); rfl; exact (rfl : _ = _ :: _))
     | with_reducible refine Za ?_
     | with_reducible refine Zg ?_
     | with_reducible refine Zf ?_
     | with_reducible refine Z9 ?_
     | with_reducible refine Z2 ?_
     | with_reducible refine Zb ?_
     | (with_reducible refine Zcu (by kernel_rfl) ?_)
     | (with_reducible refine Zdu (by kernel_rfl) ?_)
     | ((with_reducible apply Zv); rfl))
    refine Zch (fun i : Nat => [dead, dead, dead, dead, dead, dead, dead, dead, dead, dead, dead, dead, dead, dead, dead, dead, dead, dead, dead, dead, slv 10 0 k k, dead, dead, dead, dead, dead, dead, dead, dead, dead, dead, dead, dead, dead, dead, dead, dead, dead, dead, dead, dead, dead, dead, dead, dead, dead, dead, dead, dead, dead, dead, dead, dead, dead, dead, dead, dead, dead, dead, dead, dead, dead, slv 7 0 k k, Iv (k : Nat), Iv (i : Nat)]) (fun _ => [dsR p, dsR q, dgB root, dgB a, dgB b, Zb8 la, dsB KA, txB TA, Zb8 lb, dsB KB, txB TB]) (fun i => i ≤ k ∧ Zff (TA.drop i) (TB.drop i) = Zff TA TB) (fun i => k - i) 0 ⟨by omega, by simp⟩ ?_ ?_
    ·refine Zal (n := 11) rfl ?_ (by kernel_rfl) ?_
     repeat (first | exact trivial | refine ⟨.inl rfl, ?_⟩ | refine ⟨.inr ⟨rfl, rfl⟩, ?_⟩)
     ·simp [dsR, dgB, dsB, Zb8, txB]
    ·rintro i ⟨hi, hinv⟩
     by_cases hlt : i < k
     ·have hA := Zuv (A := TA) (i := i) (by omega)
      have hB := Zuv (A := TB) (i := i) (by omega)
      have hAt := Z0w (A := TA) (i := i) (by omega)
      have hBt := Z0w (A := TB) (i := i) (by omega)
      rw [hA, hB] at hinv
      generalize TA.getD i ⟨#[]⟩ = s at *
      generalize TB.getD i ⟨#[]⟩ = t at *
      cases hq : Zjg s t with
      | true =>
       have hnx : Zff (TA.drop (i + 1)) (TB.drop (i + 1)) = Zff TA TB := by rw [← hinv]; show _ = (if Zjg s t then _ else _); rw [hq]; rfl
       repeat (first
        | ((with_reducible apply Zl); rfl; rfl; exact (rfl : _ = Value.pointer (some ⟨7, _, _⟩)); exact (show _ = some (Value.string s) from Zfd rfl rfl (by simpa using hAt) rfl))
        | ((with_reducible apply Zl); rfl; rfl; exact (rfl : _ = Value.pointer (some ⟨10, _, _⟩)); exact (show _ = some (Value.string t) from Zfd rfl rfl (by simpa using hBt) rfl))
        | ((with_reducible apply Zk); rfl; rfl; exact (rfl : _ = Value.string _); exact (rfl : _ = Value.string _); refine Eq.trans (Zr1 s t) ?_; rw [hq])
        | ((with_reducible apply Zbf (j := i * 1)); rfl; rfl; exact (rfl : _ = Value.slice (some ⟨_, _, _⟩) _ _); (exact (rfl : _ = Value.int _ _)); (exact (rfl : _ = some (_, 1))); omega; omega; omega)
        | ((with_reducible apply Ze); rfl; rfl; (first
        | exact (rfl : _ = Value.int _ _)
        | exact (rfl : _ = Value.slice _ _ _)
        | exact (rfl : _ = Value.string _)))
        | ((with_reducible apply Zc); rfl; rfl; (first
        | exact (rfl : _ = Value.int _ _)
        | exact (rfl : _ = Value.string _)))
        | ((with_reducible apply Zk); rfl; rfl; (exact (rfl : _ = Value.int _ _)); (exact (rfl : _ = Value.int _ _)); (first
        | with_reducible exact Zcq (by omega)
        | with_reducible exact Zaz rfl (by omega) (by omega)))
        | with_reducible refine Za ?_
        | with_reducible refine Zg ?_
        | with_reducible refine Zf ?_
        | with_reducible refine Z9 ?_
        | with_reducible refine Z2 ?_
        | with_reducible refine Zb ?_
        | with_reducible refine Zab ?_
        | ((with_reducible apply Zz); rfl)
        | ((with_reducible apply Zv); rfl))
       refine Zas ⟨i + 1, ⟨by omega, hnx⟩, by omega, ?_⟩
       refine Zal (n := 11) rfl ?_ rfl ?_
       repeat (first | exact trivial | refine ⟨.inl rfl, ?_⟩ | refine ⟨.inr ⟨rfl, rfl⟩, ?_⟩)
       ·simp [dsR, dgB, dsB, Zb8, txB]
      | false =>
       have hnx : Zff TA TB = some (s, t) := by rw [← hinv]; show (if Zjg s t then _ else _) = _; rw [hq]; rfl
       rw [hnx]
       repeat (first
        | ((with_reducible apply Zl); rfl; rfl; exact (rfl : _ = Value.pointer (some ⟨7, _, _⟩)); exact (show _ = some (Value.string s) from Zfd rfl rfl (by simpa using hAt) rfl))
        | ((with_reducible apply Zl); rfl; rfl; exact (rfl : _ = Value.pointer (some ⟨10, _, _⟩)); exact (show _ = some (Value.string t) from Zfd rfl rfl (by simpa using hBt) rfl))
        | ((with_reducible apply Zk); rfl; rfl; exact (rfl : _ = Value.string _); exact (rfl : _ = Value.string _); refine Eq.trans (Zr1 s t) ?_; rw [hq])
        | ((with_reducible apply Zbf (j := i * 1)); rfl; rfl; exact (rfl : _ = Value.slice (some ⟨_, _, _⟩) _ _); (exact (rfl : _ = Value.int _ _)); (exact (rfl : _ = some (_, 1))); omega; omega; omega)
        | ((with_reducible apply Ze); rfl; rfl; (first
        | exact (rfl : _ = Value.int _ _)
        | exact (rfl : _ = Value.slice _ _ _)
        | exact (rfl : _ = Value.string _)))
        | ((with_reducible apply Zc); rfl; rfl; (first
        | exact (rfl : _ = Value.int _ _)
        | exact (rfl : _ = Value.bool _)
        | exact (rfl : _ = Value.string _)))
        | ((with_reducible apply Zk); rfl; rfl; (exact (rfl : _ = Value.int _ _)); (exact (rfl : _ = Value.int _ _)); (with_reducible exact Zcq (by omega)))
        | with_reducible refine Za ?_
        | with_reducible refine Zg ?_
        | with_reducible refine Zf ?_
        | with_reducible refine Z9 ?_
        | with_reducible refine Z2 ?_
        | with_reducible refine Zt ?_
        | with_reducible refine Zb ?_
        | with_reducible refine Z3 ?_
        | with_reducible refine Zbq ?_
        | with_reducible refine Zc3 ?_
        | (with_reducible refine Zcu (by kernel_rfl) ?_)
        | (with_reducible refine Zdu (by kernel_rfl) ?_)
        | ((with_reducible apply Zz); rfl))
       refine Zu ?_
       exact Zm (v := Zlm (some (s, t))) rfl rfl rfl hend ⟨rfl, rfl, rfl, trivial⟩
     ·have hnx : Zff TA TB = none := by
       rw [← hinv, List.drop_of_length_le (by omega), List.drop_of_length_le (by omega)]; rfl
      rw [hnx]
      repeat (first
       | ((with_reducible apply Zc); rfl; rfl; (first
       | exact (rfl : _ = Value.bool _)
       | exact (rfl : _ = Value.string _)))
       | ((with_reducible apply Zk); rfl; rfl; (exact (rfl : _ = Value.int _ _)); (exact (rfl : _ = Value.int _ _)); (with_reducible exact Zcj (by omega)))
       | with_reducible refine Za ?_
       | with_reducible refine Zg ?_
       | with_reducible refine Zf ?_
       | with_reducible refine Zbh ?_
       | with_reducible refine Zt ?_
       | with_reducible refine Zb ?_
       | with_reducible refine Zar ?_
       | with_reducible refine Za0 ?_
       | ((with_reducible apply Zv); rfl)
       | ((with_reducible apply Zaw); rfl))
      refine Zu ?_
      exact Zm (v := Zlm none) rfl rfl rfl hend ⟨rfl, rfl, rfl, trivial⟩
   ·rw [show Zf2 kk root size index a p b q = none from by unfold Zf2; rw [if_pos (.inr (.inr hz2))]]
    rw [hz1] at hI1
    generalize Zdk kk root b size index q = z at *
    repeat (first
     | ((with_reducible apply Zl); rfl; rfl; exact (rfl : _ = Value.pointer (some ⟨2, _, _⟩)); exact (show _ = some (dgV root) by kernel_rfl))
     | ((with_reducible apply Zl); rfl; rfl; exact (rfl : _ = Value.pointer (some ⟨3, _, _⟩)); exact (show _ = some (dgV a) by kernel_rfl))
     | ((with_reducible apply Zl); rfl; rfl; exact (rfl : _ = Value.pointer (some ⟨4, _, _⟩)); exact (show _ = some (dgV b) by kernel_rfl))
     | ((with_reducible apply Zk); rfl; rfl; exact (rfl : _ = Value.agg _); exact (rfl : _ = Value.agg _); refine Eq.trans (Zlk (a := a) (b := b) (by kernel_rfl) rfl rfl rfl) ?_; rw [hs])
     | ((with_reducible apply Z4 (e := [some (0, 0)]) (nid := 0) hI1); rfl; rfl; rfl; rfl; rfl; rfl; rfl; refine ⟨⟨rfl, rfl, rfl, rfl, ⟨rfl, rfl, rfl, by omega, by omega⟩, trivial⟩, ⟨Zcg rfl rfl (by show 0 + (dsC _).length ≤ (dsC _).length; omega) (Zdh _), trivial⟩, rfl, rfl, rfl⟩; exact (show _ = Value.int .i64 0 by kernel_rfl); exact (rfl : _ = _ :: _))
     | ((with_reducible apply Z4 (e := [some (1, 0)]) (nid := 0) hI2); rfl; rfl; rfl; rfl; rfl; rfl; rfl; refine ⟨⟨rfl, rfl, rfl, rfl, ⟨rfl, rfl, rfl, by omega, by omega⟩, trivial⟩, ⟨Zcg rfl rfl (by show 0 + (dsC _).length ≤ (dsC _).length; omega) (Zdh _), trivial⟩, rfl, rfl, rfl⟩; exact (show _ = Value.int .i64 z by kernel_rfl); exact (rfl : _ = _ :: _))
     | ((with_reducible apply Ze); rfl; rfl; (first
     | exact (rfl : _ = Value.int _ _)
     | exact (rfl : _ = Value.bool _)
     | exact (rfl : _ = Value.slice _ _ _)))
     | ((with_reducible apply Zc); rfl; rfl; (first
     | exact (rfl : _ = Value.bool _)
     | exact (rfl : _ = Value.string _)))
     | ((with_reducible apply Zk); rfl; rfl; (exact (rfl : _ = Value.int _ _)); (exact (rfl : _ = Value.int _ _)); (first
     | with_reducible exact Zdg (by omega)
     | with_reducible exact Zc5 (by omega)))
     | ((with_reducible apply Zo); rfl; rfl; (exact (rfl : _ = some (Value.bool _))))
     | ((with_reducible apply Zbr (nid := 2)); rfl; rfl; (exact (rfl : _ = Value.agg _)); rfl; exact (rfl : _ = _ :: _))
     | ((with_reducible apply Zbr (nid := 3)); rfl; rfl; (exact (rfl : _ = Value.agg _)); rfl; exact (rfl : _ = _ :: _))
     | ((with_reducible apply Zbr (nid := 4)); rfl; rfl; (exact (rfl : _ = Value.agg _)); rfl; exact (rfl : _ = _ :: _))
     | with_reducible refine Za ?_
     | with_reducible refine Zg ?_
     | with_reducible refine Zf ?_
     | with_reducible refine Zt ?_
     | with_reducible refine Zb ?_
     | with_reducible refine Z3 ?_
     | ((with_reducible apply Zz); rfl))
    refine Zu ?_
    exact Zm (v := Zlm none) rfl rfl rfl hend ⟨rfl, rfl, rfl, trivial⟩
  ·rw [show Zf2 kk root size index a p b q = none from by unfold Zf2; rw [if_pos (.inr (.inl hz1))]]
   generalize Zdk kk root a size index p = z at *
   repeat (first
    | ((with_reducible apply Zl); rfl; rfl; exact (rfl : _ = Value.pointer (some ⟨2, _, _⟩)); exact (show _ = some (dgV root) by kernel_rfl))
    | ((with_reducible apply Zl); rfl; rfl; exact (rfl : _ = Value.pointer (some ⟨3, _, _⟩)); exact (show _ = some (dgV a) by kernel_rfl))
    | ((with_reducible apply Zl); rfl; rfl; exact (rfl : _ = Value.pointer (some ⟨4, _, _⟩)); exact (show _ = some (dgV b) by kernel_rfl))
    | ((with_reducible apply Zk); rfl; rfl; exact (rfl : _ = Value.agg _); exact (rfl : _ = Value.agg _); refine Eq.trans (Zlk (a := a) (b := b) (by kernel_rfl) rfl rfl rfl) ?_; rw [hs])
    | ((with_reducible apply Z4 (e := [some (0, 0)]) (nid := 0) hI1); rfl; rfl; rfl; rfl; rfl; rfl; rfl; refine ⟨⟨rfl, rfl, rfl, rfl, ⟨rfl, rfl, rfl, by omega, by omega⟩, trivial⟩, ⟨Zcg rfl rfl (by show 0 + (dsC _).length ≤ (dsC _).length; omega) (Zdh _), trivial⟩, rfl, rfl, rfl⟩; exact (show _ = Value.int .i64 z by kernel_rfl); exact (rfl : _ = _ :: _))
    | ((with_reducible apply Ze); rfl; rfl; (first
    | exact (rfl : _ = Value.int _ _)
    | exact (rfl : _ = Value.bool _)
    | exact (rfl : _ = Value.slice _ _ _)))
    | ((with_reducible apply Zc); rfl; rfl; (first
    | exact (rfl : _ = Value.bool _)
    | exact (rfl : _ = Value.string _)))
    | ((with_reducible apply Zk); rfl; rfl; (exact (rfl : _ = Value.int _ _)); (exact (rfl : _ = Value.int _ _)); (with_reducible exact Zdg (by omega)))
    | ((with_reducible apply Zo); rfl; rfl; (exact (rfl : _ = some (Value.bool _))))
    | ((with_reducible apply Zbr (nid := 2)); rfl; rfl; (exact (rfl : _ = Value.agg _)); rfl; exact (rfl : _ = _ :: _))
    | ((with_reducible apply Zbr (nid := 3)); rfl; rfl; (exact (rfl : _ = Value.agg _)); rfl; exact (rfl : _ = _ :: _))
    | ((with_reducible apply Zbr (nid := 4)); rfl; rfl; (exact (rfl : _ = Value.agg _)); rfl; exact (rfl : _ = _ :: _))
    | ((with_reducible apply Zj); rfl; rfl)
    | with_reducible refine Za ?_
    | with_reducible refine Zg ?_
    | with_reducible refine Zf ?_
    | with_reducible refine Zt ?_
    | with_reducible refine Zb ?_
    | with_reducible refine Z3 ?_
    | ((with_reducible apply Zz); rfl))
   refine Zu ?_
   exact Zm (v := Zlm none) rfl rfl rfl hend ⟨rfl, rfl, rfl, trivial⟩
end Go.Flat
