/- Walks. -/
import Derived.Test.YtbjlgbejbolohaaDoorK7
set_option linter.unusedVariables false
set_option linter.unusedSimpArgs false
set_option maxRecDepth 20000
namespace Go.Flat
open Go.Proofs
variable {G : Glob}
def Zfm (kk : Nat → BitVec 32) (old : D) (m n : Nat) (kn : Bool) (ds : List D) : Option (D × D) :=
  if m = n ∧ kn = true then (if ds.length = 0 then some (old, old) else none)
  else if ds.length = 0 then none
  else if m = n then (if ds.length = 1 then some (ds.getD (ds.length - 1) d0, ds.getD (ds.length - 1) d0) else none)
  else if h : n ≤ 1 then none
  else if m ≤ Zz n then (Zfm kk old m (Zz n) kn (ds.take (ds.length - 1))).map fun p => (p.1, Zba kk p.2 (ds.getD (ds.length - 1) d0))
  else (Zfm kk old (m - Zz n) (n - Zz n) false (ds.take (ds.length - 1))).map fun p => (Zba kk (ds.getD (ds.length - 1) d0) p.1, Zba kk (ds.getD (ds.length - 1) d0) p.2)
termination_by n
decreasing_by
  · exact (Zb1 (n := n) (by omega)).2
  · have := Zb1 (n := n) (by omega); omega
def dgR (d : D) : Blk := { cells := Zaa w8 32 d, sz := 32, wr := false, fix := true, mv := false, pur := true }
def fnR : Blk := { cells := [.func (.func 43) #[] #[pt 1 0, pt 2 0]], sz := 1, wr := false, fix := true, mv := false, pur := false }
theorem Zk8 (kk : Nat → BitVec 32) (old : D) (n : Nat) (ds : List D) : Zfm kk old n n true ds = if ds.length = 0 then some (old, old) else none := by
 rw [Zfm, if_pos ⟨rfl, rfl⟩]
theorem Zyr (kk : Nat → BitVec 32) (old : D) (m n : Nat) (kn : Bool) {ds : List D} (h : ¬ (m = n ∧ kn = true)) (h0 : ds.length = 0) : Zfm kk old m n kn ds = none := by
 rw [Zfm, if_neg h, if_pos h0]
theorem Zmr (kk : Nat → BitVec 32) (old : D) (n : Nat) {ds : List D} (h0 : ds.length ≠ 0) : Zfm kk old n n false ds = if ds.length = 1 then some (ds.getD (ds.length - 1) d0, ds.getD (ds.length - 1) d0) else none := by
 rw [Zfm, if_neg (by simp), if_neg h0, if_pos rfl]
theorem Zoz (kk : Nat → BitVec 32) (old : D) {m n : Nat} (kn : Bool) {ds : List D} (hm : m < n) (h1 : 1 ≤ m) (h0 : ds.length ≠ 0) (hk : m ≤ Zz n) : Zfm kk old m n kn ds = (Zfm kk old m (Zz n) kn (ds.take (ds.length - 1))).map fun p => (p.1, Zba kk p.2 (ds.getD (ds.length - 1) d0)) := by
 rw [Zfm, if_neg (by omega), if_neg h0, if_neg (by omega), dif_neg (by omega), if_pos hk]
theorem Zoy (kk : Nat → BitVec 32) (old : D) {m n : Nat} (kn : Bool) {ds : List D} (hm : m < n) (h1 : 1 ≤ m) (h0 : ds.length ≠ 0) (hk : Zz n < m) : Zfm kk old m n kn ds = (Zfm kk old (m - Zz n) (n - Zz n) false (ds.take (ds.length - 1))).map fun p => (Zba kk (ds.getD (ds.length - 1) d0) p.1, Zba kk (ds.getD (ds.length - 1) d0) p.2) := by
 rw [Zfm, if_neg (by omega), if_neg h0, if_neg (by omega), dif_neg (by omega), if_neg (by omega)]
set_option maxRecDepth 20000 in
set_option maxHeartbeats 8000000 in
theorem Z27 (kk : Nat → BitVec 32) (hG : G 0 = some (Zaa w32 64 kk)) (old : D) : ∀ (n m : Nat) (kn : Bool) (ds : List D) (q c : Nat) (a b : D), ds.length = q → q ≤ 1000 → q ≤ c → 1 ≤ m → m ≤ n → n ≤ 1000000 → Zfm kk old m n kn ds = some (a, b) →
    Zac Tryd.prog G 43 [Iv (m : Nat), Iv (n : Nat), .bool kn, slv 0 0 q c, pt 1 0, pt 2 0] [dsR ds, dgR old, fnR] (.tuple #[dgV a, dgV b]) [dsR ds, dgR old, fnR] := by
  intro n
  induction n using Nat.strongRecOn with
  | ind n ih =>
    intro m kn ds q c a b hq hb hc h1 hmn hn hw
    refine Zb8 (fn := Tryd.f43) (nt := 83) rfl rfl rfl rfl ?_
    refine Zah 5 (H' := [dsR ds, dgR old, fnR, hole, hole, hole, hole, hole]) rfl ?_
    have hend : (([dsR ds, dgR old, fnR] : List Blk).all (Za1 ([dsR ds, dgR old, fnR] : List Blk).length)) = true := by simp [Za1, dsR, dgR, fnR]; rfl
    by_cases hself : m = n ∧ kn = true
    · obtain ⟨rfl, rfl⟩ := hself
      rw [Zk8] at hw
      split at hw
      · rename_i h0
        injection hw with hw
        obtain ⟨rfl, rfl⟩ := Prod.mk.inj hw
        have hq0 : q = 0 := by omega
        subst hq0
        repeat (first
          | ((with_reducible apply Zg); rfl; rfl; exact (rfl : _ = Value.pointer (some ⟨1, _, _⟩)); exact (show _ = some (dgV old) by kernel_rfl))
          | ((with_reducible apply Zq (nid := 3)); rfl; rfl; rfl; exact (show _ = [dsR ds, dgR old, fnR, dgB dz, hole, hole, hole, hole] by kernel_rfl))
          | ((with_reducible apply Zq (nid := 4)); rfl; rfl; rfl; exact (show _ = [dsR ds, dgR old, fnR, dgB dz, dgB dz, hole, hole, hole] by kernel_rfl))
          | ((with_reducible apply Zd); rfl; rfl; (first
          | exact (rfl : _ = Value.int _ _)
          | exact (rfl : _ = Value.bool _)
          | exact (rfl : _ = Value.slice _ _ _)))
          | ((with_reducible apply Zi); rfl; rfl; (exact (rfl : _ = Value.int _ _)); (exact (rfl : _ = Value.int _ _)); (first
          | with_reducible exact Zcw (by omega)
          | with_reducible exact Zd2 (by omega)))
          | ((with_reducible apply Zp); rfl; rfl; (exact (rfl : _ = some (Value.bool _))))
          | ((with_reducible apply Za6); rfl; rfl; (exact (rfl : _ = Value.slice _ _ _)); (exact (rfl : _ = some (Value.int _ _))))
          | ((with_reducible apply Zj); rfl; exact (rfl : _ = Value.pointer (some ⟨_, _, _⟩)); (exact (rfl : _ = Value.agg _)); (rfl); exact (rfl : _ = _ :: _))
          | with_reducible refine Za ?_
          | with_reducible refine Zf ?_
          | with_reducible refine Ze ?_
          | with_reducible refine Z0 ?_
          | with_reducible refine Zw ?_
          | with_reducible refine Zb ?_
          | with_reducible refine Zaj ?_
          | (with_reducible refine Zca (by kernel_rfl) ?_)
          | (with_reducible refine Zc4 (by kernel_rfl) ?_)
          | ((with_reducible apply Zu); rfl)
          | ((with_reducible apply Zr); rfl))
        refine Zy ?_
        exact Zo (v := .tuple #[dgV old, dgV old]) (by kernel_rfl) rfl rfl hend ⟨Za7 (Zaz fun _ => rfl) rfl, Za7 (Zaz fun _ => rfl) rfl, trivial⟩
      · cases hw
    · have h0 : q ≠ 0 := by
        intro h0
        rw [Zyr kk old m n kn hself (by omega)] at hw
        cases hw
      obtain ⟨q, rfl⟩ : ∃ p, q = p + 1 := ⟨q - 1, by omega⟩
      have hL := Zob (G := G) ds q c hq (by omega) hc
      have hgd : ds.getD (ds.length - 1) d0 = ds.getD q d0 := by rw [hq]; rfl
      have htk : ds.take (ds.length - 1) = sub ds 0 q := by rw [hq]; simp [sub]
      by_cases he : m = n
      · subst he
        have hkn : kn = false := by cases kn <;> simp_all
        subst hkn
        rw [Zmr kk old m (by omega)] at hw
        split at hw
        · rename_i hq1
          injection hw with hw
          obtain ⟨rfl, rfl⟩ := Prod.mk.inj hw
          rw [hgd]
          have hq0 : q = 0 := by omega
          subst hq0
          generalize ds.getD 0 d0 = x at *
          repeat (first
            | ((with_reducible apply Zq (nid := 3)); rfl; rfl; rfl; exact (show _ = [dsR ds, dgR old, fnR, dgB dz, hole, hole, hole, hole] by kernel_rfl))
            | ((with_reducible apply Zq (nid := 4)); rfl; rfl; rfl; exact (show _ = [dsR ds, dgR old, fnR, dgB dz, dgB dz, hole, hole, hole] by kernel_rfl))
            | ((with_reducible apply Zq (nid := 5)); rfl; rfl; rfl; exact (show _ = [dsR ds, dgR old, fnR, dgB dz, dgB dz, dgB dz, hole, hole] by kernel_rfl))
            | ((with_reducible apply Zab (e := [some (0, 0)]) (nid := 0) hL); rfl; rfl; rfl; rfl; rfl; rfl; rfl; refine ⟨⟨⟨rfl, rfl, rfl, by omega, by omega⟩, trivial⟩, ⟨Zbu rfl rfl (by show 0 + (dsC _).length ≤ (dsC _).length; omega) (Zce _), trivial⟩, rfl, rfl, rfl⟩; exact (show _ = Value.tuple #[dgV x, slv 0 0 0 c] by kernel_rfl); exact (rfl : _ = _ :: _))
            | ((with_reducible apply Zj); rfl; exact (rfl : _ = Value.pointer (some ⟨5, _, _⟩)); exact (rfl : _ = Value.agg _); exact (show _ = some (5, dgB x) by kernel_rfl); exact (show _ = [dsR ds, dgR old, fnR, dgB dz, dgB dz, dgB x, hole, hole] by kernel_rfl))
            | ((with_reducible apply Zg); rfl; rfl; exact (rfl : _ = Value.pointer (some ⟨5, _, _⟩)); exact (show _ = some (dgV x) by kernel_rfl))
            | ((with_reducible apply Zd); rfl; rfl; (first
            | exact (rfl : _ = Value.int _ _)
            | exact (rfl : _ = Value.bool _)
            | exact (rfl : _ = Value.slice _ _ _)
            | exact (rfl : _ = Value.tuple _)))
            | ((with_reducible apply Zc); rfl; rfl; (exact (rfl : _ = Value.slice _ _ _)))
            | ((with_reducible apply Zi); rfl; rfl; (exact (rfl : _ = Value.int _ _)); (exact (rfl : _ = Value.int _ _)); (first
            | with_reducible exact Zcw (by omega)
            | with_reducible exact Zd2 (by omega)))
            | ((with_reducible apply Zp); rfl; rfl; (exact (rfl : _ = some (Value.bool _))))
            | ((with_reducible apply Za6); rfl; rfl; (exact (rfl : _ = Value.slice _ _ _)); (exact (rfl : _ = some (Value.int _ _))))
            | ((with_reducible apply Z5); rfl; rfl; rfl; (first
            | exact (rfl : _ = some (Value.slice _ _ _))
            | exact (rfl : _ = some (Value.agg _))))
            | ((with_reducible apply Zj); rfl; exact (rfl : _ = Value.pointer (some ⟨_, _, _⟩)); (exact (rfl : _ = Value.agg _)); (rfl); exact (rfl : _ = _ :: _))
            | with_reducible refine Za ?_
            | with_reducible refine Zf ?_
            | with_reducible refine Ze ?_
            | with_reducible refine Z0 ?_
            | with_reducible refine Zw ?_
            | with_reducible refine Zb ?_
            | with_reducible refine Zaj ?_
            | (with_reducible refine Zca (by kernel_rfl) ?_)
            | (with_reducible refine Zc4 (by kernel_rfl) ?_)
            | ((with_reducible apply Zu); rfl)
            | ((with_reducible apply Zr); rfl))
          refine Zy ?_
          exact Zo (v := .tuple #[dgV x, dgV x]) (by kernel_rfl) rfl rfl hend ⟨Za7 (Zaz fun _ => rfl) rfl, Za7 (Zaz fun _ => rfl) rfl, trivial⟩
        · cases hw
      · have hS := Zil (G := G) (n : Int) (by omega)
        have hsz : Zct (n : Int) = (Zz n : Nat) := (Zdt (n := n) (by omega)).2.2
        rw [hsz] at hS
        obtain ⟨p1, p2⟩ := Zb1 (n := n) (by omega)
        have w1 := Zoz kk old (m := m) (n := n) kn (ds := ds) (by omega) h1 (by omega)
        have w2 := Zoy kk old (m := m) (n := n) kn (ds := ds) (by omega) h1 (by omega)
        rw [hgd, htk] at w1 w2
        generalize ds.getD q d0 = x at *
        generalize Zz n = k at *
        by_cases hk : m ≤ k
        · rw [w1 hk] at hw
          obtain ⟨⟨a', b'⟩, e1, e2⟩ := Option.map_eq_some_iff.1 hw
          obtain ⟨rfl, rfl⟩ := Prod.mk.inj e2
          have hR := ih k p2 m kn (sub ds 0 q) q c a' b' (Zau (by omega)) (by omega) (by omega) h1 hk (by omega) e1
          have hK := Zhs (G := G) kk hG b' x
          dsimp only
          generalize Zba kk b' x = y at *
          repeat (first
            | ((with_reducible apply Zq (nid := 3)); rfl; rfl; rfl; exact (show _ = [dsR ds, dgR old, fnR, dgB dz, hole, hole, hole, hole] by kernel_rfl))
            | ((with_reducible apply Zq (nid := 4)); rfl; rfl; rfl; exact (show _ = [dsR ds, dgR old, fnR, dgB dz, dgB dz, hole, hole, hole] by kernel_rfl))
            | ((with_reducible apply Zq (nid := 5)); rfl; rfl; rfl; exact (show _ = [dsR ds, dgR old, fnR, dgB dz, dgB dz, dgB dz, hole, hole] by kernel_rfl))
            | ((with_reducible apply Zab (e := [some (0, 0)]) (nid := 0) hL); rfl; rfl; rfl; rfl; rfl; rfl; rfl; refine ⟨⟨⟨rfl, rfl, rfl, by omega, by omega⟩, trivial⟩, ⟨Zbu rfl rfl (by show 0 + (dsC _).length ≤ (dsC _).length; omega) (Zce _), trivial⟩, rfl, rfl, rfl⟩; exact (show _ = Value.tuple #[dgV x, slv 0 0 q c] by kernel_rfl); exact (rfl : _ = _ :: _))
            | ((with_reducible apply Zj); rfl; exact (rfl : _ = Value.pointer (some ⟨5, _, _⟩)); exact (rfl : _ = Value.agg _); exact (show _ = some (5, dgB x) by kernel_rfl); exact (show _ = [dsR ds, dgR old, fnR, dgB dz, dgB dz, dgB x, hole, hole] by kernel_rfl))
            | ((with_reducible apply Zab (e := [some (0, 0), some (1, 0), some (2, 0)]) (nid := 0) hR); rfl; rfl; rfl; rfl; rfl; rfl; rfl; refine ⟨⟨rfl, rfl, rfl, ⟨rfl, rfl, rfl, by omega, by omega⟩, ⟨rfl, rfl⟩, ⟨rfl, rfl⟩, trivial⟩, ⟨Zg1 rfl (.inl rfl) (by omega) rfl, Zd8 rfl rfl rfl rfl, Zd8 rfl rfl rfl (by kernel_rfl), trivial⟩, rfl, rfl, rfl⟩; exact (show _ = Value.tuple #[dgV a', dgV b'] by kernel_rfl); exact (rfl : _ = _ :: _))
            | ((with_reducible apply Zq (nid := 6)); rfl; rfl; rfl; exact (show _ = [dsR ds, dgR old, fnR, dgB dz, dgB dz, dgB x, dgB dz, hole] by kernel_rfl))
            | ((with_reducible apply Zq (nid := 7)); rfl; rfl; rfl; exact (show _ = [dsR ds, dgR old, fnR, dgB dz, dgB dz, dgB x, dgB dz, dgB dz] by kernel_rfl))
            | ((with_reducible apply Zj); rfl; exact (rfl : _ = Value.pointer (some ⟨6, _, _⟩)); exact (rfl : _ = Value.agg _); exact (show _ = some (6, dgB a') by kernel_rfl); exact (show _ = [dsR ds, dgR old, fnR, dgB dz, dgB dz, dgB x, dgB a', dgB dz] by kernel_rfl))
            | ((with_reducible apply Zj); rfl; exact (rfl : _ = Value.pointer (some ⟨7, _, _⟩)); exact (rfl : _ = Value.agg _); exact (show _ = some (7, dgB b') by kernel_rfl); exact (show _ = [dsR ds, dgR old, fnR, dgB dz, dgB dz, dgB x, dgB a', dgB b'] by kernel_rfl))
            | ((with_reducible apply Zg); rfl; rfl; exact (rfl : _ = Value.pointer (some ⟨5, _, _⟩)); exact (show _ = some (dgV x) by kernel_rfl))
            | ((with_reducible apply Zg); rfl; rfl; exact (rfl : _ = Value.pointer (some ⟨6, _, _⟩)); exact (show _ = some (dgV a') by kernel_rfl))
            | ((with_reducible apply Zg); rfl; rfl; exact (rfl : _ = Value.pointer (some ⟨7, _, _⟩)); exact (show _ = some (dgV b') by kernel_rfl))
            | ((with_reducible apply Zd); rfl; rfl; (first
            | exact (rfl : _ = Value.int _ _)
            | exact (rfl : _ = Value.bool _)
            | exact (rfl : _ = Value.slice _ _ _)
            | exact (rfl : _ = Value.tuple _)))
            | ((with_reducible apply Zc); rfl; rfl; (first
            | exact (rfl : _ = Value.int _ _)
            | exact (rfl : _ = Value.slice _ _ _)))
            | ((with_reducible apply Zi); rfl; rfl; (exact (rfl : _ = Value.int _ _)); (exact (rfl : _ = Value.int _ _)); (first
            | with_reducible exact Zre (by omega)
            | with_reducible exact Zfc (by omega)))
            | ((with_reducible apply Zp); rfl; rfl; (exact (rfl : _ = some (Value.bool _))))
            | ((with_reducible apply Zg); rfl; rfl; exact (rfl : _ = Value.pointer (some ⟨_, _, _⟩)); (exact (rfl : _ = some (Value.func _ _ _))))
            | ((with_reducible apply Z5); rfl; rfl; rfl; (first
            | exact (rfl : _ = some (Value.slice _ _ _))
            | exact (rfl : _ = some (Value.agg _))))
            | ((with_reducible apply Zj); rfl; exact (rfl : _ = Value.pointer (some ⟨_, _, _⟩)); (exact (rfl : _ = Value.agg _)); (rfl); exact (rfl : _ = _ :: _))
            | ((with_reducible apply Zn); rfl; rfl)
            | ((with_reducible apply Zv (hS)); rfl; rfl; rfl; rfl; rfl; (exact (rfl : _ = Value.int _ _)))
            | ((with_reducible apply Zv (hK)); rfl; rfl; rfl; rfl; rfl; (exact (rfl : _ = Value.agg _)))
            | with_reducible refine Za ?_
            | with_reducible refine Zf ?_
            | with_reducible refine Ze ?_
            | with_reducible refine Z0 ?_
            | with_reducible refine Zw ?_
            | with_reducible refine Zb ?_
            | with_reducible refine Zaj ?_
            | (with_reducible refine Zca (by kernel_rfl) ?_)
            | (with_reducible refine Zc4 (by kernel_rfl) ?_)
            | ((with_reducible apply Zu); rfl)
            | ((with_reducible apply Zr); rfl))
          refine Zy ?_
          exact Zo (v := .tuple #[dgV a', dgV y]) (by kernel_rfl) rfl rfl hend ⟨Za7 (Zaz fun _ => rfl) rfl, Za7 (Zaz fun _ => rfl) rfl, trivial⟩
        · rw [w2 (by omega)] at hw
          obtain ⟨⟨a', b'⟩, e1, e2⟩ := Option.map_eq_some_iff.1 hw
          obtain ⟨rfl, rfl⟩ := Prod.mk.inj e2
          have hR := ih (n - k) (by omega) (m - k) false (sub ds 0 q) q c a' b' (Zau (by omega)) (by omega) (by omega) (by omega) (by omega) (by omega) e1
          rw [show ((m - k : Nat) : Int) = (m : Int) - k from by omega, show ((n - k : Nat) : Int) = (n : Int) - k from by omega] at hR
          have hK := Zhs (G := G) kk hG x a'
          have hK2 := Zhs (G := G) kk hG x b'
          dsimp only
          generalize Zba kk x a' = y at *
          generalize Zba kk x b' = z at *
          repeat (first
            | ((with_reducible apply Zq (nid := 3)); rfl; rfl; rfl; exact (show _ = [dsR ds, dgR old, fnR, dgB dz, hole, hole, hole, hole] by kernel_rfl))
            | ((with_reducible apply Zq (nid := 4)); rfl; rfl; rfl; exact (show _ = [dsR ds, dgR old, fnR, dgB dz, dgB dz, hole, hole, hole] by kernel_rfl))
            | ((with_reducible apply Zq (nid := 5)); rfl; rfl; rfl; exact (show _ = [dsR ds, dgR old, fnR, dgB dz, dgB dz, dgB dz, hole, hole] by kernel_rfl))
            | ((with_reducible apply Zab (e := [some (0, 0)]) (nid := 0) hL); rfl; rfl; rfl; rfl; rfl; rfl; rfl; refine ⟨⟨⟨rfl, rfl, rfl, by omega, by omega⟩, trivial⟩, ⟨Zbu rfl rfl (by show 0 + (dsC _).length ≤ (dsC _).length; omega) (Zce _), trivial⟩, rfl, rfl, rfl⟩; exact (show _ = Value.tuple #[dgV x, slv 0 0 q c] by kernel_rfl); exact (rfl : _ = _ :: _))
            | ((with_reducible apply Zj); rfl; exact (rfl : _ = Value.pointer (some ⟨5, _, _⟩)); exact (rfl : _ = Value.agg _); exact (show _ = some (5, dgB x) by kernel_rfl); exact (show _ = [dsR ds, dgR old, fnR, dgB dz, dgB dz, dgB x, hole, hole] by kernel_rfl))
            | ((with_reducible apply Zab (e := [some (0, 0), some (1, 0), some (2, 0)]) (nid := 0) hR); rfl; rfl; rfl; rfl; rfl; rfl; rfl; refine ⟨⟨rfl, rfl, rfl, ⟨rfl, rfl, rfl, by omega, by omega⟩, ⟨rfl, rfl⟩, ⟨rfl, rfl⟩, trivial⟩, ⟨Zg1 rfl (.inl rfl) (by omega) rfl, Zd8 rfl rfl rfl rfl, Zd8 rfl rfl rfl (by kernel_rfl), trivial⟩, rfl, rfl, rfl⟩; exact (show _ = Value.tuple #[dgV a', dgV b'] by kernel_rfl); exact (rfl : _ = _ :: _))
            | ((with_reducible apply Zq (nid := 6)); rfl; rfl; rfl; exact (show _ = [dsR ds, dgR old, fnR, dgB dz, dgB dz, dgB x, dgB dz, hole] by kernel_rfl))
            | ((with_reducible apply Zq (nid := 7)); rfl; rfl; rfl; exact (show _ = [dsR ds, dgR old, fnR, dgB dz, dgB dz, dgB x, dgB dz, dgB dz] by kernel_rfl))
            | ((with_reducible apply Zj); rfl; exact (rfl : _ = Value.pointer (some ⟨6, _, _⟩)); exact (rfl : _ = Value.agg _); exact (show _ = some (6, dgB a') by kernel_rfl); exact (show _ = [dsR ds, dgR old, fnR, dgB dz, dgB dz, dgB x, dgB a', dgB dz] by kernel_rfl))
            | ((with_reducible apply Zj); rfl; exact (rfl : _ = Value.pointer (some ⟨7, _, _⟩)); exact (rfl : _ = Value.agg _); exact (show _ = some (7, dgB b') by kernel_rfl); exact (show _ = [dsR ds, dgR old, fnR, dgB dz, dgB dz, dgB x, dgB a', dgB b'] by kernel_rfl))
            | ((with_reducible apply Zg); rfl; rfl; exact (rfl : _ = Value.pointer (some ⟨5, _, _⟩)); exact (show _ = some (dgV x) by kernel_rfl))
            | ((with_reducible apply Zg); rfl; rfl; exact (rfl : _ = Value.pointer (some ⟨6, _, _⟩)); exact (show _ = some (dgV a') by kernel_rfl))
            | ((with_reducible apply Zg); rfl; rfl; exact (rfl : _ = Value.pointer (some ⟨7, _, _⟩)); exact (show _ = some (dgV b') by kernel_rfl))
            | ((with_reducible apply Zd); rfl; rfl; (first
            | exact (rfl : _ = Value.int _ _)
            | exact (rfl : _ = Value.bool _)
            | exact (rfl : _ = Value.slice _ _ _)
            | exact (rfl : _ = Value.tuple _)))
            | ((with_reducible apply Zc); rfl; rfl; (first
            | exact (rfl : _ = Value.int _ _)
            | exact (rfl : _ = Value.slice _ _ _)))
            | ((with_reducible apply Zi); rfl; rfl; (exact (rfl : _ = Value.int _ _)); (exact (rfl : _ = Value.int _ _)); (first
            | with_reducible exact Zrd (by omega)
            | with_reducible exact Zfc (by omega)
            | with_reducible exact Zb5 rfl (by omega) (by omega)))
            | ((with_reducible apply Zp); rfl; rfl; (exact (rfl : _ = some (Value.bool _))))
            | ((with_reducible apply Zg); rfl; rfl; exact (rfl : _ = Value.pointer (some ⟨_, _, _⟩)); (exact (rfl : _ = some (Value.func _ _ _))))
            | ((with_reducible apply Z5); rfl; rfl; rfl; (first
            | exact (rfl : _ = some (Value.slice _ _ _))
            | exact (rfl : _ = some (Value.agg _))))
            | ((with_reducible apply Zj); rfl; exact (rfl : _ = Value.pointer (some ⟨_, _, _⟩)); (exact (rfl : _ = Value.agg _)); (rfl); exact (rfl : _ = _ :: _))
            | ((with_reducible apply Zn); rfl; rfl)
            | ((with_reducible apply Zv (hS)); rfl; rfl; rfl; rfl; rfl; (exact (rfl : _ = Value.int _ _)))
            | ((with_reducible apply Zv (hK)); rfl; rfl; rfl; rfl; rfl; (exact (rfl : _ = Value.agg _)))
            | ((with_reducible apply Zv (hK2)); rfl; rfl; rfl; rfl; rfl; (exact (rfl : _ = Value.agg _)))
            | with_reducible refine Za ?_
            | with_reducible refine Zf ?_
            | with_reducible refine Ze ?_
            | with_reducible refine Z0 ?_
            | with_reducible refine Zw ?_
            | with_reducible refine Zb ?_
            | (with_reducible refine Zca (by kernel_rfl) ?_)
            | (with_reducible refine Zc4 (by kernel_rfl) ?_)
            | ((with_reducible apply Zr); rfl))
          refine Zy ?_
          exact Zo (v := .tuple #[dgV y, dgV z]) (by kernel_rfl) rfl rfl hend ⟨Za7 (Zaz fun _ => rfl) rfl, Za7 (Zaz fun _ => rfl) rfl, trivial⟩
end Go.Flat
namespace Go.Flat
open Go.Proofs
variable {G : Glob}
set_option maxRecDepth 20000 in
set_option maxHeartbeats 8000000 in
theorem Z0u (kk : Nat → BitVec 32) (old : D) : ∀ (n m : Nat) (kn : Bool) (ds : List D) (q c : Nat), ds.length = q → q ≤ 1000 → q ≤ c → 1 ≤ m → m ≤ n → n ≤ 1000000 → Zfm kk old m n kn ds = none →
    Zqh Tryd.prog G 43 [Iv (m : Nat), Iv (n : Nat), .bool kn, slv 0 0 q c, pt 1 0, pt 2 0] [dsR ds, dgR old, fnR] := by
  intro n
  induction n using Nat.strongRecOn with
  | ind n ih =>
    intro m kn ds q c hq hb hc h1 hmn hn hw
    refine Z15 (fn := Tryd.f43) (nt := 83) rfl rfl rfl rfl ?_
    refine Zah 3 (H' := [dsR ds, dgR old, fnR, hole, hole, hole]) rfl ?_
    by_cases hself : m = n ∧ kn = true
    · obtain ⟨rfl, rfl⟩ := hself
      rw [Zk8] at hw
      split at hw
      · cases hw
      · rename_i h0
        have hq0 : 0 < q := by omega
        repeat (first
          | ((with_reducible apply Zgi 2); exact rfl; exact (rfl : _ = [(⟨some 28, _, _, _, _, _⟩ : Oper), _]))
          | ((with_reducible apply Zq (nid := 3)); rfl; rfl; rfl; exact (show _ = [dsR ds, dgR old, fnR, dgB dz, hole, hole] by kernel_rfl))
          | ((with_reducible apply Zq (nid := 4)); rfl; rfl; rfl; exact (show _ = [dsR ds, dgR old, fnR, dgB dz, dgB dz, hole] by kernel_rfl))
          | ((with_reducible apply Zfh); rfl; rfl; exact (rfl : _ = Value.agg _); exact (rfl : _ = some (Value.iface _ _)))
          | ((with_reducible apply Zd); rfl; rfl; (first
          | exact (rfl : _ = Value.int _ _)
          | exact (rfl : _ = Value.bool _)
          | exact (rfl : _ = Value.slice _ _ _)))
          | ((with_reducible apply Zi); rfl; rfl; (exact (rfl : _ = Value.int _ _)); (exact (rfl : _ = Value.int _ _)); (first
          | with_reducible exact Zde (by omega)
          | with_reducible exact Zd2 (by omega)))
          | ((with_reducible apply Zbf); rfl; rfl; rfl; exact (rfl : _ = some (Value.agg _)))
          | ((with_reducible apply Zp); rfl; rfl; (exact (rfl : _ = some (Value.bool _))))
          | ((with_reducible apply Za6); rfl; rfl; (exact (rfl : _ = Value.slice _ _ _)); (exact (rfl : _ = some (Value.int _ _))))
          | with_reducible refine Za ?_
          | with_reducible refine Zf ?_
          | with_reducible refine Ze ?_
          | with_reducible refine Zb ?_
          | ((with_reducible apply Zu); rfl))
        refine Ze8 ⟨Zoh rfl rfl, fun u v => ?_⟩
        repeat (first | with_reducible refine Zf5 ?_ | with_reducible refine Zez ?_ | with_reducible refine Ze0 ?_)
        exact Zmo
    · by_cases h0 : q = 0
      · subst h0
        have hL := Zt4 (G := G) ds c hq
        by_cases he : m = n
        · subst he
          have hkn : kn = false := by cases kn <;> simp_all
          subst hkn
          repeat (first
            | ((with_reducible apply Zgi 1); exact (rfl : _ = some (⟨some 34, _, _, _, _, _⟩ : Oper)); exact (rfl : _ = [_]))
            | ((with_reducible apply Zq (nid := 3)); rfl; rfl; rfl; exact (show _ = [dsR ds, dgR old, fnR, dgB dz, hole, hole] by kernel_rfl))
            | ((with_reducible apply Zq (nid := 4)); rfl; rfl; rfl; exact (show _ = [dsR ds, dgR old, fnR, dgB dz, dgB dz, hole] by kernel_rfl))
            | ((with_reducible apply Zd); rfl; rfl; (first
            | exact (rfl : _ = Value.int _ _)
            | exact (rfl : _ = Value.bool _)
            | exact (rfl : _ = Value.slice _ _ _)))
            | ((with_reducible apply Zi); rfl; rfl; (exact (rfl : _ = Value.int _ _)); (exact (rfl : _ = Value.int _ _)); (with_reducible exact Zd2 (by omega)))
            | ((with_reducible apply Zp); rfl; rfl; (exact (rfl : _ = some (Value.bool _))))
            | with_reducible refine Za ?_
            | with_reducible refine Zf ?_
            | with_reducible refine Ze ?_
            | with_reducible refine Z0 ?_
            | with_reducible refine Zb ?_
            | ((with_reducible apply Zr); rfl))
          refine Ze8 ⟨Zm6 (e := [some (0, 0)]) hL rfl rfl rfl rfl rfl rfl rfl rfl ⟨⟨rfl, rfl, rfl, by omega, by omega⟩, trivial⟩ ⟨Zbu rfl rfl (by show 0 + (dsC _).length ≤ (dsC _).length; omega) (Zce _), trivial⟩, fun u v => ?_⟩
          repeat (first | with_reducible refine Zf5 ?_ | with_reducible refine Zez ?_ | with_reducible refine Ze0 ?_)
          exact Zmo
        repeat (first
          | ((with_reducible apply Zgi 1); exact (rfl : _ = some (⟨some 34, _, _, _, _, _⟩ : Oper)); exact (rfl : _ = [_]))
          | ((with_reducible apply Zq (nid := 3)); rfl; rfl; rfl; exact (show _ = [dsR ds, dgR old, fnR, dgB dz, hole, hole] by kernel_rfl))
          | ((with_reducible apply Zq (nid := 4)); rfl; rfl; rfl; exact (show _ = [dsR ds, dgR old, fnR, dgB dz, dgB dz, hole] by kernel_rfl))
          | ((with_reducible apply Zd); rfl; rfl; (first
          | exact (rfl : _ = Value.int _ _)
          | exact (rfl : _ = Value.bool _)
          | exact (rfl : _ = Value.slice _ _ _)))
          | ((with_reducible apply Zi); rfl; rfl; (exact (rfl : _ = Value.int _ _)); (exact (rfl : _ = Value.int _ _)); (with_reducible exact Zfc (by omega)))
          | ((with_reducible apply Zp); rfl; rfl; (exact (rfl : _ = some (Value.bool _))))
          | ((with_reducible apply Zn); rfl; rfl)
          | with_reducible refine Za ?_
          | with_reducible refine Zf ?_
          | with_reducible refine Ze ?_
          | with_reducible refine Z0 ?_
          | with_reducible refine Zb ?_
          | ((with_reducible apply Zr); rfl))
        refine Ze8 ⟨Zm6 (e := [some (0, 0)]) hL rfl rfl rfl rfl rfl rfl rfl rfl ⟨⟨rfl, rfl, rfl, by omega, by omega⟩, trivial⟩ ⟨Zbu rfl rfl (by show 0 + (dsC _).length ≤ (dsC _).length; omega) (Zce _), trivial⟩, fun u v => ?_⟩
        repeat (first | with_reducible refine Zf5 ?_ | with_reducible refine Zez ?_ | with_reducible refine Ze0 ?_)
        exact Zmo
      · obtain ⟨q, rfl⟩ : ∃ p, q = p + 1 := ⟨q - 1, by omega⟩
        have hL := Zob (G := G) ds q c hq (by omega) hc
        have hgd : ds.getD (ds.length - 1) d0 = ds.getD q d0 := by rw [hq]; rfl
        have htk : ds.take (ds.length - 1) = sub ds 0 q := by rw [hq]; simp [sub]
        by_cases he : m = n
        · subst he
          have hkn : kn = false := by cases kn <;> simp_all
          subst hkn
          rw [Zmr kk old m (by omega)] at hw
          split at hw
          · cases hw
          · rename_i hq1
            have hq0 : 0 < q := by omega
            generalize ds.getD q d0 = x at *
            repeat (first
              | ((with_reducible apply Zgi 2); exact rfl; exact (rfl : _ = [(⟨some 43, _, _, _, _, _⟩ : Oper), _]))
              | ((with_reducible apply Zq (nid := 3)); rfl; rfl; rfl; exact (show _ = [dsR ds, dgR old, fnR, dgB dz, hole, hole] by kernel_rfl))
              | ((with_reducible apply Zq (nid := 4)); rfl; rfl; rfl; exact (show _ = [dsR ds, dgR old, fnR, dgB dz, dgB dz, hole] by kernel_rfl))
              | ((with_reducible apply Zq (nid := 5)); rfl; rfl; rfl; exact (show _ = [dsR ds, dgR old, fnR, dgB dz, dgB dz, dgB dz] by kernel_rfl))
              | ((with_reducible apply Zab (e := [some (0, 0)]) (nid := 0) hL); rfl; rfl; rfl; rfl; rfl; rfl; rfl; refine ⟨⟨⟨rfl, rfl, rfl, by omega, by omega⟩, trivial⟩, ⟨Zbu rfl rfl (by show 0 + (dsC _).length ≤ (dsC _).length; omega) (Zce _), trivial⟩, rfl, rfl, rfl⟩; exact (show _ = Value.tuple #[dgV x, slv 0 0 q c] by kernel_rfl); exact (rfl : _ = _ :: _))
              | ((with_reducible apply Zj); rfl; exact (rfl : _ = Value.pointer (some ⟨5, _, _⟩)); exact (rfl : _ = Value.agg _); exact (show _ = some (5, dgB x) by kernel_rfl); exact (show _ = [dsR ds, dgR old, fnR, dgB dz, dgB dz, dgB x] by kernel_rfl))
              | ((with_reducible apply Zfh); rfl; rfl; exact (rfl : _ = Value.agg _); exact (rfl : _ = some (Value.iface _ _)))
              | ((with_reducible apply Zd); rfl; rfl; (first
              | exact (rfl : _ = Value.int _ _)
              | exact (rfl : _ = Value.bool _)
              | exact (rfl : _ = Value.slice _ _ _)
              | exact (rfl : _ = Value.tuple _)))
              | ((with_reducible apply Zc); rfl; rfl; (exact (rfl : _ = Value.slice _ _ _)))
              | ((with_reducible apply Zi); rfl; rfl; (exact (rfl : _ = Value.int _ _)); (exact (rfl : _ = Value.int _ _)); (first
              | with_reducible exact Zde (by omega)
              | with_reducible exact Zd2 (by omega)))
              | ((with_reducible apply Zbf); rfl; rfl; rfl; exact (rfl : _ = some (Value.agg _)))
              | ((with_reducible apply Zp); rfl; rfl; (exact (rfl : _ = some (Value.bool _))))
              | ((with_reducible apply Za6); rfl; rfl; (exact (rfl : _ = Value.slice _ _ _)); (exact (rfl : _ = some (Value.int _ _))))
              | ((with_reducible apply Z5); rfl; rfl; rfl; (first
              | exact (rfl : _ = some (Value.slice _ _ _))
              | exact (rfl : _ = some (Value.agg _))))
              | with_reducible refine Za ?_
              | with_reducible refine Zf ?_
              | with_reducible refine Ze ?_
              | with_reducible refine Z0 ?_
              | with_reducible refine Zb ?_
              | ((with_reducible apply Zu); rfl)
              | ((with_reducible apply Zr); rfl))
            refine Ze8 ⟨Zoh rfl rfl, fun u v => ?_⟩
            repeat (first | with_reducible refine Zf5 ?_ | with_reducible refine Zez ?_ | with_reducible refine Ze0 ?_)
            exact Zmo
        · have hS := Zil (G := G) (n : Int) (by omega)
          have hsz : Zct (n : Int) = (Zz n : Nat) := (Zdt (n := n) (by omega)).2.2
          rw [hsz] at hS
          obtain ⟨p1, p2⟩ := Zb1 (n := n) (by omega)
          have w1 := Zoz kk old (m := m) (n := n) kn (ds := ds) (by omega) h1 (by omega)
          have w2 := Zoy kk old (m := m) (n := n) kn (ds := ds) (by omega) h1 (by omega)
          rw [hgd, htk] at w1 w2
          generalize ds.getD q d0 = x at *
          generalize Zz n = k at *
          by_cases hk : m ≤ k
          · rw [w1 hk, Option.map_eq_none_iff] at hw
            have hR := ih k p2 m kn (sub ds 0 q) q c (Zau (by omega)) (by omega) (by omega) h1 hk (by omega) hw
            repeat (first
              | ((with_reducible apply Zgi 5); exact (rfl : _ = some (⟨some 58, _, _, _, _, _⟩ : Oper)); exact (rfl : _ = [_, _, _, _, _]))
              | ((with_reducible apply Zq (nid := 3)); rfl; rfl; rfl; exact (show _ = [dsR ds, dgR old, fnR, dgB dz, hole, hole] by kernel_rfl))
              | ((with_reducible apply Zq (nid := 4)); rfl; rfl; rfl; exact (show _ = [dsR ds, dgR old, fnR, dgB dz, dgB dz, hole] by kernel_rfl))
              | ((with_reducible apply Zq (nid := 5)); rfl; rfl; rfl; exact (show _ = [dsR ds, dgR old, fnR, dgB dz, dgB dz, dgB dz] by kernel_rfl))
              | ((with_reducible apply Zab (e := [some (0, 0)]) (nid := 0) hL); rfl; rfl; rfl; rfl; rfl; rfl; rfl; refine ⟨⟨⟨rfl, rfl, rfl, by omega, by omega⟩, trivial⟩, ⟨Zbu rfl rfl (by show 0 + (dsC _).length ≤ (dsC _).length; omega) (Zce _), trivial⟩, rfl, rfl, rfl⟩; exact (show _ = Value.tuple #[dgV x, slv 0 0 q c] by kernel_rfl); exact (rfl : _ = _ :: _))
              | ((with_reducible apply Zj); rfl; exact (rfl : _ = Value.pointer (some ⟨5, _, _⟩)); exact (rfl : _ = Value.agg _); exact (show _ = some (5, dgB x) by kernel_rfl); exact (show _ = [dsR ds, dgR old, fnR, dgB dz, dgB dz, dgB x] by kernel_rfl))
              | ((with_reducible apply Zg); rfl; rfl; exact (rfl : _ = Value.pointer (some ⟨2, _, _⟩)); exact (rfl : _ = some (Value.func _ _ _)))
              | ((with_reducible apply Zd); rfl; rfl; (first
              | exact (rfl : _ = Value.int _ _)
              | exact (rfl : _ = Value.bool _)
              | exact (rfl : _ = Value.slice _ _ _)
              | exact (rfl : _ = Value.tuple _)))
              | ((with_reducible apply Zc); rfl; rfl; (first
              | exact (rfl : _ = Value.int _ _)
              | exact (rfl : _ = Value.slice _ _ _)))
              | ((with_reducible apply Zi); rfl; rfl; (exact (rfl : _ = Value.int _ _)); (exact (rfl : _ = Value.int _ _)); (first
              | with_reducible exact Zre (by omega)
              | with_reducible exact Zfc (by omega)))
              | ((with_reducible apply Zp); rfl; rfl; (exact (rfl : _ = some (Value.bool _))))
              | ((with_reducible apply Z5); rfl; rfl; rfl; (first
              | exact (rfl : _ = some (Value.slice _ _ _))
              | exact (rfl : _ = some (Value.agg _))))
              | ((with_reducible apply Zn); rfl; rfl)
              | ((with_reducible apply Zv (hS)); rfl; rfl; rfl; rfl; rfl; (exact (rfl : _ = Value.int _ _)))
              | with_reducible refine Za ?_
              | with_reducible refine Zf ?_
              | with_reducible refine Ze ?_
              | with_reducible refine Z0 ?_
              | with_reducible refine Zb ?_
              | ((with_reducible apply Zu); rfl)
              | ((with_reducible apply Zr); rfl))
            refine Ze8 ⟨Zm6 (e := [some (0, 0), some (1, 0), some (2, 0)]) hR rfl rfl rfl rfl rfl rfl rfl rfl ⟨rfl, rfl, rfl, ⟨rfl, rfl, rfl, by omega, by omega⟩, ⟨rfl, rfl⟩, ⟨rfl, rfl⟩, trivial⟩ ⟨Zg1 rfl (.inl rfl) (by omega) rfl, Zd8 rfl rfl rfl rfl, Zd8 rfl rfl rfl (by kernel_rfl), trivial⟩, fun u v => ?_⟩
            repeat (first | with_reducible refine Zf5 ?_ | with_reducible refine Zez ?_ | with_reducible refine Ze0 ?_)
            exact Zmo
          · rw [w2 (by omega), Option.map_eq_none_iff] at hw
            have hR := ih (n - k) (by omega) (m - k) false (sub ds 0 q) q c (Zau (by omega)) (by omega) (by omega) (by omega) (by omega) (by omega) hw
            rw [show ((m - k : Nat) : Int) = (m : Int) - k from by omega, show ((n - k : Nat) : Int) = (n : Int) - k from by omega] at hR
            repeat (first
              | ((with_reducible apply Zgi 8); exact (rfl : _ = some (⟨some 74, _, _, _, _, _⟩ : Oper)); exact (rfl : _ = [_, _, _, _, _, _, _, _]))
              | ((with_reducible apply Zq (nid := 3)); rfl; rfl; rfl; exact (show _ = [dsR ds, dgR old, fnR, dgB dz, hole, hole] by kernel_rfl))
              | ((with_reducible apply Zq (nid := 4)); rfl; rfl; rfl; exact (show _ = [dsR ds, dgR old, fnR, dgB dz, dgB dz, hole] by kernel_rfl))
              | ((with_reducible apply Zq (nid := 5)); rfl; rfl; rfl; exact (show _ = [dsR ds, dgR old, fnR, dgB dz, dgB dz, dgB dz] by kernel_rfl))
              | ((with_reducible apply Zab (e := [some (0, 0)]) (nid := 0) hL); rfl; rfl; rfl; rfl; rfl; rfl; rfl; refine ⟨⟨⟨rfl, rfl, rfl, by omega, by omega⟩, trivial⟩, ⟨Zbu rfl rfl (by show 0 + (dsC _).length ≤ (dsC _).length; omega) (Zce _), trivial⟩, rfl, rfl, rfl⟩; exact (show _ = Value.tuple #[dgV x, slv 0 0 q c] by kernel_rfl); exact (rfl : _ = _ :: _))
              | ((with_reducible apply Zj); rfl; exact (rfl : _ = Value.pointer (some ⟨5, _, _⟩)); exact (rfl : _ = Value.agg _); exact (show _ = some (5, dgB x) by kernel_rfl); exact (show _ = [dsR ds, dgR old, fnR, dgB dz, dgB dz, dgB x] by kernel_rfl))
              | ((with_reducible apply Zg); rfl; rfl; exact (rfl : _ = Value.pointer (some ⟨2, _, _⟩)); exact (rfl : _ = some (Value.func _ _ _)))
              | ((with_reducible apply Zd); rfl; rfl; (first
              | exact (rfl : _ = Value.int _ _)
              | exact (rfl : _ = Value.bool _)
              | exact (rfl : _ = Value.slice _ _ _)
              | exact (rfl : _ = Value.tuple _)))
              | ((with_reducible apply Zc); rfl; rfl; (first
              | exact (rfl : _ = Value.int _ _)
              | exact (rfl : _ = Value.slice _ _ _)))
              | ((with_reducible apply Zi); rfl; rfl; (exact (rfl : _ = Value.int _ _)); (exact (rfl : _ = Value.int _ _)); (first
              | with_reducible exact Zrd (by omega)
              | with_reducible exact Zfc (by omega)
              | with_reducible exact Zb5 rfl (by omega) (by omega)))
              | ((with_reducible apply Zp); rfl; rfl; (exact (rfl : _ = some (Value.bool _))))
              | ((with_reducible apply Z5); rfl; rfl; rfl; (first
              | exact (rfl : _ = some (Value.slice _ _ _))
              | exact (rfl : _ = some (Value.agg _))))
              | ((with_reducible apply Zn); rfl; rfl)
              | ((with_reducible apply Zv (hS)); rfl; rfl; rfl; rfl; rfl; (exact (rfl : _ = Value.int _ _)))
              | with_reducible refine Za ?_
              | with_reducible refine Zf ?_
              | with_reducible refine Ze ?_
              | with_reducible refine Z0 ?_
              | with_reducible refine Zb ?_
              | ((with_reducible apply Zr); rfl))
            refine Ze8 ⟨Zm6 (e := [some (0, 0), some (1, 0), some (2, 0)]) hR rfl rfl rfl rfl rfl rfl rfl rfl ⟨rfl, rfl, rfl, ⟨rfl, rfl, rfl, by omega, by omega⟩, ⟨rfl, rfl⟩, ⟨rfl, rfl⟩, trivial⟩ ⟨Zg1 rfl (.inl rfl) (by omega) rfl, Zd8 rfl rfl rfl rfl, Zd8 rfl rfl rfl (by kernel_rfl), trivial⟩, fun u v => ?_⟩
            repeat (first | with_reducible refine Zf5 ?_ | with_reducible refine Zez ?_ | with_reducible refine Ze0 ?_)
            exact Zmo
end Go.Flat
