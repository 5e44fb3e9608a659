/- Walks and plain laws: what each theorem says, within the bounds that it names. -/
import Derived.Test.YtajjalickpkkkaaDoorX18
set_option linter.unusedVariables false
set_option linter.unusedSimpArgs false
namespace Go.Flat
open Go.Proofs
variable {G : Glob}
theorem Cons_bad (ds : List D) (c n : Nat) (i : Int) (hn : ds.length = n) (h : i < 0 ∨ (n : Int) < i) : CallL Tryd.prog G 20 [slv 0 0 n c, .int .i64 i] [dsR ds] (.tuple #[nilS, .int .i64 21]) [dsR ds] := by subst hn; exact Consistency_bad ds c i h
theorem Cons_zero (ds : List D) (c n : Nat) (hn : ds.length = n) : CallL Tryd.prog G 20 [slv 0 0 n c, .int .i64 0] [dsR ds] (.tuple #[nilS, .int .i64 0]) [dsR ds] := by subst hn; exact Consistency_zero ds c
theorem Incl_bad (ds : List D) (c n : Nat) (i : Int) (hn : ds.length = n) (h : i < 0 ∨ (n : Int) ≤ i) : CallL Tryd.prog G 22 [slv 0 0 n c, .int .i64 i] [dsR ds] (.tuple #[nilS, .int .i64 20]) [dsR ds] := by subst hn; exact Inclusion_bad ds c i h
theorem Of1_ok (kk : Nat → BitVec 32) (hG : G 1 = some (rowE w32 64 kk)) (s : ByteArray) (h : s.size ≤ 1000000) : CallL Tryd.prog G 19 [slv 0 0 1 1] [strB [s]] (dgV (shaOf kk (bl s))) [strB [s]] := by
  have := Of_ok (G := G) kk hG [s] 1 (by simp) (fun x hx => by rw [List.mem_singleton] at hx; subst hx; omega)
  rwa [show msgOf [s] = bl s by simp [msgOf]] at this
theorem root_subz (kk : Nat → BitVec 32) {ds : List D} {i : Nat} (h : i = 0) : rootI kk (sub ds 0 i) = shaOf kk [] := by subst h; simp [sub, rootI]
theorem goes_zero' (kk : Nat → BitVec 32) {m : Int} {n : Nat} {a r : D} {X : List D} (hm : m = 0) (ha : a = shaOf kk []) (hr : rootI kk X = r) (h1 : n ≤ 100000) (hl : X.length = n) : goesE kk m a (n : Nat) r [] = 0 := by
  subst hm; subst ha; subst hr; exact goes_zero kk (n : Int) X (by omega) (by omega) hl
theorem take_sub {ds : List D} {i k : Nat} (h : i ≤ k) : (sub ds 0 k).take i = sub ds 0 i := by
  rw [sub_eqt, sub_eqt, List.take_take, Nat.min_eq_left h]
end Go.Flat
