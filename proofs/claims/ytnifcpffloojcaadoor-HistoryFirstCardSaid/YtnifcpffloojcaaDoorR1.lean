/- Walks and plain laws: what each theorem says, within the bounds that it names. -/
import Derived.Test.YtnifcpffloojcaaDoorQ2
import Derived.Test.YtnifcpffloojcaaDoorE5
set_option linter.unusedVariables false
set_option linter.unusedSimpArgs false
set_option maxRecDepth 20000
namespace Go.Flat
open Go.Proofs
variable {G : Glob}
theorem hroot_c (kk : Nat → BitVec 32) (hG : G 3 = some (rowE w32 64 kk)) (hG1 : G 1 = some (rowE u8N 64 dbF)) (l : List Item) (n c : Nat) (hn : l.length = n) (hc : n ≤ c) (hb : n ≤ 1048576) (k : Int) {d : D} {z : Int} (h : rootH kk l k = (d, z)) : CallL Tryd.prog G 11 [slv 0 0 n c, .int .i64 k] [rwR cItem l] (.tuple #[dgV d, .int .i64 z]) [rwR cItem l] := by
  have q := HRoot_ok (G := G) kk hG hG1 l n c hn hc hb k
  rw [h] at q; exact q
theorem hinc_c (kk : Nat → BitVec 32) (hG : G 3 = some (rowE w32 64 kk)) (hG1 : G 1 = some (rowE u8N 64 dbF)) (l : List Item) (n c : Nat) (hn : l.length = n) (hc : n ≤ c) (hb : n ≤ 1048576) (k i : Int) {d : List D} {z : Int} (h : incH kk l k i = (d, z)) : CallL Tryd.prog G 17 [slv 0 0 n c, .int .i64 k, .int .i64 i] [rwR cItem l] (.tuple #[slv 1 0 d.length d.length, .int .i64 z]) [rwR cItem l, dsB d] := by
  have q := HIncl_ok (G := G) kk hG hG1 l n c hn hc hb k i
  rw [h] at q; exact q
theorem hcon_c (kk : Nat → BitVec 32) (hG : G 3 = some (rowE w32 64 kk)) (hG1 : G 1 = some (rowE u8N 64 dbF)) (l : List Item) (n c : Nat) (hn : l.length = n) (hc : n ≤ c) (hb : n ≤ 1048576) (i k : Int) {d : List D} {z : Int} (h : conH kk l i k = (d, z)) : CallL Tryd.prog G 19 [slv 0 0 n c, .int .i64 i, .int .i64 k] [rwR cItem l] (.tuple #[slv 1 0 d.length d.length, .int .i64 z]) [rwR cItem l, dsB d] := by
  have q := HCons_ok (G := G) kk hG hG1 l n c hn hc hb i k
  rw [h] at q; exact q
end Go.Flat
