/- Walks. -/
import Derived.Test.YtlnggiomppkjmaaDoorXB
set_option linter.unusedVariables false
set_option linter.unusedSimpArgs false
set_option maxRecDepth 20000
namespace Go.Flat
open Go.Proofs
variable {G : Glob}
structure Field where
  tag : Int
  data : ByteArray
def fdC (f : Field) : List Value := [.int .i64 f.tag, .string f.data]
def fdV (f : Field) : Value := .agg (fdC f).toArray
def cFd : Cod Field := ⟨fdC, 2, fun _ => rfl, by decide⟩
instance : Inhabited Field := ⟨⟨0, ⟨#[]⟩⟩⟩

def Zmm : Nat → Nat → Nat → D → Bs
  | 0, _, a, b => (Zmt 8 b).drop a
  | f + 1, n, a, b => if n = 0 then (Zmt 8 b).drop a else Zmm f (n / 256) (a - 1) (Zhb b (a - 1) (BitVec.ofInt 8 (n : Int)))
theorem Zxq (f a : Nat) (b : D) : Zmm f 0 a b = (Zmt 8 b).drop a := by cases f <;> simp [Zmm]
theorem Zut {k a : Nat} (hk : k < 256 ^ a) (h : 1 ≤ k) : 1 ≤ a := by
 cases a with
 | zero => simp at hk; omega
 | succ a => omega
theorem Zxp {a k q a' : Nat} {b : D} {x : BitVec 8} {R : Bs} (hR : Zmm a k a b = R) (hk : k < 256 ^ a) (h1 : 0 < k) (hx : x = BitVec.ofInt 8 (k : Int)) (ha' : a = a' + 1) (hq : q = k / 256 := by rfl) (h8 : a ≤ 8 := by omega) : Zmm a' q a' (Zhb b a' x) = R ∧ q < 256 ^ a' ∧ a' ≤ 8 := by
 subst ha'; subst hx; subst hq
 refine ⟨?_, ?_, by omega⟩
 ·rw [Zmm, if_neg (by omega)] at hR; exact hR
 ·rw [Nat.pow_succ] at hk; exact Nat.div_lt_of_lt_mul (by omega)
def Zp (n : Int) : ByteArray × Int := if 0 ≤ n ∧ n ≤ 4611686018427387903 then (Zo (Zmm 8 n.toNat 8 dz), 0) else (⟨#[]⟩, 1)
theorem Zpr (n : Int) (hl : -9223372036854775808 ≤ n) (hh : n ≤ 9223372036854775807) : Z6 Tryd.prog G 88 [Iv n] [] (.tuple #[.string (Zp n).1, Iv (Zp n).2]) [] := by
  refine Zbh (fn := Tryd.f88) (nt := 25) rfl rfl rfl rfl ?_
  refine Zaf 1 (H' := [hole]) rfl ?_
  refine Zf (Zg (Zb (.string ⟨#[]⟩) (Zb (Iv 0) (Za (Zc (Zf (Zf (Zg (Zd (Iv n) ?_)))))))))
  by_cases h1 : n < 0
  refine Zl (vx := Iv n) (vy := Iv 0) rfl rfl (.bool true) rfl rfl (Zck (by omega)) ?_
  refine Zd (.bool true) (Ze (Ze (Zk (.bool true) (Za (Zc (Zy rfl (Zf (Zg (Zb (.string ⟨#[]⟩) (Zb (Iv 1) (Za (Zc (Zr (Z2 (Zt ?_)))))))))))))))
  rw [show Zp n = (⟨#[]⟩, 1) from if_neg (by omega)]
  exact Zm (v := .tuple #[.string ⟨#[]⟩, Iv 1]) rfl rfl rfl (by kernel_rfl) ⟨rfl, rfl, trivial⟩
  refine Zl (vx := Iv n) (vy := Iv 0) rfl rfl (.bool false) rfl rfl (Zcd (by omega)) ?_
  refine Zd (.bool false) (Zd (Iv n) ?_)
  by_cases h2 : 4611686018427387903 < n
  refine Zl (vx := Iv n) (vy := Iv 4611686018427387903) rfl rfl (.bool true) rfl rfl (Zfs (by omega)) ?_
  refine Zk (.bool true) (Za (Zc (Zy rfl (Zf (Zg (Zb (.string ⟨#[]⟩) (Zb (Iv 1) (Za (Zc (Zr (Z2 (Zt ?_))))))))))))
  rw [show Zp n = (⟨#[]⟩, 1) from if_neg (by omega)]
  exact Zm (v := .tuple #[.string ⟨#[]⟩, Iv 1]) rfl rfl rfl (by kernel_rfl) ⟨rfl, rfl, trivial⟩
  refine Zl (vx := Iv n) (vy := Iv 4611686018427387903) rfl rfl (.bool false) rfl rfl (Zfr (by omega)) ?_
  refine Zk (.bool false) (Za (Zc (Zu rfl (Zz (Zc (Zf ?_))))))
  obtain ⟨m, rfl⟩ : ∃ x0 : Nat, n = (x0 : Int) := ⟨n.toNat, by omega⟩
  refine Zg (Za9 (b := bxB 8 (Zah w8 8 dz)) (nid := 0) (H' := [bxB 8 (Zah w8 8 dz)]) (Za (Zc (Zf (Zg (Zb (Iv 8) (Za (Zc (Zf (Z8 ?_))))))))))
  refine Zbt (fun x : Nat × Nat × D => match x with | (k, a, b) => [Iv (k : Nat), dead, .string ⟨#[]⟩, Iv 0, pt 0 0, Iv (a : Nat), Iv (m : Nat), .bool false, .bool false, Iv (m : Nat), .bool false, .bool false]) (fun x : Nat × Nat × D => match x with | (k, a, b) => [bxB 8 (Zah w8 8 b)]) (fun x : Nat × Nat × D => match x with | (k, a, b) => Zmm a k a b = Zmm 8 m 8 dz ∧ k < 256 ^ a ∧ a ≤ 8) (fun x : Nat × Nat × D => match x with | (k, a, b) => a) (m, 8, dz) ⟨rfl, by omega, by omega⟩ ?_ ?_
  · refine Zaj (n := 1) rfl ?_ (by kernel_rfl) (by kernel_rfl)
    repeat (first | exact trivial | refine ⟨.inl rfl, ?_⟩ | refine ⟨.inr ⟨rfl, rfl⟩, ?_⟩ | refine ⟨.inr ⟨congrArg (Value.int .i64) (by first | omega | (dsimp only; omega)), rfl⟩, ?_⟩)
  rintro ⟨k, a, b⟩ ⟨hR, hk, ha⟩
  dsimp only at *
  refine Zf (Zf (Zg (Zd (Iv (k : Nat)) ?_)))
  by_cases h3 : 0 < (k : Nat)
  refine Zl (vx := Iv (k : Nat)) (vy := Iv 0) rfl rfl (.bool true) rfl rfl (Zfs (by omega)) ?_
  refine Za (Zc (Zy rfl (Zz (Zc (Zf (Z8 (Zf ?_)))))))
  have h1a := Zut hk (by omega)
  refine Zg (Zd (Iv (a : Nat)) ?_)
  refine Zl (vx := Iv (a : Nat)) (vy := Iv 1) rfl rfl (Iv ((a : Nat) - 1)) rfl rfl (Zhh (by omega) (by omega) (by omega)) ?_
  refine Zb (Iv ((a : Nat) - 1)) (Za (Zc (Zg (Zd (Iv ((a : Nat) - 1)) (Zd (Iv (k : Nat)) ?_)))))
  refine Zgj (w := Iv (k : Nat)) (v := w8 (BitVec.ofInt 8 (k : Nat))) rfl rfl rfl (Zn4 rfl rfl rfl) ?_
  refine Zdn (b := 0) (o := 0) (j := a - 1) (n := 8) (sz := 1) (i := (a : Nat) - 1) (k := .i64) rfl rfl rfl rfl rfl (by omega) (by omega) (by omega) ?_
  refine Zc0 (p := pt 0 (a - 1)) (v := w8 (BitVec.ofInt 8 (k : Nat))) (b := 0) (blk := bxB 8 (Zah w8 8 (Zhb b (a - 1) (BitVec.ofInt 8 (k : Nat))))) (H' := [bxB 8 (Zah w8 8 (Zhb b (a - 1) (BitVec.ofInt 8 (k : Nat))))]) rfl rfl rfl (Zg9 (blk := bxB 8 (Zah w8 8 b)) (i := a - 1) (enc := w8) (n := 8) (w := b) (x := (BitVec.ofInt 8 (k : Nat))) rfl rfl rfl rfl rfl (by omega) rfl rfl) (by kernel_rfl) ?_
  refine Za (Z7 (Zc (Zg (Zd (Iv (k : Nat)) ?_))))
  refine Zl (vx := Iv (k : Nat)) (vy := .int .u64 8) rfl rfl (Iv (((k / 256) : Nat) : Int)) rfl rfl (Z0v 8 (by omega) (by omega) (by omega) (by omega)) ?_
  refine Zb (Iv (((k / 256) : Nat) : Int)) (Za ?_)
  refine Zag ⟨((k / 256), (a - 1), (Zhb b (a - 1) (BitVec.ofInt 8 (k : Nat)))), Zxp (a' := a - 1) hR hk (by omega) rfl (by omega), by show a - 1 < a; omega, ?_⟩
  refine Zaj (n := 1) rfl ?_ (by kernel_rfl) (by kernel_rfl)
  repeat (first | exact trivial | refine ⟨.inl rfl, ?_⟩ | refine ⟨.inr ⟨rfl, rfl⟩, ?_⟩ | refine ⟨.inr ⟨congrArg (Value.int .i64) (by first | omega | (dsimp only; omega)), rfl⟩, ?_⟩)
  refine Zl (vx := Iv (k : Nat)) (vy := Iv 0) rfl rfl (.bool false) rfl rfl (Zfr (by omega)) ?_
  refine Za (Zc (Zu rfl (Zbm (Zaq (Zax (Zav rfl (Zc (Zf (Zg (Zd (Iv (a : Nat)) ?_))))))))))
  refine Zcz (p := pt 0 0) (vl := some (Iv (a : Nat))) (vh := none) (v := slv 0 a (8 - a) (8 - a)) rfl rfl rfl rfl rfl (Zx3 (sz := 1) (l := a) (h := 8) rfl rfl rfl (Z31 (by omega) (by omega)) rfl (by omega) (by omega) (by omega)) ?_
  refine Zjm (p := slv 0 a (8 - a) (8 - a)) (v := .string (Zo (((Zmt 8 b).drop a).take (8 - a)))) rfl rfl rfl (Zwk (l := Zmt 8 b) rfl rfl rfl rfl (Zx0 _ _) (by rw [Zlt]; omega) rfl) ?_
  refine Zb (.string (Zo (((Zmt 8 b).drop a).take (8 - a)))) (Zb (Iv 0) (Za (Zc (Zr (Zt ?_)))))
  have e : Zp (m : Nat) = ((Zo (((Zmt 8 b).drop a).take (8 - a))), 0) := by
    rw [show Zp (m : Nat) = (Zo (Zmm 8 m 8 dz), 0) from if_pos (by omega), ← hR]
    obtain rfl : k = 0 := by omega
    rw [Zxq, List.take_of_length_le (by rw [List.length_drop, Zlt]; omega)]
  rw [e]
  exact Zm (v := .tuple #[.string (Zo (((Zmt 8 b).drop a).take (8 - a))), Iv 0]) rfl rfl rfl (by kernel_rfl) ⟨rfl, rfl, trivial⟩
end Go.Flat
namespace Go.Flat
open Go.Proofs
variable {G : Glob}
def Zim (f : Field) : Bs := [BitVec.ofInt 8 f.tag, BitVec.ofInt 8 (f.data.size / 65536 : Nat), BitVec.ofInt 8 (f.data.size / 256 : Nat), BitVec.ofInt 8 (f.data.size : Nat)] ++ bl f.data
def Ze0 (f : Field) (last : Int) : Int :=
  if 255 < f.tag then 1 else
  if f.tag ≤ last then 1 else
  if 65536 < (f.data.size : Nat) then 2 else
  0
theorem Z4o (f : Field) (last : Int) : Z6 Tryd.prog G 94 [fdV f, Iv last] [] (Iv (Ze0 f last)) [] := by
 refine Zbh (fn := Tryd.f94) (nt := 21) rfl rfl rfl rfl ?_
 refine Zaf 1 (H' := [hole]) rfl ?_
 refine Zf (Zg (Zb7 (v := fdV f) (b := bxB 2 (fdC f)) (nid := 0) (H' := [bxB 2 (fdC f)]) (Zb (Iv 0) (Za (Zc (Zf (Zg (Zb (Iv 0) (Za (Zc (Zf (Z8 (Zf (Z8 (Zf (Z8 (Z8 (Zf (Zf (Zf (Zg (Zh (b := 0) (o := 0) (n := 0) (o' := 0) (Zn (p := pt 0 0) (v := Iv f.tag) ?_)))))))))))))))))))))))
 by_cases h1 : 255 < f.tag
 refine Zl (vx := Iv f.tag) (vy := Iv 255) rfl rfl (.bool true) rfl rfl (Zfs (by omega)) ?_
 refine Zb (.bool true) (Za (Zc (Zy rfl (Zbm (Zaq (Zaq (Zav rfl (Z7 (Zc (Zf (Zg (Zb (Iv 1) (Za (Zc (Zbm (Zm8 rfl (Zaq (Zav rfl (Zc (Zf (Zg (Zd (Iv 1) (Zb (Iv 1) (Za (Zc (Zr (Zt ?_)))))))))))))))))))))))))))
 rw [show Ze0 f last = 1 from by unfold Ze0; rw [if_pos h1]]
 exact Zm (v := Iv 1) rfl rfl rfl (by kernel_rfl) rfl
 refine Zl (vx := Iv f.tag) (vy := Iv 255) rfl rfl (.bool false) rfl rfl (Zfr (by omega)) ?_
 refine Zb (.bool false) (Za (Zc (Zu rfl (Zz (Zc (Zf (Zf (Zg (Zh (b := 0) (o := 0) (n := 0) (o' := 0) (Zn (p := pt 0 0) (v := Iv f.tag) (Zd (Iv last) ?_)))))))))))
 by_cases h2 : f.tag ≤ last
 refine Zl (vx := Iv f.tag) (vy := Iv last) rfl rfl (.bool true) rfl rfl (Zlg (by omega)) ?_
 refine Zb (.bool true) (Za (Zc (Zy rfl (Zbm (Zaq (Zaq (Zm8 rfl (Zav rfl (Zc (Zf (Zg (Zb (Iv 1) (Za (Zc (Zbm (Zm8 rfl (Zaq (Zav rfl (Zc (Zf (Zg (Zd (Iv 1) (Zb (Iv 1) (Za (Zc (Zr (Zt ?_)))))))))))))))))))))))))))
 rw [show Ze0 f last = 1 from by unfold Ze0; rw [if_neg h1, if_pos h2]]
 exact Zm (v := Iv 1) rfl rfl rfl (by kernel_rfl) rfl
 refine Zl (vx := Iv f.tag) (vy := Iv last) rfl rfl (.bool false) rfl rfl (Zlf (by omega)) ?_
 refine Zb (.bool false) (Za (Zc (Zu rfl (Zz (Zc (Zf (Zg (Zh (b := 0) (o := 0) (n := 1) (o' := 1) (Zn (p := pt 0 1) (v := .string f.data) (Zaw (p := .string f.data) (v := Iv (f.data.size : Nat)) ?_))))))))))
 by_cases h3 : 65536 < (f.data.size : Nat)
 refine Zl (vx := Iv (f.data.size : Nat)) (vy := Iv 65536) rfl rfl (.bool true) rfl rfl (Zfs (by omega)) ?_
 refine Zb (.bool true) (Za (Zc (Zy rfl (Zbm (Zaq (Zm8 rfl (Zm8 rfl (Zaq (Zav rfl (Zc (Zf (Zg (Zb (Iv 2) (Za (Zc (Zbm (Zav rfl (Zc (Zf (Zg (Zd (Iv 2) (Zb (Iv 2) (Za (Zc (Zr (Zt ?_))))))))))))))))))))))))))
 rw [show Ze0 f last = 2 from by unfold Ze0; rw [if_neg h1, if_neg h2, if_pos h3]]
 exact Zm (v := Iv 2) rfl rfl rfl (by kernel_rfl) rfl
 refine Zl (vx := Iv (f.data.size : Nat)) (vy := Iv 65536) rfl rfl (.bool false) rfl rfl (Zfr (by omega)) ?_
 refine Zb (.bool false) (Za (Zc (Zu rfl (Zz (Zc (Zbm (Zm8 rfl (Zm8 rfl (Zaq (Zm8 rfl (Zaq (Zav rfl (Zc (Zf (Zg (Zd (Iv 0) (Zb (Iv 0) (Za (Zc (Zr (Zt ?_)))))))))))))))))))))
 rw [show Ze0 f last = 0 from by unfold Ze0; rw [if_neg h1, if_neg h2, if_neg h3]]
 exact Zm (v := Iv 0) rfl rfl rfl (by kernel_rfl) rfl
abbrev Y1 (f : Field) : Blk := Zao [(BitVec.ofInt 8 f.tag), (BitVec.ofInt 8 (((f.data.size / 65536) : Nat) : Int)), (BitVec.ofInt 8 (((f.data.size / 256) : Nat) : Int)), (BitVec.ofInt 8 (f.data.size : Nat))]
theorem Z4u (l : Bs) (f : Field) (n c : Nat) (hn : l.length = n) (hc : n ≤ c) (hf : f.data.size ≤ 65536) (hb : n ≤ 1099511627776) : Z6 Tryd.prog G 95 [slv 0 0 n c, fdV f] [Zao l] (slv 0 0 (n + f.data.size + 4) (n + f.data.size + 4)) [Zao (l ++ Zim f)] := by
  refine Zbh (fn := Tryd.f95) (nt := 26) rfl rfl rfl rfl ?_
  refine Zaf 2 (H' := [Zao l, hole, hole]) rfl ?_
  refine Zf (Zg (Zb7 (v := fdV f) (b := bxB 2 (fdC f)) (nid := 1) (H' := [Zao l, bxB 2 (fdC f), hole]) (Zb (.slice none 0 0) (Za (Zc (Zf (Zg (Zh (b := 1) (o := 0) (n := 1) (o' := 1) (Zn (p := pt 1 1) (v := .string f.data) (Zaw (p := .string f.data) (v := Iv (f.data.size : Nat)) (Zb (Iv (f.data.size : Nat)) (Za (Zc (Zf ?_))))))))))))))
  refine Zgl (by kernel_rfl) ?_
  refine Zd (slv 0 0 n c) (Zh (b := 1) (o := 0) (n := 0) (o' := 0) (Zn (p := pt 1 0) (v := Iv f.tag) ?_))
  refine Zgj (w := Iv f.tag) (v := w8 (BitVec.ofInt 8 f.tag)) rfl rfl rfl (Zn4 rfl rfl rfl) ?_
  refine Zd (Iv (f.data.size : Nat)) ?_
  refine Zl (vx := Iv (f.data.size : Nat)) (vy := .int .u64 16) rfl rfl (Iv (((f.data.size / 65536) : Nat) : Int)) rfl rfl (Z0v 16 (by omega) (by omega) (by omega) (by omega)) ?_
  refine Zgj (w := Iv (((f.data.size / 65536) : Nat) : Int)) (v := w8 (BitVec.ofInt 8 (((f.data.size / 65536) : Nat) : Int))) rfl rfl rfl (Zn4 rfl rfl rfl) ?_
  refine Zd (Iv (f.data.size : Nat)) ?_
  refine Zl (vx := Iv (f.data.size : Nat)) (vy := .int .u64 8) rfl rfl (Iv (((f.data.size / 256) : Nat) : Int)) rfl rfl (Z0v 8 (by omega) (by omega) (by omega) (by omega)) ?_
  refine Zgj (w := Iv (((f.data.size / 256) : Nat) : Int)) (v := w8 (BitVec.ofInt 8 (((f.data.size / 256) : Nat) : Int))) rfl rfl rfl (Zn4 rfl rfl rfl) ?_
  refine Zd (Iv (f.data.size : Nat)) ?_
  refine Zgj (w := Iv (f.data.size : Nat)) (v := w8 (BitVec.ofInt 8 (f.data.size : Nat))) rfl rfl rfl (Zn4 rfl rfl rfl) ?_
  refine Zep (vs := [(0, w8 (BitVec.ofInt 8 f.tag)), (1, w8 (BitVec.ofInt 8 (((f.data.size / 65536) : Nat) : Int))), (2, w8 (BitVec.ofInt 8 (((f.data.size / 256) : Nat) : Int))), (3, w8 (BitVec.ofInt 8 (f.data.size : Nat)))]) (v := slv 2 0 4 4) (blk := Zao [(BitVec.ofInt 8 f.tag), (BitVec.ofInt 8 (((f.data.size / 65536) : Nat) : Int)), (BitVec.ofInt 8 (((f.data.size / 256) : Nat) : Int)), (BitVec.ofInt 8 (f.data.size : Nat))]) (nid := 2) (H' := [Zao l, bxB 2 (fdC f), Y1 f]) rfl rfl rfl (by kernel_rfl) (by kernel_rfl) ?_
  have hl3 : (l ++ [(BitVec.ofInt 8 f.tag), (BitVec.ofInt 8 (((f.data.size / 65536) : Nat) : Int)), (BitVec.ofInt 8 (((f.data.size / 256) : Nat) : Int)), (BitVec.ofInt 8 (f.data.size : Nat))]).length = n + 4 := by have := hn; have := (rfl : _ = 4); first | (rw [List.length_append]; omega) | (simp; omega) | simp
  refine Zc6 (p := slv 0 0 n c) (q := slv 2 0 4 4) (v := slv 0 0 (n + 4) (n + 4)) (b := 0) (blk := Zao (l ++ [(BitVec.ofInt 8 f.tag), (BitVec.ofInt 8 (((f.data.size / 65536) : Nat) : Int)), (BitVec.ofInt 8 (((f.data.size / 256) : Nat) : Int)), (BitVec.ofInt 8 (f.data.size : Nat))])) (H' := [Zao (l ++ [(BitVec.ofInt 8 f.tag), (BitVec.ofInt 8 (((f.data.size / 65536) : Nat) : Int)), (BitVec.ofInt 8 (((f.data.size / 256) : Nat) : Int)), (BitVec.ofInt 8 (f.data.size : Nat))]), bxB 2 (fdC f), Y1 f]) rfl rfl rfl (.inl ⟨_, rfl⟩) rfl rfl (Zrw (by_ := 1) (n' := n + 4) rfl rfl (Z0y rfl rfl (by have := (rfl : _ = 4); omega)) rfl rfl (by have := hn; omega) (by omega) (by decide) (by omega)) rfl (by kernel_rfl) ?_
  refine Zh (b := 1) (o := 0) (n := 1) (o' := 1) (Zn (p := pt 1 1) (v := .string f.data) ?_)
  have hl4 : ((l ++ [(BitVec.ofInt 8 f.tag), (BitVec.ofInt 8 (((f.data.size / 65536) : Nat) : Int)), (BitVec.ofInt 8 (((f.data.size / 256) : Nat) : Int)), (BitVec.ofInt 8 (f.data.size : Nat))]) ++ (bl f.data)).length = n + f.data.size + 4 := by have := hl3; have := (Zkd f.data); first | (rw [List.length_append]; omega) | (simp; omega) | simp
  refine Zc6 (p := slv 0 0 (n + 4) (n + 4)) (q := .string f.data) (v := slv 0 0 (n + f.data.size + 4) (n + f.data.size + 4)) (b := 0) (blk := Zao ((l ++ [(BitVec.ofInt 8 f.tag), (BitVec.ofInt 8 (((f.data.size / 65536) : Nat) : Int)), (BitVec.ofInt 8 (((f.data.size / 256) : Nat) : Int)), (BitVec.ofInt 8 (f.data.size : Nat))]) ++ (bl f.data))) (H' := [Zao ((l ++ [(BitVec.ofInt 8 f.tag), (BitVec.ofInt 8 (((f.data.size / 65536) : Nat) : Int)), (BitVec.ofInt 8 (((f.data.size / 256) : Nat) : Int)), (BitVec.ofInt 8 (f.data.size : Nat))]) ++ (bl f.data)), bxB 2 (fdC f), Y1 f]) rfl rfl rfl (.inr rfl) rfl rfl (Zrw (by_ := 1) (n' := n + f.data.size + 4) rfl rfl (rfl : Zg8 _ 1 (.string _) = some (_, Zek _)) (Zmc _) rfl (by have := hl3; omega) (by omega) (by decide) (by omega)) rfl (by kernel_rfl) ?_
  refine Zb (slv 0 0 (n + f.data.size + 4) (n + f.data.size + 4)) ?_
  refine Zdc (by kernel_rfl) ?_
  refine Zc (Zr (Zt ?_))
  rw [show Zao (l ++ Zim f) = Zao ((l ++ [(BitVec.ofInt 8 f.tag), (BitVec.ofInt 8 (((f.data.size / 65536) : Nat) : Int)), (BitVec.ofInt 8 (((f.data.size / 256) : Nat) : Int)), (BitVec.ofInt 8 (f.data.size : Nat))]) ++ (bl f.data)) from congrArg Zao (List.append_assoc _ _ _).symm]
  exact Zm (v := slv 0 0 (n + f.data.size + 4) (n + f.data.size + 4)) rfl rfl rfl (by simp [Zbe, Zao]) ⟨rfl, rfl, rfl, by first | omega | exact Nat.le_refl _ | exact Nat.zero_le _ | (dsimp only; omega), by first | omega | exact Nat.le_refl _ | exact Nat.zero_le _ | (dsimp only; omega)⟩
end Go.Flat
namespace Go.Flat
open Go.Proofs
variable {G : Glob}
theorem Zob (f : Field) : (Zim f).length = f.data.size + 4 := by simp [Zim, Zkd]
theorem Z2r (l : Bs) (f : Field) (n c : Nat) (hn : l.length = n) (hc : n ≤ c) (hf : f.data.size ≤ 65536) (hb : n ≤ 1099511627776) : Z6 Tryd.prog G 95 [slv 0 0 n c, fdV f] [Zao l] (slv 0 0 (l ++ Zim f).length (l ++ Zim f).length) [Zao (l ++ Zim f)] := by
 have h := Z4u (G := G) l f n c hn hc hf hb
 rw [show n + f.data.size + 4 = (l ++ Zim f).length from by rw [List.length_append, Zob]; omega] at h
 exact h
theorem Zxn {f : Field} {last : Int} (h : Ze0 f last = 0) : f.data.size ≤ 65536 := by
 unfold Ze0 at h
 split at h
 ·omega
 ·split at h
  ·omega
  ·split at h <;> omega
def Z3 : List Field → Int → Bs → Bs × Int
  | [], _, acc => (acc, 0)
  | f :: fs, last, acc => if Ze0 f last = 0 then Z3 fs f.tag (acc ++ Zim f) else ([], Ze0 f last)
theorem Zpy {α : Type} [Inhabited α] {l : List α} {i : Nat} (h : i < l.length) : l.drop i = l.getD i default :: l.drop (i + 1) := by
 rw [List.drop_eq_getElem_cons h, List.getD_eq_getElem?_getD, List.getElem?_eq_getElem h]; rfl
theorem Zxg {fs : List Field} {i : Nat} {last : Int} {acc : Bs} {R : Bs × Int} (hR : Z3 (fs.drop i) last acc = R) (hi : i < fs.length) (hm : Ze0 (fs.getD i default) last = 0) : Z3 (fs.drop (i + 1)) (fs.getD i default).tag (acc ++ Zim (fs.getD i default)) = R := by
 rw [Zpy hi, Z3, if_pos hm] at hR; exact hR
theorem Zzs {fs : List Field} {i : Nat} {last : Int} {acc : Bs} {R : Bs × Int} (hR : Z3 (fs.drop i) last acc = R) (hi : i < fs.length) (hm : Ze0 (fs.getD i default) last ≠ 0) : R = ([], Ze0 (fs.getD i default) last) := by
 rw [Zpy hi, Z3, if_neg hm] at hR; exact hR.symm
def Z55 : Bs → Nat → Int × Int
  | [], n => ((n : Nat), 0)
  | x :: l, n => if 18014398509481983 < n then (0, 11) else Z55 l (n * 256 + x.toNat)
def Z7w (s : ByteArray) : Int × Int := if 8 < s.size ∨ (1 ≤ s.size ∧ ((bl s).getD 0 0 == 0#8) = true) then (0, 11) else Z55 (bl s) 0
theorem Zye (fs : List Field) (n c : Nat) (hn : fs.length = n) (hc : n ≤ c) (hb : n ≤ 1000) : Z6 Tryd.prog G 89 [slv 0 0 n c] [rwR cFd fs] (.tuple #[slv 1 0 (Z3 fs 0 []).1.length (Z3 fs 0 []).1.length, Iv (Z3 fs 0 []).2]) [rwR cFd fs, Zao (Z3 fs 0 []).1] := by
  refine Zbh (fn := Tryd.f89) (nt := 28) rfl rfl rfl rfl ?_
  refine Zaf 1 (H' := [rwR cFd fs, hole]) rfl ?_
  refine Zf (Zg (Zb (.slice none 0 0) (Zb (Iv 0) (Za (Zc (Zf (Zg (Zb (.slice none 0 0) (Za (Zc (Zf (Zg (Zb (Iv 0) (Za (Zc (Zf (Zf ?_)))))))))))))))))
  refine Zca (Za7.nilTmp (i := 4) (b := 1) true 1 rfl (by decide) rfl) ?_
  refine Zg (Zd (slv 0 0 n c) (Zaw (p := slv 0 0 n c) (v := Iv (n : Nat)) (Zd (Iv 0) (Za (Zc (Z8 ?_))))))
  refine Zbt (fun x : Nat × Int × Bs => match x with | (i, last, acc) => [slv 0 0 n c, dead, dead, dead, slv 1 0 acc.length acc.length, Iv last, dead, dead, dead, slv 0 0 n c, Iv (n : Nat), Iv (i : Nat)]) (fun x : Nat × Int × Bs => match x with | (i, last, acc) => [rwR cFd fs, Zao acc]) (fun x : Nat × Int × Bs => match x with | (i, last, acc) => Z3 (fs.drop i) last acc = Z3 fs 0 [] ∧ i ≤ n ∧ acc.length ≤ i * 65540) (fun x : Nat × Int × Bs => match x with | (i, last, acc) => n - i) (0, 0, []) ⟨rfl, by omega, by simp⟩ ?_ ?_
  · refine Zaj (n := 2) rfl ?_ (by kernel_rfl) (by kernel_rfl)
    repeat (first | exact trivial | refine ⟨.inl rfl, ?_⟩ | refine ⟨.inr ⟨rfl, rfl⟩, ?_⟩ | refine ⟨.inr ⟨congrArg (Value.int .i64) (by first | omega | (dsimp only; omega)), rfl⟩, ?_⟩)
  rintro ⟨i, last, acc⟩ ⟨hR, hi, ha⟩
  dsimp only at *
  refine Zaf 2 (H' := [rwR cFd fs, Zao acc, hole, hole]) rfl ?_
  have ha2 : acc.length ≤ 65540000 := by omega
  refine Zf (Zg ?_)
  by_cases h1 : (i : Nat) < (n : Nat)
  refine Zl (vx := Iv (i : Nat)) (vy := Iv (n : Nat)) rfl rfl (.bool true) rfl rfl (Zck (by omega)) ?_
  refine Za (Zc (Zf (Zy rfl (Zz (Zc (Zf (Z8 (Zf (Zg ?_)))))))))
  refine Zbo (b := 0) (o := 0) (j := i * 2) (m := n) (c := c) (sz := 2) (i := (i : Nat)) (k := .i64) rfl rfl rfl rfl rfl (by omega) (by omega) (by omega) ?_
  refine Zal (p := pt 0 (i * 2)) (v := fdV (fs.getD i default)) rfl rfl rfl (Zf6 (n := 0) (m := 2) cFd rfl rfl rfl rfl (by have := hn; omega) (by omega)) ?_
  refine Za9 (b := bxB 2 (fdC (⟨0, ⟨#[]⟩⟩ : Field))) (nid := 2) (H' := [rwR cFd fs, Zao acc, bxB 2 (fdC (⟨0, ⟨#[]⟩⟩ : Field)), hole]) (Zab (p := pt 2 0) (v := fdV (fs.getD i default)) (b := 2) (blk := bxB 2 (fdC (fs.getD i default))) (H' := [rwR cFd fs, Zao acc, bxB 2 (fdC (fs.getD i default)), hole]) (Za (Zc (Zf (Zf (Zg (Zn (p := pt 2 0) (v := fdV (fs.getD i default)) (Zd (Iv last) ?_))))))))
  refine Zs (Z4o (G := G) (fs.getD i default) last) (vals := [fdV (fs.getD i default), Iv last]) (res' := Iv (Ze0 (fs.getD i default) last)) rfl rfl rfl rfl rfl rfl ?_
  refine Zb (Iv (Ze0 (fs.getD i default) last)) (Za (Zc (Zf (Zg (Zd (Iv (Ze0 (fs.getD i default) last)) ?_)))))
  by_cases h2 : (Ze0 (fs.getD i default) last) ≠ 0
  refine Zl (vx := Iv (Ze0 (fs.getD i default) last)) (vy := Iv 0) rfl rfl (.bool true) rfl rfl (Zgf (by omega)) ?_
  refine Za (Zc (Zy rfl (Zf (Zg (Zd (Iv (Ze0 (fs.getD i default) last)) (Zb (.slice none 0 0) (Zb (Iv (Ze0 (fs.getD i default) last)) (Za (Zc ?_)))))))))
  refine Zca (Za7.nilTmp (i := 2) (b := 3) true 1 rfl (by decide) rfl) ?_
  refine Zr (Z2 (Zar (Z2 (Zcy (Zar (Z2 (Zt ?_)))))))
  rw [show Z3 fs 0 [] = ([], (Ze0 (fs.getD i default) last)) from Zzs hR (by omega) (by omega)]
  exact Zbc [0, 3] (v := .tuple #[slv 3 0 0 0, Iv (Ze0 (fs.getD i default) last)]) rfl (by kernel_rfl) rfl rfl (by decide) (by simp [Zbe, Zao, rwR, cFd]) ⟨⟨rfl, rfl, rfl, by first | omega | exact Nat.le_refl _ | exact Nat.zero_le _ | (dsimp only; omega), by first | omega | exact Nat.le_refl _ | exact Nat.zero_le _ | (dsimp only; omega)⟩, rfl, trivial⟩
  refine Zl (vx := Iv (Ze0 (fs.getD i default) last)) (vy := Iv 0) rfl rfl (.bool false) rfl rfl (Zfw (by omega)) ?_
  refine Za (Zc (Zu rfl (Zz (Zc ?_))))
  have hsz : (fs.getD i default).data.size ≤ 65536 := Zxn (last := last) (by omega)
  refine Zgl (by kernel_rfl) ?_
  refine Zd (slv 1 0 acc.length acc.length) (Zn (p := pt 2 0) (v := fdV (fs.getD i default)) ?_)
  refine Zcp (e := [some (1, 0)]) (nid := 0) (Z2r (G := G) acc (fs.getD i default) acc.length acc.length (by first | rfl | omega) (by omega) (by omega) (by omega)) (vals := [slv 1 0 acc.length acc.length, fdV (fs.getD i default)]) (v := slv 1 0 ((acc ++ Zim (fs.getD i default)).length) ((acc ++ Zim (fs.getD i default)).length)) (H' := [rwR cFd fs, Zao (acc ++ Zim (fs.getD i default)), bxB 2 (fdC (fs.getD i default)), hole]) rfl rfl rfl rfl rfl rfl ⟨⟨⟨rfl, rfl, rfl, by omega, by omega⟩, rfl, trivial⟩, ⟨(Zad rfl rfl rfl rfl), trivial⟩, rfl, rfl, rfl, Nat.le_refl _⟩ rfl rfl (by kernel_rfl) ?_
  refine Zh (b := 2) (o := 0) (n := 0) (o' := 0) (Zn (p := pt 2 0) (v := Iv ((fs.getD i default).tag)) (Zb (slv 1 0 ((acc ++ Zim (fs.getD i default)).length) ((acc ++ Zim (fs.getD i default)).length)) (Zb (Iv ((fs.getD i default).tag)) ?_)))
  refine Zdc (by kernel_rfl) ?_
  refine Z7 (Zc (Zg ?_))
  refine Zl (vx := Iv (i : Nat)) (vy := Iv 1) rfl rfl (Iv ((i : Nat) + 1)) rfl rfl (Zak (by omega) (by omega) (by omega)) ?_
  refine Zd (Iv ((i : Nat) + 1)) (Za ?_)
  refine Zag ⟨((i + 1), ((fs.getD i default).tag), (acc ++ Zim (fs.getD i default))), ⟨Zxg hR (by omega) (by omega), by omega, by rw [List.length_append, Zob]; omega⟩, by show n - (i + 1) < n - i; omega, ?_⟩
  refine Zaj (n := 2) rfl ?_ (by kernel_rfl) (by kernel_rfl)
  repeat (first | exact trivial | refine ⟨.inl rfl, ?_⟩ | refine ⟨.inr ⟨rfl, rfl⟩, ?_⟩ | refine ⟨.inr ⟨congrArg (Value.int .i64) (by first | omega | (dsimp only; omega)), rfl⟩, ?_⟩)
  refine Zl (vx := Iv (i : Nat)) (vy := Iv (n : Nat)) rfl rfl (.bool false) rfl rfl (Zcd (by omega)) ?_
  refine Za (Zc (Zf (Zu rfl (Zbm (Zaq (Zax (Zav rfl (Zc (Zf (Zg (Zd (slv 1 0 acc.length acc.length) (Zb (slv 1 0 acc.length acc.length) (Zb (Iv 0) (Za (Zc (Zr (Zt ?_)))))))))))))))))
  rw [show Z3 fs 0 [] = (acc, 0) from by rw [← hR, List.drop_of_length_le (by omega)]; rfl]
  exact Zbc [0, 1] (v := .tuple #[slv 1 0 acc.length acc.length, Iv 0]) rfl (by kernel_rfl) rfl rfl (by decide) (by simp [Zbe, Zao, rwR, cFd]) ⟨⟨rfl, rfl, rfl, by first | omega | exact Nat.le_refl _ | exact Nat.zero_le _ | (dsimp only; omega), by first | omega | exact Nat.le_refl _ | exact Nat.zero_le _ | (dsimp only; omega)⟩, rfl, trivial⟩
end Go.Flat
