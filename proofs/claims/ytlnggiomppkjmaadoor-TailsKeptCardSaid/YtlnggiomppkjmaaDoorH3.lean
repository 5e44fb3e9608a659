/- Walks. -/
import Derived.Test.YtlnggiomppkjmaaDoorXB
set_option linter.unusedVariables false
set_option linter.unusedSimpArgs false
set_option maxRecDepth 20000
namespace Go.Flat
open Go.Proofs
variable {G : Glob}
structure Field where
  tag : Int
  data : ByteArray
def fdC (f : Field) : List Value := [.int .i64 f.tag, .string f.data]
def fdV (f : Field) : Value := .agg (fdC f).toArray
def cFd : Cod Field := ⟨fdC, 2, fun _ => rfl, by decide⟩
instance : Inhabited Field := ⟨⟨0, ⟨#[]⟩⟩⟩

def Zma : Nat → Nat → Nat → D → Bs
  | 0, _, a, b => (Zmf 8 b).drop a
  | f + 1, n, a, b => if n = 0 then (Zmf 8 b).drop a else Zma f (n / 256) (a - 1) (Zg4 b (a - 1) (BitVec.ofInt 8 (n : Int)))
theorem Zxa (f a : Nat) (b : D) : Zma f 0 a b = (Zmf 8 b).drop a := by cases f <;> simp [Zma]
theorem Zue {k a : Nat} (hk : k < 256 ^ a) (h : 1 ≤ k) : 1 ≤ a := by
 cases a with
 | zero => simp at hk; omega
 | succ a => omega
theorem Zw9 {a k q a' : Nat} {b : D} {x : BitVec 8} {R : Bs} (hR : Zma a k a b = R) (hk : k < 256 ^ a) (h1 : 0 < k) (hx : x = BitVec.ofInt 8 (k : Int)) (ha' : a = a' + 1) (hq : q = k / 256 := by rfl) (h8 : a ≤ 8 := by omega) : Zma a' q a' (Zg4 b a' x) = R ∧ q < 256 ^ a' ∧ a' ≤ 8 := by
 subst ha'; subst hx; subst hq
 refine ⟨?_, ?_, by omega⟩
 ·rw [Zma, if_neg (by omega)] at hR; exact hR
 ·rw [Nat.pow_succ] at hk; exact Nat.div_lt_of_lt_mul (by omega)
def Zo (n : Int) : ByteArray × Int := if 0 ≤ n ∧ n ≤ 4611686018427387903 then (Zn (Zma 8 n.toNat 8 dz), 0) else (⟨#[]⟩, 1)
theorem Zpc (n : Int) (hl : -9223372036854775808 ≤ n) (hh : n ≤ 9223372036854775807) : Z4 Tryd.prog G 88 [Iv n] [] (.tuple #[.string (Zo n).1, Iv (Zo n).2]) [] := by
  refine Zbd (fn := Tryd.f88) (nt := 25) rfl rfl rfl rfl ?_
  refine Zae 1 (H' := [hole]) rfl ?_
  refine Ze (Zg (Zc (.string ⟨#[]⟩) (Zc (Iv 0) (Za (Zb (Ze (Ze (Zg (Zd (Iv n) ?_)))))))))
  by_cases h1 : n < 0
  refine Zl (vx := Iv n) (vy := Iv 0) rfl rfl (.bool true) rfl rfl (Zc0 (by omega)) ?_
  refine Zd (.bool true) (Zf (Zf (Zj (.bool true) (Za (Zb (Zy rfl (Ze (Zg (Zc (.string ⟨#[]⟩) (Zc (Iv 1) (Za (Zb (Zr (Z3 (Zs ?_)))))))))))))))
  rw [show Zo n = (⟨#[]⟩, 1) from if_neg (by omega)]
  exact Zk (v := .tuple #[.string ⟨#[]⟩, Iv 1]) rfl rfl rfl (by kernel_rfl) ⟨rfl, rfl, trivial⟩
  refine Zl (vx := Iv n) (vy := Iv 0) rfl rfl (.bool false) rfl rfl (Zct (by omega)) ?_
  refine Zd (.bool false) (Zd (Iv n) ?_)
  by_cases h2 : 4611686018427387903 < n
  refine Zl (vx := Iv n) (vy := Iv 4611686018427387903) rfl rfl (.bool true) rfl rfl (Zgu (by omega)) ?_
  refine Zj (.bool true) (Za (Zb (Zy rfl (Ze (Zg (Zc (.string ⟨#[]⟩) (Zc (Iv 1) (Za (Zb (Zr (Z3 (Zs ?_))))))))))))
  rw [show Zo n = (⟨#[]⟩, 1) from if_neg (by omega)]
  exact Zk (v := .tuple #[.string ⟨#[]⟩, Iv 1]) rfl rfl rfl (by kernel_rfl) ⟨rfl, rfl, trivial⟩
  refine Zl (vx := Iv n) (vy := Iv 4611686018427387903) rfl rfl (.bool false) rfl rfl (Zgt (by omega)) ?_
  refine Zj (.bool false) (Za (Zb (Zt rfl (Zx (Zb (Ze ?_))))))
  obtain ⟨m, rfl⟩ : ∃ x0 : Nat, n = (x0 : Int) := ⟨n.toNat, by omega⟩
  refine Zg (Zaw (b := bxB 8 (Zag w8 8 dz)) (nid := 0) (H' := [bxB 8 (Zag w8 8 dz)]) (Za (Zb (Ze (Zg (Zc (Iv 8) (Za (Zb (Ze (Z7 ?_))))))))))
  refine Zb2 (fun x : Nat × Nat × D => match x with | (k, a, b) => [Iv (k : Nat), dead, .string ⟨#[]⟩, Iv 0, pt 0 0, Iv (a : Nat), Iv (m : Nat), .bool false, .bool false, Iv (m : Nat), .bool false, .bool false]) (fun x : Nat × Nat × D => match x with | (k, a, b) => [bxB 8 (Zag w8 8 b)]) (fun x : Nat × Nat × D => match x with | (k, a, b) => Zma a k a b = Zma 8 m 8 dz ∧ k < 256 ^ a ∧ a ≤ 8) (fun x : Nat × Nat × D => match x with | (k, a, b) => a) (m, 8, dz) ⟨rfl, by omega, by omega⟩ ?_ ?_
  · refine Zah (n := 1) rfl ?_ (by kernel_rfl) (by kernel_rfl)
    repeat (first | exact trivial | refine ⟨.inl rfl, ?_⟩ | refine ⟨.inr ⟨rfl, rfl⟩, ?_⟩ | refine ⟨.inr ⟨congrArg (Value.int .i64) (by first | omega | (dsimp only; omega)), rfl⟩, ?_⟩)
  rintro ⟨k, a, b⟩ ⟨hR, hk, ha⟩
  dsimp only at *
  refine Ze (Ze (Zg (Zd (Iv (k : Nat)) ?_)))
  by_cases h3 : 0 < (k : Nat)
  refine Zl (vx := Iv (k : Nat)) (vy := Iv 0) rfl rfl (.bool true) rfl rfl (Zgu (by omega)) ?_
  refine Za (Zb (Zy rfl (Zx (Zb (Ze (Z7 (Ze ?_)))))))
  have h1a := Zue hk (by omega)
  refine Zg (Zd (Iv (a : Nat)) ?_)
  refine Zl (vx := Iv (a : Nat)) (vy := Iv 1) rfl rfl (Iv ((a : Nat) - 1)) rfl rfl (Zg8 (by omega) (by omega) (by omega)) ?_
  refine Zc (Iv ((a : Nat) - 1)) (Za (Zb (Zg (Zd (Iv ((a : Nat) - 1)) (Zd (Iv (k : Nat)) ?_)))))
  refine Zf9 (w := Iv (k : Nat)) (v := w8 (BitVec.ofInt 8 (k : Nat))) rfl rfl rfl (Znm rfl rfl rfl) ?_
  refine Zdi (b := 0) (o := 0) (j := a - 1) (n := 8) (sz := 1) (i := (a : Nat) - 1) (k := .i64) rfl rfl rfl rfl rfl (by omega) (by omega) (by omega) ?_
  refine Zcv (p := pt 0 (a - 1)) (v := w8 (BitVec.ofInt 8 (k : Nat))) (b := 0) (blk := bxB 8 (Zag w8 8 (Zg4 b (a - 1) (BitVec.ofInt 8 (k : Nat))))) (H' := [bxB 8 (Zag w8 8 (Zg4 b (a - 1) (BitVec.ofInt 8 (k : Nat))))]) rfl rfl rfl (Zg2 (blk := bxB 8 (Zag w8 8 b)) (i := a - 1) (enc := w8) (n := 8) (w := b) (x := (BitVec.ofInt 8 (k : Nat))) rfl rfl rfl rfl rfl (by omega) rfl rfl) (by kernel_rfl) ?_
  refine Za (Z8 (Zb (Zg (Zd (Iv (k : Nat)) ?_))))
  refine Zl (vx := Iv (k : Nat)) (vy := .int .u64 8) rfl rfl (Iv (((k / 256) : Nat) : Int)) rfl rfl (Z0b 8 (by omega) (by omega) (by omega) (by omega)) ?_
  refine Zc (Iv (((k / 256) : Nat) : Int)) (Za ?_)
  refine Zak ⟨((k / 256), (a - 1), (Zg4 b (a - 1) (BitVec.ofInt 8 (k : Nat)))), Zw9 (a' := a - 1) hR hk (by omega) rfl (by omega), by show a - 1 < a; omega, ?_⟩
  refine Zah (n := 1) rfl ?_ (by kernel_rfl) (by kernel_rfl)
  repeat (first | exact trivial | refine ⟨.inl rfl, ?_⟩ | refine ⟨.inr ⟨rfl, rfl⟩, ?_⟩ | refine ⟨.inr ⟨congrArg (Value.int .i64) (by first | omega | (dsimp only; omega)), rfl⟩, ?_⟩)
  refine Zl (vx := Iv (k : Nat)) (vy := Iv 0) rfl rfl (.bool false) rfl rfl (Zgt (by omega)) ?_
  refine Za (Zb (Zt rfl (Zbp (Zau (Za2 (Za1 rfl (Zb (Ze (Zg (Zd (Iv (a : Nat)) ?_))))))))))
  refine Zcu (p := pt 0 0) (vl := some (Iv (a : Nat))) (vh := none) (v := slv 0 a (8 - a) (8 - a)) rfl rfl rfl rfl rfl (Zxn (sz := 1) (l := a) (h := 8) rfl rfl rfl (Z3f (by omega) (by omega)) rfl (by omega) (by omega) (by omega)) ?_
  refine Zjd (p := slv 0 a (8 - a) (8 - a)) (v := .string (Zn (((Zmf 8 b).drop a).take (8 - a)))) rfl rfl rfl (Zv6 (l := Zmf 8 b) rfl rfl rfl rfl (Zxj _ _) (by rw [Zlg]; omega) rfl) ?_
  refine Zc (.string (Zn (((Zmf 8 b).drop a).take (8 - a)))) (Zc (Iv 0) (Za (Zb (Zr (Zs ?_)))))
  have e : Zo (m : Nat) = ((Zn (((Zmf 8 b).drop a).take (8 - a))), 0) := by
    rw [show Zo (m : Nat) = (Zn (Zma 8 m 8 dz), 0) from if_pos (by omega), ← hR]
    obtain rfl : k = 0 := by omega
    rw [Zxa, List.take_of_length_le (by rw [List.length_drop, Zlg]; omega)]
  rw [e]
  exact Zk (v := .tuple #[.string (Zn (((Zmf 8 b).drop a).take (8 - a))), Iv 0]) rfl rfl rfl (by kernel_rfl) ⟨rfl, rfl, trivial⟩
end Go.Flat
namespace Go.Flat
open Go.Proofs
variable {G : Glob}
def Zic (f : Field) : Bs := [BitVec.ofInt 8 f.tag, BitVec.ofInt 8 (f.data.size / 65536 : Nat), BitVec.ofInt 8 (f.data.size / 256 : Nat), BitVec.ofInt 8 (f.data.size : Nat)] ++ bl f.data
def Zew (f : Field) (last : Int) : Int :=
  if 255 < f.tag then 1 else
  if f.tag ≤ last then 1 else
  if 65536 < (f.data.size : Nat) then 2 else
  0
theorem Z32 (f : Field) (last : Int) : Z4 Tryd.prog G 94 [fdV f, Iv last] [] (Iv (Zew f last)) [] := by
 refine Zbd (fn := Tryd.f94) (nt := 21) rfl rfl rfl rfl ?_
 refine Zae 1 (H' := [hole]) rfl ?_
 refine Ze (Zg (Zbs (v := fdV f) (b := bxB 2 (fdC f)) (nid := 0) (H' := [bxB 2 (fdC f)]) (Zc (Iv 0) (Za (Zb (Ze (Zg (Zc (Iv 0) (Za (Zb (Ze (Z7 (Ze (Z7 (Ze (Z7 (Z7 (Ze (Ze (Ze (Zg (Zi (b := 0) (o := 0) (n := 0) (o' := 0) (Zm (p := pt 0 0) (v := Iv f.tag) ?_)))))))))))))))))))))))
 by_cases h1 : 255 < f.tag
 refine Zl (vx := Iv f.tag) (vy := Iv 255) rfl rfl (.bool true) rfl rfl (Zgu (by omega)) ?_
 refine Zc (.bool true) (Za (Zb (Zy rfl (Zbp (Zau (Zau (Za1 rfl (Z8 (Zb (Ze (Zg (Zc (Iv 1) (Za (Zb (Zbp (Zms rfl (Zau (Za1 rfl (Zb (Ze (Zg (Zd (Iv 1) (Zc (Iv 1) (Za (Zb (Zr (Zs ?_)))))))))))))))))))))))))))
 rw [show Zew f last = 1 from by unfold Zew; rw [if_pos h1]]
 exact Zk (v := Iv 1) rfl rfl rfl (by kernel_rfl) rfl
 refine Zl (vx := Iv f.tag) (vy := Iv 255) rfl rfl (.bool false) rfl rfl (Zgt (by omega)) ?_
 refine Zc (.bool false) (Za (Zb (Zt rfl (Zx (Zb (Ze (Ze (Zg (Zi (b := 0) (o := 0) (n := 0) (o' := 0) (Zm (p := pt 0 0) (v := Iv f.tag) (Zd (Iv last) ?_)))))))))))
 by_cases h2 : f.tag ≤ last
 refine Zl (vx := Iv f.tag) (vy := Iv last) rfl rfl (.bool true) rfl rfl (Zj3 (by omega)) ?_
 refine Zc (.bool true) (Za (Zb (Zy rfl (Zbp (Zau (Zau (Zms rfl (Za1 rfl (Zb (Ze (Zg (Zc (Iv 1) (Za (Zb (Zbp (Zms rfl (Zau (Za1 rfl (Zb (Ze (Zg (Zd (Iv 1) (Zc (Iv 1) (Za (Zb (Zr (Zs ?_)))))))))))))))))))))))))))
 rw [show Zew f last = 1 from by unfold Zew; rw [if_neg h1, if_pos h2]]
 exact Zk (v := Iv 1) rfl rfl rfl (by kernel_rfl) rfl
 refine Zl (vx := Iv f.tag) (vy := Iv last) rfl rfl (.bool false) rfl rfl (Zj2 (by omega)) ?_
 refine Zc (.bool false) (Za (Zb (Zt rfl (Zx (Zb (Ze (Zg (Zi (b := 0) (o := 0) (n := 1) (o' := 1) (Zm (p := pt 0 1) (v := .string f.data) (Zba (p := .string f.data) (v := Iv (f.data.size : Nat)) ?_))))))))))
 by_cases h3 : 65536 < (f.data.size : Nat)
 refine Zl (vx := Iv (f.data.size : Nat)) (vy := Iv 65536) rfl rfl (.bool true) rfl rfl (Zgu (by omega)) ?_
 refine Zc (.bool true) (Za (Zb (Zy rfl (Zbp (Zau (Zms rfl (Zms rfl (Zau (Za1 rfl (Zb (Ze (Zg (Zc (Iv 2) (Za (Zb (Zbp (Za1 rfl (Zb (Ze (Zg (Zd (Iv 2) (Zc (Iv 2) (Za (Zb (Zr (Zs ?_))))))))))))))))))))))))))
 rw [show Zew f last = 2 from by unfold Zew; rw [if_neg h1, if_neg h2, if_pos h3]]
 exact Zk (v := Iv 2) rfl rfl rfl (by kernel_rfl) rfl
 refine Zl (vx := Iv (f.data.size : Nat)) (vy := Iv 65536) rfl rfl (.bool false) rfl rfl (Zgt (by omega)) ?_
 refine Zc (.bool false) (Za (Zb (Zt rfl (Zx (Zb (Zbp (Zms rfl (Zms rfl (Zau (Zms rfl (Zau (Za1 rfl (Zb (Ze (Zg (Zd (Iv 0) (Zc (Iv 0) (Za (Zb (Zr (Zs ?_)))))))))))))))))))))
 rw [show Zew f last = 0 from by unfold Zew; rw [if_neg h1, if_neg h2, if_neg h3]]
 exact Zk (v := Iv 0) rfl rfl rfl (by kernel_rfl) rfl
abbrev Y1 (f : Field) : Blk := Zao [(BitVec.ofInt 8 f.tag), (BitVec.ofInt 8 (((f.data.size / 65536) : Nat) : Int)), (BitVec.ofInt 8 (((f.data.size / 256) : Nat) : Int)), (BitVec.ofInt 8 (f.data.size : Nat))]
theorem Z38 (l : Bs) (f : Field) (n c : Nat) (hn : l.length = n) (hc : n ≤ c) (hf : f.data.size ≤ 65536) (hb : n ≤ 1099511627776) : Z4 Tryd.prog G 95 [slv 0 0 n c, fdV f] [Zao l] (slv 0 0 (n + f.data.size + 4) (n + f.data.size + 4)) [Zao (l ++ Zic f)] := by
  refine Zbd (fn := Tryd.f95) (nt := 26) rfl rfl rfl rfl ?_
  refine Zae 2 (H' := [Zao l, hole, hole]) rfl ?_
  refine Ze (Zg (Zbs (v := fdV f) (b := bxB 2 (fdC f)) (nid := 1) (H' := [Zao l, bxB 2 (fdC f), hole]) (Zc (.slice none 0 0) (Za (Zb (Ze (Zg (Zi (b := 1) (o := 0) (n := 1) (o' := 1) (Zm (p := pt 1 1) (v := .string f.data) (Zba (p := .string f.data) (v := Iv (f.data.size : Nat)) (Zc (Iv (f.data.size : Nat)) (Za (Zb (Ze ?_))))))))))))))
  refine Zha (by kernel_rfl) ?_
  refine Zd (slv 0 0 n c) (Zi (b := 1) (o := 0) (n := 0) (o' := 0) (Zm (p := pt 1 0) (v := Iv f.tag) ?_))
  refine Zf9 (w := Iv f.tag) (v := w8 (BitVec.ofInt 8 f.tag)) rfl rfl rfl (Znm rfl rfl rfl) ?_
  refine Zd (Iv (f.data.size : Nat)) ?_
  refine Zl (vx := Iv (f.data.size : Nat)) (vy := .int .u64 16) rfl rfl (Iv (((f.data.size / 65536) : Nat) : Int)) rfl rfl (Z0b 16 (by omega) (by omega) (by omega) (by omega)) ?_
  refine Zf9 (w := Iv (((f.data.size / 65536) : Nat) : Int)) (v := w8 (BitVec.ofInt 8 (((f.data.size / 65536) : Nat) : Int))) rfl rfl rfl (Znm rfl rfl rfl) ?_
  refine Zd (Iv (f.data.size : Nat)) ?_
  refine Zl (vx := Iv (f.data.size : Nat)) (vy := .int .u64 8) rfl rfl (Iv (((f.data.size / 256) : Nat) : Int)) rfl rfl (Z0b 8 (by omega) (by omega) (by omega) (by omega)) ?_
  refine Zf9 (w := Iv (((f.data.size / 256) : Nat) : Int)) (v := w8 (BitVec.ofInt 8 (((f.data.size / 256) : Nat) : Int))) rfl rfl rfl (Znm rfl rfl rfl) ?_
  refine Zd (Iv (f.data.size : Nat)) ?_
  refine Zf9 (w := Iv (f.data.size : Nat)) (v := w8 (BitVec.ofInt 8 (f.data.size : Nat))) rfl rfl rfl (Znm rfl rfl rfl) ?_
  refine Zen (vs := [(0, w8 (BitVec.ofInt 8 f.tag)), (1, w8 (BitVec.ofInt 8 (((f.data.size / 65536) : Nat) : Int))), (2, w8 (BitVec.ofInt 8 (((f.data.size / 256) : Nat) : Int))), (3, w8 (BitVec.ofInt 8 (f.data.size : Nat)))]) (v := slv 2 0 4 4) (blk := Zao [(BitVec.ofInt 8 f.tag), (BitVec.ofInt 8 (((f.data.size / 65536) : Nat) : Int)), (BitVec.ofInt 8 (((f.data.size / 256) : Nat) : Int)), (BitVec.ofInt 8 (f.data.size : Nat))]) (nid := 2) (H' := [Zao l, bxB 2 (fdC f), Y1 f]) rfl rfl rfl (by kernel_rfl) (by kernel_rfl) ?_
  have hl3 : (l ++ [(BitVec.ofInt 8 f.tag), (BitVec.ofInt 8 (((f.data.size / 65536) : Nat) : Int)), (BitVec.ofInt 8 (((f.data.size / 256) : Nat) : Int)), (BitVec.ofInt 8 (f.data.size : Nat))]).length = n + 4 := by have := hn; have := (rfl : _ = 4); first | (rw [List.length_append]; omega) | (simp; omega) | simp
  refine Zc4 (p := slv 0 0 n c) (q := slv 2 0 4 4) (v := slv 0 0 (n + 4) (n + 4)) (b := 0) (blk := Zao (l ++ [(BitVec.ofInt 8 f.tag), (BitVec.ofInt 8 (((f.data.size / 65536) : Nat) : Int)), (BitVec.ofInt 8 (((f.data.size / 256) : Nat) : Int)), (BitVec.ofInt 8 (f.data.size : Nat))])) (H' := [Zao (l ++ [(BitVec.ofInt 8 f.tag), (BitVec.ofInt 8 (((f.data.size / 65536) : Nat) : Int)), (BitVec.ofInt 8 (((f.data.size / 256) : Nat) : Int)), (BitVec.ofInt 8 (f.data.size : Nat))]), bxB 2 (fdC f), Y1 f]) rfl rfl rfl (.inl ⟨_, rfl⟩) rfl rfl (Zrh (by_ := 1) (n' := n + 4) rfl rfl (Z0e rfl rfl (by have := (rfl : _ = 4); omega)) rfl rfl (by have := hn; omega) (by omega) (by decide) (by omega)) rfl (by kernel_rfl) ?_
  refine Zi (b := 1) (o := 0) (n := 1) (o' := 1) (Zm (p := pt 1 1) (v := .string f.data) ?_)
  have hl4 : ((l ++ [(BitVec.ofInt 8 f.tag), (BitVec.ofInt 8 (((f.data.size / 65536) : Nat) : Int)), (BitVec.ofInt 8 (((f.data.size / 256) : Nat) : Int)), (BitVec.ofInt 8 (f.data.size : Nat))]) ++ (bl f.data)).length = n + f.data.size + 4 := by have := hl3; have := (Zj8 f.data); first | (rw [List.length_append]; omega) | (simp; omega) | simp
  refine Zc4 (p := slv 0 0 (n + 4) (n + 4)) (q := .string f.data) (v := slv 0 0 (n + f.data.size + 4) (n + f.data.size + 4)) (b := 0) (blk := Zao ((l ++ [(BitVec.ofInt 8 f.tag), (BitVec.ofInt 8 (((f.data.size / 65536) : Nat) : Int)), (BitVec.ofInt 8 (((f.data.size / 256) : Nat) : Int)), (BitVec.ofInt 8 (f.data.size : Nat))]) ++ (bl f.data))) (H' := [Zao ((l ++ [(BitVec.ofInt 8 f.tag), (BitVec.ofInt 8 (((f.data.size / 65536) : Nat) : Int)), (BitVec.ofInt 8 (((f.data.size / 256) : Nat) : Int)), (BitVec.ofInt 8 (f.data.size : Nat))]) ++ (bl f.data)), bxB 2 (fdC f), Y1 f]) rfl rfl rfl (.inr rfl) rfl rfl (Zrh (by_ := 1) (n' := n + f.data.size + 4) rfl rfl (rfl : Zg1 _ 1 (.string _) = some (_, Zei _)) (Zl0 _) rfl (by have := hl3; omega) (by omega) (by decide) (by omega)) rfl (by kernel_rfl) ?_
  refine Zc (slv 0 0 (n + f.data.size + 4) (n + f.data.size + 4)) ?_
  refine Zet (by kernel_rfl) ?_
  refine Zb (Zr (Zs ?_))
  rw [show Zao (l ++ Zic f) = Zao ((l ++ [(BitVec.ofInt 8 f.tag), (BitVec.ofInt 8 (((f.data.size / 65536) : Nat) : Int)), (BitVec.ofInt 8 (((f.data.size / 256) : Nat) : Int)), (BitVec.ofInt 8 (f.data.size : Nat))]) ++ (bl f.data)) from congrArg Zao (List.append_assoc _ _ _).symm]
  exact Zk (v := slv 0 0 (n + f.data.size + 4) (n + f.data.size + 4)) rfl rfl rfl (by simp [Za6, Zao]) ⟨rfl, rfl, rfl, by first | omega | exact Nat.le_refl _ | exact Nat.zero_le _ | (dsimp only; omega), by first | omega | exact Nat.le_refl _ | exact Nat.zero_le _ | (dsimp only; omega)⟩
end Go.Flat
namespace Go.Flat
open Go.Proofs
variable {G : Glob}
theorem Znu (f : Field) : (Zic f).length = f.data.size + 4 := by simp [Zic, Zj8]
theorem Z16 (l : Bs) (f : Field) (n c : Nat) (hn : l.length = n) (hc : n ≤ c) (hf : f.data.size ≤ 65536) (hb : n ≤ 1099511627776) : Z4 Tryd.prog G 95 [slv 0 0 n c, fdV f] [Zao l] (slv 0 0 (l ++ Zic f).length (l ++ Zic f).length) [Zao (l ++ Zic f)] := by
 have h := Z38 (G := G) l f n c hn hc hf hb
 rw [show n + f.data.size + 4 = (l ++ Zic f).length from by rw [List.length_append, Znu]; omega] at h
 exact h
theorem Zw7 {f : Field} {last : Int} (h : Zew f last = 0) : f.data.size ≤ 65536 := by
 unfold Zew at h
 split at h
 ·omega
 ·split at h
  ·omega
  ·split at h <;> omega
def Zz : List Field → Int → Bs → Bs × Int
  | [], _, acc => (acc, 0)
  | f :: fs, last, acc => if Zew f last = 0 then Zz fs f.tag (acc ++ Zic f) else ([], Zew f last)
theorem Zpk {α : Type} [Inhabited α] {l : List α} {i : Nat} (h : i < l.length) : l.drop i = l.getD i default :: l.drop (i + 1) := by
 rw [List.drop_eq_getElem_cons h, List.getD_eq_getElem?_getD, List.getElem?_eq_getElem h]; rfl
theorem Zw2 {fs : List Field} {i : Nat} {last : Int} {acc : Bs} {R : Bs × Int} (hR : Zz (fs.drop i) last acc = R) (hi : i < fs.length) (hm : Zew (fs.getD i default) last = 0) : Zz (fs.drop (i + 1)) (fs.getD i default).tag (acc ++ Zic (fs.getD i default)) = R := by
 rw [Zpk hi, Zz, if_pos hm] at hR; exact hR
theorem Zza {fs : List Field} {i : Nat} {last : Int} {acc : Bs} {R : Bs × Int} (hR : Zz (fs.drop i) last acc = R) (hi : i < fs.length) (hm : Zew (fs.getD i default) last ≠ 0) : R = ([], Zew (fs.getD i default) last) := by
 rw [Zpk hi, Zz, if_neg hm] at hR; exact hR.symm
def Z5j : Bs → Nat → Int × Int
  | [], n => ((n : Nat), 0)
  | x :: l, n => if 18014398509481983 < n then (0, 11) else Z5j l (n * 256 + x.toNat)
def Z69 (s : ByteArray) : Int × Int := if 8 < s.size ∨ (1 ≤ s.size ∧ ((bl s).getD 0 0 == 0#8) = true) then (0, 11) else Z5j (bl s) 0
theorem Zxy (fs : List Field) (n c : Nat) (hn : fs.length = n) (hc : n ≤ c) (hb : n ≤ 1000) : Z4 Tryd.prog G 89 [slv 0 0 n c] [rwR cFd fs] (.tuple #[slv 1 0 (Zz fs 0 []).1.length (Zz fs 0 []).1.length, Iv (Zz fs 0 []).2]) [rwR cFd fs, Zao (Zz fs 0 []).1] := by
  refine Zbd (fn := Tryd.f89) (nt := 28) rfl rfl rfl rfl ?_
  refine Zae 1 (H' := [rwR cFd fs, hole]) rfl ?_
  refine Ze (Zg (Zc (.slice none 0 0) (Zc (Iv 0) (Za (Zb (Ze (Zg (Zc (.slice none 0 0) (Za (Zb (Ze (Zg (Zc (Iv 0) (Za (Zb (Ze (Ze ?_)))))))))))))))))
  refine Zb6 (Zbe.nilTmp (i := 4) (b := 1) true 1 rfl (by decide) rfl) ?_
  refine Zg (Zd (slv 0 0 n c) (Zba (p := slv 0 0 n c) (v := Iv (n : Nat)) (Zd (Iv 0) (Za (Zb (Z7 ?_))))))
  refine Zb2 (fun x : Nat × Int × Bs => match x with | (i, last, acc) => [slv 0 0 n c, dead, dead, dead, slv 1 0 acc.length acc.length, Iv last, dead, dead, dead, slv 0 0 n c, Iv (n : Nat), Iv (i : Nat)]) (fun x : Nat × Int × Bs => match x with | (i, last, acc) => [rwR cFd fs, Zao acc]) (fun x : Nat × Int × Bs => match x with | (i, last, acc) => Zz (fs.drop i) last acc = Zz fs 0 [] ∧ i ≤ n ∧ acc.length ≤ i * 65540) (fun x : Nat × Int × Bs => match x with | (i, last, acc) => n - i) (0, 0, []) ⟨rfl, by omega, by simp⟩ ?_ ?_
  · refine Zah (n := 2) rfl ?_ (by kernel_rfl) (by kernel_rfl)
    repeat (first | exact trivial | refine ⟨.inl rfl, ?_⟩ | refine ⟨.inr ⟨rfl, rfl⟩, ?_⟩ | refine ⟨.inr ⟨congrArg (Value.int .i64) (by first | omega | (dsimp only; omega)), rfl⟩, ?_⟩)
  rintro ⟨i, last, acc⟩ ⟨hR, hi, ha⟩
  dsimp only at *
  refine Zae 2 (H' := [rwR cFd fs, Zao acc, hole, hole]) rfl ?_
  have ha2 : acc.length ≤ 65540000 := by omega
  refine Ze (Zg ?_)
  by_cases h1 : (i : Nat) < (n : Nat)
  refine Zl (vx := Iv (i : Nat)) (vy := Iv (n : Nat)) rfl rfl (.bool true) rfl rfl (Zc0 (by omega)) ?_
  refine Za (Zb (Ze (Zy rfl (Zx (Zb (Ze (Z7 (Ze (Zg ?_)))))))))
  refine Zb1 (b := 0) (o := 0) (j := i * 2) (m := n) (c := c) (sz := 2) (i := (i : Nat)) (k := .i64) rfl rfl rfl rfl rfl (by omega) (by omega) (by omega) ?_
  refine Zaj (p := pt 0 (i * 2)) (v := fdV (fs.getD i default)) rfl rfl rfl (Zhf (n := 0) (m := 2) cFd rfl rfl rfl rfl (by have := hn; omega) (by omega)) ?_
  refine Zaw (b := bxB 2 (fdC (⟨0, ⟨#[]⟩⟩ : Field))) (nid := 2) (H' := [rwR cFd fs, Zao acc, bxB 2 (fdC (⟨0, ⟨#[]⟩⟩ : Field)), hole]) (Zaa (p := pt 2 0) (v := fdV (fs.getD i default)) (b := 2) (blk := bxB 2 (fdC (fs.getD i default))) (H' := [rwR cFd fs, Zao acc, bxB 2 (fdC (fs.getD i default)), hole]) (Za (Zb (Ze (Ze (Zg (Zm (p := pt 2 0) (v := fdV (fs.getD i default)) (Zd (Iv last) ?_))))))))
  refine Zq (Z32 (G := G) (fs.getD i default) last) (vals := [fdV (fs.getD i default), Iv last]) (res' := Iv (Zew (fs.getD i default) last)) rfl rfl rfl rfl rfl rfl ?_
  refine Zc (Iv (Zew (fs.getD i default) last)) (Za (Zb (Ze (Zg (Zd (Iv (Zew (fs.getD i default) last)) ?_)))))
  by_cases h2 : (Zew (fs.getD i default) last) ≠ 0
  refine Zl (vx := Iv (Zew (fs.getD i default) last)) (vy := Iv 0) rfl rfl (.bool true) rfl rfl (Zfc (by omega)) ?_
  refine Za (Zb (Zy rfl (Ze (Zg (Zd (Iv (Zew (fs.getD i default) last)) (Zc (.slice none 0 0) (Zc (Iv (Zew (fs.getD i default) last)) (Za (Zb ?_)))))))))
  refine Zb6 (Zbe.nilTmp (i := 2) (b := 3) true 1 rfl (by decide) rfl) ?_
  refine Zr (Z3 (Zbg (Z3 (Zdu (Zbg (Z3 (Zs ?_)))))))
  rw [show Zz fs 0 [] = ([], (Zew (fs.getD i default) last)) from Zza hR (by omega) (by omega)]
  exact Za9 [0, 3] (v := .tuple #[slv 3 0 0 0, Iv (Zew (fs.getD i default) last)]) rfl (by kernel_rfl) rfl rfl (by decide) (by simp [Za6, Zao, rwR, cFd]) ⟨⟨rfl, rfl, rfl, by first | omega | exact Nat.le_refl _ | exact Nat.zero_le _ | (dsimp only; omega), by first | omega | exact Nat.le_refl _ | exact Nat.zero_le _ | (dsimp only; omega)⟩, rfl, trivial⟩
  refine Zl (vx := Iv (Zew (fs.getD i default) last)) (vy := Iv 0) rfl rfl (.bool false) rfl rfl (Ze3 (by omega)) ?_
  refine Za (Zb (Zt rfl (Zx (Zb ?_))))
  have hsz : (fs.getD i default).data.size ≤ 65536 := Zw7 (last := last) (by omega)
  refine Zha (by kernel_rfl) ?_
  refine Zd (slv 1 0 acc.length acc.length) (Zm (p := pt 2 0) (v := fdV (fs.getD i default)) ?_)
  refine Zch (e := [some (1, 0)]) (nid := 0) (Z16 (G := G) acc (fs.getD i default) acc.length acc.length (by first | rfl | omega) (by omega) (by omega) (by omega)) (vals := [slv 1 0 acc.length acc.length, fdV (fs.getD i default)]) (v := slv 1 0 ((acc ++ Zic (fs.getD i default)).length) ((acc ++ Zic (fs.getD i default)).length)) (H' := [rwR cFd fs, Zao (acc ++ Zic (fs.getD i default)), bxB 2 (fdC (fs.getD i default)), hole]) rfl rfl rfl rfl rfl rfl ⟨⟨⟨rfl, rfl, rfl, by omega, by omega⟩, rfl, trivial⟩, ⟨(Zad rfl rfl rfl rfl), trivial⟩, rfl, rfl, rfl, Nat.le_refl _⟩ rfl rfl (by kernel_rfl) ?_
  refine Zi (b := 2) (o := 0) (n := 0) (o' := 0) (Zm (p := pt 2 0) (v := Iv ((fs.getD i default).tag)) (Zc (slv 1 0 ((acc ++ Zic (fs.getD i default)).length) ((acc ++ Zic (fs.getD i default)).length)) (Zc (Iv ((fs.getD i default).tag)) ?_)))
  refine Zet (by kernel_rfl) ?_
  refine Z8 (Zb (Zg ?_))
  refine Zl (vx := Iv (i : Nat)) (vy := Iv 1) rfl rfl (Iv ((i : Nat) + 1)) rfl rfl (Zan (by omega) (by omega) (by omega)) ?_
  refine Zd (Iv ((i : Nat) + 1)) (Za ?_)
  refine Zak ⟨((i + 1), ((fs.getD i default).tag), (acc ++ Zic (fs.getD i default))), ⟨Zw2 hR (by omega) (by omega), by omega, by rw [List.length_append, Znu]; omega⟩, by show n - (i + 1) < n - i; omega, ?_⟩
  refine Zah (n := 2) rfl ?_ (by kernel_rfl) (by kernel_rfl)
  repeat (first | exact trivial | refine ⟨.inl rfl, ?_⟩ | refine ⟨.inr ⟨rfl, rfl⟩, ?_⟩ | refine ⟨.inr ⟨congrArg (Value.int .i64) (by first | omega | (dsimp only; omega)), rfl⟩, ?_⟩)
  refine Zl (vx := Iv (i : Nat)) (vy := Iv (n : Nat)) rfl rfl (.bool false) rfl rfl (Zct (by omega)) ?_
  refine Za (Zb (Ze (Zt rfl (Zbp (Zau (Za2 (Za1 rfl (Zb (Ze (Zg (Zd (slv 1 0 acc.length acc.length) (Zc (slv 1 0 acc.length acc.length) (Zc (Iv 0) (Za (Zb (Zr (Zs ?_)))))))))))))))))
  rw [show Zz fs 0 [] = (acc, 0) from by rw [← hR, List.drop_of_length_le (by omega)]; rfl]
  exact Za9 [0, 1] (v := .tuple #[slv 1 0 acc.length acc.length, Iv 0]) rfl (by kernel_rfl) rfl rfl (by decide) (by simp [Za6, Zao, rwR, cFd]) ⟨⟨rfl, rfl, rfl, by first | omega | exact Nat.le_refl _ | exact Nat.zero_le _ | (dsimp only; omega), by first | omega | exact Nat.le_refl _ | exact Nat.zero_le _ | (dsimp only; omega)⟩, rfl, trivial⟩
end Go.Flat
