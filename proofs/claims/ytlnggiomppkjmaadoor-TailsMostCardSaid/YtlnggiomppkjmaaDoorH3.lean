/- Walks. -/
import Derived.Test.YtlnggiomppkjmaaDoorXB
set_option linter.unusedVariables false
set_option linter.unusedSimpArgs false
set_option maxRecDepth 20000
namespace Go.Flat
open Go.Proofs
variable {G : Glob}
structure Field where
  tag : Int
  data : ByteArray
def fdC (f : Field) : List Value := [.int .i64 f.tag, .string f.data]
def fdV (f : Field) : Value := .agg (fdC f).toArray
def cFd : Cod Field := ⟨fdC, 2, fun _ => rfl, by decide⟩
instance : Inhabited Field := ⟨⟨0, ⟨#[]⟩⟩⟩

def Zmm : Nat → Nat → Nat → D → Bs
  | 0, _, a, b => (Zmt 8 b).drop a
  | f + 1, n, a, b => if n = 0 then (Zmt 8 b).drop a else Zmm f (n / 256) (a - 1) (Zgu b (a - 1) (BitVec.ofInt 8 (n : Int)))
theorem Zxu (f a : Nat) (b : D) : Zmm f 0 a b = (Zmt 8 b).drop a := by cases f <;> simp [Zmm]
theorem Zuv {k a : Nat} (hk : k < 256 ^ a) (h : 1 ≤ k) : 1 ≤ a := by
 cases a with
 | zero => simp at hk; omega
 | succ a => omega
theorem Zxt {a k q a' : Nat} {b : D} {x : BitVec 8} {R : Bs} (hR : Zmm a k a b = R) (hk : k < 256 ^ a) (h1 : 0 < k) (hx : x = BitVec.ofInt 8 (k : Int)) (ha' : a = a' + 1) (hq : q = k / 256 := by rfl) (h8 : a ≤ 8 := by omega) : Zmm a' q a' (Zgu b a' x) = R ∧ q < 256 ^ a' ∧ a' ≤ 8 := by
 subst ha'; subst hx; subst hq
 refine ⟨?_, ?_, by omega⟩
 ·rw [Zmm, if_neg (by omega)] at hR; exact hR
 ·rw [Nat.pow_succ] at hk; exact Nat.div_lt_of_lt_mul (by omega)
def Zq (n : Int) : ByteArray × Int := if 0 ≤ n ∧ n ≤ 4611686018427387903 then (Zp (Zmm 8 n.toNat 8 dz), 0) else (⟨#[]⟩, 1)
theorem Zpo (n : Int) (hl : -9223372036854775808 ≤ n) (hh : n ≤ 9223372036854775807) : Z6 Tryd.prog G 88 [Iv n] [] (.tuple #[.string (Zq n).1, Iv (Zq n).2]) [] := by
  refine Zbh (fn := Tryd.f88) (nt := 25) rfl rfl rfl rfl ?_
  refine Zag 1 (H' := [hole]) rfl ?_
  refine Zf (Zg (Zb (.string ⟨#[]⟩) (Zb (Iv 0) (Za (Zc (Zf (Zf (Zg (Zd (Iv n) ?_)))))))))
  by_cases h1 : n < 0
  refine Zm (vx := Iv n) (vy := Iv 0) rfl rfl (.bool true) rfl rfl (Zcz (by omega)) ?_
  refine Zd (.bool true) (Ze (Ze (Zl (.bool true) (Za (Zc (Zz rfl (Zf (Zg (Zb (.string ⟨#[]⟩) (Zb (Iv 1) (Za (Zc (Zr (Z3 (Zu ?_)))))))))))))))
  rw [show Zq n = (⟨#[]⟩, 1) from if_neg (by omega)]
  exact Zn (v := .tuple #[.string ⟨#[]⟩, Iv 1]) rfl rfl rfl (by kernel_rfl) ⟨rfl, rfl, trivial⟩
  refine Zm (vx := Iv n) (vy := Iv 0) rfl rfl (.bool false) rfl rfl (Zcv (by omega)) ?_
  refine Zd (.bool false) (Zd (Iv n) ?_)
  by_cases h2 : 4611686018427387903 < n
  refine Zm (vx := Iv n) (vy := Iv 4611686018427387903) rfl rfl (.bool true) rfl rfl (Zfa (by omega)) ?_
  refine Zl (.bool true) (Za (Zc (Zz rfl (Zf (Zg (Zb (.string ⟨#[]⟩) (Zb (Iv 1) (Za (Zc (Zr (Z3 (Zu ?_))))))))))))
  rw [show Zq n = (⟨#[]⟩, 1) from if_neg (by omega)]
  exact Zn (v := .tuple #[.string ⟨#[]⟩, Iv 1]) rfl rfl rfl (by kernel_rfl) ⟨rfl, rfl, trivial⟩
  refine Zm (vx := Iv n) (vy := Iv 4611686018427387903) rfl rfl (.bool false) rfl rfl (Ze9 (by omega)) ?_
  refine Zl (.bool false) (Za (Zc (Zt rfl (Zy (Zc (Zf ?_))))))
  obtain ⟨m, rfl⟩ : ∃ x0 : Nat, n = (x0 : Int) := ⟨n.toNat, by omega⟩
  refine Zg (Za9 (b := bxB 8 (Zah w8 8 dz)) (nid := 0) (H' := [bxB 8 (Zah w8 8 dz)]) (Za (Zc (Zf (Zg (Zb (Iv 8) (Za (Zc (Zf (Z8 ?_))))))))))
  refine Zbs (fun x : Nat × Nat × D => match x with | (k, a, b) => [Iv (k : Nat), dead, .string ⟨#[]⟩, Iv 0, pt 0 0, Iv (a : Nat), Iv (m : Nat), .bool false, .bool false, Iv (m : Nat), .bool false, .bool false]) (fun x : Nat × Nat × D => match x with | (k, a, b) => [bxB 8 (Zah w8 8 b)]) (fun x : Nat × Nat × D => match x with | (k, a, b) => Zmm a k a b = Zmm 8 m 8 dz ∧ k < 256 ^ a ∧ a ≤ 8) (fun x : Nat × Nat × D => match x with | (k, a, b) => a) (m, 8, dz) ⟨rfl, by omega, by omega⟩ ?_ ?_
  · refine Zaj (n := 1) rfl ?_ (by kernel_rfl) (by kernel_rfl)
    repeat (first | exact trivial | refine ⟨.inl rfl, ?_⟩ | refine ⟨.inr ⟨rfl, rfl⟩, ?_⟩ | refine ⟨.inr ⟨congrArg (Value.int .i64) (by first | omega | (dsimp only; omega)), rfl⟩, ?_⟩)
  rintro ⟨k, a, b⟩ ⟨hR, hk, ha⟩
  dsimp only at *
  refine Zf (Zf (Zg (Zd (Iv (k : Nat)) ?_)))
  by_cases h3 : 0 < (k : Nat)
  refine Zm (vx := Iv (k : Nat)) (vy := Iv 0) rfl rfl (.bool true) rfl rfl (Zfa (by omega)) ?_
  refine Za (Zc (Zz rfl (Zy (Zc (Zf (Z8 (Zf ?_)))))))
  have h1a := Zuv hk (by omega)
  refine Zg (Zd (Iv (a : Nat)) ?_)
  refine Zm (vx := Iv (a : Nat)) (vy := Iv 1) rfl rfl (Iv ((a : Nat) - 1)) rfl rfl (Zhk (by omega) (by omega) (by omega)) ?_
  refine Zb (Iv ((a : Nat) - 1)) (Za (Zc (Zg (Zd (Iv ((a : Nat) - 1)) (Zd (Iv (k : Nat)) ?_)))))
  refine Zgi (w := Iv (k : Nat)) (v := w8 (BitVec.ofInt 8 (k : Nat))) rfl rfl rfl (Zn6 rfl rfl rfl) ?_
  refine Zdm (b := 0) (o := 0) (j := a - 1) (n := 8) (sz := 1) (i := (a : Nat) - 1) (k := .i64) rfl rfl rfl rfl rfl (by omega) (by omega) (by omega) ?_
  refine Zc1 (p := pt 0 (a - 1)) (v := w8 (BitVec.ofInt 8 (k : Nat))) (b := 0) (blk := bxB 8 (Zah w8 8 (Zgu b (a - 1) (BitVec.ofInt 8 (k : Nat))))) (H' := [bxB 8 (Zah w8 8 (Zgu b (a - 1) (BitVec.ofInt 8 (k : Nat))))]) rfl rfl rfl (Zhe (blk := bxB 8 (Zah w8 8 b)) (i := a - 1) (enc := w8) (n := 8) (w := b) (x := (BitVec.ofInt 8 (k : Nat))) rfl rfl rfl rfl rfl (by omega) rfl rfl) (by kernel_rfl) ?_
  refine Za (Z7 (Zc (Zg (Zd (Iv (k : Nat)) ?_))))
  refine Zm (vx := Iv (k : Nat)) (vy := .int .u64 8) rfl rfl (Iv (((k / 256) : Nat) : Int)) rfl rfl (Z00 8 (by omega) (by omega) (by omega) (by omega)) ?_
  refine Zb (Iv (((k / 256) : Nat) : Int)) (Za ?_)
  refine Zak ⟨((k / 256), (a - 1), (Zgu b (a - 1) (BitVec.ofInt 8 (k : Nat)))), Zxt (a' := a - 1) hR hk (by omega) rfl (by omega), by show a - 1 < a; omega, ?_⟩
  refine Zaj (n := 1) rfl ?_ (by kernel_rfl) (by kernel_rfl)
  repeat (first | exact trivial | refine ⟨.inl rfl, ?_⟩ | refine ⟨.inr ⟨rfl, rfl⟩, ?_⟩ | refine ⟨.inr ⟨congrArg (Value.int .i64) (by first | omega | (dsimp only; omega)), rfl⟩, ?_⟩)
  refine Zm (vx := Iv (k : Nat)) (vy := Iv 0) rfl rfl (.bool false) rfl rfl (Ze9 (by omega)) ?_
  refine Za (Zc (Zt rfl (Zbm (Zaw (Zay (Za0 rfl (Zc (Zf (Zg (Zd (Iv (a : Nat)) ?_))))))))))
  refine Zc0 (p := pt 0 0) (vl := some (Iv (a : Nat))) (vh := none) (v := slv 0 a (8 - a) (8 - a)) rfl rfl rfl rfl rfl (Zx6 (sz := 1) (l := a) (h := 8) rfl rfl rfl (Z36 (by omega) (by omega)) rfl (by omega) (by omega) (by omega)) ?_
  refine Zjm (p := slv 0 a (8 - a) (8 - a)) (v := .string (Zp (((Zmt 8 b).drop a).take (8 - a)))) rfl rfl rfl (Zwp (l := Zmt 8 b) rfl rfl rfl rfl (Zx3 _ _) (by rw [Zlu]; omega) rfl) ?_
  refine Zb (.string (Zp (((Zmt 8 b).drop a).take (8 - a)))) (Zb (Iv 0) (Za (Zc (Zr (Zu ?_)))))
  have e : Zq (m : Nat) = ((Zp (((Zmt 8 b).drop a).take (8 - a))), 0) := by
    rw [show Zq (m : Nat) = (Zp (Zmm 8 m 8 dz), 0) from if_pos (by omega), ← hR]
    obtain rfl : k = 0 := by omega
    rw [Zxu, List.take_of_length_le (by rw [List.length_drop, Zlu]; omega)]
  rw [e]
  exact Zn (v := .tuple #[.string (Zp (((Zmt 8 b).drop a).take (8 - a))), Iv 0]) rfl rfl rfl (by kernel_rfl) ⟨rfl, rfl, trivial⟩
end Go.Flat
namespace Go.Flat
open Go.Proofs
variable {G : Glob}
def Zip (f : Field) : Bs := [BitVec.ofInt 8 f.tag, BitVec.ofInt 8 (f.data.size / 65536 : Nat), BitVec.ofInt 8 (f.data.size / 256 : Nat), BitVec.ofInt 8 (f.data.size : Nat)] ++ bl f.data
def Zex (f : Field) (last : Int) : Int :=
  if 255 < f.tag then 1 else
  if f.tag ≤ last then 1 else
  if 65536 < (f.data.size : Nat) then 2 else
  0
theorem Z4t (f : Field) (last : Int) : Z6 Tryd.prog G 94 [fdV f, Iv last] [] (Iv (Zex f last)) [] := by
 refine Zbh (fn := Tryd.f94) (nt := 21) rfl rfl rfl rfl ?_
 refine Zag 1 (H' := [hole]) rfl ?_
 refine Zf (Zg (Zb4 (v := fdV f) (b := bxB 2 (fdC f)) (nid := 0) (H' := [bxB 2 (fdC f)]) (Zb (Iv 0) (Za (Zc (Zf (Zg (Zb (Iv 0) (Za (Zc (Zf (Z8 (Zf (Z8 (Zf (Z8 (Z8 (Zf (Zf (Zf (Zg (Zh (b := 0) (o := 0) (n := 0) (o' := 0) (Zo (p := pt 0 0) (v := Iv f.tag) ?_)))))))))))))))))))))))
 by_cases h1 : 255 < f.tag
 refine Zm (vx := Iv f.tag) (vy := Iv 255) rfl rfl (.bool true) rfl rfl (Zfa (by omega)) ?_
 refine Zb (.bool true) (Za (Zc (Zz rfl (Zbm (Zaw (Zaw (Za0 rfl (Z7 (Zc (Zf (Zg (Zb (Iv 1) (Za (Zc (Zbm (Zm9 rfl (Zaw (Za0 rfl (Zc (Zf (Zg (Zd (Iv 1) (Zb (Iv 1) (Za (Zc (Zr (Zu ?_)))))))))))))))))))))))))))
 rw [show Zex f last = 1 from by unfold Zex; rw [if_pos h1]]
 exact Zn (v := Iv 1) rfl rfl rfl (by kernel_rfl) rfl
 refine Zm (vx := Iv f.tag) (vy := Iv 255) rfl rfl (.bool false) rfl rfl (Ze9 (by omega)) ?_
 refine Zb (.bool false) (Za (Zc (Zt rfl (Zy (Zc (Zf (Zf (Zg (Zh (b := 0) (o := 0) (n := 0) (o' := 0) (Zo (p := pt 0 0) (v := Iv f.tag) (Zd (Iv last) ?_)))))))))))
 by_cases h2 : f.tag ≤ last
 refine Zm (vx := Iv f.tag) (vy := Iv last) rfl rfl (.bool true) rfl rfl (Zka (by omega)) ?_
 refine Zb (.bool true) (Za (Zc (Zz rfl (Zbm (Zaw (Zaw (Zm9 rfl (Za0 rfl (Zc (Zf (Zg (Zb (Iv 1) (Za (Zc (Zbm (Zm9 rfl (Zaw (Za0 rfl (Zc (Zf (Zg (Zd (Iv 1) (Zb (Iv 1) (Za (Zc (Zr (Zu ?_)))))))))))))))))))))))))))
 rw [show Zex f last = 1 from by unfold Zex; rw [if_neg h1, if_pos h2]]
 exact Zn (v := Iv 1) rfl rfl rfl (by kernel_rfl) rfl
 refine Zm (vx := Iv f.tag) (vy := Iv last) rfl rfl (.bool false) rfl rfl (Zlh (by omega)) ?_
 refine Zb (.bool false) (Za (Zc (Zt rfl (Zy (Zc (Zf (Zg (Zh (b := 0) (o := 0) (n := 1) (o' := 1) (Zo (p := pt 0 1) (v := .string f.data) (Zav (p := .string f.data) (v := Iv (f.data.size : Nat)) ?_))))))))))
 by_cases h3 : 65536 < (f.data.size : Nat)
 refine Zm (vx := Iv (f.data.size : Nat)) (vy := Iv 65536) rfl rfl (.bool true) rfl rfl (Zfa (by omega)) ?_
 refine Zb (.bool true) (Za (Zc (Zz rfl (Zbm (Zaw (Zm9 rfl (Zm9 rfl (Zaw (Za0 rfl (Zc (Zf (Zg (Zb (Iv 2) (Za (Zc (Zbm (Za0 rfl (Zc (Zf (Zg (Zd (Iv 2) (Zb (Iv 2) (Za (Zc (Zr (Zu ?_))))))))))))))))))))))))))
 rw [show Zex f last = 2 from by unfold Zex; rw [if_neg h1, if_neg h2, if_pos h3]]
 exact Zn (v := Iv 2) rfl rfl rfl (by kernel_rfl) rfl
 refine Zm (vx := Iv (f.data.size : Nat)) (vy := Iv 65536) rfl rfl (.bool false) rfl rfl (Ze9 (by omega)) ?_
 refine Zb (.bool false) (Za (Zc (Zt rfl (Zy (Zc (Zbm (Zm9 rfl (Zm9 rfl (Zaw (Zm9 rfl (Zaw (Za0 rfl (Zc (Zf (Zg (Zd (Iv 0) (Zb (Iv 0) (Za (Zc (Zr (Zu ?_)))))))))))))))))))))
 rw [show Zex f last = 0 from by unfold Zex; rw [if_neg h1, if_neg h2, if_neg h3]]
 exact Zn (v := Iv 0) rfl rfl rfl (by kernel_rfl) rfl
abbrev Y1 (f : Field) : Blk := Zap [(BitVec.ofInt 8 f.tag), (BitVec.ofInt 8 (((f.data.size / 65536) : Nat) : Int)), (BitVec.ofInt 8 (((f.data.size / 256) : Nat) : Int)), (BitVec.ofInt 8 (f.data.size : Nat))]
theorem Z4y (l : Bs) (f : Field) (n c : Nat) (hn : l.length = n) (hc : n ≤ c) (hf : f.data.size ≤ 65536) (hb : n ≤ 1099511627776) : Z6 Tryd.prog G 95 [slv 0 0 n c, fdV f] [Zap l] (slv 0 0 (n + f.data.size + 4) (n + f.data.size + 4)) [Zap (l ++ Zip f)] := by
  refine Zbh (fn := Tryd.f95) (nt := 26) rfl rfl rfl rfl ?_
  refine Zag 2 (H' := [Zap l, hole, hole]) rfl ?_
  refine Zf (Zg (Zb4 (v := fdV f) (b := bxB 2 (fdC f)) (nid := 1) (H' := [Zap l, bxB 2 (fdC f), hole]) (Zb (.slice none 0 0) (Za (Zc (Zf (Zg (Zh (b := 1) (o := 0) (n := 1) (o' := 1) (Zo (p := pt 1 1) (v := .string f.data) (Zav (p := .string f.data) (v := Iv (f.data.size : Nat)) (Zb (Iv (f.data.size : Nat)) (Za (Zc (Zf ?_))))))))))))))
  refine Zgn (by kernel_rfl) ?_
  refine Zd (slv 0 0 n c) (Zh (b := 1) (o := 0) (n := 0) (o' := 0) (Zo (p := pt 1 0) (v := Iv f.tag) ?_))
  refine Zgi (w := Iv f.tag) (v := w8 (BitVec.ofInt 8 f.tag)) rfl rfl rfl (Zn6 rfl rfl rfl) ?_
  refine Zd (Iv (f.data.size : Nat)) ?_
  refine Zm (vx := Iv (f.data.size : Nat)) (vy := .int .u64 16) rfl rfl (Iv (((f.data.size / 65536) : Nat) : Int)) rfl rfl (Z00 16 (by omega) (by omega) (by omega) (by omega)) ?_
  refine Zgi (w := Iv (((f.data.size / 65536) : Nat) : Int)) (v := w8 (BitVec.ofInt 8 (((f.data.size / 65536) : Nat) : Int))) rfl rfl rfl (Zn6 rfl rfl rfl) ?_
  refine Zd (Iv (f.data.size : Nat)) ?_
  refine Zm (vx := Iv (f.data.size : Nat)) (vy := .int .u64 8) rfl rfl (Iv (((f.data.size / 256) : Nat) : Int)) rfl rfl (Z00 8 (by omega) (by omega) (by omega) (by omega)) ?_
  refine Zgi (w := Iv (((f.data.size / 256) : Nat) : Int)) (v := w8 (BitVec.ofInt 8 (((f.data.size / 256) : Nat) : Int))) rfl rfl rfl (Zn6 rfl rfl rfl) ?_
  refine Zd (Iv (f.data.size : Nat)) ?_
  refine Zgi (w := Iv (f.data.size : Nat)) (v := w8 (BitVec.ofInt 8 (f.data.size : Nat))) rfl rfl rfl (Zn6 rfl rfl rfl) ?_
  refine Zen (vs := [(0, w8 (BitVec.ofInt 8 f.tag)), (1, w8 (BitVec.ofInt 8 (((f.data.size / 65536) : Nat) : Int))), (2, w8 (BitVec.ofInt 8 (((f.data.size / 256) : Nat) : Int))), (3, w8 (BitVec.ofInt 8 (f.data.size : Nat)))]) (v := slv 2 0 4 4) (blk := Zap [(BitVec.ofInt 8 f.tag), (BitVec.ofInt 8 (((f.data.size / 65536) : Nat) : Int)), (BitVec.ofInt 8 (((f.data.size / 256) : Nat) : Int)), (BitVec.ofInt 8 (f.data.size : Nat))]) (nid := 2) (H' := [Zap l, bxB 2 (fdC f), Y1 f]) rfl rfl rfl (by kernel_rfl) (by kernel_rfl) ?_
  have hl3 : (l ++ [(BitVec.ofInt 8 f.tag), (BitVec.ofInt 8 (((f.data.size / 65536) : Nat) : Int)), (BitVec.ofInt 8 (((f.data.size / 256) : Nat) : Int)), (BitVec.ofInt 8 (f.data.size : Nat))]).length = n + 4 := by have := hn; have := (rfl : _ = 4); first | (rw [List.length_append]; omega) | (simp; omega) | simp
  refine Zc7 (p := slv 0 0 n c) (q := slv 2 0 4 4) (v := slv 0 0 (n + 4) (n + 4)) (b := 0) (blk := Zap (l ++ [(BitVec.ofInt 8 f.tag), (BitVec.ofInt 8 (((f.data.size / 65536) : Nat) : Int)), (BitVec.ofInt 8 (((f.data.size / 256) : Nat) : Int)), (BitVec.ofInt 8 (f.data.size : Nat))])) (H' := [Zap (l ++ [(BitVec.ofInt 8 f.tag), (BitVec.ofInt 8 (((f.data.size / 65536) : Nat) : Int)), (BitVec.ofInt 8 (((f.data.size / 256) : Nat) : Int)), (BitVec.ofInt 8 (f.data.size : Nat))]), bxB 2 (fdC f), Y1 f]) rfl rfl rfl (.inl ⟨_, rfl⟩) rfl rfl (Zrt (by_ := 1) (n' := n + 4) rfl rfl (Z03 rfl rfl (by have := (rfl : _ = 4); omega)) rfl rfl (by have := hn; omega) (by omega) (by decide) (by omega)) rfl (by kernel_rfl) ?_
  refine Zh (b := 1) (o := 0) (n := 1) (o' := 1) (Zo (p := pt 1 1) (v := .string f.data) ?_)
  have hl4 : ((l ++ [(BitVec.ofInt 8 f.tag), (BitVec.ofInt 8 (((f.data.size / 65536) : Nat) : Int)), (BitVec.ofInt 8 (((f.data.size / 256) : Nat) : Int)), (BitVec.ofInt 8 (f.data.size : Nat))]) ++ (bl f.data)).length = n + f.data.size + 4 := by have := hl3; have := (Zkf f.data); first | (rw [List.length_append]; omega) | (simp; omega) | simp
  refine Zc7 (p := slv 0 0 (n + 4) (n + 4)) (q := .string f.data) (v := slv 0 0 (n + f.data.size + 4) (n + f.data.size + 4)) (b := 0) (blk := Zap ((l ++ [(BitVec.ofInt 8 f.tag), (BitVec.ofInt 8 (((f.data.size / 65536) : Nat) : Int)), (BitVec.ofInt 8 (((f.data.size / 256) : Nat) : Int)), (BitVec.ofInt 8 (f.data.size : Nat))]) ++ (bl f.data))) (H' := [Zap ((l ++ [(BitVec.ofInt 8 f.tag), (BitVec.ofInt 8 (((f.data.size / 65536) : Nat) : Int)), (BitVec.ofInt 8 (((f.data.size / 256) : Nat) : Int)), (BitVec.ofInt 8 (f.data.size : Nat))]) ++ (bl f.data)), bxB 2 (fdC f), Y1 f]) rfl rfl rfl (.inr rfl) rfl rfl (Zrt (by_ := 1) (n' := n + f.data.size + 4) rfl rfl (rfl : Zhd _ 1 (.string _) = some (_, Zei _)) (Zmc _) rfl (by have := hl3; omega) (by omega) (by decide) (by omega)) rfl (by kernel_rfl) ?_
  refine Zb (slv 0 0 (n + f.data.size + 4) (n + f.data.size + 4)) ?_
  refine Zd3 (by kernel_rfl) ?_
  refine Zc (Zr (Zu ?_))
  rw [show Zap (l ++ Zip f) = Zap ((l ++ [(BitVec.ofInt 8 f.tag), (BitVec.ofInt 8 (((f.data.size / 65536) : Nat) : Int)), (BitVec.ofInt 8 (((f.data.size / 256) : Nat) : Int)), (BitVec.ofInt 8 (f.data.size : Nat))]) ++ (bl f.data)) from congrArg Zap (List.append_assoc _ _ _).symm]
  exact Zn (v := slv 0 0 (n + f.data.size + 4) (n + f.data.size + 4)) rfl rfl rfl (by simp [Zbf, Zap]) ⟨rfl, rfl, rfl, by first | omega | exact Nat.le_refl _ | exact Nat.zero_le _ | (dsimp only; omega), by first | omega | exact Nat.le_refl _ | exact Nat.zero_le _ | (dsimp only; omega)⟩
end Go.Flat
namespace Go.Flat
open Go.Proofs
variable {G : Glob}
theorem Zod (f : Field) : (Zip f).length = f.data.size + 4 := by simp [Zip, Zkf]
theorem Z2x (l : Bs) (f : Field) (n c : Nat) (hn : l.length = n) (hc : n ≤ c) (hf : f.data.size ≤ 65536) (hb : n ≤ 1099511627776) : Z6 Tryd.prog G 95 [slv 0 0 n c, fdV f] [Zap l] (slv 0 0 (l ++ Zip f).length (l ++ Zip f).length) [Zap (l ++ Zip f)] := by
 have h := Z4y (G := G) l f n c hn hc hf hb
 rw [show n + f.data.size + 4 = (l ++ Zip f).length from by rw [List.length_append, Zod]; omega] at h
 exact h
theorem Zxr {f : Field} {last : Int} (h : Zex f last = 0) : f.data.size ≤ 65536 := by
 unfold Zex at h
 split at h
 ·omega
 ·split at h
  ·omega
  ·split at h <;> omega
def Z2 : List Field → Int → Bs → Bs × Int
  | [], _, acc => (acc, 0)
  | f :: fs, last, acc => if Zex f last = 0 then Z2 fs f.tag (acc ++ Zip f) else ([], Zex f last)
theorem Zpw {α : Type} [Inhabited α] {l : List α} {i : Nat} (h : i < l.length) : l.drop i = l.getD i default :: l.drop (i + 1) := by
 rw [List.drop_eq_getElem_cons h, List.getD_eq_getElem?_getD, List.getElem?_eq_getElem h]; rfl
theorem Zxl {fs : List Field} {i : Nat} {last : Int} {acc : Bs} {R : Bs × Int} (hR : Z2 (fs.drop i) last acc = R) (hi : i < fs.length) (hm : Zex (fs.getD i default) last = 0) : Z2 (fs.drop (i + 1)) (fs.getD i default).tag (acc ++ Zip (fs.getD i default)) = R := by
 rw [Zpw hi, Z2, if_pos hm] at hR; exact hR
theorem Zzv {fs : List Field} {i : Nat} {last : Int} {acc : Bs} {R : Bs × Int} (hR : Z2 (fs.drop i) last acc = R) (hi : i < fs.length) (hm : Zex (fs.getD i default) last ≠ 0) : R = ([], Zex (fs.getD i default) last) := by
 rw [Zpw hi, Z2, if_neg hm] at hR; exact hR.symm
def Z57 : Bs → Nat → Int × Int
  | [], n => ((n : Nat), 0)
  | x :: l, n => if 18014398509481983 < n then (0, 11) else Z57 l (n * 256 + x.toNat)
def Z7x (s : ByteArray) : Int × Int := if 8 < s.size ∨ (1 ≤ s.size ∧ ((bl s).getD 0 0 == 0#8) = true) then (0, 11) else Z57 (bl s) 0
theorem Zyh (fs : List Field) (n c : Nat) (hn : fs.length = n) (hc : n ≤ c) (hb : n ≤ 1000) : Z6 Tryd.prog G 89 [slv 0 0 n c] [rwR cFd fs] (.tuple #[slv 1 0 (Z2 fs 0 []).1.length (Z2 fs 0 []).1.length, Iv (Z2 fs 0 []).2]) [rwR cFd fs, Zap (Z2 fs 0 []).1] := by
  refine Zbh (fn := Tryd.f89) (nt := 28) rfl rfl rfl rfl ?_
  refine Zag 1 (H' := [rwR cFd fs, hole]) rfl ?_
  refine Zf (Zg (Zb (.slice none 0 0) (Zb (Iv 0) (Za (Zc (Zf (Zg (Zb (.slice none 0 0) (Za (Zc (Zf (Zg (Zb (Iv 0) (Za (Zc (Zf (Zf ?_)))))))))))))))))
  refine Zb8 (Zba.nilTmp (i := 4) (b := 1) true 1 rfl (by decide) rfl) ?_
  refine Zg (Zd (slv 0 0 n c) (Zav (p := slv 0 0 n c) (v := Iv (n : Nat)) (Zd (Iv 0) (Za (Zc (Z8 ?_))))))
  refine Zbs (fun x : Nat × Int × Bs => match x with | (i, last, acc) => [slv 0 0 n c, dead, dead, dead, slv 1 0 acc.length acc.length, Iv last, dead, dead, dead, slv 0 0 n c, Iv (n : Nat), Iv (i : Nat)]) (fun x : Nat × Int × Bs => match x with | (i, last, acc) => [rwR cFd fs, Zap acc]) (fun x : Nat × Int × Bs => match x with | (i, last, acc) => Z2 (fs.drop i) last acc = Z2 fs 0 [] ∧ i ≤ n ∧ acc.length ≤ i * 65540) (fun x : Nat × Int × Bs => match x with | (i, last, acc) => n - i) (0, 0, []) ⟨rfl, by omega, by simp⟩ ?_ ?_
  · refine Zaj (n := 2) rfl ?_ (by kernel_rfl) (by kernel_rfl)
    repeat (first | exact trivial | refine ⟨.inl rfl, ?_⟩ | refine ⟨.inr ⟨rfl, rfl⟩, ?_⟩ | refine ⟨.inr ⟨congrArg (Value.int .i64) (by first | omega | (dsimp only; omega)), rfl⟩, ?_⟩)
  rintro ⟨i, last, acc⟩ ⟨hR, hi, ha⟩
  dsimp only at *
  refine Zag 2 (H' := [rwR cFd fs, Zap acc, hole, hole]) rfl ?_
  have ha2 : acc.length ≤ 65540000 := by omega
  refine Zf (Zg ?_)
  by_cases h1 : (i : Nat) < (n : Nat)
  refine Zm (vx := Iv (i : Nat)) (vy := Iv (n : Nat)) rfl rfl (.bool true) rfl rfl (Zcz (by omega)) ?_
  refine Za (Zc (Zf (Zz rfl (Zy (Zc (Zf (Z8 (Zf (Zg ?_)))))))))
  refine Zbb (b := 0) (o := 0) (j := i * 2) (m := n) (c := c) (sz := 2) (i := (i : Nat)) (k := .i64) rfl rfl rfl rfl rfl (by omega) (by omega) (by omega) ?_
  refine Zae (p := pt 0 (i * 2)) (v := fdV (fs.getD i default)) rfl rfl rfl (Zhq (n := 0) (m := 2) cFd rfl rfl rfl rfl (by have := hn; omega) (by omega)) ?_
  refine Za9 (b := bxB 2 (fdC (⟨0, ⟨#[]⟩⟩ : Field))) (nid := 2) (H' := [rwR cFd fs, Zap acc, bxB 2 (fdC (⟨0, ⟨#[]⟩⟩ : Field)), hole]) (Zab (p := pt 2 0) (v := fdV (fs.getD i default)) (b := 2) (blk := bxB 2 (fdC (fs.getD i default))) (H' := [rwR cFd fs, Zap acc, bxB 2 (fdC (fs.getD i default)), hole]) (Za (Zc (Zf (Zf (Zg (Zo (p := pt 2 0) (v := fdV (fs.getD i default)) (Zd (Iv last) ?_))))))))
  refine Zs (Z4t (G := G) (fs.getD i default) last) (vals := [fdV (fs.getD i default), Iv last]) (res' := Iv (Zex (fs.getD i default) last)) rfl rfl rfl rfl rfl rfl ?_
  refine Zb (Iv (Zex (fs.getD i default) last)) (Za (Zc (Zf (Zg (Zd (Iv (Zex (fs.getD i default) last)) ?_)))))
  by_cases h2 : (Zex (fs.getD i default) last) ≠ 0
  refine Zm (vx := Iv (Zex (fs.getD i default) last)) (vy := Iv 0) rfl rfl (.bool true) rfl rfl (Zgd (by omega)) ?_
  refine Za (Zc (Zz rfl (Zf (Zg (Zd (Iv (Zex (fs.getD i default) last)) (Zb (.slice none 0 0) (Zb (Iv (Zex (fs.getD i default) last)) (Za (Zc ?_)))))))))
  refine Zb8 (Zba.nilTmp (i := 2) (b := 3) true 1 rfl (by decide) rfl) ?_
  refine Zr (Z3 (Zao (Z3 (Zcr (Zao (Z3 (Zu ?_)))))))
  rw [show Z2 fs 0 [] = ([], (Zex (fs.getD i default) last)) from Zzv hR (by omega) (by omega)]
  exact Zbd [0, 3] (v := .tuple #[slv 3 0 0 0, Iv (Zex (fs.getD i default) last)]) rfl (by kernel_rfl) rfl rfl (by decide) (by simp [Zbf, Zap, rwR, cFd]) ⟨⟨rfl, rfl, rfl, by first | omega | exact Nat.le_refl _ | exact Nat.zero_le _ | (dsimp only; omega), by first | omega | exact Nat.le_refl _ | exact Nat.zero_le _ | (dsimp only; omega)⟩, rfl, trivial⟩
  refine Zm (vx := Iv (Zex (fs.getD i default) last)) (vy := Iv 0) rfl rfl (.bool false) rfl rfl (Zft (by omega)) ?_
  refine Za (Zc (Zt rfl (Zy (Zc ?_))))
  have hsz : (fs.getD i default).data.size ≤ 65536 := Zxr (last := last) (by omega)
  refine Zgn (by kernel_rfl) ?_
  refine Zd (slv 1 0 acc.length acc.length) (Zo (p := pt 2 0) (v := fdV (fs.getD i default)) ?_)
  refine Zcl (e := [some (1, 0)]) (nid := 0) (Z2x (G := G) acc (fs.getD i default) acc.length acc.length (by first | rfl | omega) (by omega) (by omega) (by omega)) (vals := [slv 1 0 acc.length acc.length, fdV (fs.getD i default)]) (v := slv 1 0 ((acc ++ Zip (fs.getD i default)).length) ((acc ++ Zip (fs.getD i default)).length)) (H' := [rwR cFd fs, Zap (acc ++ Zip (fs.getD i default)), bxB 2 (fdC (fs.getD i default)), hole]) rfl rfl rfl rfl rfl rfl ⟨⟨⟨rfl, rfl, rfl, by omega, by omega⟩, rfl, trivial⟩, ⟨(Zad rfl rfl rfl rfl), trivial⟩, rfl, rfl, rfl, Nat.le_refl _⟩ rfl rfl (by kernel_rfl) ?_
  refine Zh (b := 2) (o := 0) (n := 0) (o' := 0) (Zo (p := pt 2 0) (v := Iv ((fs.getD i default).tag)) (Zb (slv 1 0 ((acc ++ Zip (fs.getD i default)).length) ((acc ++ Zip (fs.getD i default)).length)) (Zb (Iv ((fs.getD i default).tag)) ?_)))
  refine Zd3 (by kernel_rfl) ?_
  refine Z7 (Zc (Zg ?_))
  refine Zm (vx := Iv (i : Nat)) (vy := Iv 1) rfl rfl (Iv ((i : Nat) + 1)) rfl rfl (Zal (by omega) (by omega) (by omega)) ?_
  refine Zd (Iv ((i : Nat) + 1)) (Za ?_)
  refine Zak ⟨((i + 1), ((fs.getD i default).tag), (acc ++ Zip (fs.getD i default))), ⟨Zxl hR (by omega) (by omega), by omega, by rw [List.length_append, Zod]; omega⟩, by show n - (i + 1) < n - i; omega, ?_⟩
  refine Zaj (n := 2) rfl ?_ (by kernel_rfl) (by kernel_rfl)
  repeat (first | exact trivial | refine ⟨.inl rfl, ?_⟩ | refine ⟨.inr ⟨rfl, rfl⟩, ?_⟩ | refine ⟨.inr ⟨congrArg (Value.int .i64) (by first | omega | (dsimp only; omega)), rfl⟩, ?_⟩)
  refine Zm (vx := Iv (i : Nat)) (vy := Iv (n : Nat)) rfl rfl (.bool false) rfl rfl (Zcv (by omega)) ?_
  refine Za (Zc (Zf (Zt rfl (Zbm (Zaw (Zay (Za0 rfl (Zc (Zf (Zg (Zd (slv 1 0 acc.length acc.length) (Zb (slv 1 0 acc.length acc.length) (Zb (Iv 0) (Za (Zc (Zr (Zu ?_)))))))))))))))))
  rw [show Z2 fs 0 [] = (acc, 0) from by rw [← hR, List.drop_of_length_le (by omega)]; rfl]
  exact Zbd [0, 1] (v := .tuple #[slv 1 0 acc.length acc.length, Iv 0]) rfl (by kernel_rfl) rfl rfl (by decide) (by simp [Zbf, Zap, rwR, cFd]) ⟨⟨rfl, rfl, rfl, by first | omega | exact Nat.le_refl _ | exact Nat.zero_le _ | (dsimp only; omega), by first | omega | exact Nat.le_refl _ | exact Nat.zero_le _ | (dsimp only; omega)⟩, rfl, trivial⟩
end Go.Flat
