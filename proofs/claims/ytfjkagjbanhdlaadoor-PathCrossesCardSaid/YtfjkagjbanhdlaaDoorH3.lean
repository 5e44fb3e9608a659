/- Walks. -/
import Derived.Test.YtfjkagjbanhdlaaDoorXB
set_option linter.unusedVariables false
set_option linter.unusedSimpArgs false
set_option maxRecDepth 20000
namespace Go.Flat
open Go.Proofs
variable {G : Glob}
structure Field where
  tag : Int
  data : ByteArray
def fdC (f : Field) : List Value := [.int .i64 f.tag, .string f.data]
def fdV (f : Field) : Value := .agg (fdC f).toArray
def cFd : Cod Field := ⟨fdC, 2, fun _ => rfl, by decide⟩
instance : Inhabited Field := ⟨⟨0, ⟨#[]⟩⟩⟩

def Zni : Nat → Nat → Nat → D → Bs
  | 0, _, a, b => (Zjx 8 b).drop a
  | f + 1, n, a, b => if n = 0 then (Zjx 8 b).drop a else Zni f (n / 256) (a - 1) (Zh0 b (a - 1) (BitVec.ofInt 8 (n : Int)))
theorem Zyn (f a : Nat) (b : D) : Zni f 0 a b = (Zjx 8 b).drop a := by cases f <;> simp [Zni]
theorem Zvf {k a : Nat} (hk : k < 256 ^ a) (h : 1 ≤ k) : 1 ≤ a := by
 cases a with
 | zero => simp at hk; omega
 | succ a => omega
theorem Zza {a k q a' : Nat} {b : D} {x : BitVec 8} {R : Bs} (hR : Zni a k a b = R) (hk : k < 256 ^ a) (h1 : 0 < k) (hx : x = BitVec.ofInt 8 (k : Int)) (ha' : a = a' + 1) (hq : q = k / 256 := by rfl) (h8 : a ≤ 8 := by omega) : Zni a' q a' (Zh0 b a' x) = R ∧ q < 256 ^ a' ∧ a' ≤ 8 := by
 subst ha'; subst hx; subst hq
 refine ⟨?_, ?_, by omega⟩
 ·rw [Zni, if_neg (by omega)] at hR; exact hR
 ·rw [Nat.pow_succ] at hk; exact Nat.div_lt_of_lt_mul (by omega)
def Zv (n : Int) : ByteArray × Int := if 0 ≤ n ∧ n ≤ 4611686018427387903 then (Zr (Zni 8 n.toNat 8 dz), 0) else (⟨#[]⟩, 1)
theorem Zrd (n : Int) (hl : -9223372036854775808 ≤ n) (hh : n ≤ 9223372036854775807) : Zaf Tryd.prog G 65 [Iv n] [] (.tuple #[.string (Zv n).1, Iv (Zv n).2]) [] := by
  refine Zbj (fn := Tryd.f65) (nt := 25) rfl rfl rfl rfl ?_
  refine Zai 1 (H' := [hole]) rfl ?_
  refine Zg (Zj (Zd rfl rfl (.string ⟨#[]⟩) rfl (Zd rfl rfl (Iv 0) rfl (Zb (Zc (Zg (Zg (Zj (Zf rfl rfl (Iv n) rfl ?_)))))))))
  by_cases h1 : n < 0
  refine Zo (vx := Iv n) (vy := Iv 0) rfl rfl (.bool true) rfl rfl (Zco (by omega)) ?_
  refine Zf rfl rfl (.bool true) rfl (Zi rfl rfl (Zi rfl rfl (Zm rfl rfl (.bool true) rfl (Zb (Zc (Z0 rfl (Zg (Zj (Zd rfl rfl (.string ⟨#[]⟩) rfl (Zd rfl rfl (Iv 1) rfl (Zb (Zc (Zx (Zaa (Zy ?_)))))))))))))))
  rw [show Zv n = (⟨#[]⟩, 1) from if_neg (by omega)]
  exact Zq (v := .tuple #[.string ⟨#[]⟩, Iv 1]) rfl rfl rfl (by kernel_rfl) ⟨rfl, rfl, trivial⟩
  refine Zo (vx := Iv n) (vy := Iv 0) rfl rfl (.bool false) rfl rfl (Zce (by omega)) ?_
  refine Zf rfl rfl (.bool false) rfl (Zf rfl rfl (Iv n) rfl ?_)
  by_cases h2 : 4611686018427387903 < n
  refine Zo (vx := Iv n) (vy := Iv 4611686018427387903) rfl rfl (.bool true) rfl rfl (Zeh (by omega)) ?_
  refine Zm rfl rfl (.bool true) rfl (Zb (Zc (Z0 rfl (Zg (Zj (Zd rfl rfl (.string ⟨#[]⟩) rfl (Zd rfl rfl (Iv 1) rfl (Zb (Zc (Zx (Zaa (Zy ?_))))))))))))
  rw [show Zv n = (⟨#[]⟩, 1) from if_neg (by omega)]
  exact Zq (v := .tuple #[.string ⟨#[]⟩, Iv 1]) rfl rfl rfl (by kernel_rfl) ⟨rfl, rfl, trivial⟩
  refine Zo (vx := Iv n) (vy := Iv 4611686018427387903) rfl rfl (.bool false) rfl rfl (Zek (by omega)) ?_
  refine Zm rfl rfl (.bool false) rfl (Zb (Zc (Zz rfl (Z5 (Zc (Zg ?_))))))
  obtain ⟨m, rfl⟩ : ∃ x0 : Nat, n = (x0 : Int) := ⟨n.toNat, by omega⟩
  refine Zj ?_
  refine Z2 (b := bxB 8 (Zad w8 8 dz)) (nid := 0) (H' := [bxB 8 (Zad w8 8 dz)]) rfl rfl (by kernel_rfl) (by kernel_rfl) ?_
  refine Zb (Zc (Zg (Zj (Zd rfl rfl (Iv 8) rfl (Zb (Zc (Zg (Z7 ?_))))))))
  refine Zcm (fun x : Nat × Nat × D => match x with | (k, a, b) => [Iv (k : Nat), dead, .string ⟨#[]⟩, Iv 0, pt 0 0, Iv (a : Nat), Iv (m : Nat), .bool false, .bool false, Iv (m : Nat), .bool false, .bool false]) (fun x : Nat × Nat × D => match x with | (k, a, b) => [bxB 8 (Zad w8 8 b)]) (fun x : Nat × Nat × D => match x with | (k, a, b) => Zni a k a b = Zni 8 m 8 dz ∧ k < 256 ^ a ∧ a ≤ 8) (fun x : Nat × Nat × D => match x with | (k, a, b) => a) (m, 8, dz) ⟨rfl, by omega, by omega⟩ ?_ ?_
  · refine Zal (n := 1) rfl ?_ (by kernel_rfl) (by kernel_rfl)
    repeat (first | exact trivial | refine ⟨.inl rfl, ?_⟩ | refine ⟨.inr ⟨rfl, rfl⟩, ?_⟩ | refine ⟨.inr ⟨congrArg (Value.int .i64) (by first | omega | (dsimp only; omega)), rfl⟩, ?_⟩)
  rintro ⟨k, a, b⟩ ⟨hR, hk, ha⟩
  dsimp only at *
  refine Zg (Zg (Zj (Zf rfl rfl (Iv (k : Nat)) rfl ?_)))
  by_cases h3 : 0 < (k : Nat)
  refine Zo (vx := Iv (k : Nat)) (vy := Iv 0) rfl rfl (.bool true) rfl rfl (Zeh (by omega)) ?_
  refine Zb (Zc (Z0 rfl (Z5 (Zc (Zg (Z7 (Zg ?_)))))))
  have h1a := Zvf hk (by omega)
  refine Zj (Zf rfl rfl (Iv (a : Nat)) rfl ?_)
  refine Zo (vx := Iv (a : Nat)) (vy := Iv 1) rfl rfl (Iv ((a : Nat) - 1)) rfl rfl (Zcv (by omega) (by omega) (by omega)) ?_
  refine Zd rfl rfl (Iv ((a : Nat) - 1)) rfl (Zb (Zc (Zj (Zf rfl rfl (Iv ((a : Nat) - 1)) rfl (Zf rfl rfl (Iv (k : Nat)) rfl ?_)))))
  refine Zdf (w := Iv (k : Nat)) (v := w8 (BitVec.ofInt 8 (k : Nat))) rfl rfl rfl (Zg1 rfl rfl rfl) ?_
  refine Zdz (b := 0) (o := 0) (j := a - 1) (n := 8) (sz := 1) (i := (a : Nat) - 1) (k := .i64) rfl rfl rfl rfl rfl (by omega) (by omega) (by omega) ?_
  refine Zw (p := pt 0 (a - 1)) (v := w8 (BitVec.ofInt 8 (k : Nat))) (b := 0) (blk := bxB 8 (Zad w8 8 (Zh0 b (a - 1) (BitVec.ofInt 8 (k : Nat))))) (H' := [bxB 8 (Zad w8 8 (Zh0 b (a - 1) (BitVec.ofInt 8 (k : Nat))))]) rfl rfl rfl (Zhj (blk := bxB 8 (Zad w8 8 b)) (i := a - 1) (enc := w8) (n := 8) (w := b) (x := (BitVec.ofInt 8 (k : Nat))) rfl rfl rfl rfl rfl (by omega) rfl rfl) (by kernel_rfl) ?_
  refine Zb (Z3 (Zc (Zj (Zf rfl rfl (Iv (k : Nat)) rfl ?_))))
  refine Zo (vx := Iv (k : Nat)) (vy := .int .u64 8) rfl rfl (Iv (((k / 256) : Nat) : Int)) rfl rfl (Z1x 8 (by omega) (by omega) (by omega) (by omega)) ?_
  refine Zd rfl rfl (Iv (((k / 256) : Nat) : Int)) rfl (Zb ?_)
  refine Zaw ⟨((k / 256), (a - 1), (Zh0 b (a - 1) (BitVec.ofInt 8 (k : Nat)))), Zza (a' := a - 1) hR hk (by omega) rfl (by omega), by show a - 1 < a; omega, ?_⟩
  refine Zal (n := 1) rfl ?_ (by kernel_rfl) (by kernel_rfl)
  repeat (first | exact trivial | refine ⟨.inl rfl, ?_⟩ | refine ⟨.inr ⟨rfl, rfl⟩, ?_⟩ | refine ⟨.inr ⟨congrArg (Value.int .i64) (by first | omega | (dsimp only; omega)), rfl⟩, ?_⟩)
  refine Zo (vx := Iv (k : Nat)) (vy := Iv 0) rfl rfl (.bool false) rfl rfl (Zek (by omega)) ?_
  refine Zb (Zc (Zz rfl (Zbe (Zam (Zau (Zas rfl (Zc (Zg (Zj (Zf rfl rfl (Iv (a : Nat)) rfl ?_))))))))))
  refine Zch (p := pt 0 0) (vl := some (Iv (a : Nat))) (vh := none) (v := slv 0 a (8 - a) (8 - a)) rfl rfl rfl rfl rfl (Zx7 (sz := 1) (l := a) (h := 8) rfl rfl rfl (Z4e (by omega) (by omega)) rfl (by omega) (by omega) (by omega)) ?_
  refine Zfr (p := slv 0 a (8 - a) (8 - a)) (v := .string (Zr (((Zjx 8 b).drop a).take (8 - a)))) rfl rfl rfl (Zw2 (l := Zjx 8 b) rfl rfl rfl rfl (Zy6 _ _) (by rw [Zj3]; omega) rfl) ?_
  refine Zd rfl rfl (.string (Zr (((Zjx 8 b).drop a).take (8 - a)))) rfl (Zd rfl rfl (Iv 0) rfl (Zb (Zc (Zx (Zy ?_)))))
  have e : Zv (m : Nat) = ((Zr (((Zjx 8 b).drop a).take (8 - a))), 0) := by
    rw [show Zv (m : Nat) = (Zr (Zni 8 m 8 dz), 0) from if_pos (by omega), ← hR]
    obtain rfl : k = 0 := by omega
    rw [Zyn, List.take_of_length_le (by rw [List.length_drop, Zj3]; omega)]
  rw [e]
  exact Zq (v := .tuple #[.string (Zr (((Zjx 8 b).drop a).take (8 - a))), Iv 0]) rfl rfl rfl (by kernel_rfl) ⟨rfl, rfl, trivial⟩
end Go.Flat
namespace Go.Flat
open Go.Proofs
variable {G : Glob}
def Zjg (f : Field) : Bs := [BitVec.ofInt 8 f.tag, BitVec.ofInt 8 (f.data.size / 65536 : Nat), BitVec.ofInt 8 (f.data.size / 256 : Nat), BitVec.ofInt 8 (f.data.size : Nat)] ++ bl f.data
def Zff (f : Field) (last : Int) : Int :=
  if 255 < f.tag then 1 else
  if f.tag ≤ last then 1 else
  if 65536 < (f.data.size : Nat) then 2 else
  0
theorem Z4p (f : Field) (last : Int) : Zaf Tryd.prog G 79 [fdV f, Iv last] [] (Iv (Zff f last)) [] := by
 refine Zbj (fn := Tryd.f79) (nt := 21) rfl rfl rfl rfl ?_
 refine Zai 1 (H' := [hole]) rfl ?_
 refine Zg (Zj ?_)
 refine Zcj (v := fdV f) (b := bxB 2 (fdC f)) (nid := 0) (H' := [bxB 2 (fdC f)]) rfl rfl rfl (by kernel_rfl) (by kernel_rfl) ?_
 refine Zd rfl rfl (Iv 0) rfl (Zb (Zc (Zg (Zj (Zd rfl rfl (Iv 0) rfl (Zb (Zc (Zg (Z7 (Zg (Z7 (Zg (Z7 (Z7 (Zg (Zg (Zg (Zj ?_))))))))))))))))))
 refine Zn (b := 0) (o := 0) (n := 0) (o' := 0) rfl rfl rfl rfl rfl ?_
 refine Zp (p := pt 0 0) (v := Iv f.tag) rfl rfl rfl (by kernel_rfl) ?_
 by_cases h1 : 255 < f.tag
 refine Zo (vx := Iv f.tag) (vy := Iv 255) rfl rfl (.bool true) rfl rfl (Zeh (by omega)) ?_
 refine Zd rfl rfl (.bool true) rfl (Zb (Zc (Z0 rfl (Zbe (Zam (Zam (Zas rfl (Z3 (Zc (Zg (Zj (Zd rfl rfl (Iv 1) rfl (Zb (Zc (Zbe (Zgf rfl (Zam (Zas rfl (Zc (Zg (Zj (Zf rfl rfl (Iv 1) rfl (Zd rfl rfl (Iv 1) rfl (Zb (Zc (Zx (Zy ?_)))))))))))))))))))))))))))
 rw [show Zff f last = 1 from by unfold Zff; rw [if_pos h1]]
 exact Zq (v := Iv 1) rfl rfl rfl (by kernel_rfl) rfl
 refine Zo (vx := Iv f.tag) (vy := Iv 255) rfl rfl (.bool false) rfl rfl (Zek (by omega)) ?_
 refine Zd rfl rfl (.bool false) rfl (Zb (Zc (Zz rfl (Z5 (Zc (Zg (Zg (Zj ?_))))))))
 refine Zn (b := 0) (o := 0) (n := 0) (o' := 0) rfl rfl rfl rfl rfl ?_
 refine Zp (p := pt 0 0) (v := Iv f.tag) rfl rfl rfl (by kernel_rfl) ?_
 refine Zf rfl rfl (Iv last) rfl ?_
 by_cases h2 : f.tag ≤ last
 refine Zo (vx := Iv f.tag) (vy := Iv last) rfl rfl (.bool true) rfl rfl (Zuv (by omega)) ?_
 refine Zd rfl rfl (.bool true) rfl (Zb (Zc (Z0 rfl (Zbe (Zam (Zam (Zgf rfl (Zas rfl (Zc (Zg (Zj (Zd rfl rfl (Iv 1) rfl (Zb (Zc (Zbe (Zgf rfl (Zam (Zas rfl (Zc (Zg (Zj (Zf rfl rfl (Iv 1) rfl (Zd rfl rfl (Iv 1) rfl (Zb (Zc (Zx (Zy ?_)))))))))))))))))))))))))))
 rw [show Zff f last = 1 from by unfold Zff; rw [if_neg h1, if_pos h2]]
 exact Zq (v := Iv 1) rfl rfl rfl (by kernel_rfl) rfl
 refine Zo (vx := Iv f.tag) (vy := Iv last) rfl rfl (.bool false) rfl rfl (Ztv (by omega)) ?_
 refine Zd rfl rfl (.bool false) rfl (Zb (Zc (Zz rfl (Z5 (Zc (Zg (Zj ?_)))))))
 refine Zn (b := 0) (o := 0) (n := 1) (o' := 1) rfl rfl rfl rfl rfl ?_
 refine Zp (p := pt 0 1) (v := .string f.data) rfl rfl rfl (by kernel_rfl) ?_
 refine Zbl (p := .string f.data) (v := Iv (f.data.size : Nat)) rfl rfl rfl rfl ?_
 by_cases h3 : 65536 < (f.data.size : Nat)
 refine Zo (vx := Iv (f.data.size : Nat)) (vy := Iv 65536) rfl rfl (.bool true) rfl rfl (Zeh (by omega)) ?_
 refine Zd rfl rfl (.bool true) rfl (Zb (Zc (Z0 rfl (Zbe (Zam (Zgf rfl (Zgf rfl (Zam (Zas rfl (Zc (Zg (Zj (Zd rfl rfl (Iv 2) rfl (Zb (Zc (Zbe (Zas rfl (Zc (Zg (Zj (Zf rfl rfl (Iv 2) rfl (Zd rfl rfl (Iv 2) rfl (Zb (Zc (Zx (Zy ?_))))))))))))))))))))))))))
 rw [show Zff f last = 2 from by unfold Zff; rw [if_neg h1, if_neg h2, if_pos h3]]
 exact Zq (v := Iv 2) rfl rfl rfl (by kernel_rfl) rfl
 refine Zo (vx := Iv (f.data.size : Nat)) (vy := Iv 65536) rfl rfl (.bool false) rfl rfl (Zek (by omega)) ?_
 refine Zd rfl rfl (.bool false) rfl (Zb (Zc (Zz rfl (Z5 (Zc (Zbe (Zgf rfl (Zgf rfl (Zam (Zgf rfl (Zam (Zas rfl (Zc (Zg (Zj (Zf rfl rfl (Iv 0) rfl (Zd rfl rfl (Iv 0) rfl (Zb (Zc (Zx (Zy ?_)))))))))))))))))))))
 rw [show Zff f last = 0 from by unfold Zff; rw [if_neg h1, if_neg h2, if_neg h3]]
 exact Zq (v := Iv 0) rfl rfl rfl (by kernel_rfl) rfl
theorem Z4f (l : Bs) (f : Field) (n c : Nat) (hn : l.length = n) (hc : n ≤ c) (hf : f.data.size ≤ 65536) (hb : n ≤ 1099511627776) : Zaf Tryd.prog G 80 [slv 0 0 n c, fdV f] [Zaq l] (slv 0 0 (n + f.data.size + 4) (n + f.data.size + 4)) [Zaq (l ++ Zjg f)] := by
  refine Zbj (fn := Tryd.f80) (nt := 26) rfl rfl rfl rfl ?_
  refine Zai 2 (H' := [Zaq l, hole, hole]) rfl ?_
  refine Zg (Zj ?_)
  refine Zcj (v := fdV f) (b := bxB 2 (fdC f)) (nid := 1) (H' := [Zaq l, bxB 2 (fdC f), hole]) rfl rfl rfl (by kernel_rfl) (by kernel_rfl) ?_
  refine Zd rfl rfl (.slice none 0 0) rfl (Zb (Zc (Zg (Zj ?_))))
  refine Zn (b := 1) (o := 0) (n := 1) (o' := 1) rfl rfl rfl rfl rfl ?_
  refine Zp (p := pt 1 1) (v := .string f.data) rfl rfl rfl (by kernel_rfl) ?_
  refine Zbl (p := .string f.data) (v := Iv (f.data.size : Nat)) rfl rfl rfl rfl ?_
  refine Zd rfl rfl (Iv (f.data.size : Nat)) rfl (Zb (Zc (Zg ?_)))
  refine Zl8 (by kernel_rfl) ?_
  refine Zf rfl rfl (slv 0 0 n c) rfl ?_
  refine Zn (b := 1) (o := 0) (n := 0) (o' := 0) rfl rfl rfl rfl rfl ?_
  refine Zp (p := pt 1 0) (v := Iv f.tag) rfl rfl rfl (by kernel_rfl) ?_
  refine Zdf (w := Iv f.tag) (v := w8 (BitVec.ofInt 8 f.tag)) rfl rfl rfl (Zg1 rfl rfl rfl) ?_
  refine Zf rfl rfl (Iv (f.data.size : Nat)) rfl ?_
  refine Zo (vx := Iv (f.data.size : Nat)) (vy := .int .u64 16) rfl rfl (Iv (((f.data.size / 65536) : Nat) : Int)) rfl rfl (Z1x 16 (by omega) (by omega) (by omega) (by omega)) ?_
  refine Zdf (w := Iv (((f.data.size / 65536) : Nat) : Int)) (v := w8 (BitVec.ofInt 8 (((f.data.size / 65536) : Nat) : Int))) rfl rfl rfl (Zg1 rfl rfl rfl) ?_
  refine Zf rfl rfl (Iv (f.data.size : Nat)) rfl ?_
  refine Zo (vx := Iv (f.data.size : Nat)) (vy := .int .u64 8) rfl rfl (Iv (((f.data.size / 256) : Nat) : Int)) rfl rfl (Z1x 8 (by omega) (by omega) (by omega) (by omega)) ?_
  refine Zdf (w := Iv (((f.data.size / 256) : Nat) : Int)) (v := w8 (BitVec.ofInt 8 (((f.data.size / 256) : Nat) : Int))) rfl rfl rfl (Zg1 rfl rfl rfl) ?_
  refine Zf rfl rfl (Iv (f.data.size : Nat)) rfl ?_
  refine Zdf (w := Iv (f.data.size : Nat)) (v := w8 (BitVec.ofInt 8 (f.data.size : Nat))) rfl rfl rfl (Zg1 rfl rfl rfl) ?_
  refine Zdh (vs := [(0, w8 (BitVec.ofInt 8 f.tag)), (1, w8 (BitVec.ofInt 8 (((f.data.size / 65536) : Nat) : Int))), (2, w8 (BitVec.ofInt 8 (((f.data.size / 256) : Nat) : Int))), (3, w8 (BitVec.ofInt 8 (f.data.size : Nat)))]) (v := slv 2 0 4 4) (blk := Zaq [(BitVec.ofInt 8 f.tag), (BitVec.ofInt 8 (((f.data.size / 65536) : Nat) : Int)), (BitVec.ofInt 8 (((f.data.size / 256) : Nat) : Int)), (BitVec.ofInt 8 (f.data.size : Nat))]) (nid := 2) (H' := [Zaq l, bxB 2 (fdC f), Zaq [(BitVec.ofInt 8 f.tag), (BitVec.ofInt 8 (((f.data.size / 65536) : Nat) : Int)), (BitVec.ofInt 8 (((f.data.size / 256) : Nat) : Int)), (BitVec.ofInt 8 (f.data.size : Nat))]]) rfl rfl rfl (by kernel_rfl) (by kernel_rfl) ?_
  have hl3 : (l ++ [(BitVec.ofInt 8 f.tag), (BitVec.ofInt 8 (((f.data.size / 65536) : Nat) : Int)), (BitVec.ofInt 8 (((f.data.size / 256) : Nat) : Int)), (BitVec.ofInt 8 (f.data.size : Nat))]).length = n + 4 := by have := hn; have := (rfl : _ = 4); first | (rw [List.length_append]; omega) | (simp; omega) | simp
  refine Zbo (p := slv 0 0 n c) (q := slv 2 0 4 4) (v := slv 0 0 (n + 4) (n + 4)) (b := 0) (blk := Zaq (l ++ [(BitVec.ofInt 8 f.tag), (BitVec.ofInt 8 (((f.data.size / 65536) : Nat) : Int)), (BitVec.ofInt 8 (((f.data.size / 256) : Nat) : Int)), (BitVec.ofInt 8 (f.data.size : Nat))])) (H' := [Zaq (l ++ [(BitVec.ofInt 8 f.tag), (BitVec.ofInt 8 (((f.data.size / 65536) : Nat) : Int)), (BitVec.ofInt 8 (((f.data.size / 256) : Nat) : Int)), (BitVec.ofInt 8 (f.data.size : Nat))]), bxB 2 (fdC f), Zaq [(BitVec.ofInt 8 f.tag), (BitVec.ofInt 8 (((f.data.size / 65536) : Nat) : Int)), (BitVec.ofInt 8 (((f.data.size / 256) : Nat) : Int)), (BitVec.ofInt 8 (f.data.size : Nat))]]) rfl rfl rfl (.inl ⟨_, rfl⟩) rfl rfl (Ztf (by_ := 1) (n' := n + 4) rfl rfl (Zz6 rfl rfl (by have := (rfl : _ = 4); omega)) rfl rfl (by have := hn; omega) (by omega) (by decide) (by omega)) rfl (by kernel_rfl) ?_
  refine Zn (b := 1) (o := 0) (n := 1) (o' := 1) rfl rfl rfl rfl rfl ?_
  refine Zp (p := pt 1 1) (v := .string f.data) rfl rfl rfl (by kernel_rfl) ?_
  have hl4 : ((l ++ [(BitVec.ofInt 8 f.tag), (BitVec.ofInt 8 (((f.data.size / 65536) : Nat) : Int)), (BitVec.ofInt 8 (((f.data.size / 256) : Nat) : Int)), (BitVec.ofInt 8 (f.data.size : Nat))]) ++ (bl f.data)).length = n + f.data.size + 4 := by have := hl3; have := (Zlm f.data); first | (rw [List.length_append]; omega) | (simp; omega) | simp
  refine Zbo (p := slv 0 0 (n + 4) (n + 4)) (q := .string f.data) (v := slv 0 0 (n + f.data.size + 4) (n + f.data.size + 4)) (b := 0) (blk := Zaq ((l ++ [(BitVec.ofInt 8 f.tag), (BitVec.ofInt 8 (((f.data.size / 65536) : Nat) : Int)), (BitVec.ofInt 8 (((f.data.size / 256) : Nat) : Int)), (BitVec.ofInt 8 (f.data.size : Nat))]) ++ (bl f.data))) (H' := [Zaq ((l ++ [(BitVec.ofInt 8 f.tag), (BitVec.ofInt 8 (((f.data.size / 65536) : Nat) : Int)), (BitVec.ofInt 8 (((f.data.size / 256) : Nat) : Int)), (BitVec.ofInt 8 (f.data.size : Nat))]) ++ (bl f.data)), bxB 2 (fdC f), Zaq [(BitVec.ofInt 8 f.tag), (BitVec.ofInt 8 (((f.data.size / 65536) : Nat) : Int)), (BitVec.ofInt 8 (((f.data.size / 256) : Nat) : Int)), (BitVec.ofInt 8 (f.data.size : Nat))]]) rfl rfl rfl (.inr rfl) rfl rfl (Ztf (by_ := 1) (n' := n + f.data.size + 4) rfl rfl (rfl : Zg6 _ 1 (.string _) = some (_, Ze0 _)) (Zmz _) rfl (by have := hl3; omega) (by omega) (by decide) (by omega)) rfl (by kernel_rfl) ?_
  refine Zd rfl rfl (slv 0 0 (n + f.data.size + 4) (n + f.data.size + 4)) rfl ?_
  refine Zku (by kernel_rfl) ?_
  refine Zc (Zx (Zy ?_))
  rw [show Zaq (l ++ Zjg f) = Zaq ((l ++ [(BitVec.ofInt 8 f.tag), (BitVec.ofInt 8 (((f.data.size / 65536) : Nat) : Int)), (BitVec.ofInt 8 (((f.data.size / 256) : Nat) : Int)), (BitVec.ofInt 8 (f.data.size : Nat))]) ++ (bl f.data)) from congrArg Zaq (List.append_assoc _ _ _).symm]
  exact Zq (v := slv 0 0 (n + f.data.size + 4) (n + f.data.size + 4)) rfl rfl rfl (by simp [Za8, Zaq]) ⟨rfl, rfl, rfl, by first | omega | exact Nat.le_refl _ | exact Nat.zero_le _ | (dsimp only; omega), by first | omega | exact Nat.le_refl _ | exact Nat.zero_le _ | (dsimp only; omega)⟩
end Go.Flat
namespace Go.Flat
open Go.Proofs
variable {G : Glob}
theorem Zpi (f : Field) : (Zjg f).length = f.data.size + 4 := by simp [Zjg, Zlm]
theorem Z3l (l : Bs) (f : Field) (n c : Nat) (hn : l.length = n) (hc : n ≤ c) (hf : f.data.size ≤ 65536) (hb : n ≤ 1099511627776) : Zaf Tryd.prog G 80 [slv 0 0 n c, fdV f] [Zaq l] (slv 0 0 (l ++ Zjg f).length (l ++ Zjg f).length) [Zaq (l ++ Zjg f)] := by
 have h := Z4f (G := G) l f n c hn hc hf hb
 rw [show n + f.data.size + 4 = (l ++ Zjg f).length from by rw [List.length_append, Zpi]; omega] at h
 exact h
theorem Zzd {f : Field} {last : Int} (h : Zff f last = 0) : f.data.size ≤ 65536 := by
 unfold Zff at h
 split at h
 ·omega
 ·split at h
  ·omega
  ·split at h <;> omega
def Z8 : List Field → Int → Bs → Bs × Int
  | [], _, acc => (acc, 0)
  | f :: fs, last, acc => if Zff f last = 0 then Z8 fs f.tag (acc ++ Zjg f) else ([], Zff f last)
theorem Zqr {α : Type} [Inhabited α] {l : List α} {i : Nat} (h : i < l.length) : l.drop i = l.getD i default :: l.drop (i + 1) := by
 rw [List.drop_eq_getElem_cons h, List.getD_eq_getElem?_getD, List.getElem?_eq_getElem h]; rfl
theorem Zy8 {fs : List Field} {i : Nat} {last : Int} {acc : Bs} {R : Bs × Int} (hR : Z8 (fs.drop i) last acc = R) (hi : i < fs.length) (hm : Zff (fs.getD i default) last = 0) : Z8 (fs.drop (i + 1)) (fs.getD i default).tag (acc ++ Zjg (fs.getD i default)) = R := by
 rw [Zqr hi, Z8, if_pos hm] at hR; exact hR
theorem Z0p {fs : List Field} {i : Nat} {last : Int} {acc : Bs} {R : Bs × Int} (hR : Z8 (fs.drop i) last acc = R) (hi : i < fs.length) (hm : Zff (fs.getD i default) last ≠ 0) : R = ([], Zff (fs.getD i default) last) := by
 rw [Zqr hi, Z8, if_neg hm] at hR; exact hR.symm
def Z5d : Bs → Nat → Int × Int
  | [], n => ((n : Nat), 0)
  | x :: l, n => if 18014398509481983 < n then (0, 11) else Z5d l (n * 256 + x.toNat)
def Z61 (s : ByteArray) : Int × Int := if 8 < s.size ∨ (1 ≤ s.size ∧ ((bl s).getD 0 0 == 0#8) = true) then (0, 11) else Z5d (bl s) 0
theorem Z08 (fs : List Field) (n c : Nat) (hn : fs.length = n) (hc : n ≤ c) (hb : n ≤ 1000) : Zaf Tryd.prog G 66 [slv 0 0 n c] [rwR cFd fs] (.tuple #[slv 1 0 (Z8 fs 0 []).1.length (Z8 fs 0 []).1.length, Iv (Z8 fs 0 []).2]) [rwR cFd fs, Zaq (Z8 fs 0 []).1] := by
  refine Zbj (fn := Tryd.f66) (nt := 28) rfl rfl rfl rfl ?_
  refine Zai 1 (H' := [rwR cFd fs, hole]) rfl ?_
  refine Zg (Zj (Zd rfl rfl (.slice none 0 0) rfl (Zd rfl rfl (Iv 0) rfl (Zb (Zc (Zg (Zj (Zd rfl rfl (.slice none 0 0) rfl (Zb (Zc (Zg (Zj (Zd rfl rfl (Iv 0) rfl (Zb (Zc (Zg (Zg ?_)))))))))))))))))
  refine Zby (Zbt.nilTmp (i := 4) (b := 1) true 1 rfl (by decide) rfl) ?_
  refine Zj (Zf rfl rfl (slv 0 0 n c) rfl ?_)
  refine Zbl (p := slv 0 0 n c) (v := Iv (n : Nat)) rfl rfl rfl rfl ?_
  refine Zf rfl rfl (Iv 0) rfl (Zb (Zc (Z7 ?_)))
  refine Zcm (fun x : Nat × Int × Bs => match x with | (i, last, acc) => [slv 0 0 n c, dead, dead, dead, slv 1 0 acc.length acc.length, Iv last, dead, dead, dead, slv 0 0 n c, Iv (n : Nat), Iv (i : Nat)]) (fun x : Nat × Int × Bs => match x with | (i, last, acc) => [rwR cFd fs, Zaq acc]) (fun x : Nat × Int × Bs => match x with | (i, last, acc) => Z8 (fs.drop i) last acc = Z8 fs 0 [] ∧ i ≤ n ∧ acc.length ≤ i * 65540) (fun x : Nat × Int × Bs => match x with | (i, last, acc) => n - i) (0, 0, []) ⟨rfl, by omega, by simp⟩ ?_ ?_
  · refine Zal (n := 2) rfl ?_ (by kernel_rfl) (by kernel_rfl)
    repeat (first | exact trivial | refine ⟨.inl rfl, ?_⟩ | refine ⟨.inr ⟨rfl, rfl⟩, ?_⟩ | refine ⟨.inr ⟨congrArg (Value.int .i64) (by first | omega | (dsimp only; omega)), rfl⟩, ?_⟩)
  rintro ⟨i, last, acc⟩ ⟨hR, hi, ha⟩
  dsimp only at *
  refine Zai 2 (H' := [rwR cFd fs, Zaq acc, hole, hole]) rfl ?_
  have ha2 : acc.length ≤ 65540000 := by omega
  refine Zg (Zj ?_)
  by_cases h1 : (i : Nat) < (n : Nat)
  refine Zo (vx := Iv (i : Nat)) (vy := Iv (n : Nat)) rfl rfl (.bool true) rfl rfl (Zco (by omega)) ?_
  refine Zb (Zc (Zg (Z0 rfl (Z5 (Zc (Zg (Z7 (Zg (Zj ?_)))))))))
  refine Zba (b := 0) (o := 0) (j := i * 2) (m := n) (c := c) (sz := 2) (i := (i : Nat)) (k := .i64) rfl rfl rfl rfl rfl (by omega) (by omega) (by omega) ?_
  refine Zp (p := pt 0 (i * 2)) (v := fdV (fs.getD i default)) rfl rfl rfl (Zkw (n := 0) (m := 2) cFd rfl rfl rfl rfl (by have := hn; omega) (by omega)) ?_
  refine Z2 (b := bxB 2 (fdC (⟨0, ⟨#[]⟩⟩ : Field))) (nid := 2) (H' := [rwR cFd fs, Zaq acc, bxB 2 (fdC (⟨0, ⟨#[]⟩⟩ : Field)), hole]) rfl rfl (by kernel_rfl) (by kernel_rfl) ?_
  refine Zw (p := pt 2 0) (v := fdV (fs.getD i default)) (b := 2) (blk := bxB 2 (fdC (fs.getD i default))) (H' := [rwR cFd fs, Zaq acc, bxB 2 (fdC (fs.getD i default)), hole]) rfl rfl rfl (by kernel_rfl) (by kernel_rfl) ?_
  refine Zb (Zc (Zg (Zg (Zj ?_))))
  refine Zp (p := pt 2 0) (v := fdV (fs.getD i default)) rfl rfl rfl (by kernel_rfl) ?_
  refine Zf rfl rfl (Iv last) rfl ?_
  refine Zt (Z4p (G := G) (fs.getD i default) last) (vals := [fdV (fs.getD i default), Iv last]) (res' := Iv (Zff (fs.getD i default) last)) rfl rfl rfl rfl rfl rfl ?_
  refine Zd rfl rfl (Iv (Zff (fs.getD i default) last)) rfl (Zb (Zc (Zg (Zj (Zf rfl rfl (Iv (Zff (fs.getD i default) last)) rfl ?_)))))
  by_cases h2 : (Zff (fs.getD i default) last) ≠ 0
  refine Zo (vx := Iv (Zff (fs.getD i default) last)) (vy := Iv 0) rfl rfl (.bool true) rfl rfl (Zdr (by omega)) ?_
  refine Zb (Zc (Z0 rfl (Zg (Zj (Zf rfl rfl (Iv (Zff (fs.getD i default) last)) rfl (Zd rfl rfl (.slice none 0 0) rfl (Zd rfl rfl (Iv (Zff (fs.getD i default) last)) rfl (Zb (Zc ?_)))))))))
  refine Zby (Zbt.nilTmp (i := 2) (b := 3) true 1 rfl (by decide) rfl) ?_
  refine Zx (Zaa (Zc1 (Zaa (Zez (Zc1 (Zaa (Zy ?_)))))))
  rw [show Z8 fs 0 [] = ([], (Zff (fs.getD i default) last)) from Z0p hR (by omega) (by omega)]
  exact Za2 [0, 3] (v := .tuple #[slv 3 0 0 0, Iv (Zff (fs.getD i default) last)]) rfl (by kernel_rfl) rfl rfl (by decide) (by simp [Za8, Zaq, rwR, cFd]) ⟨⟨rfl, rfl, rfl, by first | omega | exact Nat.le_refl _ | exact Nat.zero_le _ | (dsimp only; omega), by first | omega | exact Nat.le_refl _ | exact Nat.zero_le _ | (dsimp only; omega)⟩, rfl, trivial⟩
  refine Zo (vx := Iv (Zff (fs.getD i default) last)) (vy := Iv 0) rfl rfl (.bool false) rfl rfl (Zdb (by omega)) ?_
  refine Zb (Zc (Zz rfl (Z5 (Zc ?_))))
  have hsz : (fs.getD i default).data.size ≤ 65536 := Zzd (last := last) (by omega)
  refine Zl8 (by kernel_rfl) ?_
  refine Zf rfl rfl (slv 1 0 acc.length acc.length) rfl ?_
  refine Zp (p := pt 2 0) (v := fdV (fs.getD i default)) rfl rfl rfl (by kernel_rfl) ?_
  refine Zcy (e := [some (1, 0)]) (nid := 0) (Z3l (G := G) acc (fs.getD i default) acc.length acc.length (by first | rfl | omega) (by omega) (by omega) (by omega)) (vals := [slv 1 0 acc.length acc.length, fdV (fs.getD i default)]) (v := slv 1 0 ((acc ++ Zjg (fs.getD i default)).length) ((acc ++ Zjg (fs.getD i default)).length)) (H' := [rwR cFd fs, Zaq (acc ++ Zjg (fs.getD i default)), bxB 2 (fdC (fs.getD i default)), hole]) rfl rfl rfl rfl rfl rfl ⟨⟨⟨rfl, rfl, rfl, by omega, by omega⟩, rfl, trivial⟩, ⟨(Zax rfl rfl rfl rfl), trivial⟩, rfl, rfl, rfl, Nat.le_refl _⟩ rfl rfl (by kernel_rfl) ?_
  refine Zn (b := 2) (o := 0) (n := 0) (o' := 0) rfl rfl rfl rfl rfl ?_
  refine Zp (p := pt 2 0) (v := Iv ((fs.getD i default).tag)) rfl rfl rfl (by kernel_rfl) ?_
  refine Zd rfl rfl (slv 1 0 ((acc ++ Zjg (fs.getD i default)).length) ((acc ++ Zjg (fs.getD i default)).length)) rfl (Zd rfl rfl (Iv ((fs.getD i default).tag)) rfl ?_)
  refine Zku (by kernel_rfl) ?_
  refine Z3 (Zc (Zj ?_))
  refine Zo (vx := Iv (i : Nat)) (vy := Iv 1) rfl rfl (Iv ((i : Nat) + 1)) rfl rfl (Zav (by omega) (by omega) (by omega)) ?_
  refine Zf rfl rfl (Iv ((i : Nat) + 1)) rfl (Zb ?_)
  refine Zaw ⟨((i + 1), ((fs.getD i default).tag), (acc ++ Zjg (fs.getD i default))), ⟨Zy8 hR (by omega) (by omega), by omega, by rw [List.length_append, Zpi]; omega⟩, by show n - (i + 1) < n - i; omega, ?_⟩
  refine Zal (n := 2) rfl ?_ (by kernel_rfl) (by kernel_rfl)
  repeat (first | exact trivial | refine ⟨.inl rfl, ?_⟩ | refine ⟨.inr ⟨rfl, rfl⟩, ?_⟩ | refine ⟨.inr ⟨congrArg (Value.int .i64) (by first | omega | (dsimp only; omega)), rfl⟩, ?_⟩)
  refine Zo (vx := Iv (i : Nat)) (vy := Iv (n : Nat)) rfl rfl (.bool false) rfl rfl (Zce (by omega)) ?_
  refine Zb (Zc (Zg (Zz rfl (Zbe (Zam (Zau (Zas rfl (Zc (Zg (Zj (Zf rfl rfl (slv 1 0 acc.length acc.length) rfl (Zd rfl rfl (slv 1 0 acc.length acc.length) rfl (Zd rfl rfl (Iv 0) rfl (Zb (Zc (Zx (Zy ?_)))))))))))))))))
  rw [show Z8 fs 0 [] = (acc, 0) from by rw [← hR, List.drop_of_length_le (by omega)]; rfl]
  exact Za2 [0, 1] (v := .tuple #[slv 1 0 acc.length acc.length, Iv 0]) rfl (by kernel_rfl) rfl rfl (by decide) (by simp [Za8, Zaq, rwR, cFd]) ⟨⟨rfl, rfl, rfl, by first | omega | exact Nat.le_refl _ | exact Nat.zero_le _ | (dsimp only; omega), by first | omega | exact Nat.le_refl _ | exact Nat.zero_le _ | (dsimp only; omega)⟩, rfl, trivial⟩
end Go.Flat
