/- Walks. -/
import Derived.Test.YtfjkagjbanhdlaaDoorXB
set_option linter.unusedVariables false
set_option linter.unusedSimpArgs false
set_option maxRecDepth 20000
namespace Go.Flat
open Go.Proofs
variable {G : Glob}
structure Field where
  tag : Int
  data : ByteArray
def fdC (f : Field) : List Value := [.int .i64 f.tag, .string f.data]
def fdV (f : Field) : Value := .agg (fdC f).toArray
def cFd : Cod Field := ⟨fdC, 2, fun _ => rfl, by decide⟩
instance : Inhabited Field := ⟨⟨0, ⟨#[]⟩⟩⟩

def Zn2 : Nat → Nat → Nat → D → Bs
  | 0, _, a, b => (Zj1 8 b).drop a
  | f + 1, n, a, b => if n = 0 then (Zj1 8 b).drop a else Zn2 f (n / 256) (a - 1) (Zhx b (a - 1) (BitVec.ofInt 8 (n : Int)))
theorem Zzt (f a : Nat) (b : D) : Zn2 f 0 a b = (Zj1 8 b).drop a := by cases f <;> simp [Zn2]
theorem Zw5 {k a : Nat} (hk : k < 256 ^ a) (h : 1 ≤ k) : 1 ≤ a := by
 cases a with
 | zero => simp at hk; omega
 | succ a => omega
theorem Zzs {a k q a' : Nat} {b : D} {x : BitVec 8} {R : Bs} (hR : Zn2 a k a b = R) (hk : k < 256 ^ a) (h1 : 0 < k) (hx : x = BitVec.ofInt 8 (k : Int)) (ha' : a = a' + 1) (hq : q = k / 256 := by rfl) (h8 : a ≤ 8 := by omega) : Zn2 a' q a' (Zhx b a' x) = R ∧ q < 256 ^ a' ∧ a' ≤ 8 := by
 subst ha'; subst hx; subst hq
 refine ⟨?_, ?_, by omega⟩
 ·rw [Zn2, if_neg (by omega)] at hR; exact hR
 ·rw [Nat.pow_succ] at hk; exact Nat.div_lt_of_lt_mul (by omega)
def Zo (n : Int) : ByteArray × Int := if 0 ≤ n ∧ n ≤ 4611686018427387903 then (Zk (Zn2 8 n.toNat 8 dz), 0) else (⟨#[]⟩, 1)
theorem Zq7 (n : Int) (hl : -9223372036854775808 ≤ n) (hh : n ≤ 9223372036854775807) : Z9 Tryd.prog G 65 [Iv n] [] (.tuple #[.string (Zo n).1, Iv (Zo n).2]) [] := by
  refine Zbu (fn := Tryd.f65) (nt := 25) rfl rfl rfl rfl ?_
  refine Zaj 1 (H' := [hole]) rfl ?_
  refine Ze (Zf (Zb (.string ⟨#[]⟩) (Zb (Iv 0) (Za (Zc (Ze (Ze (Zf (Zd (Iv n) ?_)))))))))
  by_cases h1 : n < 0
  refine Zj (vx := Iv n) (vy := Iv 0) rfl rfl (.bool true) rfl rfl (Zdd (by omega)) ?_
  refine Zd (.bool true) (Zg (Zg (Zl (.bool true) (Za (Zc (Zv rfl (Ze (Zf (Zb (.string ⟨#[]⟩) (Zb (Iv 1) (Za (Zc (Zs (Zaa (Zu ?_)))))))))))))))
  rw [show Zo n = (⟨#[]⟩, 1) from if_neg (by omega)]
  exact Zm (v := .tuple #[.string ⟨#[]⟩, Iv 1]) rfl rfl rfl (by kernel_rfl) ⟨rfl, rfl, trivial⟩
  refine Zj (vx := Iv n) (vy := Iv 0) rfl rfl (.bool false) rfl rfl (Zcw (by omega)) ?_
  refine Zd (.bool false) (Zd (Iv n) ?_)
  by_cases h2 : 4611686018427387903 < n
  refine Zj (vx := Iv n) (vy := Iv 4611686018427387903) rfl rfl (.bool true) rfl rfl (Ze3 (by omega)) ?_
  refine Zl (.bool true) (Za (Zc (Zv rfl (Ze (Zf (Zb (.string ⟨#[]⟩) (Zb (Iv 1) (Za (Zc (Zs (Zaa (Zu ?_))))))))))))
  rw [show Zo n = (⟨#[]⟩, 1) from if_neg (by omega)]
  exact Zm (v := .tuple #[.string ⟨#[]⟩, Iv 1]) rfl rfl rfl (by kernel_rfl) ⟨rfl, rfl, trivial⟩
  refine Zj (vx := Iv n) (vy := Iv 4611686018427387903) rfl rfl (.bool false) rfl rfl (Ze2 (by omega)) ?_
  refine Zl (.bool false) (Za (Zc (Zt rfl (Z0 (Zc (Ze ?_))))))
  obtain ⟨m, rfl⟩ : ∃ x0 : Nat, n = (x0 : Int) := ⟨n.toNat, by omega⟩
  refine Zf (Zai (b := bxB 8 (Z6 w8 8 dz)) (nid := 0) (H' := [bxB 8 (Z6 w8 8 dz)]) (Za (Zc (Ze (Zf (Zb (Iv 8) (Za (Zc (Ze (Z5 ?_))))))))))
  refine Zck (fun x : Nat × Nat × D => match x with | (k, a, b) => [Iv (k : Nat), dead, .string ⟨#[]⟩, Iv 0, pt 0 0, Iv (a : Nat), Iv (m : Nat), .bool false, .bool false, Iv (m : Nat), .bool false, .bool false]) (fun x : Nat × Nat × D => match x with | (k, a, b) => [bxB 8 (Z6 w8 8 b)]) (fun x : Nat × Nat × D => match x with | (k, a, b) => Zn2 a k a b = Zn2 8 m 8 dz ∧ k < 256 ^ a ∧ a ≤ 8) (fun x : Nat × Nat × D => match x with | (k, a, b) => a) (m, 8, dz) ⟨rfl, by omega, by omega⟩ ?_ ?_
  · refine Zam (n := 1) rfl ?_ (by kernel_rfl) (by kernel_rfl)
    repeat (first | exact trivial | refine ⟨.inl rfl, ?_⟩ | refine ⟨.inr ⟨rfl, rfl⟩, ?_⟩ | refine ⟨.inr ⟨congrArg (Value.int .i64) (by first | omega | (dsimp only; omega)), rfl⟩, ?_⟩)
  rintro ⟨k, a, b⟩ ⟨hR, hk, ha⟩
  dsimp only at *
  refine Ze (Ze (Zf (Zd (Iv (k : Nat)) ?_)))
  by_cases h3 : 0 < (k : Nat)
  refine Zj (vx := Iv (k : Nat)) (vy := Iv 0) rfl rfl (.bool true) rfl rfl (Ze3 (by omega)) ?_
  refine Za (Zc (Zv rfl (Z0 (Zc (Ze (Z5 (Ze ?_)))))))
  have h1a := Zw5 hk (by omega)
  refine Zf (Zd (Iv (a : Nat)) ?_)
  refine Zj (vx := Iv (a : Nat)) (vy := Iv 1) rfl rfl (Iv ((a : Nat) - 1)) rfl rfl (Zdg (by omega) (by omega) (by omega)) ?_
  refine Zb (Iv ((a : Nat) - 1)) (Za (Zc (Zf (Zd (Iv ((a : Nat) - 1)) (Zd (Iv (k : Nat)) ?_)))))
  refine Zdm (w := Iv (k : Nat)) (v := w8 (BitVec.ofInt 8 (k : Nat))) rfl rfl rfl (Zgl rfl rfl rfl) ?_
  refine Zd0 (b := 0) (o := 0) (j := a - 1) (n := 8) (sz := 1) (i := (a : Nat) - 1) (k := .i64) rfl rfl rfl rfl rfl (by omega) (by omega) (by omega) ?_
  refine Za1 (p := pt 0 (a - 1)) (v := w8 (BitVec.ofInt 8 (k : Nat))) (b := 0) (blk := bxB 8 (Z6 w8 8 (Zhx b (a - 1) (BitVec.ofInt 8 (k : Nat))))) (H' := [bxB 8 (Z6 w8 8 (Zhx b (a - 1) (BitVec.ofInt 8 (k : Nat))))]) rfl rfl rfl (Zhq (blk := bxB 8 (Z6 w8 8 b)) (i := a - 1) (enc := w8) (n := 8) (w := b) (x := (BitVec.ofInt 8 (k : Nat))) rfl rfl rfl rfl rfl (by omega) rfl rfl) (by kernel_rfl) ?_
  refine Za (Zz (Zc (Zf (Zd (Iv (k : Nat)) ?_))))
  refine Zj (vx := Iv (k : Nat)) (vy := .int .u64 8) rfl rfl (Iv (((k / 256) : Nat) : Int)) rfl rfl (Z2z 8 (by omega) (by omega) (by omega) (by omega)) ?_
  refine Zb (Iv (((k / 256) : Nat) : Int)) (Za ?_)
  refine Zas ⟨((k / 256), (a - 1), (Zhx b (a - 1) (BitVec.ofInt 8 (k : Nat)))), Zzs (a' := a - 1) hR hk (by omega) rfl (by omega), by show a - 1 < a; omega, ?_⟩
  refine Zam (n := 1) rfl ?_ (by kernel_rfl) (by kernel_rfl)
  repeat (first | exact trivial | refine ⟨.inl rfl, ?_⟩ | refine ⟨.inr ⟨rfl, rfl⟩, ?_⟩ | refine ⟨.inr ⟨congrArg (Value.int .i64) (by first | omega | (dsimp only; omega)), rfl⟩, ?_⟩)
  refine Zj (vx := Iv (k : Nat)) (vy := Iv 0) rfl rfl (.bool false) rfl rfl (Ze2 (by omega)) ?_
  refine Za (Zc (Zt rfl (Zbn (Zat (Za3 (Zay rfl (Zc (Ze (Zf (Zd (Iv (a : Nat)) ?_))))))))))
  refine Zda (p := pt 0 0) (vl := some (Iv (a : Nat))) (vh := none) (v := slv 0 a (8 - a) (8 - a)) rfl rfl rfl rfl rfl (Zz3 (sz := 1) (l := a) (h := 8) rfl rfl rfl (Z5u (by omega) (by omega)) rfl (by omega) (by omega) (by omega)) ?_
  refine Zfs (p := slv 0 a (8 - a) (8 - a)) (v := .string (Zk (((Zj1 8 b).drop a).take (8 - a)))) rfl rfl rfl (Zyz (l := Zj1 8 b) rfl rfl rfl rfl (Zz0 _ _) (by rw [Zkk]; omega) rfl) ?_
  refine Zb (.string (Zk (((Zj1 8 b).drop a).take (8 - a)))) (Zb (Iv 0) (Za (Zc (Zs (Zu ?_)))))
  have e : Zo (m : Nat) = ((Zk (((Zj1 8 b).drop a).take (8 - a))), 0) := by
    rw [show Zo (m : Nat) = (Zk (Zn2 8 m 8 dz), 0) from if_pos (by omega), ← hR]
    obtain rfl : k = 0 := by omega
    rw [Zzt, List.take_of_length_le (by rw [List.length_drop, Zkk]; omega)]
  rw [e]
  exact Zm (v := .tuple #[.string (Zk (((Zj1 8 b).drop a).take (8 - a))), Iv 0]) rfl rfl rfl (by kernel_rfl) ⟨rfl, rfl, trivial⟩
end Go.Flat
namespace Go.Flat
open Go.Proofs
variable {G : Glob}
def Zje (f : Field) : Bs := [BitVec.ofInt 8 f.tag, BitVec.ofInt 8 (f.data.size / 65536 : Nat), BitVec.ofInt 8 (f.data.size / 256 : Nat), BitVec.ofInt 8 (f.data.size : Nat)] ++ bl f.data
def Zfi (f : Field) (last : Int) : Int :=
  if 255 < f.tag then 1 else
  if f.tag ≤ last then 1 else
  if 65536 < (f.data.size : Nat) then 2 else
  0
theorem Z6b (f : Field) (last : Int) : Z9 Tryd.prog G 79 [fdV f, Iv last] [] (Iv (Zfi f last)) [] := by
 refine Zbu (fn := Tryd.f79) (nt := 21) rfl rfl rfl rfl ?_
 refine Zaj 1 (H' := [hole]) rfl ?_
 refine Ze (Zf (Zci (v := fdV f) (b := bxB 2 (fdC f)) (nid := 0) (H' := [bxB 2 (fdC f)]) (Zb (Iv 0) (Za (Zc (Ze (Zf (Zb (Iv 0) (Za (Zc (Ze (Z5 (Ze (Z5 (Ze (Z5 (Z5 (Ze (Ze (Ze (Zf (Zi (b := 0) (o := 0) (n := 0) (o' := 0) (Zn (p := pt 0 0) (v := Iv f.tag) ?_)))))))))))))))))))))))
 by_cases h1 : 255 < f.tag
 refine Zj (vx := Iv f.tag) (vy := Iv 255) rfl rfl (.bool true) rfl rfl (Ze3 (by omega)) ?_
 refine Zb (.bool true) (Za (Zc (Zv rfl (Zbn (Zat (Zat (Zay rfl (Zz (Zc (Ze (Zf (Zb (Iv 1) (Za (Zc (Zbn (Zhs rfl (Zat (Zay rfl (Zc (Ze (Zf (Zd (Iv 1) (Zb (Iv 1) (Za (Zc (Zs (Zu ?_)))))))))))))))))))))))))))
 rw [show Zfi f last = 1 from by unfold Zfi; rw [if_pos h1]]
 exact Zm (v := Iv 1) rfl rfl rfl (by kernel_rfl) rfl
 refine Zj (vx := Iv f.tag) (vy := Iv 255) rfl rfl (.bool false) rfl rfl (Ze2 (by omega)) ?_
 refine Zb (.bool false) (Za (Zc (Zt rfl (Z0 (Zc (Ze (Ze (Zf (Zi (b := 0) (o := 0) (n := 0) (o' := 0) (Zn (p := pt 0 0) (v := Iv f.tag) (Zd (Iv last) ?_)))))))))))
 by_cases h2 : f.tag ≤ last
 refine Zj (vx := Iv f.tag) (vy := Iv last) rfl rfl (.bool true) rfl rfl (Zup (by omega)) ?_
 refine Zb (.bool true) (Za (Zc (Zv rfl (Zbn (Zat (Zat (Zhs rfl (Zay rfl (Zc (Ze (Zf (Zb (Iv 1) (Za (Zc (Zbn (Zhs rfl (Zat (Zay rfl (Zc (Ze (Zf (Zd (Iv 1) (Zb (Iv 1) (Za (Zc (Zs (Zu ?_)))))))))))))))))))))))))))
 rw [show Zfi f last = 1 from by unfold Zfi; rw [if_neg h1, if_pos h2]]
 exact Zm (v := Iv 1) rfl rfl rfl (by kernel_rfl) rfl
 refine Zj (vx := Iv f.tag) (vy := Iv last) rfl rfl (.bool false) rfl rfl (Zuo (by omega)) ?_
 refine Zb (.bool false) (Za (Zc (Zt rfl (Z0 (Zc (Ze (Zf (Zi (b := 0) (o := 0) (n := 1) (o' := 1) (Zn (p := pt 0 1) (v := .string f.data) (Zc3 (p := .string f.data) (v := Iv (f.data.size : Nat)) ?_))))))))))
 by_cases h3 : 65536 < (f.data.size : Nat)
 refine Zj (vx := Iv (f.data.size : Nat)) (vy := Iv 65536) rfl rfl (.bool true) rfl rfl (Ze3 (by omega)) ?_
 refine Zb (.bool true) (Za (Zc (Zv rfl (Zbn (Zat (Zhs rfl (Zhs rfl (Zat (Zay rfl (Zc (Ze (Zf (Zb (Iv 2) (Za (Zc (Zbn (Zay rfl (Zc (Ze (Zf (Zd (Iv 2) (Zb (Iv 2) (Za (Zc (Zs (Zu ?_))))))))))))))))))))))))))
 rw [show Zfi f last = 2 from by unfold Zfi; rw [if_neg h1, if_neg h2, if_pos h3]]
 exact Zm (v := Iv 2) rfl rfl rfl (by kernel_rfl) rfl
 refine Zj (vx := Iv (f.data.size : Nat)) (vy := Iv 65536) rfl rfl (.bool false) rfl rfl (Ze2 (by omega)) ?_
 refine Zb (.bool false) (Za (Zc (Zt rfl (Z0 (Zc (Zbn (Zhs rfl (Zhs rfl (Zat (Zhs rfl (Zat (Zay rfl (Zc (Ze (Zf (Zd (Iv 0) (Zb (Iv 0) (Za (Zc (Zs (Zu ?_)))))))))))))))))))))
 rw [show Zfi f last = 0 from by unfold Zfi; rw [if_neg h1, if_neg h2, if_neg h3]]
 exact Zm (v := Iv 0) rfl rfl rfl (by kernel_rfl) rfl
abbrev Y1 (f : Field) : Blk := Zar [(BitVec.ofInt 8 f.tag), (BitVec.ofInt 8 (((f.data.size / 65536) : Nat) : Int)), (BitVec.ofInt 8 (((f.data.size / 256) : Nat) : Int)), (BitVec.ofInt 8 (f.data.size : Nat))]
theorem Z6h (l : Bs) (f : Field) (n c : Nat) (hn : l.length = n) (hc : n ≤ c) (hf : f.data.size ≤ 65536) (hb : n ≤ 1099511627776) : Z9 Tryd.prog G 80 [slv 0 0 n c, fdV f] [Zar l] (slv 0 0 (n + f.data.size + 4) (n + f.data.size + 4)) [Zar (l ++ Zje f)] := by
  refine Zbu (fn := Tryd.f80) (nt := 26) rfl rfl rfl rfl ?_
  refine Zaj 2 (H' := [Zar l, hole, hole]) rfl ?_
  refine Ze (Zf (Zci (v := fdV f) (b := bxB 2 (fdC f)) (nid := 1) (H' := [Zar l, bxB 2 (fdC f), hole]) (Zb (.slice none 0 0) (Za (Zc (Ze (Zf (Zi (b := 1) (o := 0) (n := 1) (o' := 1) (Zn (p := pt 1 1) (v := .string f.data) (Zc3 (p := .string f.data) (v := Iv (f.data.size : Nat)) (Zb (Iv (f.data.size : Nat)) (Za (Zc (Ze ?_))))))))))))))
  refine Zku (by kernel_rfl) ?_
  refine Zd (slv 0 0 n c) (Zi (b := 1) (o := 0) (n := 0) (o' := 0) (Zn (p := pt 1 0) (v := Iv f.tag) ?_))
  refine Zdm (w := Iv f.tag) (v := w8 (BitVec.ofInt 8 f.tag)) rfl rfl rfl (Zgl rfl rfl rfl) ?_
  refine Zd (Iv (f.data.size : Nat)) ?_
  refine Zj (vx := Iv (f.data.size : Nat)) (vy := .int .u64 16) rfl rfl (Iv (((f.data.size / 65536) : Nat) : Int)) rfl rfl (Z2z 16 (by omega) (by omega) (by omega) (by omega)) ?_
  refine Zdm (w := Iv (((f.data.size / 65536) : Nat) : Int)) (v := w8 (BitVec.ofInt 8 (((f.data.size / 65536) : Nat) : Int))) rfl rfl rfl (Zgl rfl rfl rfl) ?_
  refine Zd (Iv (f.data.size : Nat)) ?_
  refine Zj (vx := Iv (f.data.size : Nat)) (vy := .int .u64 8) rfl rfl (Iv (((f.data.size / 256) : Nat) : Int)) rfl rfl (Z2z 8 (by omega) (by omega) (by omega) (by omega)) ?_
  refine Zdm (w := Iv (((f.data.size / 256) : Nat) : Int)) (v := w8 (BitVec.ofInt 8 (((f.data.size / 256) : Nat) : Int))) rfl rfl rfl (Zgl rfl rfl rfl) ?_
  refine Zd (Iv (f.data.size : Nat)) ?_
  refine Zdm (w := Iv (f.data.size : Nat)) (v := w8 (BitVec.ofInt 8 (f.data.size : Nat))) rfl rfl rfl (Zgl rfl rfl rfl) ?_
  refine Zel (vs := [(0, w8 (BitVec.ofInt 8 f.tag)), (1, w8 (BitVec.ofInt 8 (((f.data.size / 65536) : Nat) : Int))), (2, w8 (BitVec.ofInt 8 (((f.data.size / 256) : Nat) : Int))), (3, w8 (BitVec.ofInt 8 (f.data.size : Nat)))]) (v := slv 2 0 4 4) (blk := Zar [(BitVec.ofInt 8 f.tag), (BitVec.ofInt 8 (((f.data.size / 65536) : Nat) : Int)), (BitVec.ofInt 8 (((f.data.size / 256) : Nat) : Int)), (BitVec.ofInt 8 (f.data.size : Nat))]) (nid := 2) (H' := [Zar l, bxB 2 (fdC f), Y1 f]) rfl rfl rfl (by kernel_rfl) (by kernel_rfl) ?_
  have hl3 : (l ++ [(BitVec.ofInt 8 f.tag), (BitVec.ofInt 8 (((f.data.size / 65536) : Nat) : Int)), (BitVec.ofInt 8 (((f.data.size / 256) : Nat) : Int)), (BitVec.ofInt 8 (f.data.size : Nat))]).length = n + 4 := by have := hn; have := (rfl : _ = 4); first | (rw [List.length_append]; omega) | (simp; omega) | simp
  refine Zc9 (p := slv 0 0 n c) (q := slv 2 0 4 4) (v := slv 0 0 (n + 4) (n + 4)) (b := 0) (blk := Zar (l ++ [(BitVec.ofInt 8 f.tag), (BitVec.ofInt 8 (((f.data.size / 65536) : Nat) : Int)), (BitVec.ofInt 8 (((f.data.size / 256) : Nat) : Int)), (BitVec.ofInt 8 (f.data.size : Nat))])) (H' := [Zar (l ++ [(BitVec.ofInt 8 f.tag), (BitVec.ofInt 8 (((f.data.size / 65536) : Nat) : Int)), (BitVec.ofInt 8 (((f.data.size / 256) : Nat) : Int)), (BitVec.ofInt 8 (f.data.size : Nat))]), bxB 2 (fdC f), Y1 f]) rfl rfl rfl (.inl ⟨_, rfl⟩) rfl rfl (Ztm (by_ := 1) (n' := n + 4) rfl rfl (Z22 rfl rfl (by have := (rfl : _ = 4); omega)) rfl rfl (by have := hn; omega) (by omega) (by decide) (by omega)) rfl (by kernel_rfl) ?_
  refine Zi (b := 1) (o := 0) (n := 1) (o' := 1) (Zn (p := pt 1 1) (v := .string f.data) ?_)
  have hl4 : ((l ++ [(BitVec.ofInt 8 f.tag), (BitVec.ofInt 8 (((f.data.size / 65536) : Nat) : Int)), (BitVec.ofInt 8 (((f.data.size / 256) : Nat) : Int)), (BitVec.ofInt 8 (f.data.size : Nat))]) ++ (bl f.data)).length = n + f.data.size + 4 := by have := hl3; have := (Zlm f.data); first | (rw [List.length_append]; omega) | (simp; omega) | simp
  refine Zc9 (p := slv 0 0 (n + 4) (n + 4)) (q := .string f.data) (v := slv 0 0 (n + f.data.size + 4) (n + f.data.size + 4)) (b := 0) (blk := Zar ((l ++ [(BitVec.ofInt 8 f.tag), (BitVec.ofInt 8 (((f.data.size / 65536) : Nat) : Int)), (BitVec.ofInt 8 (((f.data.size / 256) : Nat) : Int)), (BitVec.ofInt 8 (f.data.size : Nat))]) ++ (bl f.data))) (H' := [Zar ((l ++ [(BitVec.ofInt 8 f.tag), (BitVec.ofInt 8 (((f.data.size / 65536) : Nat) : Int)), (BitVec.ofInt 8 (((f.data.size / 256) : Nat) : Int)), (BitVec.ofInt 8 (f.data.size : Nat))]) ++ (bl f.data)), bxB 2 (fdC f), Y1 f]) rfl rfl rfl (.inr rfl) rfl rfl (Ztm (by_ := 1) (n' := n + f.data.size + 4) rfl rfl (rfl : Zhw _ 1 (.string _) = some (_, Zez _)) (Znp _) rfl (by have := hl3; omega) (by omega) (by decide) (by omega)) rfl (by kernel_rfl) ?_
  refine Zb (slv 0 0 (n + f.data.size + 4) (n + f.data.size + 4)) ?_
  refine Zjp (by kernel_rfl) ?_
  refine Zc (Zs (Zu ?_))
  rw [show Zar (l ++ Zje f) = Zar ((l ++ [(BitVec.ofInt 8 f.tag), (BitVec.ofInt 8 (((f.data.size / 65536) : Nat) : Int)), (BitVec.ofInt 8 (((f.data.size / 256) : Nat) : Int)), (BitVec.ofInt 8 (f.data.size : Nat))]) ++ (bl f.data)) from congrArg Zar (List.append_assoc _ _ _).symm]
  exact Zm (v := slv 0 0 (n + f.data.size + 4) (n + f.data.size + 4)) rfl rfl rfl (by simp [Zbe, Zar]) ⟨rfl, rfl, rfl, by first | omega | exact Nat.le_refl _ | exact Nat.zero_le _ | (dsimp only; omega), by first | omega | exact Nat.le_refl _ | exact Nat.zero_le _ | (dsimp only; omega)⟩
end Go.Flat
namespace Go.Flat
open Go.Proofs
variable {G : Glob}
theorem Zps (f : Field) : (Zje f).length = f.data.size + 4 := by simp [Zje, Zlm]
theorem Z4s (l : Bs) (f : Field) (n c : Nat) (hn : l.length = n) (hc : n ≤ c) (hf : f.data.size ≤ 65536) (hb : n ≤ 1099511627776) : Z9 Tryd.prog G 80 [slv 0 0 n c, fdV f] [Zar l] (slv 0 0 (l ++ Zje f).length (l ++ Zje f).length) [Zar (l ++ Zje f)] := by
 have h := Z6h (G := G) l f n c hn hc hf hb
 rw [show n + f.data.size + 4 = (l ++ Zje f).length from by rw [List.length_append, Zps]; omega] at h
 exact h
theorem Zzq {f : Field} {last : Int} (h : Zfi f last = 0) : f.data.size ≤ 65536 := by
 unfold Zfi at h
 split at h
 ·omega
 ·split at h
  ·omega
  ·split at h <;> omega
def Z4 : List Field → Int → Bs → Bs × Int
  | [], _, acc => (acc, 0)
  | f :: fs, last, acc => if Zfi f last = 0 then Z4 fs f.tag (acc ++ Zje f) else ([], Zfi f last)
theorem Zre {α : Type} [Inhabited α] {l : List α} {i : Nat} (h : i < l.length) : l.drop i = l.getD i default :: l.drop (i + 1) := by
 rw [List.drop_eq_getElem_cons h, List.getD_eq_getElem?_getD, List.getElem?_eq_getElem h]; rfl
theorem Zzn {fs : List Field} {i : Nat} {last : Int} {acc : Bs} {R : Bs × Int} (hR : Z4 (fs.drop i) last acc = R) (hi : i < fs.length) (hm : Zfi (fs.getD i default) last = 0) : Z4 (fs.drop (i + 1)) (fs.getD i default).tag (acc ++ Zje (fs.getD i default)) = R := by
 rw [Zre hi, Z4, if_pos hm] at hR; exact hR
theorem Z12 {fs : List Field} {i : Nat} {last : Int} {acc : Bs} {R : Bs × Int} (hR : Z4 (fs.drop i) last acc = R) (hi : i < fs.length) (hm : Zfi (fs.getD i default) last ≠ 0) : R = ([], Zfi (fs.getD i default) last) := by
 rw [Zre hi, Z4, if_neg hm] at hR; exact hR.symm
def Z7k : Bs → Nat → Int × Int
  | [], n => ((n : Nat), 0)
  | x :: l, n => if 18014398509481983 < n then (0, 11) else Z7k l (n * 256 + x.toNat)
def valS (s : ByteArray) : Int × Int := if 8 < s.size ∨ (1 ≤ s.size ∧ ((bl s).getD 0 0 == 0#8) = true) then (0, 11) else Z7k (bl s) 0
theorem Z0o (fs : List Field) (n c : Nat) (hn : fs.length = n) (hc : n ≤ c) (hb : n ≤ 1000) : Z9 Tryd.prog G 66 [slv 0 0 n c] [rwR cFd fs] (.tuple #[slv 1 0 (Z4 fs 0 []).1.length (Z4 fs 0 []).1.length, Iv (Z4 fs 0 []).2]) [rwR cFd fs, Zar (Z4 fs 0 []).1] := by
  refine Zbu (fn := Tryd.f66) (nt := 28) rfl rfl rfl rfl ?_
  refine Zaj 1 (H' := [rwR cFd fs, hole]) rfl ?_
  refine Ze (Zf (Zb (.slice none 0 0) (Zb (Iv 0) (Za (Zc (Ze (Zf (Zb (.slice none 0 0) (Za (Zc (Ze (Zf (Zb (Iv 0) (Za (Zc (Ze (Ze ?_)))))))))))))))))
  refine Zb5 (Zbo.nilTmp (i := 4) (b := 1) true 1 rfl (by decide) rfl) ?_
  refine Zf (Zd (slv 0 0 n c) (Zc3 (p := slv 0 0 n c) (v := Iv (n : Nat)) (Zd (Iv 0) (Za (Zc (Z5 ?_))))))
  refine Zck (fun x : Nat × Int × Bs => match x with | (i, last, acc) => [slv 0 0 n c, dead, dead, dead, slv 1 0 acc.length acc.length, Iv last, dead, dead, dead, slv 0 0 n c, Iv (n : Nat), Iv (i : Nat)]) (fun x : Nat × Int × Bs => match x with | (i, last, acc) => [rwR cFd fs, Zar acc]) (fun x : Nat × Int × Bs => match x with | (i, last, acc) => Z4 (fs.drop i) last acc = Z4 fs 0 [] ∧ i ≤ n ∧ acc.length ≤ i * 65540) (fun x : Nat × Int × Bs => match x with | (i, last, acc) => n - i) (0, 0, []) ⟨rfl, by omega, by simp⟩ ?_ ?_
  · refine Zam (n := 2) rfl ?_ (by kernel_rfl) (by kernel_rfl)
    repeat (first | exact trivial | refine ⟨.inl rfl, ?_⟩ | refine ⟨.inr ⟨rfl, rfl⟩, ?_⟩ | refine ⟨.inr ⟨congrArg (Value.int .i64) (by first | omega | (dsimp only; omega)), rfl⟩, ?_⟩)
  rintro ⟨i, last, acc⟩ ⟨hR, hi, ha⟩
  dsimp only at *
  refine Zaj 2 (H' := [rwR cFd fs, Zar acc, hole, hole]) rfl ?_
  have ha2 : acc.length ≤ 65540000 := by omega
  refine Ze (Zf ?_)
  by_cases h1 : (i : Nat) < (n : Nat)
  refine Zj (vx := Iv (i : Nat)) (vy := Iv (n : Nat)) rfl rfl (.bool true) rfl rfl (Zdd (by omega)) ?_
  refine Za (Zc (Ze (Zv rfl (Z0 (Zc (Ze (Z5 (Ze (Zf ?_)))))))))
  refine Zbs (b := 0) (o := 0) (j := i * 2) (m := n) (c := c) (sz := 2) (i := (i : Nat)) (k := .i64) rfl rfl rfl rfl rfl (by omega) (by omega) (by omega) ?_
  refine Zal (p := pt 0 (i * 2)) (v := fdV (fs.getD i default)) rfl rfl rfl (Zmn (n := 0) (m := 2) cFd rfl rfl rfl rfl (by have := hn; omega) (by omega)) ?_
  refine Zai (b := bxB 2 (fdC (⟨0, ⟨#[]⟩⟩ : Field))) (nid := 2) (H' := [rwR cFd fs, Zar acc, bxB 2 (fdC (⟨0, ⟨#[]⟩⟩ : Field)), hole]) (Z2 (p := pt 2 0) (v := fdV (fs.getD i default)) (b := 2) (blk := bxB 2 (fdC (fs.getD i default))) (H' := [rwR cFd fs, Zar acc, bxB 2 (fdC (fs.getD i default)), hole]) (Za (Zc (Ze (Ze (Zf (Zn (p := pt 2 0) (v := fdV (fs.getD i default)) (Zd (Iv last) ?_))))))))
  refine Zp (Z6b (G := G) (fs.getD i default) last) (vals := [fdV (fs.getD i default), Iv last]) (res' := Iv (Zfi (fs.getD i default) last)) rfl rfl rfl rfl rfl rfl ?_
  refine Zb (Iv (Zfi (fs.getD i default) last)) (Za (Zc (Ze (Zf (Zd (Iv (Zfi (fs.getD i default) last)) ?_)))))
  by_cases h2 : (Zfi (fs.getD i default) last) ≠ 0
  refine Zj (vx := Iv (Zfi (fs.getD i default) last)) (vy := Iv 0) rfl rfl (.bool true) rfl rfl (Zek (by omega)) ?_
  refine Za (Zc (Zv rfl (Ze (Zf (Zd (Iv (Zfi (fs.getD i default) last)) (Zb (.slice none 0 0) (Zb (Iv (Zfi (fs.getD i default) last)) (Za (Zc ?_)))))))))
  refine Zb5 (Zbo.nilTmp (i := 2) (b := 3) true 1 rfl (by decide) rfl) ?_
  refine Zs (Zaa (Zct (Zaa (Zen (Zct (Zaa (Zu ?_)))))))
  rw [show Z4 fs 0 [] = ([], (Zfi (fs.getD i default) last)) from Z12 hR (by omega) (by omega)]
  exact Zbb [0, 3] (v := .tuple #[slv 3 0 0 0, Iv (Zfi (fs.getD i default) last)]) rfl (by kernel_rfl) rfl rfl (by decide) (by simp [Zbe, Zar, rwR, cFd]) ⟨⟨rfl, rfl, rfl, by first | omega | exact Nat.le_refl _ | exact Nat.zero_le _ | (dsimp only; omega), by first | omega | exact Nat.le_refl _ | exact Nat.zero_le _ | (dsimp only; omega)⟩, rfl, trivial⟩
  refine Zj (vx := Iv (Zfi (fs.getD i default) last)) (vy := Iv 0) rfl rfl (.bool false) rfl rfl (Zd6 (by omega)) ?_
  refine Za (Zc (Zt rfl (Z0 (Zc ?_))))
  have hsz : (fs.getD i default).data.size ≤ 65536 := Zzq (last := last) (by omega)
  refine Zku (by kernel_rfl) ?_
  refine Zd (slv 1 0 acc.length acc.length) (Zn (p := pt 2 0) (v := fdV (fs.getD i default)) ?_)
  refine Zc2 (e := [some (1, 0)]) (nid := 0) (Z4s (G := G) acc (fs.getD i default) acc.length acc.length (by first | rfl | omega) (by omega) (by omega) (by omega)) (vals := [slv 1 0 acc.length acc.length, fdV (fs.getD i default)]) (v := slv 1 0 ((acc ++ Zje (fs.getD i default)).length) ((acc ++ Zje (fs.getD i default)).length)) (H' := [rwR cFd fs, Zar (acc ++ Zje (fs.getD i default)), bxB 2 (fdC (fs.getD i default)), hole]) rfl rfl rfl rfl rfl rfl ⟨⟨⟨rfl, rfl, rfl, by omega, by omega⟩, rfl, trivial⟩, ⟨(Zaw rfl rfl rfl rfl), trivial⟩, rfl, rfl, rfl, Nat.le_refl _⟩ rfl rfl (by kernel_rfl) ?_
  refine Zi (b := 2) (o := 0) (n := 0) (o' := 0) (Zn (p := pt 2 0) (v := Iv ((fs.getD i default).tag)) (Zb (slv 1 0 ((acc ++ Zje (fs.getD i default)).length) ((acc ++ Zje (fs.getD i default)).length)) (Zb (Iv ((fs.getD i default).tag)) ?_)))
  refine Zjp (by kernel_rfl) ?_
  refine Zz (Zc (Zf ?_))
  refine Zj (vx := Iv (i : Nat)) (vy := Iv 1) rfl rfl (Iv ((i : Nat) + 1)) rfl rfl (Za0 (by omega) (by omega) (by omega)) ?_
  refine Zd (Iv ((i : Nat) + 1)) (Za ?_)
  refine Zas ⟨((i + 1), ((fs.getD i default).tag), (acc ++ Zje (fs.getD i default))), ⟨Zzn hR (by omega) (by omega), by omega, by rw [List.length_append, Zps]; omega⟩, by show n - (i + 1) < n - i; omega, ?_⟩
  refine Zam (n := 2) rfl ?_ (by kernel_rfl) (by kernel_rfl)
  repeat (first | exact trivial | refine ⟨.inl rfl, ?_⟩ | refine ⟨.inr ⟨rfl, rfl⟩, ?_⟩ | refine ⟨.inr ⟨congrArg (Value.int .i64) (by first | omega | (dsimp only; omega)), rfl⟩, ?_⟩)
  refine Zj (vx := Iv (i : Nat)) (vy := Iv (n : Nat)) rfl rfl (.bool false) rfl rfl (Zcw (by omega)) ?_
  refine Za (Zc (Ze (Zt rfl (Zbn (Zat (Za3 (Zay rfl (Zc (Ze (Zf (Zd (slv 1 0 acc.length acc.length) (Zb (slv 1 0 acc.length acc.length) (Zb (Iv 0) (Za (Zc (Zs (Zu ?_)))))))))))))))))
  rw [show Z4 fs 0 [] = (acc, 0) from by rw [← hR, List.drop_of_length_le (by omega)]; rfl]
  exact Zbb [0, 1] (v := .tuple #[slv 1 0 acc.length acc.length, Iv 0]) rfl (by kernel_rfl) rfl rfl (by decide) (by simp [Zbe, Zar, rwR, cFd]) ⟨⟨rfl, rfl, rfl, by first | omega | exact Nat.le_refl _ | exact Nat.zero_le _ | (dsimp only; omega), by first | omega | exact Nat.le_refl _ | exact Nat.zero_le _ | (dsimp only; omega)⟩, rfl, trivial⟩
end Go.Flat
