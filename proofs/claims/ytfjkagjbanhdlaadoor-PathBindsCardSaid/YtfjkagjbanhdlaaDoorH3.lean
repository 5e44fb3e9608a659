/- Walks. -/
import Derived.Test.YtfjkagjbanhdlaaDoorXB
set_option linter.unusedVariables false
set_option linter.unusedSimpArgs false
set_option maxRecDepth 20000
namespace Go.Flat
open Go.Proofs
variable {G : Glob}
structure Field where
  tag : Int
  data : ByteArray
def fdC (f : Field) : List Value := [.int .i64 f.tag, .string f.data]
def fdV (f : Field) : Value := .agg (fdC f).toArray
def cFd : Cod Field := ⟨fdC, 2, fun _ => rfl, by decide⟩
instance : Inhabited Field := ⟨⟨0, ⟨#[]⟩⟩⟩

def Zm0 : Nat → Nat → Nat → D → Bs
  | 0, _, a, b => (Zjn 8 b).drop a
  | f + 1, n, a, b => if n = 0 then (Zjn 8 b).drop a else Zm0 f (n / 256) (a - 1) (Zhj b (a - 1) (BitVec.ofInt 8 (n : Int)))
theorem Zy2 (f a : Nat) (b : D) : Zm0 f 0 a b = (Zjn 8 b).drop a := by cases f <;> simp [Zm0]
theorem Zws {k a : Nat} (hk : k < 256 ^ a) (h : 1 ≤ k) : 1 ≤ a := by
 cases a with
 | zero => simp at hk; omega
 | succ a => omega
theorem Zyd {a k q a' : Nat} {b : D} {x : BitVec 8} {R : Bs} (hR : Zm0 a k a b = R) (hk : k < 256 ^ a) (h1 : 0 < k) (hx : x = BitVec.ofInt 8 (k : Int)) (ha' : a = a' + 1) (hq : q = k / 256 := by rfl) (h8 : a ≤ 8 := by omega) : Zm0 a' q a' (Zhj b a' x) = R ∧ q < 256 ^ a' ∧ a' ≤ 8 := by
 subst ha'; subst hx; subst hq
 refine ⟨?_, ?_, by omega⟩
 ·rw [Zm0, if_neg (by omega)] at hR; exact hR
 ·rw [Nat.pow_succ] at hk; exact Nat.div_lt_of_lt_mul (by omega)
def Zr (n : Int) : ByteArray × Int := if 0 ≤ n ∧ n ≤ 4611686018427387903 then (Zn (Zm0 8 n.toNat 8 dz), 0) else (⟨#[]⟩, 1)
theorem Zre (n : Int) (hl : -9223372036854775808 ≤ n) (hh : n ≤ 9223372036854775807) : Zae Tryd.prog G 65 [Iv n] [] (.tuple #[.string (Zr n).1, Iv (Zr n).2]) [] := by
  refine Zbj (fn := Tryd.f65) (nt := 25) rfl rfl rfl rfl ?_
  refine Zaj 1 (H' := [hole]) rfl ?_
  refine Zf (Zg (Zc rfl rfl (.string ⟨#[]⟩) rfl (Zc rfl rfl (Iv 0) rfl (Za (Zb (Zf (Zf (Zg (Ze rfl rfl (Iv n) rfl ?_)))))))))
  by_cases h1 : n < 0
  refine Zk (vx := Iv n) (vy := Iv 0) rfl rfl (.bool true) rfl rfl (Zcq (by omega)) ?_
  refine Ze rfl rfl (.bool true) rfl (Zj rfl rfl (Zj rfl rfl (Zo rfl rfl (.bool true) rfl (Za (Zb (Zz rfl (Zf (Zg (Zc rfl rfl (.string ⟨#[]⟩) rfl (Zc rfl rfl (Iv 1) rfl (Za (Zb (Zt (Z3 (Zu ?_)))))))))))))))
  rw [show Zr n = (⟨#[]⟩, 1) from if_neg (by omega)]
  exact Zm (v := .tuple #[.string ⟨#[]⟩, Iv 1]) rfl rfl rfl (by kernel_rfl) ⟨rfl, rfl, trivial⟩
  refine Zk (vx := Iv n) (vy := Iv 0) rfl rfl (.bool false) rfl rfl (Zcj (by omega)) ?_
  refine Ze rfl rfl (.bool false) rfl (Ze rfl rfl (Iv n) rfl ?_)
  by_cases h2 : 4611686018427387903 < n
  refine Zk (vx := Iv n) (vy := Iv 4611686018427387903) rfl rfl (.bool true) rfl rfl (Zet (by omega)) ?_
  refine Zo rfl rfl (.bool true) rfl (Za (Zb (Zz rfl (Zf (Zg (Zc rfl rfl (.string ⟨#[]⟩) rfl (Zc rfl rfl (Iv 1) rfl (Za (Zb (Zt (Z3 (Zu ?_))))))))))))
  rw [show Zr n = (⟨#[]⟩, 1) from if_neg (by omega)]
  exact Zm (v := .tuple #[.string ⟨#[]⟩, Iv 1]) rfl rfl rfl (by kernel_rfl) ⟨rfl, rfl, trivial⟩
  refine Zk (vx := Iv n) (vy := Iv 4611686018427387903) rfl rfl (.bool false) rfl rfl (Zej (by omega)) ?_
  refine Zo rfl rfl (.bool false) rfl (Za (Zb (Zv rfl (Z2 (Zb (Zf ?_))))))
  obtain ⟨m, rfl⟩ : ∃ x0 : Nat, n = (x0 : Int) := ⟨n.toNat, by omega⟩
  refine Zg ?_
  refine Z7 (b := bxB 8 (Zac w8 8 dz)) (nid := 0) (H' := [bxB 8 (Zac w8 8 dz)]) rfl rfl (by kernel_rfl) (by kernel_rfl) ?_
  refine Za (Zb (Zf (Zg (Zc rfl rfl (Iv 8) rfl (Za (Zb (Zf (Z9 ?_))))))))
  refine Zch (fun x : Nat × Nat × D => match x with | (k, a, b) => [Iv (k : Nat), dead, .string ⟨#[]⟩, Iv 0, pt 0 0, Iv (a : Nat), Iv (m : Nat), .bool false, .bool false, Iv (m : Nat), .bool false, .bool false]) (fun x : Nat × Nat × D => match x with | (k, a, b) => [bxB 8 (Zac w8 8 b)]) (fun x : Nat × Nat × D => match x with | (k, a, b) => Zm0 a k a b = Zm0 8 m 8 dz ∧ k < 256 ^ a ∧ a ≤ 8) (fun x : Nat × Nat × D => match x with | (k, a, b) => a) (m, 8, dz) ⟨rfl, by omega, by omega⟩ ?_ ?_
  · refine Zal (n := 1) rfl ?_ (by kernel_rfl) (by kernel_rfl)
    repeat (first | exact trivial | refine ⟨.inl rfl, ?_⟩ | refine ⟨.inr ⟨rfl, rfl⟩, ?_⟩ | refine ⟨.inr ⟨congrArg (Value.int .i64) (by first | omega | (dsimp only; omega)), rfl⟩, ?_⟩)
  rintro ⟨k, a, b⟩ ⟨hR, hk, ha⟩
  dsimp only at *
  refine Zf (Zf (Zg (Ze rfl rfl (Iv (k : Nat)) rfl ?_)))
  by_cases h3 : 0 < (k : Nat)
  refine Zk (vx := Iv (k : Nat)) (vy := Iv 0) rfl rfl (.bool true) rfl rfl (Zet (by omega)) ?_
  refine Za (Zb (Zz rfl (Z2 (Zb (Zf (Z9 (Zf ?_)))))))
  have h1a := Zws hk (by omega)
  refine Zg (Ze rfl rfl (Iv (a : Nat)) rfl ?_)
  refine Zk (vx := Iv (a : Nat)) (vy := Iv 1) rfl rfl (Iv ((a : Nat) - 1)) rfl rfl (Zde (by omega) (by omega) (by omega)) ?_
  refine Zc rfl rfl (Iv ((a : Nat) - 1)) rfl (Za (Zb (Zg (Ze rfl rfl (Iv ((a : Nat) - 1)) rfl (Ze rfl rfl (Iv (k : Nat)) rfl ?_)))))
  refine Zdb (w := Iv (k : Nat)) (v := w8 (BitVec.ofInt 8 (k : Nat))) rfl rfl rfl (Zgg rfl rfl rfl) ?_
  refine Zdw (b := 0) (o := 0) (j := a - 1) (n := 8) (sz := 1) (i := (a : Nat) - 1) (k := .i64) rfl rfl rfl rfl rfl (by omega) (by omega) (by omega) ?_
  refine Zx (p := pt 0 (a - 1)) (v := w8 (BitVec.ofInt 8 (k : Nat))) (b := 0) (blk := bxB 8 (Zac w8 8 (Zhj b (a - 1) (BitVec.ofInt 8 (k : Nat))))) (H' := [bxB 8 (Zac w8 8 (Zhj b (a - 1) (BitVec.ofInt 8 (k : Nat))))]) rfl rfl rfl (Zg5 (blk := bxB 8 (Zac w8 8 b)) (i := a - 1) (enc := w8) (n := 8) (w := b) (x := (BitVec.ofInt 8 (k : Nat))) rfl rfl rfl rfl rfl (by omega) rfl rfl) (by kernel_rfl) ?_
  refine Za (Zab (Zb (Zg (Ze rfl rfl (Iv (k : Nat)) rfl ?_))))
  refine Zk (vx := Iv (k : Nat)) (vy := .int .u64 8) rfl rfl (Iv (((k / 256) : Nat) : Int)) rfl rfl (Zzo 8 (by omega) (by omega) (by omega) (by omega)) ?_
  refine Zc rfl rfl (Iv (((k / 256) : Nat) : Int)) rfl (Za ?_)
  refine Zas ⟨((k / 256), (a - 1), (Zhj b (a - 1) (BitVec.ofInt 8 (k : Nat)))), Zyd (a' := a - 1) hR hk (by omega) rfl (by omega), by show a - 1 < a; omega, ?_⟩
  refine Zal (n := 1) rfl ?_ (by kernel_rfl) (by kernel_rfl)
  repeat (first | exact trivial | refine ⟨.inl rfl, ?_⟩ | refine ⟨.inr ⟨rfl, rfl⟩, ?_⟩ | refine ⟨.inr ⟨congrArg (Value.int .i64) (by first | omega | (dsimp only; omega)), rfl⟩, ?_⟩)
  refine Zk (vx := Iv (k : Nat)) (vy := Iv 0) rfl rfl (.bool false) rfl rfl (Zej (by omega)) ?_
  refine Za (Zb (Zv rfl (Zbh (Zar (Za0 (Zaw rfl (Zb (Zf (Zg (Ze rfl rfl (Iv (a : Nat)) rfl ?_))))))))))
  refine Zdd (p := pt 0 0) (vl := some (Iv (a : Nat))) (vh := none) (v := slv 0 a (8 - a) (8 - a)) rfl rfl rfl rfl rfl (Zyk (sz := 1) (l := a) (h := 8) rfl rfl rfl (Z4x (by omega) (by omega)) rfl (by omega) (by omega) (by omega)) ?_
  refine Zfm (p := slv 0 a (8 - a) (8 - a)) (v := .string (Zn (((Zjn 8 b).drop a).take (8 - a)))) rfl rfl rfl (Zx1 (l := Zjn 8 b) rfl rfl rfl rfl (Zyz _ _) (by rw [Zj9]; omega) rfl) ?_
  refine Zc rfl rfl (.string (Zn (((Zjn 8 b).drop a).take (8 - a)))) rfl (Zc rfl rfl (Iv 0) rfl (Za (Zb (Zt (Zu ?_)))))
  have e : Zr (m : Nat) = ((Zn (((Zjn 8 b).drop a).take (8 - a))), 0) := by
    rw [show Zr (m : Nat) = (Zn (Zm0 8 m 8 dz), 0) from if_pos (by omega), ← hR]
    obtain rfl : k = 0 := by omega
    rw [Zy2, List.take_of_length_le (by rw [List.length_drop, Zj9]; omega)]
  rw [e]
  exact Zm (v := .tuple #[.string (Zn (((Zjn 8 b).drop a).take (8 - a))), Iv 0]) rfl rfl rfl (by kernel_rfl) ⟨rfl, rfl, trivial⟩
end Go.Flat
namespace Go.Flat
open Go.Proofs
variable {G : Glob}
def Zi9 (f : Field) : Bs := [BitVec.ofInt 8 f.tag, BitVec.ofInt 8 (f.data.size / 65536 : Nat), BitVec.ofInt 8 (f.data.size / 256 : Nat), BitVec.ofInt 8 (f.data.size : Nat)] ++ bl f.data
def Ze9 (f : Field) (last : Int) : Int :=
  if 255 < f.tag then 1 else
  if f.tag ≤ last then 1 else
  if 65536 < (f.data.size : Nat) then 2 else
  0
theorem Z41 (f : Field) (last : Int) : Zae Tryd.prog G 79 [fdV f, Iv last] [] (Iv (Ze9 f last)) [] := by
 refine Zbj (fn := Tryd.f79) (nt := 21) rfl rfl rfl rfl ?_
 refine Zaj 1 (H' := [hole]) rfl ?_
 refine Zf (Zg ?_)
 refine Zbr (v := fdV f) (b := bxB 2 (fdC f)) (nid := 0) (H' := [bxB 2 (fdC f)]) rfl rfl rfl (by kernel_rfl) (by kernel_rfl) ?_
 refine Zc rfl rfl (Iv 0) rfl (Za (Zb (Zf (Zg (Zc rfl rfl (Iv 0) rfl (Za (Zb (Zf (Z9 (Zf (Z9 (Zf (Z9 (Z9 (Zf (Zf (Zf (Zg ?_))))))))))))))))))
 refine Zi (b := 0) (o := 0) (n := 0) (o' := 0) rfl rfl rfl rfl rfl ?_
 refine Zl (p := pt 0 0) (v := Iv f.tag) rfl rfl rfl (by kernel_rfl) ?_
 by_cases h1 : 255 < f.tag
 refine Zk (vx := Iv f.tag) (vy := Iv 255) rfl rfl (.bool true) rfl rfl (Zet (by omega)) ?_
 refine Zc rfl rfl (.bool true) rfl (Za (Zb (Zz rfl (Zbh (Zar (Zar (Zaw rfl (Zab (Zb (Zf (Zg (Zc rfl rfl (Iv 1) rfl (Za (Zb (Zbh (Ziq rfl (Zar (Zaw rfl (Zb (Zf (Zg (Ze rfl rfl (Iv 1) rfl (Zc rfl rfl (Iv 1) rfl (Za (Zb (Zt (Zu ?_)))))))))))))))))))))))))))
 rw [show Ze9 f last = 1 from by unfold Ze9; rw [if_pos h1]]
 exact Zm (v := Iv 1) rfl rfl rfl (by kernel_rfl) rfl
 refine Zk (vx := Iv f.tag) (vy := Iv 255) rfl rfl (.bool false) rfl rfl (Zej (by omega)) ?_
 refine Zc rfl rfl (.bool false) rfl (Za (Zb (Zv rfl (Z2 (Zb (Zf (Zf (Zg ?_))))))))
 refine Zi (b := 0) (o := 0) (n := 0) (o' := 0) rfl rfl rfl rfl rfl ?_
 refine Zl (p := pt 0 0) (v := Iv f.tag) rfl rfl rfl (by kernel_rfl) ?_
 refine Ze rfl rfl (Iv last) rfl ?_
 by_cases h2 : f.tag ≤ last
 refine Zk (vx := Iv f.tag) (vy := Iv last) rfl rfl (.bool true) rfl rfl (Zt2 (by omega)) ?_
 refine Zc rfl rfl (.bool true) rfl (Za (Zb (Zz rfl (Zbh (Zar (Zar (Ziq rfl (Zaw rfl (Zb (Zf (Zg (Zc rfl rfl (Iv 1) rfl (Za (Zb (Zbh (Ziq rfl (Zar (Zaw rfl (Zb (Zf (Zg (Ze rfl rfl (Iv 1) rfl (Zc rfl rfl (Iv 1) rfl (Za (Zb (Zt (Zu ?_)))))))))))))))))))))))))))
 rw [show Ze9 f last = 1 from by unfold Ze9; rw [if_neg h1, if_pos h2]]
 exact Zm (v := Iv 1) rfl rfl rfl (by kernel_rfl) rfl
 refine Zk (vx := Iv f.tag) (vy := Iv last) rfl rfl (.bool false) rfl rfl (Zva (by omega)) ?_
 refine Zc rfl rfl (.bool false) rfl (Za (Zb (Zv rfl (Z2 (Zb (Zf (Zg ?_)))))))
 refine Zi (b := 0) (o := 0) (n := 1) (o' := 1) rfl rfl rfl rfl rfl ?_
 refine Zl (p := pt 0 1) (v := .string f.data) rfl rfl rfl (by kernel_rfl) ?_
 refine Zbl (p := .string f.data) (v := Iv (f.data.size : Nat)) rfl rfl rfl rfl ?_
 by_cases h3 : 65536 < (f.data.size : Nat)
 refine Zk (vx := Iv (f.data.size : Nat)) (vy := Iv 65536) rfl rfl (.bool true) rfl rfl (Zet (by omega)) ?_
 refine Zc rfl rfl (.bool true) rfl (Za (Zb (Zz rfl (Zbh (Zar (Ziq rfl (Ziq rfl (Zar (Zaw rfl (Zb (Zf (Zg (Zc rfl rfl (Iv 2) rfl (Za (Zb (Zbh (Zaw rfl (Zb (Zf (Zg (Ze rfl rfl (Iv 2) rfl (Zc rfl rfl (Iv 2) rfl (Za (Zb (Zt (Zu ?_))))))))))))))))))))))))))
 rw [show Ze9 f last = 2 from by unfold Ze9; rw [if_neg h1, if_neg h2, if_pos h3]]
 exact Zm (v := Iv 2) rfl rfl rfl (by kernel_rfl) rfl
 refine Zk (vx := Iv (f.data.size : Nat)) (vy := Iv 65536) rfl rfl (.bool false) rfl rfl (Zej (by omega)) ?_
 refine Zc rfl rfl (.bool false) rfl (Za (Zb (Zv rfl (Z2 (Zb (Zbh (Ziq rfl (Ziq rfl (Zar (Ziq rfl (Zar (Zaw rfl (Zb (Zf (Zg (Ze rfl rfl (Iv 0) rfl (Zc rfl rfl (Iv 0) rfl (Za (Zb (Zt (Zu ?_)))))))))))))))))))))
 rw [show Ze9 f last = 0 from by unfold Ze9; rw [if_neg h1, if_neg h2, if_neg h3]]
 exact Zm (v := Iv 0) rfl rfl rfl (by kernel_rfl) rfl
theorem Z4l (l : Bs) (f : Field) (n c : Nat) (hn : l.length = n) (hc : n ≤ c) (hf : f.data.size ≤ 65536) (hb : n ≤ 1099511627776) : Zae Tryd.prog G 80 [slv 0 0 n c, fdV f] [Zaq l] (slv 0 0 (n + f.data.size + 4) (n + f.data.size + 4)) [Zaq (l ++ Zi9 f)] := by
  refine Zbj (fn := Tryd.f80) (nt := 26) rfl rfl rfl rfl ?_
  refine Zaj 2 (H' := [Zaq l, hole, hole]) rfl ?_
  refine Zf (Zg ?_)
  refine Zbr (v := fdV f) (b := bxB 2 (fdC f)) (nid := 1) (H' := [Zaq l, bxB 2 (fdC f), hole]) rfl rfl rfl (by kernel_rfl) (by kernel_rfl) ?_
  refine Zc rfl rfl (.slice none 0 0) rfl (Za (Zb (Zf (Zg ?_))))
  refine Zi (b := 1) (o := 0) (n := 1) (o' := 1) rfl rfl rfl rfl rfl ?_
  refine Zl (p := pt 1 1) (v := .string f.data) rfl rfl rfl (by kernel_rfl) ?_
  refine Zbl (p := .string f.data) (v := Iv (f.data.size : Nat)) rfl rfl rfl rfl ?_
  refine Zc rfl rfl (Iv (f.data.size : Nat)) rfl (Za (Zb (Zf ?_)))
  refine Zmz (by kernel_rfl) ?_
  refine Ze rfl rfl (slv 0 0 n c) rfl ?_
  refine Zi (b := 1) (o := 0) (n := 0) (o' := 0) rfl rfl rfl rfl rfl ?_
  refine Zl (p := pt 1 0) (v := Iv f.tag) rfl rfl rfl (by kernel_rfl) ?_
  refine Zdb (w := Iv f.tag) (v := w8 (BitVec.ofInt 8 f.tag)) rfl rfl rfl (Zgg rfl rfl rfl) ?_
  refine Ze rfl rfl (Iv (f.data.size : Nat)) rfl ?_
  refine Zk (vx := Iv (f.data.size : Nat)) (vy := .int .u64 16) rfl rfl (Iv (((f.data.size / 65536) : Nat) : Int)) rfl rfl (Zzo 16 (by omega) (by omega) (by omega) (by omega)) ?_
  refine Zdb (w := Iv (((f.data.size / 65536) : Nat) : Int)) (v := w8 (BitVec.ofInt 8 (((f.data.size / 65536) : Nat) : Int))) rfl rfl rfl (Zgg rfl rfl rfl) ?_
  refine Ze rfl rfl (Iv (f.data.size : Nat)) rfl ?_
  refine Zk (vx := Iv (f.data.size : Nat)) (vy := .int .u64 8) rfl rfl (Iv (((f.data.size / 256) : Nat) : Int)) rfl rfl (Zzo 8 (by omega) (by omega) (by omega) (by omega)) ?_
  refine Zdb (w := Iv (((f.data.size / 256) : Nat) : Int)) (v := w8 (BitVec.ofInt 8 (((f.data.size / 256) : Nat) : Int))) rfl rfl rfl (Zgg rfl rfl rfl) ?_
  refine Ze rfl rfl (Iv (f.data.size : Nat)) rfl ?_
  refine Zdb (w := Iv (f.data.size : Nat)) (v := w8 (BitVec.ofInt 8 (f.data.size : Nat))) rfl rfl rfl (Zgg rfl rfl rfl) ?_
  refine Zda (vs := [(0, w8 (BitVec.ofInt 8 f.tag)), (1, w8 (BitVec.ofInt 8 (((f.data.size / 65536) : Nat) : Int))), (2, w8 (BitVec.ofInt 8 (((f.data.size / 256) : Nat) : Int))), (3, w8 (BitVec.ofInt 8 (f.data.size : Nat)))]) (v := slv 2 0 4 4) (blk := Zaq [(BitVec.ofInt 8 f.tag), (BitVec.ofInt 8 (((f.data.size / 65536) : Nat) : Int)), (BitVec.ofInt 8 (((f.data.size / 256) : Nat) : Int)), (BitVec.ofInt 8 (f.data.size : Nat))]) (nid := 2) (H' := [Zaq l, bxB 2 (fdC f), Zaq [(BitVec.ofInt 8 f.tag), (BitVec.ofInt 8 (((f.data.size / 65536) : Nat) : Int)), (BitVec.ofInt 8 (((f.data.size / 256) : Nat) : Int)), (BitVec.ofInt 8 (f.data.size : Nat))]]) rfl rfl rfl (by kernel_rfl) (by kernel_rfl) ?_
  have hl3 : (l ++ [(BitVec.ofInt 8 f.tag), (BitVec.ofInt 8 (((f.data.size / 65536) : Nat) : Int)), (BitVec.ofInt 8 (((f.data.size / 256) : Nat) : Int)), (BitVec.ofInt 8 (f.data.size : Nat))]).length = n + 4 := by have := hn; have := (rfl : _ = 4); first | (rw [List.length_append]; omega) | (simp; omega) | simp
  refine Zcv (p := slv 0 0 n c) (q := slv 2 0 4 4) (v := slv 0 0 (n + 4) (n + 4)) (b := 0) (blk := Zaq (l ++ [(BitVec.ofInt 8 f.tag), (BitVec.ofInt 8 (((f.data.size / 65536) : Nat) : Int)), (BitVec.ofInt 8 (((f.data.size / 256) : Nat) : Int)), (BitVec.ofInt 8 (f.data.size : Nat))])) (H' := [Zaq (l ++ [(BitVec.ofInt 8 f.tag), (BitVec.ofInt 8 (((f.data.size / 65536) : Nat) : Int)), (BitVec.ofInt 8 (((f.data.size / 256) : Nat) : Int)), (BitVec.ofInt 8 (f.data.size : Nat))]), bxB 2 (fdC f), Zaq [(BitVec.ofInt 8 f.tag), (BitVec.ofInt 8 (((f.data.size / 65536) : Nat) : Int)), (BitVec.ofInt 8 (((f.data.size / 256) : Nat) : Int)), (BitVec.ofInt 8 (f.data.size : Nat))]]) rfl rfl rfl (.inl ⟨_, rfl⟩) rfl rfl (Ztc (by_ := 1) (n' := n + 4) rfl rfl (Z0s rfl rfl (by have := (rfl : _ = 4); omega)) rfl rfl (by have := hn; omega) (by omega) (by decide) (by omega)) rfl (by kernel_rfl) ?_
  refine Zi (b := 1) (o := 0) (n := 1) (o' := 1) rfl rfl rfl rfl rfl ?_
  refine Zl (p := pt 1 1) (v := .string f.data) rfl rfl rfl (by kernel_rfl) ?_
  have hl4 : ((l ++ [(BitVec.ofInt 8 f.tag), (BitVec.ofInt 8 (((f.data.size / 65536) : Nat) : Int)), (BitVec.ofInt 8 (((f.data.size / 256) : Nat) : Int)), (BitVec.ofInt 8 (f.data.size : Nat))]) ++ (bl f.data)).length = n + f.data.size + 4 := by have := hl3; have := (Zla f.data); first | (rw [List.length_append]; omega) | (simp; omega) | simp
  refine Zcv (p := slv 0 0 (n + 4) (n + 4)) (q := .string f.data) (v := slv 0 0 (n + f.data.size + 4) (n + f.data.size + 4)) (b := 0) (blk := Zaq ((l ++ [(BitVec.ofInt 8 f.tag), (BitVec.ofInt 8 (((f.data.size / 65536) : Nat) : Int)), (BitVec.ofInt 8 (((f.data.size / 256) : Nat) : Int)), (BitVec.ofInt 8 (f.data.size : Nat))]) ++ (bl f.data))) (H' := [Zaq ((l ++ [(BitVec.ofInt 8 f.tag), (BitVec.ofInt 8 (((f.data.size / 65536) : Nat) : Int)), (BitVec.ofInt 8 (((f.data.size / 256) : Nat) : Int)), (BitVec.ofInt 8 (f.data.size : Nat))]) ++ (bl f.data)), bxB 2 (fdC f), Zaq [(BitVec.ofInt 8 f.tag), (BitVec.ofInt 8 (((f.data.size / 65536) : Nat) : Int)), (BitVec.ofInt 8 (((f.data.size / 256) : Nat) : Int)), (BitVec.ofInt 8 (f.data.size : Nat))]]) rfl rfl rfl (.inr rfl) rfl rfl (Ztc (by_ := 1) (n' := n + f.data.size + 4) rfl rfl (rfl : Zhg _ 1 (.string _) = some (_, Ze0 _)) (Znj _) rfl (by have := hl3; omega) (by omega) (by decide) (by omega)) rfl (by kernel_rfl) ?_
  refine Zc rfl rfl (slv 0 0 (n + f.data.size + 4) (n + f.data.size + 4)) rfl ?_
  refine Zkm (by kernel_rfl) ?_
  refine Zb (Zt (Zu ?_))
  rw [show Zaq (l ++ Zi9 f) = Zaq ((l ++ [(BitVec.ofInt 8 f.tag), (BitVec.ofInt 8 (((f.data.size / 65536) : Nat) : Int)), (BitVec.ofInt 8 (((f.data.size / 256) : Nat) : Int)), (BitVec.ofInt 8 (f.data.size : Nat))]) ++ (bl f.data)) from congrArg Zaq (List.append_assoc _ _ _).symm]
  exact Zm (v := slv 0 0 (n + f.data.size + 4) (n + f.data.size + 4)) rfl rfl rfl (by simp [Za9, Zaq]) ⟨rfl, rfl, rfl, by first | omega | exact Nat.le_refl _ | exact Nat.zero_le _ | (dsimp only; omega), by first | omega | exact Nat.le_refl _ | exact Nat.zero_le _ | (dsimp only; omega)⟩
end Go.Flat
namespace Go.Flat
open Go.Proofs
variable {G : Glob}
theorem Zph (f : Field) : (Zi9 f).length = f.data.size + 4 := by simp [Zi9, Zla]
theorem Z2x (l : Bs) (f : Field) (n c : Nat) (hn : l.length = n) (hc : n ≤ c) (hf : f.data.size ≤ 65536) (hb : n ≤ 1099511627776) : Zae Tryd.prog G 80 [slv 0 0 n c, fdV f] [Zaq l] (slv 0 0 (l ++ Zi9 f).length (l ++ Zi9 f).length) [Zaq (l ++ Zi9 f)] := by
 have h := Z4l (G := G) l f n c hn hc hf hb
 rw [show n + f.data.size + 4 = (l ++ Zi9 f).length from by rw [List.length_append, Zph]; omega] at h
 exact h
theorem Zy5 {f : Field} {last : Int} (h : Ze9 f last = 0) : f.data.size ≤ 65536 := by
 unfold Ze9 at h
 split at h
 ·omega
 ·split at h
  ·omega
  ·split at h <;> omega
def Z8 : List Field → Int → Bs → Bs × Int
  | [], _, acc => (acc, 0)
  | f :: fs, last, acc => if Ze9 f last = 0 then Z8 fs f.tag (acc ++ Zi9 f) else ([], Ze9 f last)
theorem Zq4 {α : Type} [Inhabited α] {l : List α} {i : Nat} (h : i < l.length) : l.drop i = l.getD i default :: l.drop (i + 1) := by
 rw [List.drop_eq_getElem_cons h, List.getD_eq_getElem?_getD, List.getElem?_eq_getElem h]; rfl
theorem Zyc {fs : List Field} {i : Nat} {last : Int} {acc : Bs} {R : Bs × Int} (hR : Z8 (fs.drop i) last acc = R) (hi : i < fs.length) (hm : Ze9 (fs.getD i default) last = 0) : Z8 (fs.drop (i + 1)) (fs.getD i default).tag (acc ++ Zi9 (fs.getD i default)) = R := by
 rw [Zq4 hi, Z8, if_pos hm] at hR; exact hR
theorem Z0l {fs : List Field} {i : Nat} {last : Int} {acc : Bs} {R : Bs × Int} (hR : Z8 (fs.drop i) last acc = R) (hi : i < fs.length) (hm : Ze9 (fs.getD i default) last ≠ 0) : R = ([], Ze9 (fs.getD i default) last) := by
 rw [Zq4 hi, Z8, if_neg hm] at hR; exact hR.symm
def Z5u : Bs → Nat → Int × Int
  | [], n => ((n : Nat), 0)
  | x :: l, n => if 18014398509481983 < n then (0, 11) else Z5u l (n * 256 + x.toNat)
def Z64 (s : ByteArray) : Int × Int := if 8 < s.size ∨ (1 ≤ s.size ∧ ((bl s).getD 0 0 == 0#8) = true) then (0, 11) else Z5u (bl s) 0
theorem Z0v (fs : List Field) (n c : Nat) (hn : fs.length = n) (hc : n ≤ c) (hb : n ≤ 1000) : Zae Tryd.prog G 66 [slv 0 0 n c] [rwR cFd fs] (.tuple #[slv 1 0 (Z8 fs 0 []).1.length (Z8 fs 0 []).1.length, Iv (Z8 fs 0 []).2]) [rwR cFd fs, Zaq (Z8 fs 0 []).1] := by
  refine Zbj (fn := Tryd.f66) (nt := 28) rfl rfl rfl rfl ?_
  refine Zaj 1 (H' := [rwR cFd fs, hole]) rfl ?_
  refine Zf (Zg (Zc rfl rfl (.slice none 0 0) rfl (Zc rfl rfl (Iv 0) rfl (Za (Zb (Zf (Zg (Zc rfl rfl (.slice none 0 0) rfl (Za (Zb (Zf (Zg (Zc rfl rfl (Iv 0) rfl (Za (Zb (Zf (Zf ?_)))))))))))))))))
  refine Zb4 (Zbz.nilTmp (i := 4) (b := 1) true 1 rfl (by decide) rfl) ?_
  refine Zg (Ze rfl rfl (slv 0 0 n c) rfl ?_)
  refine Zbl (p := slv 0 0 n c) (v := Iv (n : Nat)) rfl rfl rfl rfl ?_
  refine Ze rfl rfl (Iv 0) rfl (Za (Zb (Z9 ?_)))
  refine Zch (fun x : Nat × Int × Bs => match x with | (i, last, acc) => [slv 0 0 n c, dead, dead, dead, slv 1 0 acc.length acc.length, Iv last, dead, dead, dead, slv 0 0 n c, Iv (n : Nat), Iv (i : Nat)]) (fun x : Nat × Int × Bs => match x with | (i, last, acc) => [rwR cFd fs, Zaq acc]) (fun x : Nat × Int × Bs => match x with | (i, last, acc) => Z8 (fs.drop i) last acc = Z8 fs 0 [] ∧ i ≤ n ∧ acc.length ≤ i * 65540) (fun x : Nat × Int × Bs => match x with | (i, last, acc) => n - i) (0, 0, []) ⟨rfl, by omega, by simp⟩ ?_ ?_
  · refine Zal (n := 2) rfl ?_ (by kernel_rfl) (by kernel_rfl)
    repeat (first | exact trivial | refine ⟨.inl rfl, ?_⟩ | refine ⟨.inr ⟨rfl, rfl⟩, ?_⟩ | refine ⟨.inr ⟨congrArg (Value.int .i64) (by first | omega | (dsimp only; omega)), rfl⟩, ?_⟩)
  rintro ⟨i, last, acc⟩ ⟨hR, hi, ha⟩
  dsimp only at *
  refine Zaj 2 (H' := [rwR cFd fs, Zaq acc, hole, hole]) rfl ?_
  have ha2 : acc.length ≤ 65540000 := by omega
  refine Zf (Zg ?_)
  by_cases h1 : (i : Nat) < (n : Nat)
  refine Zk (vx := Iv (i : Nat)) (vy := Iv (n : Nat)) rfl rfl (.bool true) rfl rfl (Zcq (by omega)) ?_
  refine Za (Zb (Zf (Zz rfl (Z2 (Zb (Zf (Z9 (Zf (Zg ?_)))))))))
  refine Zbf (b := 0) (o := 0) (j := i * 2) (m := n) (c := c) (sz := 2) (i := (i : Nat)) (k := .i64) rfl rfl rfl rfl rfl (by omega) (by omega) (by omega) ?_
  refine Zl (p := pt 0 (i * 2)) (v := fdV (fs.getD i default)) rfl rfl rfl (Zkt (n := 0) (m := 2) cFd rfl rfl rfl rfl (by have := hn; omega) (by omega)) ?_
  refine Z7 (b := bxB 2 (fdC (⟨0, ⟨#[]⟩⟩ : Field))) (nid := 2) (H' := [rwR cFd fs, Zaq acc, bxB 2 (fdC (⟨0, ⟨#[]⟩⟩ : Field)), hole]) rfl rfl (by kernel_rfl) (by kernel_rfl) ?_
  refine Zx (p := pt 2 0) (v := fdV (fs.getD i default)) (b := 2) (blk := bxB 2 (fdC (fs.getD i default))) (H' := [rwR cFd fs, Zaq acc, bxB 2 (fdC (fs.getD i default)), hole]) rfl rfl rfl (by kernel_rfl) (by kernel_rfl) ?_
  refine Za (Zb (Zf (Zf (Zg ?_))))
  refine Zl (p := pt 2 0) (v := fdV (fs.getD i default)) rfl rfl rfl (by kernel_rfl) ?_
  refine Ze rfl rfl (Iv last) rfl ?_
  refine Zq (Z41 (G := G) (fs.getD i default) last) (vals := [fdV (fs.getD i default), Iv last]) (res' := Iv (Ze9 (fs.getD i default) last)) rfl rfl rfl rfl rfl rfl ?_
  refine Zc rfl rfl (Iv (Ze9 (fs.getD i default) last)) rfl (Za (Zb (Zf (Zg (Ze rfl rfl (Iv (Ze9 (fs.getD i default) last)) rfl ?_)))))
  by_cases h2 : (Ze9 (fs.getD i default) last) ≠ 0
  refine Zk (vx := Iv (Ze9 (fs.getD i default) last)) (vy := Iv 0) rfl rfl (.bool true) rfl rfl (Zdg (by omega)) ?_
  refine Za (Zb (Zz rfl (Zf (Zg (Ze rfl rfl (Iv (Ze9 (fs.getD i default) last)) rfl (Zc rfl rfl (.slice none 0 0) rfl (Zc rfl rfl (Iv (Ze9 (fs.getD i default) last)) rfl (Za (Zb ?_)))))))))
  refine Zb4 (Zbz.nilTmp (i := 2) (b := 3) true 1 rfl (by decide) rfl) ?_
  refine Zt (Z3 (Zbq (Z3 (Zc3 (Zbq (Z3 (Zu ?_)))))))
  rw [show Z8 fs 0 [] = ([], (Ze9 (fs.getD i default) last)) from Z0l hR (by omega) (by omega)]
  exact Za7 [0, 3] (v := .tuple #[slv 3 0 0 0, Iv (Ze9 (fs.getD i default) last)]) rfl (by kernel_rfl) rfl rfl (by decide) (by simp [Za9, Zaq, rwR, cFd]) ⟨⟨rfl, rfl, rfl, by first | omega | exact Nat.le_refl _ | exact Nat.zero_le _ | (dsimp only; omega), by first | omega | exact Nat.le_refl _ | exact Nat.zero_le _ | (dsimp only; omega)⟩, rfl, trivial⟩
  refine Zk (vx := Iv (Ze9 (fs.getD i default) last)) (vy := Iv 0) rfl rfl (.bool false) rfl rfl (Zc5 (by omega)) ?_
  refine Za (Zb (Zv rfl (Z2 (Zb ?_))))
  have hsz : (fs.getD i default).data.size ≤ 65536 := Zy5 (last := last) (by omega)
  refine Zmz (by kernel_rfl) ?_
  refine Ze rfl rfl (slv 1 0 acc.length acc.length) rfl ?_
  refine Zl (p := pt 2 0) (v := fdV (fs.getD i default)) rfl rfl rfl (by kernel_rfl) ?_
  refine Zct (e := [some (1, 0)]) (nid := 0) (Z2x (G := G) acc (fs.getD i default) acc.length acc.length (by first | rfl | omega) (by omega) (by omega) (by omega)) (vals := [slv 1 0 acc.length acc.length, fdV (fs.getD i default)]) (v := slv 1 0 ((acc ++ Zi9 (fs.getD i default)).length) ((acc ++ Zi9 (fs.getD i default)).length)) (H' := [rwR cFd fs, Zaq (acc ++ Zi9 (fs.getD i default)), bxB 2 (fdC (fs.getD i default)), hole]) rfl rfl rfl rfl rfl rfl ⟨⟨⟨rfl, rfl, rfl, by omega, by omega⟩, rfl, trivial⟩, ⟨(Zau rfl rfl rfl rfl), trivial⟩, rfl, rfl, rfl, Nat.le_refl _⟩ rfl rfl (by kernel_rfl) ?_
  refine Zi (b := 2) (o := 0) (n := 0) (o' := 0) rfl rfl rfl rfl rfl ?_
  refine Zl (p := pt 2 0) (v := Iv ((fs.getD i default).tag)) rfl rfl rfl (by kernel_rfl) ?_
  refine Zc rfl rfl (slv 1 0 ((acc ++ Zi9 (fs.getD i default)).length) ((acc ++ Zi9 (fs.getD i default)).length)) rfl (Zc rfl rfl (Iv ((fs.getD i default).tag)) rfl ?_)
  refine Zkm (by kernel_rfl) ?_
  refine Zab (Zb (Zg ?_))
  refine Zk (vx := Iv (i : Nat)) (vy := Iv 1) rfl rfl (Iv ((i : Nat) + 1)) rfl rfl (Zaz (by omega) (by omega) (by omega)) ?_
  refine Ze rfl rfl (Iv ((i : Nat) + 1)) rfl (Za ?_)
  refine Zas ⟨((i + 1), ((fs.getD i default).tag), (acc ++ Zi9 (fs.getD i default))), ⟨Zyc hR (by omega) (by omega), by omega, by rw [List.length_append, Zph]; omega⟩, by show n - (i + 1) < n - i; omega, ?_⟩
  refine Zal (n := 2) rfl ?_ (by kernel_rfl) (by kernel_rfl)
  repeat (first | exact trivial | refine ⟨.inl rfl, ?_⟩ | refine ⟨.inr ⟨rfl, rfl⟩, ?_⟩ | refine ⟨.inr ⟨congrArg (Value.int .i64) (by first | omega | (dsimp only; omega)), rfl⟩, ?_⟩)
  refine Zk (vx := Iv (i : Nat)) (vy := Iv (n : Nat)) rfl rfl (.bool false) rfl rfl (Zcj (by omega)) ?_
  refine Za (Zb (Zf (Zv rfl (Zbh (Zar (Za0 (Zaw rfl (Zb (Zf (Zg (Ze rfl rfl (slv 1 0 acc.length acc.length) rfl (Zc rfl rfl (slv 1 0 acc.length acc.length) rfl (Zc rfl rfl (Iv 0) rfl (Za (Zb (Zt (Zu ?_)))))))))))))))))
  rw [show Z8 fs 0 [] = (acc, 0) from by rw [← hR, List.drop_of_length_le (by omega)]; rfl]
  exact Za7 [0, 1] (v := .tuple #[slv 1 0 acc.length acc.length, Iv 0]) rfl (by kernel_rfl) rfl rfl (by decide) (by simp [Za9, Zaq, rwR, cFd]) ⟨⟨rfl, rfl, rfl, by first | omega | exact Nat.le_refl _ | exact Nat.zero_le _ | (dsimp only; omega), by first | omega | exact Nat.le_refl _ | exact Nat.zero_le _ | (dsimp only; omega)⟩, rfl, trivial⟩
end Go.Flat
