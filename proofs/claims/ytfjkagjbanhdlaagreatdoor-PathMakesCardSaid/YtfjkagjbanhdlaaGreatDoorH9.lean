/- Walks. -/
import Derived.Test.YtfjkagjbanhdlaaGreatDoorH6
import Derived.Test.YtfjkagjbanhdlaaGreatDoorFlatG
set_option linter.unusedVariables false
set_option linter.unusedSimpArgs false
set_option maxRecDepth 20000
namespace Go.Flat
open Go.Proofs
variable {G : Glob}
theorem Zly (k : Int) (s : ByteArray) : (Zeo ⟨k, s⟩).length = s.size + 4 := Zjj _
def beL : Nat → Nat → Bs → Bs
  | 0, _, l => l
  | f + 1, n, l => if n = 0 then l else beL f (n / 256) (BitVec.ofInt 8 (n : Int) :: l)
theorem Z2v (f : Nat) (l : Bs) : beL f 0 l = l := by cases f <;> simp [beL]
theorem Z01 (n : Nat) : BitVec.ofInt 8 ((n % 256 : Nat) : Int) = BitVec.ofInt 8 (n : Int) := by
 rw [BitVec.ofInt_natCast, BitVec.ofInt_natCast]
 apply BitVec.eq_of_toNat_eq
 simp
theorem Zro {a k : Nat} {s : ByteArray} {R : Bs} (hR : beL a k (bl s) = R) (hk : k < 256 ^ a) (h1 : 0 < k) (ha : s.size + a ≤ 8) :
  beL (a - 1) (k / 256) (bl (Zm [BitVec.ofInt 8 ((k % 256 : Nat) : Int)] ++ s)) = R ∧ k / 256 < 256 ^ (a - 1) ∧ (Zm [BitVec.ofInt 8 ((k % 256 : Nat) : Int)] ++ s).size + (a - 1) ≤ 8 := by
 obtain ⟨b, rfl⟩ : ∃ b, a = b + 1 := ⟨a - 1, by have := Zmz hk h1; omega⟩
 refine ⟨?_, ?_, ?_⟩
 ·rw [beL, if_neg (by omega)] at hR
  rw [Zlz, Zrb, Z01]; exact hR
 ·rw [Nat.pow_succ] at hk; exact Nat.div_lt_of_lt_mul (by rw [Nat.add_sub_cancel]; omega)
 ·rw [ByteArray.size_append, Za1]; simp; omega
theorem Zsb (b : D) (a : Nat) (x : BitVec 8) (h : a < 8) : (Zih 8 (Zfg b a x)).drop a = x :: (Zih 8 b).drop (a + 1) := by
 apply List.ext_getElem?
 intro i
 cases i with
 | zero => simp [Zih, Zfg, h]
 | succ i =>
  simp only [List.getElem?_drop, List.getElem?_cons_succ, Zih, List.getElem?_map]
  by_cases hi : a + 1 + i < 8
  ·rw [show a + (i + 1) = a + 1 + i by omega, List.getElem?_range hi]
   simp only [Option.map_some, Zfg]
   rw [if_neg (by omega)]
  ·rw [show a + (i + 1) = a + 1 + i by omega, List.getElem?_eq_none (by simp; omega)]; rfl
theorem Zwk : ∀ (a n : Nat) (b : D), a ≤ 8 → Zks a n a b = beL a n ((Zih 8 b).drop a)
 | 0, n, b, _ => by rw [Zks, beL]
 | a + 1, n, b, h => by
  rw [Zks, beL]
  split
  ·rfl
  ·rw [Nat.add_sub_cancel, Zwk a _ _ (by omega), Zsb b a _ (by omega)]
theorem Z5v (m : Nat) : Zks 8 m 8 dz = beL 8 m [] := by
 rw [Zwk 8 m dz (by omega), List.drop_of_length_le (by rw [Zjh]; omega)]
def Zrl : Nat → List ByteArray → Bs
  | _, [] => []
  | k, x :: l => Zeo ⟨(k : Int) + 1, x⟩ ++ Zrl (k + 1) l
theorem Z1l {ls : List ByteArray} {i : Nat} {acc R : Bs} (hR : acc ++ Zrl i (ls.drop i) = R) (hi : i < ls.length) : (acc ++ Zeo ⟨(i : Int) + 1, ls.getD i ⟨#[]⟩⟩) ++ Zrl (i + 1) (ls.drop (i + 1)) = R := by
 have e : ls.drop i = ls.getD i ⟨#[]⟩ :: ls.drop (i + 1) := by
  rw [List.drop_eq_getElem_cons hi, List.getD_eq_getElem?_getD, List.getElem?_eq_getElem hi]; rfl
 rw [e, Zrl] at hR
 rw [← hR, List.append_assoc]
theorem Z05 {f : Field} {last : Int} (h1 : last < f.tag) (h2 : f.tag ≤ 255) (h3 : f.data.size ≤ 65536) : Zfp f last = 0 := by
 unfold Zfp
 rw [if_neg (by omega), if_neg (by omega), if_neg (by omega)]
theorem Zlo : ∀ (ls : List ByteArray) (k : Nat) (acc : Bs), k + ls.length ≤ 255 → (∀ x, x ∈ ls → x.size ≤ 65536) → Z9 (Zhn k ls) (k : Nat) acc = (acc ++ Zrl k ls, 0)
 | [], k, acc, _, _ => by simp [Z9, Zhn, Zrl]
 | x :: l, k, acc, h, hs => by
  simp only [List.length_cons] at h
  rw [Zhn, Z9, if_pos (Z05 (by dsimp only; omega) (by dsimp only; omega) (hs x (by simp))), Zrl]
  have := Zlo l (k + 1) (acc ++ Zeo ⟨(k : Int) + 1, x⟩) (by omega) (fun y hy => hs y (by simp [hy]))
  rw [show ((k + 1 : Nat) : Int) = (k : Int) + 1 by omega] at this
  rw [this, List.append_assoc]
theorem Z3n (ls : List ByteArray) (h : ls.length ≤ 255) (hs : ∀ x, x ∈ ls → x.size ≤ 65536) : Zai ls = Zrl 0 ls := by
 have := Zlo ls 0 [] (by omega) hs
 unfold Zai
 rw [show (0 : Int) = ((0 : Nat) : Int) from rfl, this, List.nil_append]
theorem Z14 {ls : List ByteArray} {m : Nat} (hs : ∀ x, x ∈ ls → x.size ≤ m) (i : Nat) : (ls.getD i ⟨#[]⟩).size ≤ m := by
 rw [List.getD_eq_getElem?_getD]
 cases h : ls[i]? with
 | none => show 0 ≤ m; omega
 | some x => exact hs x (List.mem_of_getElem? h)
theorem Zuu (n : Int) (hl : -9223372036854775808 ≤ n) (hh : n ≤ 9223372036854775807) : Z6 Tryz.prog G 122 [Iv n] [] (.tuple #[.string (Zn n).1, Iv (Zn n).2]) [] := by
  refine Za8 (fn := Tryz.f122) (nt := 23) rfl rfl rfl rfl ?_
  refine Zf (Zg (Zb (.string ⟨#[]⟩) (Zb (Iv 0) (Za (Zc (Zf (Zf (Zg (Zd (Iv n) ?_)))))))))
  by_cases h1 : n < 0
  refine Zl (vx := Iv n) (vy := Iv 0) rfl rfl (.bool true) rfl rfl (Zcc (by omega)) ?_
  refine Zd (.bool true) (Ze (Ze (Zi (.bool true) (Za (Zc (Zx rfl (Zf (Zg (Zb (.string ⟨#[]⟩) (Zb (Iv 1) (Za (Zc (Zq (Zz (Zr ?_)))))))))))))))
  rw [show Zn n = (⟨#[]⟩, 1) from if_neg (by omega)]
  exact Zk (v := .tuple #[.string ⟨#[]⟩, Iv 1]) rfl rfl rfl (by kernel_rfl) ⟨rfl, rfl, trivial⟩
  refine Zl (vx := Iv n) (vy := Iv 0) rfl rfl (.bool false) rfl rfl (Zb5 (by omega)) ?_
  refine Zd (.bool false) (Zd (Iv n) ?_)
  by_cases h2 : 4611686018427387903 < n
  refine Zl (vx := Iv n) (vy := Iv 4611686018427387903) rfl rfl (.bool true) rfl rfl (Zes (by omega)) ?_
  refine Zi (.bool true) (Za (Zc (Zx rfl (Zf (Zg (Zb (.string ⟨#[]⟩) (Zb (Iv 1) (Za (Zc (Zq (Zz (Zr ?_))))))))))))
  rw [show Zn n = (⟨#[]⟩, 1) from if_neg (by omega)]
  exact Zk (v := .tuple #[.string ⟨#[]⟩, Iv 1]) rfl rfl rfl (by kernel_rfl) ⟨rfl, rfl, trivial⟩
  refine Zl (vx := Iv n) (vy := Iv 4611686018427387903) rfl rfl (.bool false) rfl rfl (Zeq (by omega)) ?_
  refine Zi (.bool false) (Za (Zc (Zu rfl (Z0 (Zc (Zf ?_))))))
  obtain ⟨m, rfl⟩ : ∃ x0 : Nat, n = (x0 : Int) := ⟨n.toNat, by omega⟩
  refine Zg (Zb (.string ⟨#[]⟩) (Za (Zc (Zf (Z1 ?_)))))
  refine Zbg (fun x : Nat × Nat × ByteArray => match x with | (k, a, s) => [Iv (k : Nat), dead, .string ⟨#[]⟩, Iv 0, .string s, Iv (m : Nat), .bool false, .bool false, Iv (m : Nat), .bool false, .bool false]) (fun x : Nat × Nat × ByteArray => match x with | (k, a, s) => []) (fun x : Nat × Nat × ByteArray => match x with | (k, a, s) => beL a k (bl s) = beL 8 m [] ∧ k < 256 ^ a ∧ s.size + a ≤ 8 ∧ k ≤ m) (fun x : Nat × Nat × ByteArray => match x with | (k, a, s) => a) (m, 8, ⟨#[]⟩) ⟨rfl, by omega, by show 0 + 8 ≤ 8; omega, by omega⟩ ?_ ?_
  · refine Z5 (n := 0) rfl ?_ (by kernel_rfl) (by kernel_rfl)
    repeat (first | exact trivial | refine ⟨.inl rfl, ?_⟩ | refine ⟨.inr ⟨rfl, rfl⟩, ?_⟩ | refine ⟨.inr ⟨congrArg (Value.int .i64) (by first | omega | (dsimp only; omega)), rfl⟩, ?_⟩)
  rintro ⟨k, a, s⟩ ⟨hR, hk, ha, hkm⟩
  dsimp only at *
  refine Zaa 1 (H' := [hole]) rfl ?_
  refine Zf (Zf (Zg (Zd (Iv (k : Nat)) ?_)))
  by_cases h3 : 0 < (k : Nat)
  refine Zl (vx := Iv (k : Nat)) (vy := Iv 0) rfl rfl (.bool true) rfl rfl (Zes (by omega)) ?_
  refine Za (Zc (Zx rfl (Z0 (Zc (Z1 (Zf (Zg (Zd (Iv (k : Nat)) ?_))))))))
  refine Zl (vx := Iv (k : Nat)) (vy := Iv 256) rfl rfl (Iv (((k % 256) : Nat) : Int)) rfl rfl (Zt7 (Zq0 (by omega) (by omega)) (congrArg (Value.int .i64) (by omega))) ?_
  refine Zc6 (w := Iv (((k % 256) : Nat) : Int)) (v := w8 (BitVec.ofInt 8 (((k % 256) : Nat) : Int))) rfl rfl rfl (Zfl rfl rfl rfl) ?_
  refine Zdb (vs := [(0, w8 (BitVec.ofInt 8 (((k % 256) : Nat) : Int)))]) (v := slv 0 0 1 1) (blk := Zah [(BitVec.ofInt 8 (((k % 256) : Nat) : Int))]) (nid := 0) (H' := [Zah [(BitVec.ofInt 8 (((k % 256) : Nat) : Int))]]) rfl rfl rfl (by kernel_rfl) (by kernel_rfl) ?_
  refine Ze2 (p := slv 0 0 1 1) (v := .string (Zm [(BitVec.ofInt 8 (((k % 256) : Nat) : Int))])) rfl rfl rfl (Zdu rfl rfl rfl rfl rfl (by have := (rfl : _ = 1); omega)) ?_
  refine Zd (.string s) ?_
  refine Zl (vx := .string (Zm [(BitVec.ofInt 8 (((k % 256) : Nat) : Int))])) (vy := .string s) rfl rfl (.string ((Zm [(BitVec.ofInt 8 (((k % 256) : Nat) : Int))]) ++ s)) rfl rfl (Zhc (by simp only [ByteArray.size_append, Za1, List.length_cons, List.length_nil]; omega)) ?_
  refine Zb (.string ((Zm [(BitVec.ofInt 8 (((k % 256) : Nat) : Int))]) ++ s)) (Za (Zc (Zg (Zd (Iv (k : Nat)) ?_))))
  refine Zl (vx := Iv (k : Nat)) (vy := Iv 256) rfl rfl (Iv (((k / 256) : Nat) : Int)) rfl rfl (Zt7 (Zs1 (by omega) (by omega) (by omega)) (congrArg (Value.int .i64) (by omega))) ?_
  refine Zb (Iv (((k / 256) : Nat) : Int)) (Za (Z4 ?_))
  refine Zao ⟨((k / 256), (a - 1), ((Zm [(BitVec.ofInt 8 (((k % 256) : Nat) : Int))]) ++ s)), ⟨(Zro hR hk (by omega) ha).1, (Zro hR hk (by omega) ha).2.1, (Zro hR hk (by omega) ha).2.2, by dsimp only; omega⟩, by show a - 1 < a; have := Zmz hk (by omega); omega, ?_⟩
  refine Z5 (n := 0) rfl ?_ (by kernel_rfl) (by kernel_rfl)
  repeat (first | exact trivial | refine ⟨.inl rfl, ?_⟩ | refine ⟨.inr ⟨rfl, rfl⟩, ?_⟩ | refine ⟨.inr ⟨congrArg (Value.int .i64) (by first | omega | (dsimp only; omega)), rfl⟩, ?_⟩)
  refine Zl (vx := Iv (k : Nat)) (vy := Iv 0) rfl rfl (.bool false) rfl rfl (Zeq (by omega)) ?_
  refine Za (Zc (Zu rfl (Zbb (Zaq (Zau (Zax rfl (Zc (Zf (Zg (Zd (.string s) (Zb (.string s) (Zb (Iv 0) (Za (Zc (Zq (Zr ?_))))))))))))))))
  have e : Zn (m : Nat) = (s, 0) := by
    rw [show Zn (m : Nat) = (Zm (Zks 8 m 8 dz), 0) from if_pos (by omega), Z5v, ← hR]
    obtain rfl : k = 0 := by omega
    rw [Z2v, Zu1]
  rw [e]
  exact Zk (v := .tuple #[.string s, Iv 0]) rfl rfl rfl (by kernel_rfl) ⟨rfl, rfl, trivial⟩
theorem Zd4 (n : Int) (hl : -9223372036854775808 ≤ n) (hh : n ≤ 9223372036854775807) : Z6 Tryz.prog G 110 [Iv n] [] (.string (Zn n).1) [] := by
 refine Za8 (fn := Tryz.f110) (nt := 11) rfl rfl rfl rfl ?_
 refine Zf (Zg (Zb (.string ⟨#[]⟩) (Za (Zc (Zf (Zg (Zd (Iv n) ?_)))))))
 refine Zo (Zuu (G := G) n (by omega) (by omega)) (vals := [Iv n]) (res' := .tuple #[.string ((Zn n).1), Iv ((Zn n).2)]) rfl rfl rfl rfl rfl (by kernel_rfl) ?_
 refine Zd (.tuple #[.string ((Zn n).1), Iv ((Zn n).2)]) (Zw (vs := #[.string ((Zn n).1), Iv ((Zn n).2)]) (v := .string ((Zn n).1)) (Zw (vs := #[.string ((Zn n).1), Iv ((Zn n).2)]) (v := Iv ((Zn n).2)) (Zb (.string ((Zn n).1)) (Zb (Iv ((Zn n).2)) (Za (Zc (Zf (Zg (Zd (.string ((Zn n).1)) (Zb (.string ((Zn n).1)) (Za (Zc (Zq (Zr ?_))))))))))))))
 exact Zk (v := .string ((Zn n).1)) rfl rfl rfl (by kernel_rfl) rfl
theorem Zsv (k : Int) (s : ByteArray) (hs : s.size ≤ 65536) : Z6 Tryz.prog G 121 [Iv k, .string s] [] (slv 0 0 (s.size + 4) (s.size + 4)) [Zah (Zeo ⟨k, s⟩)] := by
  refine Za8 (fn := Tryz.f121) (nt := 24) rfl rfl rfl rfl ?_
  refine Zaa 1 (H' := [hole]) rfl ?_
  refine Zf (Zg (Zb (.slice none 0 0) (Za (Zc (Zf (Zg (Zd (.string s) (Zcu (p := .string s) (v := Iv (s.size : Nat)) (Zb (Iv (s.size : Nat)) (Za (Zc (Zf (Zg (Zd (Iv k) ?_))))))))))))))
  refine Zc6 (w := Iv k) (v := w8 (BitVec.ofInt 8 k)) rfl rfl rfl (Zfl rfl rfl rfl) ?_
  refine Zd (Iv (s.size : Nat)) ?_
  refine Zl (vx := Iv (s.size : Nat)) (vy := Iv 65536) rfl rfl (Iv (((s.size / 65536) : Nat) : Int)) rfl rfl (Zt7 (Zs1 (by omega) (by omega) (by omega)) (congrArg (Value.int .i64) (by omega))) ?_
  refine Zc6 (w := Iv (((s.size / 65536) : Nat) : Int)) (v := w8 (BitVec.ofInt 8 (((s.size / 65536) : Nat) : Int))) rfl rfl rfl (Zfl rfl rfl rfl) ?_
  refine Zd (Iv (s.size : Nat)) ?_
  refine Zl (vx := Iv (s.size : Nat)) (vy := Iv 256) rfl rfl (Iv (((s.size / 256) : Nat) : Int)) rfl rfl (Zt7 (Zs1 (by omega) (by omega) (by omega)) (congrArg (Value.int .i64) (by omega))) ?_
  refine Zc6 (w := Iv (((s.size / 256) : Nat) : Int)) (v := w8 (BitVec.ofInt 8 (((s.size / 256) : Nat) : Int))) rfl rfl rfl (Zfl rfl rfl rfl) ?_
  refine Zd (Iv (s.size : Nat)) ?_
  refine Zc6 (w := Iv (s.size : Nat)) (v := w8 (BitVec.ofInt 8 (s.size : Nat))) rfl rfl rfl (Zfl rfl rfl rfl) ?_
  refine Zdb (vs := [(0, w8 (BitVec.ofInt 8 k)), (1, w8 (BitVec.ofInt 8 (((s.size / 65536) : Nat) : Int))), (2, w8 (BitVec.ofInt 8 (((s.size / 256) : Nat) : Int))), (3, w8 (BitVec.ofInt 8 (s.size : Nat)))]) (v := slv 0 0 4 4) (blk := Zah [(BitVec.ofInt 8 k), (BitVec.ofInt 8 (((s.size / 65536) : Nat) : Int)), (BitVec.ofInt 8 (((s.size / 256) : Nat) : Int)), (BitVec.ofInt 8 (s.size : Nat))]) (nid := 0) (H' := [Zah [(BitVec.ofInt 8 k), (BitVec.ofInt 8 (((s.size / 65536) : Nat) : Int)), (BitVec.ofInt 8 (((s.size / 256) : Nat) : Int)), (BitVec.ofInt 8 (s.size : Nat))]]) rfl rfl rfl (by kernel_rfl) (by kernel_rfl) ?_
  refine Zb (slv 0 0 4 4) (Za (Zc (Zf (Zg (Zd (slv 0 0 4 4) (Zd (.string s) ?_))))))
  have hl2 : ([(BitVec.ofInt 8 k), (BitVec.ofInt 8 (((s.size / 65536) : Nat) : Int)), (BitVec.ofInt 8 (((s.size / 256) : Nat) : Int)), (BitVec.ofInt 8 (s.size : Nat))] ++ (bl s)).length = s.size + 4 := by have := (rfl : _ = 4); have := (Zht s); first | (rw [List.length_append]; omega) | (simp; omega) | simp
  refine Zbp (p := slv 0 0 4 4) (q := .string s) (v := slv 0 0 (s.size + 4) (s.size + 4)) (b := 0) (blk := Zah ([(BitVec.ofInt 8 k), (BitVec.ofInt 8 (((s.size / 65536) : Nat) : Int)), (BitVec.ofInt 8 (((s.size / 256) : Nat) : Int)), (BitVec.ofInt 8 (s.size : Nat))] ++ (bl s))) (H' := [Zah ([(BitVec.ofInt 8 k), (BitVec.ofInt 8 (((s.size / 65536) : Nat) : Int)), (BitVec.ofInt 8 (((s.size / 256) : Nat) : Int)), (BitVec.ofInt 8 (s.size : Nat))] ++ (bl s))]) rfl rfl rfl (.inr rfl) rfl rfl (Zhj (by_ := 1) (n' := s.size + 4) rfl rfl (rfl : Zgh _ 1 (.string _) = some (_, Zfa _)) (Zjp _) rfl (by have := (rfl : _ = 4); omega) (by omega) (by decide) (by omega)) rfl (by kernel_rfl) ?_
  refine Zb (slv 0 0 (s.size + 4) (s.size + 4)) (Za (Zc (Zf (Zg (Zd (slv 0 0 (s.size + 4) (s.size + 4)) (Zb (slv 0 0 (s.size + 4) (s.size + 4)) (Za (Zc (Zq (Zr ?_))))))))))
  exact Zav [0] (v := slv 0 0 (s.size + 4) (s.size + 4)) rfl (by kernel_rfl) rfl rfl (by decide) (by simp [Za0, Zah]) ⟨rfl, rfl, rfl, by first | omega | exact Nat.le_refl _ | exact Nat.zero_le _ | (dsimp only; omega), by first | omega | exact Nat.le_refl _ | exact Nat.zero_le _ | (dsimp only; omega)⟩
theorem Zl3 (ls : List ByteArray) (n c : Nat) (hn : ls.length = n) (hc : n ≤ c) (hb : n ≤ 255) (hs : ∀ x, x ∈ ls → x.size ≤ 65536) : Z6 Tryz.prog G 109 [slv 0 0 n c] [Zh1 ls] (slv 1 0 (Zai ls).length (Zai ls).length) [Zh1 ls, Zah (Zai ls)] := by
  refine Za8 (fn := Tryz.f109) (nt := 23) rfl rfl rfl rfl ?_
  refine Zaa 1 (H' := [Zh1 ls, hole]) rfl ?_
  refine Zf (Zg (Zb (.slice none 0 0) (Za (Zc (Zf (Zg (Zb (.slice none 0 0) (Za (Zc (Zf (Zf ?_)))))))))))
  refine Zbo (Zb6.nilTmp (i := 3) (b := 1) true 1 rfl (by decide) rfl) ?_
  refine Zg (Zb (Iv 0) (Za (Zc (Z1 ?_))))
  refine Zbg (fun x : Nat × Bs => match x with | (i, acc) => [slv 0 0 n c, dead, .slice none 0 0, slv 1 0 acc.length acc.length, Iv (i : Nat)]) (fun x : Nat × Bs => match x with | (i, acc) => [Zh1 ls, Zah acc]) (fun x : Nat × Bs => match x with | (i, acc) => acc ++ Zrl i (ls.drop i) = Zrl 0 ls ∧ i ≤ n ∧ acc.length ≤ i * 65540) (fun x : Nat × Bs => match x with | (i, acc) => n - i) (0, []) ⟨rfl, by omega, by simp⟩ ?_ ?_
  · refine Z5 (n := 2) rfl ?_ (by kernel_rfl) (by kernel_rfl)
    repeat (first | exact trivial | refine ⟨.inl rfl, ?_⟩ | refine ⟨.inr ⟨rfl, rfl⟩, ?_⟩ | refine ⟨.inr ⟨congrArg (Value.int .i64) (by first | omega | (dsimp only; omega)), rfl⟩, ?_⟩)
  rintro ⟨i, acc⟩ ⟨hR, hi, ha⟩
  dsimp only at *
  refine Zaa 1 (H' := [Zh1 ls, Zah acc, hole]) rfl ?_
  have ha2 : acc.length ≤ 65540000 := by omega
  refine Zf (Zf (Zg (Zd (Iv (i : Nat)) (Zd (slv 0 0 n c) (Zcu (p := slv 0 0 n c) (v := Iv (n : Nat)) ?_)))))
  by_cases h1 : (i : Nat) < (n : Nat)
  refine Zl (vx := Iv (i : Nat)) (vy := Iv (n : Nat)) rfl rfl (.bool true) rfl rfl (Zcc (by omega)) ?_
  refine Za (Zc (Zx rfl (Z0 (Zc (Zf (Z1 (Zf ?_)))))))
  have hsz : (ls.getD i ⟨#[]⟩).size ≤ 65536 := Z14 hs i
  refine Zg (Zd (Iv (i : Nat)) ?_)
  refine Zl (vx := Iv (i : Nat)) (vy := Iv 1) rfl rfl (Iv ((i : Nat) + 1)) rfl rfl (Za3 (by omega) (by omega) (by omega)) ?_
  refine Zd (slv 0 0 n c) (Zd (Iv (i : Nat)) ?_)
  refine Zbe (b := 0) (o := 0) (j := i) (m := n) (c := c) (sz := 1) (i := (i : Nat)) (k := .i64) rfl rfl rfl rfl rfl (by omega) (by omega) (by omega) ?_
  refine Zad (p := pt 0 i) (v := .string (ls.getD i ⟨#[]⟩)) rfl rfl rfl (Z0i rfl rfl rfl (by have := hn; omega)) ?_
  refine Z2 (e := []) (nid := 2) (Zsv (G := G) ((i : Nat) + 1) (ls.getD i ⟨#[]⟩) (by omega)) (vals := [Iv ((i : Nat) + 1), .string (ls.getD i ⟨#[]⟩)]) (v := slv 2 0 (((ls.getD i ⟨#[]⟩).size) + 4) (((ls.getD i ⟨#[]⟩).size) + 4)) (H' := [Zh1 ls, Zah acc, Zah (Zeo ⟨(i : Nat) + 1, (ls.getD i ⟨#[]⟩)⟩)]) rfl rfl rfl rfl rfl rfl rfl ⟨⟨rfl, rfl, trivial⟩, trivial, rfl, rfl, rfl⟩ (by kernel_rfl) (by kernel_rfl) ?_
  refine Zb (slv 2 0 (((ls.getD i ⟨#[]⟩).size) + 4) (((ls.getD i ⟨#[]⟩).size) + 4)) (Za (Zc (Zg (Zd (slv 1 0 acc.length acc.length) (Zd (slv 2 0 (((ls.getD i ⟨#[]⟩).size) + 4) (((ls.getD i ⟨#[]⟩).size) + 4)) ?_)))))
  have hl2 : (acc ++ (Zeo ⟨(i : Nat) + 1, (ls.getD i ⟨#[]⟩)⟩)).length = acc.length + ((ls.getD i ⟨#[]⟩).size) + 4 := by have := (Zly ((i : Nat) + 1) (ls.getD i ⟨#[]⟩)); first | (rw [List.length_append]; omega) | (simp; omega) | simp
  refine Zbp (p := slv 1 0 acc.length acc.length) (q := slv 2 0 (((ls.getD i ⟨#[]⟩).size) + 4) (((ls.getD i ⟨#[]⟩).size) + 4)) (v := slv 1 0 ((acc ++ (Zeo ⟨(i : Nat) + 1, (ls.getD i ⟨#[]⟩)⟩)).length) ((acc ++ (Zeo ⟨(i : Nat) + 1, (ls.getD i ⟨#[]⟩)⟩)).length)) (b := 1) (blk := Zah (acc ++ (Zeo ⟨(i : Nat) + 1, (ls.getD i ⟨#[]⟩)⟩))) (H' := [Zh1 ls, Zah (acc ++ (Zeo ⟨(i : Nat) + 1, (ls.getD i ⟨#[]⟩)⟩)), Zah (Zeo ⟨(i : Nat) + 1, (ls.getD i ⟨#[]⟩)⟩)]) rfl rfl rfl (.inl ⟨_, rfl⟩) rfl rfl (Zhj (by_ := 1) (n' := ((acc ++ (Zeo ⟨(i : Nat) + 1, (ls.getD i ⟨#[]⟩)⟩)).length)) rfl rfl (Zqv rfl rfl (by have := (Zly ((i : Nat) + 1) (ls.getD i ⟨#[]⟩)); omega)) rfl rfl (by omega) (by omega) (by decide) (by omega)) rfl (by kernel_rfl) ?_
  refine Zb (slv 1 0 ((acc ++ (Zeo ⟨(i : Nat) + 1, (ls.getD i ⟨#[]⟩)⟩)).length) ((acc ++ (Zeo ⟨(i : Nat) + 1, (ls.getD i ⟨#[]⟩)⟩)).length)) (Za (Z4 (Zc (Zg (Zd (Iv (i : Nat)) ?_)))))
  refine Zl (vx := Iv (i : Nat)) (vy := Iv 1) rfl rfl (Iv ((i : Nat) + 1)) rfl rfl (Za3 (by omega) (by omega) (by omega)) ?_
  refine Zb (Iv ((i : Nat) + 1)) (Za ?_)
  refine Zao ⟨((i + 1), (acc ++ (Zeo ⟨(i : Nat) + 1, (ls.getD i ⟨#[]⟩)⟩))), ⟨Z1l hR (by omega), by omega, by rw [List.length_append, Zjj]; dsimp only; omega⟩, by show n - (i + 1) < n - i; omega, ?_⟩
  refine Z5 (n := 2) rfl ?_ (by kernel_rfl) (by kernel_rfl)
  repeat (first | exact trivial | refine ⟨.inl rfl, ?_⟩ | refine ⟨.inr ⟨rfl, rfl⟩, ?_⟩ | refine ⟨.inr ⟨congrArg (Value.int .i64) (by first | omega | (dsimp only; omega)), rfl⟩, ?_⟩)
  refine Zl (vx := Iv (i : Nat)) (vy := Iv (n : Nat)) rfl rfl (.bool false) rfl rfl (Zb5 (by omega)) ?_
  refine Za (Zc (Zu rfl (Zbb (Zaq (Zau (Zax rfl (Zc (Zf (Zg (Zd (slv 1 0 acc.length acc.length) (Zb (slv 1 0 acc.length acc.length) (Za (Zc (Zq (Zr ?_)))))))))))))))
  rw [show Zai ls = acc from by rw [Z3n ls (by omega) hs, ← hR, List.drop_of_length_le (by omega)]; simp [Zrl]]
  exact Zav [0, 1] (v := slv 1 0 acc.length acc.length) rfl (by kernel_rfl) rfl rfl (by decide) (by simp [Za0, Zah, Zh1]) ⟨rfl, rfl, rfl, by first | omega | exact Nat.le_refl _ | exact Nat.zero_le _ | (dsimp only; omega), by first | omega | exact Nat.le_refl _ | exact Nat.zero_le _ | (dsimp only; omega)⟩
theorem Zcg (n low high : Int) : Z6 Tryz.prog G 42 [Iv n, Iv low, Iv high] [] (.bool (Zcx n low high)) [] := by
 refine Za8 (fn := Tryz.f42) (nt := 15) rfl rfl rfl rfl ?_
 refine Zf (Zg (Zb (.bool false) (Za (Zc (Zf (Zg (Zd (Iv n) (Zd (Iv low) ?_))))))))
 by_cases h1 : low ≤ n
 refine Zl (vx := Iv n) (vy := Iv low) rfl rfl (.bool true) rfl rfl (Zgm (by omega)) ?_
 refine Zd (.bool true) (Zd (Iv n) (Zd (Iv high) ?_))
 by_cases h2 : n ≤ high
 refine Zl (vx := Iv n) (vy := Iv high) rfl rfl (.bool true) rfl rfl (Zo5 (by omega)) ?_
 refine Zi (.bool true) (Zb (.bool true) (Za (Zc (Zq (Zr ?_)))))
 rw [show Zcx n low high = true from Zbc (by omega) (by omega)]
 exact Zk (v := .bool true) rfl rfl rfl (by kernel_rfl) rfl
 refine Zl (vx := Iv n) (vy := Iv high) rfl rfl (.bool false) rfl rfl (Znp (by omega)) ?_
 refine Zi (.bool false) (Zb (.bool false) (Za (Zc (Zq (Zr ?_)))))
 rw [show Zcx n low high = false from Z8 (by omega)]
 exact Zk (v := .bool false) rfl rfl rfl (by kernel_rfl) rfl
 refine Zl (vx := Iv n) (vy := Iv low) rfl rfl (.bool false) rfl rfl (Zg1 (by omega)) ?_
 refine Zd (.bool false) (Ze (Ze (Ze (Zi (.bool false) (Zb (.bool false) (Za (Zc (Zq (Zr ?_)))))))))
 rw [show Zcx n low high = false from Z8 (by omega)]
 exact Zk (v := .bool false) rfl rfl rfl (by kernel_rfl) rfl
theorem Zuz (h : Head) : Z6 Tryz.prog G 41 [Zcd h] [] (.bool (decide (Zcj h))) [] := by
 refine Za8 (fn := Tryz.f41) (nt := 21) rfl rfl rfl rfl ?_
 refine Zaa 1 (H' := [hole]) rfl ?_
 refine Zf (Zg (Zbq (v := Zcd h) (b := bxB 36 (Zcz h)) (nid := 0) (H' := [bxB 36 (Zcz h)]) (Zb (.bool false) (Za (Zc (Zf (Zg (Zh (b := 0) (o := 0) (n := 0) (o' := 0) (Zp (p := pt 0 0) (v := Iv h.region) ?_)))))))))
 by_cases h1 : 1 ≤ h.region
 by_cases h2 : h.region ≤ 5
 refine Zo ((Zcg (G := G) h.region 1 5).res (congrArg Value.bool (Zbc (by omega) (by omega)))) (vals := [Iv h.region, Iv 1, Iv 5]) (res' := .bool true) rfl rfl rfl rfl rfl rfl ?_
 refine Zd (.bool true) (Zh (b := 0) (o := 0) (n := 1) (o' := 1) (Zp (p := pt 0 1) (v := Iv h.epoch) ?_))
 by_cases h3 : 1 ≤ h.epoch
 by_cases h4 : h.epoch ≤ 900000000
 refine Zo ((Zcg (G := G) h.epoch 1 900000000).res (congrArg Value.bool (Zbc (by omega) (by omega)))) (vals := [Iv h.epoch, Iv 1, Iv 900000000]) (res' := .bool true) rfl rfl rfl rfl rfl rfl ?_
 refine Zi (.bool true) (Zd (.bool true) (Zh (b := 0) (o := 0) (n := 2) (o' := 2) (Zp (p := pt 0 2) (v := Iv h.size) ?_)))
 by_cases h5 : 0 ≤ h.size
 by_cases h6 : h.size ≤ 100000
 refine Zo ((Zcg (G := G) h.size 0 100000).res (congrArg Value.bool (Zbc (by omega) (by omega)))) (vals := [Iv h.size, Iv 0, Iv 100000]) (res' := .bool true) rfl rfl rfl rfl rfl rfl ?_
 refine Zi (.bool true) (Zd (.bool true) (Zh (b := 0) (o := 0) (n := 35) (o' := 35) (Zp (p := pt 0 35) (v := Iv h.tick) ?_)))
 by_cases h7 : 0 ≤ h.tick
 by_cases h8 : h.tick ≤ 900000000
 refine Zo ((Zcg (G := G) h.tick 0 900000000).res (congrArg Value.bool (Zbc (by omega) (by omega)))) (vals := [Iv h.tick, Iv 0, Iv 900000000]) (res' := .bool true) rfl rfl rfl rfl rfl rfl ?_
 refine Zi (.bool true) (Zb (.bool true) (Za (Zc (Zq (Zr ?_)))))
 rw [show decide (Zcj h) = true from decide_eq_true (by unfold Zcj; omega)]
 exact Zk (v := .bool true) rfl rfl rfl (by kernel_rfl) rfl
 refine Zo ((Zcg (G := G) h.tick 0 900000000).res (congrArg Value.bool (Z8 (by omega)))) (vals := [Iv h.tick, Iv 0, Iv 900000000]) (res' := .bool false) rfl rfl rfl rfl rfl rfl ?_
 refine Zi (.bool false) (Zb (.bool false) (Za (Zc (Zq (Zr ?_)))))
 rw [show decide (Zcj h) = false from decide_eq_false (by unfold Zcj; omega)]
 exact Zk (v := .bool false) rfl rfl rfl (by kernel_rfl) rfl
 refine Zo ((Zcg (G := G) h.tick 0 900000000).res (congrArg Value.bool (Z8 (by omega)))) (vals := [Iv h.tick, Iv 0, Iv 900000000]) (res' := .bool false) rfl rfl rfl rfl rfl rfl ?_
 refine Zi (.bool false) (Zb (.bool false) (Za (Zc (Zq (Zr ?_)))))
 rw [show decide (Zcj h) = false from decide_eq_false (by unfold Zcj; omega)]
 exact Zk (v := .bool false) rfl rfl rfl (by kernel_rfl) rfl
 refine Zo ((Zcg (G := G) h.size 0 100000).res (congrArg Value.bool (Z8 (by omega)))) (vals := [Iv h.size, Iv 0, Iv 100000]) (res' := .bool false) rfl rfl rfl rfl rfl rfl ?_
 refine Zi (.bool false) (Zd (.bool false) (Ze (Ze (Ze (Zi (.bool false) (Zb (.bool false) (Za (Zc (Zq (Zr ?_))))))))))
 rw [show decide (Zcj h) = false from decide_eq_false (by unfold Zcj; omega)]
 exact Zk (v := .bool false) rfl rfl rfl (by kernel_rfl) rfl
 refine Zo ((Zcg (G := G) h.size 0 100000).res (congrArg Value.bool (Z8 (by omega)))) (vals := [Iv h.size, Iv 0, Iv 100000]) (res' := .bool false) rfl rfl rfl rfl rfl rfl ?_
 refine Zi (.bool false) (Zd (.bool false) (Ze (Ze (Ze (Zi (.bool false) (Zb (.bool false) (Za (Zc (Zq (Zr ?_))))))))))
 rw [show decide (Zcj h) = false from decide_eq_false (by unfold Zcj; omega)]
 exact Zk (v := .bool false) rfl rfl rfl (by kernel_rfl) rfl
 refine Zo ((Zcg (G := G) h.epoch 1 900000000).res (congrArg Value.bool (Z8 (by omega)))) (vals := [Iv h.epoch, Iv 1, Iv 900000000]) (res' := .bool false) rfl rfl rfl rfl rfl rfl ?_
 refine Zi (.bool false) (Zd (.bool false) (Ze (Ze (Ze (Zi (.bool false) (Zd (.bool false) (Ze (Ze (Ze (Zi (.bool false) (Zb (.bool false) (Za (Zc (Zq (Zr ?_)))))))))))))))
 rw [show decide (Zcj h) = false from decide_eq_false (by unfold Zcj; omega)]
 exact Zk (v := .bool false) rfl rfl rfl (by kernel_rfl) rfl
 refine Zo ((Zcg (G := G) h.epoch 1 900000000).res (congrArg Value.bool (Z8 (by omega)))) (vals := [Iv h.epoch, Iv 1, Iv 900000000]) (res' := .bool false) rfl rfl rfl rfl rfl rfl ?_
 refine Zi (.bool false) (Zd (.bool false) (Ze (Ze (Ze (Zi (.bool false) (Zd (.bool false) (Ze (Ze (Ze (Zi (.bool false) (Zb (.bool false) (Za (Zc (Zq (Zr ?_)))))))))))))))
 rw [show decide (Zcj h) = false from decide_eq_false (by unfold Zcj; omega)]
 exact Zk (v := .bool false) rfl rfl rfl (by kernel_rfl) rfl
 refine Zo ((Zcg (G := G) h.region 1 5).res (congrArg Value.bool (Z8 (by omega)))) (vals := [Iv h.region, Iv 1, Iv 5]) (res' := .bool false) rfl rfl rfl rfl rfl rfl ?_
 refine Zd (.bool false) (Ze (Ze (Ze (Zi (.bool false) (Zd (.bool false) (Ze (Ze (Ze (Zi (.bool false) (Zd (.bool false) (Ze (Ze (Ze (Zi (.bool false) (Zb (.bool false) (Za (Zc (Zq (Zr ?_)))))))))))))))))))
 rw [show decide (Zcj h) = false from decide_eq_false (by unfold Zcj; omega)]
 exact Zk (v := .bool false) rfl rfl rfl (by kernel_rfl) rfl
 refine Zo ((Zcg (G := G) h.region 1 5).res (congrArg Value.bool (Z8 (by omega)))) (vals := [Iv h.region, Iv 1, Iv 5]) (res' := .bool false) rfl rfl rfl rfl rfl rfl ?_
 refine Zd (.bool false) (Ze (Ze (Ze (Zi (.bool false) (Zd (.bool false) (Ze (Ze (Ze (Zi (.bool false) (Zd (.bool false) (Ze (Ze (Ze (Zi (.bool false) (Zb (.bool false) (Za (Zc (Zq (Zr ?_)))))))))))))))))))
 rw [show decide (Zcj h) = false from decide_eq_false (by unfold Zcj; omega)]
 exact Zk (v := .bool false) rfl rfl rfl (by kernel_rfl) rfl
end Go.Flat
namespace Go.Flat
open Go.Proofs
variable {G : Glob}
theorem Z44 (h : Head) : ∀ x, x ∈ Zdd h → x.size ≤ 65536 := by
 intro x hx
 have h1 := Za7 h.region
 have h2 := Za7 h.epoch
 have h3 := Za7 h.size
 have h4 := Za7 h.tick
 simp only [Zdd, List.mem_cons, List.mem_nil_iff, or_false] at hx
 rcases hx with rfl | rfl | rfl | rfl | rfl
 all_goals first | omega | (rw [Za1, Zfc]; omega)
theorem Znt {h : Head} (hr : Zcj h) : Zas h = (Zai (Zdd h), 0) := by
 unfold Zas
 rw [if_pos (by rw [Zg3, if_pos hr])]
theorem Zmy (h : Head) : (Zai (Zdd h)).length ≤ 100 := by
 have := Zif (Zhn 0 (Zdd h)) 0 []
 simp only [Zdd, Zhn, Zok, Za1, Zfc, List.length_nil] at this
 have h1 := Za7 h.region
 have h2 := Za7 h.epoch
 have h3 := Za7 h.size
 have h4 := Za7 h.tick
 show (Z9 (Zhn 0 (Zdd h)) 0 []).1.length ≤ 100
 simp only [Zdd, Zhn]
 omega
def Zgw (s : Signed) : List ByteArray := [Zm (Zai (Zdd s.head)), (Zn s.node).1, Zm (dgL s.tag)]
theorem Zx4 (s : Signed) : ∀ x, x ∈ Zgw s → x.size ≤ 65536 := by
 intro x hx
 have h1 := Za7 s.node
 have h2 := Zmy s.head
 simp only [Zgw, List.mem_cons, List.mem_nil_iff, or_false] at hx
 rcases hx with rfl | rfl | rfl
 all_goals first | omega | (rw [Za1]; omega) | (rw [Za1, Zfc]; omega)
def Zf4 (s : Signed) : Prop := Zcj s.head ∧ 1 ≤ s.node ∧ s.node ≤ 3
instance (s : Signed) : Decidable (Zf4 s) := inferInstanceAs (Decidable (_ ∧ _))
theorem Zot {s : Signed} (h : Zf4 s) : Zaj s = (Zai (Zgw s), 0) := by
 unfold Zaj
 rw [if_pos ⟨by rw [Zg3, if_pos h.1], h.2⟩, Znt h.1]
 try rfl
theorem Zs3 {s : Signed} (h : ¬ Zf4 s) : Zaj s = ([], 70) := by
 unfold Zaj
 rw [if_neg]
 rintro ⟨h1, h2⟩
 refine h ⟨?_, h2⟩
 rw [Zg3] at h1
 split at h1
 ·assumption
 ·omega
theorem Zyn (kk : Nat → BitVec 32) (hG : G 2 = some (Zag w32 64 kk)) (s : ByteArray) (hs : s.size ≤ 70368744177664) : Z6 Tryz.prog G 67 [.string s] [] (dgV (Zcq kk (bl s))) [] := Zuf kk (bl s) ▸ Zo0 (G := G) kk hG s hs
def Z2i (kk : Nat → BitVec 32) (master : D) (h : Head) (node : Int) : D := Zgz kk (Zgz kk master (Zm [75#8, BitVec.ofInt 8 h.region, BitVec.ofInt 8 node])) (Zfk ++ Zm (Zai (Zdd h)))
def Z7a : Signed := ⟨⟨0, 0, 0, dz, 0⟩, 0, dz⟩
def Zc0 (kk : Nat → BitVec 32) (master : D) (h : Head) (node : Int) : Signed × Int := if Zcj h ∧ 1 ≤ node ∧ node ≤ 3 then (⟨h, node, Z2i kk master h node⟩, 0) else (Z7a, 70)
def Zda (kk : Nat → BitVec 32) (master : D) (s : Signed) : Int := if Zf4 s then (if Zcv 32 (Z2i kk master s.head s.node) s.tag = true then 0 else 72) else 70
theorem Zvl (h : Head) (hr : Zcj h) : Z6 Tryz.prog G 107 [Zcd h] [] (slv 0 0 (Zai (Zdd h)).length (Zai (Zdd h)).length) [Zah (Zai (Zdd h))] := by
  unfold Zcj at hr
  refine Za8 (fn := Tryz.f107) (nt := 20) rfl rfl rfl rfl ?_
  refine Zaa 3 (H' := [hole, hole, hole]) rfl ?_
  refine Zf (Zg (Zbq (v := Zcd h) (b := bxB 36 (Zcz h)) (nid := 0) (H' := [bxB 36 (Zcz h), hole, hole]) (Zb (.slice none 0 0) (Za (Zc (Zf ?_))))))
  refine Zgc (by kernel_rfl) ?_
  refine Zh (b := 0) (o := 0) (n := 0) (o' := 0) (Zp (p := pt 0 0) (v := Iv h.region) ?_)
  refine Zo (Zd4 (G := G) h.region (by omega) (by omega)) (vals := [Iv h.region]) (res' := .string ((Zn h.region).1)) rfl rfl rfl rfl rfl rfl ?_
  refine Zh (b := 0) (o := 0) (n := 1) (o' := 1) (Zp (p := pt 0 1) (v := Iv h.epoch) ?_)
  refine Zo (Zd4 (G := G) h.epoch (by omega) (by omega)) (vals := [Iv h.epoch]) (res' := .string ((Zn h.epoch).1)) rfl rfl rfl rfl rfl rfl ?_
  refine Zh (b := 0) (o := 0) (n := 2) (o' := 2) (Zp (p := pt 0 2) (v := Iv h.size) ?_)
  refine Zo (Zd4 (G := G) h.size (by omega) (by omega)) (vals := [Iv h.size]) (res' := .string ((Zn h.size).1)) rfl rfl rfl rfl rfl rfl ?_
  refine Zh (b := 0) (o := 0) (n := 3) (o' := 3) (Zp (p := pt 0 3) (v := dgV h.root) ?_)
  refine Zo (Zij (G := G) h.root) (vals := [dgV h.root]) (res' := .string (Zm (dgL h.root))) rfl rfl rfl rfl rfl rfl ?_
  refine Zh (b := 0) (o := 0) (n := 35) (o' := 35) (Zp (p := pt 0 35) (v := Iv h.tick) ?_)
  refine Zo (Zd4 (G := G) h.tick (by omega) (by omega)) (vals := [Iv h.tick]) (res' := .string ((Zn h.tick).1)) rfl rfl rfl rfl rfl rfl ?_
  refine Zdb (vs := [(0, .string ((Zn h.region).1)), (1, .string ((Zn h.epoch).1)), (2, .string ((Zn h.size).1)), (3, .string (Zm (dgL h.root))), (4, .string ((Zn h.tick).1))]) (v := slv 1 0 5 5) (blk := txB [(Zn h.region).1, (Zn h.epoch).1, (Zn h.size).1, (Zm (dgL h.root)), (Zn h.tick).1]) (nid := 1) (H' := [bxB 36 (Zcz h), txB [(Zn h.region).1, (Zn h.epoch).1, (Zn h.size).1, (Zm (dgL h.root)), (Zn h.tick).1], hole]) rfl rfl rfl (by kernel_rfl) (by kernel_rfl) ?_
  refine Z2 (e := [some (1, 0)]) (nid := 2) (Zl3 (G := G) [(Zn h.region).1, (Zn h.epoch).1, (Zn h.size).1, (Zm (dgL h.root)), (Zn h.tick).1] 5 5 (by rfl) (by first | omega | exact Nat.le_refl _) (by omega) (Z44 h)) (vals := [slv 1 0 5 5]) (v := slv 2 0 ((Zai [(Zn h.region).1, (Zn h.epoch).1, (Zn h.size).1, (Zm (dgL h.root)), (Zn h.tick).1]).length) ((Zai [(Zn h.region).1, (Zn h.epoch).1, (Zn h.size).1, (Zm (dgL h.root)), (Zn h.tick).1]).length)) (H' := [bxB 36 (Zcz h), txB [(Zn h.region).1, (Zn h.epoch).1, (Zn h.size).1, (Zm (dgL h.root)), (Zn h.tick).1], Zah (Zai [(Zn h.region).1, (Zn h.epoch).1, (Zn h.size).1, (Zm (dgL h.root)), (Zn h.tick).1])]) rfl rfl rfl rfl rfl rfl rfl ⟨⟨⟨rfl, rfl, rfl, by first | omega | exact Nat.le_refl _, by first | omega | exact Nat.le_refl _⟩, trivial⟩, ⟨(Zmt rfl), trivial⟩, rfl, rfl, rfl⟩ (by kernel_rfl) (by kernel_rfl) ?_
  refine Zb (slv 2 0 ((Zai [(Zn h.region).1, (Zn h.epoch).1, (Zn h.size).1, (Zm (dgL h.root)), (Zn h.tick).1]).length) ((Zai [(Zn h.region).1, (Zn h.epoch).1, (Zn h.size).1, (Zm (dgL h.root)), (Zn h.tick).1]).length)) ?_
  refine Zeu (by kernel_rfl) ?_
  refine Zc (Zq (Zr ?_))
  exact Zav [2] (v := slv 2 0 ((Zai [(Zn h.region).1, (Zn h.epoch).1, (Zn h.size).1, (Zm (dgL h.root)), (Zn h.tick).1]).length) ((Zai [(Zn h.region).1, (Zn h.epoch).1, (Zn h.size).1, (Zm (dgL h.root)), (Zn h.tick).1]).length)) rfl (by kernel_rfl) rfl rfl (by decide) (by simp [Za0, Zah]) ⟨rfl, rfl, rfl, by first | omega | exact Nat.le_refl _ | exact Nat.zero_le _ | (dsimp only; omega), by first | omega | exact Nat.le_refl _ | exact Nat.zero_le _ | (dsimp only; omega)⟩
theorem Zsy (s : Signed) : Z6 Tryz.prog G 22 [Zy s] [] (.bool (decide (Zf4 s))) [] := by
  refine Za8 (fn := Tryz.f22) (nt := 11) rfl rfl rfl rfl ?_
  refine Zaa 1 (H' := [hole]) rfl ?_
  refine Zf (Zg (Zbq (v := Zy s) (b := bxB 69 (Zj s)) (nid := 0) (H' := [bxB 69 (Zj s)]) (Zb (.bool false) (Za (Zc (Zf (Zg (Zh (b := 0) (o := 0) (n := 0) (o' := 0) (Zp (p := pt 0 0) (v := Zcd s.head) ?_)))))))))
  refine Zo (Zuz (G := G) s.head) (vals := [Zcd s.head]) (res' := .bool (decide (Zcj s.head))) rfl rfl rfl rfl rfl rfl ?_
  refine Zd (.bool (decide (Zcj s.head))) ?_
  rcases Bool.eq_false_or_eq_true (decide (Zcj s.head)) with h1 | h1
  refine Za2 (b := 0) (o := 0) (n := 36) (o' := 36) (by exact congrArg (fun b => some (b == true)) h1) rfl rfl rfl rfl ?_
  refine Zad (p := pt 0 36) (v := Iv s.node) (by exact congrArg (fun b => some (b == true)) h1) rfl rfl (by kernel_rfl) ?_
  by_cases h2 : 1 ≤ s.node
  by_cases h3 : s.node ≤ 3
  refine Zo ((Zcg (G := G) s.node 1 3).res (congrArg Value.bool (Zbc (by omega) (by omega)))) (vals := [Iv s.node, Iv 1, Iv 3]) (res' := .bool true) (by exact congrArg (fun b => some (b == true)) h1) rfl rfl rfl rfl rfl ?_
  refine Zf3 rfl rfl (.bool true) (by show some (if _ then _ else _) = _; rw [h1] <;> rfl) ?_
  refine Zb (.bool true) (Za (Zc (Zq (Zr ?_))))
  rw [show decide (Zf4 s) = true from decide_eq_true ⟨of_decide_eq_true (by assumption), by omega, by omega⟩]
  exact Zk (v := .bool true) rfl rfl rfl (by kernel_rfl) rfl
  refine Zo ((Zcg (G := G) s.node 1 3).res (congrArg Value.bool (Z8 (by omega)))) (vals := [Iv s.node, Iv 1, Iv 3]) (res' := .bool false) (by exact congrArg (fun b => some (b == true)) h1) rfl rfl rfl rfl rfl ?_
  refine Zf3 rfl rfl (.bool false) (by show some (if _ then _ else _) = _; rw [h1] <;> rfl) ?_
  refine Zb (.bool false) (Za (Zc (Zq (Zr ?_))))
  rw [show decide (Zf4 s) = false from decide_eq_false (fun hh => by first | (have := hh.2; omega) | (exact absurd hh.1 (of_decide_eq_false (by assumption))))]
  exact Zk (v := .bool false) rfl rfl rfl (by kernel_rfl) rfl
  refine Zo ((Zcg (G := G) s.node 1 3).res (congrArg Value.bool (Z8 (by omega)))) (vals := [Iv s.node, Iv 1, Iv 3]) (res' := .bool false) (by exact congrArg (fun b => some (b == true)) h1) rfl rfl rfl rfl rfl ?_
  refine Zf3 rfl rfl (.bool false) (by show some (if _ then _ else _) = _; rw [h1] <;> rfl) ?_
  refine Zb (.bool false) (Za (Zc (Zq (Zr ?_))))
  rw [show decide (Zf4 s) = false from decide_eq_false (fun hh => by first | (have := hh.2; omega) | (exact absurd hh.1 (of_decide_eq_false (by assumption))))]
  exact Zk (v := .bool false) rfl rfl rfl (by kernel_rfl) rfl
  refine Zhs (by exact congrArg (fun b => some (b == true)) h1) rfl ?_
  refine Zhs (by exact congrArg (fun b => some (b == true)) h1) rfl ?_
  refine Zhs (by exact congrArg (fun b => some (b == true)) h1) rfl ?_
  refine Zf3 rfl rfl (.bool false) (by show some (if _ then _ else _) = _; rw [h1] <;> rfl) ?_
  refine Zb (.bool false) (Za (Zc (Zq (Zr ?_))))
  rw [show decide (Zf4 s) = false from decide_eq_false (fun hh => by first | (have := hh.2; omega) | (exact absurd hh.1 (of_decide_eq_false (by assumption))))]
  exact Zk (v := .bool false) rfl rfl rfl (by kernel_rfl) rfl
theorem Znn (s : Signed) (hr : Zcj s.head) (h1 : 1 ≤ s.node) (h2 : s.node ≤ 3) : Z6 Tryz.prog G 129 [Zy s] [] (slv 0 0 (Zai (Zgw s)).length (Zai (Zgw s)).length) [Zah (Zai (Zgw s))] := by
  refine Za8 (fn := Tryz.f129) (nt := 15) rfl rfl rfl rfl ?_
  refine Zaa 4 (H' := [hole, hole, hole, hole]) rfl ?_
  refine Zf (Zg (Zbq (v := Zy s) (b := bxB 69 (Zj s)) (nid := 0) (H' := [bxB 69 (Zj s), hole, hole, hole]) (Zb (.slice none 0 0) (Za (Zc (Zf ?_))))))
  refine Zgc (by kernel_rfl) ?_
  refine Zh (b := 0) (o := 0) (n := 0) (o' := 0) (Zp (p := pt 0 0) (v := Zcd s.head) ?_)
  have hbl5 := Zmy s.head
  refine Z2 (e := []) (nid := 1) (Zvl (G := G) s.head hr) (vals := [Zcd s.head]) (v := slv 1 0 ((Zai (Zdd s.head)).length) ((Zai (Zdd s.head)).length)) (H' := [bxB 69 (Zj s), Zah (Zai (Zdd s.head)), hole, hole]) rfl rfl rfl rfl rfl rfl rfl ⟨⟨rfl, trivial⟩, trivial, rfl, rfl, rfl⟩ (by kernel_rfl) (by kernel_rfl) ?_
  refine Ze2 (p := slv 1 0 ((Zai (Zdd s.head)).length) ((Zai (Zdd s.head)).length)) (v := .string (Zm (Zai (Zdd s.head)))) rfl rfl rfl (Zdu rfl rfl rfl rfl rfl (by omega)) ?_
  refine Zh (b := 0) (o := 0) (n := 36) (o' := 36) (Zp (p := pt 0 36) (v := Iv s.node) ?_)
  refine Zo (Zd4 (G := G) s.node (by omega) (by omega)) (vals := [Iv s.node]) (res' := .string ((Zn s.node).1)) rfl rfl rfl rfl rfl rfl ?_
  refine Zh (b := 0) (o := 0) (n := 37) (o' := 37) (Zp (p := pt 0 37) (v := dgV s.tag) ?_)
  refine Zo (Zij (G := G) s.tag) (vals := [dgV s.tag]) (res' := .string (Zm (dgL s.tag))) rfl rfl rfl rfl rfl rfl ?_
  refine Zdb (vs := [(0, .string (Zm (Zai (Zdd s.head)))), (1, .string ((Zn s.node).1)), (2, .string (Zm (dgL s.tag)))]) (v := slv 2 0 3 3) (blk := txB [(Zm (Zai (Zdd s.head))), (Zn s.node).1, (Zm (dgL s.tag))]) (nid := 2) (H' := [bxB 69 (Zj s), Zah (Zai (Zdd s.head)), txB [(Zm (Zai (Zdd s.head))), (Zn s.node).1, (Zm (dgL s.tag))], hole]) rfl rfl rfl (by kernel_rfl) (by kernel_rfl) ?_
  refine Z2 (e := [some (2, 0)]) (nid := 3) (Zl3 (G := G) [(Zm (Zai (Zdd s.head))), (Zn s.node).1, (Zm (dgL s.tag))] 3 3 (by rfl) (by first | omega | exact Nat.le_refl _) (by omega) (Zx4 s)) (vals := [slv 2 0 3 3]) (v := slv 3 0 ((Zai [(Zm (Zai (Zdd s.head))), (Zn s.node).1, (Zm (dgL s.tag))]).length) ((Zai [(Zm (Zai (Zdd s.head))), (Zn s.node).1, (Zm (dgL s.tag))]).length)) (H' := [bxB 69 (Zj s), Zah (Zai (Zdd s.head)), txB [(Zm (Zai (Zdd s.head))), (Zn s.node).1, (Zm (dgL s.tag))], Zah (Zai [(Zm (Zai (Zdd s.head))), (Zn s.node).1, (Zm (dgL s.tag))])]) rfl rfl rfl rfl rfl rfl rfl ⟨⟨⟨rfl, rfl, rfl, by first | omega | exact Nat.le_refl _, by first | omega | exact Nat.le_refl _⟩, trivial⟩, ⟨(Zmt rfl), trivial⟩, rfl, rfl, rfl⟩ (by kernel_rfl) (by kernel_rfl) ?_
  refine Zb (slv 3 0 ((Zai [(Zm (Zai (Zdd s.head))), (Zn s.node).1, (Zm (dgL s.tag))]).length) ((Zai [(Zm (Zai (Zdd s.head))), (Zn s.node).1, (Zm (dgL s.tag))]).length)) ?_
  refine Zeu (by kernel_rfl) ?_
  refine Zc (Zq (Zr ?_))
  exact Zav [3] (v := slv 3 0 ((Zai [(Zm (Zai (Zdd s.head))), (Zn s.node).1, (Zm (dgL s.tag))]).length) ((Zai [(Zm (Zai (Zdd s.head))), (Zn s.node).1, (Zm (dgL s.tag))]).length)) rfl (by kernel_rfl) rfl rfl (by decide) (by simp [Za0, Zah]) ⟨rfl, rfl, rfl, by first | omega | exact Nat.le_refl _ | exact Nat.zero_le _ | (dsimp only; omega), by first | omega | exact Nat.le_refl _ | exact Nat.zero_le _ | (dsimp only; omega)⟩
end Go.Flat
namespace Go.Flat
open Go.Proofs Go.ChangeShapes Go.WideShapes Go.RowKit
variable {G : Glob}
def Zkw (a b : Head) : Bool := ((a.region == b.region) && ((a.epoch == b.epoch) && ((a.size == b.size) && ((Zcv 32 a.root b.root) && ((a.tick == b.tick) && true)))))
theorem Z66 (a b : Head) {d : Nat} : Zae Tryz.prog (Op.equalIn (d + 3) 26 (Zcd a) (Zcd b)) = some (Zkw a b) :=
 eqS (P := Tryz.prog) (d + 2) 26 _ (Zcz a).toArray (Zcz b).toArray (fun f => if f.offset = 0 then (a.region == b.region) else if f.offset = 1 then (a.epoch == b.epoch) else if f.offset = 2 then (a.size == b.size) else if f.offset = 3 then (Zcv 32 a.root b.root) else if f.offset = 35 then (a.tick == b.tick) else true) rfl (by kernel_rfl) (List.forall_mem_cons.2 ⟨⟨by decide, Iv a.region, Iv b.region, Zbv rfl rfl rfl, Zbv rfl rfl rfl, Zgv rfl⟩, List.forall_mem_cons.2 ⟨⟨by decide, Iv a.epoch, Iv b.epoch, Zbv rfl rfl rfl, Zbv rfl rfl rfl, Zgv rfl⟩, List.forall_mem_cons.2 ⟨⟨by decide, Iv a.size, Iv b.size, Zbv rfl rfl rfl, Zbv rfl rfl rfl, Zgv rfl⟩, List.forall_mem_cons.2 ⟨⟨by decide, .agg (Zag w8 32 a.root).toArray, .agg (Zag w8 32 b.root).toArray, Zdk (n := 32) rfl rfl rfl rfl rfl, Zdk (n := 32) rfl rfl rfl rfl rfl, Zn0 rfl rfl rfl⟩, List.forall_mem_cons.2 ⟨⟨by decide, Iv a.tick, Iv b.tick, Zbv rfl rfl rfl, Zbv rfl rfl rfl, Zgv rfl⟩, fun _ h => absurd h (by simp)⟩⟩⟩⟩⟩)
theorem Zvm (a : Head) : Zkw a a = true := by simp [Zkw, Zcv]
def Zex (a b : Signed) : Bool := ((Zkw a.head b.head) && ((a.node == b.node) && ((Zcv 32 a.tag b.tag) && true)))
theorem Zs7 (a b : Signed) {d : Nat} : Zae Tryz.prog (Op.equalIn (d + 4) 28 (Zy a) (Zy b)) = some (Zex a b) :=
 eqS (P := Tryz.prog) (d + 3) 28 _ (Zj a).toArray (Zj b).toArray (fun f => if f.offset = 0 then (Zkw a.head b.head) else if f.offset = 36 then (a.node == b.node) else if f.offset = 37 then (Zcv 32 a.tag b.tag) else true) rfl (by kernel_rfl) (List.forall_mem_cons.2 ⟨⟨by decide, Zcd a.head, Zcd b.head, Zdk (n := 36) rfl rfl rfl rfl rfl, Zdk (n := 36) rfl rfl rfl rfl rfl, Z66 a.head b.head⟩, List.forall_mem_cons.2 ⟨⟨by decide, Iv a.node, Iv b.node, Zbv rfl rfl rfl, Zbv rfl rfl rfl, Zgv rfl⟩, List.forall_mem_cons.2 ⟨⟨by decide, .agg (Zag w8 32 a.tag).toArray, .agg (Zag w8 32 b.tag).toArray, Zdk (n := 32) rfl rfl rfl rfl rfl, Zdk (n := 32) rfl rfl rfl rfl rfl, Zn0 rfl rfl rfl⟩, fun _ h => absurd h (by simp)⟩⟩⟩)
theorem Zg2 {x y : Operand} (a b : Signed) : Zcl Tryz.prog .eql 28 x y (Zy a) (Zy b) = some (.bool (Zex a b)) := Zp0 (by kernel_rfl) (by kernel_rfl) (Zs7 a b (d := 9996))
theorem Zhe (a : Signed) : Zex a a = true := by simp [Zex, Zcv, Zvm]
def okHead (a : Head) : Prop := (-9223372036854775808 ≤ a.region ∧ a.region ≤ 9223372036854775807) ∧ (-9223372036854775808 ≤ a.epoch ∧ a.epoch ≤ 9223372036854775807) ∧ (-9223372036854775808 ≤ a.size ∧ a.size ≤ 9223372036854775807) ∧ True ∧ (-9223372036854775808 ≤ a.tick ∧ a.tick ≤ 9223372036854775807) ∧ True
theorem Zxo : Zbi Tryz.prog 26 Zcz okHead := by
 intro H encH W fuel cs x h
 obtain ⟨xs, n, _, _, hl, hxl, hel⟩ := DataW.trod_struct (P := Tryz.prog) (t := 26) (fs := _) rfl h
 have hl' : cs.length = 36 := hl.trans (by kernel_rfl)
 obtain ⟨a0, e0, k0⟩ := Zbi.at_ (t := 3) (off := 0) (k := 1) (Zbi.int (by kernel_rfl)) (hel 0 _ rfl) (by rw [hxl]; decide) rfl (by kernel_rfl) rfl
 have q0 : cs.drop 0 = [Iv a0] ++ cs.drop 1 := by rw [Zck 0 1, e0]
 obtain ⟨a1, e1, k1⟩ := Zbi.at_ (t := 3) (off := 1) (k := 1) (Zbi.int (by kernel_rfl)) (hel 1 _ rfl) (by rw [hxl]; decide) rfl (by kernel_rfl) rfl
 have q1 : cs.drop 1 = [Iv a1] ++ cs.drop 2 := by rw [Zck 1 1, e1]
 obtain ⟨a2, e2, k2⟩ := Zbi.at_ (t := 3) (off := 2) (k := 1) (Zbi.int (by kernel_rfl)) (hel 2 _ rfl) (by rw [hxl]; decide) rfl (by kernel_rfl) rfl
 have q2 : cs.drop 2 = [Iv a2] ++ cs.drop 3 := by rw [Zck 2 1, e2]
 obtain ⟨a3, e3, k3⟩ := Zbi.at_ (t := 24) (off := 3) (k := 32) (Zbi.bytes (n := 32) (tb := 5) (by kernel_rfl) (by kernel_rfl) (by kernel_rfl) (by kernel_rfl)) (hel 3 _ rfl) (by rw [hxl]; decide) rfl (by kernel_rfl) rfl
 have q3 : cs.drop 3 = Zag w8 32 a3 ++ cs.drop 35 := by rw [Zck 3 32, e3]
 obtain ⟨a4, e4, k4⟩ := Zbi.at_ (t := 3) (off := 35) (k := 1) (Zbi.int (by kernel_rfl)) (hel 4 _ rfl) (by rw [hxl]; decide) rfl (by kernel_rfl) rfl
 have q4 : cs.drop 35 = [Iv a4] ++ cs.drop 36 := by rw [Zck 35 1, e4]
 have qe : cs.drop 36 = [] := List.drop_of_length_le (by omega)
 refine ⟨⟨a0, a1, a2, a3, a4⟩, ?_, k0, k1, k2, k3, k4, trivial⟩
 rw [List.drop_zero] at q0
 rw [q0, q1, q2, q3, q4, qe]
 simp [Zcz]
def okSigned (a : Signed) : Prop := okHead a.head ∧ (-9223372036854775808 ≤ a.node ∧ a.node ≤ 9223372036854775807) ∧ True ∧ True
theorem Zne : Zbi Tryz.prog 28 Zj okSigned := by
 intro H encH W fuel cs x h
 obtain ⟨xs, n, _, _, hl, hxl, hel⟩ := DataW.trod_struct (P := Tryz.prog) (t := 28) (fs := _) rfl h
 have hl' : cs.length = 69 := hl.trans (by kernel_rfl)
 obtain ⟨a0, e0, k0⟩ := Zbi.at_ (t := 26) (off := 0) (k := 36) (Zxo) (hel 0 _ rfl) (by rw [hxl]; decide) rfl (by kernel_rfl) rfl
 have q0 : cs.drop 0 = Zcz a0 ++ cs.drop 36 := by rw [Zck 0 36, e0]
 obtain ⟨a1, e1, k1⟩ := Zbi.at_ (t := 3) (off := 36) (k := 1) (Zbi.int (by kernel_rfl)) (hel 1 _ rfl) (by rw [hxl]; decide) rfl (by kernel_rfl) rfl
 have q1 : cs.drop 36 = [Iv a1] ++ cs.drop 37 := by rw [Zck 36 1, e1]
 obtain ⟨a2, e2, k2⟩ := Zbi.at_ (t := 24) (off := 37) (k := 32) (Zbi.bytes (n := 32) (tb := 5) (by kernel_rfl) (by kernel_rfl) (by kernel_rfl) (by kernel_rfl)) (hel 2 _ rfl) (by rw [hxl]; decide) rfl (by kernel_rfl) rfl
 have q2 : cs.drop 37 = Zag w8 32 a2 ++ cs.drop 69 := by rw [Zck 37 32, e2]
 have qe : cs.drop 69 = [] := List.drop_of_length_le (by omega)
 refine ⟨⟨a0, a1, a2⟩, ?_, k0, k1, k2, trivial⟩
 rw [List.drop_zero] at q0
 rw [q0, q1, q2, qe]
 simp [Zj]
theorem Zu9 (a : Signed) : Zb7 (Zy a) = true := by kernel_rfl
end Go.Flat
