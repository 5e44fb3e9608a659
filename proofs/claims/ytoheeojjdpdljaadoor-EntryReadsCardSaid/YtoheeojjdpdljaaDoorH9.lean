/- Walks. -/
import Derived.Test.YtoheeojjdpdljaaDoorH6
import Derived.Test.YtoheeojjdpdljaaDoorFlatG
set_option linter.unusedVariables false
set_option linter.unusedSimpArgs false
set_option maxRecDepth 20000
namespace Go.Flat
open Go.Proofs
variable {G : Glob}
theorem Zgm (k : Int) (s : ByteArray) : (Zc0 ⟨k, s⟩).length = s.size + 4 := Zg3 _
def beL : Nat → Nat → Bs → Bs
  | 0, _, l => l
  | f + 1, n, l => if n = 0 then l else beL f (n / 256) (BitVec.ofInt 8 (n : Int) :: l)
theorem Zmn (f : Nat) (l : Bs) : beL f 0 l = l := by cases f <;> simp [beL]
theorem Zyx (n : Nat) : BitVec.ofInt 8 ((n % 256 : Nat) : Int) = BitVec.ofInt 8 (n : Int) := by
 rw [BitVec.ofInt_natCast, BitVec.ofInt_natCast]
 apply BitVec.eq_of_toNat_eq
 simp
theorem Zpo {a k : Nat} {s : ByteArray} {R : Bs} (hR : beL a k (bl s) = R) (hk : k < 256 ^ a) (h1 : 0 < k) (ha : s.size + a ≤ 8) :
  beL (a - 1) (k / 256) (bl (Zl [BitVec.ofInt 8 ((k % 256 : Nat) : Int)] ++ s)) = R ∧ k / 256 < 256 ^ (a - 1) ∧ (Zl [BitVec.ofInt 8 ((k % 256 : Nat) : Int)] ++ s).size + (a - 1) ≤ 8 := by
 obtain ⟨b, rfl⟩ : ∃ b, a = b + 1 := ⟨a - 1, by have := Zla hk h1; omega⟩
 refine ⟨?_, ?_, ?_⟩
 ·rw [beL, if_neg (by omega)] at hR
  rw [Zyu, Zdi, Zyx]; exact hR
 ·rw [Nat.pow_succ] at hk; exact Nat.div_lt_of_lt_mul (by rw [Nat.add_sub_cancel]; omega)
 ·rw [ByteArray.size_append, Zbc]; simp; omega
theorem Zp1 (b : D) (a : Nat) (x : BitVec 8) (h : a < 8) : (Zjq 8 (Zha b a x)).drop a = x :: (Zjq 8 b).drop (a + 1) := by
 apply List.ext_getElem?
 intro i
 cases i with
 | zero => simp [Zjq, Zha, h]
 | succ i =>
  simp only [List.getElem?_drop, List.getElem?_cons_succ, Zjq, List.getElem?_map]
  by_cases hi : a + 1 + i < 8
  ·rw [show a + (i + 1) = a + 1 + i by omega, List.getElem?_range hi]
   simp only [Option.map_some, Zha]
   rw [if_neg (by omega)]
  ·rw [show a + (i + 1) = a + 1 + i by omega, List.getElem?_eq_none (by simp; omega)]; rfl
theorem Zti : ∀ (a n : Nat) (b : D), a ≤ 8 → Zjr a n a b = beL a n ((Zjq 8 b).drop a)
 | 0, n, b, _ => by rw [Zjr, beL]
 | a + 1, n, b, h => by
  rw [Zjr, beL]
  split
  ·rfl
  ·rw [Nat.add_sub_cancel, Zti a _ _ (by omega), Zp1 b a _ (by omega)]
theorem Zsc (m : Nat) : Zjr 8 m 8 dz = beL 8 m [] := by
 rw [Zti 8 m dz (by omega), List.drop_of_length_le (by rw [Zkf]; omega)]
def Zgs : Nat → List ByteArray → Bs
  | _, [] => []
  | k, x :: l => Zc0 ⟨(k : Int) + 1, x⟩ ++ Zgs (k + 1) l
theorem Zy6 {ls : List ByteArray} {i : Nat} {acc R : Bs} (hR : acc ++ Zgs i (ls.drop i) = R) (hi : i < ls.length) : (acc ++ Zc0 ⟨(i : Int) + 1, ls.getD i ⟨#[]⟩⟩) ++ Zgs (i + 1) (ls.drop (i + 1)) = R := by
 have e : ls.drop i = ls.getD i ⟨#[]⟩ :: ls.drop (i + 1) := by
  rw [List.drop_eq_getElem_cons hi, List.getD_eq_getElem?_getD, List.getElem?_eq_getElem hi]; rfl
 rw [e, Zgs] at hR
 rw [← hR, List.append_assoc]
theorem Zx3 {f : Field} {last : Int} (h1 : last < f.tag) (h2 : f.tag ≤ 255) (h3 : f.data.size ≤ 65536) : Zez f last = 0 := by
 unfold Zez
 rw [if_neg (by omega), if_neg (by omega), if_neg (by omega)]
theorem Zkn : ∀ (ls : List ByteArray) (k : Nat) (acc : Bs), k + ls.length ≤ 255 → (∀ x, x ∈ ls → x.size ≤ 65536) → Z6 (Zd0 k ls) (k : Nat) acc = (acc ++ Zgs k ls, 0)
 | [], k, acc, _, _ => by simp [Z6, Zd0, Zgs]
 | x :: l, k, acc, h, hs => by
  simp only [List.length_cons] at h
  rw [Zd0, Z6, if_pos (Zx3 (by dsimp only; omega) (by dsimp only; omega) (hs x (by simp))), Zgs]
  have := Zkn l (k + 1) (acc ++ Zc0 ⟨(k : Int) + 1, x⟩) (by omega) (fun y hy => hs y (by simp [hy]))
  rw [show ((k + 1 : Nat) : Int) = (k : Int) + 1 by omega] at this
  rw [this, List.append_assoc]
theorem Zpc (ls : List ByteArray) (h : ls.length ≤ 255) (hs : ∀ x, x ∈ ls → x.size ≤ 65536) : Zaj ls = Zgs 0 ls := by
 have := Zkn ls 0 [] (by omega) hs
 unfold Zaj
 rw [show (0 : Int) = ((0 : Nat) : Int) from rfl, this, List.nil_append]
theorem Zqd {ls : List ByteArray} {m : Nat} (hs : ∀ x, x ∈ ls → x.size ≤ m) (i : Nat) : (ls.getD i ⟨#[]⟩).size ≤ m := by
 rw [List.getD_eq_getElem?_getD]
 cases h : ls[i]? with
 | none => show 0 ≤ m; omega
 | some x => exact hs x (List.mem_of_getElem? h)
theorem Zsg (n : Int) (hl : -9223372036854775808 ≤ n) (hh : n ≤ 9223372036854775807) : Zao Tryd.prog G 92 [Iv n] [] (.tuple #[.string (Zp n).1, Iv (Zp n).2]) [] := by
  refine Zbv (fn := Tryd.f92) (nt := 23) rfl rfl rfl rfl ?_
  refine Zg (Zi (Zb rfl rfl (.string ⟨#[]⟩) rfl (Zb rfl rfl (Iv 0) rfl (Za (Zc (Zg (Zg (Zi (Zd rfl rfl (Iv n) rfl ?_)))))))))
  by_cases h1 : n < 0
  refine Zn (vx := Iv n) (vy := Iv 0) rfl rfl (.bool true) rfl rfl (Zdt (by omega)) ?_
  refine Zd rfl rfl (.bool true) rfl (Zf rfl rfl (Zf rfl rfl (Zk rfl rfl (.bool true) rfl (Za (Zc (Z0 rfl (Zg (Zi (Zb rfl rfl (.string ⟨#[]⟩) rfl (Zb rfl rfl (Iv 1) rfl (Za (Zc (Zv (Z5 (Zu ?_)))))))))))))))
  rw [show Zp n = (⟨#[]⟩, 1) from if_neg (by omega)]
  exact Zm (v := .tuple #[.string ⟨#[]⟩, Iv 1]) rfl rfl rfl (by kernel_rfl) ⟨rfl, rfl, trivial⟩
  refine Zn (vx := Iv n) (vy := Iv 0) rfl rfl (.bool false) rfl rfl (Zdh (by omega)) ?_
  refine Zd rfl rfl (.bool false) rfl (Zd rfl rfl (Iv n) rfl ?_)
  by_cases h2 : 4611686018427387903 < n
  refine Zn (vx := Iv n) (vy := Iv 4611686018427387903) rfl rfl (.bool true) rfl rfl (Zf1 (by omega)) ?_
  refine Zk rfl rfl (.bool true) rfl (Za (Zc (Z0 rfl (Zg (Zi (Zb rfl rfl (.string ⟨#[]⟩) rfl (Zb rfl rfl (Iv 1) rfl (Za (Zc (Zv (Z5 (Zu ?_))))))))))))
  rw [show Zp n = (⟨#[]⟩, 1) from if_neg (by omega)]
  exact Zm (v := .tuple #[.string ⟨#[]⟩, Iv 1]) rfl rfl rfl (by kernel_rfl) ⟨rfl, rfl, trivial⟩
  refine Zn (vx := Iv n) (vy := Iv 4611686018427387903) rfl rfl (.bool false) rfl rfl (Zf8 (by omega)) ?_
  refine Zk rfl rfl (.bool false) rfl (Za (Zc (Zx rfl (Zai (Zc (Zg ?_))))))
  obtain ⟨m, rfl⟩ : ∃ x0 : Nat, n = (x0 : Int) := ⟨n.toNat, by omega⟩
  refine Zi (Zb rfl rfl (.string ⟨#[]⟩) rfl (Za (Zc (Zg (Zap ?_)))))
  refine Zb8 (fun x : Nat × Nat × ByteArray => match x with | (k, a, s) => [Iv (k : Nat), dead, .string ⟨#[]⟩, Iv 0, .string s, Iv (m : Nat), .bool false, .bool false, Iv (m : Nat), .bool false, .bool false]) (fun x : Nat × Nat × ByteArray => match x with | (k, a, s) => []) (fun x : Nat × Nat × ByteArray => match x with | (k, a, s) => beL a k (bl s) = beL 8 m [] ∧ k < 256 ^ a ∧ s.size + a ≤ 8 ∧ k ≤ m) (fun x : Nat × Nat × ByteArray => match x with | (k, a, s) => a) (m, 8, ⟨#[]⟩) ⟨rfl, by omega, by show 0 + 8 ≤ 8; omega, by omega⟩ ?_ ?_
  · refine Zaq (n := 0) rfl ?_ (by kernel_rfl) (by kernel_rfl)
    repeat (first | exact trivial | refine ⟨.inl rfl, ?_⟩ | refine ⟨.inr ⟨rfl, rfl⟩, ?_⟩ | refine ⟨.inr ⟨congrArg (Value.int .i64) (by first | omega | (dsimp only; omega)), rfl⟩, ?_⟩)
  rintro ⟨k, a, s⟩ ⟨hR, hk, ha, hkm⟩
  dsimp only at *
  refine Zat 1 (H' := [hole]) rfl ?_
  refine Zg (Zg (Zi (Zd rfl rfl (Iv (k : Nat)) rfl ?_)))
  by_cases h3 : 0 < (k : Nat)
  refine Zn (vx := Iv (k : Nat)) (vy := Iv 0) rfl rfl (.bool true) rfl rfl (Zf1 (by omega)) ?_
  refine Za (Zc (Z0 rfl (Zai (Zc (Zap (Zg (Zi (Zd rfl rfl (Iv (k : Nat)) rfl ?_))))))))
  refine Zn (vx := Iv (k : Nat)) (vy := Iv 256) rfl rfl (Iv (((k % 256) : Nat) : Int)) rfl rfl (Zrn (Zxa (by omega) (by omega)) (congrArg (Value.int .i64) (by omega))) ?_
  refine Zdb (w := Iv (((k % 256) : Nat) : Int)) (v := w8 (BitVec.ofInt 8 (((k % 256) : Nat) : Int))) rfl rfl rfl (Zjn rfl rfl rfl) ?_
  refine Zd5 (vs := [(0, w8 (BitVec.ofInt 8 (((k % 256) : Nat) : Int)))]) (v := slv 0 0 1 1) (blk := Zy [(BitVec.ofInt 8 (((k % 256) : Nat) : Int))]) (nid := 0) (H' := [Zy [(BitVec.ofInt 8 (((k % 256) : Nat) : Int))]]) rfl rfl rfl (by kernel_rfl) (by kernel_rfl) ?_
  refine Zc6 (p := slv 0 0 1 1) (v := .string (Zl [(BitVec.ofInt 8 (((k % 256) : Nat) : Int))])) rfl rfl rfl (Zbi rfl rfl rfl rfl rfl (by have := (rfl : _ = 1); omega)) ?_
  refine Zd rfl rfl (.string s) rfl ?_
  refine Zn (vx := .string (Zl [(BitVec.ofInt 8 (((k % 256) : Nat) : Int))])) (vy := .string s) rfl rfl (.string ((Zl [(BitVec.ofInt 8 (((k % 256) : Nat) : Int))]) ++ s)) rfl rfl (Z18 (by simp only [ByteArray.size_append, Zbc, List.length_cons, List.length_nil]; omega)) ?_
  refine Zb rfl rfl (.string ((Zl [(BitVec.ofInt 8 (((k % 256) : Nat) : Int))]) ++ s)) rfl (Za (Zc (Zi (Zd rfl rfl (Iv (k : Nat)) rfl ?_))))
  refine Zn (vx := Iv (k : Nat)) (vy := Iv 256) rfl rfl (Iv (((k / 256) : Nat) : Int)) rfl rfl (Zrn (Ztl (by omega) (by omega) (by omega)) (congrArg (Value.int .i64) (by omega))) ?_
  refine Zb rfl rfl (Iv (((k / 256) : Nat) : Int)) rfl (Za (Z1 ?_))
  refine Zau ⟨((k / 256), (a - 1), ((Zl [(BitVec.ofInt 8 (((k % 256) : Nat) : Int))]) ++ s)), ⟨(Zpo hR hk (by omega) ha).1, (Zpo hR hk (by omega) ha).2.1, (Zpo hR hk (by omega) ha).2.2, by dsimp only; omega⟩, by show a - 1 < a; have := Zla hk (by omega); omega, ?_⟩
  refine Zaq (n := 0) rfl ?_ (by kernel_rfl) (by kernel_rfl)
  repeat (first | exact trivial | refine ⟨.inl rfl, ?_⟩ | refine ⟨.inr ⟨rfl, rfl⟩, ?_⟩ | refine ⟨.inr ⟨congrArg (Value.int .i64) (by first | omega | (dsimp only; omega)), rfl⟩, ?_⟩)
  refine Zn (vx := Iv (k : Nat)) (vy := Iv 0) rfl rfl (.bool false) rfl rfl (Zf8 (by omega)) ?_
  refine Za (Zc (Zx rfl (Zce (Zbj (Zbo (Zbp rfl (Zc (Zg (Zi (Zd rfl rfl (.string s) rfl (Zb rfl rfl (.string s) rfl (Zb rfl rfl (Iv 0) rfl (Za (Zc (Zv (Zu ?_))))))))))))))))
  have e : Zp (m : Nat) = (s, 0) := by
    rw [show Zp (m : Nat) = (Zl (Zjr 8 m 8 dz), 0) from if_pos (by omega), Zsc, ← hR]
    obtain rfl : k = 0 := by omega
    rw [Zmn, Zh6]
  rw [e]
  exact Zm (v := .tuple #[.string s, Iv 0]) rfl rfl rfl (by kernel_rfl) ⟨rfl, rfl, trivial⟩
theorem Zd4 (n : Int) (hl : -9223372036854775808 ≤ n) (hh : n ≤ 9223372036854775807) : Zao Tryd.prog G 76 [Iv n] [] (.string (Zp n).1) [] := by
 refine Zbv (fn := Tryd.f76) (nt := 11) rfl rfl rfl rfl ?_
 refine Zg (Zi (Zb rfl rfl (.string ⟨#[]⟩) rfl (Za (Zc (Zg (Zi (Zd rfl rfl (Iv n) rfl ?_)))))))
 refine Zs (Zsg (G := G) n (by omega) (by omega)) (vals := [Iv n]) (res' := .tuple #[.string ((Zp n).1), Iv ((Zp n).2)]) rfl rfl rfl rfl rfl (by kernel_rfl) ?_
 refine Zd rfl rfl (.tuple #[.string ((Zp n).1), Iv ((Zp n).2)]) rfl (Zt (vs := #[.string ((Zp n).1), Iv ((Zp n).2)]) (v := .string ((Zp n).1)) rfl rfl rfl rfl (Zt (vs := #[.string ((Zp n).1), Iv ((Zp n).2)]) (v := Iv ((Zp n).2)) rfl rfl rfl rfl (Zb rfl rfl (.string ((Zp n).1)) rfl (Zb rfl rfl (Iv ((Zp n).2)) rfl (Za (Zc (Zg (Zi (Zd rfl rfl (.string ((Zp n).1)) rfl (Zb rfl rfl (.string ((Zp n).1)) rfl (Za (Zc (Zv (Zu ?_))))))))))))))
 exact Zm (v := .string ((Zp n).1)) rfl rfl rfl (by kernel_rfl) rfl
theorem Zqe (k : Int) (s : ByteArray) (hs : s.size ≤ 65536) : Zao Tryd.prog G 88 [Iv k, .string s] [] (slv 0 0 (s.size + 4) (s.size + 4)) [Zy (Zc0 ⟨k, s⟩)] := by
  refine Zbv (fn := Tryd.f88) (nt := 24) rfl rfl rfl rfl ?_
  refine Zat 1 (H' := [hole]) rfl ?_
  refine Zg (Zi (Zb rfl rfl (.slice none 0 0) rfl (Za (Zc (Zg (Zi (Zd rfl rfl (.string s) rfl ?_)))))))
  refine Zb7 (p := .string s) (v := Iv (s.size : Nat)) rfl rfl rfl rfl ?_
  refine Zb rfl rfl (Iv (s.size : Nat)) rfl (Za (Zc (Zg (Zi (Zd rfl rfl (Iv k) rfl ?_)))))
  refine Zdb (w := Iv k) (v := w8 (BitVec.ofInt 8 k)) rfl rfl rfl (Zjn rfl rfl rfl) ?_
  refine Zd rfl rfl (Iv (s.size : Nat)) rfl ?_
  refine Zn (vx := Iv (s.size : Nat)) (vy := Iv 65536) rfl rfl (Iv (((s.size / 65536) : Nat) : Int)) rfl rfl (Zrn (Ztl (by omega) (by omega) (by omega)) (congrArg (Value.int .i64) (by omega))) ?_
  refine Zdb (w := Iv (((s.size / 65536) : Nat) : Int)) (v := w8 (BitVec.ofInt 8 (((s.size / 65536) : Nat) : Int))) rfl rfl rfl (Zjn rfl rfl rfl) ?_
  refine Zd rfl rfl (Iv (s.size : Nat)) rfl ?_
  refine Zn (vx := Iv (s.size : Nat)) (vy := Iv 256) rfl rfl (Iv (((s.size / 256) : Nat) : Int)) rfl rfl (Zrn (Ztl (by omega) (by omega) (by omega)) (congrArg (Value.int .i64) (by omega))) ?_
  refine Zdb (w := Iv (((s.size / 256) : Nat) : Int)) (v := w8 (BitVec.ofInt 8 (((s.size / 256) : Nat) : Int))) rfl rfl rfl (Zjn rfl rfl rfl) ?_
  refine Zd rfl rfl (Iv (s.size : Nat)) rfl ?_
  refine Zdb (w := Iv (s.size : Nat)) (v := w8 (BitVec.ofInt 8 (s.size : Nat))) rfl rfl rfl (Zjn rfl rfl rfl) ?_
  refine Zd5 (vs := [(0, w8 (BitVec.ofInt 8 k)), (1, w8 (BitVec.ofInt 8 (((s.size / 65536) : Nat) : Int))), (2, w8 (BitVec.ofInt 8 (((s.size / 256) : Nat) : Int))), (3, w8 (BitVec.ofInt 8 (s.size : Nat)))]) (v := slv 0 0 4 4) (blk := Zy [(BitVec.ofInt 8 k), (BitVec.ofInt 8 (((s.size / 65536) : Nat) : Int)), (BitVec.ofInt 8 (((s.size / 256) : Nat) : Int)), (BitVec.ofInt 8 (s.size : Nat))]) (nid := 0) (H' := [Zy [(BitVec.ofInt 8 k), (BitVec.ofInt 8 (((s.size / 65536) : Nat) : Int)), (BitVec.ofInt 8 (((s.size / 256) : Nat) : Int)), (BitVec.ofInt 8 (s.size : Nat))]]) rfl rfl rfl (by kernel_rfl) (by kernel_rfl) ?_
  refine Zb rfl rfl (slv 0 0 4 4) rfl (Za (Zc (Zg (Zi (Zd rfl rfl (slv 0 0 4 4) rfl (Zd rfl rfl (.string s) rfl ?_))))))
  have hl2 : ([(BitVec.ofInt 8 k), (BitVec.ofInt 8 (((s.size / 65536) : Nat) : Int)), (BitVec.ofInt 8 (((s.size / 256) : Nat) : Int)), (BitVec.ofInt 8 (s.size : Nat))] ++ (bl s)).length = s.size + 4 := by have := (rfl : _ = 4); have := (Zb5 s); first | (rw [List.length_append]; omega) | (simp; omega) | simp
  refine Zbz (p := slv 0 0 4 4) (q := .string s) (v := slv 0 0 (s.size + 4) (s.size + 4)) (b := 0) (blk := Zy ([(BitVec.ofInt 8 k), (BitVec.ofInt 8 (((s.size / 65536) : Nat) : Int)), (BitVec.ofInt 8 (((s.size / 256) : Nat) : Int)), (BitVec.ofInt 8 (s.size : Nat))] ++ (bl s))) (H' := [Zy ([(BitVec.ofInt 8 k), (BitVec.ofInt 8 (((s.size / 65536) : Nat) : Int)), (BitVec.ofInt 8 (((s.size / 256) : Nat) : Int)), (BitVec.ofInt 8 (s.size : Nat))] ++ (bl s))]) rfl rfl rfl (.inr rfl) rfl rfl (Zh0 (by_ := 1) (n' := s.size + 4) rfl rfl (rfl : Zhg _ 1 (.string _) = some (_, Zck _)) (Zgq _) rfl (by have := (rfl : _ = 4); omega) (by omega) (by decide) (by omega)) rfl (by kernel_rfl) ?_
  refine Zb rfl rfl (slv 0 0 (s.size + 4) (s.size + 4)) rfl (Za (Zc (Zg (Zi (Zd rfl rfl (slv 0 0 (s.size + 4) (s.size + 4)) rfl (Zb rfl rfl (slv 0 0 (s.size + 4) (s.size + 4)) rfl (Za (Zc (Zv (Zu ?_))))))))))
  exact Za5 [0] (v := slv 0 0 (s.size + 4) (s.size + 4)) rfl (by kernel_rfl) rfl rfl (by decide) (by simp [Zac, Zy]) ⟨rfl, rfl, rfl, by first | omega | exact Nat.le_refl _ | exact Nat.zero_le _ | (dsimp only; omega), by first | omega | exact Nat.le_refl _ | exact Nat.zero_le _ | (dsimp only; omega)⟩
theorem Zm7 (ls : List ByteArray) (n c : Nat) (hn : ls.length = n) (hc : n ≤ c) (hb : n ≤ 255) (hs : ∀ x, x ∈ ls → x.size ≤ 65536) : Zao Tryd.prog G 75 [slv 0 0 n c] [Zcz ls] (slv 1 0 (Zaj ls).length (Zaj ls).length) [Zcz ls, Zy (Zaj ls)] := by
  refine Zbv (fn := Tryd.f75) (nt := 23) rfl rfl rfl rfl ?_
  refine Zat 1 (H' := [Zcz ls, hole]) rfl ?_
  refine Zg (Zi (Zb rfl rfl (.slice none 0 0) rfl (Za (Zc (Zg (Zi (Zb rfl rfl (.slice none 0 0) rfl (Za (Zc (Zg (Zg ?_)))))))))))
  refine Zcw (Zcq.nilTmp (i := 3) (b := 1) true 1 rfl (by decide) rfl) ?_
  refine Zi (Zb rfl rfl (Iv 0) rfl (Za (Zc (Zap ?_))))
  refine Zb8 (fun x : Nat × Bs => match x with | (i, acc) => [slv 0 0 n c, dead, .slice none 0 0, slv 1 0 acc.length acc.length, Iv (i : Nat)]) (fun x : Nat × Bs => match x with | (i, acc) => [Zcz ls, Zy acc]) (fun x : Nat × Bs => match x with | (i, acc) => acc ++ Zgs i (ls.drop i) = Zgs 0 ls ∧ i ≤ n ∧ acc.length ≤ i * 65540) (fun x : Nat × Bs => match x with | (i, acc) => n - i) (0, []) ⟨rfl, by omega, by simp⟩ ?_ ?_
  · refine Zaq (n := 2) rfl ?_ (by kernel_rfl) (by kernel_rfl)
    repeat (first | exact trivial | refine ⟨.inl rfl, ?_⟩ | refine ⟨.inr ⟨rfl, rfl⟩, ?_⟩ | refine ⟨.inr ⟨congrArg (Value.int .i64) (by first | omega | (dsimp only; omega)), rfl⟩, ?_⟩)
  rintro ⟨i, acc⟩ ⟨hR, hi, ha⟩
  dsimp only at *
  refine Zat 1 (H' := [Zcz ls, Zy acc, hole]) rfl ?_
  have ha2 : acc.length ≤ 65540000 := by omega
  refine Zg (Zg (Zi (Zd rfl rfl (Iv (i : Nat)) rfl (Zd rfl rfl (slv 0 0 n c) rfl ?_))))
  refine Zb7 (p := slv 0 0 n c) (v := Iv (n : Nat)) rfl rfl rfl rfl ?_
  by_cases h1 : (i : Nat) < (n : Nat)
  refine Zn (vx := Iv (i : Nat)) (vy := Iv (n : Nat)) rfl rfl (.bool true) rfl rfl (Zdt (by omega)) ?_
  refine Za (Zc (Z0 rfl (Zai (Zc (Zg (Zap (Zg ?_)))))))
  have hsz : (ls.getD i ⟨#[]⟩).size ≤ 65536 := Zqd hs i
  refine Zi (Zd rfl rfl (Iv (i : Nat)) rfl ?_)
  refine Zn (vx := Iv (i : Nat)) (vy := Iv 1) rfl rfl (Iv ((i : Nat) + 1)) rfl rfl (Za7 (by omega) (by omega) (by omega)) ?_
  refine Zd rfl rfl (slv 0 0 n c) rfl (Zd rfl rfl (Iv (i : Nat)) rfl ?_)
  refine Zbk (b := 0) (o := 0) (j := i) (m := n) (c := c) (sz := 1) (i := (i : Nat)) (k := .i64) rfl rfl rfl rfl rfl (by omega) (by omega) (by omega) ?_
  refine Zo (p := pt 0 i) (v := .string (ls.getD i ⟨#[]⟩)) rfl rfl rfl (Zdv rfl rfl rfl (by have := hn; omega)) ?_
  refine Zad (e := []) (nid := 2) (Zqe (G := G) ((i : Nat) + 1) (ls.getD i ⟨#[]⟩) (by omega)) (vals := [Iv ((i : Nat) + 1), .string (ls.getD i ⟨#[]⟩)]) (v := slv 2 0 (((ls.getD i ⟨#[]⟩).size) + 4) (((ls.getD i ⟨#[]⟩).size) + 4)) (H' := [Zcz ls, Zy acc, Zy (Zc0 ⟨(i : Nat) + 1, (ls.getD i ⟨#[]⟩)⟩)]) rfl rfl rfl rfl rfl rfl rfl ⟨⟨rfl, rfl, trivial⟩, trivial, rfl, rfl, rfl⟩ (by kernel_rfl) (by kernel_rfl) ?_
  refine Zb rfl rfl (slv 2 0 (((ls.getD i ⟨#[]⟩).size) + 4) (((ls.getD i ⟨#[]⟩).size) + 4)) rfl (Za (Zc (Zi (Zd rfl rfl (slv 1 0 acc.length acc.length) rfl (Zd rfl rfl (slv 2 0 (((ls.getD i ⟨#[]⟩).size) + 4) (((ls.getD i ⟨#[]⟩).size) + 4)) rfl ?_)))))
  have hl2 : (acc ++ (Zc0 ⟨(i : Nat) + 1, (ls.getD i ⟨#[]⟩)⟩)).length = acc.length + ((ls.getD i ⟨#[]⟩).size) + 4 := by have := (Zgm ((i : Nat) + 1) (ls.getD i ⟨#[]⟩)); first | (rw [List.length_append]; omega) | (simp; omega) | simp
  refine Zbz (p := slv 1 0 acc.length acc.length) (q := slv 2 0 (((ls.getD i ⟨#[]⟩).size) + 4) (((ls.getD i ⟨#[]⟩).size) + 4)) (v := slv 1 0 ((acc ++ (Zc0 ⟨(i : Nat) + 1, (ls.getD i ⟨#[]⟩)⟩)).length) ((acc ++ (Zc0 ⟨(i : Nat) + 1, (ls.getD i ⟨#[]⟩)⟩)).length)) (b := 1) (blk := Zy (acc ++ (Zc0 ⟨(i : Nat) + 1, (ls.getD i ⟨#[]⟩)⟩))) (H' := [Zcz ls, Zy (acc ++ (Zc0 ⟨(i : Nat) + 1, (ls.getD i ⟨#[]⟩)⟩)), Zy (Zc0 ⟨(i : Nat) + 1, (ls.getD i ⟨#[]⟩)⟩)]) rfl rfl rfl (.inl ⟨_, rfl⟩) rfl rfl (Zh0 (by_ := 1) (n' := ((acc ++ (Zc0 ⟨(i : Nat) + 1, (ls.getD i ⟨#[]⟩)⟩)).length)) rfl rfl (Zka rfl rfl (by have := (Zgm ((i : Nat) + 1) (ls.getD i ⟨#[]⟩)); omega)) rfl rfl (by omega) (by omega) (by decide) (by omega)) rfl (by kernel_rfl) ?_
  refine Zb rfl rfl (slv 1 0 ((acc ++ (Zc0 ⟨(i : Nat) + 1, (ls.getD i ⟨#[]⟩)⟩)).length) ((acc ++ (Zc0 ⟨(i : Nat) + 1, (ls.getD i ⟨#[]⟩)⟩)).length)) rfl (Za (Z1 (Zc (Zi (Zd rfl rfl (Iv (i : Nat)) rfl ?_)))))
  refine Zn (vx := Iv (i : Nat)) (vy := Iv 1) rfl rfl (Iv ((i : Nat) + 1)) rfl rfl (Za7 (by omega) (by omega) (by omega)) ?_
  refine Zb rfl rfl (Iv ((i : Nat) + 1)) rfl (Za ?_)
  refine Zau ⟨((i + 1), (acc ++ (Zc0 ⟨(i : Nat) + 1, (ls.getD i ⟨#[]⟩)⟩))), ⟨Zy6 hR (by omega), by omega, by rw [List.length_append, Zg3]; dsimp only; omega⟩, by show n - (i + 1) < n - i; omega, ?_⟩
  refine Zaq (n := 2) rfl ?_ (by kernel_rfl) (by kernel_rfl)
  repeat (first | exact trivial | refine ⟨.inl rfl, ?_⟩ | refine ⟨.inr ⟨rfl, rfl⟩, ?_⟩ | refine ⟨.inr ⟨congrArg (Value.int .i64) (by first | omega | (dsimp only; omega)), rfl⟩, ?_⟩)
  refine Zn (vx := Iv (i : Nat)) (vy := Iv (n : Nat)) rfl rfl (.bool false) rfl rfl (Zdh (by omega)) ?_
  refine Za (Zc (Zx rfl (Zce (Zbj (Zbo (Zbp rfl (Zc (Zg (Zi (Zd rfl rfl (slv 1 0 acc.length acc.length) rfl (Zb rfl rfl (slv 1 0 acc.length acc.length) rfl (Za (Zc (Zv (Zu ?_)))))))))))))))
  rw [show Zaj ls = acc from by rw [Zpc ls (by omega) hs, ← hR, List.drop_of_length_le (by omega)]; simp [Zgs]]
  exact Za5 [0, 1] (v := slv 1 0 acc.length acc.length) rfl (by kernel_rfl) rfl rfl (by decide) (by simp [Zac, Zy, Zcz]) ⟨rfl, rfl, rfl, by first | omega | exact Nat.le_refl _ | exact Nat.zero_le _ | (dsimp only; omega), by first | omega | exact Nat.le_refl _ | exact Nat.zero_le _ | (dsimp only; omega)⟩
theorem Zb4 (n low high : Int) : Zao Tryd.prog G 86 [Iv n, Iv low, Iv high] [] (.bool (Zc3 n low high)) [] := by
 refine Zbv (fn := Tryd.f86) (nt := 15) rfl rfl rfl rfl ?_
 refine Zg (Zi (Zb rfl rfl (.bool false) rfl (Za (Zc (Zg (Zi (Zd rfl rfl (Iv n) rfl (Zd rfl rfl (Iv low) rfl ?_))))))))
 by_cases h1 : low ≤ n
 refine Zn (vx := Iv n) (vy := Iv low) rfl rfl (.bool true) rfl rfl (Zq2 (by omega)) ?_
 refine Zd rfl rfl (.bool true) rfl (Zd rfl rfl (Iv n) rfl (Zd rfl rfl (Iv high) rfl ?_))
 by_cases h2 : n ≤ high
 refine Zn (vx := Iv n) (vy := Iv high) rfl rfl (.bool true) rfl rfl (Zmf (by omega)) ?_
 refine Zk rfl rfl (.bool true) rfl (Zb rfl rfl (.bool true) rfl (Za (Zc (Zv (Zu ?_)))))
 rw [show Zc3 n low high = true from Zbg (by omega) (by omega)]
 exact Zm (v := .bool true) rfl rfl rfl (by kernel_rfl) rfl
 refine Zn (vx := Iv n) (vy := Iv high) rfl rfl (.bool false) rfl rfl (Zk8 (by omega)) ?_
 refine Zk rfl rfl (.bool false) rfl (Zb rfl rfl (.bool false) rfl (Za (Zc (Zv (Zu ?_)))))
 rw [show Zc3 n low high = false from Zah (by omega)]
 exact Zm (v := .bool false) rfl rfl rfl (by kernel_rfl) rfl
 refine Zn (vx := Iv n) (vy := Iv low) rfl rfl (.bool false) rfl rfl (Zrb (by omega)) ?_
 refine Zd rfl rfl (.bool false) rfl (Zf rfl rfl (Zf rfl rfl (Zf rfl rfl (Zk rfl rfl (.bool false) rfl (Zb rfl rfl (.bool false) rfl (Za (Zc (Zv (Zu ?_)))))))))
 rw [show Zc3 n low high = false from Zah (by omega)]
 exact Zm (v := .bool false) rfl rfl rfl (by kernel_rfl) rfl
theorem Znu (h : Head) : Zao Tryd.prog G 85 [Zbf h] [] (.bool (decide (Zbt h))) [] := by
 refine Zbv (fn := Tryd.f85) (nt := 21) rfl rfl rfl rfl ?_
 refine Zat 1 (H' := [hole]) rfl ?_
 refine Zg (Zi ?_)
 refine Zel (v := Zbf h) (b := bxB 36 (Zan h)) (nid := 0) (H' := [bxB 36 (Zan h)]) rfl rfl rfl (by kernel_rfl) (by kernel_rfl) ?_
 refine Zb rfl rfl (.bool false) rfl (Za (Zc (Zg (Zi ?_))))
 refine Zj (b := 0) (o := 0) (n := 0) (o' := 0) rfl rfl rfl rfl rfl ?_
 refine Zo (p := pt 0 0) (v := Iv h.region) rfl rfl rfl (by kernel_rfl) ?_
 by_cases h1 : 1 ≤ h.region
 by_cases h2 : h.region ≤ 5
 refine Zs ((Zb4 (G := G) h.region 1 5).res (congrArg Value.bool (Zbg (by omega) (by omega)))) (vals := [Iv h.region, Iv 1, Iv 5]) (res' := .bool true) rfl rfl rfl rfl rfl rfl ?_
 refine Zd rfl rfl (.bool true) rfl ?_
 refine Zj (b := 0) (o := 0) (n := 1) (o' := 1) rfl rfl rfl rfl rfl ?_
 refine Zo (p := pt 0 1) (v := Iv h.epoch) rfl rfl rfl (by kernel_rfl) ?_
 by_cases h3 : 1 ≤ h.epoch
 by_cases h4 : h.epoch ≤ 900000000
 refine Zs ((Zb4 (G := G) h.epoch 1 900000000).res (congrArg Value.bool (Zbg (by omega) (by omega)))) (vals := [Iv h.epoch, Iv 1, Iv 900000000]) (res' := .bool true) rfl rfl rfl rfl rfl rfl ?_
 refine Zk rfl rfl (.bool true) rfl (Zd rfl rfl (.bool true) rfl ?_)
 refine Zj (b := 0) (o := 0) (n := 2) (o' := 2) rfl rfl rfl rfl rfl ?_
 refine Zo (p := pt 0 2) (v := Iv h.size) rfl rfl rfl (by kernel_rfl) ?_
 by_cases h5 : 0 ≤ h.size
 by_cases h6 : h.size ≤ 100000
 refine Zs ((Zb4 (G := G) h.size 0 100000).res (congrArg Value.bool (Zbg (by omega) (by omega)))) (vals := [Iv h.size, Iv 0, Iv 100000]) (res' := .bool true) rfl rfl rfl rfl rfl rfl ?_
 refine Zk rfl rfl (.bool true) rfl (Zd rfl rfl (.bool true) rfl ?_)
 refine Zj (b := 0) (o := 0) (n := 35) (o' := 35) rfl rfl rfl rfl rfl ?_
 refine Zo (p := pt 0 35) (v := Iv h.tick) rfl rfl rfl (by kernel_rfl) ?_
 by_cases h7 : 0 ≤ h.tick
 by_cases h8 : h.tick ≤ 900000000
 refine Zs ((Zb4 (G := G) h.tick 0 900000000).res (congrArg Value.bool (Zbg (by omega) (by omega)))) (vals := [Iv h.tick, Iv 0, Iv 900000000]) (res' := .bool true) rfl rfl rfl rfl rfl rfl ?_
 refine Zk rfl rfl (.bool true) rfl (Zb rfl rfl (.bool true) rfl (Za (Zc (Zv (Zu ?_)))))
 rw [show decide (Zbt h) = true from decide_eq_true (by unfold Zbt; omega)]
 exact Zm (v := .bool true) rfl rfl rfl (by kernel_rfl) rfl
 refine Zs ((Zb4 (G := G) h.tick 0 900000000).res (congrArg Value.bool (Zah (by omega)))) (vals := [Iv h.tick, Iv 0, Iv 900000000]) (res' := .bool false) rfl rfl rfl rfl rfl rfl ?_
 refine Zk rfl rfl (.bool false) rfl (Zb rfl rfl (.bool false) rfl (Za (Zc (Zv (Zu ?_)))))
 rw [show decide (Zbt h) = false from decide_eq_false (by unfold Zbt; omega)]
 exact Zm (v := .bool false) rfl rfl rfl (by kernel_rfl) rfl
 refine Zs ((Zb4 (G := G) h.tick 0 900000000).res (congrArg Value.bool (Zah (by omega)))) (vals := [Iv h.tick, Iv 0, Iv 900000000]) (res' := .bool false) rfl rfl rfl rfl rfl rfl ?_
 refine Zk rfl rfl (.bool false) rfl (Zb rfl rfl (.bool false) rfl (Za (Zc (Zv (Zu ?_)))))
 rw [show decide (Zbt h) = false from decide_eq_false (by unfold Zbt; omega)]
 exact Zm (v := .bool false) rfl rfl rfl (by kernel_rfl) rfl
 refine Zs ((Zb4 (G := G) h.size 0 100000).res (congrArg Value.bool (Zah (by omega)))) (vals := [Iv h.size, Iv 0, Iv 100000]) (res' := .bool false) rfl rfl rfl rfl rfl rfl ?_
 refine Zk rfl rfl (.bool false) rfl (Zd rfl rfl (.bool false) rfl (Zf rfl rfl (Zf rfl rfl (Zf rfl rfl (Zk rfl rfl (.bool false) rfl (Zb rfl rfl (.bool false) rfl (Za (Zc (Zv (Zu ?_))))))))))
 rw [show decide (Zbt h) = false from decide_eq_false (by unfold Zbt; omega)]
 exact Zm (v := .bool false) rfl rfl rfl (by kernel_rfl) rfl
 refine Zs ((Zb4 (G := G) h.size 0 100000).res (congrArg Value.bool (Zah (by omega)))) (vals := [Iv h.size, Iv 0, Iv 100000]) (res' := .bool false) rfl rfl rfl rfl rfl rfl ?_
 refine Zk rfl rfl (.bool false) rfl (Zd rfl rfl (.bool false) rfl (Zf rfl rfl (Zf rfl rfl (Zf rfl rfl (Zk rfl rfl (.bool false) rfl (Zb rfl rfl (.bool false) rfl (Za (Zc (Zv (Zu ?_))))))))))
 rw [show decide (Zbt h) = false from decide_eq_false (by unfold Zbt; omega)]
 exact Zm (v := .bool false) rfl rfl rfl (by kernel_rfl) rfl
 refine Zs ((Zb4 (G := G) h.epoch 1 900000000).res (congrArg Value.bool (Zah (by omega)))) (vals := [Iv h.epoch, Iv 1, Iv 900000000]) (res' := .bool false) rfl rfl rfl rfl rfl rfl ?_
 refine Zk rfl rfl (.bool false) rfl (Zd rfl rfl (.bool false) rfl (Zf rfl rfl (Zf rfl rfl (Zf rfl rfl (Zk rfl rfl (.bool false) rfl (Zd rfl rfl (.bool false) rfl (Zf rfl rfl (Zf rfl rfl (Zf rfl rfl (Zk rfl rfl (.bool false) rfl (Zb rfl rfl (.bool false) rfl (Za (Zc (Zv (Zu ?_)))))))))))))))
 rw [show decide (Zbt h) = false from decide_eq_false (by unfold Zbt; omega)]
 exact Zm (v := .bool false) rfl rfl rfl (by kernel_rfl) rfl
 refine Zs ((Zb4 (G := G) h.epoch 1 900000000).res (congrArg Value.bool (Zah (by omega)))) (vals := [Iv h.epoch, Iv 1, Iv 900000000]) (res' := .bool false) rfl rfl rfl rfl rfl rfl ?_
 refine Zk rfl rfl (.bool false) rfl (Zd rfl rfl (.bool false) rfl (Zf rfl rfl (Zf rfl rfl (Zf rfl rfl (Zk rfl rfl (.bool false) rfl (Zd rfl rfl (.bool false) rfl (Zf rfl rfl (Zf rfl rfl (Zf rfl rfl (Zk rfl rfl (.bool false) rfl (Zb rfl rfl (.bool false) rfl (Za (Zc (Zv (Zu ?_)))))))))))))))
 rw [show decide (Zbt h) = false from decide_eq_false (by unfold Zbt; omega)]
 exact Zm (v := .bool false) rfl rfl rfl (by kernel_rfl) rfl
 refine Zs ((Zb4 (G := G) h.region 1 5).res (congrArg Value.bool (Zah (by omega)))) (vals := [Iv h.region, Iv 1, Iv 5]) (res' := .bool false) rfl rfl rfl rfl rfl rfl ?_
 refine Zd rfl rfl (.bool false) rfl (Zf rfl rfl (Zf rfl rfl (Zf rfl rfl (Zk rfl rfl (.bool false) rfl (Zd rfl rfl (.bool false) rfl (Zf rfl rfl (Zf rfl rfl (Zf rfl rfl (Zk rfl rfl (.bool false) rfl (Zd rfl rfl (.bool false) rfl (Zf rfl rfl (Zf rfl rfl (Zf rfl rfl (Zk rfl rfl (.bool false) rfl (Zb rfl rfl (.bool false) rfl (Za (Zc (Zv (Zu ?_)))))))))))))))))))
 rw [show decide (Zbt h) = false from decide_eq_false (by unfold Zbt; omega)]
 exact Zm (v := .bool false) rfl rfl rfl (by kernel_rfl) rfl
 refine Zs ((Zb4 (G := G) h.region 1 5).res (congrArg Value.bool (Zah (by omega)))) (vals := [Iv h.region, Iv 1, Iv 5]) (res' := .bool false) rfl rfl rfl rfl rfl rfl ?_
 refine Zd rfl rfl (.bool false) rfl (Zf rfl rfl (Zf rfl rfl (Zf rfl rfl (Zk rfl rfl (.bool false) rfl (Zd rfl rfl (.bool false) rfl (Zf rfl rfl (Zf rfl rfl (Zf rfl rfl (Zk rfl rfl (.bool false) rfl (Zd rfl rfl (.bool false) rfl (Zf rfl rfl (Zf rfl rfl (Zf rfl rfl (Zk rfl rfl (.bool false) rfl (Zb rfl rfl (.bool false) rfl (Za (Zc (Zv (Zu ?_)))))))))))))))))))
 rw [show decide (Zbt h) = false from decide_eq_false (by unfold Zbt; omega)]
 exact Zm (v := .bool false) rfl rfl rfl (by kernel_rfl) rfl
end Go.Flat
namespace Go.Flat
open Go.Proofs
variable {G : Glob}
theorem Zur (h : Head) : ∀ x, x ∈ Zcg h → x.size ≤ 65536 := by
 intro x hx
 have h1 := Za6 h.region
 have h2 := Za6 h.epoch
 have h3 := Za6 h.size
 have h4 := Za6 h.tick
 simp only [Zcg, List.mem_cons, List.mem_nil_iff, or_false] at hx
 rcases hx with rfl | rfl | rfl | rfl | rfl
 all_goals first | omega | (rw [Zbc, Ze2]; omega)
theorem Zzg {h : Head} (hr : Zbt h) : Zcl h = (Zaj (Zcg h), 0) := by
 unfold Zcl
 rw [if_pos (by rw [Zgo, if_pos hr])]
theorem Zlm (h : Head) : (Zaj (Zcg h)).length ≤ 100 := by
 have := Zh2 (Zd0 0 (Zcg h)) 0 []
 simp only [Zcg, Zd0, Znm, Zbc, Ze2, List.length_nil] at this
 have h1 := Za6 h.region
 have h2 := Za6 h.epoch
 have h3 := Za6 h.size
 have h4 := Za6 h.tick
 show (Z6 (Zd0 0 (Zcg h)) 0 []).1.length ≤ 100
 simp only [Zcg, Zd0]
 omega
def Zdn (s : Signed) : List ByteArray := [Zl (Zaj (Zcg s.head)), (Zp s.node).1, Zl (dgL s.tag)]
theorem Zph (s : Signed) : ∀ x, x ∈ Zdn s → x.size ≤ 65536 := by
 intro x hx
 have h1 := Za6 s.node
 have h2 := Zlm s.head
 simp only [Zdn, List.mem_cons, List.mem_nil_iff, or_false] at hx
 rcases hx with rfl | rfl | rfl
 all_goals first | omega | (rw [Zbc]; omega) | (rw [Zbc, Ze2]; omega)
def Zfy (s : Signed) : Prop := Zbt s.head ∧ 1 ≤ s.node ∧ s.node ≤ 3
instance (s : Signed) : Decidable (Zfy s) := inferInstanceAs (Decidable (_ ∧ _))
theorem Ziu {s : Signed} (h : Zfy s) : Za1 s = (Zaj (Zdn s), 0) := by
 unfold Za1
 rw [if_pos ⟨by rw [Zgo, if_pos h.1], h.2⟩, Zzg h.1]
 try rfl
theorem Zyz {s : Signed} (h : ¬ Zfy s) : Za1 s = ([], 70) := by
 unfold Za1
 rw [if_neg]
 rintro ⟨h1, h2⟩
 refine h ⟨?_, h2⟩
 rw [Zgo] at h1
 split at h1
 ·assumption
 ·omega
def Z5k (kk : Nat → BitVec 32) (master : D) (h : Head) (node : Int) : D := Zz3 kk (Zz3 kk master (Zl [75#8, BitVec.ofInt 8 h.region, BitVec.ofInt 8 node])) (Z1w ++ Zl (Zaj (Zcg h)))
def Z3z : Signed := ⟨⟨0, 0, 0, dz, 0⟩, 0, dz⟩
def Z7d (kk : Nat → BitVec 32) (master : D) (h : Head) (node : Int) : Signed × Int := if Zbt h ∧ 1 ≤ node ∧ node ≤ 3 then (⟨h, node, Z5k kk master h node⟩, 0) else (Z3z, 70)
def Z57 (kk : Nat → BitVec 32) (master : D) (s : Signed) : Int := if Zfy s then (if Zdd 32 (Z5k kk master s.head s.node) s.tag = true then 0 else 72) else 70
theorem Ztk (h : Head) (hr : Zbt h) : Zao Tryd.prog G 97 [Zbf h] [] (slv 0 0 (Zaj (Zcg h)).length (Zaj (Zcg h)).length) [Zy (Zaj (Zcg h))] := by
  unfold Zbt at hr
  refine Zbv (fn := Tryd.f97) (nt := 20) rfl rfl rfl rfl ?_
  refine Zat 3 (H' := [hole, hole, hole]) rfl ?_
  refine Zg (Zi ?_)
  refine Zel (v := Zbf h) (b := bxB 36 (Zan h)) (nid := 0) (H' := [bxB 36 (Zan h), hole, hole]) rfl rfl rfl (by kernel_rfl) (by kernel_rfl) ?_
  refine Zb rfl rfl (.slice none 0 0) rfl (Za (Zc (Zg ?_)))
  refine Zfv (by kernel_rfl) ?_
  refine Zj (b := 0) (o := 0) (n := 0) (o' := 0) rfl rfl rfl rfl rfl ?_
  refine Zo (p := pt 0 0) (v := Iv h.region) rfl rfl rfl (by kernel_rfl) ?_
  refine Zs (Zd4 (G := G) h.region (by omega) (by omega)) (vals := [Iv h.region]) (res' := .string ((Zp h.region).1)) rfl rfl rfl rfl rfl rfl ?_
  refine Zj (b := 0) (o := 0) (n := 1) (o' := 1) rfl rfl rfl rfl rfl ?_
  refine Zo (p := pt 0 1) (v := Iv h.epoch) rfl rfl rfl (by kernel_rfl) ?_
  refine Zs (Zd4 (G := G) h.epoch (by omega) (by omega)) (vals := [Iv h.epoch]) (res' := .string ((Zp h.epoch).1)) rfl rfl rfl rfl rfl rfl ?_
  refine Zj (b := 0) (o := 0) (n := 2) (o' := 2) rfl rfl rfl rfl rfl ?_
  refine Zo (p := pt 0 2) (v := Iv h.size) rfl rfl rfl (by kernel_rfl) ?_
  refine Zs (Zd4 (G := G) h.size (by omega) (by omega)) (vals := [Iv h.size]) (res' := .string ((Zp h.size).1)) rfl rfl rfl rfl rfl rfl ?_
  refine Zj (b := 0) (o := 0) (n := 3) (o' := 3) rfl rfl rfl rfl rfl ?_
  refine Zo (p := pt 0 3) (v := dgV h.root) rfl rfl rfl (by kernel_rfl) ?_
  refine Zs (Zln (G := G) h.root) (vals := [dgV h.root]) (res' := .string (Zl (dgL h.root))) rfl rfl rfl rfl rfl rfl ?_
  refine Zj (b := 0) (o := 0) (n := 35) (o' := 35) rfl rfl rfl rfl rfl ?_
  refine Zo (p := pt 0 35) (v := Iv h.tick) rfl rfl rfl (by kernel_rfl) ?_
  refine Zs (Zd4 (G := G) h.tick (by omega) (by omega)) (vals := [Iv h.tick]) (res' := .string ((Zp h.tick).1)) rfl rfl rfl rfl rfl rfl ?_
  refine Zd5 (vs := [(0, .string ((Zp h.region).1)), (1, .string ((Zp h.epoch).1)), (2, .string ((Zp h.size).1)), (3, .string (Zl (dgL h.root))), (4, .string ((Zp h.tick).1))]) (v := slv 1 0 5 5) (blk := txB [(Zp h.region).1, (Zp h.epoch).1, (Zp h.size).1, (Zl (dgL h.root)), (Zp h.tick).1]) (nid := 1) (H' := [bxB 36 (Zan h), txB [(Zp h.region).1, (Zp h.epoch).1, (Zp h.size).1, (Zl (dgL h.root)), (Zp h.tick).1], hole]) rfl rfl rfl (by kernel_rfl) (by kernel_rfl) ?_
  refine Zad (e := [some (1, 0)]) (nid := 2) (Zm7 (G := G) [(Zp h.region).1, (Zp h.epoch).1, (Zp h.size).1, (Zl (dgL h.root)), (Zp h.tick).1] 5 5 (by rfl) (by first | omega | exact Nat.le_refl _) (by omega) (Zur h)) (vals := [slv 1 0 5 5]) (v := slv 2 0 ((Zaj [(Zp h.region).1, (Zp h.epoch).1, (Zp h.size).1, (Zl (dgL h.root)), (Zp h.tick).1]).length) ((Zaj [(Zp h.region).1, (Zp h.epoch).1, (Zp h.size).1, (Zl (dgL h.root)), (Zp h.tick).1]).length)) (H' := [bxB 36 (Zan h), txB [(Zp h.region).1, (Zp h.epoch).1, (Zp h.size).1, (Zl (dgL h.root)), (Zp h.tick).1], Zy (Zaj [(Zp h.region).1, (Zp h.epoch).1, (Zp h.size).1, (Zl (dgL h.root)), (Zp h.tick).1])]) rfl rfl rfl rfl rfl rfl rfl ⟨⟨⟨rfl, rfl, rfl, by first | omega | exact Nat.le_refl _, by first | omega | exact Nat.le_refl _⟩, trivial⟩, ⟨(Zg9 rfl), trivial⟩, rfl, rfl, rfl⟩ (by kernel_rfl) (by kernel_rfl) ?_
  refine Zb rfl rfl (slv 2 0 ((Zaj [(Zp h.region).1, (Zp h.epoch).1, (Zp h.size).1, (Zl (dgL h.root)), (Zp h.tick).1]).length) ((Zaj [(Zp h.region).1, (Zp h.epoch).1, (Zp h.size).1, (Zl (dgL h.root)), (Zp h.tick).1]).length)) rfl ?_
  refine Zeo (by kernel_rfl) ?_
  refine Zc (Zv (Zu ?_))
  exact Za5 [2] (v := slv 2 0 ((Zaj [(Zp h.region).1, (Zp h.epoch).1, (Zp h.size).1, (Zl (dgL h.root)), (Zp h.tick).1]).length) ((Zaj [(Zp h.region).1, (Zp h.epoch).1, (Zp h.size).1, (Zl (dgL h.root)), (Zp h.tick).1]).length)) rfl (by kernel_rfl) rfl rfl (by decide) (by simp [Zac, Zy]) ⟨rfl, rfl, rfl, by first | omega | exact Nat.le_refl _ | exact Nat.zero_le _ | (dsimp only; omega), by first | omega | exact Nat.le_refl _ | exact Nat.zero_le _ | (dsimp only; omega)⟩
theorem Zqk (s : Signed) : Zao Tryd.prog G 64 [Zaa s] [] (.bool (decide (Zfy s))) [] := by
  refine Zbv (fn := Tryd.f64) (nt := 11) rfl rfl rfl rfl ?_
  refine Zat 1 (H' := [hole]) rfl ?_
  refine Zg (Zi ?_)
  refine Zel (v := Zaa s) (b := bxB 69 (Z3 s)) (nid := 0) (H' := [bxB 69 (Z3 s)]) rfl rfl rfl (by kernel_rfl) (by kernel_rfl) ?_
  refine Zb rfl rfl (.bool false) rfl (Za (Zc (Zg (Zi ?_))))
  refine Zj (b := 0) (o := 0) (n := 0) (o' := 0) rfl rfl rfl rfl rfl ?_
  refine Zo (p := pt 0 0) (v := Zbf s.head) rfl rfl rfl (by kernel_rfl) ?_
  refine Zs (Znu (G := G) s.head) (vals := [Zbf s.head]) (res' := .bool (decide (Zbt s.head))) rfl rfl rfl rfl rfl rfl ?_
  refine Zd rfl rfl (.bool (decide (Zbt s.head))) rfl ?_
  rcases Bool.eq_false_or_eq_true (decide (Zbt s.head)) with h1 | h1
  refine Zj (b := 0) (o := 0) (n := 36) (o' := 36) (by exact congrArg (fun b => some (b == true)) h1) rfl rfl rfl rfl ?_
  refine Zo (p := pt 0 36) (v := Iv s.node) (by exact congrArg (fun b => some (b == true)) h1) rfl rfl (by kernel_rfl) ?_
  by_cases h2 : 1 ≤ s.node
  by_cases h3 : s.node ≤ 3
  refine Zs ((Zb4 (G := G) s.node 1 3).res (congrArg Value.bool (Zbg (by omega) (by omega)))) (vals := [Iv s.node, Iv 1, Iv 3]) (res' := .bool true) (by exact congrArg (fun b => some (b == true)) h1) rfl rfl rfl rfl rfl ?_
  refine Zk rfl rfl (.bool true) (by show some (if _ then _ else _) = _; rw [h1] <;> rfl) ?_
  refine Zb rfl rfl (.bool true) rfl (Za (Zc (Zv (Zu ?_))))
  rw [show decide (Zfy s) = true from decide_eq_true ⟨of_decide_eq_true (by assumption), by omega, by omega⟩]
  exact Zm (v := .bool true) rfl rfl rfl (by kernel_rfl) rfl
  refine Zs ((Zb4 (G := G) s.node 1 3).res (congrArg Value.bool (Zah (by omega)))) (vals := [Iv s.node, Iv 1, Iv 3]) (res' := .bool false) (by exact congrArg (fun b => some (b == true)) h1) rfl rfl rfl rfl rfl ?_
  refine Zk rfl rfl (.bool false) (by show some (if _ then _ else _) = _; rw [h1] <;> rfl) ?_
  refine Zb rfl rfl (.bool false) rfl (Za (Zc (Zv (Zu ?_))))
  rw [show decide (Zfy s) = false from decide_eq_false (fun hh => by first | (have := hh.2; omega) | (exact absurd hh.1 (of_decide_eq_false (by assumption))))]
  exact Zm (v := .bool false) rfl rfl rfl (by kernel_rfl) rfl
  refine Zs ((Zb4 (G := G) s.node 1 3).res (congrArg Value.bool (Zah (by omega)))) (vals := [Iv s.node, Iv 1, Iv 3]) (res' := .bool false) (by exact congrArg (fun b => some (b == true)) h1) rfl rfl rfl rfl rfl ?_
  refine Zk rfl rfl (.bool false) (by show some (if _ then _ else _) = _; rw [h1] <;> rfl) ?_
  refine Zb rfl rfl (.bool false) rfl (Za (Zc (Zv (Zu ?_))))
  rw [show decide (Zfy s) = false from decide_eq_false (fun hh => by first | (have := hh.2; omega) | (exact absurd hh.1 (of_decide_eq_false (by assumption))))]
  exact Zm (v := .bool false) rfl rfl rfl (by kernel_rfl) rfl
  refine Zf (by exact congrArg (fun b => some (b == true)) h1) rfl ?_
  refine Zf (by exact congrArg (fun b => some (b == true)) h1) rfl ?_
  refine Zf (by exact congrArg (fun b => some (b == true)) h1) rfl ?_
  refine Zk rfl rfl (.bool false) (by show some (if _ then _ else _) = _; rw [h1] <;> rfl) ?_
  refine Zb rfl rfl (.bool false) rfl (Za (Zc (Zv (Zu ?_))))
  rw [show decide (Zfy s) = false from decide_eq_false (fun hh => by first | (have := hh.2; omega) | (exact absurd hh.1 (of_decide_eq_false (by assumption))))]
  exact Zm (v := .bool false) rfl rfl rfl (by kernel_rfl) rfl
theorem Zmd (s : Signed) (hr : Zbt s.head) (h1 : 1 ≤ s.node) (h2 : s.node ≤ 3) : Zao Tryd.prog G 89 [Zaa s] [] (slv 0 0 (Zaj (Zdn s)).length (Zaj (Zdn s)).length) [Zy (Zaj (Zdn s))] := by
  refine Zbv (fn := Tryd.f89) (nt := 15) rfl rfl rfl rfl ?_
  refine Zat 4 (H' := [hole, hole, hole, hole]) rfl ?_
  refine Zg (Zi ?_)
  refine Zel (v := Zaa s) (b := bxB 69 (Z3 s)) (nid := 0) (H' := [bxB 69 (Z3 s), hole, hole, hole]) rfl rfl rfl (by kernel_rfl) (by kernel_rfl) ?_
  refine Zb rfl rfl (.slice none 0 0) rfl (Za (Zc (Zg ?_)))
  refine Zfv (by kernel_rfl) ?_
  refine Zj (b := 0) (o := 0) (n := 0) (o' := 0) rfl rfl rfl rfl rfl ?_
  refine Zo (p := pt 0 0) (v := Zbf s.head) rfl rfl rfl (by kernel_rfl) ?_
  have hbl5 := Zlm s.head
  refine Zad (e := []) (nid := 1) (Ztk (G := G) s.head hr) (vals := [Zbf s.head]) (v := slv 1 0 ((Zaj (Zcg s.head)).length) ((Zaj (Zcg s.head)).length)) (H' := [bxB 69 (Z3 s), Zy (Zaj (Zcg s.head)), hole, hole]) rfl rfl rfl rfl rfl rfl rfl ⟨⟨rfl, trivial⟩, trivial, rfl, rfl, rfl⟩ (by kernel_rfl) (by kernel_rfl) ?_
  refine Zc6 (p := slv 1 0 ((Zaj (Zcg s.head)).length) ((Zaj (Zcg s.head)).length)) (v := .string (Zl (Zaj (Zcg s.head)))) rfl rfl rfl (Zbi rfl rfl rfl rfl rfl (by omega)) ?_
  refine Zj (b := 0) (o := 0) (n := 36) (o' := 36) rfl rfl rfl rfl rfl ?_
  refine Zo (p := pt 0 36) (v := Iv s.node) rfl rfl rfl (by kernel_rfl) ?_
  refine Zs (Zd4 (G := G) s.node (by omega) (by omega)) (vals := [Iv s.node]) (res' := .string ((Zp s.node).1)) rfl rfl rfl rfl rfl rfl ?_
  refine Zj (b := 0) (o := 0) (n := 37) (o' := 37) rfl rfl rfl rfl rfl ?_
  refine Zo (p := pt 0 37) (v := dgV s.tag) rfl rfl rfl (by kernel_rfl) ?_
  refine Zs (Zln (G := G) s.tag) (vals := [dgV s.tag]) (res' := .string (Zl (dgL s.tag))) rfl rfl rfl rfl rfl rfl ?_
  refine Zd5 (vs := [(0, .string (Zl (Zaj (Zcg s.head)))), (1, .string ((Zp s.node).1)), (2, .string (Zl (dgL s.tag)))]) (v := slv 2 0 3 3) (blk := txB [(Zl (Zaj (Zcg s.head))), (Zp s.node).1, (Zl (dgL s.tag))]) (nid := 2) (H' := [bxB 69 (Z3 s), Zy (Zaj (Zcg s.head)), txB [(Zl (Zaj (Zcg s.head))), (Zp s.node).1, (Zl (dgL s.tag))], hole]) rfl rfl rfl (by kernel_rfl) (by kernel_rfl) ?_
  refine Zad (e := [some (2, 0)]) (nid := 3) (Zm7 (G := G) [(Zl (Zaj (Zcg s.head))), (Zp s.node).1, (Zl (dgL s.tag))] 3 3 (by rfl) (by first | omega | exact Nat.le_refl _) (by omega) (Zph s)) (vals := [slv 2 0 3 3]) (v := slv 3 0 ((Zaj [(Zl (Zaj (Zcg s.head))), (Zp s.node).1, (Zl (dgL s.tag))]).length) ((Zaj [(Zl (Zaj (Zcg s.head))), (Zp s.node).1, (Zl (dgL s.tag))]).length)) (H' := [bxB 69 (Z3 s), Zy (Zaj (Zcg s.head)), txB [(Zl (Zaj (Zcg s.head))), (Zp s.node).1, (Zl (dgL s.tag))], Zy (Zaj [(Zl (Zaj (Zcg s.head))), (Zp s.node).1, (Zl (dgL s.tag))])]) rfl rfl rfl rfl rfl rfl rfl ⟨⟨⟨rfl, rfl, rfl, by first | omega | exact Nat.le_refl _, by first | omega | exact Nat.le_refl _⟩, trivial⟩, ⟨(Zg9 rfl), trivial⟩, rfl, rfl, rfl⟩ (by kernel_rfl) (by kernel_rfl) ?_
  refine Zb rfl rfl (slv 3 0 ((Zaj [(Zl (Zaj (Zcg s.head))), (Zp s.node).1, (Zl (dgL s.tag))]).length) ((Zaj [(Zl (Zaj (Zcg s.head))), (Zp s.node).1, (Zl (dgL s.tag))]).length)) rfl ?_
  refine Zeo (by kernel_rfl) ?_
  refine Zc (Zv (Zu ?_))
  exact Za5 [3] (v := slv 3 0 ((Zaj [(Zl (Zaj (Zcg s.head))), (Zp s.node).1, (Zl (dgL s.tag))]).length) ((Zaj [(Zl (Zaj (Zcg s.head))), (Zp s.node).1, (Zl (dgL s.tag))]).length)) rfl (by kernel_rfl) rfl rfl (by decide) (by simp [Zac, Zy]) ⟨rfl, rfl, rfl, by first | omega | exact Nat.le_refl _ | exact Nat.zero_le _ | (dsimp only; omega), by first | omega | exact Nat.le_refl _ | exact Nat.zero_le _ | (dsimp only; omega)⟩
end Go.Flat
namespace Go.Flat
open Go.Proofs Go.ChangeShapes Go.WideShapes Go.RowKit
variable {G : Glob}
def Zee (a b : Head) : Bool := ((a.region == b.region) && ((a.epoch == b.epoch) && ((a.size == b.size) && ((Zdd 32 a.root b.root) && ((a.tick == b.tick) && true)))))
theorem Z29 (a b : Head) {d : Nat} : Zam Tryd.prog (Op.equalIn (d + 3) 26 (Zbf a) (Zbf b)) = some (Zee a b) :=
 eqS (P := Tryd.prog) (d + 2) 26 _ (Zan a).toArray (Zan b).toArray (fun f => if f.offset = 0 then (a.region == b.region) else if f.offset = 1 then (a.epoch == b.epoch) else if f.offset = 2 then (a.size == b.size) else if f.offset = 3 then (Zdd 32 a.root b.root) else if f.offset = 35 then (a.tick == b.tick) else true) rfl (by kernel_rfl) (List.forall_mem_cons.2 ⟨⟨by decide, Iv a.region, Iv b.region, Zbu rfl rfl rfl, Zbu rfl rfl rfl, Zf2 rfl⟩, List.forall_mem_cons.2 ⟨⟨by decide, Iv a.epoch, Iv b.epoch, Zbu rfl rfl rfl, Zbu rfl rfl rfl, Zf2 rfl⟩, List.forall_mem_cons.2 ⟨⟨by decide, Iv a.size, Iv b.size, Zbu rfl rfl rfl, Zbu rfl rfl rfl, Zf2 rfl⟩, List.forall_mem_cons.2 ⟨⟨by decide, .agg (Zbx w8 32 a.root).toArray, .agg (Zbx w8 32 b.root).toArray, Zc1 (n := 32) rfl rfl rfl rfl rfl, Zc1 (n := 32) rfl rfl rfl rfl rfl, Zpr rfl rfl rfl⟩, List.forall_mem_cons.2 ⟨⟨by decide, Iv a.tick, Iv b.tick, Zbu rfl rfl rfl, Zbu rfl rfl rfl, Zf2 rfl⟩, fun _ h => absurd h (by simp)⟩⟩⟩⟩⟩)
theorem Zud (a : Head) : Zee a a = true := by simp [Zee, Zdd]
def Zcm (a b : Signed) : Bool := ((Zee a.head b.head) && ((a.node == b.node) && ((Zdd 32 a.tag b.tag) && true)))
theorem Zqq (a b : Signed) {d : Nat} : Zam Tryd.prog (Op.equalIn (d + 4) 28 (Zaa a) (Zaa b)) = some (Zcm a b) :=
 eqS (P := Tryd.prog) (d + 3) 28 _ (Z3 a).toArray (Z3 b).toArray (fun f => if f.offset = 0 then (Zee a.head b.head) else if f.offset = 36 then (a.node == b.node) else if f.offset = 37 then (Zdd 32 a.tag b.tag) else true) rfl (by kernel_rfl) (List.forall_mem_cons.2 ⟨⟨by decide, Zbf a.head, Zbf b.head, Zc1 (n := 36) rfl rfl rfl rfl rfl, Zc1 (n := 36) rfl rfl rfl rfl rfl, Z29 a.head b.head⟩, List.forall_mem_cons.2 ⟨⟨by decide, Iv a.node, Iv b.node, Zbu rfl rfl rfl, Zbu rfl rfl rfl, Zf2 rfl⟩, List.forall_mem_cons.2 ⟨⟨by decide, .agg (Zbx w8 32 a.tag).toArray, .agg (Zbx w8 32 b.tag).toArray, Zc1 (n := 32) rfl rfl rfl rfl rfl, Zc1 (n := 32) rfl rfl rfl rfl rfl, Zpr rfl rfl rfl⟩, fun _ h => absurd h (by simp)⟩⟩⟩)
theorem Zjc {x y : Operand} (a b : Signed) : Zcb Tryd.prog .eql 28 x y (Zaa a) (Zaa b) = some (.bool (Zcm a b)) := Zob (by kernel_rfl) (by kernel_rfl) (Zqq a b (d := 9996))
theorem Zgv (a : Signed) : Zcm a a = true := by simp [Zcm, Zdd, Zud]
def Z39 (a : Head) : Prop := (-9223372036854775808 ≤ a.region ∧ a.region ≤ 9223372036854775807) ∧ (-9223372036854775808 ≤ a.epoch ∧ a.epoch ≤ 9223372036854775807) ∧ (-9223372036854775808 ≤ a.size ∧ a.size ≤ 9223372036854775807) ∧ True ∧ (-9223372036854775808 ≤ a.tick ∧ a.tick ≤ 9223372036854775807) ∧ True
def Z0n (a : Signed) : Prop := Z39 a.head ∧ (-9223372036854775808 ≤ a.node ∧ a.node ≤ 9223372036854775807) ∧ True ∧ True
end Go.Flat
