/- Walks. -/
import Derived.Test.YtbjlgbejbolohaaDoorH2
set_option linter.unusedVariables false
set_option linter.unusedSimpArgs false
set_option maxRecDepth 20000
namespace Go.Flat
open Go.Proofs
variable {G : Glob}
theorem Zlz (f : Field) : (Zgo f).length = f.data.size + 4 := by simp [Zgo, Zes]
theorem Z35 (l : Bs) (f : Field) (n c : Nat) (hn : l.length = n) (hc : n ≤ c) (hf : f.data.size ≤ 65536) (hb : n ≤ 1099511627776) : Zac Tryd.prog G 65 [slv 0 0 n c, fdV f] [Zan l] (slv 0 0 (l ++ Zgo f).length (l ++ Zgo f).length) [Zan (l ++ Zgo f)] := by
 have h := Z61 (G := G) l f n c hn hc hf hb
 rw [show n + f.data.size + 4 = (l ++ Zgo f).length from by rw [List.length_append, Zlz]; omega] at h
 exact h
theorem Zzj {f : Field} {last : Int} (h : Zf7 f last = 0) : f.data.size ≤ 65536 := by
 unfold Zf7 at h
 split at h
 ·omega
 ·split at h
  ·omega
  ·split at h <;> omega
def Zc6 : List Field → Int → Bs → Bs × Int
  | [], _, acc => (acc, 0)
  | f :: fs, last, acc => if Zf7 f last = 0 then Zc6 fs f.tag (acc ++ Zgo f) else ([], Zf7 f last)
theorem Ziq {α : Type} [Inhabited α] {l : List α} {i : Nat} (h : i < l.length) : l.drop i = l.getD i default :: l.drop (i + 1) := by
 rw [List.drop_eq_getElem_cons h, List.getD_eq_getElem?_getD, List.getElem?_eq_getElem h]; rfl
theorem Zzg {fs : List Field} {i : Nat} {last : Int} {acc : Bs} {R : Bs × Int} (hR : Zc6 (fs.drop i) last acc = R) (hi : i < fs.length) (hm : Zf7 (fs.getD i default) last = 0) : Zc6 (fs.drop (i + 1)) (fs.getD i default).tag (acc ++ Zgo (fs.getD i default)) = R := by
 rw [Ziq hi, Zc6, if_pos hm] at hR; exact hR
theorem Z1r {fs : List Field} {i : Nat} {last : Int} {acc : Bs} {R : Bs × Int} (hR : Zc6 (fs.drop i) last acc = R) (hi : i < fs.length) (hm : Zf7 (fs.getD i default) last ≠ 0) : R = ([], Zf7 (fs.getD i default) last) := by
 rw [Ziq hi, Zc6, if_neg hm] at hR; exact hR.symm
def Zkz : Bs → Nat → Int × Int
  | [], n => ((n : Nat), 0)
  | x :: l, n => if 18014398509481983 < n then (0, 11) else Zkz l (n * 256 + x.toNat)
def Zk (s : ByteArray) : Int × Int := if 8 < s.size ∨ (1 ≤ s.size ∧ ((bl s).getD 0 0 == 0#8) = true) then (0, 11) else Zkz (bl s) 0
theorem Zz8 {l : Bs} {j v w : Nat} {R : Int × Int} (hR : Zkz (l.drop j) v = R) (hj : j < l.length) (hv : v ≤ 18014398509481983) (hw : w = 256 * v + (l.getD j 0).toNat := by rfl) : Zkz (l.drop (j + 1)) w = R := by
 have e : l.drop j = l.getD j 0 :: l.drop (j + 1) := Ziq (α := BitVec 8) hj
 subst hw
 rw [e, Zkz, if_neg (by omega), Nat.mul_comm] at hR
 exact hR
theorem Z2q {l : Bs} {j v : Nat} {R : Int × Int} (hR : Zkz (l.drop j) v = R) (hj : j < l.length) (hv : 18014398509481983 < v) : R = (0, 11) := by
 have e : l.drop j = l.getD j 0 :: l.drop (j + 1) := Ziq (α := BitVec 8) hj
 rw [e, Zkz, if_pos hv] at hR
 exact hR.symm
theorem Zok {s : ByteArray} {R : Int × Int} (h1 : s.size ≤ 8) (h2 : 1 ≤ s.size → ((bl s).getD 0 0 == 0#8) = false) (h : Zkz (bl s) 0 = R) : Zk s = R := by
  unfold Zk
  rw [if_neg, h]
  rintro (h | ⟨h, h'⟩)
  · omega
  · rw [h2 h] at h'; cases h'
theorem Zva {s : ByteArray} (h : 8 < s.size ∨ (1 ≤ s.size ∧ ((bl s).getD 0 0 == 0#8) = true)) : Zk s = (0, 11) := if_pos h
theorem Z43 (fs : List Field) (n c : Nat) (hn : fs.length = n) (hc : n ≤ c) (hb : n ≤ 1000) : Zac Tryd.prog G 53 [slv 0 0 n c] [rwR cFd fs] (.tuple #[slv 1 0 (Zc6 fs 0 []).1.length (Zc6 fs 0 []).1.length, Iv (Zc6 fs 0 []).2]) [rwR cFd fs, Zan (Zc6 fs 0 []).1] := by
  refine Zb8 (fn := Tryd.f53) (nt := 28) rfl rfl rfl rfl ?_
  refine Zah 1 (H' := [rwR cFd fs, hole]) rfl ?_
  refine Ze (Zf (Zc rfl rfl (.slice none 0 0) rfl (Zc rfl rfl (Iv 0) rfl (Za (Zb (Ze (Zf (Zc rfl rfl (.slice none 0 0) rfl (Za (Zb (Ze (Zf (Zc rfl rfl (Iv 0) rfl (Za (Zb (Ze (Ze ?_)))))))))))))))))
  refine Zc8 (Zb2.nilTmp (i := 4) (b := 1) true 1 rfl (by decide) rfl) ?_
  refine Zf (Zd rfl rfl (slv 0 0 n c) rfl ?_)
  refine Za6 (p := slv 0 0 n c) (v := Iv (n : Nat)) rfl rfl rfl rfl ?_
  refine Zd rfl rfl (Iv 0) rfl (Za (Zb (Z1 ?_)))
  refine Zby (fun x : Nat × Int × Bs => match x with | (i, last, acc) => [slv 0 0 n c, dead, dead, dead, slv 1 0 acc.length acc.length, Iv last, dead, dead, dead, slv 0 0 n c, Iv (n : Nat), Iv (i : Nat)]) (fun x : Nat × Int × Bs => match x with | (i, last, acc) => [rwR cFd fs, Zan acc]) (fun x : Nat × Int × Bs => match x with | (i, last, acc) => Zc6 (fs.drop i) last acc = Zc6 fs 0 [] ∧ i ≤ n ∧ acc.length ≤ i * 65540) (fun x : Nat × Int × Bs => match x with | (i, last, acc) => n - i) (0, 0, []) ⟨rfl, by omega, by simp⟩ ?_ ?_
  · refine Z2 (n := 2) rfl ?_ (by kernel_rfl) (by kernel_rfl)
    repeat (first | exact trivial | refine ⟨.inl rfl, ?_⟩ | refine ⟨.inr ⟨rfl, rfl⟩, ?_⟩ | refine ⟨.inr ⟨congrArg (Value.int .i64) (by first | omega | (dsimp only; omega)), rfl⟩, ?_⟩)
  rintro ⟨i, last, acc⟩ ⟨hR, hi, ha⟩
  dsimp only at *
  refine Zah 2 (H' := [rwR cFd fs, Zan acc, hole, hole]) rfl ?_
  have ha2 : acc.length ≤ 65540000 := by omega
  refine Ze (Zf ?_)
  by_cases h1 : (i : Nat) < (n : Nat)
  refine Zi (vx := Iv (i : Nat)) (vy := Iv (n : Nat)) rfl rfl (.bool true) rfl rfl (Zcv (by omega)) ?_
  refine Za (Zb (Ze (Zu rfl (Z0 (Zb (Ze (Z1 (Ze (Zf ?_)))))))))
  refine Zbe (b := 0) (o := 0) (j := i * 2) (m := n) (c := c) (sz := 2) (i := (i : Nat)) (k := .i64) rfl rfl rfl rfl rfl (by omega) (by omega) (by omega) ?_
  refine Zg (p := pt 0 (i * 2)) (v := fdV (fs.getD i default)) rfl rfl rfl (Zst (n := 0) (m := 2) cFd rfl rfl rfl rfl (by have := hn; omega) (by omega)) ?_
  refine Zq (b := bxB 2 (fdC (⟨0, ⟨#[]⟩⟩ : Field))) (nid := 2) (H' := [rwR cFd fs, Zan acc, bxB 2 (fdC (⟨0, ⟨#[]⟩⟩ : Field)), hole]) rfl rfl (by kernel_rfl) (by kernel_rfl) ?_
  refine Zj (p := pt 2 0) (v := fdV (fs.getD i default)) (b := 2) (blk := bxB 2 (fdC (fs.getD i default))) (H' := [rwR cFd fs, Zan acc, bxB 2 (fdC (fs.getD i default)), hole]) rfl rfl rfl (by kernel_rfl) (by kernel_rfl) ?_
  refine Za (Zb (Ze (Ze (Zf ?_))))
  refine Zg (p := pt 2 0) (v := fdV (fs.getD i default)) rfl rfl rfl (by kernel_rfl) ?_
  refine Zd rfl rfl (Iv last) rfl ?_
  refine Zv (Z6u (G := G) (fs.getD i default) last) (vals := [fdV (fs.getD i default), Iv last]) (res' := Iv (Zf7 (fs.getD i default) last)) rfl rfl rfl rfl rfl rfl ?_
  refine Zc rfl rfl (Iv (Zf7 (fs.getD i default) last)) rfl (Za (Zb (Ze (Zf (Zd rfl rfl (Iv (Zf7 (fs.getD i default) last)) rfl ?_)))))
  by_cases h2 : (Zf7 (fs.getD i default) last) ≠ 0
  refine Zi (vx := Iv (Zf7 (fs.getD i default) last)) (vy := Iv 0) rfl rfl (.bool true) rfl rfl (Zke (by omega)) ?_
  refine Za (Zb (Zu rfl (Ze (Zf (Zd rfl rfl (Iv (Zf7 (fs.getD i default) last)) rfl (Zc rfl rfl (.slice none 0 0) rfl (Zc rfl rfl (Iv (Zf7 (fs.getD i default) last)) rfl (Za (Zb ?_)))))))))
  refine Zc8 (Zb2.nilTmp (i := 2) (b := 3) true 1 rfl (by decide) rfl) ?_
  refine Zw (Zaj (Zbc (Zaj (Zbw (Zbc (Zaj (Zy ?_)))))))
  rw [show Zc6 fs 0 [] = ([], (Zf7 (fs.getD i default) last)) from Z1r hR (by omega) (by omega)]
  exact Zdg [0, 3] (v := .tuple #[slv 3 0 0 0, Iv (Zf7 (fs.getD i default) last)]) rfl (by kernel_rfl) rfl rfl (by decide) (by simp [Za1, Zan, rwR, cFd]) ⟨⟨rfl, rfl, rfl, by first | omega | exact Nat.le_refl _ | exact Nat.zero_le _ | (dsimp only; omega), by first | omega | exact Nat.le_refl _ | exact Nat.zero_le _ | (dsimp only; omega)⟩, rfl, trivial⟩
  refine Zi (vx := Iv (Zf7 (fs.getD i default) last)) (vy := Iv 0) rfl rfl (.bool false) rfl rfl (Zen (by omega)) ?_
  refine Za (Zb (Zr rfl (Z0 (Zb ?_))))
  have hsz : (fs.getD i default).data.size ≤ 65536 := Zzj (last := last) (by omega)
  refine Zfs (by kernel_rfl) ?_
  refine Zd rfl rfl (slv 1 0 acc.length acc.length) rfl ?_
  refine Zg (p := pt 2 0) (v := fdV (fs.getD i default)) rfl rfl rfl (by kernel_rfl) ?_
  refine Zev (e := [some (1, 0)]) (nid := 0) (Z35 (G := G) acc (fs.getD i default) acc.length acc.length (by first | rfl | omega) (by omega) (by omega) (by omega)) (vals := [slv 1 0 acc.length acc.length, fdV (fs.getD i default)]) (v := slv 1 0 ((acc ++ Zgo (fs.getD i default)).length) ((acc ++ Zgo (fs.getD i default)).length)) (H' := [rwR cFd fs, Zan (acc ++ Zgo (fs.getD i default)), bxB 2 (fdC (fs.getD i default)), hole]) rfl rfl rfl rfl rfl rfl ⟨⟨⟨rfl, rfl, rfl, by omega, by omega⟩, rfl, trivial⟩, ⟨(Zal rfl rfl rfl rfl), trivial⟩, rfl, rfl, rfl, Nat.le_refl _⟩ rfl rfl (by kernel_rfl) ?_
  refine Zh (b := 2) (o := 0) (n := 0) (o' := 0) rfl rfl rfl rfl rfl ?_
  refine Zg (p := pt 2 0) (v := Iv ((fs.getD i default).tag)) rfl rfl rfl (by kernel_rfl) ?_
  refine Zc rfl rfl (slv 1 0 ((acc ++ Zgo (fs.getD i default)).length) ((acc ++ Zgo (fs.getD i default)).length)) rfl (Zc rfl rfl (Iv ((fs.getD i default).tag)) rfl ?_)
  refine Zfg (by kernel_rfl) ?_
  refine Zag (Zb (Zf ?_))
  refine Zi (vx := Iv (i : Nat)) (vy := Iv 1) rfl rfl (Iv ((i : Nat) + 1)) rfl rfl (Zap (by omega) (by omega) (by omega)) ?_
  refine Zd rfl rfl (Iv ((i : Nat) + 1)) rfl (Za ?_)
  refine Zx ⟨((i + 1), ((fs.getD i default).tag), (acc ++ Zgo (fs.getD i default))), ⟨Zzg hR (by omega) (by omega), by omega, by rw [List.length_append, Zlz]; omega⟩, by show n - (i + 1) < n - i; omega, ?_⟩
  refine Z2 (n := 2) rfl ?_ (by kernel_rfl) (by kernel_rfl)
  repeat (first | exact trivial | refine ⟨.inl rfl, ?_⟩ | refine ⟨.inr ⟨rfl, rfl⟩, ?_⟩ | refine ⟨.inr ⟨congrArg (Value.int .i64) (by first | omega | (dsimp only; omega)), rfl⟩, ?_⟩)
  refine Zi (vx := Iv (i : Nat)) (vy := Iv (n : Nat)) rfl rfl (.bool false) rfl rfl (Zbv (by omega)) ?_
  refine Za (Zb (Ze (Zr rfl (Zbx (Zay (Zav (Za2 rfl (Zb (Ze (Zf (Zd rfl rfl (slv 1 0 acc.length acc.length) rfl (Zc rfl rfl (slv 1 0 acc.length acc.length) rfl (Zc rfl rfl (Iv 0) rfl (Za (Zb (Zw (Zy ?_)))))))))))))))))
  rw [show Zc6 fs 0 [] = (acc, 0) from by rw [← hR, List.drop_of_length_le (by omega)]; rfl]
  exact Zdg [0, 1] (v := .tuple #[slv 1 0 acc.length acc.length, Iv 0]) rfl (by kernel_rfl) rfl rfl (by decide) (by simp [Za1, Zan, rwR, cFd]) ⟨⟨rfl, rfl, rfl, by first | omega | exact Nat.le_refl _ | exact Nat.zero_le _ | (dsimp only; omega), by first | omega | exact Nat.le_refl _ | exact Nat.zero_le _ | (dsimp only; omega)⟩, rfl, trivial⟩
theorem Z0k (s : ByteArray) : Zac Tryd.prog G 55 [.string s] [] (.tuple #[Iv (Zk s).1, Iv (Zk s).2]) [] := by
  refine Zb8 (fn := Tryd.f55) (nt := 34) rfl rfl rfl rfl ?_
  refine Zah 1 (H' := [hole]) rfl ?_
  refine Ze (Zf (Zc rfl rfl (Iv 0) rfl (Zc rfl rfl (Iv 0) rfl (Za (Zb (Ze (Zf (Zc rfl rfl (Iv 0) rfl (Za (Zb (Ze (Z1 (Ze (Ze (Zf (Zd rfl rfl (.string s) rfl ?_))))))))))))))))
  refine Za6 (p := .string s) (v := Iv (s.size : Nat)) rfl rfl rfl rfl ?_
  by_cases h1 : 8 < (s.size : Nat)
  refine Zi (vx := Iv (s.size : Nat)) (vy := Iv 8) rfl rfl (.bool true) rfl rfl (Zde (by omega)) ?_
  refine Zc rfl rfl (.bool true) rfl (Za (Zb (Zu rfl (Z0 (Zb (Zu rfl (Ze (Zf (Zc rfl rfl (Iv 0) rfl (Zc rfl rfl (Iv 11) rfl (Za (Zb (Zw (Zbc (Zaj (Zy ?_))))))))))))))))
  rw [Zva (by first | (left; omega) | (right; refine ⟨by omega, ?_⟩; first | assumption | simpa using ‹_›))]
  exact Zo (v := .tuple #[Iv 0, Iv 11]) rfl rfl rfl (by kernel_rfl) ⟨rfl, rfl, trivial⟩
  refine Zi (vx := Iv (s.size : Nat)) (vy := Iv 8) rfl rfl (.bool false) rfl rfl (Zcw (by omega)) ?_
  refine Zc rfl rfl (.bool false) rfl (Za (Zb (Zr rfl (Zf (Zd rfl rfl (.string s) rfl ?_)))))
  rcases Bool.eq_false_or_eq_true (Zrq s ⟨#[]⟩) with h2 | h2
  · have hzh2 := Zut h2
    refine Zi (vx := .string s) (vy := .string ⟨#[]⟩) rfl rfl (.bool false) rfl rfl (Eq.trans (Zx4 _ _) (by rw [h2] <;> rfl)) ?_
    refine Zd rfl rfl (.bool false) rfl (Zn rfl rfl (Zn rfl rfl (Zn rfl rfl (Zp rfl rfl (.bool false) rfl (Zc rfl rfl (.bool false) rfl (Za (Zb (Zr rfl (Z0 (Zag (Zb (Ze (Ze (Zf (Zd rfl rfl (.string s) rfl ?_)))))))))))))))
    refine Zm9 (p := .string s) (v := slv 0 0 s.size s.size) (blk := Zan (bl s)) (nid := 0) (H' := [Zan (bl s)]) rfl rfl rfl (Zo2 rfl rfl rfl) (by kernel_rfl) ?_
    refine Za6 (p := slv 0 0 s.size s.size) (v := Iv (s.size : Nat)) rfl rfl rfl rfl ?_
    refine Zd rfl rfl (Iv 0) rfl (Za (Zb (Z1 ?_)))
    refine Zby (fun x : Nat × Nat => match x with | (j, v) => [.string s, dead, dead, dead, Iv (v : Nat), dead, dead, .bool false, .string s, Iv (s.size : Nat), .bool false, .string s, .bool false, .bool false, dead, dead, dead, .bool false, .string s, slv 0 0 s.size s.size, Iv (s.size : Nat), Iv (j : Nat)]) (fun x : Nat × Nat => match x with | (j, v) => [Zan (bl s)]) (fun x : Nat × Nat => match x with | (j, v) => Zkz ((bl s).drop j) v = Zkz (bl s) 0 ∧ j ≤ s.size ∧ v ≤ 4611686018427387903) (fun x : Nat × Nat => match x with | (j, v) => s.size - j) (0, 0) ⟨rfl, by omega, by omega⟩ ?_ ?_
    · refine Z2 (n := 1) rfl ?_ (by kernel_rfl) (by kernel_rfl)
      repeat (first | exact trivial | refine ⟨.inl rfl, ?_⟩ | refine ⟨.inr ⟨rfl, rfl⟩, ?_⟩ | refine ⟨.inr ⟨congrArg (Value.int .i64) (by first | omega | (dsimp only; omega)), rfl⟩, ?_⟩)
    rintro ⟨j, v⟩ ⟨hR, hj, hv⟩
    dsimp only at *
    refine Ze (Zf ?_)
    refine Zi (vx := Iv (j : Nat)) (vy := Iv (s.size : Nat)) rfl rfl (.bool false) rfl rfl (Zbv (by omega)) ?_
    refine Za (Zb (Ze (Zr rfl (Zbx (Zay (Zav (Za2 rfl (Zb (Ze (Zf (Zd rfl rfl (Iv (v : Nat)) rfl (Zc rfl rfl (Iv (v : Nat)) rfl (Zc rfl rfl (Iv 0) rfl (Za (Zb (Zw (Zy ?_)))))))))))))))))
    rw [Zok (by omega) (by first | assumption | (intro; omega)) (R := (v, 0)) (by rw [← hR, List.drop_of_length_le (by rw [Zes]; omega)]; rfl)]
    exact Zo (v := .tuple #[Iv (v : Nat), Iv 0]) rfl rfl rfl (by kernel_rfl) ⟨rfl, rfl, trivial⟩
  have hzh2 := Zus h2
  refine Zi (vx := .string s) (vy := .string ⟨#[]⟩) rfl rfl (.bool true) rfl rfl (Eq.trans (Zx4 _ _) (by rw [h2] <;> rfl)) ?_
  refine Zd rfl rfl (.bool true) rfl (Zd rfl rfl (.string s) rfl ?_)
  refine Zfz (p := .string s) (i := Iv 0) (v := w8 ((bl s).getD 0 0)) rfl rfl rfl rfl (Zz6 rfl (by omega) (by omega)) ?_
  rcases Bool.eq_false_or_eq_true (((bl s).getD 0 0) == 0#8) with h3 | h3
  refine Zi (vx := w8 ((bl s).getD 0 0)) (vy := w8 (0#8)) rfl rfl (.bool true) rfl rfl (Eq.trans Zy1 (by rw [h3] <;> rfl)) ?_
  refine Zp rfl rfl (.bool true) rfl (Zc rfl rfl (.bool true) rfl (Za (Zb (Zu rfl (Ze (Zf (Zc rfl rfl (Iv 0) rfl (Zc rfl rfl (Iv 11) rfl (Za (Zb (Zw (Zbc (Zaj (Zy ?_))))))))))))))
  rw [Zva (by first | (left; omega) | (right; refine ⟨by omega, ?_⟩; first | assumption | simpa using ‹_›))]
  exact Zo (v := .tuple #[Iv 0, Iv 11]) rfl rfl rfl (by kernel_rfl) ⟨rfl, rfl, trivial⟩
  refine Zi (vx := w8 ((bl s).getD 0 0)) (vy := w8 (0#8)) rfl rfl (.bool false) rfl rfl (Eq.trans Zy1 (by rw [h3] <;> rfl)) ?_
  refine Zp rfl rfl (.bool false) rfl (Zc rfl rfl (.bool false) rfl (Za (Zb (Zr rfl (Z0 (Zag (Zb (Ze (Ze (Zf (Zd rfl rfl (.string s) rfl ?_)))))))))))
  refine Zm9 (p := .string s) (v := slv 0 0 s.size s.size) (blk := Zan (bl s)) (nid := 0) (H' := [Zan (bl s)]) rfl rfl rfl (Zo2 rfl rfl rfl) (by kernel_rfl) ?_
  refine Za6 (p := slv 0 0 s.size s.size) (v := Iv (s.size : Nat)) rfl rfl rfl rfl ?_
  refine Zd rfl rfl (Iv 0) rfl (Za (Zb (Z1 ?_)))
  refine Zby (fun x : Nat × Nat => match x with | (j, v) => [.string s, dead, dead, dead, Iv (v : Nat), dead, dead, .bool false, .string s, Iv (s.size : Nat), .bool false, .string s, .bool true, .bool true, .string s, w8 ((bl s).getD 0 0), .bool false, .bool false, .string s, slv 0 0 s.size s.size, Iv (s.size : Nat), Iv (j : Nat)]) (fun x : Nat × Nat => match x with | (j, v) => [Zan (bl s)]) (fun x : Nat × Nat => match x with | (j, v) => Zkz ((bl s).drop j) v = Zkz (bl s) 0 ∧ j ≤ s.size ∧ v ≤ 4611686018427387903) (fun x : Nat × Nat => match x with | (j, v) => s.size - j) (0, 0) ⟨rfl, by omega, by omega⟩ ?_ ?_
  · refine Z2 (n := 1) rfl ?_ (by kernel_rfl) (by kernel_rfl)
    repeat (first | exact trivial | refine ⟨.inl rfl, ?_⟩ | refine ⟨.inr ⟨rfl, rfl⟩, ?_⟩ | refine ⟨.inr ⟨congrArg (Value.int .i64) (by first | omega | (dsimp only; omega)), rfl⟩, ?_⟩)
  rintro ⟨j, v⟩ ⟨hR, hj, hv⟩
  dsimp only at *
  refine Ze (Zf ?_)
  by_cases h4 : (j : Nat) < (s.size : Nat)
  refine Zi (vx := Iv (j : Nat)) (vy := Iv (s.size : Nat)) rfl rfl (.bool true) rfl rfl (Zcv (by omega)) ?_
  refine Za (Zb (Ze (Zu rfl (Z0 (Zb (Ze (Z1 (Ze (Zf ?_)))))))))
  refine Zbe (b := 0) (o := 0) (j := j) (m := s.size) (c := s.size) (sz := 1) (i := (j : Nat)) (k := .i64) rfl rfl rfl rfl rfl (by omega) (by omega) (by omega) ?_
  refine Zg (p := pt 0 j) (v := w8 ((bl s).getD j 0)) rfl rfl rfl (Zg8 rfl rfl rfl (by have := (Zes s); omega)) ?_
  refine Zc rfl rfl (w8 ((bl s).getD j 0)) rfl (Za (Zb (Ze (Ze (Zf (Zd rfl rfl (Iv (v : Nat)) rfl ?_))))))
  by_cases h5 : 18014398509481983 < (v : Nat)
  refine Zi (vx := Iv (v : Nat)) (vy := Iv 18014398509481983) rfl rfl (.bool true) rfl rfl (Zde (by omega)) ?_
  refine Za (Zb (Zu rfl (Ze (Zf (Zc rfl rfl (Iv 0) rfl (Zc rfl rfl (Iv 11) rfl (Za (Zb (Zw (Zaj (Zbc (Zaj (Zbw (Zbc (Zaj (Zy ?_))))))))))))))))
  rw [Zok (by omega) (by first | assumption | (intro; omega)) (R := (0, 11)) (Z2q hR (by rw [Zes]; omega) (by omega))]
  exact Zo (v := .tuple #[Iv 0, Iv 11]) rfl rfl rfl (by kernel_rfl) ⟨rfl, rfl, trivial⟩
  refine Zi (vx := Iv (v : Nat)) (vy := Iv 18014398509481983) rfl rfl (.bool false) rfl rfl (Zcw (by omega)) ?_
  refine Za (Zb (Zr rfl (Z0 (Zb (Zf (Zd rfl rfl (Iv (v : Nat)) rfl ?_))))))
  refine Zi (vx := Iv (v : Nat)) (vy := .int .u64 8) rfl rfl (Iv (256 * (v : Nat))) rfl rfl (Z2e 8 (by omega) (by omega) (by omega) (by omega) (by omega)) ?_
  refine Zd rfl rfl (w8 ((bl s).getD j 0)) rfl ?_
  have hw2 := BitVec.isLt ((bl s).getD j 0)
  refine Zcc (w := w8 ((bl s).getD j 0)) (v := Iv (((((bl s).getD j 0).toNat) : Nat) : Int)) rfl rfl rfl (Zhx rfl rfl (by have := ((bl s).getD j 0).isLt; omega) (by have := ((bl s).getD j 0).isLt; omega)) ?_
  refine Zi (vx := Iv (256 * (v : Nat))) (vy := Iv (((((bl s).getD j 0).toNat) : Nat) : Int)) rfl rfl (Iv (256 * (v : Nat) + (((((bl s).getD j 0).toNat) : Nat) : Int))) rfl rfl (Z6z 8 v (((bl s).getD j 0).toNat) (by omega) (by omega) (by omega) (by omega) (by omega)) ?_
  refine Zc rfl rfl (Iv (256 * (v : Nat) + (((((bl s).getD j 0).toNat) : Nat) : Int))) rfl (Za (Zag (Zb (Zf ?_))))
  refine Zi (vx := Iv (j : Nat)) (vy := Iv 1) rfl rfl (Iv ((j : Nat) + 1)) rfl rfl (Zap (by omega) (by omega) (by omega)) ?_
  refine Zd rfl rfl (Iv ((j : Nat) + 1)) rfl (Za ?_)
  refine Zx ⟨((j + 1), (256 * v + (((bl s).getD j 0).toNat))), ⟨Zz8 hR (by rw [Zes]; omega) (by omega) (by omega), by omega, by omega⟩, by show s.size - (j + 1) < s.size - j; omega, ?_⟩
  refine Z2 (n := 1) rfl ?_ (by kernel_rfl) (by kernel_rfl)
  repeat (first | exact trivial | refine ⟨.inl rfl, ?_⟩ | refine ⟨.inr ⟨rfl, rfl⟩, ?_⟩ | refine ⟨.inr ⟨congrArg (Value.int .i64) (by first | omega | (dsimp only; omega)), rfl⟩, ?_⟩)
  refine Zi (vx := Iv (j : Nat)) (vy := Iv (s.size : Nat)) rfl rfl (.bool false) rfl rfl (Zbv (by omega)) ?_
  refine Za (Zb (Ze (Zr rfl (Zbx (Zay (Zav (Za2 rfl (Zb (Ze (Zf (Zd rfl rfl (Iv (v : Nat)) rfl (Zc rfl rfl (Iv (v : Nat)) rfl (Zc rfl rfl (Iv 0) rfl (Za (Zb (Zw (Zy ?_)))))))))))))))))
  rw [Zok (by omega) (by first | assumption | (intro; omega)) (R := (v, 0)) (by rw [← hR, List.drop_of_length_le (by rw [Zes]; omega)]; rfl)]
  exact Zo (v := .tuple #[Iv (v : Nat), Iv 0]) rfl rfl rfl (by kernel_rfl) ⟨rfl, rfl, trivial⟩
end Go.Flat
