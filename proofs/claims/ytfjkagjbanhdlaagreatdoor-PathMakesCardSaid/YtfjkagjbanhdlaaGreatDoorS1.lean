/- Walks. -/
import Derived.Test.YtfjkagjbanhdlaaGreatDoorR4P
import Derived.Test.YtfjkagjbanhdlaaGreatDoorH9
import Derived.Test.YtfjkagjbanhdlaaGreatDoorRef
set_option linter.unusedVariables false
set_option linter.unusedSimpArgs false
set_option maxRecDepth 20000
namespace Go.Flat
open Go.Proofs
variable {G : Glob}
def Zmn (k : Int) (s : ByteArray) : Int :=
  if k < 1 then 1 else
  if 255 < k then 1 else
  if 65536 < (s.size : Nat) then 2 else
  0
theorem Zym (k : Int) (s : ByteArray) : Z6 Tryz.prog G 128 [Iv k, .string s] [] (Iv (Zmn k s)) [] := by
 refine Za8 (fn := Tryz.f128) (nt := 14) rfl rfl rfl rfl ?_
 refine Zf (Zg (Zb (Iv 0) (Za (Zc (Zf (Zf (Zg (Zd (Iv k) ?_))))))))
 by_cases h1 : k < 1
 refine Zl (vx := Iv k) (vy := Iv 1) rfl rfl (.bool true) rfl rfl (Zcc (by omega)) ?_
 refine Zd (.bool true) (Ze (Ze (Zi (.bool true) (Za (Zc (Zx rfl (Zf (Zg (Zb (Iv 1) (Za (Zc (Zq (Zz (Zr ?_))))))))))))))
 rw [show Zmn k s = 1 from by unfold Zmn; rw [if_pos h1]]
 exact Zk (v := Iv 1) rfl rfl rfl (by kernel_rfl) rfl
 refine Zl (vx := Iv k) (vy := Iv 1) rfl rfl (.bool false) rfl rfl (Zb5 (by omega)) ?_
 refine Zd (.bool false) (Zd (Iv k) ?_)
 by_cases h2 : 255 < k
 refine Zl (vx := Iv k) (vy := Iv 255) rfl rfl (.bool true) rfl rfl (Zes (by omega)) ?_
 refine Zi (.bool true) (Za (Zc (Zx rfl (Zf (Zg (Zb (Iv 1) (Za (Zc (Zq (Zz (Zr ?_)))))))))))
 rw [show Zmn k s = 1 from by unfold Zmn; rw [if_neg h1, if_pos h2]]
 exact Zk (v := Iv 1) rfl rfl rfl (by kernel_rfl) rfl
 refine Zl (vx := Iv k) (vy := Iv 255) rfl rfl (.bool false) rfl rfl (Zeq (by omega)) ?_
 refine Zi (.bool false) (Za (Zc (Zu rfl (Z0 (Zc (Zf (Zf (Zg (Zd (.string s) (Zcu (p := .string s) (v := Iv (s.size : Nat)) ?_))))))))))
 by_cases h3 : 65536 < (s.size : Nat)
 refine Zl (vx := Iv (s.size : Nat)) (vy := Iv 65536) rfl rfl (.bool true) rfl rfl (Zes (by omega)) ?_
 refine Za (Zc (Zx rfl (Zf (Zg (Zb (Iv 2) (Za (Zc (Zq (Zz (Zr ?_))))))))))
 rw [show Zmn k s = 2 from by unfold Zmn; rw [if_neg h1, if_neg h2, if_pos h3]]
 exact Zk (v := Iv 2) rfl rfl rfl (by kernel_rfl) rfl
 refine Zl (vx := Iv (s.size : Nat)) (vy := Iv 65536) rfl rfl (.bool false) rfl rfl (Zeq (by omega)) ?_
 refine Za (Zc (Zu rfl (Z0 (Zc (Zf (Zg (Zb (Iv 0) (Za (Zc (Zq (Zr ?_)))))))))))
 rw [show Zmn k s = 0 from by unfold Zmn; rw [if_neg h1, if_neg h2, if_neg h3]]
 exact Zk (v := Iv 0) rfl rfl rfl (by kernel_rfl) rfl
theorem Z12 {fs : List Field} {i : Nat} {last : Int} {acc : Bs} (hR : Z9 (fs.drop i) last acc = Z9 fs 0 []) (hi : i < fs.length) (hok : (Z9 fs 0 []).2 = 0) : Zfp (fs.getD i default) last = 0 := by
 refine Decidable.byContradiction fun q => ?_
 have := Zvg hR hi q
 rw [this] at hok
 exact q hok
theorem Z6e {f : Field} {last : Int} (hl : 0 ≤ last) (h : Zfp f last = 0) : Zmn f.tag f.data = 0 ∧ last < f.tag ∧ f.data.size ≤ 65536 := by
 unfold Zfp at h
 split at h
 ·omega
 ·split at h
  ·omega
  ·split at h
   ·omega
   ·exact ⟨by unfold Zmn; rw [if_neg (by omega), if_neg (by omega), if_neg (by omega)], by omega, by omega⟩
def Zyk (c : Claim) : List ByteArray := [(Zn c.region).1, (Zn c.epoch).1, (Zn c.node).1, (Zn c.size).1, Zm (dgL c.root)]
theorem Z2k (c : Claim) : ∀ x, x ∈ Zyk c → x.size ≤ 65536 := by
 intro x hx
 have h1 := Za7 c.region
 have h2 := Za7 c.epoch
 have h3 := Za7 c.node
 have h4 := Za7 c.size
 simp only [Zyk, List.mem_cons, List.not_mem_nil, or_false] at hx
 rcases hx with rfl | rfl | rfl | rfl | rfl
 all_goals first | omega | (rw [Za1, Zfc]; omega)
theorem Z33 (x : Item) : ∀ y, y ∈ [(Zn x.epoch).1, Zm (Zbh x.entry).1] → y.size ≤ 65536 := by
 intro y hy
 have h1 := Za7 x.epoch
 have h2 := Zru x.entry
 simp only [List.mem_cons, List.not_mem_nil, or_false] at hy
 rcases hy with rfl | rfl
 ·omega
 ·rw [Za1]; omega
theorem Zv0 {e : Entry} (h : Zbz e) (hk : e.kind = 3) : Zb0 e.claim := by
 rcases h with q | q | q
 ·have := q.1; omega
 ·have := q.1; omega
 ·exact q.2.2.2.2.2
theorem Zy7 {e : Entry} (h : Zbz e) (hk : e.kind = 2) : Zf4 e.head := by
 rcases h with q | q | q
 ·have := q.1; omega
 ·exact q.2.2.2.2.1
 ·have := q.1; omega
theorem Z46 (e : Entry) : (Zdt e).length ≤ 4 := by
 unfold Zdt
 split
 ·exact Nat.le_refl _
 ·split <;> exact (by simp)
theorem lfT_bl (kk : Nat → BitVec 32) (s : ByteArray) : lfT kk s = Zcq kk (bl (Zff ++ s)) := by
 unfold lfT Zch
 rw [Zlz]; simp
theorem Z4o (s : Signed) (h : Zf4 s) : Z6 Tryz.prog G 129 [Zy s] [] (slv 0 0 (Zaj s).1.length (Zaj s).1.length) [Zah (Zaj s).1] := by
 have q := Znn (G := G) s h.1 h.2.1 h.2.2
 rw [show (Zaj s).1 = Zai (Zgw s) from by rw [Zot h]]; exact q
theorem Z13 (fs : List Field) (n c : Nat) (hn : fs.length = n) (hc : n ≤ c) (hb : n ≤ 1000) (hok : (Z9 fs 0 []).2 = 0) : Z6 Tryz.prog G 123 [slv 0 0 n c] [rwR cFd fs] (.tuple #[slv 1 0 (Z9 fs 0 []).1.length (Z9 fs 0 []).1.length, Iv 0]) [rwR cFd fs, Zah (Z9 fs 0 []).1] := by
  refine Za8 (fn := Tryz.f123) (nt := 56) rfl rfl rfl rfl ?_
  refine Zaa 1 (H' := [rwR cFd fs, hole]) rfl ?_
  refine Zf (Zg (Zb (.slice none 0 0) (Zb (Iv 0) (Za (Zc (Zf (Zg (Zb (.slice none 0 0) (Za (Zc (Zf ?_)))))))))))
  refine Zbo (Zb6.nilTmp (i := 4) (b := 1) true 1 rfl (by decide) rfl) ?_
  refine Zg (Zb (Iv 0) (Za (Zc (Zf (Zf (Zg (Zb (Iv 0) (Za (Zc (Z1 ?_))))))))))
  refine Zbg (fun x : Nat × Int × Bs => match x with | (i, last, acc) => [slv 0 0 n c, dead, dead, dead, slv 1 0 acc.length acc.length, Iv last, Iv (i : Nat)]) (fun x : Nat × Int × Bs => match x with | (i, last, acc) => [rwR cFd fs, Zah acc]) (fun x : Nat × Int × Bs => match x with | (i, last, acc) => Z9 (fs.drop i) last acc = Z9 fs 0 [] ∧ i ≤ n ∧ acc.length ≤ i * 65540 ∧ 0 ≤ last) (fun x : Nat × Int × Bs => match x with | (i, last, acc) => n - i) (0, 0, []) ⟨rfl, by omega, by simp, Int.le_refl _⟩ ?_ ?_
  · refine Z5 (n := 2) rfl ?_ (by kernel_rfl) (by kernel_rfl)
    repeat (first | exact trivial | refine ⟨.inl rfl, ?_⟩ | refine ⟨.inr ⟨rfl, rfl⟩, ?_⟩ | refine ⟨.inr ⟨congrArg (Value.int .i64) (by first | omega | (dsimp only; omega)), rfl⟩, ?_⟩)
  rintro ⟨i, last, acc⟩ ⟨hR, hi, ha, hl0⟩
  dsimp only at *
  refine Zaa 3 (H' := [rwR cFd fs, Zah acc, hole, hole, hole]) rfl ?_
  have ha2 : acc.length ≤ 65540000 := by omega
  refine Zf (Zf (Zg (Zd (Iv (i : Nat)) (Zd (slv 0 0 n c) (Zcu (p := slv 0 0 n c) (v := Iv (n : Nat)) ?_)))))
  by_cases h1 : (i : Nat) < (n : Nat)
  refine Zl (vx := Iv (i : Nat)) (vy := Iv (n : Nat)) rfl rfl (.bool true) rfl rfl (Zcc (by omega)) ?_
  refine Za (Zc (Zx rfl (Z0 (Zc (Zf (Z1 (Zf ?_)))))))
  have hm := Z12 hR (by omega) hok
  obtain ⟨hm1, hm2, hsz⟩ := Z6e hl0 hm
  refine Zgc (by kernel_rfl) ?_
  refine Zd (slv 0 0 n c) (Zd (Iv (i : Nat)) ?_)
  refine Zbe (b := 0) (o := 0) (j := i * 2) (m := n) (c := c) (sz := 2) (i := (i : Nat)) (k := .i64) rfl rfl rfl rfl rfl (by omega) (by omega) (by omega) ?_
  refine Za2 (b := 0) (o := i * 2) (n := 0) (o' := i * 2) rfl rfl rfl rfl (by omega) ?_
  refine Zad (p := pt 0 (i * 2)) (v := Iv ((fs.getD i default).tag)) rfl rfl rfl (Zfx cFd (l := fs) (i := i) (k := 0) (m := 2) rfl rfl rfl rfl (by have := hn; omega) (by omega) (by kernel_rfl) rfl) ?_
  refine Zd (slv 0 0 n c) (Zd (Iv (i : Nat)) ?_)
  refine Zbe (b := 0) (o := 0) (j := i * 2) (m := n) (c := c) (sz := 2) (i := (i : Nat)) (k := .i64) rfl rfl rfl rfl rfl (by omega) (by omega) (by omega) ?_
  refine Za2 (b := 0) (o := i * 2) (n := 1) (o' := i * 2 + 1) rfl rfl rfl rfl (by omega) ?_
  refine Zad (p := pt 0 (i * 2 + 1)) (v := .string ((fs.getD i default).data)) rfl rfl rfl (Zfx cFd (l := fs) (i := i) (k := 1) (m := 2) rfl rfl rfl rfl (by have := hn; omega) (by omega) (by kernel_rfl) rfl) ?_
  refine Zo (Zym (G := G) ((fs.getD i default).tag) ((fs.getD i default).data)) (vals := [Iv ((fs.getD i default).tag), .string ((fs.getD i default).data)]) (res' := Iv (Zmn ((fs.getD i default).tag) ((fs.getD i default).data))) rfl rfl rfl rfl rfl rfl ?_
  refine Zb (Iv (Zmn ((fs.getD i default).tag) ((fs.getD i default).data))) ?_
  refine Zeu (Zfs [[], [], [0, 1], [0, 1, 2], [0, 1, 2, 3], [], [], [5, 6], [5, 6, 7], [5, 6, 7, 8], [0, 1, 2, 3, 4, 5, 6, 7, 8, 9], [0, 1, 2, 3, 4, 5, 6, 7, 8, 9, 10]] (by kernel_rfl) (by kernel_rfl)) ?_
  refine Zc (Zf (Zf (Zg (Zd (slv 0 0 n c) (Zd (Iv (i : Nat)) ?_)))))
  refine Zbe (b := 0) (o := 0) (j := i * 2) (m := n) (c := c) (sz := 2) (i := (i : Nat)) (k := .i64) rfl rfl rfl rfl rfl (by omega) (by omega) (by omega) ?_
  refine Za2 (b := 0) (o := i * 2) (n := 0) (o' := i * 2) rfl rfl rfl rfl (by omega) ?_
  refine Zad (p := pt 0 (i * 2)) (v := Iv ((fs.getD i default).tag)) rfl rfl rfl (Zfx cFd (l := fs) (i := i) (k := 0) (m := 2) rfl rfl rfl rfl (by have := hn; omega) (by omega) (by kernel_rfl) rfl) ?_
  refine Zd (Iv last) ?_
  refine Zl (vx := Iv ((fs.getD i default).tag)) (vy := Iv last) rfl rfl (.bool false) rfl rfl (Znp (by omega)) ?_
  refine Za (Zc (Zu rfl (Z0 (Zc (Zf (Zf (Zg (Zd (Iv (Zmn ((fs.getD i default).tag) ((fs.getD i default).data))) ?_))))))))
  refine Zl (vx := Iv (Zmn ((fs.getD i default).tag) ((fs.getD i default).data))) (vy := Iv 0) rfl rfl (.bool false) rfl rfl (Zdz (by omega)) ?_
  refine Za (Zc (Zu rfl (Z0 (Zc (Zf ?_)))))
  refine Zgc (by kernel_rfl) ?_
  refine Zd (slv 0 0 n c) (Zd (Iv (i : Nat)) ?_)
  refine Zbe (b := 0) (o := 0) (j := i * 2) (m := n) (c := c) (sz := 2) (i := (i : Nat)) (k := .i64) rfl rfl rfl rfl rfl (by omega) (by omega) (by omega) ?_
  refine Za2 (b := 0) (o := i * 2) (n := 0) (o' := i * 2) rfl rfl rfl rfl (by omega) ?_
  refine Zad (p := pt 0 (i * 2)) (v := Iv ((fs.getD i default).tag)) rfl rfl rfl (Zfx cFd (l := fs) (i := i) (k := 0) (m := 2) rfl rfl rfl rfl (by have := hn; omega) (by omega) (by kernel_rfl) rfl) ?_
  refine Zd (slv 0 0 n c) (Zd (Iv (i : Nat)) ?_)
  refine Zbe (b := 0) (o := 0) (j := i * 2) (m := n) (c := c) (sz := 2) (i := (i : Nat)) (k := .i64) rfl rfl rfl rfl rfl (by omega) (by omega) (by omega) ?_
  refine Za2 (b := 0) (o := i * 2) (n := 1) (o' := i * 2 + 1) rfl rfl rfl rfl (by omega) ?_
  refine Zad (p := pt 0 (i * 2 + 1)) (v := .string ((fs.getD i default).data)) rfl rfl rfl (Zfx cFd (l := fs) (i := i) (k := 1) (m := 2) rfl rfl rfl rfl (by have := hn; omega) (by omega) (by kernel_rfl) rfl) ?_
  refine Z2 (e := []) (nid := 2) (Zsv (G := G) ((fs.getD i default).tag) ((fs.getD i default).data) (by omega)) (vals := [Iv ((fs.getD i default).tag), .string ((fs.getD i default).data)]) (v := slv 2 0 ((((fs.getD i default).data).size) + 4) ((((fs.getD i default).data).size) + 4)) (H' := [rwR cFd fs, Zah acc, Zah (Zeo ⟨((fs.getD i default).tag), (fs.getD i default).data⟩), hole, hole]) rfl rfl rfl rfl rfl rfl rfl ⟨⟨rfl, rfl, trivial⟩, trivial, rfl, rfl, rfl⟩ (by kernel_rfl) (by kernel_rfl) ?_
  refine Zb (slv 2 0 ((((fs.getD i default).data).size) + 4) ((((fs.getD i default).data).size) + 4)) ?_
  refine Zeu (Zfs [[], [], [0, 1], [0, 1, 2], [0, 1, 2, 3], [], [], [5, 6], [5, 6, 7], [5, 6, 7, 8], [0, 1, 2, 3, 4, 5, 6, 7, 8, 9], [0, 1, 2, 3, 4, 5, 6, 7, 8, 9, 10]] (by kernel_rfl) (by kernel_rfl)) ?_
  refine Zc (Zf (Zg (Zd (slv 1 0 acc.length acc.length) (Zd (slv 2 0 ((((fs.getD i default).data).size) + 4) ((((fs.getD i default).data).size) + 4)) ?_))))
  have hl2 : (acc ++ (Zeo ⟨((fs.getD i default).tag), (fs.getD i default).data⟩)).length = acc.length + (((fs.getD i default).data).size) + 4 := by have := (Zly ((fs.getD i default).tag) ((fs.getD i default).data)); first | (rw [List.length_append]; omega) | (rw [List.length_append, List.length_take]; omega) | (simp; omega) | simp
  refine Zbp (p := slv 1 0 acc.length acc.length) (q := slv 2 0 ((((fs.getD i default).data).size) + 4) ((((fs.getD i default).data).size) + 4)) (v := slv 1 0 ((acc ++ (Zeo ⟨((fs.getD i default).tag), (fs.getD i default).data⟩)).length) ((acc ++ (Zeo ⟨((fs.getD i default).tag), (fs.getD i default).data⟩)).length)) (b := 1) (blk := Zah (acc ++ (Zeo ⟨((fs.getD i default).tag), (fs.getD i default).data⟩))) (H' := [rwR cFd fs, Zah (acc ++ (Zeo ⟨((fs.getD i default).tag), (fs.getD i default).data⟩)), Zah (Zeo ⟨((fs.getD i default).tag), (fs.getD i default).data⟩), hole, hole]) rfl rfl rfl (.inl ⟨_, rfl⟩) rfl rfl (Zhj (by_ := 1) (n' := ((acc ++ (Zeo ⟨((fs.getD i default).tag), (fs.getD i default).data⟩)).length)) rfl rfl (Zqv rfl rfl (by have := (Zly ((fs.getD i default).tag) ((fs.getD i default).data)); omega)) rfl rfl (by omega) (by omega) (by decide) (by omega)) rfl (by kernel_rfl) ?_
  refine Zb (slv 1 0 ((acc ++ (Zeo ⟨((fs.getD i default).tag), (fs.getD i default).data⟩)).length) ((acc ++ (Zeo ⟨((fs.getD i default).tag), (fs.getD i default).data⟩)).length)) (Za (Zc (Zg (Zd (slv 0 0 n c) (Zd (Iv (i : Nat)) ?_)))))
  refine Zbe (b := 0) (o := 0) (j := i * 2) (m := n) (c := c) (sz := 2) (i := (i : Nat)) (k := .i64) rfl rfl rfl rfl rfl (by omega) (by omega) (by omega) ?_
  refine Za2 (b := 0) (o := i * 2) (n := 0) (o' := i * 2) rfl rfl rfl rfl (by omega) ?_
  refine Zad (p := pt 0 (i * 2)) (v := Iv ((fs.getD i default).tag)) rfl rfl rfl (Zfx cFd (l := fs) (i := i) (k := 0) (m := 2) rfl rfl rfl rfl (by have := hn; omega) (by omega) (by kernel_rfl) rfl) ?_
  refine Zb (Iv ((fs.getD i default).tag)) (Za (Z4 (Zc (Zg (Zd (Iv (i : Nat)) ?_)))))
  refine Zl (vx := Iv (i : Nat)) (vy := Iv 1) rfl rfl (Iv ((i : Nat) + 1)) rfl rfl (Za3 (by omega) (by omega) (by omega)) ?_
  refine Zb (Iv ((i : Nat) + 1)) (Za ?_)
  refine Zao ⟨((i + 1), ((fs.getD i default).tag), (acc ++ (Zeo ⟨((fs.getD i default).tag), (fs.getD i default).data⟩))), ⟨Zs8 hR (by omega) hm, by dsimp only; omega, by rw [List.length_append, Zjj]; dsimp only; omega, by dsimp only; omega⟩, by show n - (i + 1) < n - i; omega, ?_⟩
  refine Z5 (n := 2) rfl ?_ (by kernel_rfl) (by kernel_rfl)
  repeat (first | exact trivial | refine ⟨.inl rfl, ?_⟩ | refine ⟨.inr ⟨rfl, rfl⟩, ?_⟩ | refine ⟨.inr ⟨congrArg (Value.int .i64) (by first | omega | (dsimp only; omega)), rfl⟩, ?_⟩)
  refine Zl (vx := Iv (i : Nat)) (vy := Iv (n : Nat)) rfl rfl (.bool false) rfl rfl (Zb5 (by omega)) ?_
  refine Za (Zc (Zu rfl (Zbb (Zaq (Zau (Zax rfl (Zc (Zf (Zg (Zd (slv 1 0 acc.length acc.length) (Zb (slv 1 0 acc.length acc.length) (Zb (Iv 0) (Za (Zc (Zq (Zr ?_))))))))))))))))
  rw [show Z9 fs 0 [] = (acc, 0) from by rw [← hR, List.drop_of_length_le (by omega)]; rfl]
  exact Zav [0, 1] (v := .tuple #[slv 1 0 acc.length acc.length, Iv 0]) rfl (by kernel_rfl) rfl rfl (by decide) (by simp [Za0, Zah, rwR, cFd]) ⟨⟨rfl, rfl, rfl, by first | omega | exact Nat.le_refl _ | exact Nat.zero_le _ | (dsimp only; omega), by first | omega | exact Nat.le_refl _ | exact Nat.zero_le _ | (dsimp only; omega)⟩, rfl, trivial⟩
theorem Zo4 (c : Claim) (hr : Zb0 c) : Z6 Tryz.prog G 130 [Zcb c] [] (slv 0 0 (Zb2 c).1.length (Zb2 c).1.length) [Zah (Zb2 c).1] := by
  unfold Zb0 at hr
  refine Za8 (fn := Tryz.f130) (nt := 20) rfl rfl rfl rfl ?_
  refine Zaa 3 (H' := [hole, hole, hole]) rfl ?_
  refine Zf (Zg (Zbq (v := Zcb c) (b := bxB 36 (Zdx c)) (nid := 0) (H' := [bxB 36 (Zdx c), hole, hole]) (Zb (.slice none 0 0) (Za (Zc (Zf ?_))))))
  refine Zgc (by kernel_rfl) ?_
  refine Zh (b := 0) (o := 0) (n := 0) (o' := 0) (Zp (p := pt 0 0) (v := Iv c.region) ?_)
  refine Zo (Zd4 (G := G) c.region (by omega) (by omega)) (vals := [Iv c.region]) (res' := .string ((Zn c.region).1)) rfl rfl rfl rfl rfl rfl ?_
  refine Zh (b := 0) (o := 0) (n := 1) (o' := 1) (Zp (p := pt 0 1) (v := Iv c.epoch) ?_)
  refine Zo (Zd4 (G := G) c.epoch (by omega) (by omega)) (vals := [Iv c.epoch]) (res' := .string ((Zn c.epoch).1)) rfl rfl rfl rfl rfl rfl ?_
  refine Zh (b := 0) (o := 0) (n := 2) (o' := 2) (Zp (p := pt 0 2) (v := Iv c.node) ?_)
  refine Zo (Zd4 (G := G) c.node (by omega) (by omega)) (vals := [Iv c.node]) (res' := .string ((Zn c.node).1)) rfl rfl rfl rfl rfl rfl ?_
  refine Zh (b := 0) (o := 0) (n := 3) (o' := 3) (Zp (p := pt 0 3) (v := Iv c.size) ?_)
  refine Zo (Zd4 (G := G) c.size (by omega) (by omega)) (vals := [Iv c.size]) (res' := .string ((Zn c.size).1)) rfl rfl rfl rfl rfl rfl ?_
  refine Zh (b := 0) (o := 0) (n := 4) (o' := 4) (Zp (p := pt 0 4) (v := dgV c.root) ?_)
  refine Zo (Zij (G := G) c.root) (vals := [dgV c.root]) (res' := .string (Zm (dgL c.root))) rfl rfl rfl rfl rfl rfl ?_
  refine Zdb (vs := [(0, .string ((Zn c.region).1)), (1, .string ((Zn c.epoch).1)), (2, .string ((Zn c.node).1)), (3, .string ((Zn c.size).1)), (4, .string (Zm (dgL c.root)))]) (v := slv 1 0 5 5) (blk := txB [(Zn c.region).1, (Zn c.epoch).1, (Zn c.node).1, (Zn c.size).1, (Zm (dgL c.root))]) (nid := 1) (H' := [bxB 36 (Zdx c), txB [(Zn c.region).1, (Zn c.epoch).1, (Zn c.node).1, (Zn c.size).1, (Zm (dgL c.root))], hole]) rfl rfl rfl (by kernel_rfl) (by kernel_rfl) ?_
  refine Z2 (e := [some (1, 0)]) (nid := 2) (Zl3 (G := G) [(Zn c.region).1, (Zn c.epoch).1, (Zn c.node).1, (Zn c.size).1, (Zm (dgL c.root))] 5 5 (by rfl) (by first | omega | exact Nat.le_refl _) (by omega) (Z2k c)) (vals := [slv 1 0 5 5]) (v := slv 2 0 ((Zai [(Zn c.region).1, (Zn c.epoch).1, (Zn c.node).1, (Zn c.size).1, (Zm (dgL c.root))]).length) ((Zai [(Zn c.region).1, (Zn c.epoch).1, (Zn c.node).1, (Zn c.size).1, (Zm (dgL c.root))]).length)) (H' := [bxB 36 (Zdx c), txB [(Zn c.region).1, (Zn c.epoch).1, (Zn c.node).1, (Zn c.size).1, (Zm (dgL c.root))], Zah (Zai [(Zn c.region).1, (Zn c.epoch).1, (Zn c.node).1, (Zn c.size).1, (Zm (dgL c.root))])]) rfl rfl rfl rfl rfl rfl rfl ⟨⟨⟨rfl, rfl, rfl, by first | omega | exact Nat.le_refl _, by first | omega | exact Nat.le_refl _⟩, trivial⟩, ⟨(Zmt rfl), trivial⟩, rfl, rfl, rfl⟩ (by kernel_rfl) (by kernel_rfl) ?_
  refine Zb (slv 2 0 ((Zai [(Zn c.region).1, (Zn c.epoch).1, (Zn c.node).1, (Zn c.size).1, (Zm (dgL c.root))]).length) ((Zai [(Zn c.region).1, (Zn c.epoch).1, (Zn c.node).1, (Zn c.size).1, (Zm (dgL c.root))]).length)) ?_
  refine Zeu (Zfs [[], [0], [0, 1], [], [3], [0, 1, 2, 3, 4], [], [6], [0, 1, 2, 3, 4, 5, 6, 7], [], [9], [0, 1, 2, 3, 4, 5, 6, 7, 8, 9, 10], [], [12], [0, 1, 2, 3, 4, 5, 6, 7, 8, 9, 10, 11, 12, 13], [0, 1, 2, 3, 4, 5, 6, 7, 8, 9, 10, 11, 12, 13, 14], [0, 1, 2, 3, 4, 5, 6, 7, 8, 9, 10, 11, 12, 13, 14, 15], [0, 1, 2, 3, 4, 5, 6, 7, 8, 9, 10, 11, 12, 13, 14, 15, 16]] (by kernel_rfl) (by kernel_rfl)) ?_
  refine Zc (Zq (Zr ?_))
  rw [show (Zb2 c).1 = Zai (Zyk c) from by rw [show Zb2 c = _ from if_pos hr]; rfl]
  exact Zav [2] (v := slv 2 0 ((Zai [(Zn c.region).1, (Zn c.epoch).1, (Zn c.node).1, (Zn c.size).1, (Zm (dgL c.root))]).length) ((Zai [(Zn c.region).1, (Zn c.epoch).1, (Zn c.node).1, (Zn c.size).1, (Zm (dgL c.root))]).length)) rfl (by kernel_rfl) rfl rfl (by decide) (by simp [Za0, Zah]) ⟨rfl, rfl, rfl, by first | omega | exact Nat.le_refl _ | exact Nat.zero_le _ | (dsimp only; omega), by first | omega | exact Nat.le_refl _ | exact Nat.zero_le _ | (dsimp only; omega)⟩
abbrev Y30 (e : Entry) : Blk := rwB cFd [(⟨1, (Zn e.kind).1⟩ : Field)]
abbrev Y31 (e : Entry) : Blk := rwB cFd [(⟨2, (Zn e.client).1⟩ : Field)]
theorem Zty (e : Entry) (hr : Zbz e) : Z6 Tryz.prog G 124 [Zdf e] [] (slv 0 0 (Zdt e).length (Zdt e).length) [rwB cFd (Zdt e)] := by
  refine Za8 (fn := Tryz.f124) (nt := 54) rfl rfl rfl rfl ?_
  refine Zaa 5 (H' := [hole, hole, hole, hole, hole]) rfl ?_
  refine Zf (Zg (Zbq (v := Zdf e) (b := bxB 109 (Zcs e)) (nid := 0) (H' := [bxB 109 (Zcs e), hole, hole, hole, hole]) (Zb (.slice none 0 0) (Za (Zc (Zf ?_))))))
  have hk := Zmg hr
  refine Zg (Zh (b := 0) (o := 0) (n := 0) (o' := 0) (Zp (p := pt 0 0) (v := Iv e.kind) ?_))
  refine Zo (Zd4 (G := G) e.kind (by omega) (by omega)) (vals := [Iv e.kind]) (res' := .string ((Zn e.kind).1)) rfl rfl rfl rfl rfl rfl ?_
  refine Za5 (vs := [(0, Iv 1), (1, .string ((Zn e.kind).1))]) (v := fdV (⟨1, (Zn e.kind).1⟩ : Field)) rfl rfl rfl (by kernel_rfl) ?_
  refine Zdb (vs := [(0, fdV (⟨1, (Zn e.kind).1⟩ : Field))]) (v := slv 1 0 1 1) (blk := rwB cFd [(⟨1, (Zn e.kind).1⟩ : Field)]) (nid := 1) (H' := [bxB 109 (Zcs e), Y30 e, hole, hole, hole]) rfl rfl rfl (by kernel_rfl) (by kernel_rfl) ?_
  refine Zb (slv 1 0 1 1) (Za (Zc (Zf (Zf (Zg (Zh (b := 0) (o := 0) (n := 0) (o' := 0) (Zp (p := pt 0 0) (v := Iv e.kind) (Za (Zc (Z1 (Zf (Zg ?_))))))))))))
  by_cases h1 : e.kind = 1
  refine Zl (vx := Iv e.kind) (vy := Iv 1) rfl rfl (.bool true) rfl rfl (Zdn (by omega)) ?_
  refine Zb (.bool true) (Za (Zc (Zx rfl (Zf ?_))))
  have hu := Zj9 hr (by omega)
  refine Zg (Zd (slv 1 0 1 1) (Zh (b := 0) (o := 0) (n := 1) (o' := 1) (Zp (p := pt 0 1) (v := Iv e.client) ?_)))
  refine Zo (Zd4 (G := G) e.client (by omega) (by omega)) (vals := [Iv e.client]) (res' := .string ((Zn e.client).1)) rfl rfl rfl rfl rfl rfl ?_
  refine Za5 (vs := [(0, Iv 2), (1, .string ((Zn e.client).1))]) (v := fdV (⟨2, (Zn e.client).1⟩ : Field)) rfl rfl rfl (by kernel_rfl) ?_
  refine Zdb (vs := [(0, fdV (⟨2, (Zn e.client).1⟩ : Field))]) (v := slv 2 0 1 1) (blk := rwB cFd [(⟨2, (Zn e.client).1⟩ : Field)]) (nid := 2) (H' := [bxB 109 (Zcs e), Y30 e, Y31 e, hole, hole]) rfl rfl rfl (by kernel_rfl) (by kernel_rfl) ?_
  have hl9 : ([(⟨1, (Zn e.kind).1⟩ : Field)] ++ [(⟨2, (Zn e.client).1⟩ : Field)]).length = 2 := by have : ([(⟨1, (Zn e.kind).1⟩ : Field)]).length = 1 := rfl; have := (rfl : _ = 1); first | (rw [List.length_append]; omega) | (rw [List.length_append, List.length_take]; omega) | (simp; omega) | simp
  refine Zbp (p := slv 1 0 1 1) (q := slv 2 0 1 1) (v := slv 1 0 2 2) (b := 1) (blk := rwB cFd ([(⟨1, (Zn e.kind).1⟩ : Field)] ++ [(⟨2, (Zn e.client).1⟩ : Field)])) (H' := [bxB 109 (Zcs e), rwB cFd ([(⟨1, (Zn e.kind).1⟩ : Field)] ++ [(⟨2, (Zn e.client).1⟩ : Field)]), Y31 e, hole, hole]) rfl rfl rfl (.inl ⟨_, rfl⟩) rfl rfl (Zhd cFd (by_ := 24) (k := 1) (n' := 2) (ms := [(⟨2, (Zn e.client).1⟩ : Field)]) (fun _ => rfl) rfl rfl (by kernel_rfl) rfl rfl (by have : ([(⟨1, (Zn e.kind).1⟩ : Field)]).length = 1 := rfl; omega) (by omega) (by decide) (by omega)) rfl (by kernel_rfl) ?_
  refine Zb (slv 1 0 2 2) (Za (Zc (Zf (Zg (Zd (slv 1 0 2 2) (Zh (b := 0) (o := 0) (n := 2) (o' := 2) (Zp (p := pt 0 2) (v := Iv e.seq) ?_)))))))
  refine Zo (Zd4 (G := G) e.seq (by omega) (by omega)) (vals := [Iv e.seq]) (res' := .string ((Zn e.seq).1)) rfl rfl rfl rfl rfl rfl ?_
  refine Za5 (vs := [(0, Iv 3), (1, .string ((Zn e.seq).1))]) (v := fdV (⟨3, (Zn e.seq).1⟩ : Field)) rfl rfl rfl (by kernel_rfl) ?_
  refine Zdb (vs := [(0, fdV (⟨3, (Zn e.seq).1⟩ : Field))]) (v := slv 3 0 1 1) (blk := rwB cFd [(⟨3, (Zn e.seq).1⟩ : Field)]) (nid := 3) (H' := [bxB 109 (Zcs e), rwB cFd ([(⟨1, (Zn e.kind).1⟩ : Field)] ++ [(⟨2, (Zn e.client).1⟩ : Field)]), Y31 e, rwB cFd [(⟨3, (Zn e.seq).1⟩ : Field)], hole]) rfl rfl rfl (by kernel_rfl) (by kernel_rfl) ?_
  have hl10 : (([(⟨1, (Zn e.kind).1⟩ : Field)] ++ [(⟨2, (Zn e.client).1⟩ : Field)]) ++ [(⟨3, (Zn e.seq).1⟩ : Field)]).length = 3 := by have := hl9; have := (rfl : _ = 1); first | (rw [List.length_append]; omega) | (rw [List.length_append, List.length_take]; omega) | (simp; omega) | simp
  refine Zbp (p := slv 1 0 2 2) (q := slv 3 0 1 1) (v := slv 1 0 3 3) (b := 1) (blk := rwB cFd (([(⟨1, (Zn e.kind).1⟩ : Field)] ++ [(⟨2, (Zn e.client).1⟩ : Field)]) ++ [(⟨3, (Zn e.seq).1⟩ : Field)])) (H' := [bxB 109 (Zcs e), rwB cFd (([(⟨1, (Zn e.kind).1⟩ : Field)] ++ [(⟨2, (Zn e.client).1⟩ : Field)]) ++ [(⟨3, (Zn e.seq).1⟩ : Field)]), Y31 e, rwB cFd [(⟨3, (Zn e.seq).1⟩ : Field)], hole]) rfl rfl rfl (.inl ⟨_, rfl⟩) rfl rfl (Zhd cFd (by_ := 24) (k := 1) (n' := 3) (ms := [(⟨3, (Zn e.seq).1⟩ : Field)]) (fun _ => rfl) rfl rfl (by kernel_rfl) rfl rfl (by have := hl9; omega) (by omega) (by decide) (by omega)) rfl (by kernel_rfl) ?_
  refine Zb (slv 1 0 3 3) (Za (Zc (Zg (Zd (slv 1 0 3 3) (Zh (b := 0) (o := 0) (n := 3) (o' := 3) (Zp (p := pt 0 3) (v := .string e.text) ?_))))))
  refine Za5 (vs := [(0, Iv 4), (1, .string e.text)]) (v := fdV (⟨4, e.text⟩ : Field)) rfl rfl rfl (by kernel_rfl) ?_
  refine Zdb (vs := [(0, fdV (⟨4, e.text⟩ : Field))]) (v := slv 4 0 1 1) (blk := rwB cFd [(⟨4, e.text⟩ : Field)]) (nid := 4) (H' := [bxB 109 (Zcs e), rwB cFd (([(⟨1, (Zn e.kind).1⟩ : Field)] ++ [(⟨2, (Zn e.client).1⟩ : Field)]) ++ [(⟨3, (Zn e.seq).1⟩ : Field)]), Y31 e, rwB cFd [(⟨3, (Zn e.seq).1⟩ : Field)], rwB cFd [(⟨4, e.text⟩ : Field)]]) rfl rfl rfl (by kernel_rfl) (by kernel_rfl) ?_
  have hl11 : ((([(⟨1, (Zn e.kind).1⟩ : Field)] ++ [(⟨2, (Zn e.client).1⟩ : Field)]) ++ [(⟨3, (Zn e.seq).1⟩ : Field)]) ++ [(⟨4, e.text⟩ : Field)]).length = 4 := by have := hl10; have := (rfl : _ = 1); first | (rw [List.length_append]; omega) | (rw [List.length_append, List.length_take]; omega) | (simp; omega) | simp
  refine Zbp (p := slv 1 0 3 3) (q := slv 4 0 1 1) (v := slv 1 0 4 4) (b := 1) (blk := rwB cFd ((([(⟨1, (Zn e.kind).1⟩ : Field)] ++ [(⟨2, (Zn e.client).1⟩ : Field)]) ++ [(⟨3, (Zn e.seq).1⟩ : Field)]) ++ [(⟨4, e.text⟩ : Field)])) (H' := [bxB 109 (Zcs e), rwB cFd ((([(⟨1, (Zn e.kind).1⟩ : Field)] ++ [(⟨2, (Zn e.client).1⟩ : Field)]) ++ [(⟨3, (Zn e.seq).1⟩ : Field)]) ++ [(⟨4, e.text⟩ : Field)]), Y31 e, rwB cFd [(⟨3, (Zn e.seq).1⟩ : Field)], rwB cFd [(⟨4, e.text⟩ : Field)]]) rfl rfl rfl (.inl ⟨_, rfl⟩) rfl rfl (Zhd cFd (by_ := 24) (k := 1) (n' := 4) (ms := [(⟨4, e.text⟩ : Field)]) (fun _ => rfl) rfl rfl (by kernel_rfl) rfl rfl (by have := hl10; omega) (by omega) (by decide) (by omega)) rfl (by kernel_rfl) ?_
  refine Zb (slv 1 0 4 4) (Za (Z4 (Zc (Zf (Zg (Zd (slv 1 0 4 4) (Zb (slv 1 0 4 4) (Za (Zc (Zq (Zr ?_)))))))))))
  rw [show Zdt e = ((([(⟨1, (Zn e.kind).1⟩ : Field)] ++ [(⟨2, (Zn e.client).1⟩ : Field)]) ++ [(⟨3, (Zn e.seq).1⟩ : Field)]) ++ [(⟨4, e.text⟩ : Field)]) from by unfold Zdt; first | (rw [if_pos (by omega)]; rfl) | (rw [if_neg (by omega), if_pos (by omega)]; rfl) | (rw [if_neg (by omega), if_neg (by omega)]; rfl)]
  exact Zav [1] (v := slv 1 0 4 4) rfl (by kernel_rfl) rfl rfl (by decide) (by simp [Za0, rwB, cFd]) ⟨rfl, rfl, rfl, by first | omega | exact Nat.le_refl _ | exact Nat.zero_le _ | (dsimp only; omega), by first | omega | exact Nat.le_refl _ | exact Nat.zero_le _ | (dsimp only; omega)⟩
  refine Zl (vx := Iv e.kind) (vy := Iv 1) rfl rfl (.bool false) rfl rfl (Zer (by omega)) ?_
  refine Zb (.bool false) (Za (Zc (Zu rfl (Zf (Zg ?_)))))
  by_cases h2 : e.kind = 2
  refine Zl (vx := Iv e.kind) (vy := Iv 2) rfl rfl (.bool true) rfl rfl (Zdn (by omega)) ?_
  refine Zb (.bool true) (Za (Zc (Zx rfl (Zg (Zd (slv 1 0 1 1) (Zh (b := 0) (o := 0) (n := 4) (o' := 4) (Zp (p := pt 0 4) (v := Zy e.head) ?_)))))))
  refine Z2 (e := []) (nid := 2) (Z4o (G := G) e.head (Zy7 hr (by omega))) (vals := [Zy e.head]) (v := slv 2 0 ((Zaj e.head).1.length) ((Zaj e.head).1.length)) (H' := [bxB 109 (Zcs e), Y30 e, Zah ((Zaj e.head).1), hole, hole]) rfl rfl rfl rfl rfl rfl rfl ⟨⟨rfl, trivial⟩, trivial, rfl, rfl, rfl⟩ (by kernel_rfl) (by kernel_rfl) ?_
  refine Ze2 (p := slv 2 0 ((Zaj e.head).1.length) ((Zaj e.head).1.length)) (v := .string (Zm ((Zaj e.head).1))) rfl rfl rfl (Zdu rfl rfl rfl rfl rfl (by omega)) ?_
  refine Za5 (vs := [(0, Iv 5), (1, .string (Zm ((Zaj e.head).1)))]) (v := fdV (⟨5, (Zm ((Zaj e.head).1))⟩ : Field)) rfl rfl rfl (by kernel_rfl) ?_
  refine Zdb (vs := [(0, fdV (⟨5, (Zm ((Zaj e.head).1))⟩ : Field))]) (v := slv 3 0 1 1) (blk := rwB cFd [(⟨5, (Zm ((Zaj e.head).1))⟩ : Field)]) (nid := 3) (H' := [bxB 109 (Zcs e), Y30 e, Zah ((Zaj e.head).1), rwB cFd [(⟨5, (Zm ((Zaj e.head).1))⟩ : Field)], hole]) rfl rfl rfl (by kernel_rfl) (by kernel_rfl) ?_
  have hl12 : ([(⟨1, (Zn e.kind).1⟩ : Field)] ++ [(⟨5, (Zm ((Zaj e.head).1))⟩ : Field)]).length = 2 := by have : ([(⟨1, (Zn e.kind).1⟩ : Field)]).length = 1 := rfl; have := (rfl : _ = 1); first | (rw [List.length_append]; omega) | (rw [List.length_append, List.length_take]; omega) | (simp; omega) | simp
  refine Zbp (p := slv 1 0 1 1) (q := slv 3 0 1 1) (v := slv 1 0 2 2) (b := 1) (blk := rwB cFd ([(⟨1, (Zn e.kind).1⟩ : Field)] ++ [(⟨5, (Zm ((Zaj e.head).1))⟩ : Field)])) (H' := [bxB 109 (Zcs e), rwB cFd ([(⟨1, (Zn e.kind).1⟩ : Field)] ++ [(⟨5, (Zm ((Zaj e.head).1))⟩ : Field)]), Zah ((Zaj e.head).1), rwB cFd [(⟨5, (Zm ((Zaj e.head).1))⟩ : Field)], hole]) rfl rfl rfl (.inl ⟨_, rfl⟩) rfl rfl (Zhd cFd (by_ := 24) (k := 1) (n' := 2) (ms := [(⟨5, (Zm ((Zaj e.head).1))⟩ : Field)]) (fun _ => rfl) rfl rfl (by kernel_rfl) rfl rfl (by have : ([(⟨1, (Zn e.kind).1⟩ : Field)]).length = 1 := rfl; omega) (by omega) (by decide) (by omega)) rfl (by kernel_rfl) ?_
  refine Zb (slv 1 0 2 2) (Za (Z4 (Zc (Zf (Zg (Zd (slv 1 0 2 2) (Zb (slv 1 0 2 2) (Za (Zc (Zq (Zr ?_)))))))))))
  rw [show Zdt e = ([(⟨1, (Zn e.kind).1⟩ : Field)] ++ [(⟨5, (Zm ((Zaj e.head).1))⟩ : Field)]) from by unfold Zdt; first | (rw [if_pos (by omega)]; rfl) | (rw [if_neg (by omega), if_pos (by omega)]; rfl) | (rw [if_neg (by omega), if_neg (by omega)]; rfl)]
  exact Zav [1] (v := slv 1 0 2 2) rfl (by kernel_rfl) rfl rfl (by decide) (by simp [Za0, rwB, cFd]) ⟨rfl, rfl, rfl, by first | omega | exact Nat.le_refl _ | exact Nat.zero_le _ | (dsimp only; omega), by first | omega | exact Nat.le_refl _ | exact Nat.zero_le _ | (dsimp only; omega)⟩
  refine Zl (vx := Iv e.kind) (vy := Iv 2) rfl rfl (.bool false) rfl rfl (Zer (by omega)) ?_
  refine Zb (.bool false) (Za (Zc (Zu rfl (Zf (Zg ?_)))))
  refine Zl (vx := Iv e.kind) (vy := Iv 3) rfl rfl (.bool true) rfl rfl (Zdn (by omega)) ?_
  refine Zb (.bool true) (Za (Zc (Zx rfl (Zg (Zd (slv 1 0 1 1) (Zh (b := 0) (o := 0) (n := 73) (o' := 73) (Zp (p := pt 0 73) (v := Zcb e.claim) ?_)))))))
  refine Z2 (e := []) (nid := 2) (Zo4 (G := G) e.claim (Zv0 hr (by omega))) (vals := [Zcb e.claim]) (v := slv 2 0 ((Zb2 e.claim).1.length) ((Zb2 e.claim).1.length)) (H' := [bxB 109 (Zcs e), Y30 e, Zah ((Zb2 e.claim).1), hole, hole]) rfl rfl rfl rfl rfl rfl rfl ⟨⟨rfl, trivial⟩, trivial, rfl, rfl, rfl⟩ (by kernel_rfl) (by kernel_rfl) ?_
  refine Ze2 (p := slv 2 0 ((Zb2 e.claim).1.length) ((Zb2 e.claim).1.length)) (v := .string (Zm ((Zb2 e.claim).1))) rfl rfl rfl (Zdu rfl rfl rfl rfl rfl (by omega)) ?_
  refine Za5 (vs := [(0, Iv 6), (1, .string (Zm ((Zb2 e.claim).1)))]) (v := fdV (⟨6, (Zm ((Zb2 e.claim).1))⟩ : Field)) rfl rfl rfl (by kernel_rfl) ?_
  refine Zdb (vs := [(0, fdV (⟨6, (Zm ((Zb2 e.claim).1))⟩ : Field))]) (v := slv 3 0 1 1) (blk := rwB cFd [(⟨6, (Zm ((Zb2 e.claim).1))⟩ : Field)]) (nid := 3) (H' := [bxB 109 (Zcs e), Y30 e, Zah ((Zb2 e.claim).1), rwB cFd [(⟨6, (Zm ((Zb2 e.claim).1))⟩ : Field)], hole]) rfl rfl rfl (by kernel_rfl) (by kernel_rfl) ?_
  have hl13 : ([(⟨1, (Zn e.kind).1⟩ : Field)] ++ [(⟨6, (Zm ((Zb2 e.claim).1))⟩ : Field)]).length = 2 := by have : ([(⟨1, (Zn e.kind).1⟩ : Field)]).length = 1 := rfl; have := (rfl : _ = 1); first | (rw [List.length_append]; omega) | (rw [List.length_append, List.length_take]; omega) | (simp; omega) | simp
  refine Zbp (p := slv 1 0 1 1) (q := slv 3 0 1 1) (v := slv 1 0 2 2) (b := 1) (blk := rwB cFd ([(⟨1, (Zn e.kind).1⟩ : Field)] ++ [(⟨6, (Zm ((Zb2 e.claim).1))⟩ : Field)])) (H' := [bxB 109 (Zcs e), rwB cFd ([(⟨1, (Zn e.kind).1⟩ : Field)] ++ [(⟨6, (Zm ((Zb2 e.claim).1))⟩ : Field)]), Zah ((Zb2 e.claim).1), rwB cFd [(⟨6, (Zm ((Zb2 e.claim).1))⟩ : Field)], hole]) rfl rfl rfl (.inl ⟨_, rfl⟩) rfl rfl (Zhd cFd (by_ := 24) (k := 1) (n' := 2) (ms := [(⟨6, (Zm ((Zb2 e.claim).1))⟩ : Field)]) (fun _ => rfl) rfl rfl (by kernel_rfl) rfl rfl (by have : ([(⟨1, (Zn e.kind).1⟩ : Field)]).length = 1 := rfl; omega) (by omega) (by decide) (by omega)) rfl (by kernel_rfl) ?_
  refine Zb (slv 1 0 2 2) (Za (Z4 (Zc (Zf (Zg (Zd (slv 1 0 2 2) (Zb (slv 1 0 2 2) (Za (Zc (Zq (Zr ?_)))))))))))
  rw [show Zdt e = ([(⟨1, (Zn e.kind).1⟩ : Field)] ++ [(⟨6, (Zm ((Zb2 e.claim).1))⟩ : Field)]) from by unfold Zdt; first | (rw [if_pos (by omega)]; rfl) | (rw [if_neg (by omega), if_pos (by omega)]; rfl) | (rw [if_neg (by omega), if_neg (by omega)]; rfl)]
  exact Zav [1] (v := slv 1 0 2 2) rfl (by kernel_rfl) rfl rfl (by decide) (by simp [Za0, rwB, cFd]) ⟨rfl, rfl, rfl, by first | omega | exact Nat.le_refl _ | exact Nat.zero_le _ | (dsimp only; omega), by first | omega | exact Nat.le_refl _ | exact Nat.zero_le _ | (dsimp only; omega)⟩
theorem Zt5 (e : Entry) (hr : Zbz e) : Z6 Tryz.prog G 111 [Zdf e] [] (slv 0 0 (Zbh e).1.length (Zbh e).1.length) [Zah (Zbh e).1] := by
  refine Za8 (fn := Tryz.f111) (nt := 12) rfl rfl rfl rfl ?_
  refine Zaa 3 (H' := [hole, hole, hole]) rfl ?_
  refine Zf (Zg (Zbq (v := Zdf e) (b := bxB 109 (Zcs e)) (nid := 0) (H' := [bxB 109 (Zcs e), hole, hole]) (Zb (.slice none 0 0) (Za (Zc (Zf (Zg (Zp (p := pt 0 0) (v := Zdf e) ?_))))))))
  have hef4 := Z46 e
  refine Z2 (e := []) (nid := 1) (Zty (G := G) e hr) (vals := [Zdf e]) (v := slv 1 0 ((Zdt e).length) ((Zdt e).length)) (H' := [bxB 109 (Zcs e), rwB cFd (Zdt e), hole]) rfl rfl rfl rfl rfl rfl rfl ⟨⟨rfl, trivial⟩, trivial, rfl, rfl, rfl⟩ (by kernel_rfl) (by kernel_rfl) ?_
  refine Z2 (e := [some (1, 0)]) (nid := 2) (Z13 (G := G) (Zdt e) ((Zdt e).length) ((Zdt e).length) (rfl : _ = _) (by omega) (by omega) (Zp5 hr)) (vals := [slv 1 0 ((Zdt e).length) ((Zdt e).length)]) (v := .tuple #[slv 2 0 ((Z9 (Zdt e) 0 []).1.length) ((Z9 (Zdt e) 0 []).1.length), Iv 0]) (H' := [bxB 109 (Zcs e), rwB cFd (Zdt e), Zah ((Z9 (Zdt e) 0 []).1)]) rfl rfl rfl rfl rfl rfl rfl ⟨⟨⟨rfl, rfl, rfl, by first | omega | exact Nat.le_refl _, by first | omega | exact Nat.le_refl _⟩, trivial⟩, ⟨(Zgb rfl), trivial⟩, rfl, rfl, rfl⟩ (by kernel_rfl) (by kernel_rfl) ?_
  refine Zd (.tuple #[slv 2 0 ((Z9 (Zdt e) 0 []).1.length) ((Z9 (Zdt e) 0 []).1.length), Iv 0]) (Zw (vs := #[slv 2 0 ((Z9 (Zdt e) 0 []).1.length) ((Z9 (Zdt e) 0 []).1.length), Iv 0]) (v := slv 2 0 ((Z9 (Zdt e) 0 []).1.length) ((Z9 (Zdt e) 0 []).1.length)) (Zw (vs := #[slv 2 0 ((Z9 (Zdt e) 0 []).1.length) ((Z9 (Zdt e) 0 []).1.length), Iv 0]) (v := Iv 0) (Zb (slv 2 0 ((Z9 (Zdt e) 0 []).1.length) ((Z9 (Zdt e) 0 []).1.length)) (Zb (Iv 0) (Za (Zc (Zf (Zg (Zd (slv 2 0 ((Z9 (Zdt e) 0 []).1.length) ((Z9 (Zdt e) 0 []).1.length)) (Zb (slv 2 0 ((Z9 (Zdt e) 0 []).1.length) ((Z9 (Zdt e) 0 []).1.length)) (Za (Zc (Zq (Zr ?_))))))))))))))
  rw [show (Zbh e).1 = (Z9 (Zdt e) 0 []).1 from by rw [show Zbh e = _ from if_pos hr]]
  exact Zav [2] (v := slv 2 0 ((Z9 (Zdt e) 0 []).1.length) ((Z9 (Zdt e) 0 []).1.length)) rfl (by kernel_rfl) rfl rfl (by decide) (by simp [Za0, Zah]) ⟨rfl, rfl, rfl, by first | omega | exact Nat.le_refl _ | exact Nat.zero_le _ | (dsimp only; omega), by first | omega | exact Nat.le_refl _ | exact Nat.zero_le _ | (dsimp only; omega)⟩
theorem Zps (x : Item) (hr : Zcw x) : Z6 Tryz.prog G 84 [Za9 x] [] (slv 0 0 (Zca x).1.length (Zca x).1.length) [Zah (Zca x).1] := by
  have hr1 := hr.1
  have hr2 := hr.2.1
  refine Za8 (fn := Tryz.f84) (nt := 12) rfl rfl rfl rfl ?_
  refine Zaa 4 (H' := [hole, hole, hole, hole]) rfl ?_
  refine Zf (Zg (Zbq (v := Za9 x) (b := bxB 110 (Zs x)) (nid := 0) (H' := [bxB 110 (Zs x), hole, hole, hole]) (Zb (.slice none 0 0) (Za (Zc (Zf ?_))))))
  refine Zgc (by kernel_rfl) ?_
  refine Zh (b := 0) (o := 0) (n := 0) (o' := 0) (Zp (p := pt 0 0) (v := Iv x.epoch) ?_)
  refine Zo (Zd4 (G := G) x.epoch (by omega) (by omega)) (vals := [Iv x.epoch]) (res' := .string ((Zn x.epoch).1)) rfl rfl rfl rfl rfl rfl ?_
  refine Zh (b := 0) (o := 0) (n := 1) (o' := 1) (Zp (p := pt 0 1) (v := Zdf x.entry) ?_)
  refine Z2 (e := []) (nid := 1) (Zt5 (G := G) x.entry hr.2.2) (vals := [Zdf x.entry]) (v := slv 1 0 ((Zbh x.entry).1.length) ((Zbh x.entry).1.length)) (H' := [bxB 110 (Zs x), Zah ((Zbh x.entry).1), hole, hole]) rfl rfl rfl rfl rfl rfl rfl ⟨⟨rfl, trivial⟩, trivial, rfl, rfl, rfl⟩ (by kernel_rfl) (by kernel_rfl) ?_
  refine Ze2 (p := slv 1 0 ((Zbh x.entry).1.length) ((Zbh x.entry).1.length)) (v := .string (Zm ((Zbh x.entry).1))) rfl rfl rfl (Zdu rfl rfl rfl rfl rfl (by omega)) ?_
  refine Zdb (vs := [(0, .string ((Zn x.epoch).1)), (1, .string (Zm ((Zbh x.entry).1)))]) (v := slv 2 0 2 2) (blk := txB [(Zn x.epoch).1, (Zm ((Zbh x.entry).1))]) (nid := 2) (H' := [bxB 110 (Zs x), Zah ((Zbh x.entry).1), txB [(Zn x.epoch).1, (Zm ((Zbh x.entry).1))], hole]) rfl rfl rfl (by kernel_rfl) (by kernel_rfl) ?_
  refine Z2 (e := [some (2, 0)]) (nid := 3) (Zl3 (G := G) [(Zn x.epoch).1, (Zm ((Zbh x.entry).1))] 2 2 (by rfl) (by first | omega | exact Nat.le_refl _) (by omega) (Z33 x)) (vals := [slv 2 0 2 2]) (v := slv 3 0 ((Zai [(Zn x.epoch).1, (Zm ((Zbh x.entry).1))]).length) ((Zai [(Zn x.epoch).1, (Zm ((Zbh x.entry).1))]).length)) (H' := [bxB 110 (Zs x), Zah ((Zbh x.entry).1), txB [(Zn x.epoch).1, (Zm ((Zbh x.entry).1))], Zah (Zai [(Zn x.epoch).1, (Zm ((Zbh x.entry).1))])]) rfl rfl rfl rfl rfl rfl rfl ⟨⟨⟨rfl, rfl, rfl, by first | omega | exact Nat.le_refl _, by first | omega | exact Nat.le_refl _⟩, trivial⟩, ⟨(Zmt rfl), trivial⟩, rfl, rfl, rfl⟩ (by kernel_rfl) (by kernel_rfl) ?_
  refine Zb (slv 3 0 ((Zai [(Zn x.epoch).1, (Zm ((Zbh x.entry).1))]).length) ((Zai [(Zn x.epoch).1, (Zm ((Zbh x.entry).1))]).length)) ?_
  refine Zeu (Zfs [[], [0], [0, 1], [], [3], [0, 1, 2, 3, 4], [0, 1, 2, 3, 4, 5], [0, 1, 2, 3, 4, 5, 6], [0, 1, 2, 3, 4, 5, 6, 7], [0, 1, 2, 3, 4, 5, 6, 7, 8]] (by kernel_rfl) (by kernel_rfl)) ?_
  refine Zc (Zq (Zr ?_))
  rw [show (Zca x).1 = Zai [(Zn x.epoch).1, Zm (Zbh x.entry).1] from by rw [show Zca x = _ from if_pos hr]; rfl]
  exact Zav [3] (v := slv 3 0 ((Zai [(Zn x.epoch).1, (Zm ((Zbh x.entry).1))]).length) ((Zai [(Zn x.epoch).1, (Zm ((Zbh x.entry).1))]).length)) rfl (by kernel_rfl) rfl rfl (by decide) (by simp [Za0, Zah]) ⟨rfl, rfl, rfl, by first | omega | exact Nat.le_refl _ | exact Nat.zero_le _ | (dsimp only; omega), by first | omega | exact Nat.le_refl _ | exact Nat.zero_le _ | (dsimp only; omega)⟩
theorem Zve (kk : Nat → BitVec 32) (hG2 : G 2 = some (Zag w32 64 kk)) (s : ByteArray) (hs : s.size ≤ 1000000) : Z6 Tryz.prog G 83 [.string s] [] (dgV (lfT kk s)) [] := by
 refine Za8 (fn := Tryz.f83) (nt := 6) rfl rfl rfl rfl ?_
 refine Zaa 1 (H' := [hole]) rfl ?_
 refine Zf (Zg (Zam (b := dgB dz) (nid := 0) (H' := [dgB dz]) (Za (Zc (Zf (Zg (Zd (.string s) ?_)))))))
 refine Zl (vx := .string Zff) (vy := .string s) rfl rfl (.string (Zff ++ s)) rfl rfl (Zhc (by have e0 : Zff.size = 1 := rfl; omega)) ?_
 refine Zo (Zyn (G := G) kk hG2 (Zff ++ s) (by simp only [ByteArray.size_append]; have e0 : Zff.size = 1 := rfl; omega)) (vals := [.string (Zff ++ s)]) (res' := dgV (Zcq kk (bl (Zff ++ s)))) rfl rfl rfl rfl rfl (by kernel_rfl) ?_
 refine Z7 (p := pt 0 0) (v := dgV (Zcq kk (bl (Zff ++ s)))) (b := 0) (blk := dgB (Zcq kk (bl (Zff ++ s)))) (H' := [dgB (Zcq kk (bl (Zff ++ s)))]) (Za (Zc (Zq (Zr ?_))))
 rw [show lfT kk s = Zcq kk (bl (Zff ++ s)) from lfT_bl kk s]
 exact Zk (v := dgV (Zcq kk (bl (Zff ++ s)))) (by kernel_rfl) rfl rfl (by kernel_rfl) (Zbm (Zbu fun _ => rfl) rfl)
theorem Zx5 (kk : Nat → BitVec 32) (hG2 : G 2 = some (Zag w32 64 kk)) (x : Item) (hr : Zcw x) : Z6 Tryz.prog G 52 [Za9 x] [] (dgV (Zat kk x).1) [] := by
 refine Za8 (fn := Tryz.f52) (nt := 7) rfl rfl rfl rfl ?_
 refine Zaa 3 (H' := [hole, hole, hole]) rfl ?_
 refine Zf (Zg (Zbq (v := Za9 x) (b := bxB 110 (Zs x)) (nid := 0) (H' := [bxB 110 (Zs x), hole, hole]) (Zam (b := dgB dz) (nid := 1) (H' := [bxB 110 (Zs x), dgB dz, hole]) (Za (Zc (Zf (Zg (Zp (p := pt 0 0) (v := Za9 x) ?_))))))))
 refine Z2 (e := []) (nid := 2) (Zps (G := G) x hr) (vals := [Za9 x]) (v := slv 2 0 ((Zca x).1.length) ((Zca x).1.length)) (H' := [bxB 110 (Zs x), dgB dz, Zah ((Zca x).1)]) rfl rfl rfl rfl rfl rfl rfl ⟨⟨rfl, trivial⟩, trivial, rfl, rfl, rfl⟩ (by kernel_rfl) (by kernel_rfl) ?_
 refine Ze2 (p := slv 2 0 ((Zca x).1.length) ((Zca x).1.length)) (v := .string (Zm ((Zca x).1))) rfl rfl rfl (Zdu rfl rfl rfl rfl rfl (by omega)) ?_
 refine Zo (Zve (G := G) kk hG2 (Zm ((Zca x).1)) (by rw [Za1]; have := Zw0 x; omega)) (vals := [.string (Zm ((Zca x).1))]) (res' := dgV (lfT kk (Zm ((Zca x).1)))) rfl rfl rfl rfl rfl (by kernel_rfl) ?_
 refine Z7 (p := pt 1 0) (v := dgV (lfT kk (Zm ((Zca x).1)))) (b := 1) (blk := dgB (lfT kk (Zm ((Zca x).1)))) (H' := [bxB 110 (Zs x), dgB (lfT kk (Zm ((Zca x).1))), Zah ((Zca x).1)]) (Za (Zc (Zq (Zr ?_))))
 rw [show (Zat kk x).1 = lfT kk (Zm (Zca x).1) from by rw [show Zat kk x = _ from if_pos hr]]
 exact Zk (v := dgV (lfT kk (Zm ((Zca x).1)))) (by kernel_rfl) rfl rfl (by kernel_rfl) (Zbm (Zbu fun _ => rfl) rfl)
theorem Znu (kk : Nat → BitVec 32) (hG2 : G 2 = some (Zag w32 64 kk)) (l : List Item) (m c : Nat) (hm : m ≤ l.length) (hc : m ≤ c) (hb : m ≤ 1048576) (hall : ∀ i, i < m → Zcw (l.getD i default)) : Z6 Tryz.prog G 40 [slv 0 0 m c] [rwR Zt l] (slv 1 0 m m) [rwR Zt l, dsB (acL kk l m)] := by
  refine Za8 (fn := Tryz.f40) (nt := 22) rfl rfl rfl rfl ?_
  refine Zaa 1 (H' := [rwR Zt l, hole]) rfl ?_
  refine Zf (Zg (Zb (.slice none 0 0) (Za (Zc (Zf (Zg (Zb (.slice none 0 0) (Za (Zc (Zf (Zf ?_)))))))))))
  refine Zbo (Zb6.nilTmp (i := 3) (b := 1) true 32 rfl (by decide) rfl) ?_
  refine Zg (Zb (Iv 0) (Za (Zc (Z1 ?_))))
  refine Zbg (fun i : Nat => [slv 0 0 m c, dead, .slice none 0 0, slv 1 0 i i, Iv (i : Nat)]) (fun i : Nat => [rwR Zt l, dsB (acL kk l i)]) (fun i : Nat => i ≤ m) (fun i : Nat => m - i) 0 (Nat.zero_le _) ?_ ?_
  · refine Z5 (n := 2) rfl ?_ (by kernel_rfl) (by kernel_rfl)
    repeat (first | exact trivial | refine ⟨.inl rfl, ?_⟩ | refine ⟨.inr ⟨rfl, rfl⟩, ?_⟩ | refine ⟨.inr ⟨congrArg (Value.int .i64) (by first | omega | (dsimp only; omega)), rfl⟩, ?_⟩)
  rintro i hi
  refine Zaa 2 (H' := [rwR Zt l, dsB (acL kk l i), hole, hole]) rfl ?_
  refine Zf (Zf (Zg (Zd (Iv (i : Nat)) (Zd (slv 0 0 m c) (Zcu (p := slv 0 0 m c) (v := Iv (m : Nat)) ?_)))))
  by_cases h1 : (i : Nat) < (m : Nat)
  refine Zl (vx := Iv (i : Nat)) (vy := Iv (m : Nat)) rfl rfl (.bool true) rfl rfl (Zcc (by omega)) ?_
  refine Za (Zc (Zx rfl (Z0 (Zc (Zf (Z1 (Zf (Zg (Zd (slv 0 0 m c) (Zd (Iv (i : Nat)) ?_))))))))))
  refine Zbe (b := 0) (o := 0) (j := i * 110) (m := m) (c := c) (sz := 110) (i := (i : Nat)) (k := .i64) rfl rfl rfl rfl rfl (by omega) (by omega) (by omega) ?_
  refine Zad (p := pt 0 (i * 110)) (v := Za9 (l.getD i default)) rfl rfl rfl (Zhf (n := 0) (m := 110) Zt rfl rfl rfl rfl (by omega) (by omega)) ?_
  refine Zo (Zx5 (G := G) kk hG2 (l.getD i default) (hall i (by omega))) (vals := [Za9 (l.getD i default)]) (res' := dgV ((Zat kk (l.getD i default)).1)) rfl rfl rfl rfl rfl (by kernel_rfl) ?_
  refine Zam (b := dgB dz) (nid := 2) (H' := [rwR Zt l, dsB (acL kk l i), dgB dz, hole]) (Z7 (p := pt 2 0) (v := dgV ((Zat kk (l.getD i default)).1)) (b := 2) (blk := dgB ((Zat kk (l.getD i default)).1)) (H' := [rwR Zt l, dsB (acL kk l i), dgB ((Zat kk (l.getD i default)).1), hole]) (Za (Zc (Zg (Zd (slv 1 0 i i) (Zp (p := pt 2 0) (v := dgV ((Zat kk (l.getD i default)).1)) ?_))))))
  refine Zdb (vs := [(0, dgV ((Zat kk (l.getD i default)).1))]) (v := slv 3 0 1 1) (blk := dsB [(Zat kk (l.getD i default)).1]) (nid := 3) (H' := [rwR Zt l, dsB (acL kk l i), dgB ((Zat kk (l.getD i default)).1), dsB [(Zat kk (l.getD i default)).1]]) rfl rfl rfl (by kernel_rfl) (by kernel_rfl) ?_
  have hl2 : ((acL kk l i) ++ [(Zat kk (l.getD i default)).1]).length = i + 1 := by have := (Zd2 kk l i); have := (rfl : _ = 1); first | (rw [List.length_append]; omega) | (rw [List.length_append, List.length_take]; omega) | (simp; omega) | simp
  refine Zbp (p := slv 1 0 i i) (q := slv 3 0 1 1) (v := slv 1 0 (i + 1) (i + 1)) (b := 1) (blk := dsB ((acL kk l i) ++ [(Zat kk (l.getD i default)).1])) (H' := [rwR Zt l, dsB ((acL kk l i) ++ [(Zat kk (l.getD i default)).1]), dgB ((Zat kk (l.getD i default)).1), dsB [(Zat kk (l.getD i default)).1]]) rfl rfl rfl (.inl ⟨_, rfl⟩) rfl rfl (Zhd cDg (by_ := 32) (k := 1) (n' := i + 1) (ms := [(Zat kk (l.getD i default)).1]) (fun _ => rfl) rfl rfl (by kernel_rfl) rfl rfl (by have := (Zd2 kk l i); omega) (by omega) (by decide) (by omega)) rfl (by kernel_rfl) ?_
  refine Zb (slv 1 0 (i + 1) (i + 1)) (Za (Z4 (Zc (Zg (Zd (Iv (i : Nat)) ?_)))))
  refine Zl (vx := Iv (i : Nat)) (vy := Iv 1) rfl rfl (Iv ((i : Nat) + 1)) rfl rfl (Za3 (by omega) (by omega) (by omega)) ?_
  refine Zb (Iv ((i : Nat) + 1)) (Za ?_)
  refine Zao ⟨(i + 1), (show i + 1 ≤ m by omega), by show m - (i + 1) < m - i; omega, ?_⟩
  refine Z5 (n := 2) rfl ?_ (by kernel_rfl) (by kernel_rfl)
  repeat (first | exact trivial | refine ⟨.inl rfl, ?_⟩ | refine ⟨.inr ⟨rfl, rfl⟩, ?_⟩ | refine ⟨.inr ⟨congrArg (Value.int .i64) (by first | omega | (dsimp only; omega)), rfl⟩, ?_⟩)
  refine Zl (vx := Iv (i : Nat)) (vy := Iv (m : Nat)) rfl rfl (.bool false) rfl rfl (Zb5 (by omega)) ?_
  refine Za (Zc (Zu rfl (Zbb (Zaq (Zau (Zax rfl (Zc (Zf (Zg (Zd (slv 1 0 i i) (Zb (slv 1 0 i i) (Za (Zc (Zq (Zr ?_)))))))))))))))
  have hi2 : i = m := by omega
  subst hi2
  exact Zav [0, 1] (v := slv 1 0 i i) rfl (by kernel_rfl) rfl rfl (by decide) (by simp [Za0, rwR, dsB, Zt]) ⟨rfl, rfl, rfl, by first | omega | exact Nat.le_refl _ | exact Nat.zero_le _ | (dsimp only; omega), by first | omega | exact Nat.le_refl _ | exact Nat.zero_le _ | (dsimp only; omega)⟩
end Go.Flat
