/- Walks. -/
import Derived.Test.YtoheeojjdpdljaaDoorL1
set_option linter.unusedVariables false
set_option linter.unusedSimpArgs false
set_option maxRecDepth 20000
namespace Go.Flat
open Go.Proofs
variable {G : Glob}
def Zlv (k : Int) (s : ByteArray) : Int :=
  if k < 1 then 1 else
  if 255 < k then 1 else
  if 65536 < (s.size : Nat) then 2 else
  0
theorem Zwe (k : Int) (s : ByteArray) : Zao Tryd.prog G 87 [Iv k, .string s] [] (Iv (Zlv k s)) [] := by
 refine Zbv (fn := Tryd.f87) (nt := 14) rfl rfl rfl rfl ?_
 refine Zg (Zi (Zb rfl rfl (Iv 0) rfl (Za (Zc (Zg (Zg (Zi (Zd rfl rfl (Iv k) rfl ?_))))))))
 by_cases h1 : k < 1
 refine Zn (vx := Iv k) (vy := Iv 1) rfl rfl (.bool true) rfl rfl (Zdt (by omega)) ?_
 refine Zd rfl rfl (.bool true) rfl (Zf rfl rfl (Zf rfl rfl (Zk rfl rfl (.bool true) rfl (Za (Zc (Z0 rfl (Zg (Zi (Zb rfl rfl (Iv 1) rfl (Za (Zc (Zv (Z5 (Zu ?_))))))))))))))
 rw [show Zlv k s = 1 from by unfold Zlv; rw [if_pos h1]]
 exact Zm (v := Iv 1) rfl rfl rfl (by kernel_rfl) rfl
 refine Zn (vx := Iv k) (vy := Iv 1) rfl rfl (.bool false) rfl rfl (Zdh (by omega)) ?_
 refine Zd rfl rfl (.bool false) rfl (Zd rfl rfl (Iv k) rfl ?_)
 by_cases h2 : 255 < k
 refine Zn (vx := Iv k) (vy := Iv 255) rfl rfl (.bool true) rfl rfl (Zf1 (by omega)) ?_
 refine Zk rfl rfl (.bool true) rfl (Za (Zc (Z0 rfl (Zg (Zi (Zb rfl rfl (Iv 1) rfl (Za (Zc (Zv (Z5 (Zu ?_)))))))))))
 rw [show Zlv k s = 1 from by unfold Zlv; rw [if_neg h1, if_pos h2]]
 exact Zm (v := Iv 1) rfl rfl rfl (by kernel_rfl) rfl
 refine Zn (vx := Iv k) (vy := Iv 255) rfl rfl (.bool false) rfl rfl (Zf8 (by omega)) ?_
 refine Zk rfl rfl (.bool false) rfl (Za (Zc (Zx rfl (Zai (Zc (Zg (Zg (Zi (Zd rfl rfl (.string s) rfl ?_)))))))))
 refine Zb7 (p := .string s) (v := Iv (s.size : Nat)) rfl rfl rfl rfl ?_
 by_cases h3 : 65536 < (s.size : Nat)
 refine Zn (vx := Iv (s.size : Nat)) (vy := Iv 65536) rfl rfl (.bool true) rfl rfl (Zf1 (by omega)) ?_
 refine Za (Zc (Z0 rfl (Zg (Zi (Zb rfl rfl (Iv 2) rfl (Za (Zc (Zv (Z5 (Zu ?_))))))))))
 rw [show Zlv k s = 2 from by unfold Zlv; rw [if_neg h1, if_neg h2, if_pos h3]]
 exact Zm (v := Iv 2) rfl rfl rfl (by kernel_rfl) rfl
 refine Zn (vx := Iv (s.size : Nat)) (vy := Iv 65536) rfl rfl (.bool false) rfl rfl (Zf8 (by omega)) ?_
 refine Za (Zc (Zx rfl (Zai (Zc (Zg (Zi (Zb rfl rfl (Iv 0) rfl (Za (Zc (Zv (Zu ?_)))))))))))
 rw [show Zlv k s = 0 from by unfold Zlv; rw [if_neg h1, if_neg h2, if_neg h3]]
 exact Zm (v := Iv 0) rfl rfl rfl (by kernel_rfl) rfl
theorem Zx2 {fs : List Field} {i : Nat} {last : Int} {acc : Bs} (hR : Z6 (fs.drop i) last acc = Z6 fs 0 []) (hi : i < fs.length) (hok : (Z6 fs 0 []).2 = 0) : Zez (fs.getD i default) last = 0 := by
 refine Decidable.byContradiction fun q => ?_
 have := Ztr hR hi q
 rw [this] at hok
 exact q hok
theorem Z2w {f : Field} {last : Int} (hl : 0 ≤ last) (h : Zez f last = 0) : Zlv f.tag f.data = 0 ∧ last < f.tag ∧ f.data.size ≤ 65536 := by
 unfold Zez at h
 split at h
 ·omega
 ·split at h
  ·omega
  ·split at h
   ·omega
   ·exact ⟨by unfold Zlv; rw [if_neg (by omega), if_neg (by omega), if_neg (by omega)], by omega, by omega⟩
theorem Z02 (x : Item) : ∀ y, y ∈ [(Zp x.epoch).1, Zl (Zaf x.entry).1] → y.size ≤ 65536 := by
 intro y hy
 have h1 := Za6 x.epoch
 have h2 := Zj9 x.entry
 simp only [List.mem_cons, List.not_mem_nil, or_false] at hy
 rcases hy with rfl | rfl
 ·omega
 ·rw [Zbc]; omega
theorem Zu5 {e : Entry} (h : Zba e) (hk : e.kind = 3) : Za8 e.claim := by
 rcases h with q | q | q
 ·have := q.1; omega
 ·have := q.1; omega
 ·exact q.2.2.2.2.2
theorem Zvm {e : Entry} (h : Zba e) (hk : e.kind = 2) : Zfy e.head := by
 rcases h with q | q | q
 ·have := q.1; omega
 ·exact q.2.2.2.2.1
 ·have := q.1; omega
theorem Z0d (e : Entry) : (Zci e).length ≤ 4 := by
 unfold Zci
 split
 ·exact Nat.le_refl _
 ·split <;> exact (by simp)
theorem Z1k (s : Signed) (h : Zfy s) : Zao Tryd.prog G 89 [Zaa s] [] (slv 0 0 (Za1 s).1.length (Za1 s).1.length) [Zy (Za1 s).1] := by
 have q := Zmd (G := G) s h.1 h.2.1 h.2.2
 rw [show (Za1 s).1 = Zaj (Zdn s) from by rw [Ziu h]]; exact q
theorem Zyt (fs : List Field) (n c : Nat) (hn : fs.length = n) (hc : n ≤ c) (hb : n ≤ 1000) (hok : (Z6 fs 0 []).2 = 0) : Zao Tryd.prog G 65 [slv 0 0 n c] [rwR cFd fs] (.tuple #[slv 1 0 (Z6 fs 0 []).1.length (Z6 fs 0 []).1.length, Iv 0]) [rwR cFd fs, Zy (Z6 fs 0 []).1] := by
  refine Zbv (fn := Tryd.f65) (nt := 56) rfl rfl rfl rfl ?_
  refine Zat 1 (H' := [rwR cFd fs, hole]) rfl ?_
  refine Zg (Zi (Zb rfl rfl (.slice none 0 0) rfl (Zb rfl rfl (Iv 0) rfl (Za (Zc (Zg (Zi (Zb rfl rfl (.slice none 0 0) rfl (Za (Zc (Zg ?_)))))))))))
  refine Zcw (Zcq.nilTmp (i := 4) (b := 1) true 1 rfl (by decide) rfl) ?_
  refine Zi (Zb rfl rfl (Iv 0) rfl (Za (Zc (Zg (Zg (Zi (Zb rfl rfl (Iv 0) rfl (Za (Zc (Zap ?_))))))))))
  refine Zb8 (fun x : Nat × Int × Bs => match x with | (i, last, acc) => [slv 0 0 n c, dead, dead, dead, slv 1 0 acc.length acc.length, Iv last, Iv (i : Nat)]) (fun x : Nat × Int × Bs => match x with | (i, last, acc) => [rwR cFd fs, Zy acc]) (fun x : Nat × Int × Bs => match x with | (i, last, acc) => Z6 (fs.drop i) last acc = Z6 fs 0 [] ∧ i ≤ n ∧ acc.length ≤ i * 65540 ∧ 0 ≤ last) (fun x : Nat × Int × Bs => match x with | (i, last, acc) => n - i) (0, 0, []) ⟨rfl, by omega, by simp, Int.le_refl _⟩ ?_ ?_
  · refine Zaq (n := 2) rfl ?_ (by kernel_rfl) (by kernel_rfl)
    repeat (first | exact trivial | refine ⟨.inl rfl, ?_⟩ | refine ⟨.inr ⟨rfl, rfl⟩, ?_⟩ | refine ⟨.inr ⟨congrArg (Value.int .i64) (by first | omega | (dsimp only; omega)), rfl⟩, ?_⟩)
  rintro ⟨i, last, acc⟩ ⟨hR, hi, ha, hl0⟩
  dsimp only at *
  refine Zat 3 (H' := [rwR cFd fs, Zy acc, hole, hole, hole]) rfl ?_
  have ha2 : acc.length ≤ 65540000 := by omega
  refine Zg (Zg (Zi (Zd rfl rfl (Iv (i : Nat)) rfl (Zd rfl rfl (slv 0 0 n c) rfl ?_))))
  refine Zb7 (p := slv 0 0 n c) (v := Iv (n : Nat)) rfl rfl rfl rfl ?_
  by_cases h1 : (i : Nat) < (n : Nat)
  refine Zn (vx := Iv (i : Nat)) (vy := Iv (n : Nat)) rfl rfl (.bool true) rfl rfl (Zdt (by omega)) ?_
  refine Za (Zc (Z0 rfl (Zai (Zc (Zg (Zap (Zg ?_)))))))
  have hm := Zx2 hR (by omega) hok
  obtain ⟨hm1, hm2, hsz⟩ := Z2w hl0 hm
  refine Zfv (by kernel_rfl) ?_
  refine Zd rfl rfl (slv 0 0 n c) rfl (Zd rfl rfl (Iv (i : Nat)) rfl ?_)
  refine Zbk (b := 0) (o := 0) (j := i * 2) (m := n) (c := c) (sz := 2) (i := (i : Nat)) (k := .i64) rfl rfl rfl rfl rfl (by omega) (by omega) (by omega) ?_
  refine Zj (b := 0) (o := i * 2) (n := 0) (o' := i * 2) rfl rfl rfl rfl (by omega) ?_
  refine Zo (p := pt 0 (i * 2)) (v := Iv ((fs.getD i default).tag)) rfl rfl rfl (Zev cFd (l := fs) (i := i) (k := 0) (m := 2) rfl rfl rfl rfl (by have := hn; omega) (by omega) (by kernel_rfl) rfl) ?_
  refine Zd rfl rfl (slv 0 0 n c) rfl (Zd rfl rfl (Iv (i : Nat)) rfl ?_)
  refine Zbk (b := 0) (o := 0) (j := i * 2) (m := n) (c := c) (sz := 2) (i := (i : Nat)) (k := .i64) rfl rfl rfl rfl rfl (by omega) (by omega) (by omega) ?_
  refine Zj (b := 0) (o := i * 2) (n := 1) (o' := i * 2 + 1) rfl rfl rfl rfl (by omega) ?_
  refine Zo (p := pt 0 (i * 2 + 1)) (v := .string ((fs.getD i default).data)) rfl rfl rfl (Zev cFd (l := fs) (i := i) (k := 1) (m := 2) rfl rfl rfl rfl (by have := hn; omega) (by omega) (by kernel_rfl) rfl) ?_
  refine Zs (Zwe (G := G) ((fs.getD i default).tag) ((fs.getD i default).data)) (vals := [Iv ((fs.getD i default).tag), .string ((fs.getD i default).data)]) (res' := Iv (Zlv ((fs.getD i default).tag) ((fs.getD i default).data))) rfl rfl rfl rfl rfl rfl ?_
  refine Zb rfl rfl (Iv (Zlv ((fs.getD i default).tag) ((fs.getD i default).data))) rfl ?_
  refine Zeo (Zdr [[], [], [0, 1], [0, 1, 2], [0, 1, 2, 3], [], [], [5, 6], [5, 6, 7], [5, 6, 7, 8], [0, 1, 2, 3, 4, 5, 6, 7, 8, 9], [0, 1, 2, 3, 4, 5, 6, 7, 8, 9, 10]] (by kernel_rfl) (by kernel_rfl)) ?_
  refine Zc (Zg (Zg (Zi (Zd rfl rfl (slv 0 0 n c) rfl (Zd rfl rfl (Iv (i : Nat)) rfl ?_)))))
  refine Zbk (b := 0) (o := 0) (j := i * 2) (m := n) (c := c) (sz := 2) (i := (i : Nat)) (k := .i64) rfl rfl rfl rfl rfl (by omega) (by omega) (by omega) ?_
  refine Zj (b := 0) (o := i * 2) (n := 0) (o' := i * 2) rfl rfl rfl rfl (by omega) ?_
  refine Zo (p := pt 0 (i * 2)) (v := Iv ((fs.getD i default).tag)) rfl rfl rfl (Zev cFd (l := fs) (i := i) (k := 0) (m := 2) rfl rfl rfl rfl (by have := hn; omega) (by omega) (by kernel_rfl) rfl) ?_
  refine Zd rfl rfl (Iv last) rfl ?_
  refine Zn (vx := Iv ((fs.getD i default).tag)) (vy := Iv last) rfl rfl (.bool false) rfl rfl (Zk8 (by omega)) ?_
  refine Za (Zc (Zx rfl (Zai (Zc (Zg (Zg (Zi (Zd rfl rfl (Iv (Zlv ((fs.getD i default).tag) ((fs.getD i default).data))) rfl ?_))))))))
  refine Zn (vx := Iv (Zlv ((fs.getD i default).tag) ((fs.getD i default).data))) (vy := Iv 0) rfl rfl (.bool false) rfl rfl (Zds (by omega)) ?_
  refine Za (Zc (Zx rfl (Zai (Zc (Zg ?_)))))
  refine Zfv (by kernel_rfl) ?_
  refine Zd rfl rfl (slv 0 0 n c) rfl (Zd rfl rfl (Iv (i : Nat)) rfl ?_)
  refine Zbk (b := 0) (o := 0) (j := i * 2) (m := n) (c := c) (sz := 2) (i := (i : Nat)) (k := .i64) rfl rfl rfl rfl rfl (by omega) (by omega) (by omega) ?_
  refine Zj (b := 0) (o := i * 2) (n := 0) (o' := i * 2) rfl rfl rfl rfl (by omega) ?_
  refine Zo (p := pt 0 (i * 2)) (v := Iv ((fs.getD i default).tag)) rfl rfl rfl (Zev cFd (l := fs) (i := i) (k := 0) (m := 2) rfl rfl rfl rfl (by have := hn; omega) (by omega) (by kernel_rfl) rfl) ?_
  refine Zd rfl rfl (slv 0 0 n c) rfl (Zd rfl rfl (Iv (i : Nat)) rfl ?_)
  refine Zbk (b := 0) (o := 0) (j := i * 2) (m := n) (c := c) (sz := 2) (i := (i : Nat)) (k := .i64) rfl rfl rfl rfl rfl (by omega) (by omega) (by omega) ?_
  refine Zj (b := 0) (o := i * 2) (n := 1) (o' := i * 2 + 1) rfl rfl rfl rfl (by omega) ?_
  refine Zo (p := pt 0 (i * 2 + 1)) (v := .string ((fs.getD i default).data)) rfl rfl rfl (Zev cFd (l := fs) (i := i) (k := 1) (m := 2) rfl rfl rfl rfl (by have := hn; omega) (by omega) (by kernel_rfl) rfl) ?_
  refine Zad (e := []) (nid := 2) (Zqe (G := G) ((fs.getD i default).tag) ((fs.getD i default).data) (by omega)) (vals := [Iv ((fs.getD i default).tag), .string ((fs.getD i default).data)]) (v := slv 2 0 ((((fs.getD i default).data).size) + 4) ((((fs.getD i default).data).size) + 4)) (H' := [rwR cFd fs, Zy acc, Zy (Zc0 ⟨((fs.getD i default).tag), (fs.getD i default).data⟩), hole, hole]) rfl rfl rfl rfl rfl rfl rfl ⟨⟨rfl, rfl, trivial⟩, trivial, rfl, rfl, rfl⟩ (by kernel_rfl) (by kernel_rfl) ?_
  refine Zb rfl rfl (slv 2 0 ((((fs.getD i default).data).size) + 4) ((((fs.getD i default).data).size) + 4)) rfl ?_
  refine Zeo (Zdr [[], [], [0, 1], [0, 1, 2], [0, 1, 2, 3], [], [], [5, 6], [5, 6, 7], [5, 6, 7, 8], [0, 1, 2, 3, 4, 5, 6, 7, 8, 9], [0, 1, 2, 3, 4, 5, 6, 7, 8, 9, 10]] (by kernel_rfl) (by kernel_rfl)) ?_
  refine Zc (Zg (Zi (Zd rfl rfl (slv 1 0 acc.length acc.length) rfl (Zd rfl rfl (slv 2 0 ((((fs.getD i default).data).size) + 4) ((((fs.getD i default).data).size) + 4)) rfl ?_))))
  have hl2 : (acc ++ (Zc0 ⟨((fs.getD i default).tag), (fs.getD i default).data⟩)).length = acc.length + (((fs.getD i default).data).size) + 4 := by have := (Zgm ((fs.getD i default).tag) ((fs.getD i default).data)); first | (rw [List.length_append]; omega) | (simp; omega) | simp
  refine Zbz (p := slv 1 0 acc.length acc.length) (q := slv 2 0 ((((fs.getD i default).data).size) + 4) ((((fs.getD i default).data).size) + 4)) (v := slv 1 0 ((acc ++ (Zc0 ⟨((fs.getD i default).tag), (fs.getD i default).data⟩)).length) ((acc ++ (Zc0 ⟨((fs.getD i default).tag), (fs.getD i default).data⟩)).length)) (b := 1) (blk := Zy (acc ++ (Zc0 ⟨((fs.getD i default).tag), (fs.getD i default).data⟩))) (H' := [rwR cFd fs, Zy (acc ++ (Zc0 ⟨((fs.getD i default).tag), (fs.getD i default).data⟩)), Zy (Zc0 ⟨((fs.getD i default).tag), (fs.getD i default).data⟩), hole, hole]) rfl rfl rfl (.inl ⟨_, rfl⟩) rfl rfl (Zh0 (by_ := 1) (n' := ((acc ++ (Zc0 ⟨((fs.getD i default).tag), (fs.getD i default).data⟩)).length)) rfl rfl (Zka rfl rfl (by have := (Zgm ((fs.getD i default).tag) ((fs.getD i default).data)); omega)) rfl rfl (by omega) (by omega) (by decide) (by omega)) rfl (by kernel_rfl) ?_
  refine Zb rfl rfl (slv 1 0 ((acc ++ (Zc0 ⟨((fs.getD i default).tag), (fs.getD i default).data⟩)).length) ((acc ++ (Zc0 ⟨((fs.getD i default).tag), (fs.getD i default).data⟩)).length)) rfl (Za (Zc (Zi (Zd rfl rfl (slv 0 0 n c) rfl (Zd rfl rfl (Iv (i : Nat)) rfl ?_)))))
  refine Zbk (b := 0) (o := 0) (j := i * 2) (m := n) (c := c) (sz := 2) (i := (i : Nat)) (k := .i64) rfl rfl rfl rfl rfl (by omega) (by omega) (by omega) ?_
  refine Zj (b := 0) (o := i * 2) (n := 0) (o' := i * 2) rfl rfl rfl rfl (by omega) ?_
  refine Zo (p := pt 0 (i * 2)) (v := Iv ((fs.getD i default).tag)) rfl rfl rfl (Zev cFd (l := fs) (i := i) (k := 0) (m := 2) rfl rfl rfl rfl (by have := hn; omega) (by omega) (by kernel_rfl) rfl) ?_
  refine Zb rfl rfl (Iv ((fs.getD i default).tag)) rfl (Za (Z1 (Zc (Zi (Zd rfl rfl (Iv (i : Nat)) rfl ?_)))))
  refine Zn (vx := Iv (i : Nat)) (vy := Iv 1) rfl rfl (Iv ((i : Nat) + 1)) rfl rfl (Za7 (by omega) (by omega) (by omega)) ?_
  refine Zb rfl rfl (Iv ((i : Nat) + 1)) rfl (Za ?_)
  refine Zau ⟨((i + 1), ((fs.getD i default).tag), (acc ++ (Zc0 ⟨((fs.getD i default).tag), (fs.getD i default).data⟩))), ⟨Zq4 hR (by omega) hm, by dsimp only; omega, by rw [List.length_append, Zg3]; dsimp only; omega, by dsimp only; omega⟩, by show n - (i + 1) < n - i; omega, ?_⟩
  refine Zaq (n := 2) rfl ?_ (by kernel_rfl) (by kernel_rfl)
  repeat (first | exact trivial | refine ⟨.inl rfl, ?_⟩ | refine ⟨.inr ⟨rfl, rfl⟩, ?_⟩ | refine ⟨.inr ⟨congrArg (Value.int .i64) (by first | omega | (dsimp only; omega)), rfl⟩, ?_⟩)
  refine Zn (vx := Iv (i : Nat)) (vy := Iv (n : Nat)) rfl rfl (.bool false) rfl rfl (Zdh (by omega)) ?_
  refine Za (Zc (Zx rfl (Zce (Zbj (Zbo (Zbp rfl (Zc (Zg (Zi (Zd rfl rfl (slv 1 0 acc.length acc.length) rfl (Zb rfl rfl (slv 1 0 acc.length acc.length) rfl (Zb rfl rfl (Iv 0) rfl (Za (Zc (Zv (Zu ?_))))))))))))))))
  rw [show Z6 fs 0 [] = (acc, 0) from by rw [← hR, List.drop_of_length_le (by omega)]; rfl]
  exact Za5 [0, 1] (v := .tuple #[slv 1 0 acc.length acc.length, Iv 0]) rfl (by kernel_rfl) rfl rfl (by decide) (by simp [Zac, Zy, rwR, cFd]) ⟨⟨rfl, rfl, rfl, by first | omega | exact Nat.le_refl _ | exact Nat.zero_le _ | (dsimp only; omega), by first | omega | exact Nat.le_refl _ | exact Nat.zero_le _ | (dsimp only; omega)⟩, rfl, trivial⟩
theorem Zsm (e : Entry) (hr : Zba e) : Zao Tryd.prog G 66 [Zaz e] [] (slv 0 0 (Zci e).length (Zci e).length) [rwB cFd (Zci e)] := by
  refine Zbv (fn := Tryd.f66) (nt := 54) rfl rfl rfl rfl ?_
  refine Zat 5 (H' := [hole, hole, hole, hole, hole]) rfl ?_
  refine Zg (Zi ?_)
  refine Zel (v := Zaz e) (b := bxB 109 (Z2 e)) (nid := 0) (H' := [bxB 109 (Z2 e), hole, hole, hole, hole]) rfl rfl rfl (by kernel_rfl) (by kernel_rfl) ?_
  refine Zb rfl rfl (.slice none 0 0) rfl (Za (Zc (Zg ?_)))
  have hk := Zhz hr
  refine Zi ?_
  refine Zj (b := 0) (o := 0) (n := 0) (o' := 0) rfl rfl rfl rfl rfl ?_
  refine Zo (p := pt 0 0) (v := Iv e.kind) rfl rfl rfl (by kernel_rfl) ?_
  refine Zs (Zd4 (G := G) e.kind (by omega) (by omega)) (vals := [Iv e.kind]) (res' := .string ((Zp e.kind).1)) rfl rfl rfl rfl rfl rfl ?_
  refine Zaw (vs := [(0, Iv 1), (1, .string ((Zp e.kind).1))]) (v := fdV (⟨1, (Zp e.kind).1⟩ : Field)) rfl rfl rfl (by kernel_rfl) ?_
  refine Zd5 (vs := [(0, fdV (⟨1, (Zp e.kind).1⟩ : Field))]) (v := slv 1 0 1 1) (blk := rwB cFd [(⟨1, (Zp e.kind).1⟩ : Field)]) (nid := 1) (H' := [bxB 109 (Z2 e), rwB cFd [(⟨1, (Zp e.kind).1⟩ : Field)], hole, hole, hole]) rfl rfl rfl (by kernel_rfl) (by kernel_rfl) ?_
  refine Zb rfl rfl (slv 1 0 1 1) rfl (Za (Zc (Zg (Zg (Zi ?_)))))
  refine Zj (b := 0) (o := 0) (n := 0) (o' := 0) rfl rfl rfl rfl rfl ?_
  refine Zo (p := pt 0 0) (v := Iv e.kind) rfl rfl rfl (by kernel_rfl) ?_
  refine Za (Zc (Zap (Zg (Zi ?_))))
  by_cases h1 : e.kind = 1
  refine Zn (vx := Iv e.kind) (vy := Iv 1) rfl rfl (.bool true) rfl rfl (Zbs (by omega)) ?_
  refine Zb rfl rfl (.bool true) rfl (Za (Zc (Z0 rfl (Zg ?_))))
  have hu := Zjh hr (by omega)
  refine Zi (Zd rfl rfl (slv 1 0 1 1) rfl ?_)
  refine Zj (b := 0) (o := 0) (n := 1) (o' := 1) rfl rfl rfl rfl rfl ?_
  refine Zo (p := pt 0 1) (v := Iv e.client) rfl rfl rfl (by kernel_rfl) ?_
  refine Zs (Zd4 (G := G) e.client (by omega) (by omega)) (vals := [Iv e.client]) (res' := .string ((Zp e.client).1)) rfl rfl rfl rfl rfl rfl ?_
  refine Zaw (vs := [(0, Iv 2), (1, .string ((Zp e.client).1))]) (v := fdV (⟨2, (Zp e.client).1⟩ : Field)) rfl rfl rfl (by kernel_rfl) ?_
  refine Zd5 (vs := [(0, fdV (⟨2, (Zp e.client).1⟩ : Field))]) (v := slv 2 0 1 1) (blk := rwB cFd [(⟨2, (Zp e.client).1⟩ : Field)]) (nid := 2) (H' := [bxB 109 (Z2 e), rwB cFd [(⟨1, (Zp e.kind).1⟩ : Field)], rwB cFd [(⟨2, (Zp e.client).1⟩ : Field)], hole, hole]) rfl rfl rfl (by kernel_rfl) (by kernel_rfl) ?_
  have hl9 : ([(⟨1, (Zp e.kind).1⟩ : Field)] ++ [(⟨2, (Zp e.client).1⟩ : Field)]).length = 2 := by have : ([(⟨1, (Zp e.kind).1⟩ : Field)]).length = 1 := rfl; have := (rfl : _ = 1); first | (rw [List.length_append]; omega) | (simp; omega) | simp
  refine Zbz (p := slv 1 0 1 1) (q := slv 2 0 1 1) (v := slv 1 0 2 2) (b := 1) (blk := rwB cFd ([(⟨1, (Zp e.kind).1⟩ : Field)] ++ [(⟨2, (Zp e.client).1⟩ : Field)])) (H' := [bxB 109 (Z2 e), rwB cFd ([(⟨1, (Zp e.kind).1⟩ : Field)] ++ [(⟨2, (Zp e.client).1⟩ : Field)]), rwB cFd [(⟨2, (Zp e.client).1⟩ : Field)], hole, hole]) rfl rfl rfl (.inl ⟨_, rfl⟩) rfl rfl (Zhh cFd (by_ := 24) (k := 1) (n' := 2) (ms := [(⟨2, (Zp e.client).1⟩ : Field)]) (fun _ => rfl) rfl rfl (by kernel_rfl) rfl rfl (by have : ([(⟨1, (Zp e.kind).1⟩ : Field)]).length = 1 := rfl; omega) (by omega) (by decide) (by omega)) rfl (by kernel_rfl) ?_
  refine Zb rfl rfl (slv 1 0 2 2) rfl (Za (Zc (Zg (Zi (Zd rfl rfl (slv 1 0 2 2) rfl ?_)))))
  refine Zj (b := 0) (o := 0) (n := 2) (o' := 2) rfl rfl rfl rfl rfl ?_
  refine Zo (p := pt 0 2) (v := Iv e.seq) rfl rfl rfl (by kernel_rfl) ?_
  refine Zs (Zd4 (G := G) e.seq (by omega) (by omega)) (vals := [Iv e.seq]) (res' := .string ((Zp e.seq).1)) rfl rfl rfl rfl rfl rfl ?_
  refine Zaw (vs := [(0, Iv 3), (1, .string ((Zp e.seq).1))]) (v := fdV (⟨3, (Zp e.seq).1⟩ : Field)) rfl rfl rfl (by kernel_rfl) ?_
  refine Zd5 (vs := [(0, fdV (⟨3, (Zp e.seq).1⟩ : Field))]) (v := slv 3 0 1 1) (blk := rwB cFd [(⟨3, (Zp e.seq).1⟩ : Field)]) (nid := 3) (H' := [bxB 109 (Z2 e), rwB cFd ([(⟨1, (Zp e.kind).1⟩ : Field)] ++ [(⟨2, (Zp e.client).1⟩ : Field)]), rwB cFd [(⟨2, (Zp e.client).1⟩ : Field)], rwB cFd [(⟨3, (Zp e.seq).1⟩ : Field)], hole]) rfl rfl rfl (by kernel_rfl) (by kernel_rfl) ?_
  have hl10 : (([(⟨1, (Zp e.kind).1⟩ : Field)] ++ [(⟨2, (Zp e.client).1⟩ : Field)]) ++ [(⟨3, (Zp e.seq).1⟩ : Field)]).length = 3 := by have := hl9; have := (rfl : _ = 1); first | (rw [List.length_append]; omega) | (simp; omega) | simp
  refine Zbz (p := slv 1 0 2 2) (q := slv 3 0 1 1) (v := slv 1 0 3 3) (b := 1) (blk := rwB cFd (([(⟨1, (Zp e.kind).1⟩ : Field)] ++ [(⟨2, (Zp e.client).1⟩ : Field)]) ++ [(⟨3, (Zp e.seq).1⟩ : Field)])) (H' := [bxB 109 (Z2 e), rwB cFd (([(⟨1, (Zp e.kind).1⟩ : Field)] ++ [(⟨2, (Zp e.client).1⟩ : Field)]) ++ [(⟨3, (Zp e.seq).1⟩ : Field)]), rwB cFd [(⟨2, (Zp e.client).1⟩ : Field)], rwB cFd [(⟨3, (Zp e.seq).1⟩ : Field)], hole]) rfl rfl rfl (.inl ⟨_, rfl⟩) rfl rfl (Zhh cFd (by_ := 24) (k := 1) (n' := 3) (ms := [(⟨3, (Zp e.seq).1⟩ : Field)]) (fun _ => rfl) rfl rfl (by kernel_rfl) rfl rfl (by have := hl9; omega) (by omega) (by decide) (by omega)) rfl (by kernel_rfl) ?_
  refine Zb rfl rfl (slv 1 0 3 3) rfl (Za (Zc (Zi (Zd rfl rfl (slv 1 0 3 3) rfl ?_))))
  refine Zj (b := 0) (o := 0) (n := 3) (o' := 3) rfl rfl rfl rfl rfl ?_
  refine Zo (p := pt 0 3) (v := .string e.text) rfl rfl rfl (by kernel_rfl) ?_
  refine Zaw (vs := [(0, Iv 4), (1, .string e.text)]) (v := fdV (⟨4, e.text⟩ : Field)) rfl rfl rfl (by kernel_rfl) ?_
  refine Zd5 (vs := [(0, fdV (⟨4, e.text⟩ : Field))]) (v := slv 4 0 1 1) (blk := rwB cFd [(⟨4, e.text⟩ : Field)]) (nid := 4) (H' := [bxB 109 (Z2 e), rwB cFd (([(⟨1, (Zp e.kind).1⟩ : Field)] ++ [(⟨2, (Zp e.client).1⟩ : Field)]) ++ [(⟨3, (Zp e.seq).1⟩ : Field)]), rwB cFd [(⟨2, (Zp e.client).1⟩ : Field)], rwB cFd [(⟨3, (Zp e.seq).1⟩ : Field)], rwB cFd [(⟨4, e.text⟩ : Field)]]) rfl rfl rfl (by kernel_rfl) (by kernel_rfl) ?_
  have hl11 : ((([(⟨1, (Zp e.kind).1⟩ : Field)] ++ [(⟨2, (Zp e.client).1⟩ : Field)]) ++ [(⟨3, (Zp e.seq).1⟩ : Field)]) ++ [(⟨4, e.text⟩ : Field)]).length = 4 := by have := hl10; have := (rfl : _ = 1); first | (rw [List.length_append]; omega) | (simp; omega) | simp
  refine Zbz (p := slv 1 0 3 3) (q := slv 4 0 1 1) (v := slv 1 0 4 4) (b := 1) (blk := rwB cFd ((([(⟨1, (Zp e.kind).1⟩ : Field)] ++ [(⟨2, (Zp e.client).1⟩ : Field)]) ++ [(⟨3, (Zp e.seq).1⟩ : Field)]) ++ [(⟨4, e.text⟩ : Field)])) (H' := [bxB 109 (Z2 e), rwB cFd ((([(⟨1, (Zp e.kind).1⟩ : Field)] ++ [(⟨2, (Zp e.client).1⟩ : Field)]) ++ [(⟨3, (Zp e.seq).1⟩ : Field)]) ++ [(⟨4, e.text⟩ : Field)]), rwB cFd [(⟨2, (Zp e.client).1⟩ : Field)], rwB cFd [(⟨3, (Zp e.seq).1⟩ : Field)], rwB cFd [(⟨4, e.text⟩ : Field)]]) rfl rfl rfl (.inl ⟨_, rfl⟩) rfl rfl (Zhh cFd (by_ := 24) (k := 1) (n' := 4) (ms := [(⟨4, e.text⟩ : Field)]) (fun _ => rfl) rfl rfl (by kernel_rfl) rfl rfl (by have := hl10; omega) (by omega) (by decide) (by omega)) rfl (by kernel_rfl) ?_
  refine Zb rfl rfl (slv 1 0 4 4) rfl (Za (Z1 (Zc (Zg (Zi (Zd rfl rfl (slv 1 0 4 4) rfl (Zb rfl rfl (slv 1 0 4 4) rfl (Za (Zc (Zv (Zu ?_)))))))))))
  rw [show Zci e = ((([(⟨1, (Zp e.kind).1⟩ : Field)] ++ [(⟨2, (Zp e.client).1⟩ : Field)]) ++ [(⟨3, (Zp e.seq).1⟩ : Field)]) ++ [(⟨4, e.text⟩ : Field)]) from by unfold Zci; first | (rw [if_pos (by omega)]; rfl) | (rw [if_neg (by omega), if_pos (by omega)]; rfl) | (rw [if_neg (by omega), if_neg (by omega)]; rfl)]
  exact Za5 [1] (v := slv 1 0 4 4) rfl (by kernel_rfl) rfl rfl (by decide) (by simp [Zac, rwB, cFd]) ⟨rfl, rfl, rfl, by first | omega | exact Nat.le_refl _ | exact Nat.zero_le _ | (dsimp only; omega), by first | omega | exact Nat.le_refl _ | exact Nat.zero_le _ | (dsimp only; omega)⟩
  refine Zn (vx := Iv e.kind) (vy := Iv 1) rfl rfl (.bool false) rfl rfl (Zb6 (by omega)) ?_
  refine Zb rfl rfl (.bool false) rfl (Za (Zc (Zx rfl (Zg (Zi ?_)))))
  by_cases h2 : e.kind = 2
  refine Zn (vx := Iv e.kind) (vy := Iv 2) rfl rfl (.bool true) rfl rfl (Zbs (by omega)) ?_
  refine Zb rfl rfl (.bool true) rfl (Za (Zc (Z0 rfl (Zi (Zd rfl rfl (slv 1 0 1 1) rfl ?_)))))
  refine Zj (b := 0) (o := 0) (n := 4) (o' := 4) rfl rfl rfl rfl rfl ?_
  refine Zo (p := pt 0 4) (v := Zaa e.head) rfl rfl rfl (by kernel_rfl) ?_
  refine Zad (e := []) (nid := 2) (Z1k (G := G) e.head (Zvm hr (by omega))) (vals := [Zaa e.head]) (v := slv 2 0 ((Za1 e.head).1.length) ((Za1 e.head).1.length)) (H' := [bxB 109 (Z2 e), rwB cFd [(⟨1, (Zp e.kind).1⟩ : Field)], Zy ((Za1 e.head).1), hole, hole]) rfl rfl rfl rfl rfl rfl rfl ⟨⟨rfl, trivial⟩, trivial, rfl, rfl, rfl⟩ (by kernel_rfl) (by kernel_rfl) ?_
  refine Zc6 (p := slv 2 0 ((Za1 e.head).1.length) ((Za1 e.head).1.length)) (v := .string (Zl ((Za1 e.head).1))) rfl rfl rfl (Zbi rfl rfl rfl rfl rfl (by omega)) ?_
  refine Zaw (vs := [(0, Iv 5), (1, .string (Zl ((Za1 e.head).1)))]) (v := fdV (⟨5, (Zl ((Za1 e.head).1))⟩ : Field)) rfl rfl rfl (by kernel_rfl) ?_
  refine Zd5 (vs := [(0, fdV (⟨5, (Zl ((Za1 e.head).1))⟩ : Field))]) (v := slv 3 0 1 1) (blk := rwB cFd [(⟨5, (Zl ((Za1 e.head).1))⟩ : Field)]) (nid := 3) (H' := [bxB 109 (Z2 e), rwB cFd [(⟨1, (Zp e.kind).1⟩ : Field)], Zy ((Za1 e.head).1), rwB cFd [(⟨5, (Zl ((Za1 e.head).1))⟩ : Field)], hole]) rfl rfl rfl (by kernel_rfl) (by kernel_rfl) ?_
  have hl12 : ([(⟨1, (Zp e.kind).1⟩ : Field)] ++ [(⟨5, (Zl ((Za1 e.head).1))⟩ : Field)]).length = 2 := by have : ([(⟨1, (Zp e.kind).1⟩ : Field)]).length = 1 := rfl; have := (rfl : _ = 1); first | (rw [List.length_append]; omega) | (simp; omega) | simp
  refine Zbz (p := slv 1 0 1 1) (q := slv 3 0 1 1) (v := slv 1 0 2 2) (b := 1) (blk := rwB cFd ([(⟨1, (Zp e.kind).1⟩ : Field)] ++ [(⟨5, (Zl ((Za1 e.head).1))⟩ : Field)])) (H' := [bxB 109 (Z2 e), rwB cFd ([(⟨1, (Zp e.kind).1⟩ : Field)] ++ [(⟨5, (Zl ((Za1 e.head).1))⟩ : Field)]), Zy ((Za1 e.head).1), rwB cFd [(⟨5, (Zl ((Za1 e.head).1))⟩ : Field)], hole]) rfl rfl rfl (.inl ⟨_, rfl⟩) rfl rfl (Zhh cFd (by_ := 24) (k := 1) (n' := 2) (ms := [(⟨5, (Zl ((Za1 e.head).1))⟩ : Field)]) (fun _ => rfl) rfl rfl (by kernel_rfl) rfl rfl (by have : ([(⟨1, (Zp e.kind).1⟩ : Field)]).length = 1 := rfl; omega) (by omega) (by decide) (by omega)) rfl (by kernel_rfl) ?_
  refine Zb rfl rfl (slv 1 0 2 2) rfl (Za (Z1 (Zc (Zg (Zi (Zd rfl rfl (slv 1 0 2 2) rfl (Zb rfl rfl (slv 1 0 2 2) rfl (Za (Zc (Zv (Zu ?_)))))))))))
  rw [show Zci e = ([(⟨1, (Zp e.kind).1⟩ : Field)] ++ [(⟨5, (Zl ((Za1 e.head).1))⟩ : Field)]) from by unfold Zci; first | (rw [if_pos (by omega)]; rfl) | (rw [if_neg (by omega), if_pos (by omega)]; rfl) | (rw [if_neg (by omega), if_neg (by omega)]; rfl)]
  exact Za5 [1] (v := slv 1 0 2 2) rfl (by kernel_rfl) rfl rfl (by decide) (by simp [Zac, rwB, cFd]) ⟨rfl, rfl, rfl, by first | omega | exact Nat.le_refl _ | exact Nat.zero_le _ | (dsimp only; omega), by first | omega | exact Nat.le_refl _ | exact Nat.zero_le _ | (dsimp only; omega)⟩
  refine Zn (vx := Iv e.kind) (vy := Iv 2) rfl rfl (.bool false) rfl rfl (Zb6 (by omega)) ?_
  refine Zb rfl rfl (.bool false) rfl (Za (Zc (Zx rfl (Zg (Zi ?_)))))
  refine Zn (vx := Iv e.kind) (vy := Iv 3) rfl rfl (.bool true) rfl rfl (Zbs (by omega)) ?_
  refine Zb rfl rfl (.bool true) rfl (Za (Zc (Z0 rfl (Zi (Zd rfl rfl (slv 1 0 1 1) rfl ?_)))))
  refine Zj (b := 0) (o := 0) (n := 73) (o' := 73) rfl rfl rfl rfl rfl ?_
  refine Zo (p := pt 0 73) (v := Zz e.claim) rfl rfl rfl (by kernel_rfl) ?_
  refine Zad (e := []) (nid := 2) (Zni (G := G) e.claim (Zu5 hr (by omega))) (vals := [Zz e.claim]) (v := slv 2 0 ((Z8 e.claim).1.length) ((Z8 e.claim).1.length)) (H' := [bxB 109 (Z2 e), rwB cFd [(⟨1, (Zp e.kind).1⟩ : Field)], Zy ((Z8 e.claim).1), hole, hole]) rfl rfl rfl rfl rfl rfl rfl ⟨⟨rfl, trivial⟩, trivial, rfl, rfl, rfl⟩ (by kernel_rfl) (by kernel_rfl) ?_
  refine Zc6 (p := slv 2 0 ((Z8 e.claim).1.length) ((Z8 e.claim).1.length)) (v := .string (Zl ((Z8 e.claim).1))) rfl rfl rfl (Zbi rfl rfl rfl rfl rfl (by omega)) ?_
  refine Zaw (vs := [(0, Iv 6), (1, .string (Zl ((Z8 e.claim).1)))]) (v := fdV (⟨6, (Zl ((Z8 e.claim).1))⟩ : Field)) rfl rfl rfl (by kernel_rfl) ?_
  refine Zd5 (vs := [(0, fdV (⟨6, (Zl ((Z8 e.claim).1))⟩ : Field))]) (v := slv 3 0 1 1) (blk := rwB cFd [(⟨6, (Zl ((Z8 e.claim).1))⟩ : Field)]) (nid := 3) (H' := [bxB 109 (Z2 e), rwB cFd [(⟨1, (Zp e.kind).1⟩ : Field)], Zy ((Z8 e.claim).1), rwB cFd [(⟨6, (Zl ((Z8 e.claim).1))⟩ : Field)], hole]) rfl rfl rfl (by kernel_rfl) (by kernel_rfl) ?_
  have hl13 : ([(⟨1, (Zp e.kind).1⟩ : Field)] ++ [(⟨6, (Zl ((Z8 e.claim).1))⟩ : Field)]).length = 2 := by have : ([(⟨1, (Zp e.kind).1⟩ : Field)]).length = 1 := rfl; have := (rfl : _ = 1); first | (rw [List.length_append]; omega) | (simp; omega) | simp
  refine Zbz (p := slv 1 0 1 1) (q := slv 3 0 1 1) (v := slv 1 0 2 2) (b := 1) (blk := rwB cFd ([(⟨1, (Zp e.kind).1⟩ : Field)] ++ [(⟨6, (Zl ((Z8 e.claim).1))⟩ : Field)])) (H' := [bxB 109 (Z2 e), rwB cFd ([(⟨1, (Zp e.kind).1⟩ : Field)] ++ [(⟨6, (Zl ((Z8 e.claim).1))⟩ : Field)]), Zy ((Z8 e.claim).1), rwB cFd [(⟨6, (Zl ((Z8 e.claim).1))⟩ : Field)], hole]) rfl rfl rfl (.inl ⟨_, rfl⟩) rfl rfl (Zhh cFd (by_ := 24) (k := 1) (n' := 2) (ms := [(⟨6, (Zl ((Z8 e.claim).1))⟩ : Field)]) (fun _ => rfl) rfl rfl (by kernel_rfl) rfl rfl (by have : ([(⟨1, (Zp e.kind).1⟩ : Field)]).length = 1 := rfl; omega) (by omega) (by decide) (by omega)) rfl (by kernel_rfl) ?_
  refine Zb rfl rfl (slv 1 0 2 2) rfl (Za (Z1 (Zc (Zg (Zi (Zd rfl rfl (slv 1 0 2 2) rfl (Zb rfl rfl (slv 1 0 2 2) rfl (Za (Zc (Zv (Zu ?_)))))))))))
  rw [show Zci e = ([(⟨1, (Zp e.kind).1⟩ : Field)] ++ [(⟨6, (Zl ((Z8 e.claim).1))⟩ : Field)]) from by unfold Zci; first | (rw [if_pos (by omega)]; rfl) | (rw [if_neg (by omega), if_pos (by omega)]; rfl) | (rw [if_neg (by omega), if_neg (by omega)]; rfl)]
  exact Za5 [1] (v := slv 1 0 2 2) rfl (by kernel_rfl) rfl rfl (by decide) (by simp [Zac, rwB, cFd]) ⟨rfl, rfl, rfl, by first | omega | exact Nat.le_refl _ | exact Nat.zero_le _ | (dsimp only; omega), by first | omega | exact Nat.le_refl _ | exact Nat.zero_le _ | (dsimp only; omega)⟩
theorem Zsh (e : Entry) (hr : Zba e) : Zao Tryd.prog G 32 [Zaz e] [] (slv 0 0 (Zaf e).1.length (Zaf e).1.length) [Zy (Zaf e).1] := by
  refine Zbv (fn := Tryd.f32) (nt := 12) rfl rfl rfl rfl ?_
  refine Zat 3 (H' := [hole, hole, hole]) rfl ?_
  refine Zg (Zi ?_)
  refine Zel (v := Zaz e) (b := bxB 109 (Z2 e)) (nid := 0) (H' := [bxB 109 (Z2 e), hole, hole]) rfl rfl rfl (by kernel_rfl) (by kernel_rfl) ?_
  refine Zb rfl rfl (.slice none 0 0) rfl (Za (Zc (Zg (Zi ?_))))
  refine Zo (p := pt 0 0) (v := Zaz e) rfl rfl rfl (by kernel_rfl) ?_
  have hef4 := Z0d e
  refine Zad (e := []) (nid := 1) (Zsm (G := G) e hr) (vals := [Zaz e]) (v := slv 1 0 ((Zci e).length) ((Zci e).length)) (H' := [bxB 109 (Z2 e), rwB cFd (Zci e), hole]) rfl rfl rfl rfl rfl rfl rfl ⟨⟨rfl, trivial⟩, trivial, rfl, rfl, rfl⟩ (by kernel_rfl) (by kernel_rfl) ?_
  refine Zad (e := [some (1, 0)]) (nid := 2) (Zyt (G := G) (Zci e) ((Zci e).length) ((Zci e).length) (rfl : _ = _) (by omega) (by omega) (Zky hr)) (vals := [slv 1 0 ((Zci e).length) ((Zci e).length)]) (v := .tuple #[slv 2 0 ((Z6 (Zci e) 0 []).1.length) ((Z6 (Zci e) 0 []).1.length), Iv 0]) (H' := [bxB 109 (Z2 e), rwB cFd (Zci e), Zy ((Z6 (Zci e) 0 []).1)]) rfl rfl rfl rfl rfl rfl rfl ⟨⟨⟨rfl, rfl, rfl, by first | omega | exact Nat.le_refl _, by first | omega | exact Nat.le_refl _⟩, trivial⟩, ⟨(Zia rfl), trivial⟩, rfl, rfl, rfl⟩ (by kernel_rfl) (by kernel_rfl) ?_
  refine Zd rfl rfl (.tuple #[slv 2 0 ((Z6 (Zci e) 0 []).1.length) ((Z6 (Zci e) 0 []).1.length), Iv 0]) rfl (Zt (vs := #[slv 2 0 ((Z6 (Zci e) 0 []).1.length) ((Z6 (Zci e) 0 []).1.length), Iv 0]) (v := slv 2 0 ((Z6 (Zci e) 0 []).1.length) ((Z6 (Zci e) 0 []).1.length)) rfl rfl rfl rfl (Zt (vs := #[slv 2 0 ((Z6 (Zci e) 0 []).1.length) ((Z6 (Zci e) 0 []).1.length), Iv 0]) (v := Iv 0) rfl rfl rfl rfl (Zb rfl rfl (slv 2 0 ((Z6 (Zci e) 0 []).1.length) ((Z6 (Zci e) 0 []).1.length)) rfl (Zb rfl rfl (Iv 0) rfl (Za (Zc (Zg (Zi (Zd rfl rfl (slv 2 0 ((Z6 (Zci e) 0 []).1.length) ((Z6 (Zci e) 0 []).1.length)) rfl (Zb rfl rfl (slv 2 0 ((Z6 (Zci e) 0 []).1.length) ((Z6 (Zci e) 0 []).1.length)) rfl (Za (Zc (Zv (Zu ?_))))))))))))))
  rw [show (Zaf e).1 = (Z6 (Zci e) 0 []).1 from by rw [show Zaf e = _ from if_pos hr]]
  exact Za5 [2] (v := slv 2 0 ((Z6 (Zci e) 0 []).1.length) ((Z6 (Zci e) 0 []).1.length)) rfl (by kernel_rfl) rfl rfl (by decide) (by simp [Zac, Zy]) ⟨rfl, rfl, rfl, by first | omega | exact Nat.le_refl _ | exact Nat.zero_le _ | (dsimp only; omega), by first | omega | exact Nat.le_refl _ | exact Nat.zero_le _ | (dsimp only; omega)⟩
end Go.Flat
