/- Walks. -/
import Derived.Test.YtoafdomlefoenaaN6
set_option linter.unusedVariables false
set_option linter.unusedSimpArgs false
set_option maxRecDepth 20000
namespace Go.Flat
open Go.Proofs
variable {G : Glob}
section
variable {l : List Claim} {x : Claim}
theorem Zrq (hR : Zbw l) {i : Nat} (hi : i < l.length) (h1 : (l.getD i default).region = x.region) (h2 : (l.getD i default).epoch = x.epoch) : Zbq l x = i :=
 Zmf (fun k hk => by have := Zo0 hR hk hi; unfold Zbm at *; omega) (by omega) (fun _ q => by unfold Zbm at q; omega)
theorem Zxc (hR : Zbw l) {i : Nat} (hi : i < l.length) (h1 : (l.getD i default).region = x.region) (h2 : (l.getD i default).epoch = x.epoch) : Zdm l x = true := Zy1 (Zrq hR hi h1 h2) hi (Zor.2 ⟨h1, h2⟩)
theorem Z0a (h : ∀ k, k < l.length → ¬ ((l.getD k default).region = x.region ∧ (l.getD k default).epoch = x.epoch)) : Zdm l x = false := Zv4 rfl (fun hl q => h _ hl (Zor.1 q))
end
def Zv8 (l : List Claim) (x : Claim) : Claim := if Zdm l x then l.getD (Zbq l x) default else (⟨0, 0, 0, 0, dz⟩ : Claim)
theorem Z0m {l : List Claim} {x : Claim} (h : Zdm l x = true) : Zv8 l x = l.getD (Zbq l x) default := if_pos h
theorem Z0l {l : List Claim} {x : Claim} (h : Zdm l x = false) : Zv8 l x = (⟨0, 0, 0, 0, dz⟩ : Claim) := if_neg (by rw [h]; decide)
def Zfv (x : Claim) : List Claim → Bool → List Claim → List Claim
  | [], b, acc => if b then acc else acc ++ [x]
  | y :: l, b, acc => if b then Zfv x l b (acc ++ [y]) else if decide (Zbm x y) then Zfv x l true (acc ++ [x] ++ [y]) else Zfv x l b (acc ++ [y])
section
variable {l : List Claim} {x y : Claim} {b : Bool} {acc : List Claim}
theorem Zj2 (h : b = true) : Zfv x (y :: l) b acc = Zfv x l b (acc ++ [y]) := by rw [Zfv, if_pos h]
theorem Zj3 (h : b = false) (h1 : decide (Zbm x y) = true) : Zfv x (y :: l) b acc = Zfv x l true (acc ++ [x] ++ [y]) := by rw [Zfv, if_neg (by rw [h]; decide), if_pos h1]
theorem Zj4 (h : b = false) (h1 : decide (Zbm x y) = false) : Zfv x (y :: l) b acc = Zfv x l b (acc ++ [y]) := by rw [Zfv, if_neg (by rw [h]; decide), if_neg (by rw [h1]; decide)]
theorem Zgu {i : Nat} (hi : i < l.length) {T : List Claim} (h : Zfv x (l.drop i) b acc = T) {b' : Bool} {acc' : List Claim} (hs : ∀ r, Zfv x (l.getD i default :: r) b acc = Zfv x r b' acc') : Zfv x (l.drop (i + 1)) b' acc' = T := by
 rw [← hs, ← h, List.drop_eq_getElem_cons hi, List.getD_eq_getElem?_getD, List.getElem?_eq_getElem hi]; rfl
theorem Zst : ∀ {l : List Claim} {acc : List Claim}, Zfv x l true acc = acc ++ l
 | [], acc => by simp [Zfv]
 | y :: l, acc => by rw [Zj2 rfl, Zst]; simp
theorem Zu4 (y : Claim) (l : List Claim) : Zbq (y :: l) x = if Zbm y x then Zbq l x + 1 else 0 := by
 unfold Zbq; rw [List.takeWhile_cons]
 by_cases h : Zbm y x
 ·rw [if_pos (decide_eq_true h), if_pos h]; rfl
 ·rw [if_neg (by rw [decide_eq_false h]; decide), if_neg h]; rfl
theorem Zw7 : ∀ {l : List Claim} {acc : List Claim}, (∀ k, k < l.length → ¬ ((l.getD k default).region = x.region ∧ (l.getD k default).epoch = x.epoch)) → Zfv x l false acc = acc ++ (l.take (Zbq l x) ++ x :: l.drop (Zbq l x))
 | [], acc, _ => by simp [Zfv, Zbq]
 | y :: l, acc, h => by
  have h0 : ¬ (y.region = x.region ∧ y.epoch = x.epoch) := h 0 (by simp)
  rw [Zu4]
  by_cases ha : Zbm x y
  ·rw [Zj3 rfl (decide_eq_true ha), Zst, if_neg (fun q => by unfold Zbm at *; omega)]; simp
  ·rw [Zj4 rfl (decide_eq_false ha), Zw7 (fun k hk => h (k + 1) (by simpa using hk)), if_pos (by unfold Zbm at *; omega)]; simp
theorem Zks (hR : Zbw l) : Zfv x l (Zdm l x) [] = if Zdm l x then l else l.take (Zbq l x) ++ x :: l.drop (Zbq l x) := by
  cases h : Zdm l x with
  | true => rw [Zst, if_pos rfl]; rfl
  | false =>
    rw [Zw7 (fun k hk q => by rw [Zxc hR hk q.1 q.2] at h; cases h), if_neg (by decide)]; rfl
end
theorem Ziw {x : Claim} (h : Zaz x) : Ze6 x = 0 := if_pos h
theorem Zht {l : List Claim} (h : Zbw l) : Zec l = 0 := if_pos h
theorem Zm4 (l : List Claim) (n c : Nat) (hn : l.length = n) (hc : n ≤ c) (hb : n ≤ 1048576) (y : Claim) (hR : Zbw l) : Zat Try.prog G 56 [slv 0 0 n c, Iv y.region, Iv y.epoch] [rwR Zh l] (.tuple #[Zx (Zv8 l y), .bool (Zdm l y)]) [rwR Zh l] := by
  refine Zcg (fn := Try.f56) (nt := 36) rfl rfl rfl rfl ?_
  refine Za8 1 (H' := [rwR Zh l, hole]) rfl ?_
  refine Zi (Zm (Zbf (b := bxB 36 (Zr (⟨0, 0, 0, 0, dz⟩ : Claim))) (nid := 1) (H' := [rwR Zh l, bxB 36 (Zr (⟨0, 0, 0, 0, dz⟩ : Claim))]) (Zc (.bool false) (Zd (Ze (Zi (Zi (Zm (Zc (Iv 0) (Zd (Ze (Zav ?_))))))))))))
  refine Zdz (fun i : Nat => [slv 0 0 n c, Iv y.region, Iv y.epoch, dead, dead, dead, pt 1 0, dead, Iv (i : Nat)]) (fun i : Nat => [rwR Zh l, bxB 36 (Zr (⟨0, 0, 0, 0, dz⟩ : Claim))]) (fun i : Nat => (∀ k, k < i → ¬ ((l.getD k default).region = y.region ∧ (l.getD k default).epoch = y.epoch)) ∧ i ≤ n) (fun i : Nat => n - i) 0 ⟨fun _ h => absurd h (Nat.not_lt_zero _), by omega⟩ ?_ ?_
  · refine Zau (n := 2) rfl ?_ (by kernel_rfl) (by kernel_rfl)
    repeat (first | exact trivial | refine ⟨.inl rfl, ?_⟩ | refine ⟨.inr ⟨rfl, rfl⟩, ?_⟩ | refine ⟨.inr ⟨congrArg (Value.int .i64) (by first | omega | (dsimp only; omega)), rfl⟩, ?_⟩)
  rintro i ⟨hA, hi⟩
  refine Zi (Zi (Zm (Zb (Iv (i : Nat)) (Zb (slv 0 0 n c) (Zbg (p := slv 0 0 n c) (v := Iv (n : Nat)) ?_)))))
  by_cases h1 : (i : Nat) < (n : Nat)
  refine Zn (vx := Iv (i : Nat)) (vy := Iv (n : Nat)) rfl rfl (.bool true) rfl rfl (Zdq (by omega)) ?_
  refine Zd (Ze (Z4 rfl (Z9 (Ze (Zi (Zav (Zi (Zm (Zb (slv 0 0 n c) (Zb (Iv (i : Nat)) ?_))))))))))
  refine Zb0 (b := 0) (o := 0) (j := i * 36) (m := n) (c := c) (sz := 36) (i := (i : Nat)) (k := .i64) rfl rfl rfl rfl rfl (by omega) (by omega) (by omega) ?_
  refine Zas (b := 0) (o := i * 36) (n := 0) (o' := i * 36) rfl rfl rfl rfl (by omega) ?_
  refine Zba (p := pt 0 (i * 36)) (v := Iv ((l.getD i default).region)) rfl rfl rfl (Zef Zh (l := l) (i := i) (k := 0) (m := 36) rfl rfl rfl rfl (by have := hn; omega) (by omega) (by kernel_rfl) rfl) ?_
  refine Zb (Iv y.region) ?_
  by_cases h2 : ((l.getD i default).region) = y.region
  refine Zn (vx := Iv ((l.getD i default).region)) (vy := Iv y.region) rfl rfl (.bool true) rfl rfl (Zaj (by omega)) ?_
  refine Zb (.bool true) (Zb (slv 0 0 n c) (Zb (Iv (i : Nat)) ?_))
  refine Zb0 (b := 0) (o := 0) (j := i * 36) (m := n) (c := c) (sz := 36) (i := (i : Nat)) (k := .i64) rfl rfl rfl rfl rfl (by omega) (by omega) (by omega) ?_
  refine Zas (b := 0) (o := i * 36) (n := 1) (o' := i * 36 + 1) rfl rfl rfl rfl (by omega) ?_
  refine Zba (p := pt 0 (i * 36 + 1)) (v := Iv ((l.getD i default).epoch)) rfl rfl rfl (Zef Zh (l := l) (i := i) (k := 1) (m := 36) rfl rfl rfl rfl (by have := hn; omega) (by omega) (by kernel_rfl) rfl) ?_
  refine Zb (Iv y.epoch) ?_
  by_cases h3 : ((l.getD i default).epoch) = y.epoch
  refine Zn (vx := Iv ((l.getD i default).epoch)) (vy := Iv y.epoch) rfl rfl (.bool true) rfl rfl (Zaj (by omega)) ?_
  refine Zg (.bool true) (Zd (Ze (Z4 rfl (Zi (Zm (Zb (slv 0 0 n c) (Zb (Iv (i : Nat)) ?_)))))))
  refine Zb0 (b := 0) (o := 0) (j := i * 36) (m := n) (c := c) (sz := 36) (i := (i : Nat)) (k := .i64) rfl rfl rfl rfl rfl (by omega) (by omega) (by omega) ?_
  refine Zba (p := pt 0 (i * 36)) (v := Zx (l.getD i default)) rfl rfl rfl (Zcm (n := 0) (m := 36) Zh rfl rfl rfl rfl (by have := hn; omega) (by omega)) ?_
  refine Z5 (p := pt 1 0) (v := Zx (l.getD i default)) (b := 1) (blk := bxB 36 (Zr (l.getD i default))) (H' := [rwR Zh l, bxB 36 (Zr (l.getD i default))]) (Zc (.bool true) (Zd (Ze (Zs (Zy (Zv (Zb5 (Zy (Zv (Zq ?_))))))))))
  have hf := Zxc (x := y) hR (i := i) (by omega) (by omega) (by omega)
  rw [Z0m hf, hf, Zrq (x := y) hR (i := i) (by omega) (by omega) (by omega)]
  exact Zk (v := .tuple #[Zx (l.getD i default), .bool true]) (by kernel_rfl) rfl rfl (by kernel_rfl) ⟨(Zgw (by kernel_rfl) rfl), rfl, trivial⟩
  refine Zn (vx := Iv ((l.getD i default).epoch)) (vy := Iv y.epoch) rfl rfl (.bool false) rfl rfl (Zaq (by omega)) ?_
  refine Zg (.bool false) (Zd (Ze (Zz rfl (Z9 (Z7 (Ze (Zm (Zb (Iv (i : Nat)) ?_))))))))
  refine Zn (vx := Iv (i : Nat)) (vy := Iv 1) rfl rfl (Iv ((i : Nat) + 1)) rfl rfl (Zbi (by omega) (by omega) (by omega)) ?_
  refine Zc (Iv ((i : Nat) + 1)) (Zd ?_)
  refine Zad ⟨(i + 1), ⟨fun k hk q => by rcases Nat.lt_or_ge k i with h | h; exact hA k h q; obtain rfl : k = i := (by omega); omega, by omega⟩, by show n - (i + 1) < n - i; omega, ?_⟩
  refine Zau (n := 2) rfl ?_ (by kernel_rfl) (by kernel_rfl)
  repeat (first | exact trivial | refine ⟨.inl rfl, ?_⟩ | refine ⟨.inr ⟨rfl, rfl⟩, ?_⟩ | refine ⟨.inr ⟨congrArg (Value.int .i64) (by first | omega | (dsimp only; omega)), rfl⟩, ?_⟩)
  refine Zn (vx := Iv ((l.getD i default).region)) (vy := Iv y.region) rfl rfl (.bool false) rfl rfl (Zaq (by omega)) ?_
  refine Zb (.bool false) (Za (Za (Za (Za (Za (Za (Za (Zg (.bool false) (Zd (Ze (Zz rfl (Z9 (Z7 (Ze (Zm (Zb (Iv (i : Nat)) ?_))))))))))))))))
  refine Zn (vx := Iv (i : Nat)) (vy := Iv 1) rfl rfl (Iv ((i : Nat) + 1)) rfl rfl (Zbi (by omega) (by omega) (by omega)) ?_
  refine Zc (Iv ((i : Nat) + 1)) (Zd ?_)
  refine Zad ⟨(i + 1), ⟨fun k hk q => by rcases Nat.lt_or_ge k i with h | h; exact hA k h q; obtain rfl : k = i := (by omega); omega, by omega⟩, by show n - (i + 1) < n - i; omega, ?_⟩
  refine Zau (n := 2) rfl ?_ (by kernel_rfl) (by kernel_rfl)
  repeat (first | exact trivial | refine ⟨.inl rfl, ?_⟩ | refine ⟨.inr ⟨rfl, rfl⟩, ?_⟩ | refine ⟨.inr ⟨congrArg (Value.int .i64) (by first | omega | (dsimp only; omega)), rfl⟩, ?_⟩)
  refine Zn (vx := Iv (i : Nat)) (vy := Iv (n : Nat)) rfl rfl (.bool false) rfl rfl (Zdp (by omega)) ?_
  refine Zd (Ze (Zz rfl (Zez (Zd3 (Zc3 (Zdt rfl (Ze (Zi (Zm ?_)))))))))
  refine Za0 (vs := []) (v := Zx (⟨0, 0, 0, 0, dz⟩ : Claim)) rfl rfl rfl (by kernel_rfl) ?_
  refine Z5 (p := pt 1 0) (v := Zx (⟨0, 0, 0, 0, dz⟩ : Claim)) (b := 1) (blk := bxB 36 (Zr (⟨0, 0, 0, 0, dz⟩ : Claim))) (H' := [rwR Zh l, bxB 36 (Zr (⟨0, 0, 0, 0, dz⟩ : Claim))]) (Zc (.bool false) (Zd (Ze (Zs (Zq ?_)))))
  have hf : Zdm l y = false := Z0a (fun k hk => hA k (by omega))
  rw [Z0l hf, hf]
  exact Zk (v := .tuple #[Zx (⟨0, 0, 0, 0, dz⟩ : Claim), .bool false]) (by kernel_rfl) rfl rfl (by kernel_rfl) ⟨(Zgw (by kernel_rfl) rfl), rfl, trivial⟩
theorem Zu8 (l : List Claim) (n c : Nat) (hn : l.length = n) (hc : n ≤ c) (hb : n ≤ 1048576) (y : Claim) (hR : Zbw l) (h : Zdm l y = true) : Zat Try.prog G 56 [slv 0 0 n c, Iv y.region, Iv y.epoch] [rwR Zh l] (.tuple #[Zx (l.getD (Zbq l y) default), .bool true]) [rwR Zh l] := by
 have := Zm4 (G := G) l n c hn hc hb y hR
 rw [Z0m h, h] at this; exact this
theorem Zu7 (l : List Claim) (n c : Nat) (hn : l.length = n) (hc : n ≤ c) (hb : n ≤ 1048576) (y : Claim) (hR : Zbw l) (h : Zdm l y = false) : Zat Try.prog G 56 [slv 0 0 n c, Iv y.region, Iv y.epoch] [rwR Zh l] (.tuple #[Zx (⟨0, 0, 0, 0, dz⟩ : Claim), .bool false]) [rwR Zh l] := by
 have := Zm4 (G := G) l n c hn hc hb y hR
 rw [Z0l h, h] at this; exact this
theorem Zp1 (l : List Claim) (n c : Nat) (hn : l.length = n) (hc : n ≤ c) (hb : n ≤ 100000) (y : Claim) : Zat Try.prog G 42 [slv 0 0 n c, Zx y] [rwR Zh l] (.tuple #[slv 1 0 (Zae l y).1.length (Zae l y).1.length, Iv (Zae l y).2]) [rwR Zh l, rwB Zh (Zae l y).1] := by
  refine Zcg (fn := Try.f42) (nt := 69) rfl rfl rfl rfl ?_
  refine Za8 3 (H' := [rwR Zh l, hole, hole, hole]) rfl ?_
  refine Zi (Zm (Zbn (v := Zx y) (b := bxB 36 (Zr y)) (nid := 1) (H' := [rwR Zh l, bxB 36 (Zr y), hole, hole]) (Zc (.slice none 0 0) (Zc (Iv 0) (Zd (Ze (Zi (Zi (Zm (Zb (slv 0 0 n c) ?_))))))))))
  refine Zab (e := [some (0, 0)]) (nid := 0) (Zjo (G := G) l n c hn (by omega) (by omega)) (vals := [slv 0 0 n c]) (v := .bool (decide (Zbw l))) (H' := [rwR Zh l, bxB 36 (Zr y), hole, hole]) rfl rfl rfl rfl rfl rfl rfl ⟨⟨⟨rfl, rfl, rfl, by first | omega | exact Nat.le_refl _, by first | omega | exact Nat.le_refl _⟩, trivial⟩, ⟨(Zaf rfl), trivial⟩, rfl, rfl, rfl⟩ rfl (by kernel_rfl) ?_
  rcases Bool.eq_false_or_eq_true (decide (Zbw l)) with h1 | h1
  refine Zcx (vx := .bool (decide (Zbw l))) rfl rfl (.bool false) rfl (Eq.trans Za3 (congrArg (fun b => some (Value.bool !b)) h1)) ?_
  refine Zb (.bool false) (Zl (p := pt 1 0) (v := Zx y) ?_)
  refine Zw (Zfw (G := G) y) (vals := [Zx y]) (res' := .bool (decide (Zaz y))) rfl rfl rfl rfl rfl rfl ?_
  rcases Bool.eq_false_or_eq_true (decide (Zaz y)) with h2 | h2
  refine Zcx (vx := .bool (decide (Zaz y))) rfl rfl (.bool false) rfl (Eq.trans Za3 (congrArg (fun b => some (Value.bool !b)) h2)) ?_
  refine Zg (.bool false) (Zd (Ze (Zz rfl (Z9 (Ze (Zi (Zm (Zb (slv 0 0 n c) (Zf (b := 1) (o := 0) (n := 0) (o' := 0) (Zl (p := pt 1 0) (v := Iv y.region) (Zf (b := 1) (o := 0) (n := 1) (o' := 1) (Zl (p := pt 1 1) (v := Iv y.epoch) ?_))))))))))))
  rcases Bool.eq_false_or_eq_true (Zdm l y) with h3 | h3
  have hrl15 : Zbw l := of_decide_eq_true (by assumption)
  refine Zab (e := [some (0, 0)]) (nid := 0) (Zu8 (G := G) l n c hn (by omega) (by omega) y hrl15 h3) (vals := [slv 0 0 n c, Iv y.region, Iv y.epoch]) (v := .tuple #[Zx (l.getD (Zbq l y) default), .bool true]) (H' := [rwR Zh l, bxB 36 (Zr y), hole, hole]) rfl rfl rfl rfl rfl rfl rfl ⟨⟨⟨rfl, rfl, rfl, by first | omega | exact Nat.le_refl _, by first | omega | exact Nat.le_refl _⟩, rfl, rfl, trivial⟩, ⟨(Zaf rfl), trivial⟩, rfl, rfl, rfl⟩ (by kernel_rfl) (by kernel_rfl) ?_
  refine Zb (.tuple #[Zx (l.getD (Zbq l y) default), .bool true]) (Za2 (vs := #[Zx (l.getD (Zbq l y) default), .bool true]) (v := Zx (l.getD (Zbq l y) default)) (Za2 (vs := #[Zx (l.getD (Zbq l y) default), .bool true]) (v := .bool true) (Zbf (b := bxB 36 (Zr (⟨0, 0, 0, 0, dz⟩ : Claim))) (nid := 2) (H' := [rwR Zh l, bxB 36 (Zr y), bxB 36 (Zr (⟨0, 0, 0, 0, dz⟩ : Claim)), hole]) (Z5 (p := pt 2 0) (v := Zx (l.getD (Zbq l y) default)) (b := 2) (blk := bxB 36 (Zr (l.getD (Zbq l y) default))) (H' := [rwR Zh l, bxB 36 (Zr y), bxB 36 (Zr (l.getD (Zbq l y) default)), hole]) (Zc (.bool true) (Zd (Ze (Zi (Zi (Zm (Zb (.bool true) (Zb (.bool true) (Zl (p := pt 2 0) (v := Zx (l.getD (Zbq l y) default)) (Zl (p := pt 1 0) (v := Zx y) ?_))))))))))))))
  rcases Bool.eq_false_or_eq_true (Zu (l.getD (Zbq l y) default) y) with h4 | h4
  refine Zn (vx := Zx (l.getD (Zbq l y) default)) (vy := Zx y) rfl rfl (.bool false) rfl rfl (Eq.trans (Zgt (l.getD (Zbq l y) default) y) (by rw [h4] <;> rfl)) ?_
  refine Zg (.bool false) (Zd (Ze (Zz rfl (Z9 (Ze (Zi (Zm (Zc (.slice none 0 0) (Zd (Ze (Zi (Zm (Zb (.bool true) (Zc (.bool true) (Zd (Ze (Zi (Zi ?_))))))))))))))))))
  refine Zbh (Zbz.nilTmp (i := 8) (b := 3) true 36 rfl (by decide) rfl) ?_
  refine Zm (Zc (Iv 0) (Zd (Ze (Zav ?_))))
  refine Zdz (fun x : Nat × Nat × Bool × (List Claim) => match x with | (i, m, b, acc) => [slv 0 0 n c, Zx y, dead, pt 1 0, .slice none 0 0, Iv 0, pt 2 0, .bool true, slv 3 0 m m, .bool b, Iv (i : Nat), dead, dead, dead, dead, dead, dead, dead, dead, dead, dead, dead, dead, dead, dead, dead, dead, dead, dead, dead, dead, dead, dead, dead, dead]) (fun x : Nat × Nat × Bool × (List Claim) => match x with | (i, m, b, acc) => [rwR Zh l, bxB 36 (Zr y), bxB 36 (Zr (l.getD (Zbq l y) default)), rwB Zh acc]) (fun x : Nat × Nat × Bool × (List Claim) => match x with | (i, m, b, acc) => Zfv y (l.drop i) b acc = Zfv y l (Zdm l y) [] ∧ acc.length = m ∧ (b = false → m = i) ∧ m ≤ i + 1 ∧ i ≤ n) (fun x : Nat × Nat × Bool × (List Claim) => match x with | (i, m, b, acc) => n - i) (0, 0, true, []) ⟨by simp only [List.drop_zero, *], rfl, fun _ => rfl, by omega, by omega⟩ ?_ ?_
  · refine Zau (n := 4) rfl ?_ (by kernel_rfl) (by kernel_rfl)
    repeat (first | exact trivial | refine ⟨.inl rfl, ?_⟩ | refine ⟨.inr ⟨rfl, rfl⟩, ?_⟩ | refine ⟨.inr ⟨congrArg (Value.int .i64) (by first | omega | (dsimp only; omega)), rfl⟩, ?_⟩)
  rintro ⟨i, m, b, acc⟩ ⟨hA, ha, hm2, hm, hi⟩
  dsimp only at *
  refine Za8 3 (H' := [rwR Zh l, bxB 36 (Zr y), bxB 36 (Zr (l.getD (Zbq l y) default)), rwB Zh acc, hole, hole, hole]) rfl ?_
  refine Zi (Zi (Zm (Zb (Iv (i : Nat)) (Zb (slv 0 0 n c) (Zbg (p := slv 0 0 n c) (v := Iv (n : Nat)) ?_)))))
  by_cases h5 : (i : Nat) < (n : Nat)
  refine Zn (vx := Iv (i : Nat)) (vy := Iv (n : Nat)) rfl rfl (.bool true) rfl rfl (Zdq (by omega)) ?_
  refine Zd (Ze (Z4 rfl (Z9 (Ze (Zi (Zav (Zi (Zi ?_))))))))
  refine Zel (by kernel_rfl) ?_
  refine Zb (.bool b) ?_
  rcases Bool.eq_false_or_eq_true b with h6 | h6
  refine Zcx (vx := .bool b) rfl rfl (.bool false) rfl (Eq.trans Za3 (congrArg (fun b => some (Value.bool !b)) h6)) ?_
  refine Zb (.bool false) (Za (Za (Za (Za (Za (Za (Zg (.bool false) ?_)))))))
  refine Zb6 (Zay [[], [0], [0, 1], [0, 1, 2], [0, 1, 2], [0, 1, 2], [0, 1, 2, 4, 5], [0, 1, 2, 4, 5, 6], [0, 1, 2, 3, 4, 5, 6, 7], [0, 1, 2, 3, 4, 5, 6, 7, 8]] (by kernel_rfl) (by kernel_rfl)) ?_
  refine Ze (Zz rfl (Z9 (Ze (Zm (Zb (slv 3 0 m m) (Zb (slv 0 0 n c) (Zb (Iv (i : Nat)) ?_)))))))
  refine Zb0 (b := 0) (o := 0) (j := i * 36) (m := n) (c := c) (sz := 36) (i := (i : Nat)) (k := .i64) rfl rfl rfl rfl rfl (by omega) (by omega) (by omega) ?_
  refine Zba (p := pt 0 (i * 36)) (v := Zx (l.getD i default)) rfl rfl rfl (Zcm (n := 0) (m := 36) Zh rfl rfl rfl rfl (by have := hn; omega) (by omega)) ?_
  refine Zgl (vs := [(0, Zx (l.getD i default))]) (v := slv 4 0 1 1) (blk := rwB Zh [(l.getD i default)]) (nid := 4) (H' := [rwR Zh l, bxB 36 (Zr y), bxB 36 (Zr (l.getD (Zbq l y) default)), rwB Zh acc, rwB Zh [(l.getD i default)], hole, hole]) rfl rfl rfl (by kernel_rfl) (by kernel_rfl) ?_
  have hl16 : (acc ++ [(l.getD i default)]).length = m + 1 := by have := ha; have := (rfl : _ = 1); first | (rw [List.length_append]; omega) | (rw [List.length_append, List.length_take]; omega) | (simp; omega) | simp
  refine Zc1 (p := slv 3 0 m m) (q := slv 4 0 1 1) (v := slv 3 0 (m + 1) (m + 1)) (b := 3) (blk := rwB Zh (acc ++ [(l.getD i default)])) (H' := [rwR Zh l, bxB 36 (Zr y), bxB 36 (Zr (l.getD (Zbq l y) default)), rwB Zh (acc ++ [(l.getD i default)]), rwB Zh [(l.getD i default)], hole, hole]) rfl rfl rfl (.inl ⟨_, rfl⟩) rfl rfl (Zds Zh (by_ := 64) (k := 1) (n' := m + 1) (ms := [(l.getD i default)]) (fun _ => rfl) rfl rfl (by kernel_rfl) rfl rfl (by have := ha; omega) (by omega) (by decide) (by omega)) rfl (by kernel_rfl) ?_
  refine Zc (slv 3 0 (m + 1) (m + 1)) (Zd (Z7 (Ze (Zm (Zb (Iv (i : Nat)) ?_)))))
  refine Zn (vx := Iv (i : Nat)) (vy := Iv 1) rfl rfl (Iv ((i : Nat) + 1)) rfl rfl (Zbi (by omega) (by omega) (by omega)) ?_
  refine Zc (Iv ((i : Nat) + 1)) (Zd ?_)
  refine Zad ⟨((i + 1), (m + 1), b, (acc ++ [(l.getD i default)])), ⟨Zgu (by omega) hA (fun r => by first | exact Zj2 (by assumption) | exact Zj3 (by assumption) (by assumption) | exact Zj4 (by assumption) (by assumption)), by dsimp only; first | (rw [List.length_append, ha]; rfl) | (rw [List.length_append, List.length_append, ha]; rfl), by dsimp only; intro q; first | exact absurd q (by decide) | (have := hm2 (by assumption); omega) | (rw [‹b = true›] at q; cases q), by dsimp only; first | omega | (have := hm2 (by assumption); omega), by dsimp only; omega⟩, by show n - (i + 1) < n - i; omega, ?_⟩
  refine Zau (n := 4) rfl ?_ (by kernel_rfl) (by kernel_rfl)
  repeat (first | exact trivial | refine ⟨.inl rfl, ?_⟩ | refine ⟨.inr ⟨rfl, rfl⟩, ?_⟩ | refine ⟨.inr ⟨congrArg (Value.int .i64) (by first | omega | (dsimp only; omega)), rfl⟩, ?_⟩)
  refine Zcx (vx := .bool b) rfl rfl (.bool true) rfl (Eq.trans Za3 (congrArg (fun b => some (Value.bool !b)) h6)) ?_
  refine Zb (.bool true) (Zl (p := pt 1 0) (v := Zx y) (Zb (slv 0 0 n c) (Zb (Iv (i : Nat)) ?_)))
  refine Zb0 (b := 0) (o := 0) (j := i * 36) (m := n) (c := c) (sz := 36) (i := (i : Nat)) (k := .i64) rfl rfl rfl rfl rfl (by omega) (by omega) (by omega) ?_
  refine Zba (p := pt 0 (i * 36)) (v := Zx (l.getD i default)) rfl rfl rfl (Zcm (n := 0) (m := 36) Zh rfl rfl rfl rfl (by have := hn; omega) (by omega)) ?_
  refine Zw (Ziv (G := G) y (l.getD i default)) (vals := [Zx y, Zx (l.getD i default)]) (res' := .bool (decide (Zbm y (l.getD i default)))) rfl rfl rfl rfl rfl rfl ?_
  refine Zg (.bool (decide (Zbm y (l.getD i default)))) ?_
  refine Zb6 (Zay [[], [0], [0, 1], [0, 1, 2], [0, 1, 2], [0, 1, 2], [0, 1, 2, 4, 5], [0, 1, 2, 4, 5, 6], [0, 1, 2, 3, 4, 5, 6, 7], [0, 1, 2, 3, 4, 5, 6, 7, 8]] (by kernel_rfl) (by kernel_rfl)) ?_
  refine Ze ?_
  rcases Bool.eq_false_or_eq_true (decide (Zbm y (l.getD i default))) with h7 | h7
  refine Z4 (congrArg Value.bool h7) (Zi (Zm (Zb (slv 3 0 m m) (Zl (p := pt 1 0) (v := Zx y) ?_))))
  refine Zgl (vs := [(0, Zx y)]) (v := slv 4 0 1 1) (blk := rwB Zh [y]) (nid := 4) (H' := [rwR Zh l, bxB 36 (Zr y), bxB 36 (Zr (l.getD (Zbq l y) default)), rwB Zh acc, rwB Zh [y], hole, hole]) rfl rfl rfl (by kernel_rfl) (by kernel_rfl) ?_
  have hl17 : (acc ++ [y]).length = m + 1 := by have := ha; have := (rfl : _ = 1); first | (rw [List.length_append]; omega) | (rw [List.length_append, List.length_take]; omega) | (simp; omega) | simp
  refine Zc1 (p := slv 3 0 m m) (q := slv 4 0 1 1) (v := slv 3 0 (m + 1) (m + 1)) (b := 3) (blk := rwB Zh (acc ++ [y])) (H' := [rwR Zh l, bxB 36 (Zr y), bxB 36 (Zr (l.getD (Zbq l y) default)), rwB Zh (acc ++ [y]), rwB Zh [y], hole, hole]) rfl rfl rfl (.inl ⟨_, rfl⟩) rfl rfl (Zds Zh (by_ := 64) (k := 1) (n' := m + 1) (ms := [y]) (fun _ => rfl) rfl rfl (by kernel_rfl) rfl rfl (by have := ha; omega) (by omega) (by decide) (by omega)) rfl (by kernel_rfl) ?_
  refine Zc (slv 3 0 (m + 1) (m + 1)) (Zd (Ze (Zm (Zc (.bool true) (Zd (Ze (Zm (Zb (slv 3 0 (m + 1) (m + 1)) (Zb (slv 0 0 n c) (Zb (Iv (i : Nat)) ?_))))))))))
  refine Zb0 (b := 0) (o := 0) (j := i * 36) (m := n) (c := c) (sz := 36) (i := (i : Nat)) (k := .i64) rfl rfl rfl rfl rfl (by omega) (by omega) (by omega) ?_
  refine Zba (p := pt 0 (i * 36)) (v := Zx (l.getD i default)) rfl rfl rfl (Zcm (n := 0) (m := 36) Zh rfl rfl rfl rfl (by have := hn; omega) (by omega)) ?_
  refine Zgl (vs := [(0, Zx (l.getD i default))]) (v := slv 5 0 1 1) (blk := rwB Zh [(l.getD i default)]) (nid := 5) (H' := [rwR Zh l, bxB 36 (Zr y), bxB 36 (Zr (l.getD (Zbq l y) default)), rwB Zh (acc ++ [y]), rwB Zh [y], rwB Zh [(l.getD i default)], hole]) rfl rfl rfl (by kernel_rfl) (by kernel_rfl) ?_
  have hl18 : ((acc ++ [y]) ++ [(l.getD i default)]).length = m + 2 := by have := hl17; have := (rfl : _ = 1); first | (rw [List.length_append]; omega) | (rw [List.length_append, List.length_take]; omega) | (simp; omega) | simp
  refine Zc1 (p := slv 3 0 (m + 1) (m + 1)) (q := slv 5 0 1 1) (v := slv 3 0 (m + 2) (m + 2)) (b := 3) (blk := rwB Zh ((acc ++ [y]) ++ [(l.getD i default)])) (H' := [rwR Zh l, bxB 36 (Zr y), bxB 36 (Zr (l.getD (Zbq l y) default)), rwB Zh ((acc ++ [y]) ++ [(l.getD i default)]), rwB Zh [y], rwB Zh [(l.getD i default)], hole]) rfl rfl rfl (.inl ⟨_, rfl⟩) rfl rfl (Zds Zh (by_ := 64) (k := 1) (n' := m + 2) (ms := [(l.getD i default)]) (fun _ => rfl) rfl rfl (by kernel_rfl) rfl rfl (by have := hl17; omega) (by omega) (by decide) (by omega)) rfl (by kernel_rfl) ?_
  refine Zc (slv 3 0 (m + 2) (m + 2)) (Zd (Z7 (Ze (Zm (Zb (Iv (i : Nat)) ?_)))))
  refine Zn (vx := Iv (i : Nat)) (vy := Iv 1) rfl rfl (Iv ((i : Nat) + 1)) rfl rfl (Zbi (by omega) (by omega) (by omega)) ?_
  refine Zc (Iv ((i : Nat) + 1)) (Zd ?_)
  refine Zad ⟨((i + 1), (m + 2), true, ((acc ++ [y]) ++ [(l.getD i default)])), ⟨Zgu (by omega) hA (fun r => by first | exact Zj2 (by assumption) | exact Zj3 (by assumption) (by assumption) | exact Zj4 (by assumption) (by assumption)), by dsimp only; first | (rw [List.length_append, ha]; rfl) | (rw [List.length_append, List.length_append, ha]; rfl), by dsimp only; intro q; first | exact absurd q (by decide) | (have := hm2 (by assumption); omega) | (rw [‹b = true›] at q; cases q), by dsimp only; first | omega | (have := hm2 (by assumption); omega), by dsimp only; omega⟩, by show n - (i + 1) < n - i; omega, ?_⟩
  refine Zau (n := 4) rfl ?_ (by kernel_rfl) (by kernel_rfl)
  repeat (first | exact trivial | refine ⟨.inl rfl, ?_⟩ | refine ⟨.inr ⟨rfl, rfl⟩, ?_⟩ | refine ⟨.inr ⟨congrArg (Value.int .i64) (by first | omega | (dsimp only; omega)), rfl⟩, ?_⟩)
  refine Zz (congrArg Value.bool h7) (Z9 (Ze (Zm (Zb (slv 3 0 m m) (Zb (slv 0 0 n c) (Zb (Iv (i : Nat)) ?_))))))
  refine Zb0 (b := 0) (o := 0) (j := i * 36) (m := n) (c := c) (sz := 36) (i := (i : Nat)) (k := .i64) rfl rfl rfl rfl rfl (by omega) (by omega) (by omega) ?_
  refine Zba (p := pt 0 (i * 36)) (v := Zx (l.getD i default)) rfl rfl rfl (Zcm (n := 0) (m := 36) Zh rfl rfl rfl rfl (by have := hn; omega) (by omega)) ?_
  refine Zgl (vs := [(0, Zx (l.getD i default))]) (v := slv 4 0 1 1) (blk := rwB Zh [(l.getD i default)]) (nid := 4) (H' := [rwR Zh l, bxB 36 (Zr y), bxB 36 (Zr (l.getD (Zbq l y) default)), rwB Zh acc, rwB Zh [(l.getD i default)], hole, hole]) rfl rfl rfl (by kernel_rfl) (by kernel_rfl) ?_
  have hl19 : (acc ++ [(l.getD i default)]).length = m + 1 := by have := ha; have := (rfl : _ = 1); first | (rw [List.length_append]; omega) | (rw [List.length_append, List.length_take]; omega) | (simp; omega) | simp
  refine Zc1 (p := slv 3 0 m m) (q := slv 4 0 1 1) (v := slv 3 0 (m + 1) (m + 1)) (b := 3) (blk := rwB Zh (acc ++ [(l.getD i default)])) (H' := [rwR Zh l, bxB 36 (Zr y), bxB 36 (Zr (l.getD (Zbq l y) default)), rwB Zh (acc ++ [(l.getD i default)]), rwB Zh [(l.getD i default)], hole, hole]) rfl rfl rfl (.inl ⟨_, rfl⟩) rfl rfl (Zds Zh (by_ := 64) (k := 1) (n' := m + 1) (ms := [(l.getD i default)]) (fun _ => rfl) rfl rfl (by kernel_rfl) rfl rfl (by have := ha; omega) (by omega) (by decide) (by omega)) rfl (by kernel_rfl) ?_
  refine Zc (slv 3 0 (m + 1) (m + 1)) (Zd (Z7 (Ze (Zm (Zb (Iv (i : Nat)) ?_)))))
  refine Zn (vx := Iv (i : Nat)) (vy := Iv 1) rfl rfl (Iv ((i : Nat) + 1)) rfl rfl (Zbi (by omega) (by omega) (by omega)) ?_
  refine Zc (Iv ((i : Nat) + 1)) (Zd ?_)
  refine Zad ⟨((i + 1), (m + 1), b, (acc ++ [(l.getD i default)])), ⟨Zgu (by omega) hA (fun r => by first | exact Zj2 (by assumption) | exact Zj3 (by assumption) (by assumption) | exact Zj4 (by assumption) (by assumption)), by dsimp only; first | (rw [List.length_append, ha]; rfl) | (rw [List.length_append, List.length_append, ha]; rfl), by dsimp only; intro q; first | exact absurd q (by decide) | (have := hm2 (by assumption); omega) | (rw [‹b = true›] at q; cases q), by dsimp only; first | omega | (have := hm2 (by assumption); omega), by dsimp only; omega⟩, by show n - (i + 1) < n - i; omega, ?_⟩
  refine Zau (n := 4) rfl ?_ (by kernel_rfl) (by kernel_rfl)
  repeat (first | exact trivial | refine ⟨.inl rfl, ?_⟩ | refine ⟨.inr ⟨rfl, rfl⟩, ?_⟩ | refine ⟨.inr ⟨congrArg (Value.int .i64) (by first | omega | (dsimp only; omega)), rfl⟩, ?_⟩)
  refine Zn (vx := Iv (i : Nat)) (vy := Iv (n : Nat)) rfl rfl (.bool false) rfl rfl (Zdp (by omega)) ?_
  refine Zd (Ze (Zz rfl (Zez (Zd3 (Zc3 (Zdt rfl (Ze (Zi (Zi (Zm (Zb (.bool b) ?_)))))))))))
  rcases Bool.eq_false_or_eq_true b with h8 | h8
  refine Zcx (vx := .bool b) rfl rfl (.bool false) rfl (Eq.trans Za3 (congrArg (fun b => some (Value.bool !b)) h8)) ?_
  refine Zd (Ze (Zz rfl (Z9 (Ze (Zi (Zm (Zb (slv 3 0 m m) (Zc (slv 3 0 m m) (Zc (Iv 0) (Zd (Ze (Zs (Zq ?_)))))))))))))
  have hrR : Zbw l := of_decide_eq_true (by assumption)
  have hall := Zks (x := y) hrR
  rw [← hA, List.drop_of_length_le (by omega)] at hall
  rw [Zfv, if_pos (by assumption)] at hall
  rw [if_pos h3] at hall
  rw [show Zae l y = ((acc), 0) from by rw [hall]; exact Zw5 (Zht (of_decide_eq_true (by assumption))) (Ziw (of_decide_eq_true (by assumption))) (by assumption) (by assumption), show (((acc), 0) : List Claim × Int).1.length = m from ha]
  exact Zar [0, 3] (v := .tuple #[slv 3 0 m m, Iv 0]) rfl (by kernel_rfl) rfl rfl (by decide) (by simp [Zbr, rwB, rwR, Zh]) ⟨⟨rfl, rfl, rfl, by first | omega | exact Nat.le_refl _ | exact Nat.zero_le _ | (dsimp only; omega), by first | omega | exact Nat.le_refl _ | exact Nat.zero_le _ | (dsimp only; omega)⟩, rfl, trivial⟩
  refine Zcx (vx := .bool b) rfl rfl (.bool true) rfl (Eq.trans Za3 (congrArg (fun b => some (Value.bool !b)) h8)) ?_
  refine Zd (Ze (Z4 rfl (Zm (Zb (slv 3 0 m m) (Zl (p := pt 1 0) (v := Zx y) ?_)))))
  refine Zgl (vs := [(0, Zx y)]) (v := slv 4 0 1 1) (blk := rwB Zh [y]) (nid := 4) (H' := [rwR Zh l, bxB 36 (Zr y), bxB 36 (Zr (l.getD (Zbq l y) default)), rwB Zh acc, rwB Zh [y], hole, hole]) rfl rfl rfl (by kernel_rfl) (by kernel_rfl) ?_
  have hl20 : (acc ++ [y]).length = m + 1 := by have := ha; have := (rfl : _ = 1); first | (rw [List.length_append]; omega) | (rw [List.length_append, List.length_take]; omega) | (simp; omega) | simp
  refine Zc1 (p := slv 3 0 m m) (q := slv 4 0 1 1) (v := slv 3 0 (m + 1) (m + 1)) (b := 3) (blk := rwB Zh (acc ++ [y])) (H' := [rwR Zh l, bxB 36 (Zr y), bxB 36 (Zr (l.getD (Zbq l y) default)), rwB Zh (acc ++ [y]), rwB Zh [y], hole, hole]) rfl rfl rfl (.inl ⟨_, rfl⟩) rfl rfl (Zds Zh (by_ := 64) (k := 1) (n' := m + 1) (ms := [y]) (fun _ => rfl) rfl rfl (by kernel_rfl) rfl rfl (by have := ha; omega) (by omega) (by decide) (by omega)) rfl (by kernel_rfl) ?_
  refine Zc (slv 3 0 (m + 1) (m + 1)) (Zd (Ze (Zi (Zm (Zb (slv 3 0 (m + 1) (m + 1)) (Zc (slv 3 0 (m + 1) (m + 1)) (Zc (Iv 0) (Zd (Ze (Zs (Zq ?_)))))))))))
  have hrR : Zbw l := of_decide_eq_true (by assumption)
  have hall := Zks (x := y) hrR
  rw [← hA, List.drop_of_length_le (by omega)] at hall
  rw [Zfv, if_neg (by rw [‹b = false›]; decide)] at hall
  rw [if_pos h3] at hall
  rw [show Zae l y = ((acc ++ [y]), 0) from by rw [hall]; exact Zw5 (Zht (of_decide_eq_true (by assumption))) (Ziw (of_decide_eq_true (by assumption))) (by assumption) (by assumption), show (((acc ++ [y]), 0) : List Claim × Int).1.length = m + 1 from by rw [List.length_append, ha]; rfl]
  exact Zar [0, 3] (v := .tuple #[slv 3 0 (m + 1) (m + 1), Iv 0]) rfl (by kernel_rfl) rfl rfl (by decide) (by simp [Zbr, rwB, rwR, Zh]) ⟨⟨rfl, rfl, rfl, by first | omega | exact Nat.le_refl _ | exact Nat.zero_le _ | (dsimp only; omega), by first | omega | exact Nat.le_refl _ | exact Nat.zero_le _ | (dsimp only; omega)⟩, rfl, trivial⟩
  refine Zn (vx := Zx (l.getD (Zbq l y) default)) (vy := Zx y) rfl rfl (.bool true) rfl rfl (Eq.trans (Zgt (l.getD (Zbq l y) default) y) (by rw [h4] <;> rfl)) ?_
  refine Zg (.bool true) (Zd (Ze (Z4 rfl (Zi (Zm (Zc (.slice none 0 0) (Zc (Iv 111) (Zd (Ze ?_)))))))))
  refine Zbh (Zbz.nilTmp (i := 4) (b := 3) true 36 rfl (by decide) rfl) ?_
  refine Zs (Zv (Zq ?_))
  rw [show Zae l y = ([], 111) from Zy8 (Zht (of_decide_eq_true (by assumption))) (Ziw (of_decide_eq_true (by assumption))) (by assumption) (by assumption)]
  exact Zar [0, 3] (v := .tuple #[slv 3 0 0 0, Iv 111]) rfl (by kernel_rfl) rfl rfl (by decide) (by simp [Zbr, rwB, rwR, Zh]) ⟨⟨rfl, rfl, rfl, by first | omega | exact Nat.le_refl _ | exact Nat.zero_le _ | (dsimp only; omega), by first | omega | exact Nat.le_refl _ | exact Nat.zero_le _ | (dsimp only; omega)⟩, rfl, trivial⟩
  have hrl21 : Zbw l := of_decide_eq_true (by assumption)
  refine Zab (e := [some (0, 0)]) (nid := 0) (Zu7 (G := G) l n c hn (by omega) (by omega) y hrl21 h3) (vals := [slv 0 0 n c, Iv y.region, Iv y.epoch]) (v := .tuple #[Zx (⟨0, 0, 0, 0, dz⟩ : Claim), .bool false]) (H' := [rwR Zh l, bxB 36 (Zr y), hole, hole]) rfl rfl rfl rfl rfl rfl rfl ⟨⟨⟨rfl, rfl, rfl, by first | omega | exact Nat.le_refl _, by first | omega | exact Nat.le_refl _⟩, rfl, rfl, trivial⟩, ⟨(Zaf rfl), trivial⟩, rfl, rfl, rfl⟩ (by kernel_rfl) (by kernel_rfl) ?_
  refine Zb (.tuple #[Zx (⟨0, 0, 0, 0, dz⟩ : Claim), .bool false]) (Za2 (vs := #[Zx (⟨0, 0, 0, 0, dz⟩ : Claim), .bool false]) (v := Zx (⟨0, 0, 0, 0, dz⟩ : Claim)) (Za2 (vs := #[Zx (⟨0, 0, 0, 0, dz⟩ : Claim), .bool false]) (v := .bool false) (Zbf (b := bxB 36 (Zr (⟨0, 0, 0, 0, dz⟩ : Claim))) (nid := 2) (H' := [rwR Zh l, bxB 36 (Zr y), bxB 36 (Zr (⟨0, 0, 0, 0, dz⟩ : Claim)), hole]) (Z5 (p := pt 2 0) (v := Zx (⟨0, 0, 0, 0, dz⟩ : Claim)) (b := 2) (blk := bxB 36 (Zr (⟨0, 0, 0, 0, dz⟩ : Claim))) (H' := [rwR Zh l, bxB 36 (Zr y), bxB 36 (Zr (⟨0, 0, 0, 0, dz⟩ : Claim)), hole]) (Zc (.bool false) (Zd (Ze (Zi (Zi (Zm (Zb (.bool false) (Zb (.bool false) (Za (Za (Za (Zg (.bool false) (Zd (Ze (Zz rfl (Z9 (Ze (Zi (Zm ?_)))))))))))))))))))))))
  refine Zc (.slice none 0 0) (Zd (Ze (Zi (Zm (Zb (.bool false) (Zc (.bool false) (Zd (Ze (Zi (Zi ?_))))))))))
  refine Zbh (Zbz.nilTmp (i := 8) (b := 3) true 36 rfl (by decide) rfl) ?_
  refine Zm (Zc (Iv 0) (Zd (Ze (Zav ?_))))
  refine Zdz (fun x : Nat × Nat × Bool × (List Claim) => match x with | (i, m, b, acc) => [slv 0 0 n c, Zx y, dead, pt 1 0, .slice none 0 0, Iv 0, pt 2 0, .bool false, slv 3 0 m m, .bool b, Iv (i : Nat), dead, dead, dead, dead, dead, dead, dead, dead, dead, dead, dead, dead, dead, dead, dead, dead, dead, dead, dead, dead, dead, dead, dead, dead]) (fun x : Nat × Nat × Bool × (List Claim) => match x with | (i, m, b, acc) => [rwR Zh l, bxB 36 (Zr y), bxB 36 (Zr (⟨0, 0, 0, 0, dz⟩ : Claim)), rwB Zh acc]) (fun x : Nat × Nat × Bool × (List Claim) => match x with | (i, m, b, acc) => Zfv y (l.drop i) b acc = Zfv y l (Zdm l y) [] ∧ acc.length = m ∧ (b = false → m = i) ∧ m ≤ i + 1 ∧ i ≤ n) (fun x : Nat × Nat × Bool × (List Claim) => match x with | (i, m, b, acc) => n - i) (0, 0, false, []) ⟨by simp only [List.drop_zero, *], rfl, fun _ => rfl, by omega, by omega⟩ ?_ ?_
  · refine Zau (n := 4) rfl ?_ (by kernel_rfl) (by kernel_rfl)
    repeat (first | exact trivial | refine ⟨.inl rfl, ?_⟩ | refine ⟨.inr ⟨rfl, rfl⟩, ?_⟩ | refine ⟨.inr ⟨congrArg (Value.int .i64) (by first | omega | (dsimp only; omega)), rfl⟩, ?_⟩)
  rintro ⟨i, m, b, acc⟩ ⟨hA, ha, hm2, hm, hi⟩
  dsimp only at *
  refine Za8 3 (H' := [rwR Zh l, bxB 36 (Zr y), bxB 36 (Zr (⟨0, 0, 0, 0, dz⟩ : Claim)), rwB Zh acc, hole, hole, hole]) rfl ?_
  refine Zi (Zi (Zm (Zb (Iv (i : Nat)) (Zb (slv 0 0 n c) (Zbg (p := slv 0 0 n c) (v := Iv (n : Nat)) ?_)))))
  by_cases h9 : (i : Nat) < (n : Nat)
  refine Zn (vx := Iv (i : Nat)) (vy := Iv (n : Nat)) rfl rfl (.bool true) rfl rfl (Zdq (by omega)) ?_
  refine Zd (Ze (Z4 rfl (Z9 (Ze (Zi (Zav (Zi (Zi ?_))))))))
  refine Zel (by kernel_rfl) ?_
  refine Zb (.bool b) ?_
  rcases Bool.eq_false_or_eq_true b with h10 | h10
  refine Zcx (vx := .bool b) rfl rfl (.bool false) rfl (Eq.trans Za3 (congrArg (fun b => some (Value.bool !b)) h10)) ?_
  refine Zb (.bool false) (Za (Za (Za (Za (Za (Za (Zg (.bool false) ?_)))))))
  refine Zb6 (Zay [[], [0], [0, 1], [0, 1, 2], [0, 1, 2], [0, 1, 2], [0, 1, 2, 4, 5], [0, 1, 2, 4, 5, 6], [0, 1, 2, 3, 4, 5, 6, 7], [0, 1, 2, 3, 4, 5, 6, 7, 8]] (by kernel_rfl) (by kernel_rfl)) ?_
  refine Ze (Zz rfl (Z9 (Ze (Zm (Zb (slv 3 0 m m) (Zb (slv 0 0 n c) (Zb (Iv (i : Nat)) ?_)))))))
  refine Zb0 (b := 0) (o := 0) (j := i * 36) (m := n) (c := c) (sz := 36) (i := (i : Nat)) (k := .i64) rfl rfl rfl rfl rfl (by omega) (by omega) (by omega) ?_
  refine Zba (p := pt 0 (i * 36)) (v := Zx (l.getD i default)) rfl rfl rfl (Zcm (n := 0) (m := 36) Zh rfl rfl rfl rfl (by have := hn; omega) (by omega)) ?_
  refine Zgl (vs := [(0, Zx (l.getD i default))]) (v := slv 4 0 1 1) (blk := rwB Zh [(l.getD i default)]) (nid := 4) (H' := [rwR Zh l, bxB 36 (Zr y), bxB 36 (Zr (⟨0, 0, 0, 0, dz⟩ : Claim)), rwB Zh acc, rwB Zh [(l.getD i default)], hole, hole]) rfl rfl rfl (by kernel_rfl) (by kernel_rfl) ?_
  have hl22 : (acc ++ [(l.getD i default)]).length = m + 1 := by have := ha; have := (rfl : _ = 1); first | (rw [List.length_append]; omega) | (rw [List.length_append, List.length_take]; omega) | (simp; omega) | simp
  refine Zc1 (p := slv 3 0 m m) (q := slv 4 0 1 1) (v := slv 3 0 (m + 1) (m + 1)) (b := 3) (blk := rwB Zh (acc ++ [(l.getD i default)])) (H' := [rwR Zh l, bxB 36 (Zr y), bxB 36 (Zr (⟨0, 0, 0, 0, dz⟩ : Claim)), rwB Zh (acc ++ [(l.getD i default)]), rwB Zh [(l.getD i default)], hole, hole]) rfl rfl rfl (.inl ⟨_, rfl⟩) rfl rfl (Zds Zh (by_ := 64) (k := 1) (n' := m + 1) (ms := [(l.getD i default)]) (fun _ => rfl) rfl rfl (by kernel_rfl) rfl rfl (by have := ha; omega) (by omega) (by decide) (by omega)) rfl (by kernel_rfl) ?_
  refine Zc (slv 3 0 (m + 1) (m + 1)) (Zd (Z7 (Ze (Zm (Zb (Iv (i : Nat)) ?_)))))
  refine Zn (vx := Iv (i : Nat)) (vy := Iv 1) rfl rfl (Iv ((i : Nat) + 1)) rfl rfl (Zbi (by omega) (by omega) (by omega)) ?_
  refine Zc (Iv ((i : Nat) + 1)) (Zd ?_)
  refine Zad ⟨((i + 1), (m + 1), b, (acc ++ [(l.getD i default)])), ⟨Zgu (by omega) hA (fun r => by first | exact Zj2 (by assumption) | exact Zj3 (by assumption) (by assumption) | exact Zj4 (by assumption) (by assumption)), by dsimp only; first | (rw [List.length_append, ha]; rfl) | (rw [List.length_append, List.length_append, ha]; rfl), by dsimp only; intro q; first | exact absurd q (by decide) | (have := hm2 (by assumption); omega) | (rw [‹b = true›] at q; cases q), by dsimp only; first | omega | (have := hm2 (by assumption); omega), by dsimp only; omega⟩, by show n - (i + 1) < n - i; omega, ?_⟩
  refine Zau (n := 4) rfl ?_ (by kernel_rfl) (by kernel_rfl)
  repeat (first | exact trivial | refine ⟨.inl rfl, ?_⟩ | refine ⟨.inr ⟨rfl, rfl⟩, ?_⟩ | refine ⟨.inr ⟨congrArg (Value.int .i64) (by first | omega | (dsimp only; omega)), rfl⟩, ?_⟩)
  refine Zcx (vx := .bool b) rfl rfl (.bool true) rfl (Eq.trans Za3 (congrArg (fun b => some (Value.bool !b)) h10)) ?_
  refine Zb (.bool true) (Zl (p := pt 1 0) (v := Zx y) (Zb (slv 0 0 n c) (Zb (Iv (i : Nat)) ?_)))
  refine Zb0 (b := 0) (o := 0) (j := i * 36) (m := n) (c := c) (sz := 36) (i := (i : Nat)) (k := .i64) rfl rfl rfl rfl rfl (by omega) (by omega) (by omega) ?_
  refine Zba (p := pt 0 (i * 36)) (v := Zx (l.getD i default)) rfl rfl rfl (Zcm (n := 0) (m := 36) Zh rfl rfl rfl rfl (by have := hn; omega) (by omega)) ?_
  refine Zw (Ziv (G := G) y (l.getD i default)) (vals := [Zx y, Zx (l.getD i default)]) (res' := .bool (decide (Zbm y (l.getD i default)))) rfl rfl rfl rfl rfl rfl ?_
  refine Zg (.bool (decide (Zbm y (l.getD i default)))) ?_
  refine Zb6 (Zay [[], [0], [0, 1], [0, 1, 2], [0, 1, 2], [0, 1, 2], [0, 1, 2, 4, 5], [0, 1, 2, 4, 5, 6], [0, 1, 2, 3, 4, 5, 6, 7], [0, 1, 2, 3, 4, 5, 6, 7, 8]] (by kernel_rfl) (by kernel_rfl)) ?_
  refine Ze ?_
  rcases Bool.eq_false_or_eq_true (decide (Zbm y (l.getD i default))) with h11 | h11
  refine Z4 (congrArg Value.bool h11) (Zi (Zm (Zb (slv 3 0 m m) (Zl (p := pt 1 0) (v := Zx y) ?_))))
  refine Zgl (vs := [(0, Zx y)]) (v := slv 4 0 1 1) (blk := rwB Zh [y]) (nid := 4) (H' := [rwR Zh l, bxB 36 (Zr y), bxB 36 (Zr (⟨0, 0, 0, 0, dz⟩ : Claim)), rwB Zh acc, rwB Zh [y], hole, hole]) rfl rfl rfl (by kernel_rfl) (by kernel_rfl) ?_
  have hl23 : (acc ++ [y]).length = m + 1 := by have := ha; have := (rfl : _ = 1); first | (rw [List.length_append]; omega) | (rw [List.length_append, List.length_take]; omega) | (simp; omega) | simp
  refine Zc1 (p := slv 3 0 m m) (q := slv 4 0 1 1) (v := slv 3 0 (m + 1) (m + 1)) (b := 3) (blk := rwB Zh (acc ++ [y])) (H' := [rwR Zh l, bxB 36 (Zr y), bxB 36 (Zr (⟨0, 0, 0, 0, dz⟩ : Claim)), rwB Zh (acc ++ [y]), rwB Zh [y], hole, hole]) rfl rfl rfl (.inl ⟨_, rfl⟩) rfl rfl (Zds Zh (by_ := 64) (k := 1) (n' := m + 1) (ms := [y]) (fun _ => rfl) rfl rfl (by kernel_rfl) rfl rfl (by have := ha; omega) (by omega) (by decide) (by omega)) rfl (by kernel_rfl) ?_
  refine Zc (slv 3 0 (m + 1) (m + 1)) (Zd (Ze (Zm (Zc (.bool true) (Zd (Ze (Zm (Zb (slv 3 0 (m + 1) (m + 1)) (Zb (slv 0 0 n c) (Zb (Iv (i : Nat)) ?_))))))))))
  refine Zb0 (b := 0) (o := 0) (j := i * 36) (m := n) (c := c) (sz := 36) (i := (i : Nat)) (k := .i64) rfl rfl rfl rfl rfl (by omega) (by omega) (by omega) ?_
  refine Zba (p := pt 0 (i * 36)) (v := Zx (l.getD i default)) rfl rfl rfl (Zcm (n := 0) (m := 36) Zh rfl rfl rfl rfl (by have := hn; omega) (by omega)) ?_
  refine Zgl (vs := [(0, Zx (l.getD i default))]) (v := slv 5 0 1 1) (blk := rwB Zh [(l.getD i default)]) (nid := 5) (H' := [rwR Zh l, bxB 36 (Zr y), bxB 36 (Zr (⟨0, 0, 0, 0, dz⟩ : Claim)), rwB Zh (acc ++ [y]), rwB Zh [y], rwB Zh [(l.getD i default)], hole]) rfl rfl rfl (by kernel_rfl) (by kernel_rfl) ?_
  have hl24 : ((acc ++ [y]) ++ [(l.getD i default)]).length = m + 2 := by have := hl23; have := (rfl : _ = 1); first | (rw [List.length_append]; omega) | (rw [List.length_append, List.length_take]; omega) | (simp; omega) | simp
  refine Zc1 (p := slv 3 0 (m + 1) (m + 1)) (q := slv 5 0 1 1) (v := slv 3 0 (m + 2) (m + 2)) (b := 3) (blk := rwB Zh ((acc ++ [y]) ++ [(l.getD i default)])) (H' := [rwR Zh l, bxB 36 (Zr y), bxB 36 (Zr (⟨0, 0, 0, 0, dz⟩ : Claim)), rwB Zh ((acc ++ [y]) ++ [(l.getD i default)]), rwB Zh [y], rwB Zh [(l.getD i default)], hole]) rfl rfl rfl (.inl ⟨_, rfl⟩) rfl rfl (Zds Zh (by_ := 64) (k := 1) (n' := m + 2) (ms := [(l.getD i default)]) (fun _ => rfl) rfl rfl (by kernel_rfl) rfl rfl (by have := hl23; omega) (by omega) (by decide) (by omega)) rfl (by kernel_rfl) ?_
  refine Zc (slv 3 0 (m + 2) (m + 2)) (Zd (Z7 (Ze (Zm (Zb (Iv (i : Nat)) ?_)))))
  refine Zn (vx := Iv (i : Nat)) (vy := Iv 1) rfl rfl (Iv ((i : Nat) + 1)) rfl rfl (Zbi (by omega) (by omega) (by omega)) ?_
  refine Zc (Iv ((i : Nat) + 1)) (Zd ?_)
  refine Zad ⟨((i + 1), (m + 2), true, ((acc ++ [y]) ++ [(l.getD i default)])), ⟨Zgu (by omega) hA (fun r => by first | exact Zj2 (by assumption) | exact Zj3 (by assumption) (by assumption) | exact Zj4 (by assumption) (by assumption)), by dsimp only; first | (rw [List.length_append, ha]; rfl) | (rw [List.length_append, List.length_append, ha]; rfl), by dsimp only; intro q; first | exact absurd q (by decide) | (have := hm2 (by assumption); omega) | (rw [‹b = true›] at q; cases q), by dsimp only; first | omega | (have := hm2 (by assumption); omega), by dsimp only; omega⟩, by show n - (i + 1) < n - i; omega, ?_⟩
  refine Zau (n := 4) rfl ?_ (by kernel_rfl) (by kernel_rfl)
  repeat (first | exact trivial | refine ⟨.inl rfl, ?_⟩ | refine ⟨.inr ⟨rfl, rfl⟩, ?_⟩ | refine ⟨.inr ⟨congrArg (Value.int .i64) (by first | omega | (dsimp only; omega)), rfl⟩, ?_⟩)
  refine Zz (congrArg Value.bool h11) (Z9 (Ze (Zm (Zb (slv 3 0 m m) (Zb (slv 0 0 n c) (Zb (Iv (i : Nat)) ?_))))))
  refine Zb0 (b := 0) (o := 0) (j := i * 36) (m := n) (c := c) (sz := 36) (i := (i : Nat)) (k := .i64) rfl rfl rfl rfl rfl (by omega) (by omega) (by omega) ?_
  refine Zba (p := pt 0 (i * 36)) (v := Zx (l.getD i default)) rfl rfl rfl (Zcm (n := 0) (m := 36) Zh rfl rfl rfl rfl (by have := hn; omega) (by omega)) ?_
  refine Zgl (vs := [(0, Zx (l.getD i default))]) (v := slv 4 0 1 1) (blk := rwB Zh [(l.getD i default)]) (nid := 4) (H' := [rwR Zh l, bxB 36 (Zr y), bxB 36 (Zr (⟨0, 0, 0, 0, dz⟩ : Claim)), rwB Zh acc, rwB Zh [(l.getD i default)], hole, hole]) rfl rfl rfl (by kernel_rfl) (by kernel_rfl) ?_
  have hl25 : (acc ++ [(l.getD i default)]).length = m + 1 := by have := ha; have := (rfl : _ = 1); first | (rw [List.length_append]; omega) | (rw [List.length_append, List.length_take]; omega) | (simp; omega) | simp
  refine Zc1 (p := slv 3 0 m m) (q := slv 4 0 1 1) (v := slv 3 0 (m + 1) (m + 1)) (b := 3) (blk := rwB Zh (acc ++ [(l.getD i default)])) (H' := [rwR Zh l, bxB 36 (Zr y), bxB 36 (Zr (⟨0, 0, 0, 0, dz⟩ : Claim)), rwB Zh (acc ++ [(l.getD i default)]), rwB Zh [(l.getD i default)], hole, hole]) rfl rfl rfl (.inl ⟨_, rfl⟩) rfl rfl (Zds Zh (by_ := 64) (k := 1) (n' := m + 1) (ms := [(l.getD i default)]) (fun _ => rfl) rfl rfl (by kernel_rfl) rfl rfl (by have := ha; omega) (by omega) (by decide) (by omega)) rfl (by kernel_rfl) ?_
  refine Zc (slv 3 0 (m + 1) (m + 1)) (Zd (Z7 (Ze (Zm (Zb (Iv (i : Nat)) ?_)))))
  refine Zn (vx := Iv (i : Nat)) (vy := Iv 1) rfl rfl (Iv ((i : Nat) + 1)) rfl rfl (Zbi (by omega) (by omega) (by omega)) ?_
  refine Zc (Iv ((i : Nat) + 1)) (Zd ?_)
  refine Zad ⟨((i + 1), (m + 1), b, (acc ++ [(l.getD i default)])), ⟨Zgu (by omega) hA (fun r => by first | exact Zj2 (by assumption) | exact Zj3 (by assumption) (by assumption) | exact Zj4 (by assumption) (by assumption)), by dsimp only; first | (rw [List.length_append, ha]; rfl) | (rw [List.length_append, List.length_append, ha]; rfl), by dsimp only; intro q; first | exact absurd q (by decide) | (have := hm2 (by assumption); omega) | (rw [‹b = true›] at q; cases q), by dsimp only; first | omega | (have := hm2 (by assumption); omega), by dsimp only; omega⟩, by show n - (i + 1) < n - i; omega, ?_⟩
  refine Zau (n := 4) rfl ?_ (by kernel_rfl) (by kernel_rfl)
  repeat (first | exact trivial | refine ⟨.inl rfl, ?_⟩ | refine ⟨.inr ⟨rfl, rfl⟩, ?_⟩ | refine ⟨.inr ⟨congrArg (Value.int .i64) (by first | omega | (dsimp only; omega)), rfl⟩, ?_⟩)
  refine Zn (vx := Iv (i : Nat)) (vy := Iv (n : Nat)) rfl rfl (.bool false) rfl rfl (Zdp (by omega)) ?_
  refine Zd (Ze (Zz rfl (Zez (Zd3 (Zc3 (Zdt rfl (Ze (Zi (Zi (Zm (Zb (.bool b) ?_)))))))))))
  rcases Bool.eq_false_or_eq_true b with h12 | h12
  refine Zcx (vx := .bool b) rfl rfl (.bool false) rfl (Eq.trans Za3 (congrArg (fun b => some (Value.bool !b)) h12)) ?_
  refine Zd (Ze (Zz rfl (Z9 (Ze (Zi (Zm (Zb (slv 3 0 m m) (Zc (slv 3 0 m m) (Zc (Iv 0) (Zd (Ze (Zs (Zq ?_)))))))))))))
  have hrR : Zbw l := of_decide_eq_true (by assumption)
  have hall := Zks (x := y) hrR
  rw [← hA, List.drop_of_length_le (by omega)] at hall
  rw [Zfv, if_pos (by assumption)] at hall
  rw [if_neg (by rw [h3]; decide)] at hall
  rw [show Zae l y = ((acc), 0) from by rw [hall]; exact Zw6 (Zht (of_decide_eq_true (by assumption))) (Ziw (of_decide_eq_true (by assumption))) (by assumption), show (((acc), 0) : List Claim × Int).1.length = m from ha]
  exact Zar [0, 3] (v := .tuple #[slv 3 0 m m, Iv 0]) rfl (by kernel_rfl) rfl rfl (by decide) (by simp [Zbr, rwB, rwR, Zh]) ⟨⟨rfl, rfl, rfl, by first | omega | exact Nat.le_refl _ | exact Nat.zero_le _ | (dsimp only; omega), by first | omega | exact Nat.le_refl _ | exact Nat.zero_le _ | (dsimp only; omega)⟩, rfl, trivial⟩
  refine Zcx (vx := .bool b) rfl rfl (.bool true) rfl (Eq.trans Za3 (congrArg (fun b => some (Value.bool !b)) h12)) ?_
  refine Zd (Ze (Z4 rfl (Zm (Zb (slv 3 0 m m) (Zl (p := pt 1 0) (v := Zx y) ?_)))))
  refine Zgl (vs := [(0, Zx y)]) (v := slv 4 0 1 1) (blk := rwB Zh [y]) (nid := 4) (H' := [rwR Zh l, bxB 36 (Zr y), bxB 36 (Zr (⟨0, 0, 0, 0, dz⟩ : Claim)), rwB Zh acc, rwB Zh [y], hole, hole]) rfl rfl rfl (by kernel_rfl) (by kernel_rfl) ?_
  have hl26 : (acc ++ [y]).length = m + 1 := by have := ha; have := (rfl : _ = 1); first | (rw [List.length_append]; omega) | (rw [List.length_append, List.length_take]; omega) | (simp; omega) | simp
  refine Zc1 (p := slv 3 0 m m) (q := slv 4 0 1 1) (v := slv 3 0 (m + 1) (m + 1)) (b := 3) (blk := rwB Zh (acc ++ [y])) (H' := [rwR Zh l, bxB 36 (Zr y), bxB 36 (Zr (⟨0, 0, 0, 0, dz⟩ : Claim)), rwB Zh (acc ++ [y]), rwB Zh [y], hole, hole]) rfl rfl rfl (.inl ⟨_, rfl⟩) rfl rfl (Zds Zh (by_ := 64) (k := 1) (n' := m + 1) (ms := [y]) (fun _ => rfl) rfl rfl (by kernel_rfl) rfl rfl (by have := ha; omega) (by omega) (by decide) (by omega)) rfl (by kernel_rfl) ?_
  refine Zc (slv 3 0 (m + 1) (m + 1)) (Zd (Ze (Zi (Zm (Zb (slv 3 0 (m + 1) (m + 1)) (Zc (slv 3 0 (m + 1) (m + 1)) (Zc (Iv 0) (Zd (Ze (Zs (Zq ?_)))))))))))
  have hrR : Zbw l := of_decide_eq_true (by assumption)
  have hall := Zks (x := y) hrR
  rw [← hA, List.drop_of_length_le (by omega)] at hall
  rw [Zfv, if_neg (by rw [‹b = false›]; decide)] at hall
  rw [if_neg (by rw [h3]; decide)] at hall
  rw [show Zae l y = ((acc ++ [y]), 0) from by rw [hall]; exact Zw6 (Zht (of_decide_eq_true (by assumption))) (Ziw (of_decide_eq_true (by assumption))) (by assumption), show (((acc ++ [y]), 0) : List Claim × Int).1.length = m + 1 from by rw [List.length_append, ha]; rfl]
  exact Zar [0, 3] (v := .tuple #[slv 3 0 (m + 1) (m + 1), Iv 0]) rfl (by kernel_rfl) rfl rfl (by decide) (by simp [Zbr, rwB, rwR, Zh]) ⟨⟨rfl, rfl, rfl, by first | omega | exact Nat.le_refl _ | exact Nat.zero_le _ | (dsimp only; omega), by first | omega | exact Nat.le_refl _ | exact Nat.zero_le _ | (dsimp only; omega)⟩, rfl, trivial⟩
  refine Zcx (vx := .bool (decide (Zaz y))) rfl rfl (.bool true) rfl (Eq.trans Za3 (congrArg (fun b => some (Value.bool !b)) h2)) ?_
  refine Zg (.bool true) (Zd (Ze (Z4 rfl (Zi (Zm (Zc (.slice none 0 0) (Zc (Iv 110) (Zd (Ze ?_)))))))))
  refine Zbh (Zbz.nilTmp (i := 4) (b := 2) true 36 rfl (by decide) rfl) ?_
  refine Zs (Zv (Zq ?_))
  rw [show Zae l y = ([], 110) from Zuc (fun q => by first | exact absurd (Zf8 q.1) (of_decide_eq_false (by assumption)) | exact absurd (Zj9 q.2) (of_decide_eq_false (by assumption)))]
  exact Zar [0, 2] (v := .tuple #[slv 2 0 0 0, Iv 110]) rfl (by kernel_rfl) rfl rfl (by decide) (by simp [Zbr, rwB, rwR, Zh]) ⟨⟨rfl, rfl, rfl, by first | omega | exact Nat.le_refl _ | exact Nat.zero_le _ | (dsimp only; omega), by first | omega | exact Nat.le_refl _ | exact Nat.zero_le _ | (dsimp only; omega)⟩, rfl, trivial⟩
  refine Zcx (vx := .bool (decide (Zbw l))) rfl rfl (.bool true) rfl (Eq.trans Za3 (congrArg (fun b => some (Value.bool !b)) h1)) ?_
  refine Zb (.bool true) (Za (Za (Za (Zg (.bool true) (Zd (Ze (Z4 rfl (Zi (Zm (Zc (.slice none 0 0) (Zc (Iv 110) (Zd (Ze ?_)))))))))))))
  refine Zbh (Zbz.nilTmp (i := 4) (b := 2) true 36 rfl (by decide) rfl) ?_
  refine Zs (Zv (Zq ?_))
  rw [show Zae l y = ([], 110) from Zuc (fun q => by first | exact absurd (Zf8 q.1) (of_decide_eq_false (by assumption)) | exact absurd (Zj9 q.2) (of_decide_eq_false (by assumption)))]
  exact Zar [0, 2] (v := .tuple #[slv 2 0 0 0, Iv 110]) rfl (by kernel_rfl) rfl rfl (by decide) (by simp [Zbr, rwB, rwR, Zh]) ⟨⟨rfl, rfl, rfl, by first | omega | exact Nat.le_refl _ | exact Nat.zero_le _ | (dsimp only; omega), by first | omega | exact Nat.le_refl _ | exact Nat.zero_le _ | (dsimp only; omega)⟩, rfl, trivial⟩
end Go.Flat
