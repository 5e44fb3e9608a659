/- Walks. -/
import Derived.Test.YtoafdomlefoenaaN4
set_option linter.unusedVariables false
set_option linter.unusedSimpArgs false
set_option maxRecDepth 20000
namespace Go.Flat
open Go.Proofs
variable {G : Glob}
def zI : Item := (⟨0, (⟨0, 0, 0, ⟨#[]⟩, (⟨(⟨0, 0, 0, dz, 0⟩ : Head), 0, dz⟩ : Signed), (⟨0, 0, 0, 0, dz⟩ : Claim)⟩ : Entry)⟩ : Item)
def zC : Claim := (⟨0, 0, 0, 0, dz⟩ : Claim)
def Zjc (k : Kept) (r : Rec) : Bool := Zgk k.items || (decide (60 < k.claims.length) || (Zgk r.items || decide (1000 < r.item.entry.text.size)))
theorem Zn4 {k : Kept} {r : Rec} (h : Zgk k.items = true ∨ 60 < k.claims.length ∨ Zgk r.items = true ∨ 1000 < r.item.entry.text.size) : Zjc k r = true := by
 unfold Zjc
 simp only [Bool.or_eq_true, decide_eq_true_eq]; exact h
theorem Zyk {k : Kept} {r : Rec} (h1 : Zgk k.items = false) (h2 : ¬ 60 < k.claims.length) (h3 : Zgk r.items = false) (h4 : ¬ 1000 < r.item.entry.text.size) : Zjc k r = false := by
 unfold Zjc; rw [h1, decide_eq_false h2, h3, decide_eq_false h4]; rfl
theorem Zwo {k : Kept} {r : Rec} (h : Zjc k r = false) : k.items.length ≤ 60 ∧ k.claims.length ≤ 60 ∧ r.items.length ≤ 60 := by
 unfold Zjc Zgk at h
 simp only [Bool.or_eq_false_iff, decide_eq_false_iff_not] at h
 exact ⟨by omega, by omega, by omega⟩
theorem Ze7 (k : Kept) : Zdo k k = true := Zxs rfl rfl (Zl4 _) (Zqc _)
def Zcm (ep seq : Int) : Item := (⟨ep, (⟨1, 1, seq, ⟨#[]⟩, (⟨(⟨0, 0, 0, dz, 0⟩ : Head), 0, dz⟩ : Signed), (⟨0, 0, 0, 0, dz⟩ : Claim)⟩ : Entry)⟩ : Item)
def Zbr : Item := (⟨3, (⟨3, 0, 0, ⟨#[]⟩, (⟨(⟨0, 0, 0, dz, 0⟩ : Head), 0, dz⟩ : Signed), (⟨1, 3, 2, 0, dz⟩ : Claim)⟩ : Entry)⟩ : Item)
theorem Zie (k : Kept) (c d : Nat) (hc : k.items.length ≤ c) (hd : k.claims.length ≤ d) (hb : k.items.length ≤ 100000) (hb2 : k.claims.length ≤ 100000) (r : Rec) (p q : Nat) (hp : r.items.length = p) (hq : p ≤ q) (hpb : p ≤ 100000) (hk3 : r.kind ≤ 3) {x : Kept × Int} (hx : Zcw k r = x) : Zas Try.prog G 19 [mxV ([Iv k.epoch, Iv k.log, slv 0 0 k.items.length c, slv 1 0 k.claims.length d]), mxV ([Iv r.kind, Iv r.epoch, Iv r.from_] ++ (Zt r.item ++ ([slv 2 0 p q] ++ (Zo r.claim))))] [rwR Zk k.items, rwR Zh k.claims, rwR Zk r.items] (.tuple #[mxV ([Iv x.1.epoch, Iv x.1.log, slv 3 0 x.1.items.length x.1.items.length, slv 4 0 x.1.claims.length x.1.claims.length]), Iv x.2]) [rwR Zk k.items, rwR Zh k.claims, rwR Zk r.items, rwB Zk x.1.items, rwB Zh x.1.claims] := by
 subst hx; exact Zrx k c d hc hd hb hb2 r p q hp hq hpb hk3
theorem Zw8 : Zcw (⟨1, 1, [], []⟩ : Kept) (⟨2, 0, 0, Zcm 1 1, [], zC⟩ : Rec) = (⟨1, 1, [Zcm 1 1], []⟩, 0) := by kernel_rfl
theorem Zw9 : Zcw (⟨1, 1, [Zcm 1 1], []⟩ : Kept) (⟨1, 3, 0, zI, [], zC⟩ : Rec) = (⟨3, 1, [Zcm 1 1], []⟩, 0) := by kernel_rfl
theorem Zxa : Zcw (⟨3, 1, [Zcm 1 1], []⟩ : Kept) (⟨1, 2, 0, zI, [], zC⟩ : Rec) = (⟨0, 0, [], []⟩, 140) := by kernel_rfl
theorem Zxb : Zcw (⟨3, 1, [Zcm 1 1], []⟩ : Kept) (⟨2, 0, 0, Zcm 3 2, [], zC⟩ : Rec) = (⟨0, 0, [], []⟩, 140) := by kernel_rfl
theorem Zxc : Zcw (⟨3, 1, [Zcm 1 1], []⟩ : Kept) (⟨3, 3, 1, zI, [Zbr], zC⟩ : Rec) = (⟨3, 3, [Zcm 1 1, Zbr], []⟩, 0) := by kernel_rfl
theorem Zxd : Zcw (⟨3, 3, [Zcm 1 1, Zbr], []⟩ : Kept) (⟨3, 4, 0, zI, [], zC⟩ : Rec) = (⟨0, 0, [], []⟩, 140) := by kernel_rfl
theorem Zof (k : Kept) : 0 ≤ (Zgn k).2 := by
 unfold Zgn; show (0 : Int) ≤ ite _ _ _; split <;> decide
theorem Zxx (k : Kept) (r : Rec) : 0 ≤ (Zaf k r).2 := by
 unfold Zaf
 split
 ·split
  ·show (0 : Int) ≤ 140; decide
  ·exact Zof _
 ·split
  ·split
   ·exact Zof _
   ·show (0 : Int) ≤ 140; decide
  ·split
   ·show (0 : Int) ≤ 140; decide
   ·split
    ·show (0 : Int) ≤ 141; decide
    ·exact Zof _
abbrev Y14 (k : Kept) (n : Nat) (c : Nat) (m : Nat) (d : Nat) : Blk := mxB 4 ([Iv k.epoch, Iv k.log, slv 0 0 n c, slv 1 0 m d])
abbrev Y15 (r : Rec) (p : Nat) (q : Nat) : Blk := mxB 150 ([Iv r.kind, Iv r.epoch, Iv r.from_] ++ (Zt r.item ++ ([slv 2 0 p q] ++ (Zo r.claim))))
theorem Zrg (k : Kept) (n c m d : Nat) (hn : k.items.length = n) (hm : k.claims.length = m) (hc : n ≤ c) (hd : m ≤ d) (hb : n ≤ 9223372036854775807) (hb2 : m ≤ 9223372036854775807) (r : Rec) (p q : Nat) (hp : r.items.length = p) (hq : p ≤ q) (hpb : p ≤ 9223372036854775807) : Zas Try.prog G 8 [mxV ([Iv k.epoch, Iv k.log, slv 0 0 n c, slv 1 0 m d]), mxV ([Iv r.kind, Iv r.epoch, Iv r.from_] ++ (Zt r.item ++ ([slv 2 0 p q] ++ (Zo r.claim))))] [rwR Zk k.items, rwR Zh k.claims, rwR Zk r.items] (.bool (Zjc k r)) [rwR Zk k.items, rwR Zh k.claims, rwR Zk r.items] := by
  refine Zcv (fn := Try.f8) (nt := 27) rfl rfl rfl rfl ?_
  refine Zbq 2 (H' := [rwR Zk k.items, rwR Zh k.claims, rwR Zk r.items, hole, hole]) rfl ?_
  refine Zj (Zl (Zbw (v := mxV ([Iv k.epoch, Iv k.log, slv 0 0 n c, slv 1 0 m d])) (b := mxB 4 ([Iv k.epoch, Iv k.log, slv 0 0 n c, slv 1 0 m d])) (nid := 3) (H' := [rwR Zk k.items, rwR Zh k.claims, rwR Zk r.items, Y14 k n c m d, hole]) (Zbw (v := mxV ([Iv r.kind, Iv r.epoch, Iv r.from_] ++ (Zt r.item ++ ([slv 2 0 p q] ++ (Zo r.claim))))) (b := mxB 150 ([Iv r.kind, Iv r.epoch, Iv r.from_] ++ (Zt r.item ++ ([slv 2 0 p q] ++ (Zo r.claim))))) (nid := 4) (H' := [rwR Zk k.items, rwR Zh k.claims, rwR Zk r.items, Y14 k n c m d, Y15 r p q]) (Zc (.bool false) (Ze (Zf (Zj (Zl (Zd (b := 3) (o := 0) (n := 2) (o' := 2) (Zi (p := pt 3 2) (v := slv 0 0 n c) ?_))))))))))
  refine Z2 (e := [some (0, 0)]) (nid := 0) (Znp (G := G) k.items n c hn (by omega) (by omega)) (vals := [slv 0 0 n c]) (v := .bool (Zgk k.items)) (H' := [rwR Zk k.items, rwR Zh k.claims, rwR Zk r.items, Y14 k n c m d, Y15 r p q]) rfl rfl rfl rfl rfl rfl rfl ⟨⟨⟨rfl, rfl, rfl, by first | omega | exact Nat.le_refl _, by first | omega | exact Nat.le_refl _⟩, trivial⟩, ⟨(Zae rfl), trivial⟩, rfl, rfl, rfl⟩ rfl (by kernel_rfl) ?_
  refine Zb (.bool (Zgk k.items)) ?_
  rcases Bool.eq_false_or_eq_true (Zgk k.items) with h1 | h1
  refine Zcz (by exact congrArg (fun b => some (b == false)) h1) rfl ?_
  refine Zcz (by exact congrArg (fun b => some (b == false)) h1) rfl ?_
  refine Zcz (by exact congrArg (fun b => some (b == false)) h1) rfl ?_
  refine Zcz (by exact congrArg (fun b => some (b == false)) h1) rfl ?_
  refine Zfj rfl rfl (.bool true) (by show some (if _ then _ else _) = _; rw [h1] <;> rfl) ?_
  refine Zb (.bool true) (Za (Za (Za (Zg (.bool true) (Zb (.bool true) (Za (Za (Za (Za (Za (Za (Zg (.bool true) (Zc (.bool true) (Ze (Zf (Zq (Zp ?_)))))))))))))))))
  rw [show Zjc k r = true from Zn4 (by first | exact .inl (by assumption) | exact .inr (.inl (by omega)) | exact .inr (.inr (.inl (by assumption))) | exact .inr (.inr (.inr (by omega))))]
  exact Zm (v := .bool true) rfl rfl rfl (by kernel_rfl) rfl
  refine Zbu (b := 3) (o := 0) (n := 3) (o' := 3) (by exact congrArg (fun b => some (b == false)) h1) rfl rfl rfl rfl ?_
  refine Zcp (p := pt 3 3) (v := slv 1 0 m d) (by exact congrArg (fun b => some (b == false)) h1) rfl rfl (by kernel_rfl) ?_
  refine Zv3 (p := slv 1 0 m d) (v := Iv (m : Nat)) (by exact congrArg (fun b => some (b == false)) h1) rfl rfl rfl ?_
  by_cases h2 : 60 < (m : Nat)
  refine Zn (vx := Iv (m : Nat)) (vy := Iv 60) (by exact congrArg (fun b => some (b == false)) h1) rfl (.bool true) rfl rfl (Zhz (by omega)) ?_
  refine Zfj rfl rfl (.bool true) (by show some (if _ then _ else _) = _; rw [h1] <;> rfl) ?_
  refine Zb (.bool true) (Za (Za (Za (Zg (.bool true) (Zb (.bool true) (Za (Za (Za (Za (Za (Za (Zg (.bool true) (Zc (.bool true) (Ze (Zf (Zq (Zp ?_)))))))))))))))))
  rw [show Zjc k r = true from Zn4 (by first | exact .inl (by assumption) | exact .inr (.inl (by omega)) | exact .inr (.inr (.inl (by assumption))) | exact .inr (.inr (.inr (by omega))))]
  exact Zm (v := .bool true) rfl rfl rfl (by kernel_rfl) rfl
  refine Zn (vx := Iv (m : Nat)) (vy := Iv 60) (by exact congrArg (fun b => some (b == false)) h1) rfl (.bool false) rfl rfl (Zhy (by omega)) ?_
  refine Zfj rfl rfl (.bool false) (by show some (if _ then _ else _) = _; rw [h1] <;> rfl) ?_
  refine Zb (.bool false) (Zd (b := 4) (o := 0) (n := 113) (o' := 113) (Zi (p := pt 4 113) (v := slv 2 0 p q) ?_))
  refine Z2 (e := [some (2, 0)]) (nid := 0) (Znp (G := G) r.items p q hp (by omega) (by omega)) (vals := [slv 2 0 p q]) (v := .bool (Zgk r.items)) (H' := [rwR Zk k.items, rwR Zh k.claims, rwR Zk r.items, Y14 k n c m d, Y15 r p q]) rfl rfl rfl rfl rfl rfl rfl ⟨⟨⟨rfl, rfl, rfl, by first | omega | exact Nat.le_refl _, by first | omega | exact Nat.le_refl _⟩, trivial⟩, ⟨(Zae rfl), trivial⟩, rfl, rfl, rfl⟩ rfl (by kernel_rfl) ?_
  refine Zg (.bool (Zgk r.items)) (Zb (.bool (Zgk r.items)) ?_)
  rcases Bool.eq_false_or_eq_true (Zgk r.items) with h3 | h3
  refine Zcz (by exact congrArg (fun b => some (b == false)) h3) rfl ?_
  refine Zcz (by exact congrArg (fun b => some (b == false)) h3) rfl ?_
  refine Zcz (by exact congrArg (fun b => some (b == false)) h3) rfl ?_
  refine Zcz (by exact congrArg (fun b => some (b == false)) h3) rfl ?_
  refine Zcz (by exact congrArg (fun b => some (b == false)) h3) rfl ?_
  refine Zcz (by exact congrArg (fun b => some (b == false)) h3) rfl ?_
  refine Zfj rfl rfl (.bool true) (by show some (if _ then _ else _) = _; rw [h3] <;> rfl) ?_
  refine Zc (.bool true) (Ze (Zf (Zq (Zp ?_))))
  rw [show Zjc k r = true from Zn4 (by first | exact .inl (by assumption) | exact .inr (.inl (by omega)) | exact .inr (.inr (.inl (by assumption))) | exact .inr (.inr (.inr (by omega))))]
  exact Zm (v := .bool true) rfl rfl rfl (by kernel_rfl) rfl
  refine Zbu (b := 4) (o := 0) (n := 3) (o' := 3) (by exact congrArg (fun b => some (b == false)) h3) rfl rfl rfl rfl ?_
  refine Zbu (b := 4) (o := 3) (n := 1) (o' := 4) (by exact congrArg (fun b => some (b == false)) h3) rfl rfl rfl rfl ?_
  refine Zbu (b := 4) (o := 4) (n := 3) (o' := 7) (by exact congrArg (fun b => some (b == false)) h3) rfl rfl rfl rfl ?_
  refine Zcp (p := pt 4 7) (v := .string r.item.entry.text) (by exact congrArg (fun b => some (b == false)) h3) rfl rfl (by kernel_rfl) ?_
  refine Zv3 (p := .string r.item.entry.text) (v := Iv (r.item.entry.text.size : Nat)) (by exact congrArg (fun b => some (b == false)) h3) rfl rfl rfl ?_
  by_cases h4 : 1000 < (r.item.entry.text.size : Nat)
  refine Zn (vx := Iv (r.item.entry.text.size : Nat)) (vy := Iv 1000) (by exact congrArg (fun b => some (b == false)) h3) rfl (.bool true) rfl rfl (Zhz (by omega)) ?_
  refine Zfj rfl rfl (.bool true) (by show some (if _ then _ else _) = _; rw [h3] <;> rfl) ?_
  refine Zc (.bool true) (Ze (Zf (Zq (Zp ?_))))
  rw [show Zjc k r = true from Zn4 (by first | exact .inl (by assumption) | exact .inr (.inl (by omega)) | exact .inr (.inr (.inl (by assumption))) | exact .inr (.inr (.inr (by omega))))]
  exact Zm (v := .bool true) rfl rfl rfl (by kernel_rfl) rfl
  refine Zn (vx := Iv (r.item.entry.text.size : Nat)) (vy := Iv 1000) (by exact congrArg (fun b => some (b == false)) h3) rfl (.bool false) rfl rfl (Zhy (by omega)) ?_
  refine Zfj rfl rfl (.bool false) (by show some (if _ then _ else _) = _; rw [h3] <;> rfl) ?_
  refine Zc (.bool false) (Ze (Zf (Zq (Zp ?_))))
  rw [show Zjc k r = false from Zyk (by assumption) (by omega) (by assumption) (by omega)]
  exact Zm (v := .bool false) rfl rfl rfl (by kernel_rfl) rfl
theorem Zt8 (ep seq : Int) : Zas Try.prog G 48 [Iv ep, Iv seq] [] (Zan (Zcm ep seq)) [] := by
 refine Zcv (fn := Try.f48) (nt := 9) rfl rfl rfl rfl ?_
 refine Zbq 1 (H' := [hole]) rfl ?_
 refine Zj (Zl (Za4 (b := bxB 110 (Zt (⟨0, (⟨0, 0, 0, ⟨#[]⟩, (⟨(⟨0, 0, 0, dz, 0⟩ : Head), 0, dz⟩ : Signed), (⟨0, 0, 0, 0, dz⟩ : Claim)⟩ : Entry)⟩ : Item))) (nid := 0) (H' := [bxB 110 (Zt (⟨0, (⟨0, 0, 0, ⟨#[]⟩, (⟨(⟨0, 0, 0, dz, 0⟩ : Head), 0, dz⟩ : Signed), (⟨0, 0, 0, 0, dz⟩ : Claim)⟩ : Entry)⟩ : Item))]) (Ze (Zf (Zj (Zl (Zb (Iv ep) (Zb (Iv seq) ?_))))))))
 refine Zbg (vs := [(0, Iv 1), (1, Iv 1), (2, Iv seq)]) (v := Zdc (⟨1, 1, seq, ⟨#[]⟩, (⟨(⟨0, 0, 0, dz, 0⟩ : Head), 0, dz⟩ : Signed), (⟨0, 0, 0, 0, dz⟩ : Claim)⟩ : Entry)) rfl rfl rfl (by kernel_rfl) ?_
 refine Zbg (vs := [(0, Iv ep), (1, Zdc (⟨1, 1, seq, ⟨#[]⟩, (⟨(⟨0, 0, 0, dz, 0⟩ : Head), 0, dz⟩ : Signed), (⟨0, 0, 0, 0, dz⟩ : Claim)⟩ : Entry))]) (v := Zan (⟨ep, (⟨1, 1, seq, ⟨#[]⟩, (⟨(⟨0, 0, 0, dz, 0⟩ : Head), 0, dz⟩ : Signed), (⟨0, 0, 0, 0, dz⟩ : Claim)⟩ : Entry)⟩ : Item)) rfl rfl rfl (by kernel_rfl) ?_
 refine Zy (p := pt 0 0) (v := Zan (⟨ep, (⟨1, 1, seq, ⟨#[]⟩, (⟨(⟨0, 0, 0, dz, 0⟩ : Head), 0, dz⟩ : Signed), (⟨0, 0, 0, 0, dz⟩ : Claim)⟩ : Entry)⟩ : Item)) (b := 0) (blk := bxB 110 (Zt (⟨ep, (⟨1, 1, seq, ⟨#[]⟩, (⟨(⟨0, 0, 0, dz, 0⟩ : Head), 0, dz⟩ : Signed), (⟨0, 0, 0, 0, dz⟩ : Claim)⟩ : Entry)⟩ : Item))) (H' := [bxB 110 (Zt (⟨ep, (⟨1, 1, seq, ⟨#[]⟩, (⟨(⟨0, 0, 0, dz, 0⟩ : Head), 0, dz⟩ : Signed), (⟨0, 0, 0, 0, dz⟩ : Claim)⟩ : Entry)⟩ : Item))]) (Ze (Zf (Zq (Zp ?_))))
 exact Zm (v := Zan (⟨ep, (⟨1, 1, seq, ⟨#[]⟩, (⟨(⟨0, 0, 0, dz, 0⟩ : Head), 0, dz⟩ : Signed), (⟨0, 0, 0, 0, dz⟩ : Claim)⟩ : Entry)⟩ : Item)) (by kernel_rfl) rfl rfl (by kernel_rfl) (Zj6 (by kernel_rfl) rfl)
theorem Znf (ep seq : Int) : Zas Try.prog G 30 [Iv ep, Iv seq] [] (mxV ([Iv 2, Iv 0, Iv 0] ++ (Zt (Zcm ep seq) ++ ([.slice none 0 0] ++ (Zo (⟨0, 0, 0, 0, dz⟩ : Claim)))))) [] := by
 refine Zcv (fn := Try.f30) (nt := 9) rfl rfl rfl rfl ?_
 refine Zbq 1 (H' := [hole]) rfl ?_
 refine Zj (Zl (Za4 (b := mxB 150 ([Iv 0, Iv 0, Iv 0] ++ (Zt (⟨0, (⟨0, 0, 0, ⟨#[]⟩, (⟨(⟨0, 0, 0, dz, 0⟩ : Head), 0, dz⟩ : Signed), (⟨0, 0, 0, 0, dz⟩ : Claim)⟩ : Entry)⟩ : Item) ++ ([.slice none 0 0] ++ (Zo (⟨0, 0, 0, 0, dz⟩ : Claim)))))) (nid := 0) (H' := [mxB 150 ([Iv 0, Iv 0, Iv 0] ++ (Zt (⟨0, (⟨0, 0, 0, ⟨#[]⟩, (⟨(⟨0, 0, 0, dz, 0⟩ : Head), 0, dz⟩ : Signed), (⟨0, 0, 0, 0, dz⟩ : Claim)⟩ : Entry)⟩ : Item) ++ ([.slice none 0 0] ++ (Zo (⟨0, 0, 0, 0, dz⟩ : Claim)))))]) (Ze (Zf (Zj (Zl (Zb (Iv ep) (Zb (Iv seq) ?_))))))))
 refine Zs (Zt8 (G := G) ep seq) (vals := [Iv ep, Iv seq]) (res' := Zan (Zcm ep seq)) rfl rfl rfl rfl rfl rfl ?_
 refine Zbg (vs := [(0, Iv 2), (3, Zan (Zcm ep seq))]) (v := mxV ([Iv 2, Iv 0, Iv 0] ++ (Zt (Zcm ep seq) ++ ([.slice none 0 0] ++ (Zo (⟨0, 0, 0, 0, dz⟩ : Claim)))))) rfl rfl rfl (by kernel_rfl) ?_
 refine Zy (p := pt 0 0) (v := mxV ([Iv 2, Iv 0, Iv 0] ++ (Zt (Zcm ep seq) ++ ([.slice none 0 0] ++ (Zo (⟨0, 0, 0, 0, dz⟩ : Claim)))))) (b := 0) (blk := mxB 150 ([Iv 2, Iv 0, Iv 0] ++ (Zt (Zcm ep seq) ++ ([.slice none 0 0] ++ (Zo (⟨0, 0, 0, 0, dz⟩ : Claim)))))) (H' := [mxB 150 ([Iv 2, Iv 0, Iv 0] ++ (Zt (Zcm ep seq) ++ ([.slice none 0 0] ++ (Zo (⟨0, 0, 0, 0, dz⟩ : Claim)))))]) (Ze (Zf (Zq (Zp ?_))))
 exact Zm (v := mxV ([Iv 2, Iv 0, Iv 0] ++ (Zt (Zcm ep seq) ++ ([.slice none 0 0] ++ (Zo (⟨0, 0, 0, 0, dz⟩ : Claim)))))) rfl rfl rfl (by kernel_rfl) (Zj6 (by kernel_rfl) rfl)
abbrev Y16  : Blk := mxB 4 ([Iv 0, Iv 0, .slice none 0 0, .slice none 0 0])
abbrev Y17  : Blk := mxB 4 ([Iv 1, Iv 1, .slice none 0 0, .slice none 0 0])
abbrev Y18  : Blk := rwB Zk [Zcm 1 1]
abbrev Y19  : Blk := mxB 4 ([Iv 1, Iv 1, slv 1 0 1 1, slv 2 0 0 0])
abbrev Y20  : Blk := mxB 4 ([Iv 3, Iv 1, slv 4 0 1 1, slv 5 0 0 0])
abbrev Y21  : Blk := mxB 4 ([Iv 0, Iv 0, slv 7 0 0 0, slv 8 0 0 0])
abbrev Y22  : Blk := mxB 4 ([Iv 0, Iv 0, slv 10 0 0 0, slv 11 0 0 0])
abbrev Y23  : Blk := rwB Zk [Zcm 1 1, Zbr]
abbrev Y24  : Blk := mxB 4 ([Iv 3, Iv 3, slv 15 0 2 2, slv 16 0 0 0])
abbrev Y25  : Blk := mxB 4 ([Iv 0, Iv 0, slv 18 0 0 0, slv 19 0 0 0])
theorem Zf3  : Zas Try.prog G 11 [] [] (.bool true) [] := by
  refine Zcv (fn := Try.f11) (nt := 128) rfl rfl rfl rfl ?_
  refine Zbq 21 (H' := [hole, hole, hole, hole, hole, hole, hole, hole, hole, hole, hole, hole, hole, hole, hole, hole, hole, hole, hole, hole, hole]) rfl ?_
  refine Zj (Zl (Zc (.bool false) (Ze (Zf (Zj (Zl ?_))))))
  refine Zs (Zyi (G := G)) (vals := []) (res' := mxV ([Iv 1, Iv 1, .slice none 0 0, .slice none 0 0])) rfl rfl rfl rfl rfl rfl ?_
  refine Za4 (b := mxB 4 ([Iv 0, Iv 0, .slice none 0 0, .slice none 0 0])) (nid := 0) (H' := [Y16, hole, hole, hole, hole, hole, hole, hole, hole, hole, hole, hole, hole, hole, hole, hole, hole, hole, hole, hole, hole]) (Zy (p := pt 0 0) (v := mxV ([Iv 1, Iv 1, .slice none 0 0, .slice none 0 0])) (b := 0) (blk := mxB 4 ([Iv 1, Iv 1, .slice none 0 0, .slice none 0 0])) (H' := [Y17, hole, hole, hole, hole, hole, hole, hole, hole, hole, hole, hole, hole, hole, hole, hole, hole, hole, hole, hole, hole]) (Ze (Zf (Zj ?_))))
  refine Zdx (by kernel_rfl) ?_
  refine Zi (p := pt 0 0) (v := mxV ([Iv 1, Iv 1, .slice none 0 0, .slice none 0 0])) ?_
  refine Zs (Znf (G := G) 1 1) (vals := [Iv 1, Iv 1]) (res' := mxV ([Iv 2, Iv 0, Iv 0] ++ (Zt (Zcm 1 1) ++ ([.slice none 0 0] ++ (Zo (⟨0, 0, 0, 0, dz⟩ : Claim)))))) rfl rfl rfl rfl rfl rfl ?_
  refine Z2 (e := [none, none, none]) (nid := 1) (Zie (G := G) (⟨1, 1, [], []⟩ : Kept) 0 0 (by decide) (by decide) (by decide) (by decide) (⟨2, 0, 0, (Zcm 1 1), [], (⟨0, 0, 0, 0, dz⟩ : Claim)⟩ : Rec) 0 0 rfl (by decide) (by decide) (show (2 : Int) ≤ 3 by decide) Zw8) (vals := [mxV ([Iv 1, Iv 1, .slice none 0 0, .slice none 0 0]), mxV ([Iv 2, Iv 0, Iv 0] ++ (Zt (Zcm 1 1) ++ ([.slice none 0 0] ++ (Zo (⟨0, 0, 0, 0, dz⟩ : Claim)))))]) (v := .tuple #[mxV ([Iv 1, Iv 1, slv 1 0 1 1, slv 2 0 0 0]), Iv 0]) (H' := [Y17, Y18, rwB Zh [], hole, hole, hole, hole, hole, hole, hole, hole, hole, hole, hole, hole, hole, hole, hole, hole, hole, hole]) rfl rfl rfl rfl rfl rfl rfl ⟨⟨(Z9 (by kernel_rfl) ⟨⟨rfl, rfl⟩, ⟨rfl, rfl⟩, ⟨rfl, rfl, rfl, rfl⟩, ⟨rfl, rfl, rfl, rfl⟩, trivial⟩), (Z9 (by kernel_rfl) (Z0 ⟨⟨rfl, rfl⟩, ⟨rfl, rfl⟩, ⟨rfl, rfl⟩, trivial⟩ (Z0 (Zac (by kernel_rfl)) (Z0 ⟨⟨rfl, rfl, rfl, rfl⟩, trivial⟩ (Zac (by kernel_rfl)))))), trivial⟩, ⟨⟨rfl, rfl, by first | exact Nat.succ_pos _ | (show 0 < _; decide)⟩, ⟨rfl, rfl, by first | exact Nat.succ_pos _ | (show 0 < _; decide)⟩, ⟨rfl, rfl, by first | exact Nat.succ_pos _ | (show 0 < _; decide)⟩, trivial⟩, rfl, rfl, rfl⟩ (by kernel_rfl) (by kernel_rfl) ?_
  refine Zb (.tuple #[mxV ([Iv 1, Iv 1, slv 1 0 1 1, slv 2 0 0 0]), Iv 0]) (Zak (vs := #[mxV ([Iv 1, Iv 1, slv 1 0 1 1, slv 2 0 0 0]), Iv 0]) (v := mxV ([Iv 1, Iv 1, slv 1 0 1 1, slv 2 0 0 0])) (Zak (vs := #[mxV ([Iv 1, Iv 1, slv 1 0 1 1, slv 2 0 0 0]), Iv 0]) (v := Iv 0) (Za4 (b := mxB 4 ([Iv 0, Iv 0, .slice none 0 0, .slice none 0 0])) (nid := 3) (H' := [Y17, Y18, rwB Zh [], Y16, hole, hole, hole, hole, hole, hole, hole, hole, hole, hole, hole, hole, hole, hole, hole, hole, hole]) (Zy (p := pt 3 0) (v := mxV ([Iv 1, Iv 1, slv 1 0 1 1, slv 2 0 0 0])) (b := 3) (blk := mxB 4 ([Iv 1, Iv 1, slv 1 0 1 1, slv 2 0 0 0])) (H' := [Y17, Y18, rwB Zh [], Y19, hole, hole, hole, hole, hole, hole, hole, hole, hole, hole, hole, hole, hole, hole, hole, hole, hole]) (Zc (Iv 0) ?_)))))
  refine Zbh (Zar [[], [], [0, 1], [0, 1, 2], [0, 1, 2, 3], [0, 1, 2, 3], [], [0, 1, 2, 3, 4, 6], [0, 1, 2, 3, 4, 5, 6, 7]] (by kernel_rfl) (by kernel_rfl)) ?_
  refine Zf (Zj (Zl (Zi (p := pt 3 0) (v := mxV ([Iv 1, Iv 1, slv 1 0 1 1, slv 2 0 0 0])) ?_)))
  refine Zbg (vs := [(0, Iv 1), (1, Iv 3)]) (v := mxV ([Iv 1, Iv 3, Iv 0] ++ (Zt (⟨0, (⟨0, 0, 0, ⟨#[]⟩, (⟨(⟨0, 0, 0, dz, 0⟩ : Head), 0, dz⟩ : Signed), (⟨0, 0, 0, 0, dz⟩ : Claim)⟩ : Entry)⟩ : Item) ++ ([.slice none 0 0] ++ (Zo (⟨0, 0, 0, 0, dz⟩ : Claim)))))) rfl rfl rfl (by kernel_rfl) ?_
  refine Z2 (e := [some (1, 0), some (2, 0), none]) (nid := 4) (Zie (G := G) (⟨1, 1, [Zcm 1 1], []⟩ : Kept) 1 0 (by decide) (by decide) (by decide) (by decide) (⟨1, 3, 0, (⟨0, (⟨0, 0, 0, ⟨#[]⟩, (⟨(⟨0, 0, 0, dz, 0⟩ : Head), 0, dz⟩ : Signed), (⟨0, 0, 0, 0, dz⟩ : Claim)⟩ : Entry)⟩ : Item), [], (⟨0, 0, 0, 0, dz⟩ : Claim)⟩ : Rec) 0 0 rfl (by decide) (by decide) (show (1 : Int) ≤ 3 by decide) Zw9) (vals := [mxV ([Iv 1, Iv 1, slv 1 0 1 1, slv 2 0 0 0]), mxV ([Iv 1, Iv 3, Iv 0] ++ (Zt (⟨0, (⟨0, 0, 0, ⟨#[]⟩, (⟨(⟨0, 0, 0, dz, 0⟩ : Head), 0, dz⟩ : Signed), (⟨0, 0, 0, 0, dz⟩ : Claim)⟩ : Entry)⟩ : Item) ++ ([.slice none 0 0] ++ (Zo (⟨0, 0, 0, 0, dz⟩ : Claim)))))]) (v := .tuple #[mxV ([Iv 3, Iv 1, slv 4 0 1 1, slv 5 0 0 0]), Iv 0]) (H' := [Y17, Y18, rwB Zh [], Y19, Y18, rwB Zh [], hole, hole, hole, hole, hole, hole, hole, hole, hole, hole, hole, hole, hole, hole, hole]) rfl rfl rfl rfl rfl rfl rfl ⟨⟨(Z9 (by kernel_rfl) ⟨⟨rfl, rfl⟩, ⟨rfl, rfl⟩, ⟨rfl, rfl, (by first | rfl | omega), by first | omega | exact Nat.le_refl _, by first | omega | exact Nat.le_refl _⟩, ⟨rfl, rfl, (by first | rfl | omega), by first | omega | exact Nat.le_refl _, by first | omega | exact Nat.le_refl _⟩, trivial⟩), (Z9 (by kernel_rfl) (Z0 ⟨⟨rfl, rfl⟩, ⟨rfl, rfl⟩, ⟨rfl, rfl⟩, trivial⟩ (Z0 (Zac (by kernel_rfl)) (Z0 ⟨⟨rfl, rfl, rfl, rfl⟩, trivial⟩ (Zac (by kernel_rfl)))))), trivial⟩, ⟨(Zaa rfl), (Zaa rfl), ⟨rfl, rfl, by first | exact Nat.succ_pos _ | (show 0 < _; decide)⟩, trivial⟩, rfl, rfl, rfl⟩ (by kernel_rfl) (by kernel_rfl) ?_
  refine Zb (.tuple #[mxV ([Iv 3, Iv 1, slv 4 0 1 1, slv 5 0 0 0]), Iv 0]) (Zak (vs := #[mxV ([Iv 3, Iv 1, slv 4 0 1 1, slv 5 0 0 0]), Iv 0]) (v := mxV ([Iv 3, Iv 1, slv 4 0 1 1, slv 5 0 0 0])) (Zak (vs := #[mxV ([Iv 3, Iv 1, slv 4 0 1 1, slv 5 0 0 0]), Iv 0]) (v := Iv 0) (Za4 (b := mxB 4 ([Iv 0, Iv 0, .slice none 0 0, .slice none 0 0])) (nid := 6) (H' := [Y17, Y18, rwB Zh [], Y19, Y18, rwB Zh [], Y16, hole, hole, hole, hole, hole, hole, hole, hole, hole, hole, hole, hole, hole, hole]) (Zy (p := pt 6 0) (v := mxV ([Iv 3, Iv 1, slv 4 0 1 1, slv 5 0 0 0])) (b := 6) (blk := mxB 4 ([Iv 3, Iv 1, slv 4 0 1 1, slv 5 0 0 0])) (H' := [Y17, Y18, rwB Zh [], Y19, Y18, rwB Zh [], Y20, hole, hole, hole, hole, hole, hole, hole, hole, hole, hole, hole, hole, hole, hole]) (Zc (Iv 0) (Ze (Zf (Zj (Zl (Zi (p := pt 6 0) (v := mxV ([Iv 3, Iv 1, slv 4 0 1 1, slv 5 0 0 0])) ?_))))))))))
  refine Zbg (vs := [(0, Iv 1), (1, Iv 2)]) (v := mxV ([Iv 1, Iv 2, Iv 0] ++ (Zt (⟨0, (⟨0, 0, 0, ⟨#[]⟩, (⟨(⟨0, 0, 0, dz, 0⟩ : Head), 0, dz⟩ : Signed), (⟨0, 0, 0, 0, dz⟩ : Claim)⟩ : Entry)⟩ : Item) ++ ([.slice none 0 0] ++ (Zo (⟨0, 0, 0, 0, dz⟩ : Claim)))))) rfl rfl rfl (by kernel_rfl) ?_
  refine Z2 (e := [some (4, 0), some (5, 0), none]) (nid := 7) (Zie (G := G) (⟨3, 1, [Zcm 1 1], []⟩ : Kept) 1 0 (by decide) (by decide) (by decide) (by decide) (⟨1, 2, 0, (⟨0, (⟨0, 0, 0, ⟨#[]⟩, (⟨(⟨0, 0, 0, dz, 0⟩ : Head), 0, dz⟩ : Signed), (⟨0, 0, 0, 0, dz⟩ : Claim)⟩ : Entry)⟩ : Item), [], (⟨0, 0, 0, 0, dz⟩ : Claim)⟩ : Rec) 0 0 rfl (by decide) (by decide) (show (1 : Int) ≤ 3 by decide) Zxa) (vals := [mxV ([Iv 3, Iv 1, slv 4 0 1 1, slv 5 0 0 0]), mxV ([Iv 1, Iv 2, Iv 0] ++ (Zt (⟨0, (⟨0, 0, 0, ⟨#[]⟩, (⟨(⟨0, 0, 0, dz, 0⟩ : Head), 0, dz⟩ : Signed), (⟨0, 0, 0, 0, dz⟩ : Claim)⟩ : Entry)⟩ : Item) ++ ([.slice none 0 0] ++ (Zo (⟨0, 0, 0, 0, dz⟩ : Claim)))))]) (v := .tuple #[mxV ([Iv 0, Iv 0, slv 7 0 0 0, slv 8 0 0 0]), Iv 140]) (H' := [Y17, Y18, rwB Zh [], Y19, Y18, rwB Zh [], Y20, rwB Zk [], rwB Zh [], hole, hole, hole, hole, hole, hole, hole, hole, hole, hole, hole, hole]) rfl rfl rfl rfl rfl rfl rfl ⟨⟨(Z9 (by kernel_rfl) ⟨⟨rfl, rfl⟩, ⟨rfl, rfl⟩, ⟨rfl, rfl, (by first | rfl | omega), by first | omega | exact Nat.le_refl _, by first | omega | exact Nat.le_refl _⟩, ⟨rfl, rfl, (by first | rfl | omega), by first | omega | exact Nat.le_refl _, by first | omega | exact Nat.le_refl _⟩, trivial⟩), (Z9 (by kernel_rfl) (Z0 ⟨⟨rfl, rfl⟩, ⟨rfl, rfl⟩, ⟨rfl, rfl⟩, trivial⟩ (Z0 (Zac (by kernel_rfl)) (Z0 ⟨⟨rfl, rfl, rfl, rfl⟩, trivial⟩ (Zac (by kernel_rfl)))))), trivial⟩, ⟨(Zaa rfl), (Zaa rfl), ⟨rfl, rfl, by first | exact Nat.succ_pos _ | (show 0 < _; decide)⟩, trivial⟩, rfl, rfl, rfl⟩ (by kernel_rfl) (by kernel_rfl) ?_
  refine Zb (.tuple #[mxV ([Iv 0, Iv 0, slv 7 0 0 0, slv 8 0 0 0]), Iv 140]) (Zak (vs := #[mxV ([Iv 0, Iv 0, slv 7 0 0 0, slv 8 0 0 0]), Iv 140]) (v := mxV ([Iv 0, Iv 0, slv 7 0 0 0, slv 8 0 0 0])) (Zak (vs := #[mxV ([Iv 0, Iv 0, slv 7 0 0 0, slv 8 0 0 0]), Iv 140]) (v := Iv 140) (Za4 (b := mxB 4 ([Iv 0, Iv 0, .slice none 0 0, .slice none 0 0])) (nid := 9) (H' := [Y17, Y18, rwB Zh [], Y19, Y18, rwB Zh [], Y20, rwB Zk [], rwB Zh [], Y16, hole, hole, hole, hole, hole, hole, hole, hole, hole, hole, hole]) (Zy (p := pt 9 0) (v := mxV ([Iv 0, Iv 0, slv 7 0 0 0, slv 8 0 0 0])) (b := 9) (blk := mxB 4 ([Iv 0, Iv 0, slv 7 0 0 0, slv 8 0 0 0])) (H' := [Y17, Y18, rwB Zh [], Y19, Y18, rwB Zh [], Y20, rwB Zk [], rwB Zh [], Y21, hole, hole, hole, hole, hole, hole, hole, hole, hole, hole, hole]) (Zc (Iv 140) (Ze (Zf (Zj ?_))))))))
  refine Zdx (by kernel_rfl) ?_
  refine Zi (p := pt 6 0) (v := mxV ([Iv 3, Iv 1, slv 4 0 1 1, slv 5 0 0 0])) ?_
  refine Zs (Znf (G := G) 3 2) (vals := [Iv 3, Iv 2]) (res' := mxV ([Iv 2, Iv 0, Iv 0] ++ (Zt (Zcm 3 2) ++ ([.slice none 0 0] ++ (Zo (⟨0, 0, 0, 0, dz⟩ : Claim)))))) rfl rfl rfl rfl rfl rfl ?_
  refine Z2 (e := [some (4, 0), some (5, 0), none]) (nid := 10) (Zie (G := G) (⟨3, 1, [Zcm 1 1], []⟩ : Kept) 1 0 (by decide) (by decide) (by decide) (by decide) (⟨2, 0, 0, (Zcm 3 2), [], (⟨0, 0, 0, 0, dz⟩ : Claim)⟩ : Rec) 0 0 rfl (by decide) (by decide) (show (2 : Int) ≤ 3 by decide) Zxb) (vals := [mxV ([Iv 3, Iv 1, slv 4 0 1 1, slv 5 0 0 0]), mxV ([Iv 2, Iv 0, Iv 0] ++ (Zt (Zcm 3 2) ++ ([.slice none 0 0] ++ (Zo (⟨0, 0, 0, 0, dz⟩ : Claim)))))]) (v := .tuple #[mxV ([Iv 0, Iv 0, slv 10 0 0 0, slv 11 0 0 0]), Iv 140]) (H' := [Y17, Y18, rwB Zh [], Y19, Y18, rwB Zh [], Y20, rwB Zk [], rwB Zh [], Y21, rwB Zk [], rwB Zh [], hole, hole, hole, hole, hole, hole, hole, hole, hole]) rfl rfl rfl rfl rfl rfl rfl ⟨⟨(Z9 (by kernel_rfl) ⟨⟨rfl, rfl⟩, ⟨rfl, rfl⟩, ⟨rfl, rfl, (by first | rfl | omega), by first | omega | exact Nat.le_refl _, by first | omega | exact Nat.le_refl _⟩, ⟨rfl, rfl, (by first | rfl | omega), by first | omega | exact Nat.le_refl _, by first | omega | exact Nat.le_refl _⟩, trivial⟩), (Z9 (by kernel_rfl) (Z0 ⟨⟨rfl, rfl⟩, ⟨rfl, rfl⟩, ⟨rfl, rfl⟩, trivial⟩ (Z0 (Zac (by kernel_rfl)) (Z0 ⟨⟨rfl, rfl, rfl, rfl⟩, trivial⟩ (Zac (by kernel_rfl)))))), trivial⟩, ⟨(Zaa rfl), (Zaa rfl), ⟨rfl, rfl, by first | exact Nat.succ_pos _ | (show 0 < _; decide)⟩, trivial⟩, rfl, rfl, rfl⟩ (by kernel_rfl) (by kernel_rfl) ?_
  refine Zb (.tuple #[mxV ([Iv 0, Iv 0, slv 10 0 0 0, slv 11 0 0 0]), Iv 140]) (Zak (vs := #[mxV ([Iv 0, Iv 0, slv 10 0 0 0, slv 11 0 0 0]), Iv 140]) (v := mxV ([Iv 0, Iv 0, slv 10 0 0 0, slv 11 0 0 0])) (Zak (vs := #[mxV ([Iv 0, Iv 0, slv 10 0 0 0, slv 11 0 0 0]), Iv 140]) (v := Iv 140) (Za4 (b := mxB 4 ([Iv 0, Iv 0, .slice none 0 0, .slice none 0 0])) (nid := 12) (H' := [Y17, Y18, rwB Zh [], Y19, Y18, rwB Zh [], Y20, rwB Zk [], rwB Zh [], Y21, rwB Zk [], rwB Zh [], Y16, hole, hole, hole, hole, hole, hole, hole, hole]) (Zy (p := pt 12 0) (v := mxV ([Iv 0, Iv 0, slv 10 0 0 0, slv 11 0 0 0])) (b := 12) (blk := mxB 4 ([Iv 0, Iv 0, slv 10 0 0 0, slv 11 0 0 0])) (H' := [Y17, Y18, rwB Zh [], Y19, Y18, rwB Zh [], Y20, rwB Zk [], rwB Zh [], Y21, rwB Zk [], rwB Zh [], Y22, hole, hole, hole, hole, hole, hole, hole, hole]) (Zc (Iv 140) ?_)))))
  refine Zbh (Zar [[], [], [0, 1], [0, 1, 2], [0, 1, 2, 3], [0, 1, 2, 3], [], [0, 1, 2, 3, 4, 6], [0, 1, 2, 3, 4, 5, 6, 7]] (by kernel_rfl) (by kernel_rfl)) ?_
  refine Zf (Zj (Zl ?_))
  refine Zbg (vs := [(0, Iv 1), (1, Iv 3), (2, Iv 2)]) (v := Zv (⟨1, 3, 2, 0, dz⟩ : Claim)) rfl rfl rfl (by kernel_rfl) ?_
  refine Zbg (vs := [(0, Iv 3), (5, Zv (⟨1, 3, 2, 0, dz⟩ : Claim))]) (v := Zdc (⟨3, 0, 0, ⟨#[]⟩, (⟨(⟨0, 0, 0, dz, 0⟩ : Head), 0, dz⟩ : Signed), (⟨1, 3, 2, 0, dz⟩ : Claim)⟩ : Entry)) rfl rfl rfl (by kernel_rfl) ?_
  refine Zbg (vs := [(0, Iv 3), (1, Zdc (⟨3, 0, 0, ⟨#[]⟩, (⟨(⟨0, 0, 0, dz, 0⟩ : Head), 0, dz⟩ : Signed), (⟨1, 3, 2, 0, dz⟩ : Claim)⟩ : Entry))]) (v := Zan (⟨3, (⟨3, 0, 0, ⟨#[]⟩, (⟨(⟨0, 0, 0, dz, 0⟩ : Head), 0, dz⟩ : Signed), (⟨1, 3, 2, 0, dz⟩ : Claim)⟩ : Entry)⟩ : Item)) rfl rfl rfl (by kernel_rfl) ?_
  refine Za4 (b := bxB 110 (Zt (⟨0, (⟨0, 0, 0, ⟨#[]⟩, (⟨(⟨0, 0, 0, dz, 0⟩ : Head), 0, dz⟩ : Signed), (⟨0, 0, 0, 0, dz⟩ : Claim)⟩ : Entry)⟩ : Item))) (nid := 13) (H' := [Y17, Y18, rwB Zh [], Y19, Y18, rwB Zh [], Y20, rwB Zk [], rwB Zh [], Y21, rwB Zk [], rwB Zh [], Y22, bxB 110 (Zt (⟨0, (⟨0, 0, 0, ⟨#[]⟩, (⟨(⟨0, 0, 0, dz, 0⟩ : Head), 0, dz⟩ : Signed), (⟨0, 0, 0, 0, dz⟩ : Claim)⟩ : Entry)⟩ : Item)), hole, hole, hole, hole, hole, hole, hole]) (Zy (p := pt 13 0) (v := Zan (⟨3, (⟨3, 0, 0, ⟨#[]⟩, (⟨(⟨0, 0, 0, dz, 0⟩ : Head), 0, dz⟩ : Signed), (⟨1, 3, 2, 0, dz⟩ : Claim)⟩ : Entry)⟩ : Item)) (b := 13) (blk := bxB 110 (Zt (⟨3, (⟨3, 0, 0, ⟨#[]⟩, (⟨(⟨0, 0, 0, dz, 0⟩ : Head), 0, dz⟩ : Signed), (⟨1, 3, 2, 0, dz⟩ : Claim)⟩ : Entry)⟩ : Item))) (H' := [Y17, Y18, rwB Zh [], Y19, Y18, rwB Zh [], Y20, rwB Zk [], rwB Zh [], Y21, rwB Zk [], rwB Zh [], Y22, bxB 110 (Zt (⟨3, (⟨3, 0, 0, ⟨#[]⟩, (⟨(⟨0, 0, 0, dz, 0⟩ : Head), 0, dz⟩ : Signed), (⟨1, 3, 2, 0, dz⟩ : Claim)⟩ : Entry)⟩ : Item)), hole, hole, hole, hole, hole, hole, hole]) (Ze (Zf (Zj ?_))))
  refine Zym (H' := [Y17, Y18, rwB Zh [], Y19, Y18, rwB Zh [], Y20, rwB Zk [], rwB Zh [], Y21, rwB Zk [], rwB Zh [], Y22, bxB 110 (Zt Zbr), hole, hole, hole, hole, hole, hole, hole]) rfl ?_
  refine Zl (Zi (p := pt 6 0) (v := mxV ([Iv 3, Iv 1, slv 4 0 1 1, slv 5 0 0 0])) (Zi (p := pt 13 0) (v := Zan Zbr) ?_))
  refine Zp5 (vs := [(0, Zan Zbr)]) (v := slv 14 0 1 1) (blk := rwB Zk [Zbr]) (nid := 14) (H' := [Y17, Y18, rwB Zh [], Y19, Y18, rwB Zh [], Y20, rwB Zk [], rwB Zh [], Y21, rwB Zk [], rwB Zh [], Y22, bxB 110 (Zt Zbr), rwB Zk [Zbr], hole, hole, hole, hole, hole, hole]) rfl rfl rfl (by kernel_rfl) (by kernel_rfl) ?_
  refine Zbg (vs := [(0, Iv 3), (1, Iv 3), (2, Iv 1), (4, slv 14 0 1 1)]) (v := mxV ([Iv 3, Iv 3, Iv 1] ++ (Zt (⟨0, (⟨0, 0, 0, ⟨#[]⟩, (⟨(⟨0, 0, 0, dz, 0⟩ : Head), 0, dz⟩ : Signed), (⟨0, 0, 0, 0, dz⟩ : Claim)⟩ : Entry)⟩ : Item) ++ ([slv 14 0 1 1] ++ (Zo (⟨0, 0, 0, 0, dz⟩ : Claim)))))) rfl rfl rfl (by kernel_rfl) ?_
  refine Z2 (e := [some (4, 0), some (5, 0), some (14, 0)]) (nid := 15) (Zie (G := G) (⟨3, 1, [Zcm 1 1], []⟩ : Kept) 1 0 (by decide) (by decide) (by decide) (by decide) (⟨3, 3, 1, (⟨0, (⟨0, 0, 0, ⟨#[]⟩, (⟨(⟨0, 0, 0, dz, 0⟩ : Head), 0, dz⟩ : Signed), (⟨0, 0, 0, 0, dz⟩ : Claim)⟩ : Entry)⟩ : Item), [Zbr], (⟨0, 0, 0, 0, dz⟩ : Claim)⟩ : Rec) 1 1 rfl (by decide) (by decide) (show (3 : Int) ≤ 3 by decide) Zxc) (vals := [mxV ([Iv 3, Iv 1, slv 4 0 1 1, slv 5 0 0 0]), mxV ([Iv 3, Iv 3, Iv 1] ++ (Zt (⟨0, (⟨0, 0, 0, ⟨#[]⟩, (⟨(⟨0, 0, 0, dz, 0⟩ : Head), 0, dz⟩ : Signed), (⟨0, 0, 0, 0, dz⟩ : Claim)⟩ : Entry)⟩ : Item) ++ ([slv 14 0 1 1] ++ (Zo (⟨0, 0, 0, 0, dz⟩ : Claim)))))]) (v := .tuple #[mxV ([Iv 3, Iv 3, slv 15 0 2 2, slv 16 0 0 0]), Iv 0]) (H' := [Y17, Y18, rwB Zh [], Y19, Y18, rwB Zh [], Y20, rwB Zk [], rwB Zh [], Y21, rwB Zk [], rwB Zh [], Y22, bxB 110 (Zt Zbr), rwB Zk [Zbr], Y23, rwB Zh [], hole, hole, hole, hole]) rfl rfl rfl rfl rfl rfl rfl ⟨⟨(Z9 (by kernel_rfl) ⟨⟨rfl, rfl⟩, ⟨rfl, rfl⟩, ⟨rfl, rfl, (by first | rfl | omega), by first | omega | exact Nat.le_refl _, by first | omega | exact Nat.le_refl _⟩, ⟨rfl, rfl, (by first | rfl | omega), by first | omega | exact Nat.le_refl _, by first | omega | exact Nat.le_refl _⟩, trivial⟩), (Z9 (by kernel_rfl) (Z0 ⟨⟨rfl, rfl⟩, ⟨rfl, rfl⟩, ⟨rfl, rfl⟩, trivial⟩ (Z0 (Zac (by kernel_rfl)) (Z0 ⟨⟨rfl, rfl, (by first | rfl | omega), by first | omega | exact Nat.le_refl _, by first | omega | exact Nat.le_refl _⟩, trivial⟩ (Zac (by kernel_rfl)))))), trivial⟩, ⟨(Zaa rfl), (Zaa rfl), (Zaa rfl), trivial⟩, rfl, rfl, rfl⟩ (by kernel_rfl) (by kernel_rfl) ?_
  refine Zb (.tuple #[mxV ([Iv 3, Iv 3, slv 15 0 2 2, slv 16 0 0 0]), Iv 0]) (Zak (vs := #[mxV ([Iv 3, Iv 3, slv 15 0 2 2, slv 16 0 0 0]), Iv 0]) (v := mxV ([Iv 3, Iv 3, slv 15 0 2 2, slv 16 0 0 0])) (Zak (vs := #[mxV ([Iv 3, Iv 3, slv 15 0 2 2, slv 16 0 0 0]), Iv 0]) (v := Iv 0) (Za4 (b := mxB 4 ([Iv 0, Iv 0, .slice none 0 0, .slice none 0 0])) (nid := 17) (H' := [Y17, Y18, rwB Zh [], Y19, Y18, rwB Zh [], Y20, rwB Zk [], rwB Zh [], Y21, rwB Zk [], rwB Zh [], Y22, bxB 110 (Zt Zbr), rwB Zk [Zbr], Y23, rwB Zh [], Y16, hole, hole, hole]) (Zy (p := pt 17 0) (v := mxV ([Iv 3, Iv 3, slv 15 0 2 2, slv 16 0 0 0])) (b := 17) (blk := mxB 4 ([Iv 3, Iv 3, slv 15 0 2 2, slv 16 0 0 0])) (H' := [Y17, Y18, rwB Zh [], Y19, Y18, rwB Zh [], Y20, rwB Zk [], rwB Zh [], Y21, rwB Zk [], rwB Zh [], Y22, bxB 110 (Zt Zbr), rwB Zk [Zbr], Y23, rwB Zh [], Y24, hole, hole, hole]) (Zc (Iv 0) (Ze (Zf (Zj (Zl (Zi (p := pt 17 0) (v := mxV ([Iv 3, Iv 3, slv 15 0 2 2, slv 16 0 0 0])) ?_))))))))))
  refine Zbg (vs := [(0, Iv 3), (1, Iv 4)]) (v := mxV ([Iv 3, Iv 4, Iv 0] ++ (Zt (⟨0, (⟨0, 0, 0, ⟨#[]⟩, (⟨(⟨0, 0, 0, dz, 0⟩ : Head), 0, dz⟩ : Signed), (⟨0, 0, 0, 0, dz⟩ : Claim)⟩ : Entry)⟩ : Item) ++ ([.slice none 0 0] ++ (Zo (⟨0, 0, 0, 0, dz⟩ : Claim)))))) rfl rfl rfl (by kernel_rfl) ?_
  refine Z2 (e := [some (15, 0), some (16, 0), none]) (nid := 18) (Zie (G := G) (⟨3, 3, [Zcm 1 1, Zbr], []⟩ : Kept) 2 0 (by decide) (by decide) (by decide) (by decide) (⟨3, 4, 0, (⟨0, (⟨0, 0, 0, ⟨#[]⟩, (⟨(⟨0, 0, 0, dz, 0⟩ : Head), 0, dz⟩ : Signed), (⟨0, 0, 0, 0, dz⟩ : Claim)⟩ : Entry)⟩ : Item), [], (⟨0, 0, 0, 0, dz⟩ : Claim)⟩ : Rec) 0 0 rfl (by decide) (by decide) (show (3 : Int) ≤ 3 by decide) Zxd) (vals := [mxV ([Iv 3, Iv 3, slv 15 0 2 2, slv 16 0 0 0]), mxV ([Iv 3, Iv 4, Iv 0] ++ (Zt (⟨0, (⟨0, 0, 0, ⟨#[]⟩, (⟨(⟨0, 0, 0, dz, 0⟩ : Head), 0, dz⟩ : Signed), (⟨0, 0, 0, 0, dz⟩ : Claim)⟩ : Entry)⟩ : Item) ++ ([.slice none 0 0] ++ (Zo (⟨0, 0, 0, 0, dz⟩ : Claim)))))]) (v := .tuple #[mxV ([Iv 0, Iv 0, slv 18 0 0 0, slv 19 0 0 0]), Iv 140]) (H' := [Y17, Y18, rwB Zh [], Y19, Y18, rwB Zh [], Y20, rwB Zk [], rwB Zh [], Y21, rwB Zk [], rwB Zh [], Y22, bxB 110 (Zt Zbr), rwB Zk [Zbr], Y23, rwB Zh [], Y24, rwB Zk [], rwB Zh [], hole]) rfl rfl rfl rfl rfl rfl rfl ⟨⟨(Z9 (by kernel_rfl) ⟨⟨rfl, rfl⟩, ⟨rfl, rfl⟩, ⟨rfl, rfl, (by first | rfl | omega), by first | omega | exact Nat.le_refl _, by first | omega | exact Nat.le_refl _⟩, ⟨rfl, rfl, (by first | rfl | omega), by first | omega | exact Nat.le_refl _, by first | omega | exact Nat.le_refl _⟩, trivial⟩), (Z9 (by kernel_rfl) (Z0 ⟨⟨rfl, rfl⟩, ⟨rfl, rfl⟩, ⟨rfl, rfl⟩, trivial⟩ (Z0 (Zac (by kernel_rfl)) (Z0 ⟨⟨rfl, rfl, rfl, rfl⟩, trivial⟩ (Zac (by kernel_rfl)))))), trivial⟩, ⟨(Zaa rfl), (Zaa rfl), ⟨rfl, rfl, by first | exact Nat.succ_pos _ | (show 0 < _; decide)⟩, trivial⟩, rfl, rfl, rfl⟩ (by kernel_rfl) (by kernel_rfl) ?_
  refine Zb (.tuple #[mxV ([Iv 0, Iv 0, slv 18 0 0 0, slv 19 0 0 0]), Iv 140]) (Zak (vs := #[mxV ([Iv 0, Iv 0, slv 18 0 0 0, slv 19 0 0 0]), Iv 140]) (v := mxV ([Iv 0, Iv 0, slv 18 0 0 0, slv 19 0 0 0])) (Zak (vs := #[mxV ([Iv 0, Iv 0, slv 18 0 0 0, slv 19 0 0 0]), Iv 140]) (v := Iv 140) (Za4 (b := mxB 4 ([Iv 0, Iv 0, .slice none 0 0, .slice none 0 0])) (nid := 20) (H' := [Y17, Y18, rwB Zh [], Y19, Y18, rwB Zh [], Y20, rwB Zk [], rwB Zh [], Y21, rwB Zk [], rwB Zh [], Y22, bxB 110 (Zt Zbr), rwB Zk [Zbr], Y23, rwB Zh [], Y24, rwB Zk [], rwB Zh [], Y16]) (Zy (p := pt 20 0) (v := mxV ([Iv 0, Iv 0, slv 18 0 0 0, slv 19 0 0 0])) (b := 20) (blk := mxB 4 ([Iv 0, Iv 0, slv 18 0 0 0, slv 19 0 0 0])) (H' := [Y17, Y18, rwB Zh [], Y19, Y18, rwB Zh [], Y20, rwB Zk [], rwB Zh [], Y21, rwB Zk [], rwB Zh [], Y22, bxB 110 (Zt Zbr), rwB Zk [Zbr], Y23, rwB Zh [], Y24, rwB Zk [], rwB Zh [], Y25]) (Zc (Iv 140) (Ze (Zf (Zj (Zl (Zi (p := pt 0 0) (v := mxV ([Iv 1, Iv 1, .slice none 0 0, .slice none 0 0])) ?_))))))))))
  refine Z2 (e := [none, none]) (nid := 0) (Zd3 (G := G) (⟨1, 1, [], []⟩ : Kept) 0 0 0 0 rfl rfl (by omega) (by omega) (by omega) (by omega)) (vals := [mxV ([Iv 1, Iv 1, .slice none 0 0, .slice none 0 0])]) (v := Iv 0) (H' := [Y17, Y18, rwB Zh [], Y19, Y18, rwB Zh [], Y20, rwB Zk [], rwB Zh [], Y21, rwB Zk [], rwB Zh [], Y22, bxB 110 (Zt Zbr), rwB Zk [Zbr], Y23, rwB Zh [], Y24, rwB Zk [], rwB Zh [], Y25]) rfl rfl rfl rfl rfl rfl rfl ⟨⟨(Z9 (by kernel_rfl) ⟨⟨rfl, rfl⟩, ⟨rfl, rfl⟩, ⟨rfl, rfl, rfl, rfl⟩, ⟨rfl, rfl, rfl, rfl⟩, trivial⟩), trivial⟩, ⟨⟨rfl, rfl, by first | exact Nat.succ_pos _ | (show 0 < _; decide)⟩, ⟨rfl, rfl, by first | exact Nat.succ_pos _ | (show 0 < _; decide)⟩, trivial⟩, rfl, rfl, rfl⟩ (by kernel_rfl) (by kernel_rfl) ?_
  refine Zn (vx := Iv 0) (vy := Iv 0) rfl rfl (.bool true) rfl rfl (Zav (by omega)) ?_
  refine Zb (.bool true) (Zi (p := pt 0 0) (v := mxV ([Iv 1, Iv 1, .slice none 0 0, .slice none 0 0])) ?_)
  refine Z2 (e := [none, none]) (nid := 0) (Zmx (G := G) (⟨1, 1, [], []⟩ : Kept) 0 0 0 0 rfl rfl (by omega) (by omega) (by omega) (by omega)) (vals := [mxV ([Iv 1, Iv 1, .slice none 0 0, .slice none 0 0])]) (v := Iv 1) (H' := [Y17, Y18, rwB Zh [], Y19, Y18, rwB Zh [], Y20, rwB Zk [], rwB Zh [], Y21, rwB Zk [], rwB Zh [], Y22, bxB 110 (Zt Zbr), rwB Zk [Zbr], Y23, rwB Zh [], Y24, rwB Zk [], rwB Zh [], Y25]) rfl rfl rfl rfl rfl rfl rfl ⟨⟨(Z9 (by kernel_rfl) ⟨⟨rfl, rfl⟩, ⟨rfl, rfl⟩, ⟨rfl, rfl, rfl, rfl⟩, ⟨rfl, rfl, rfl, rfl⟩, trivial⟩), trivial⟩, ⟨⟨rfl, rfl, by first | exact Nat.succ_pos _ | (show 0 < _; decide)⟩, ⟨rfl, rfl, by first | exact Nat.succ_pos _ | (show 0 < _; decide)⟩, trivial⟩, rfl, rfl, rfl⟩ (by kernel_rfl) (by kernel_rfl) ?_
  refine Zn (vx := Iv 1) (vy := Iv 1) rfl rfl (.bool true) rfl rfl (Zav (by omega)) ?_
  refine Zg (.bool true) (Zb (.bool true) (Zb (Iv 0) ?_))
  refine Zn (vx := Iv 0) (vy := Iv 0) rfl rfl (.bool true) rfl rfl (Zav (by omega)) ?_
  refine Zg (.bool true) (Zb (.bool true) (Zd (b := 3) (o := 0) (n := 2) (o' := 2) (Zi (p := pt 3 2) (v := slv 1 0 1 1) (Zba (p := slv 1 0 1 1) (v := Iv 1) ?_))))
  refine Zn (vx := Iv 1) (vy := Iv 1) rfl rfl (.bool true) rfl rfl (Zav (by omega)) ?_
  refine Zg (.bool true) (Zb (.bool true) (Zb (Iv 0) ?_))
  refine Zn (vx := Iv 0) (vy := Iv 0) rfl rfl (.bool true) rfl rfl (Zav (by omega)) ?_
  refine Zg (.bool true) (Zb (.bool true) (Zd (b := 6) (o := 0) (n := 0) (o' := 0) (Zi (p := pt 6 0) (v := Iv 3) ?_)))
  refine Zn (vx := Iv 3) (vy := Iv 3) rfl rfl (.bool true) rfl rfl (Zav (by omega)) ?_
  refine Zg (.bool true) (Zb (.bool true) (Zd (b := 6) (o := 0) (n := 1) (o' := 1) (Zi (p := pt 6 1) (v := Iv 1) ?_)))
  refine Zn (vx := Iv 1) (vy := Iv 1) rfl rfl (.bool true) rfl rfl (Zav (by omega)) ?_
  refine Zg (.bool true) (Zb (.bool true) (Zb (Iv 140) ?_))
  refine Zn (vx := Iv 140) (vy := Iv 140) rfl rfl (.bool true) rfl rfl (Zav (by omega)) ?_
  refine Zg (.bool true) (Zb (.bool true) (Zb (Iv 140) ?_))
  refine Zn (vx := Iv 140) (vy := Iv 140) rfl rfl (.bool true) rfl rfl (Zav (by omega)) ?_
  refine Zg (.bool true) (Zc (.bool true) (Ze (Zf (Zj (Zl (Zb (.bool true) (Zb (.bool true) (Zb (Iv 0) ?_))))))))
  refine Zn (vx := Iv 0) (vy := Iv 0) rfl rfl (.bool true) rfl rfl (Zav (by omega)) ?_
  refine Zg (.bool true) (Zb (.bool true) (Zd (b := 17) (o := 0) (n := 2) (o' := 2) (Zi (p := pt 17 2) (v := slv 15 0 2 2) (Zba (p := slv 15 0 2 2) (v := Iv 2) ?_))))
  refine Zn (vx := Iv 2) (vy := Iv 2) rfl rfl (.bool true) rfl rfl (Zav (by omega)) ?_
  refine Zg (.bool true) (Zb (.bool true) (Zd (b := 17) (o := 0) (n := 1) (o' := 1) (Zi (p := pt 17 1) (v := Iv 3) ?_)))
  refine Zn (vx := Iv 3) (vy := Iv 3) rfl rfl (.bool true) rfl rfl (Zav (by omega)) ?_
  refine Zg (.bool true) (Zb (.bool true) (Zi (p := pt 17 0) (v := mxV ([Iv 3, Iv 3, slv 15 0 2 2, slv 16 0 0 0])) ?_))
  refine Z2 (e := [some (15, 0), some (16, 0)]) (nid := 0) (Zmx (G := G) (⟨3, 3, [Zcm 1 1, Zbr], []⟩ : Kept) 2 2 0 0 (rfl : _ = 2) rfl (by omega) (by omega) (by omega) (by omega)) (vals := [mxV ([Iv 3, Iv 3, slv 15 0 2 2, slv 16 0 0 0])]) (v := Iv 2) (H' := [Y17, Y18, rwB Zh [], Y19, Y18, rwB Zh [], Y20, rwB Zk [], rwB Zh [], Y21, rwB Zk [], rwB Zh [], Y22, bxB 110 (Zt Zbr), rwB Zk [Zbr], Y23, rwB Zh [], Y24, rwB Zk [], rwB Zh [], Y25]) rfl rfl rfl rfl rfl rfl rfl ⟨⟨(Z9 (by kernel_rfl) ⟨⟨rfl, rfl⟩, ⟨rfl, rfl⟩, ⟨rfl, rfl, rfl, by first | omega | exact Nat.le_refl _, by first | omega | exact Nat.le_refl _⟩, ⟨rfl, rfl, rfl, by first | omega | exact Nat.le_refl _, by first | omega | exact Nat.le_refl _⟩, trivial⟩), trivial⟩, ⟨(Zaa rfl), (Zaa rfl), trivial⟩, rfl, rfl, rfl⟩ (by kernel_rfl) (by kernel_rfl) ?_
  refine Zn (vx := Iv 2) (vy := Iv 2) rfl rfl (.bool true) rfl rfl (Zav (by omega)) ?_
  refine Zg (.bool true) (Zb (.bool true) (Zb (Iv 140) ?_))
  refine Zn (vx := Iv 140) (vy := Iv 140) rfl rfl (.bool true) rfl rfl (Zav (by omega)) ?_
  refine Zg (.bool true) (Zb (.bool true) ?_)
  refine Zbg (vs := []) (v := mxV ([Iv 0, Iv 0, .slice none 0 0, .slice none 0 0])) rfl rfl rfl (by kernel_rfl) ?_
  refine Z2 (e := [none, none]) (nid := 0) (Zd3 (G := G) (⟨0, 0, [], []⟩ : Kept) 0 0 0 0 rfl rfl (by omega) (by omega) (by omega) (by omega)) (vals := [mxV ([Iv 0, Iv 0, .slice none 0 0, .slice none 0 0])]) (v := Iv 1) (H' := [Y17, Y18, rwB Zh [], Y19, Y18, rwB Zh [], Y20, rwB Zk [], rwB Zh [], Y21, rwB Zk [], rwB Zh [], Y22, bxB 110 (Zt Zbr), rwB Zk [Zbr], Y23, rwB Zh [], Y24, rwB Zk [], rwB Zh [], Y25]) rfl rfl rfl rfl rfl rfl rfl ⟨⟨(Z9 (by kernel_rfl) ⟨⟨rfl, rfl⟩, ⟨rfl, rfl⟩, ⟨rfl, rfl, rfl, rfl⟩, ⟨rfl, rfl, rfl, rfl⟩, trivial⟩), trivial⟩, ⟨⟨rfl, rfl, by first | exact Nat.succ_pos _ | (show 0 < _; decide)⟩, ⟨rfl, rfl, by first | exact Nat.succ_pos _ | (show 0 < _; decide)⟩, trivial⟩, rfl, rfl, rfl⟩ (by kernel_rfl) (by kernel_rfl) ?_
  refine Zn (vx := Iv 1) (vy := Iv 1) rfl rfl (.bool true) rfl rfl (Zav (by omega)) ?_
  refine Zg (.bool true) (Zc (.bool true) (Ze (Zf (Zq (Zp ?_)))))
  exact Zm (v := .bool true) rfl rfl rfl (by kernel_rfl) rfl
end Go.Flat
