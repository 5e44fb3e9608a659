/- Walks. -/
import Derived.Test.YtoafdomlefoenaaN4
set_option linter.unusedVariables false
set_option linter.unusedSimpArgs false
set_option maxRecDepth 20000
namespace Go.Flat
open Go.Proofs
variable {G : Glob}
def zI : Item := (⟨0, (⟨0, 0, 0, ⟨#[]⟩, (⟨(⟨0, 0, 0, dz, 0⟩ : Head), 0, dz⟩ : Signed), (⟨0, 0, 0, 0, dz⟩ : Claim)⟩ : Entry)⟩ : Item)
def zC : Claim := (⟨0, 0, 0, 0, dz⟩ : Claim)
def Zjg (k : Kept) (r : Rec) : Bool := Zhf k.items || (decide (60 < k.claims.length) || (Zhf r.items || decide (1000 < r.item.entry.text.size)))
theorem Zpe {k : Kept} {r : Rec} (h : Zhf k.items = true ∨ 60 < k.claims.length ∨ Zhf r.items = true ∨ 1000 < r.item.entry.text.size) : Zjg k r = true := by
 unfold Zjg
 simp only [Bool.or_eq_true, decide_eq_true_eq]; exact h
theorem Zzh {k : Kept} {r : Rec} (h1 : Zhf k.items = false) (h2 : ¬ 60 < k.claims.length) (h3 : Zhf r.items = false) (h4 : ¬ 1000 < r.item.entry.text.size) : Zjg k r = false := by
 unfold Zjg; rw [h1, decide_eq_false h2, h3, decide_eq_false h4]; rfl
theorem Zxp {k : Kept} {r : Rec} (h : Zjg k r = false) : k.items.length ≤ 60 ∧ k.claims.length ≤ 60 ∧ r.items.length ≤ 60 := by
 unfold Zjg Zhf at h
 simp only [Bool.or_eq_false_iff, decide_eq_false_iff_not] at h
 exact ⟨by omega, by omega, by omega⟩
theorem Ze3 (k : Kept) : Zd6 k k = true := Zyp rfl rfl (Zna _) (Zro _)
def Zdf (ep seq : Int) : Item := (⟨ep, (⟨1, 1, seq, ⟨#[]⟩, (⟨(⟨0, 0, 0, dz, 0⟩ : Head), 0, dz⟩ : Signed), (⟨0, 0, 0, 0, dz⟩ : Claim)⟩ : Entry)⟩ : Item)
def Zcj : Item := (⟨3, (⟨3, 0, 0, ⟨#[]⟩, (⟨(⟨0, 0, 0, dz, 0⟩ : Head), 0, dz⟩ : Signed), (⟨1, 3, 2, 0, dz⟩ : Claim)⟩ : Entry)⟩ : Item)
theorem Zi4 (k : Kept) (c d : Nat) (hc : k.items.length ≤ c) (hd : k.claims.length ≤ d) (hb : k.items.length ≤ 100000) (hb2 : k.claims.length ≤ 100000) (r : Rec) (p q : Nat) (hp : r.items.length = p) (hq : p ≤ q) (hpb : p ≤ 100000) (hk3 : r.kind ≤ 3) {x : Kept × Int} (hx : Zdu k r = x) : Zat Try.prog G 19 [mxV ([Iv k.epoch, Iv k.log, slv 0 0 k.items.length c, slv 1 0 k.claims.length d]), mxV ([Iv r.kind, Iv r.epoch, Iv r.from_] ++ (Z1 r.item ++ ([slv 2 0 p q] ++ (Zr r.claim))))] [rwR Zj k.items, rwR Zh k.claims, rwR Zj r.items] (.tuple #[mxV ([Iv x.1.epoch, Iv x.1.log, slv 3 0 x.1.items.length x.1.items.length, slv 4 0 x.1.claims.length x.1.claims.length]), Iv x.2]) [rwR Zj k.items, rwR Zh k.claims, rwR Zj r.items, rwB Zj x.1.items, rwB Zh x.1.claims] := by
 subst hx; exact Ztf k c d hc hd hb hb2 r p q hp hq hpb hk3
theorem Zx9 : Zdu (⟨1, 1, [], []⟩ : Kept) (⟨2, 0, 0, Zdf 1 1, [], zC⟩ : Rec) = (⟨1, 1, [Zdf 1 1], []⟩, 0) := by kernel_rfl
theorem Zya : Zdu (⟨1, 1, [Zdf 1 1], []⟩ : Kept) (⟨1, 3, 0, zI, [], zC⟩ : Rec) = (⟨3, 1, [Zdf 1 1], []⟩, 0) := by kernel_rfl
theorem Zyb : Zdu (⟨3, 1, [Zdf 1 1], []⟩ : Kept) (⟨1, 2, 0, zI, [], zC⟩ : Rec) = (⟨0, 0, [], []⟩, 140) := by kernel_rfl
theorem Zyc : Zdu (⟨3, 1, [Zdf 1 1], []⟩ : Kept) (⟨2, 0, 0, Zdf 3 2, [], zC⟩ : Rec) = (⟨0, 0, [], []⟩, 140) := by kernel_rfl
theorem Zyd : Zdu (⟨3, 1, [Zdf 1 1], []⟩ : Kept) (⟨3, 3, 1, zI, [Zcj], zC⟩ : Rec) = (⟨3, 3, [Zdf 1 1, Zcj], []⟩, 0) := by kernel_rfl
theorem Zye : Zdu (⟨3, 3, [Zdf 1 1, Zcj], []⟩ : Kept) (⟨3, 4, 0, zI, [], zC⟩ : Rec) = (⟨0, 0, [], []⟩, 140) := by kernel_rfl
theorem Zpo (k : Kept) : 0 ≤ (Zif k).2 := by
 unfold Zif; show (0 : Int) ≤ ite _ _ _; split <;> decide
theorem Zyv (k : Kept) (r : Rec) : 0 ≤ (Zax k r).2 := by
 unfold Zax
 split
 ·split
  ·show (0 : Int) ≤ 140; decide
  ·exact Zpo _
 ·split
  ·split
   ·exact Zpo _
   ·show (0 : Int) ≤ 140; decide
  ·split
   ·show (0 : Int) ≤ 140; decide
   ·split
    ·show (0 : Int) ≤ 141; decide
    ·exact Zpo _
abbrev Y20 (k : Kept) (n : Nat) (c : Nat) (m : Nat) (d : Nat) : Blk := mxB 4 ([Iv k.epoch, Iv k.log, slv 0 0 n c, slv 1 0 m d])
abbrev Y21 (r : Rec) (p : Nat) (q : Nat) : Blk := mxB 150 ([Iv r.kind, Iv r.epoch, Iv r.from_] ++ (Z1 r.item ++ ([slv 2 0 p q] ++ (Zr r.claim))))
theorem Zss (k : Kept) (n c m d : Nat) (hn : k.items.length = n) (hm : k.claims.length = m) (hc : n ≤ c) (hd : m ≤ d) (hb : n ≤ 9223372036854775807) (hb2 : m ≤ 9223372036854775807) (r : Rec) (p q : Nat) (hp : r.items.length = p) (hq : p ≤ q) (hpb : p ≤ 9223372036854775807) : Zat Try.prog G 8 [mxV ([Iv k.epoch, Iv k.log, slv 0 0 n c, slv 1 0 m d]), mxV ([Iv r.kind, Iv r.epoch, Iv r.from_] ++ (Z1 r.item ++ ([slv 2 0 p q] ++ (Zr r.claim))))] [rwR Zj k.items, rwR Zh k.claims, rwR Zj r.items] (.bool (Zjg k r)) [rwR Zj k.items, rwR Zh k.claims, rwR Zj r.items] := by
  refine Zcg (fn := Try.f8) (nt := 27) rfl rfl rfl rfl ?_
  refine Za8 2 (H' := [rwR Zj k.items, rwR Zh k.claims, rwR Zj r.items, hole, hole]) rfl ?_
  refine Zi (Zm (Zbn (v := mxV ([Iv k.epoch, Iv k.log, slv 0 0 n c, slv 1 0 m d])) (b := mxB 4 ([Iv k.epoch, Iv k.log, slv 0 0 n c, slv 1 0 m d])) (nid := 3) (H' := [rwR Zj k.items, rwR Zh k.claims, rwR Zj r.items, Y20 k n c m d, hole]) (Zbn (v := mxV ([Iv r.kind, Iv r.epoch, Iv r.from_] ++ (Z1 r.item ++ ([slv 2 0 p q] ++ (Zr r.claim))))) (b := mxB 150 ([Iv r.kind, Iv r.epoch, Iv r.from_] ++ (Z1 r.item ++ ([slv 2 0 p q] ++ (Zr r.claim))))) (nid := 4) (H' := [rwR Zj k.items, rwR Zh k.claims, rwR Zj r.items, Y20 k n c m d, Y21 r p q]) (Zc (.bool false) (Zd (Ze (Zi (Zm (Zf (b := 3) (o := 0) (n := 2) (o' := 2) (Zl (p := pt 3 2) (v := slv 0 0 n c) ?_))))))))))
  refine Zab (e := [some (0, 0)]) (nid := 0) (Zow (G := G) k.items n c hn (by omega) (by omega)) (vals := [slv 0 0 n c]) (v := .bool (Zhf k.items)) (H' := [rwR Zj k.items, rwR Zh k.claims, rwR Zj r.items, Y20 k n c m d, Y21 r p q]) rfl rfl rfl rfl rfl rfl rfl ⟨⟨⟨rfl, rfl, rfl, by first | omega | exact Nat.le_refl _, by first | omega | exact Nat.le_refl _⟩, trivial⟩, ⟨(Zaf rfl), trivial⟩, rfl, rfl, rfl⟩ rfl (by kernel_rfl) ?_
  refine Zb (.bool (Zhf k.items)) ?_
  rcases Bool.eq_false_or_eq_true (Zhf k.items) with h1 | h1
  refine Zb1 (by exact congrArg (fun b => some (b == false)) h1) rfl ?_
  refine Zb1 (by exact congrArg (fun b => some (b == false)) h1) rfl ?_
  refine Zb1 (by exact congrArg (fun b => some (b == false)) h1) rfl ?_
  refine Zb1 (by exact congrArg (fun b => some (b == false)) h1) rfl ?_
  refine Zcw rfl rfl (.bool true) (by show some (if _ then _ else _) = _; rw [h1] <;> rfl) ?_
  refine Zb (.bool true) (Za (Za (Za (Zg (.bool true) (Zb (.bool true) (Za (Za (Za (Za (Za (Za (Zg (.bool true) (Zc (.bool true) (Zd (Ze (Zs (Zq ?_)))))))))))))))))
  rw [show Zjg k r = true from Zpe (by first | exact .inl (by assumption) | exact .inr (.inl (by omega)) | exact .inr (.inr (.inl (by assumption))) | exact .inr (.inr (.inr (by omega))))]
  exact Zk (v := .bool true) rfl rfl rfl (by kernel_rfl) rfl
  refine Zas (b := 3) (o := 0) (n := 3) (o' := 3) (by exact congrArg (fun b => some (b == false)) h1) rfl rfl rfl rfl ?_
  refine Zba (p := pt 3 3) (v := slv 1 0 m d) (by exact congrArg (fun b => some (b == false)) h1) rfl rfl (by kernel_rfl) ?_
  refine Zov (p := slv 1 0 m d) (v := Iv (m : Nat)) (by exact congrArg (fun b => some (b == false)) h1) rfl rfl rfl ?_
  by_cases h2 : 60 < (m : Nat)
  refine Zn (vx := Iv (m : Nat)) (vy := Iv 60) (by exact congrArg (fun b => some (b == false)) h1) rfl (.bool true) rfl rfl (Zfe (by omega)) ?_
  refine Zcw rfl rfl (.bool true) (by show some (if _ then _ else _) = _; rw [h1] <;> rfl) ?_
  refine Zb (.bool true) (Za (Za (Za (Zg (.bool true) (Zb (.bool true) (Za (Za (Za (Za (Za (Za (Zg (.bool true) (Zc (.bool true) (Zd (Ze (Zs (Zq ?_)))))))))))))))))
  rw [show Zjg k r = true from Zpe (by first | exact .inl (by assumption) | exact .inr (.inl (by omega)) | exact .inr (.inr (.inl (by assumption))) | exact .inr (.inr (.inr (by omega))))]
  exact Zk (v := .bool true) rfl rfl rfl (by kernel_rfl) rfl
  refine Zn (vx := Iv (m : Nat)) (vy := Iv 60) (by exact congrArg (fun b => some (b == false)) h1) rfl (.bool false) rfl rfl (Zfd (by omega)) ?_
  refine Zcw rfl rfl (.bool false) (by show some (if _ then _ else _) = _; rw [h1] <;> rfl) ?_
  refine Zb (.bool false) (Zf (b := 4) (o := 0) (n := 113) (o' := 113) (Zl (p := pt 4 113) (v := slv 2 0 p q) ?_))
  refine Zab (e := [some (2, 0)]) (nid := 0) (Zow (G := G) r.items p q hp (by omega) (by omega)) (vals := [slv 2 0 p q]) (v := .bool (Zhf r.items)) (H' := [rwR Zj k.items, rwR Zh k.claims, rwR Zj r.items, Y20 k n c m d, Y21 r p q]) rfl rfl rfl rfl rfl rfl rfl ⟨⟨⟨rfl, rfl, rfl, by first | omega | exact Nat.le_refl _, by first | omega | exact Nat.le_refl _⟩, trivial⟩, ⟨(Zaf rfl), trivial⟩, rfl, rfl, rfl⟩ rfl (by kernel_rfl) ?_
  refine Zg (.bool (Zhf r.items)) (Zb (.bool (Zhf r.items)) ?_)
  rcases Bool.eq_false_or_eq_true (Zhf r.items) with h3 | h3
  refine Zb1 (by exact congrArg (fun b => some (b == false)) h3) rfl ?_
  refine Zb1 (by exact congrArg (fun b => some (b == false)) h3) rfl ?_
  refine Zb1 (by exact congrArg (fun b => some (b == false)) h3) rfl ?_
  refine Zb1 (by exact congrArg (fun b => some (b == false)) h3) rfl ?_
  refine Zb1 (by exact congrArg (fun b => some (b == false)) h3) rfl ?_
  refine Zb1 (by exact congrArg (fun b => some (b == false)) h3) rfl ?_
  refine Zcw rfl rfl (.bool true) (by show some (if _ then _ else _) = _; rw [h3] <;> rfl) ?_
  refine Zc (.bool true) (Zd (Ze (Zs (Zq ?_))))
  rw [show Zjg k r = true from Zpe (by first | exact .inl (by assumption) | exact .inr (.inl (by omega)) | exact .inr (.inr (.inl (by assumption))) | exact .inr (.inr (.inr (by omega))))]
  exact Zk (v := .bool true) rfl rfl rfl (by kernel_rfl) rfl
  refine Zas (b := 4) (o := 0) (n := 3) (o' := 3) (by exact congrArg (fun b => some (b == false)) h3) rfl rfl rfl rfl ?_
  refine Zas (b := 4) (o := 3) (n := 1) (o' := 4) (by exact congrArg (fun b => some (b == false)) h3) rfl rfl rfl rfl ?_
  refine Zas (b := 4) (o := 4) (n := 3) (o' := 7) (by exact congrArg (fun b => some (b == false)) h3) rfl rfl rfl rfl ?_
  refine Zba (p := pt 4 7) (v := .string r.item.entry.text) (by exact congrArg (fun b => some (b == false)) h3) rfl rfl (by kernel_rfl) ?_
  refine Zov (p := .string r.item.entry.text) (v := Iv (r.item.entry.text.size : Nat)) (by exact congrArg (fun b => some (b == false)) h3) rfl rfl rfl ?_
  by_cases h4 : 1000 < (r.item.entry.text.size : Nat)
  refine Zn (vx := Iv (r.item.entry.text.size : Nat)) (vy := Iv 1000) (by exact congrArg (fun b => some (b == false)) h3) rfl (.bool true) rfl rfl (Zfe (by omega)) ?_
  refine Zcw rfl rfl (.bool true) (by show some (if _ then _ else _) = _; rw [h3] <;> rfl) ?_
  refine Zc (.bool true) (Zd (Ze (Zs (Zq ?_))))
  rw [show Zjg k r = true from Zpe (by first | exact .inl (by assumption) | exact .inr (.inl (by omega)) | exact .inr (.inr (.inl (by assumption))) | exact .inr (.inr (.inr (by omega))))]
  exact Zk (v := .bool true) rfl rfl rfl (by kernel_rfl) rfl
  refine Zn (vx := Iv (r.item.entry.text.size : Nat)) (vy := Iv 1000) (by exact congrArg (fun b => some (b == false)) h3) rfl (.bool false) rfl rfl (Zfd (by omega)) ?_
  refine Zcw rfl rfl (.bool false) (by show some (if _ then _ else _) = _; rw [h3] <;> rfl) ?_
  refine Zc (.bool false) (Zd (Ze (Zs (Zq ?_))))
  rw [show Zjg k r = false from Zzh (by assumption) (by omega) (by assumption) (by omega)]
  exact Zk (v := .bool false) rfl rfl rfl (by kernel_rfl) rfl
theorem Zvh (ep seq : Int) : Zat Try.prog G 48 [Iv ep, Iv seq] [] (Zal (Zdf ep seq)) [] := by
 refine Zcg (fn := Try.f48) (nt := 9) rfl rfl rfl rfl ?_
 refine Za8 1 (H' := [hole]) rfl ?_
 refine Zi (Zm (Zbf (b := bxB 110 (Z1 (⟨0, (⟨0, 0, 0, ⟨#[]⟩, (⟨(⟨0, 0, 0, dz, 0⟩ : Head), 0, dz⟩ : Signed), (⟨0, 0, 0, 0, dz⟩ : Claim)⟩ : Entry)⟩ : Item))) (nid := 0) (H' := [bxB 110 (Z1 (⟨0, (⟨0, 0, 0, ⟨#[]⟩, (⟨(⟨0, 0, 0, dz, 0⟩ : Head), 0, dz⟩ : Signed), (⟨0, 0, 0, 0, dz⟩ : Claim)⟩ : Entry)⟩ : Item))]) (Zd (Ze (Zi (Zm (Zb (Iv ep) (Zb (Iv seq) ?_))))))))
 refine Za0 (vs := [(0, Iv 1), (1, Iv 1), (2, Iv seq)]) (v := Zdg (⟨1, 1, seq, ⟨#[]⟩, (⟨(⟨0, 0, 0, dz, 0⟩ : Head), 0, dz⟩ : Signed), (⟨0, 0, 0, 0, dz⟩ : Claim)⟩ : Entry)) rfl rfl rfl (by kernel_rfl) ?_
 refine Za0 (vs := [(0, Iv ep), (1, Zdg (⟨1, 1, seq, ⟨#[]⟩, (⟨(⟨0, 0, 0, dz, 0⟩ : Head), 0, dz⟩ : Signed), (⟨0, 0, 0, 0, dz⟩ : Claim)⟩ : Entry))]) (v := Zal (⟨ep, (⟨1, 1, seq, ⟨#[]⟩, (⟨(⟨0, 0, 0, dz, 0⟩ : Head), 0, dz⟩ : Signed), (⟨0, 0, 0, 0, dz⟩ : Claim)⟩ : Entry)⟩ : Item)) rfl rfl rfl (by kernel_rfl) ?_
 refine Z5 (p := pt 0 0) (v := Zal (⟨ep, (⟨1, 1, seq, ⟨#[]⟩, (⟨(⟨0, 0, 0, dz, 0⟩ : Head), 0, dz⟩ : Signed), (⟨0, 0, 0, 0, dz⟩ : Claim)⟩ : Entry)⟩ : Item)) (b := 0) (blk := bxB 110 (Z1 (⟨ep, (⟨1, 1, seq, ⟨#[]⟩, (⟨(⟨0, 0, 0, dz, 0⟩ : Head), 0, dz⟩ : Signed), (⟨0, 0, 0, 0, dz⟩ : Claim)⟩ : Entry)⟩ : Item))) (H' := [bxB 110 (Z1 (⟨ep, (⟨1, 1, seq, ⟨#[]⟩, (⟨(⟨0, 0, 0, dz, 0⟩ : Head), 0, dz⟩ : Signed), (⟨0, 0, 0, 0, dz⟩ : Claim)⟩ : Entry)⟩ : Item))]) (Zd (Ze (Zs (Zq ?_))))
 exact Zk (v := Zal (⟨ep, (⟨1, 1, seq, ⟨#[]⟩, (⟨(⟨0, 0, 0, dz, 0⟩ : Head), 0, dz⟩ : Signed), (⟨0, 0, 0, 0, dz⟩ : Claim)⟩ : Entry)⟩ : Item)) (by kernel_rfl) rfl rfl (by kernel_rfl) (Zk3 (by kernel_rfl) rfl)
theorem Zok (ep seq : Int) : Zat Try.prog G 30 [Iv ep, Iv seq] [] (mxV ([Iv 2, Iv 0, Iv 0] ++ (Z1 (Zdf ep seq) ++ ([.slice none 0 0] ++ (Zr (⟨0, 0, 0, 0, dz⟩ : Claim)))))) [] := by
 refine Zcg (fn := Try.f30) (nt := 9) rfl rfl rfl rfl ?_
 refine Za8 1 (H' := [hole]) rfl ?_
 refine Zi (Zm (Zbf (b := mxB 150 ([Iv 0, Iv 0, Iv 0] ++ (Z1 (⟨0, (⟨0, 0, 0, ⟨#[]⟩, (⟨(⟨0, 0, 0, dz, 0⟩ : Head), 0, dz⟩ : Signed), (⟨0, 0, 0, 0, dz⟩ : Claim)⟩ : Entry)⟩ : Item) ++ ([.slice none 0 0] ++ (Zr (⟨0, 0, 0, 0, dz⟩ : Claim)))))) (nid := 0) (H' := [mxB 150 ([Iv 0, Iv 0, Iv 0] ++ (Z1 (⟨0, (⟨0, 0, 0, ⟨#[]⟩, (⟨(⟨0, 0, 0, dz, 0⟩ : Head), 0, dz⟩ : Signed), (⟨0, 0, 0, 0, dz⟩ : Claim)⟩ : Entry)⟩ : Item) ++ ([.slice none 0 0] ++ (Zr (⟨0, 0, 0, 0, dz⟩ : Claim)))))]) (Zd (Ze (Zi (Zm (Zb (Iv ep) (Zb (Iv seq) ?_))))))))
 refine Zw (Zvh (G := G) ep seq) (vals := [Iv ep, Iv seq]) (res' := Zal (Zdf ep seq)) rfl rfl rfl rfl rfl rfl ?_
 refine Za0 (vs := [(0, Iv 2), (3, Zal (Zdf ep seq))]) (v := mxV ([Iv 2, Iv 0, Iv 0] ++ (Z1 (Zdf ep seq) ++ ([.slice none 0 0] ++ (Zr (⟨0, 0, 0, 0, dz⟩ : Claim)))))) rfl rfl rfl (by kernel_rfl) ?_
 refine Z5 (p := pt 0 0) (v := mxV ([Iv 2, Iv 0, Iv 0] ++ (Z1 (Zdf ep seq) ++ ([.slice none 0 0] ++ (Zr (⟨0, 0, 0, 0, dz⟩ : Claim)))))) (b := 0) (blk := mxB 150 ([Iv 2, Iv 0, Iv 0] ++ (Z1 (Zdf ep seq) ++ ([.slice none 0 0] ++ (Zr (⟨0, 0, 0, 0, dz⟩ : Claim)))))) (H' := [mxB 150 ([Iv 2, Iv 0, Iv 0] ++ (Z1 (Zdf ep seq) ++ ([.slice none 0 0] ++ (Zr (⟨0, 0, 0, 0, dz⟩ : Claim)))))]) (Zd (Ze (Zs (Zq ?_))))
 exact Zk (v := mxV ([Iv 2, Iv 0, Iv 0] ++ (Z1 (Zdf ep seq) ++ ([.slice none 0 0] ++ (Zr (⟨0, 0, 0, 0, dz⟩ : Claim)))))) rfl rfl rfl (by kernel_rfl) (Zk3 (by kernel_rfl) rfl)
abbrev Y22  : Blk := mxB 4 ([Iv 0, Iv 0, .slice none 0 0, .slice none 0 0])
abbrev Y23  : Blk := mxB 4 ([Iv 1, Iv 1, .slice none 0 0, .slice none 0 0])
abbrev Y24  : Blk := rwB Zj [Zdf 1 1]
abbrev Y25  : Blk := mxB 4 ([Iv 1, Iv 1, slv 1 0 1 1, slv 2 0 0 0])
abbrev Y26  : Blk := mxB 4 ([Iv 3, Iv 1, slv 4 0 1 1, slv 5 0 0 0])
abbrev Y27  : Blk := mxB 4 ([Iv 0, Iv 0, slv 7 0 0 0, slv 8 0 0 0])
abbrev Y28  : Blk := mxB 4 ([Iv 0, Iv 0, slv 10 0 0 0, slv 11 0 0 0])
abbrev Y29  : Blk := rwB Zj [Zdf 1 1, Zcj]
abbrev Y30  : Blk := mxB 4 ([Iv 3, Iv 3, slv 15 0 2 2, slv 16 0 0 0])
abbrev Y31  : Blk := mxB 4 ([Iv 0, Iv 0, slv 18 0 0 0, slv 19 0 0 0])
theorem Zv7  : Zat Try.prog G 11 [] [] (.bool true) [] := by
  refine Zcg (fn := Try.f11) (nt := 128) rfl rfl rfl rfl ?_
  refine Za8 21 (H' := [hole, hole, hole, hole, hole, hole, hole, hole, hole, hole, hole, hole, hole, hole, hole, hole, hole, hole, hole, hole, hole]) rfl ?_
  refine Zi (Zm (Zc (.bool false) (Zd (Ze (Zi (Zm ?_))))))
  refine Zw (Zzf (G := G)) (vals := []) (res' := mxV ([Iv 1, Iv 1, .slice none 0 0, .slice none 0 0])) rfl rfl rfl rfl rfl rfl ?_
  refine Zbf (b := mxB 4 ([Iv 0, Iv 0, .slice none 0 0, .slice none 0 0])) (nid := 0) (H' := [Y22, hole, hole, hole, hole, hole, hole, hole, hole, hole, hole, hole, hole, hole, hole, hole, hole, hole, hole, hole, hole]) (Z5 (p := pt 0 0) (v := mxV ([Iv 1, Iv 1, .slice none 0 0, .slice none 0 0])) (b := 0) (blk := mxB 4 ([Iv 1, Iv 1, .slice none 0 0, .slice none 0 0])) (H' := [Y23, hole, hole, hole, hole, hole, hole, hole, hole, hole, hole, hole, hole, hole, hole, hole, hole, hole, hole, hole, hole]) (Zd (Ze (Zi ?_))))
  refine Zek (by kernel_rfl) ?_
  refine Zl (p := pt 0 0) (v := mxV ([Iv 1, Iv 1, .slice none 0 0, .slice none 0 0])) ?_
  refine Zw (Zok (G := G) 1 1) (vals := [Iv 1, Iv 1]) (res' := mxV ([Iv 2, Iv 0, Iv 0] ++ (Z1 (Zdf 1 1) ++ ([.slice none 0 0] ++ (Zr (⟨0, 0, 0, 0, dz⟩ : Claim)))))) rfl rfl rfl rfl rfl rfl ?_
  refine Zab (e := [none, none, none]) (nid := 1) (Zi4 (G := G) (⟨1, 1, [], []⟩ : Kept) 0 0 (by decide) (by decide) (by decide) (by decide) (⟨2, 0, 0, (Zdf 1 1), [], (⟨0, 0, 0, 0, dz⟩ : Claim)⟩ : Rec) 0 0 rfl (by decide) (by decide) (show (2 : Int) ≤ 3 by decide) Zx9) (vals := [mxV ([Iv 1, Iv 1, .slice none 0 0, .slice none 0 0]), mxV ([Iv 2, Iv 0, Iv 0] ++ (Z1 (Zdf 1 1) ++ ([.slice none 0 0] ++ (Zr (⟨0, 0, 0, 0, dz⟩ : Claim)))))]) (v := .tuple #[mxV ([Iv 1, Iv 1, slv 1 0 1 1, slv 2 0 0 0]), Iv 0]) (H' := [Y23, Y24, rwB Zh [], hole, hole, hole, hole, hole, hole, hole, hole, hole, hole, hole, hole, hole, hole, hole, hole, hole, hole]) rfl rfl rfl rfl rfl rfl rfl ⟨⟨(Zah (by kernel_rfl) ⟨⟨rfl, rfl⟩, ⟨rfl, rfl⟩, ⟨rfl, rfl, rfl, rfl⟩, ⟨rfl, rfl, rfl, rfl⟩, trivial⟩), (Zah (by kernel_rfl) (Zac ⟨⟨rfl, rfl⟩, ⟨rfl, rfl⟩, ⟨rfl, rfl⟩, trivial⟩ (Zac (Zap (by kernel_rfl)) (Zac ⟨⟨rfl, rfl, rfl, rfl⟩, trivial⟩ (Zap (by kernel_rfl)))))), trivial⟩, ⟨⟨rfl, rfl, by first | exact Nat.succ_pos _ | (show 0 < _; decide)⟩, ⟨rfl, rfl, by first | exact Nat.succ_pos _ | (show 0 < _; decide)⟩, ⟨rfl, rfl, by first | exact Nat.succ_pos _ | (show 0 < _; decide)⟩, trivial⟩, rfl, rfl, rfl⟩ (by kernel_rfl) (by kernel_rfl) ?_
  refine Zb (.tuple #[mxV ([Iv 1, Iv 1, slv 1 0 1 1, slv 2 0 0 0]), Iv 0]) (Za2 (vs := #[mxV ([Iv 1, Iv 1, slv 1 0 1 1, slv 2 0 0 0]), Iv 0]) (v := mxV ([Iv 1, Iv 1, slv 1 0 1 1, slv 2 0 0 0])) (Za2 (vs := #[mxV ([Iv 1, Iv 1, slv 1 0 1 1, slv 2 0 0 0]), Iv 0]) (v := Iv 0) (Zbf (b := mxB 4 ([Iv 0, Iv 0, .slice none 0 0, .slice none 0 0])) (nid := 3) (H' := [Y23, Y24, rwB Zh [], Y22, hole, hole, hole, hole, hole, hole, hole, hole, hole, hole, hole, hole, hole, hole, hole, hole, hole]) (Z5 (p := pt 3 0) (v := mxV ([Iv 1, Iv 1, slv 1 0 1 1, slv 2 0 0 0])) (b := 3) (blk := mxB 4 ([Iv 1, Iv 1, slv 1 0 1 1, slv 2 0 0 0])) (H' := [Y23, Y24, rwB Zh [], Y25, hole, hole, hole, hole, hole, hole, hole, hole, hole, hole, hole, hole, hole, hole, hole, hole, hole]) (Zc (Iv 0) ?_)))))
  refine Zbv (Za4 [[], [], [0, 1], [0, 1, 2], [0, 1, 2, 3], [0, 1, 2, 3], [], [0, 1, 2, 3, 4, 6], [0, 1, 2, 3, 4, 5, 6, 7]] (by kernel_rfl) (by kernel_rfl)) ?_
  refine Ze (Zi (Zm (Zl (p := pt 3 0) (v := mxV ([Iv 1, Iv 1, slv 1 0 1 1, slv 2 0 0 0])) ?_)))
  refine Za0 (vs := [(0, Iv 1), (1, Iv 3)]) (v := mxV ([Iv 1, Iv 3, Iv 0] ++ (Z1 (⟨0, (⟨0, 0, 0, ⟨#[]⟩, (⟨(⟨0, 0, 0, dz, 0⟩ : Head), 0, dz⟩ : Signed), (⟨0, 0, 0, 0, dz⟩ : Claim)⟩ : Entry)⟩ : Item) ++ ([.slice none 0 0] ++ (Zr (⟨0, 0, 0, 0, dz⟩ : Claim)))))) rfl rfl rfl (by kernel_rfl) ?_
  refine Zab (e := [some (1, 0), some (2, 0), none]) (nid := 4) (Zi4 (G := G) (⟨1, 1, [Zdf 1 1], []⟩ : Kept) 1 0 (by decide) (by decide) (by decide) (by decide) (⟨1, 3, 0, (⟨0, (⟨0, 0, 0, ⟨#[]⟩, (⟨(⟨0, 0, 0, dz, 0⟩ : Head), 0, dz⟩ : Signed), (⟨0, 0, 0, 0, dz⟩ : Claim)⟩ : Entry)⟩ : Item), [], (⟨0, 0, 0, 0, dz⟩ : Claim)⟩ : Rec) 0 0 rfl (by decide) (by decide) (show (1 : Int) ≤ 3 by decide) Zya) (vals := [mxV ([Iv 1, Iv 1, slv 1 0 1 1, slv 2 0 0 0]), mxV ([Iv 1, Iv 3, Iv 0] ++ (Z1 (⟨0, (⟨0, 0, 0, ⟨#[]⟩, (⟨(⟨0, 0, 0, dz, 0⟩ : Head), 0, dz⟩ : Signed), (⟨0, 0, 0, 0, dz⟩ : Claim)⟩ : Entry)⟩ : Item) ++ ([.slice none 0 0] ++ (Zr (⟨0, 0, 0, 0, dz⟩ : Claim)))))]) (v := .tuple #[mxV ([Iv 3, Iv 1, slv 4 0 1 1, slv 5 0 0 0]), Iv 0]) (H' := [Y23, Y24, rwB Zh [], Y25, Y24, rwB Zh [], hole, hole, hole, hole, hole, hole, hole, hole, hole, hole, hole, hole, hole, hole, hole]) rfl rfl rfl rfl rfl rfl rfl ⟨⟨(Zah (by kernel_rfl) ⟨⟨rfl, rfl⟩, ⟨rfl, rfl⟩, ⟨rfl, rfl, (by first | rfl | omega), by first | omega | exact Nat.le_refl _, by first | omega | exact Nat.le_refl _⟩, ⟨rfl, rfl, (by first | rfl | omega), by first | omega | exact Nat.le_refl _, by first | omega | exact Nat.le_refl _⟩, trivial⟩), (Zah (by kernel_rfl) (Zac ⟨⟨rfl, rfl⟩, ⟨rfl, rfl⟩, ⟨rfl, rfl⟩, trivial⟩ (Zac (Zap (by kernel_rfl)) (Zac ⟨⟨rfl, rfl, rfl, rfl⟩, trivial⟩ (Zap (by kernel_rfl)))))), trivial⟩, ⟨(Zbd rfl), (Zbd rfl), ⟨rfl, rfl, by first | exact Nat.succ_pos _ | (show 0 < _; decide)⟩, trivial⟩, rfl, rfl, rfl⟩ (by kernel_rfl) (by kernel_rfl) ?_
  refine Zb (.tuple #[mxV ([Iv 3, Iv 1, slv 4 0 1 1, slv 5 0 0 0]), Iv 0]) (Za2 (vs := #[mxV ([Iv 3, Iv 1, slv 4 0 1 1, slv 5 0 0 0]), Iv 0]) (v := mxV ([Iv 3, Iv 1, slv 4 0 1 1, slv 5 0 0 0])) (Za2 (vs := #[mxV ([Iv 3, Iv 1, slv 4 0 1 1, slv 5 0 0 0]), Iv 0]) (v := Iv 0) (Zbf (b := mxB 4 ([Iv 0, Iv 0, .slice none 0 0, .slice none 0 0])) (nid := 6) (H' := [Y23, Y24, rwB Zh [], Y25, Y24, rwB Zh [], Y22, hole, hole, hole, hole, hole, hole, hole, hole, hole, hole, hole, hole, hole, hole]) (Z5 (p := pt 6 0) (v := mxV ([Iv 3, Iv 1, slv 4 0 1 1, slv 5 0 0 0])) (b := 6) (blk := mxB 4 ([Iv 3, Iv 1, slv 4 0 1 1, slv 5 0 0 0])) (H' := [Y23, Y24, rwB Zh [], Y25, Y24, rwB Zh [], Y26, hole, hole, hole, hole, hole, hole, hole, hole, hole, hole, hole, hole, hole, hole]) (Zc (Iv 0) (Zd (Ze (Zi (Zm (Zl (p := pt 6 0) (v := mxV ([Iv 3, Iv 1, slv 4 0 1 1, slv 5 0 0 0])) ?_))))))))))
  refine Za0 (vs := [(0, Iv 1), (1, Iv 2)]) (v := mxV ([Iv 1, Iv 2, Iv 0] ++ (Z1 (⟨0, (⟨0, 0, 0, ⟨#[]⟩, (⟨(⟨0, 0, 0, dz, 0⟩ : Head), 0, dz⟩ : Signed), (⟨0, 0, 0, 0, dz⟩ : Claim)⟩ : Entry)⟩ : Item) ++ ([.slice none 0 0] ++ (Zr (⟨0, 0, 0, 0, dz⟩ : Claim)))))) rfl rfl rfl (by kernel_rfl) ?_
  refine Zab (e := [some (4, 0), some (5, 0), none]) (nid := 7) (Zi4 (G := G) (⟨3, 1, [Zdf 1 1], []⟩ : Kept) 1 0 (by decide) (by decide) (by decide) (by decide) (⟨1, 2, 0, (⟨0, (⟨0, 0, 0, ⟨#[]⟩, (⟨(⟨0, 0, 0, dz, 0⟩ : Head), 0, dz⟩ : Signed), (⟨0, 0, 0, 0, dz⟩ : Claim)⟩ : Entry)⟩ : Item), [], (⟨0, 0, 0, 0, dz⟩ : Claim)⟩ : Rec) 0 0 rfl (by decide) (by decide) (show (1 : Int) ≤ 3 by decide) Zyb) (vals := [mxV ([Iv 3, Iv 1, slv 4 0 1 1, slv 5 0 0 0]), mxV ([Iv 1, Iv 2, Iv 0] ++ (Z1 (⟨0, (⟨0, 0, 0, ⟨#[]⟩, (⟨(⟨0, 0, 0, dz, 0⟩ : Head), 0, dz⟩ : Signed), (⟨0, 0, 0, 0, dz⟩ : Claim)⟩ : Entry)⟩ : Item) ++ ([.slice none 0 0] ++ (Zr (⟨0, 0, 0, 0, dz⟩ : Claim)))))]) (v := .tuple #[mxV ([Iv 0, Iv 0, slv 7 0 0 0, slv 8 0 0 0]), Iv 140]) (H' := [Y23, Y24, rwB Zh [], Y25, Y24, rwB Zh [], Y26, rwB Zj [], rwB Zh [], hole, hole, hole, hole, hole, hole, hole, hole, hole, hole, hole, hole]) rfl rfl rfl rfl rfl rfl rfl ⟨⟨(Zah (by kernel_rfl) ⟨⟨rfl, rfl⟩, ⟨rfl, rfl⟩, ⟨rfl, rfl, (by first | rfl | omega), by first | omega | exact Nat.le_refl _, by first | omega | exact Nat.le_refl _⟩, ⟨rfl, rfl, (by first | rfl | omega), by first | omega | exact Nat.le_refl _, by first | omega | exact Nat.le_refl _⟩, trivial⟩), (Zah (by kernel_rfl) (Zac ⟨⟨rfl, rfl⟩, ⟨rfl, rfl⟩, ⟨rfl, rfl⟩, trivial⟩ (Zac (Zap (by kernel_rfl)) (Zac ⟨⟨rfl, rfl, rfl, rfl⟩, trivial⟩ (Zap (by kernel_rfl)))))), trivial⟩, ⟨(Zbd rfl), (Zbd rfl), ⟨rfl, rfl, by first | exact Nat.succ_pos _ | (show 0 < _; decide)⟩, trivial⟩, rfl, rfl, rfl⟩ (by kernel_rfl) (by kernel_rfl) ?_
  refine Zb (.tuple #[mxV ([Iv 0, Iv 0, slv 7 0 0 0, slv 8 0 0 0]), Iv 140]) (Za2 (vs := #[mxV ([Iv 0, Iv 0, slv 7 0 0 0, slv 8 0 0 0]), Iv 140]) (v := mxV ([Iv 0, Iv 0, slv 7 0 0 0, slv 8 0 0 0])) (Za2 (vs := #[mxV ([Iv 0, Iv 0, slv 7 0 0 0, slv 8 0 0 0]), Iv 140]) (v := Iv 140) (Zbf (b := mxB 4 ([Iv 0, Iv 0, .slice none 0 0, .slice none 0 0])) (nid := 9) (H' := [Y23, Y24, rwB Zh [], Y25, Y24, rwB Zh [], Y26, rwB Zj [], rwB Zh [], Y22, hole, hole, hole, hole, hole, hole, hole, hole, hole, hole, hole]) (Z5 (p := pt 9 0) (v := mxV ([Iv 0, Iv 0, slv 7 0 0 0, slv 8 0 0 0])) (b := 9) (blk := mxB 4 ([Iv 0, Iv 0, slv 7 0 0 0, slv 8 0 0 0])) (H' := [Y23, Y24, rwB Zh [], Y25, Y24, rwB Zh [], Y26, rwB Zj [], rwB Zh [], Y27, hole, hole, hole, hole, hole, hole, hole, hole, hole, hole, hole]) (Zc (Iv 140) (Zd (Ze (Zi ?_))))))))
  refine Zek (by kernel_rfl) ?_
  refine Zl (p := pt 6 0) (v := mxV ([Iv 3, Iv 1, slv 4 0 1 1, slv 5 0 0 0])) ?_
  refine Zw (Zok (G := G) 3 2) (vals := [Iv 3, Iv 2]) (res' := mxV ([Iv 2, Iv 0, Iv 0] ++ (Z1 (Zdf 3 2) ++ ([.slice none 0 0] ++ (Zr (⟨0, 0, 0, 0, dz⟩ : Claim)))))) rfl rfl rfl rfl rfl rfl ?_
  refine Zab (e := [some (4, 0), some (5, 0), none]) (nid := 10) (Zi4 (G := G) (⟨3, 1, [Zdf 1 1], []⟩ : Kept) 1 0 (by decide) (by decide) (by decide) (by decide) (⟨2, 0, 0, (Zdf 3 2), [], (⟨0, 0, 0, 0, dz⟩ : Claim)⟩ : Rec) 0 0 rfl (by decide) (by decide) (show (2 : Int) ≤ 3 by decide) Zyc) (vals := [mxV ([Iv 3, Iv 1, slv 4 0 1 1, slv 5 0 0 0]), mxV ([Iv 2, Iv 0, Iv 0] ++ (Z1 (Zdf 3 2) ++ ([.slice none 0 0] ++ (Zr (⟨0, 0, 0, 0, dz⟩ : Claim)))))]) (v := .tuple #[mxV ([Iv 0, Iv 0, slv 10 0 0 0, slv 11 0 0 0]), Iv 140]) (H' := [Y23, Y24, rwB Zh [], Y25, Y24, rwB Zh [], Y26, rwB Zj [], rwB Zh [], Y27, rwB Zj [], rwB Zh [], hole, hole, hole, hole, hole, hole, hole, hole, hole]) rfl rfl rfl rfl rfl rfl rfl ⟨⟨(Zah (by kernel_rfl) ⟨⟨rfl, rfl⟩, ⟨rfl, rfl⟩, ⟨rfl, rfl, (by first | rfl | omega), by first | omega | exact Nat.le_refl _, by first | omega | exact Nat.le_refl _⟩, ⟨rfl, rfl, (by first | rfl | omega), by first | omega | exact Nat.le_refl _, by first | omega | exact Nat.le_refl _⟩, trivial⟩), (Zah (by kernel_rfl) (Zac ⟨⟨rfl, rfl⟩, ⟨rfl, rfl⟩, ⟨rfl, rfl⟩, trivial⟩ (Zac (Zap (by kernel_rfl)) (Zac ⟨⟨rfl, rfl, rfl, rfl⟩, trivial⟩ (Zap (by kernel_rfl)))))), trivial⟩, ⟨(Zbd rfl), (Zbd rfl), ⟨rfl, rfl, by first | exact Nat.succ_pos _ | (show 0 < _; decide)⟩, trivial⟩, rfl, rfl, rfl⟩ (by kernel_rfl) (by kernel_rfl) ?_
  refine Zb (.tuple #[mxV ([Iv 0, Iv 0, slv 10 0 0 0, slv 11 0 0 0]), Iv 140]) (Za2 (vs := #[mxV ([Iv 0, Iv 0, slv 10 0 0 0, slv 11 0 0 0]), Iv 140]) (v := mxV ([Iv 0, Iv 0, slv 10 0 0 0, slv 11 0 0 0])) (Za2 (vs := #[mxV ([Iv 0, Iv 0, slv 10 0 0 0, slv 11 0 0 0]), Iv 140]) (v := Iv 140) (Zbf (b := mxB 4 ([Iv 0, Iv 0, .slice none 0 0, .slice none 0 0])) (nid := 12) (H' := [Y23, Y24, rwB Zh [], Y25, Y24, rwB Zh [], Y26, rwB Zj [], rwB Zh [], Y27, rwB Zj [], rwB Zh [], Y22, hole, hole, hole, hole, hole, hole, hole, hole]) (Z5 (p := pt 12 0) (v := mxV ([Iv 0, Iv 0, slv 10 0 0 0, slv 11 0 0 0])) (b := 12) (blk := mxB 4 ([Iv 0, Iv 0, slv 10 0 0 0, slv 11 0 0 0])) (H' := [Y23, Y24, rwB Zh [], Y25, Y24, rwB Zh [], Y26, rwB Zj [], rwB Zh [], Y27, rwB Zj [], rwB Zh [], Y28, hole, hole, hole, hole, hole, hole, hole, hole]) (Zc (Iv 140) ?_)))))
  refine Zbv (Za4 [[], [], [0, 1], [0, 1, 2], [0, 1, 2, 3], [0, 1, 2, 3], [], [0, 1, 2, 3, 4, 6], [0, 1, 2, 3, 4, 5, 6, 7]] (by kernel_rfl) (by kernel_rfl)) ?_
  refine Ze (Zi (Zm ?_))
  refine Za0 (vs := [(0, Iv 1), (1, Iv 3), (2, Iv 2)]) (v := Zx (⟨1, 3, 2, 0, dz⟩ : Claim)) rfl rfl rfl (by kernel_rfl) ?_
  refine Za0 (vs := [(0, Iv 3), (5, Zx (⟨1, 3, 2, 0, dz⟩ : Claim))]) (v := Zdg (⟨3, 0, 0, ⟨#[]⟩, (⟨(⟨0, 0, 0, dz, 0⟩ : Head), 0, dz⟩ : Signed), (⟨1, 3, 2, 0, dz⟩ : Claim)⟩ : Entry)) rfl rfl rfl (by kernel_rfl) ?_
  refine Za0 (vs := [(0, Iv 3), (1, Zdg (⟨3, 0, 0, ⟨#[]⟩, (⟨(⟨0, 0, 0, dz, 0⟩ : Head), 0, dz⟩ : Signed), (⟨1, 3, 2, 0, dz⟩ : Claim)⟩ : Entry))]) (v := Zal (⟨3, (⟨3, 0, 0, ⟨#[]⟩, (⟨(⟨0, 0, 0, dz, 0⟩ : Head), 0, dz⟩ : Signed), (⟨1, 3, 2, 0, dz⟩ : Claim)⟩ : Entry)⟩ : Item)) rfl rfl rfl (by kernel_rfl) ?_
  refine Zbf (b := bxB 110 (Z1 (⟨0, (⟨0, 0, 0, ⟨#[]⟩, (⟨(⟨0, 0, 0, dz, 0⟩ : Head), 0, dz⟩ : Signed), (⟨0, 0, 0, 0, dz⟩ : Claim)⟩ : Entry)⟩ : Item))) (nid := 13) (H' := [Y23, Y24, rwB Zh [], Y25, Y24, rwB Zh [], Y26, rwB Zj [], rwB Zh [], Y27, rwB Zj [], rwB Zh [], Y28, bxB 110 (Z1 (⟨0, (⟨0, 0, 0, ⟨#[]⟩, (⟨(⟨0, 0, 0, dz, 0⟩ : Head), 0, dz⟩ : Signed), (⟨0, 0, 0, 0, dz⟩ : Claim)⟩ : Entry)⟩ : Item)), hole, hole, hole, hole, hole, hole, hole]) (Z5 (p := pt 13 0) (v := Zal (⟨3, (⟨3, 0, 0, ⟨#[]⟩, (⟨(⟨0, 0, 0, dz, 0⟩ : Head), 0, dz⟩ : Signed), (⟨1, 3, 2, 0, dz⟩ : Claim)⟩ : Entry)⟩ : Item)) (b := 13) (blk := bxB 110 (Z1 (⟨3, (⟨3, 0, 0, ⟨#[]⟩, (⟨(⟨0, 0, 0, dz, 0⟩ : Head), 0, dz⟩ : Signed), (⟨1, 3, 2, 0, dz⟩ : Claim)⟩ : Entry)⟩ : Item))) (H' := [Y23, Y24, rwB Zh [], Y25, Y24, rwB Zh [], Y26, rwB Zj [], rwB Zh [], Y27, rwB Zj [], rwB Zh [], Y28, bxB 110 (Z1 (⟨3, (⟨3, 0, 0, ⟨#[]⟩, (⟨(⟨0, 0, 0, dz, 0⟩ : Head), 0, dz⟩ : Signed), (⟨1, 3, 2, 0, dz⟩ : Claim)⟩ : Entry)⟩ : Item)), hole, hole, hole, hole, hole, hole, hole]) (Zd (Ze (Zi ?_))))
  refine Zzk (H' := [Y23, Y24, rwB Zh [], Y25, Y24, rwB Zh [], Y26, rwB Zj [], rwB Zh [], Y27, rwB Zj [], rwB Zh [], Y28, bxB 110 (Z1 Zcj), hole, hole, hole, hole, hole, hole, hole]) rfl ?_
  refine Zm (Zl (p := pt 6 0) (v := mxV ([Iv 3, Iv 1, slv 4 0 1 1, slv 5 0 0 0])) (Zl (p := pt 13 0) (v := Zal Zcj) ?_))
  refine Zgl (vs := [(0, Zal Zcj)]) (v := slv 14 0 1 1) (blk := rwB Zj [Zcj]) (nid := 14) (H' := [Y23, Y24, rwB Zh [], Y25, Y24, rwB Zh [], Y26, rwB Zj [], rwB Zh [], Y27, rwB Zj [], rwB Zh [], Y28, bxB 110 (Z1 Zcj), rwB Zj [Zcj], hole, hole, hole, hole, hole, hole]) rfl rfl rfl (by kernel_rfl) (by kernel_rfl) ?_
  refine Za0 (vs := [(0, Iv 3), (1, Iv 3), (2, Iv 1), (4, slv 14 0 1 1)]) (v := mxV ([Iv 3, Iv 3, Iv 1] ++ (Z1 (⟨0, (⟨0, 0, 0, ⟨#[]⟩, (⟨(⟨0, 0, 0, dz, 0⟩ : Head), 0, dz⟩ : Signed), (⟨0, 0, 0, 0, dz⟩ : Claim)⟩ : Entry)⟩ : Item) ++ ([slv 14 0 1 1] ++ (Zr (⟨0, 0, 0, 0, dz⟩ : Claim)))))) rfl rfl rfl (by kernel_rfl) ?_
  refine Zab (e := [some (4, 0), some (5, 0), some (14, 0)]) (nid := 15) (Zi4 (G := G) (⟨3, 1, [Zdf 1 1], []⟩ : Kept) 1 0 (by decide) (by decide) (by decide) (by decide) (⟨3, 3, 1, (⟨0, (⟨0, 0, 0, ⟨#[]⟩, (⟨(⟨0, 0, 0, dz, 0⟩ : Head), 0, dz⟩ : Signed), (⟨0, 0, 0, 0, dz⟩ : Claim)⟩ : Entry)⟩ : Item), [Zcj], (⟨0, 0, 0, 0, dz⟩ : Claim)⟩ : Rec) 1 1 rfl (by decide) (by decide) (show (3 : Int) ≤ 3 by decide) Zyd) (vals := [mxV ([Iv 3, Iv 1, slv 4 0 1 1, slv 5 0 0 0]), mxV ([Iv 3, Iv 3, Iv 1] ++ (Z1 (⟨0, (⟨0, 0, 0, ⟨#[]⟩, (⟨(⟨0, 0, 0, dz, 0⟩ : Head), 0, dz⟩ : Signed), (⟨0, 0, 0, 0, dz⟩ : Claim)⟩ : Entry)⟩ : Item) ++ ([slv 14 0 1 1] ++ (Zr (⟨0, 0, 0, 0, dz⟩ : Claim)))))]) (v := .tuple #[mxV ([Iv 3, Iv 3, slv 15 0 2 2, slv 16 0 0 0]), Iv 0]) (H' := [Y23, Y24, rwB Zh [], Y25, Y24, rwB Zh [], Y26, rwB Zj [], rwB Zh [], Y27, rwB Zj [], rwB Zh [], Y28, bxB 110 (Z1 Zcj), rwB Zj [Zcj], Y29, rwB Zh [], hole, hole, hole, hole]) rfl rfl rfl rfl rfl rfl rfl ⟨⟨(Zah (by kernel_rfl) ⟨⟨rfl, rfl⟩, ⟨rfl, rfl⟩, ⟨rfl, rfl, (by first | rfl | omega), by first | omega | exact Nat.le_refl _, by first | omega | exact Nat.le_refl _⟩, ⟨rfl, rfl, (by first | rfl | omega), by first | omega | exact Nat.le_refl _, by first | omega | exact Nat.le_refl _⟩, trivial⟩), (Zah (by kernel_rfl) (Zac ⟨⟨rfl, rfl⟩, ⟨rfl, rfl⟩, ⟨rfl, rfl⟩, trivial⟩ (Zac (Zap (by kernel_rfl)) (Zac ⟨⟨rfl, rfl, (by first | rfl | omega), by first | omega | exact Nat.le_refl _, by first | omega | exact Nat.le_refl _⟩, trivial⟩ (Zap (by kernel_rfl)))))), trivial⟩, ⟨(Zbd rfl), (Zbd rfl), (Zbd rfl), trivial⟩, rfl, rfl, rfl⟩ (by kernel_rfl) (by kernel_rfl) ?_
  refine Zb (.tuple #[mxV ([Iv 3, Iv 3, slv 15 0 2 2, slv 16 0 0 0]), Iv 0]) (Za2 (vs := #[mxV ([Iv 3, Iv 3, slv 15 0 2 2, slv 16 0 0 0]), Iv 0]) (v := mxV ([Iv 3, Iv 3, slv 15 0 2 2, slv 16 0 0 0])) (Za2 (vs := #[mxV ([Iv 3, Iv 3, slv 15 0 2 2, slv 16 0 0 0]), Iv 0]) (v := Iv 0) (Zbf (b := mxB 4 ([Iv 0, Iv 0, .slice none 0 0, .slice none 0 0])) (nid := 17) (H' := [Y23, Y24, rwB Zh [], Y25, Y24, rwB Zh [], Y26, rwB Zj [], rwB Zh [], Y27, rwB Zj [], rwB Zh [], Y28, bxB 110 (Z1 Zcj), rwB Zj [Zcj], Y29, rwB Zh [], Y22, hole, hole, hole]) (Z5 (p := pt 17 0) (v := mxV ([Iv 3, Iv 3, slv 15 0 2 2, slv 16 0 0 0])) (b := 17) (blk := mxB 4 ([Iv 3, Iv 3, slv 15 0 2 2, slv 16 0 0 0])) (H' := [Y23, Y24, rwB Zh [], Y25, Y24, rwB Zh [], Y26, rwB Zj [], rwB Zh [], Y27, rwB Zj [], rwB Zh [], Y28, bxB 110 (Z1 Zcj), rwB Zj [Zcj], Y29, rwB Zh [], Y30, hole, hole, hole]) (Zc (Iv 0) (Zd (Ze (Zi (Zm (Zl (p := pt 17 0) (v := mxV ([Iv 3, Iv 3, slv 15 0 2 2, slv 16 0 0 0])) ?_))))))))))
  refine Za0 (vs := [(0, Iv 3), (1, Iv 4)]) (v := mxV ([Iv 3, Iv 4, Iv 0] ++ (Z1 (⟨0, (⟨0, 0, 0, ⟨#[]⟩, (⟨(⟨0, 0, 0, dz, 0⟩ : Head), 0, dz⟩ : Signed), (⟨0, 0, 0, 0, dz⟩ : Claim)⟩ : Entry)⟩ : Item) ++ ([.slice none 0 0] ++ (Zr (⟨0, 0, 0, 0, dz⟩ : Claim)))))) rfl rfl rfl (by kernel_rfl) ?_
  refine Zab (e := [some (15, 0), some (16, 0), none]) (nid := 18) (Zi4 (G := G) (⟨3, 3, [Zdf 1 1, Zcj], []⟩ : Kept) 2 0 (by decide) (by decide) (by decide) (by decide) (⟨3, 4, 0, (⟨0, (⟨0, 0, 0, ⟨#[]⟩, (⟨(⟨0, 0, 0, dz, 0⟩ : Head), 0, dz⟩ : Signed), (⟨0, 0, 0, 0, dz⟩ : Claim)⟩ : Entry)⟩ : Item), [], (⟨0, 0, 0, 0, dz⟩ : Claim)⟩ : Rec) 0 0 rfl (by decide) (by decide) (show (3 : Int) ≤ 3 by decide) Zye) (vals := [mxV ([Iv 3, Iv 3, slv 15 0 2 2, slv 16 0 0 0]), mxV ([Iv 3, Iv 4, Iv 0] ++ (Z1 (⟨0, (⟨0, 0, 0, ⟨#[]⟩, (⟨(⟨0, 0, 0, dz, 0⟩ : Head), 0, dz⟩ : Signed), (⟨0, 0, 0, 0, dz⟩ : Claim)⟩ : Entry)⟩ : Item) ++ ([.slice none 0 0] ++ (Zr (⟨0, 0, 0, 0, dz⟩ : Claim)))))]) (v := .tuple #[mxV ([Iv 0, Iv 0, slv 18 0 0 0, slv 19 0 0 0]), Iv 140]) (H' := [Y23, Y24, rwB Zh [], Y25, Y24, rwB Zh [], Y26, rwB Zj [], rwB Zh [], Y27, rwB Zj [], rwB Zh [], Y28, bxB 110 (Z1 Zcj), rwB Zj [Zcj], Y29, rwB Zh [], Y30, rwB Zj [], rwB Zh [], hole]) rfl rfl rfl rfl rfl rfl rfl ⟨⟨(Zah (by kernel_rfl) ⟨⟨rfl, rfl⟩, ⟨rfl, rfl⟩, ⟨rfl, rfl, (by first | rfl | omega), by first | omega | exact Nat.le_refl _, by first | omega | exact Nat.le_refl _⟩, ⟨rfl, rfl, (by first | rfl | omega), by first | omega | exact Nat.le_refl _, by first | omega | exact Nat.le_refl _⟩, trivial⟩), (Zah (by kernel_rfl) (Zac ⟨⟨rfl, rfl⟩, ⟨rfl, rfl⟩, ⟨rfl, rfl⟩, trivial⟩ (Zac (Zap (by kernel_rfl)) (Zac ⟨⟨rfl, rfl, rfl, rfl⟩, trivial⟩ (Zap (by kernel_rfl)))))), trivial⟩, ⟨(Zbd rfl), (Zbd rfl), ⟨rfl, rfl, by first | exact Nat.succ_pos _ | (show 0 < _; decide)⟩, trivial⟩, rfl, rfl, rfl⟩ (by kernel_rfl) (by kernel_rfl) ?_
  refine Zb (.tuple #[mxV ([Iv 0, Iv 0, slv 18 0 0 0, slv 19 0 0 0]), Iv 140]) (Za2 (vs := #[mxV ([Iv 0, Iv 0, slv 18 0 0 0, slv 19 0 0 0]), Iv 140]) (v := mxV ([Iv 0, Iv 0, slv 18 0 0 0, slv 19 0 0 0])) (Za2 (vs := #[mxV ([Iv 0, Iv 0, slv 18 0 0 0, slv 19 0 0 0]), Iv 140]) (v := Iv 140) (Zbf (b := mxB 4 ([Iv 0, Iv 0, .slice none 0 0, .slice none 0 0])) (nid := 20) (H' := [Y23, Y24, rwB Zh [], Y25, Y24, rwB Zh [], Y26, rwB Zj [], rwB Zh [], Y27, rwB Zj [], rwB Zh [], Y28, bxB 110 (Z1 Zcj), rwB Zj [Zcj], Y29, rwB Zh [], Y30, rwB Zj [], rwB Zh [], Y22]) (Z5 (p := pt 20 0) (v := mxV ([Iv 0, Iv 0, slv 18 0 0 0, slv 19 0 0 0])) (b := 20) (blk := mxB 4 ([Iv 0, Iv 0, slv 18 0 0 0, slv 19 0 0 0])) (H' := [Y23, Y24, rwB Zh [], Y25, Y24, rwB Zh [], Y26, rwB Zj [], rwB Zh [], Y27, rwB Zj [], rwB Zh [], Y28, bxB 110 (Z1 Zcj), rwB Zj [Zcj], Y29, rwB Zh [], Y30, rwB Zj [], rwB Zh [], Y31]) (Zc (Iv 140) (Zd (Ze (Zi (Zm (Zl (p := pt 0 0) (v := mxV ([Iv 1, Iv 1, .slice none 0 0, .slice none 0 0])) ?_))))))))))
  refine Zab (e := [none, none]) (nid := 0) (Ze5 (G := G) (⟨1, 1, [], []⟩ : Kept) 0 0 0 0 rfl rfl (by omega) (by omega) (by omega) (by omega)) (vals := [mxV ([Iv 1, Iv 1, .slice none 0 0, .slice none 0 0])]) (v := Iv 0) (H' := [Y23, Y24, rwB Zh [], Y25, Y24, rwB Zh [], Y26, rwB Zj [], rwB Zh [], Y27, rwB Zj [], rwB Zh [], Y28, bxB 110 (Z1 Zcj), rwB Zj [Zcj], Y29, rwB Zh [], Y30, rwB Zj [], rwB Zh [], Y31]) rfl rfl rfl rfl rfl rfl rfl ⟨⟨(Zah (by kernel_rfl) ⟨⟨rfl, rfl⟩, ⟨rfl, rfl⟩, ⟨rfl, rfl, rfl, rfl⟩, ⟨rfl, rfl, rfl, rfl⟩, trivial⟩), trivial⟩, ⟨⟨rfl, rfl, by first | exact Nat.succ_pos _ | (show 0 < _; decide)⟩, ⟨rfl, rfl, by first | exact Nat.succ_pos _ | (show 0 < _; decide)⟩, trivial⟩, rfl, rfl, rfl⟩ (by kernel_rfl) (by kernel_rfl) ?_
  refine Zn (vx := Iv 0) (vy := Iv 0) rfl rfl (.bool true) rfl rfl (Zaj (by omega)) ?_
  refine Zb (.bool true) (Zl (p := pt 0 0) (v := mxV ([Iv 1, Iv 1, .slice none 0 0, .slice none 0 0])) ?_)
  refine Zab (e := [none, none]) (nid := 0) (Zn0 (G := G) (⟨1, 1, [], []⟩ : Kept) 0 0 0 0 rfl rfl (by omega) (by omega) (by omega) (by omega)) (vals := [mxV ([Iv 1, Iv 1, .slice none 0 0, .slice none 0 0])]) (v := Iv 1) (H' := [Y23, Y24, rwB Zh [], Y25, Y24, rwB Zh [], Y26, rwB Zj [], rwB Zh [], Y27, rwB Zj [], rwB Zh [], Y28, bxB 110 (Z1 Zcj), rwB Zj [Zcj], Y29, rwB Zh [], Y30, rwB Zj [], rwB Zh [], Y31]) rfl rfl rfl rfl rfl rfl rfl ⟨⟨(Zah (by kernel_rfl) ⟨⟨rfl, rfl⟩, ⟨rfl, rfl⟩, ⟨rfl, rfl, rfl, rfl⟩, ⟨rfl, rfl, rfl, rfl⟩, trivial⟩), trivial⟩, ⟨⟨rfl, rfl, by first | exact Nat.succ_pos _ | (show 0 < _; decide)⟩, ⟨rfl, rfl, by first | exact Nat.succ_pos _ | (show 0 < _; decide)⟩, trivial⟩, rfl, rfl, rfl⟩ (by kernel_rfl) (by kernel_rfl) ?_
  refine Zn (vx := Iv 1) (vy := Iv 1) rfl rfl (.bool true) rfl rfl (Zaj (by omega)) ?_
  refine Zg (.bool true) (Zb (.bool true) (Zb (Iv 0) ?_))
  refine Zn (vx := Iv 0) (vy := Iv 0) rfl rfl (.bool true) rfl rfl (Zaj (by omega)) ?_
  refine Zg (.bool true) (Zb (.bool true) (Zf (b := 3) (o := 0) (n := 2) (o' := 2) (Zl (p := pt 3 2) (v := slv 1 0 1 1) (Zbg (p := slv 1 0 1 1) (v := Iv 1) ?_))))
  refine Zn (vx := Iv 1) (vy := Iv 1) rfl rfl (.bool true) rfl rfl (Zaj (by omega)) ?_
  refine Zg (.bool true) (Zb (.bool true) (Zb (Iv 0) ?_))
  refine Zn (vx := Iv 0) (vy := Iv 0) rfl rfl (.bool true) rfl rfl (Zaj (by omega)) ?_
  refine Zg (.bool true) (Zb (.bool true) (Zf (b := 6) (o := 0) (n := 0) (o' := 0) (Zl (p := pt 6 0) (v := Iv 3) ?_)))
  refine Zn (vx := Iv 3) (vy := Iv 3) rfl rfl (.bool true) rfl rfl (Zaj (by omega)) ?_
  refine Zg (.bool true) (Zb (.bool true) (Zf (b := 6) (o := 0) (n := 1) (o' := 1) (Zl (p := pt 6 1) (v := Iv 1) ?_)))
  refine Zn (vx := Iv 1) (vy := Iv 1) rfl rfl (.bool true) rfl rfl (Zaj (by omega)) ?_
  refine Zg (.bool true) (Zb (.bool true) (Zb (Iv 140) ?_))
  refine Zn (vx := Iv 140) (vy := Iv 140) rfl rfl (.bool true) rfl rfl (Zaj (by omega)) ?_
  refine Zg (.bool true) (Zb (.bool true) (Zb (Iv 140) ?_))
  refine Zn (vx := Iv 140) (vy := Iv 140) rfl rfl (.bool true) rfl rfl (Zaj (by omega)) ?_
  refine Zg (.bool true) (Zc (.bool true) (Zd (Ze (Zi (Zm (Zb (.bool true) (Zb (.bool true) (Zb (Iv 0) ?_))))))))
  refine Zn (vx := Iv 0) (vy := Iv 0) rfl rfl (.bool true) rfl rfl (Zaj (by omega)) ?_
  refine Zg (.bool true) (Zb (.bool true) (Zf (b := 17) (o := 0) (n := 2) (o' := 2) (Zl (p := pt 17 2) (v := slv 15 0 2 2) (Zbg (p := slv 15 0 2 2) (v := Iv 2) ?_))))
  refine Zn (vx := Iv 2) (vy := Iv 2) rfl rfl (.bool true) rfl rfl (Zaj (by omega)) ?_
  refine Zg (.bool true) (Zb (.bool true) (Zf (b := 17) (o := 0) (n := 1) (o' := 1) (Zl (p := pt 17 1) (v := Iv 3) ?_)))
  refine Zn (vx := Iv 3) (vy := Iv 3) rfl rfl (.bool true) rfl rfl (Zaj (by omega)) ?_
  refine Zg (.bool true) (Zb (.bool true) (Zl (p := pt 17 0) (v := mxV ([Iv 3, Iv 3, slv 15 0 2 2, slv 16 0 0 0])) ?_))
  refine Zab (e := [some (15, 0), some (16, 0)]) (nid := 0) (Zn0 (G := G) (⟨3, 3, [Zdf 1 1, Zcj], []⟩ : Kept) 2 2 0 0 (rfl : _ = 2) rfl (by omega) (by omega) (by omega) (by omega)) (vals := [mxV ([Iv 3, Iv 3, slv 15 0 2 2, slv 16 0 0 0])]) (v := Iv 2) (H' := [Y23, Y24, rwB Zh [], Y25, Y24, rwB Zh [], Y26, rwB Zj [], rwB Zh [], Y27, rwB Zj [], rwB Zh [], Y28, bxB 110 (Z1 Zcj), rwB Zj [Zcj], Y29, rwB Zh [], Y30, rwB Zj [], rwB Zh [], Y31]) rfl rfl rfl rfl rfl rfl rfl ⟨⟨(Zah (by kernel_rfl) ⟨⟨rfl, rfl⟩, ⟨rfl, rfl⟩, ⟨rfl, rfl, rfl, by first | omega | exact Nat.le_refl _, by first | omega | exact Nat.le_refl _⟩, ⟨rfl, rfl, rfl, by first | omega | exact Nat.le_refl _, by first | omega | exact Nat.le_refl _⟩, trivial⟩), trivial⟩, ⟨(Zbd rfl), (Zbd rfl), trivial⟩, rfl, rfl, rfl⟩ (by kernel_rfl) (by kernel_rfl) ?_
  refine Zn (vx := Iv 2) (vy := Iv 2) rfl rfl (.bool true) rfl rfl (Zaj (by omega)) ?_
  refine Zg (.bool true) (Zb (.bool true) (Zb (Iv 140) ?_))
  refine Zn (vx := Iv 140) (vy := Iv 140) rfl rfl (.bool true) rfl rfl (Zaj (by omega)) ?_
  refine Zg (.bool true) (Zb (.bool true) ?_)
  refine Za0 (vs := []) (v := mxV ([Iv 0, Iv 0, .slice none 0 0, .slice none 0 0])) rfl rfl rfl (by kernel_rfl) ?_
  refine Zab (e := [none, none]) (nid := 0) (Ze5 (G := G) (⟨0, 0, [], []⟩ : Kept) 0 0 0 0 rfl rfl (by omega) (by omega) (by omega) (by omega)) (vals := [mxV ([Iv 0, Iv 0, .slice none 0 0, .slice none 0 0])]) (v := Iv 1) (H' := [Y23, Y24, rwB Zh [], Y25, Y24, rwB Zh [], Y26, rwB Zj [], rwB Zh [], Y27, rwB Zj [], rwB Zh [], Y28, bxB 110 (Z1 Zcj), rwB Zj [Zcj], Y29, rwB Zh [], Y30, rwB Zj [], rwB Zh [], Y31]) rfl rfl rfl rfl rfl rfl rfl ⟨⟨(Zah (by kernel_rfl) ⟨⟨rfl, rfl⟩, ⟨rfl, rfl⟩, ⟨rfl, rfl, rfl, rfl⟩, ⟨rfl, rfl, rfl, rfl⟩, trivial⟩), trivial⟩, ⟨⟨rfl, rfl, by first | exact Nat.succ_pos _ | (show 0 < _; decide)⟩, ⟨rfl, rfl, by first | exact Nat.succ_pos _ | (show 0 < _; decide)⟩, trivial⟩, rfl, rfl, rfl⟩ (by kernel_rfl) (by kernel_rfl) ?_
  refine Zn (vx := Iv 1) (vy := Iv 1) rfl rfl (.bool true) rfl rfl (Zaj (by omega)) ?_
  refine Zg (.bool true) (Zc (.bool true) (Zd (Ze (Zs (Zq ?_)))))
  exact Zk (v := .bool true) rfl rfl rfl (by kernel_rfl) rfl
end Go.Flat
