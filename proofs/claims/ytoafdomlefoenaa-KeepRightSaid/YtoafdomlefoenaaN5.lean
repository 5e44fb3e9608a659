/- Walks. -/
import Derived.Test.YtoafdomlefoenaaN4
set_option linter.unusedVariables false
set_option linter.unusedSimpArgs false
set_option maxRecDepth 20000
namespace Go.Flat
open Go.Proofs
variable {G : Glob}
def zI : Item := (⟨0, (⟨0, 0, 0, ⟨#[]⟩, (⟨(⟨0, 0, 0, dz, 0⟩ : Head), 0, dz⟩ : Signed), (⟨0, 0, 0, 0, dz⟩ : Claim)⟩ : Entry)⟩ : Item)
def zC : Claim := (⟨0, 0, 0, 0, dz⟩ : Claim)
def Zi6 (k : Kept) (r : Rec) : Bool := Zgf k.items || (decide (60 < k.claims.length) || (Zgf r.items || decide (1000 < r.item.entry.text.size)))
theorem Znv {k : Kept} {r : Rec} (h : Zgf k.items = true ∨ 60 < k.claims.length ∨ Zgf r.items = true ∨ 1000 < r.item.entry.text.size) : Zi6 k r = true := by
 unfold Zi6
 simp only [Bool.or_eq_true, decide_eq_true_eq]; exact h
theorem Zxp {k : Kept} {r : Rec} (h1 : Zgf k.items = false) (h2 : ¬ 60 < k.claims.length) (h3 : Zgf r.items = false) (h4 : ¬ 1000 < r.item.entry.text.size) : Zi6 k r = false := by
 unfold Zi6; rw [h1, decide_eq_false h2, h3, decide_eq_false h4]; rfl
theorem Zvw {k : Kept} {r : Rec} (h : Zi6 k r = false) : k.items.length ≤ 60 ∧ k.claims.length ≤ 60 ∧ r.items.length ≤ 60 := by
 unfold Zi6 Zgf at h
 simp only [Bool.or_eq_false_iff, decide_eq_false_iff_not] at h
 exact ⟨by omega, by omega, by omega⟩
theorem Zra (k : Kept) : Zfc k k = true := Zwz rfl rfl (Zlz _) (Zp6 _)
def Zcl (ep seq : Int) : Item := (⟨ep, (⟨1, 1, seq, ⟨#[]⟩, (⟨(⟨0, 0, 0, dz, 0⟩ : Head), 0, dz⟩ : Signed), (⟨0, 0, 0, 0, dz⟩ : Claim)⟩ : Entry)⟩ : Item)
def Zbp : Item := (⟨3, (⟨3, 0, 0, ⟨#[]⟩, (⟨(⟨0, 0, 0, dz, 0⟩ : Head), 0, dz⟩ : Signed), (⟨1, 3, 2, 0, dz⟩ : Claim)⟩ : Entry)⟩ : Item)
theorem Zh4 (k : Kept) (c d : Nat) (hc : k.items.length ≤ c) (hd : k.claims.length ≤ d) (hb : k.items.length ≤ 100000) (hb2 : k.claims.length ≤ 100000) (r : Rec) (p q : Nat) (hp : r.items.length = p) (hq : p ≤ q) (hpb : p ≤ 100000) (hk3 : r.kind ≤ 3) {x : Kept × Int} (hx : Zcv k r = x) : Zar Try.prog G 19 [mxV ([Iv k.epoch, Iv k.log, slv 0 0 k.items.length c, slv 1 0 k.claims.length d]), mxV ([Iv r.kind, Iv r.epoch, Iv r.from_] ++ (Zs r.item ++ ([slv 2 0 p q] ++ (Zr r.claim))))] [rwR Zi k.items, rwR Zg k.claims, rwR Zi r.items] (.tuple #[mxV ([Iv x.1.epoch, Iv x.1.log, slv 3 0 x.1.items.length x.1.items.length, slv 4 0 x.1.claims.length x.1.claims.length]), Iv x.2]) [rwR Zi k.items, rwR Zg k.claims, rwR Zi r.items, rwB Zi x.1.items, rwB Zg x.1.claims] := by
 subst hx; exact Zrr k c d hc hd hb hb2 r p q hp hq hpb hk3
theorem Zwf : Zcv (⟨1, 1, [], []⟩ : Kept) (⟨2, 0, 0, Zcl 1 1, [], zC⟩ : Rec) = (⟨1, 1, [Zcl 1 1], []⟩, 0) := by kernel_rfl
theorem Zwg : Zcv (⟨1, 1, [Zcl 1 1], []⟩ : Kept) (⟨1, 3, 0, zI, [], zC⟩ : Rec) = (⟨3, 1, [Zcl 1 1], []⟩, 0) := by kernel_rfl
theorem Zwh : Zcv (⟨3, 1, [Zcl 1 1], []⟩ : Kept) (⟨1, 2, 0, zI, [], zC⟩ : Rec) = (⟨0, 0, [], []⟩, 140) := by kernel_rfl
theorem Zwi : Zcv (⟨3, 1, [Zcl 1 1], []⟩ : Kept) (⟨2, 0, 0, Zcl 3 2, [], zC⟩ : Rec) = (⟨0, 0, [], []⟩, 140) := by kernel_rfl
theorem Zwj : Zcv (⟨3, 1, [Zcl 1 1], []⟩ : Kept) (⟨3, 3, 1, zI, [Zbp], zC⟩ : Rec) = (⟨3, 3, [Zcl 1 1, Zbp], []⟩, 0) := by kernel_rfl
theorem Zwk : Zcv (⟨3, 3, [Zcl 1 1, Zbp], []⟩ : Kept) (⟨3, 4, 0, zI, [], zC⟩ : Rec) = (⟨0, 0, [], []⟩, 140) := by kernel_rfl
theorem Zn7 (k : Kept) : 0 ≤ (Zhd k).2 := by
 unfold Zhd; show (0 : Int) ≤ ite _ _ _; split <;> decide
theorem Zw4 (k : Kept) (r : Rec) : 0 ≤ (Zac k r).2 := by
 unfold Zac
 split
 ·split
  ·show (0 : Int) ≤ 140; decide
  ·exact Zn7 _
 ·split
  ·split
   ·exact Zn7 _
   ·show (0 : Int) ≤ 140; decide
  ·split
   ·show (0 : Int) ≤ 140; decide
   ·split
    ·show (0 : Int) ≤ 141; decide
    ·exact Zn7 _
abbrev Y14 (k : Kept) (n : Nat) (c : Nat) (m : Nat) (d : Nat) : Blk := mxB 4 ([Iv k.epoch, Iv k.log, slv 0 0 n c, slv 1 0 m d])
abbrev Y15 (r : Rec) (p : Nat) (q : Nat) : Blk := mxB 150 ([Iv r.kind, Iv r.epoch, Iv r.from_] ++ (Zs r.item ++ ([slv 2 0 p q] ++ (Zr r.claim))))
theorem Zq9 (k : Kept) (n c m d : Nat) (hn : k.items.length = n) (hm : k.claims.length = m) (hc : n ≤ c) (hd : m ≤ d) (hb : n ≤ 9223372036854775807) (hb2 : m ≤ 9223372036854775807) (r : Rec) (p q : Nat) (hp : r.items.length = p) (hq : p ≤ q) (hpb : p ≤ 9223372036854775807) : Zar Try.prog G 8 [mxV ([Iv k.epoch, Iv k.log, slv 0 0 n c, slv 1 0 m d]), mxV ([Iv r.kind, Iv r.epoch, Iv r.from_] ++ (Zs r.item ++ ([slv 2 0 p q] ++ (Zr r.claim))))] [rwR Zi k.items, rwR Zg k.claims, rwR Zi r.items] (.bool (Zi6 k r)) [rwR Zi k.items, rwR Zg k.claims, rwR Zi r.items] := by
  refine Zcu (fn := Try.f8) (nt := 27) rfl rfl rfl rfl ?_
  refine Zbo 2 (H' := [rwR Zi k.items, rwR Zg k.claims, rwR Zi r.items, hole, hole]) rfl ?_
  refine Zj (Zl (Zbx (v := mxV ([Iv k.epoch, Iv k.log, slv 0 0 n c, slv 1 0 m d])) (b := mxB 4 ([Iv k.epoch, Iv k.log, slv 0 0 n c, slv 1 0 m d])) (nid := 3) (H' := [rwR Zi k.items, rwR Zg k.claims, rwR Zi r.items, Y14 k n c m d, hole]) (Zbx (v := mxV ([Iv r.kind, Iv r.epoch, Iv r.from_] ++ (Zs r.item ++ ([slv 2 0 p q] ++ (Zr r.claim))))) (b := mxB 150 ([Iv r.kind, Iv r.epoch, Iv r.from_] ++ (Zs r.item ++ ([slv 2 0 p q] ++ (Zr r.claim))))) (nid := 4) (H' := [rwR Zi k.items, rwR Zg k.claims, rwR Zi r.items, Y14 k n c m d, Y15 r p q]) (Zc (.bool false) (Zd (Zf (Zj (Zl (Ze (b := 3) (o := 0) (n := 2) (o' := 2) (Zk (p := pt 3 2) (v := slv 0 0 n c) ?_))))))))))
  refine Z7 (e := [some (0, 0)]) (nid := 0) (Zng (G := G) k.items n c hn (by omega) (by omega)) (vals := [slv 0 0 n c]) (v := .bool (Zgf k.items)) (H' := [rwR Zi k.items, rwR Zg k.claims, rwR Zi r.items, Y14 k n c m d, Y15 r p q]) rfl rfl rfl rfl rfl rfl rfl ⟨⟨⟨rfl, rfl, rfl, by first | omega | exact Nat.le_refl _, by first | omega | exact Nat.le_refl _⟩, trivial⟩, ⟨(Zab rfl), trivial⟩, rfl, rfl, rfl⟩ rfl (by kernel_rfl) ?_
  refine Zb (.bool (Zgf k.items)) ?_
  rcases Bool.eq_false_or_eq_true (Zgf k.items) with h1 | h1
  refine Zcx (by exact congrArg (fun b => some (b == false)) h1) rfl ?_
  refine Zcx (by exact congrArg (fun b => some (b == false)) h1) rfl ?_
  refine Zcx (by exact congrArg (fun b => some (b == false)) h1) rfl ?_
  refine Zcx (by exact congrArg (fun b => some (b == false)) h1) rfl ?_
  refine Zey rfl rfl (.bool true) (by show some (if _ then _ else _) = _; rw [h1] <;> rfl) ?_
  refine Zb (.bool true) (Za (Za (Za (Zh (.bool true) (Zb (.bool true) (Za (Za (Za (Za (Za (Za (Zh (.bool true) (Zc (.bool true) (Zd (Zf (Zq (Zp ?_)))))))))))))))))
  rw [show Zi6 k r = true from Znv (by first | exact .inl (by assumption) | exact .inr (.inl (by omega)) | exact .inr (.inr (.inl (by assumption))) | exact .inr (.inr (.inr (by omega))))]
  exact Zm (v := .bool true) rfl rfl rfl (by kernel_rfl) rfl
  refine Za1 (b := 3) (o := 0) (n := 3) (o' := 3) (by exact congrArg (fun b => some (b == false)) h1) rfl rfl rfl rfl ?_
  refine Zca (p := pt 3 3) (v := slv 1 0 m d) (by exact congrArg (fun b => some (b == false)) h1) rfl rfl (by kernel_rfl) ?_
  refine Zlw (p := slv 1 0 m d) (v := Iv (m : Nat)) (by exact congrArg (fun b => some (b == false)) h1) rfl rfl rfl ?_
  by_cases h2 : 60 < (m : Nat)
  refine Zn (vx := Iv (m : Nat)) (vy := Iv 60) (by exact congrArg (fun b => some (b == false)) h1) rfl (.bool true) rfl rfl (Zhn (by omega)) ?_
  refine Zey rfl rfl (.bool true) (by show some (if _ then _ else _) = _; rw [h1] <;> rfl) ?_
  refine Zb (.bool true) (Za (Za (Za (Zh (.bool true) (Zb (.bool true) (Za (Za (Za (Za (Za (Za (Zh (.bool true) (Zc (.bool true) (Zd (Zf (Zq (Zp ?_)))))))))))))))))
  rw [show Zi6 k r = true from Znv (by first | exact .inl (by assumption) | exact .inr (.inl (by omega)) | exact .inr (.inr (.inl (by assumption))) | exact .inr (.inr (.inr (by omega))))]
  exact Zm (v := .bool true) rfl rfl rfl (by kernel_rfl) rfl
  refine Zn (vx := Iv (m : Nat)) (vy := Iv 60) (by exact congrArg (fun b => some (b == false)) h1) rfl (.bool false) rfl rfl (Zgq (by omega)) ?_
  refine Zey rfl rfl (.bool false) (by show some (if _ then _ else _) = _; rw [h1] <;> rfl) ?_
  refine Zb (.bool false) (Ze (b := 4) (o := 0) (n := 113) (o' := 113) (Zk (p := pt 4 113) (v := slv 2 0 p q) ?_))
  refine Z7 (e := [some (2, 0)]) (nid := 0) (Zng (G := G) r.items p q hp (by omega) (by omega)) (vals := [slv 2 0 p q]) (v := .bool (Zgf r.items)) (H' := [rwR Zi k.items, rwR Zg k.claims, rwR Zi r.items, Y14 k n c m d, Y15 r p q]) rfl rfl rfl rfl rfl rfl rfl ⟨⟨⟨rfl, rfl, rfl, by first | omega | exact Nat.le_refl _, by first | omega | exact Nat.le_refl _⟩, trivial⟩, ⟨(Zab rfl), trivial⟩, rfl, rfl, rfl⟩ rfl (by kernel_rfl) ?_
  refine Zh (.bool (Zgf r.items)) (Zb (.bool (Zgf r.items)) ?_)
  rcases Bool.eq_false_or_eq_true (Zgf r.items) with h3 | h3
  refine Zcx (by exact congrArg (fun b => some (b == false)) h3) rfl ?_
  refine Zcx (by exact congrArg (fun b => some (b == false)) h3) rfl ?_
  refine Zcx (by exact congrArg (fun b => some (b == false)) h3) rfl ?_
  refine Zcx (by exact congrArg (fun b => some (b == false)) h3) rfl ?_
  refine Zcx (by exact congrArg (fun b => some (b == false)) h3) rfl ?_
  refine Zcx (by exact congrArg (fun b => some (b == false)) h3) rfl ?_
  refine Zey rfl rfl (.bool true) (by show some (if _ then _ else _) = _; rw [h3] <;> rfl) ?_
  refine Zc (.bool true) (Zd (Zf (Zq (Zp ?_))))
  rw [show Zi6 k r = true from Znv (by first | exact .inl (by assumption) | exact .inr (.inl (by omega)) | exact .inr (.inr (.inl (by assumption))) | exact .inr (.inr (.inr (by omega))))]
  exact Zm (v := .bool true) rfl rfl rfl (by kernel_rfl) rfl
  refine Za1 (b := 4) (o := 0) (n := 3) (o' := 3) (by exact congrArg (fun b => some (b == false)) h3) rfl rfl rfl rfl ?_
  refine Za1 (b := 4) (o := 3) (n := 1) (o' := 4) (by exact congrArg (fun b => some (b == false)) h3) rfl rfl rfl rfl ?_
  refine Za1 (b := 4) (o := 4) (n := 3) (o' := 7) (by exact congrArg (fun b => some (b == false)) h3) rfl rfl rfl rfl ?_
  refine Zca (p := pt 4 7) (v := .string r.item.entry.text) (by exact congrArg (fun b => some (b == false)) h3) rfl rfl (by kernel_rfl) ?_
  refine Zlw (p := .string r.item.entry.text) (v := Iv (r.item.entry.text.size : Nat)) (by exact congrArg (fun b => some (b == false)) h3) rfl rfl rfl ?_
  by_cases h4 : 1000 < (r.item.entry.text.size : Nat)
  refine Zn (vx := Iv (r.item.entry.text.size : Nat)) (vy := Iv 1000) (by exact congrArg (fun b => some (b == false)) h3) rfl (.bool true) rfl rfl (Zhn (by omega)) ?_
  refine Zey rfl rfl (.bool true) (by show some (if _ then _ else _) = _; rw [h3] <;> rfl) ?_
  refine Zc (.bool true) (Zd (Zf (Zq (Zp ?_))))
  rw [show Zi6 k r = true from Znv (by first | exact .inl (by assumption) | exact .inr (.inl (by omega)) | exact .inr (.inr (.inl (by assumption))) | exact .inr (.inr (.inr (by omega))))]
  exact Zm (v := .bool true) rfl rfl rfl (by kernel_rfl) rfl
  refine Zn (vx := Iv (r.item.entry.text.size : Nat)) (vy := Iv 1000) (by exact congrArg (fun b => some (b == false)) h3) rfl (.bool false) rfl rfl (Zgq (by omega)) ?_
  refine Zey rfl rfl (.bool false) (by show some (if _ then _ else _) = _; rw [h3] <;> rfl) ?_
  refine Zc (.bool false) (Zd (Zf (Zq (Zp ?_))))
  rw [show Zi6 k r = false from Zxp (by assumption) (by omega) (by assumption) (by omega)]
  exact Zm (v := .bool false) rfl rfl rfl (by kernel_rfl) rfl
theorem Ztt (ep seq : Int) : Zar Try.prog G 48 [Iv ep, Iv seq] [] (Zao (Zcl ep seq)) [] := by
 refine Zcu (fn := Try.f48) (nt := 9) rfl rfl rfl rfl ?_
 refine Zbo 1 (H' := [hole]) rfl ?_
 refine Zj (Zl (Zbg (b := bxB 110 (Zs (⟨0, (⟨0, 0, 0, ⟨#[]⟩, (⟨(⟨0, 0, 0, dz, 0⟩ : Head), 0, dz⟩ : Signed), (⟨0, 0, 0, 0, dz⟩ : Claim)⟩ : Entry)⟩ : Item))) (nid := 0) (H' := [bxB 110 (Zs (⟨0, (⟨0, 0, 0, ⟨#[]⟩, (⟨(⟨0, 0, 0, dz, 0⟩ : Head), 0, dz⟩ : Signed), (⟨0, 0, 0, 0, dz⟩ : Claim)⟩ : Entry)⟩ : Item))]) (Zd (Zf (Zj (Zl (Zb (Iv ep) (Zb (Iv seq) ?_))))))))
 refine Zbt (vs := [(0, Iv 1), (1, Iv 1), (2, Iv seq)]) (v := Zc7 (⟨1, 1, seq, ⟨#[]⟩, (⟨(⟨0, 0, 0, dz, 0⟩ : Head), 0, dz⟩ : Signed), (⟨0, 0, 0, 0, dz⟩ : Claim)⟩ : Entry)) rfl rfl rfl (by kernel_rfl) ?_
 refine Zbt (vs := [(0, Iv ep), (1, Zc7 (⟨1, 1, seq, ⟨#[]⟩, (⟨(⟨0, 0, 0, dz, 0⟩ : Head), 0, dz⟩ : Signed), (⟨0, 0, 0, 0, dz⟩ : Claim)⟩ : Entry))]) (v := Zao (⟨ep, (⟨1, 1, seq, ⟨#[]⟩, (⟨(⟨0, 0, 0, dz, 0⟩ : Head), 0, dz⟩ : Signed), (⟨0, 0, 0, 0, dz⟩ : Claim)⟩ : Entry)⟩ : Item)) rfl rfl rfl (by kernel_rfl) ?_
 refine Zz (p := pt 0 0) (v := Zao (⟨ep, (⟨1, 1, seq, ⟨#[]⟩, (⟨(⟨0, 0, 0, dz, 0⟩ : Head), 0, dz⟩ : Signed), (⟨0, 0, 0, 0, dz⟩ : Claim)⟩ : Entry)⟩ : Item)) (b := 0) (blk := bxB 110 (Zs (⟨ep, (⟨1, 1, seq, ⟨#[]⟩, (⟨(⟨0, 0, 0, dz, 0⟩ : Head), 0, dz⟩ : Signed), (⟨0, 0, 0, 0, dz⟩ : Claim)⟩ : Entry)⟩ : Item))) (H' := [bxB 110 (Zs (⟨ep, (⟨1, 1, seq, ⟨#[]⟩, (⟨(⟨0, 0, 0, dz, 0⟩ : Head), 0, dz⟩ : Signed), (⟨0, 0, 0, 0, dz⟩ : Claim)⟩ : Entry)⟩ : Item))]) (Zd (Zf (Zq (Zp ?_))))
 exact Zm (v := Zao (⟨ep, (⟨1, 1, seq, ⟨#[]⟩, (⟨(⟨0, 0, 0, dz, 0⟩ : Head), 0, dz⟩ : Signed), (⟨0, 0, 0, 0, dz⟩ : Claim)⟩ : Entry)⟩ : Item)) (by kernel_rfl) rfl rfl (by kernel_rfl) (Zj1 (by kernel_rfl) rfl)
theorem Zm7 (ep seq : Int) : Zar Try.prog G 30 [Iv ep, Iv seq] [] (mxV ([Iv 2, Iv 0, Iv 0] ++ (Zs (Zcl ep seq) ++ ([.slice none 0 0] ++ (Zr (⟨0, 0, 0, 0, dz⟩ : Claim)))))) [] := by
 refine Zcu (fn := Try.f30) (nt := 9) rfl rfl rfl rfl ?_
 refine Zbo 1 (H' := [hole]) rfl ?_
 refine Zj (Zl (Zbg (b := mxB 150 ([Iv 0, Iv 0, Iv 0] ++ (Zs (⟨0, (⟨0, 0, 0, ⟨#[]⟩, (⟨(⟨0, 0, 0, dz, 0⟩ : Head), 0, dz⟩ : Signed), (⟨0, 0, 0, 0, dz⟩ : Claim)⟩ : Entry)⟩ : Item) ++ ([.slice none 0 0] ++ (Zr (⟨0, 0, 0, 0, dz⟩ : Claim)))))) (nid := 0) (H' := [mxB 150 ([Iv 0, Iv 0, Iv 0] ++ (Zs (⟨0, (⟨0, 0, 0, ⟨#[]⟩, (⟨(⟨0, 0, 0, dz, 0⟩ : Head), 0, dz⟩ : Signed), (⟨0, 0, 0, 0, dz⟩ : Claim)⟩ : Entry)⟩ : Item) ++ ([.slice none 0 0] ++ (Zr (⟨0, 0, 0, 0, dz⟩ : Claim)))))]) (Zd (Zf (Zj (Zl (Zb (Iv ep) (Zb (Iv seq) ?_))))))))
 refine Zt (Ztt (G := G) ep seq) (vals := [Iv ep, Iv seq]) (res' := Zao (Zcl ep seq)) rfl rfl rfl rfl rfl rfl ?_
 refine Zbt (vs := [(0, Iv 2), (3, Zao (Zcl ep seq))]) (v := mxV ([Iv 2, Iv 0, Iv 0] ++ (Zs (Zcl ep seq) ++ ([.slice none 0 0] ++ (Zr (⟨0, 0, 0, 0, dz⟩ : Claim)))))) rfl rfl rfl (by kernel_rfl) ?_
 refine Zz (p := pt 0 0) (v := mxV ([Iv 2, Iv 0, Iv 0] ++ (Zs (Zcl ep seq) ++ ([.slice none 0 0] ++ (Zr (⟨0, 0, 0, 0, dz⟩ : Claim)))))) (b := 0) (blk := mxB 150 ([Iv 2, Iv 0, Iv 0] ++ (Zs (Zcl ep seq) ++ ([.slice none 0 0] ++ (Zr (⟨0, 0, 0, 0, dz⟩ : Claim)))))) (H' := [mxB 150 ([Iv 2, Iv 0, Iv 0] ++ (Zs (Zcl ep seq) ++ ([.slice none 0 0] ++ (Zr (⟨0, 0, 0, 0, dz⟩ : Claim)))))]) (Zd (Zf (Zq (Zp ?_))))
 exact Zm (v := mxV ([Iv 2, Iv 0, Iv 0] ++ (Zs (Zcl ep seq) ++ ([.slice none 0 0] ++ (Zr (⟨0, 0, 0, 0, dz⟩ : Claim)))))) rfl rfl rfl (by kernel_rfl) (Zj1 (by kernel_rfl) rfl)
abbrev Y16  : Blk := mxB 4 ([Iv 0, Iv 0, .slice none 0 0, .slice none 0 0])
abbrev Y17  : Blk := mxB 4 ([Iv 1, Iv 1, .slice none 0 0, .slice none 0 0])
abbrev Y18  : Blk := rwB Zi [Zcl 1 1]
abbrev Y19  : Blk := mxB 4 ([Iv 1, Iv 1, slv 1 0 1 1, slv 2 0 0 0])
abbrev Y20  : Blk := mxB 4 ([Iv 3, Iv 1, slv 4 0 1 1, slv 5 0 0 0])
abbrev Y21  : Blk := mxB 4 ([Iv 0, Iv 0, slv 7 0 0 0, slv 8 0 0 0])
abbrev Y22  : Blk := mxB 4 ([Iv 0, Iv 0, slv 10 0 0 0, slv 11 0 0 0])
abbrev Y23  : Blk := rwB Zi [Zcl 1 1, Zbp]
abbrev Y24  : Blk := mxB 4 ([Iv 3, Iv 3, slv 15 0 2 2, slv 16 0 0 0])
abbrev Y25  : Blk := mxB 4 ([Iv 0, Iv 0, slv 18 0 0 0, slv 19 0 0 0])
theorem Zln  : Zar Try.prog G 11 [] [] (.bool true) [] := by
  refine Zcu (fn := Try.f11) (nt := 128) rfl rfl rfl rfl ?_
  refine Zbo 21 (H' := [hole, hole, hole, hole, hole, hole, hole, hole, hole, hole, hole, hole, hole, hole, hole, hole, hole, hole, hole, hole, hole]) rfl ?_
  refine Zj (Zl (Zc (.bool false) (Zd (Zf (Zj (Zl ?_))))))
  refine Zt (Zxn (G := G)) (vals := []) (res' := mxV ([Iv 1, Iv 1, .slice none 0 0, .slice none 0 0])) rfl rfl rfl rfl rfl rfl ?_
  refine Zbg (b := mxB 4 ([Iv 0, Iv 0, .slice none 0 0, .slice none 0 0])) (nid := 0) (H' := [Y16, hole, hole, hole, hole, hole, hole, hole, hole, hole, hole, hole, hole, hole, hole, hole, hole, hole, hole, hole, hole]) (Zz (p := pt 0 0) (v := mxV ([Iv 1, Iv 1, .slice none 0 0, .slice none 0 0])) (b := 0) (blk := mxB 4 ([Iv 1, Iv 1, .slice none 0 0, .slice none 0 0])) (H' := [Y17, hole, hole, hole, hole, hole, hole, hole, hole, hole, hole, hole, hole, hole, hole, hole, hole, hole, hole, hole, hole]) (Zd (Zf (Zj ?_))))
  refine Zdg (by kernel_rfl) ?_
  refine Zk (p := pt 0 0) (v := mxV ([Iv 1, Iv 1, .slice none 0 0, .slice none 0 0])) ?_
  refine Zt (Zm7 (G := G) 1 1) (vals := [Iv 1, Iv 1]) (res' := mxV ([Iv 2, Iv 0, Iv 0] ++ (Zs (Zcl 1 1) ++ ([.slice none 0 0] ++ (Zr (⟨0, 0, 0, 0, dz⟩ : Claim)))))) rfl rfl rfl rfl rfl rfl ?_
  refine Z7 (e := [none, none, none]) (nid := 1) (Zh4 (G := G) (⟨1, 1, [], []⟩ : Kept) 0 0 (by decide) (by decide) (by decide) (by decide) (⟨2, 0, 0, (Zcl 1 1), [], (⟨0, 0, 0, 0, dz⟩ : Claim)⟩ : Rec) 0 0 rfl (by decide) (by decide) (show (2 : Int) ≤ 3 by decide) Zwf) (vals := [mxV ([Iv 1, Iv 1, .slice none 0 0, .slice none 0 0]), mxV ([Iv 2, Iv 0, Iv 0] ++ (Zs (Zcl 1 1) ++ ([.slice none 0 0] ++ (Zr (⟨0, 0, 0, 0, dz⟩ : Claim)))))]) (v := .tuple #[mxV ([Iv 1, Iv 1, slv 1 0 1 1, slv 2 0 0 0]), Iv 0]) (H' := [Y17, Y18, rwB Zg [], hole, hole, hole, hole, hole, hole, hole, hole, hole, hole, hole, hole, hole, hole, hole, hole, hole, hole]) rfl rfl rfl rfl rfl rfl rfl ⟨⟨(Zag (by kernel_rfl) ⟨⟨rfl, rfl⟩, ⟨rfl, rfl⟩, ⟨rfl, rfl, rfl, rfl⟩, ⟨rfl, rfl, rfl, rfl⟩, trivial⟩), (Zag (by kernel_rfl) (Z9 ⟨⟨rfl, rfl⟩, ⟨rfl, rfl⟩, ⟨rfl, rfl⟩, trivial⟩ (Z9 (Zai (by kernel_rfl)) (Z9 ⟨⟨rfl, rfl, rfl, rfl⟩, trivial⟩ (Zai (by kernel_rfl)))))), trivial⟩, ⟨⟨rfl, rfl, by first | exact Nat.succ_pos _ | (show 0 < _; decide)⟩, ⟨rfl, rfl, by first | exact Nat.succ_pos _ | (show 0 < _; decide)⟩, ⟨rfl, rfl, by first | exact Nat.succ_pos _ | (show 0 < _; decide)⟩, trivial⟩, rfl, rfl, rfl⟩ (by kernel_rfl) (by kernel_rfl) ?_
  refine Zb (.tuple #[mxV ([Iv 1, Iv 1, slv 1 0 1 1, slv 2 0 0 0]), Iv 0]) (Zau (vs := #[mxV ([Iv 1, Iv 1, slv 1 0 1 1, slv 2 0 0 0]), Iv 0]) (v := mxV ([Iv 1, Iv 1, slv 1 0 1 1, slv 2 0 0 0])) (Zau (vs := #[mxV ([Iv 1, Iv 1, slv 1 0 1 1, slv 2 0 0 0]), Iv 0]) (v := Iv 0) (Zbg (b := mxB 4 ([Iv 0, Iv 0, .slice none 0 0, .slice none 0 0])) (nid := 3) (H' := [Y17, Y18, rwB Zg [], Y16, hole, hole, hole, hole, hole, hole, hole, hole, hole, hole, hole, hole, hole, hole, hole, hole, hole]) (Zz (p := pt 3 0) (v := mxV ([Iv 1, Iv 1, slv 1 0 1 1, slv 2 0 0 0])) (b := 3) (blk := mxB 4 ([Iv 1, Iv 1, slv 1 0 1 1, slv 2 0 0 0])) (H' := [Y17, Y18, rwB Zg [], Y19, hole, hole, hole, hole, hole, hole, hole, hole, hole, hole, hole, hole, hole, hole, hole, hole, hole]) (Zc (Iv 0) ?_)))))
  refine Za9 (Zap [[], [], [0, 1], [0, 1, 2], [0, 1, 2, 3], [0, 1, 2, 3], [], [0, 1, 2, 3, 4, 6], [0, 1, 2, 3, 4, 5, 6, 7]] (by kernel_rfl) (by kernel_rfl)) ?_
  refine Zf (Zj (Zl (Zk (p := pt 3 0) (v := mxV ([Iv 1, Iv 1, slv 1 0 1 1, slv 2 0 0 0])) ?_)))
  refine Zbt (vs := [(0, Iv 1), (1, Iv 3)]) (v := mxV ([Iv 1, Iv 3, Iv 0] ++ (Zs (⟨0, (⟨0, 0, 0, ⟨#[]⟩, (⟨(⟨0, 0, 0, dz, 0⟩ : Head), 0, dz⟩ : Signed), (⟨0, 0, 0, 0, dz⟩ : Claim)⟩ : Entry)⟩ : Item) ++ ([.slice none 0 0] ++ (Zr (⟨0, 0, 0, 0, dz⟩ : Claim)))))) rfl rfl rfl (by kernel_rfl) ?_
  refine Z7 (e := [some (1, 0), some (2, 0), none]) (nid := 4) (Zh4 (G := G) (⟨1, 1, [Zcl 1 1], []⟩ : Kept) 1 0 (by decide) (by decide) (by decide) (by decide) (⟨1, 3, 0, (⟨0, (⟨0, 0, 0, ⟨#[]⟩, (⟨(⟨0, 0, 0, dz, 0⟩ : Head), 0, dz⟩ : Signed), (⟨0, 0, 0, 0, dz⟩ : Claim)⟩ : Entry)⟩ : Item), [], (⟨0, 0, 0, 0, dz⟩ : Claim)⟩ : Rec) 0 0 rfl (by decide) (by decide) (show (1 : Int) ≤ 3 by decide) Zwg) (vals := [mxV ([Iv 1, Iv 1, slv 1 0 1 1, slv 2 0 0 0]), mxV ([Iv 1, Iv 3, Iv 0] ++ (Zs (⟨0, (⟨0, 0, 0, ⟨#[]⟩, (⟨(⟨0, 0, 0, dz, 0⟩ : Head), 0, dz⟩ : Signed), (⟨0, 0, 0, 0, dz⟩ : Claim)⟩ : Entry)⟩ : Item) ++ ([.slice none 0 0] ++ (Zr (⟨0, 0, 0, 0, dz⟩ : Claim)))))]) (v := .tuple #[mxV ([Iv 3, Iv 1, slv 4 0 1 1, slv 5 0 0 0]), Iv 0]) (H' := [Y17, Y18, rwB Zg [], Y19, Y18, rwB Zg [], hole, hole, hole, hole, hole, hole, hole, hole, hole, hole, hole, hole, hole, hole, hole]) rfl rfl rfl rfl rfl rfl rfl ⟨⟨(Zag (by kernel_rfl) ⟨⟨rfl, rfl⟩, ⟨rfl, rfl⟩, ⟨rfl, rfl, (by first | rfl | omega), by first | omega | exact Nat.le_refl _, by first | omega | exact Nat.le_refl _⟩, ⟨rfl, rfl, (by first | rfl | omega), by first | omega | exact Nat.le_refl _, by first | omega | exact Nat.le_refl _⟩, trivial⟩), (Zag (by kernel_rfl) (Z9 ⟨⟨rfl, rfl⟩, ⟨rfl, rfl⟩, ⟨rfl, rfl⟩, trivial⟩ (Z9 (Zai (by kernel_rfl)) (Z9 ⟨⟨rfl, rfl, rfl, rfl⟩, trivial⟩ (Zai (by kernel_rfl)))))), trivial⟩, ⟨(Za7 rfl), (Za7 rfl), ⟨rfl, rfl, by first | exact Nat.succ_pos _ | (show 0 < _; decide)⟩, trivial⟩, rfl, rfl, rfl⟩ (by kernel_rfl) (by kernel_rfl) ?_
  refine Zb (.tuple #[mxV ([Iv 3, Iv 1, slv 4 0 1 1, slv 5 0 0 0]), Iv 0]) (Zau (vs := #[mxV ([Iv 3, Iv 1, slv 4 0 1 1, slv 5 0 0 0]), Iv 0]) (v := mxV ([Iv 3, Iv 1, slv 4 0 1 1, slv 5 0 0 0])) (Zau (vs := #[mxV ([Iv 3, Iv 1, slv 4 0 1 1, slv 5 0 0 0]), Iv 0]) (v := Iv 0) (Zbg (b := mxB 4 ([Iv 0, Iv 0, .slice none 0 0, .slice none 0 0])) (nid := 6) (H' := [Y17, Y18, rwB Zg [], Y19, Y18, rwB Zg [], Y16, hole, hole, hole, hole, hole, hole, hole, hole, hole, hole, hole, hole, hole, hole]) (Zz (p := pt 6 0) (v := mxV ([Iv 3, Iv 1, slv 4 0 1 1, slv 5 0 0 0])) (b := 6) (blk := mxB 4 ([Iv 3, Iv 1, slv 4 0 1 1, slv 5 0 0 0])) (H' := [Y17, Y18, rwB Zg [], Y19, Y18, rwB Zg [], Y20, hole, hole, hole, hole, hole, hole, hole, hole, hole, hole, hole, hole, hole, hole]) (Zc (Iv 0) (Zd (Zf (Zj (Zl (Zk (p := pt 6 0) (v := mxV ([Iv 3, Iv 1, slv 4 0 1 1, slv 5 0 0 0])) ?_))))))))))
  refine Zbt (vs := [(0, Iv 1), (1, Iv 2)]) (v := mxV ([Iv 1, Iv 2, Iv 0] ++ (Zs (⟨0, (⟨0, 0, 0, ⟨#[]⟩, (⟨(⟨0, 0, 0, dz, 0⟩ : Head), 0, dz⟩ : Signed), (⟨0, 0, 0, 0, dz⟩ : Claim)⟩ : Entry)⟩ : Item) ++ ([.slice none 0 0] ++ (Zr (⟨0, 0, 0, 0, dz⟩ : Claim)))))) rfl rfl rfl (by kernel_rfl) ?_
  refine Z7 (e := [some (4, 0), some (5, 0), none]) (nid := 7) (Zh4 (G := G) (⟨3, 1, [Zcl 1 1], []⟩ : Kept) 1 0 (by decide) (by decide) (by decide) (by decide) (⟨1, 2, 0, (⟨0, (⟨0, 0, 0, ⟨#[]⟩, (⟨(⟨0, 0, 0, dz, 0⟩ : Head), 0, dz⟩ : Signed), (⟨0, 0, 0, 0, dz⟩ : Claim)⟩ : Entry)⟩ : Item), [], (⟨0, 0, 0, 0, dz⟩ : Claim)⟩ : Rec) 0 0 rfl (by decide) (by decide) (show (1 : Int) ≤ 3 by decide) Zwh) (vals := [mxV ([Iv 3, Iv 1, slv 4 0 1 1, slv 5 0 0 0]), mxV ([Iv 1, Iv 2, Iv 0] ++ (Zs (⟨0, (⟨0, 0, 0, ⟨#[]⟩, (⟨(⟨0, 0, 0, dz, 0⟩ : Head), 0, dz⟩ : Signed), (⟨0, 0, 0, 0, dz⟩ : Claim)⟩ : Entry)⟩ : Item) ++ ([.slice none 0 0] ++ (Zr (⟨0, 0, 0, 0, dz⟩ : Claim)))))]) (v := .tuple #[mxV ([Iv 0, Iv 0, slv 7 0 0 0, slv 8 0 0 0]), Iv 140]) (H' := [Y17, Y18, rwB Zg [], Y19, Y18, rwB Zg [], Y20, rwB Zi [], rwB Zg [], hole, hole, hole, hole, hole, hole, hole, hole, hole, hole, hole, hole]) rfl rfl rfl rfl rfl rfl rfl ⟨⟨(Zag (by kernel_rfl) ⟨⟨rfl, rfl⟩, ⟨rfl, rfl⟩, ⟨rfl, rfl, (by first | rfl | omega), by first | omega | exact Nat.le_refl _, by first | omega | exact Nat.le_refl _⟩, ⟨rfl, rfl, (by first | rfl | omega), by first | omega | exact Nat.le_refl _, by first | omega | exact Nat.le_refl _⟩, trivial⟩), (Zag (by kernel_rfl) (Z9 ⟨⟨rfl, rfl⟩, ⟨rfl, rfl⟩, ⟨rfl, rfl⟩, trivial⟩ (Z9 (Zai (by kernel_rfl)) (Z9 ⟨⟨rfl, rfl, rfl, rfl⟩, trivial⟩ (Zai (by kernel_rfl)))))), trivial⟩, ⟨(Za7 rfl), (Za7 rfl), ⟨rfl, rfl, by first | exact Nat.succ_pos _ | (show 0 < _; decide)⟩, trivial⟩, rfl, rfl, rfl⟩ (by kernel_rfl) (by kernel_rfl) ?_
  refine Zb (.tuple #[mxV ([Iv 0, Iv 0, slv 7 0 0 0, slv 8 0 0 0]), Iv 140]) (Zau (vs := #[mxV ([Iv 0, Iv 0, slv 7 0 0 0, slv 8 0 0 0]), Iv 140]) (v := mxV ([Iv 0, Iv 0, slv 7 0 0 0, slv 8 0 0 0])) (Zau (vs := #[mxV ([Iv 0, Iv 0, slv 7 0 0 0, slv 8 0 0 0]), Iv 140]) (v := Iv 140) (Zbg (b := mxB 4 ([Iv 0, Iv 0, .slice none 0 0, .slice none 0 0])) (nid := 9) (H' := [Y17, Y18, rwB Zg [], Y19, Y18, rwB Zg [], Y20, rwB Zi [], rwB Zg [], Y16, hole, hole, hole, hole, hole, hole, hole, hole, hole, hole, hole]) (Zz (p := pt 9 0) (v := mxV ([Iv 0, Iv 0, slv 7 0 0 0, slv 8 0 0 0])) (b := 9) (blk := mxB 4 ([Iv 0, Iv 0, slv 7 0 0 0, slv 8 0 0 0])) (H' := [Y17, Y18, rwB Zg [], Y19, Y18, rwB Zg [], Y20, rwB Zi [], rwB Zg [], Y21, hole, hole, hole, hole, hole, hole, hole, hole, hole, hole, hole]) (Zc (Iv 140) (Zd (Zf (Zj ?_))))))))
  refine Zdg (by kernel_rfl) ?_
  refine Zk (p := pt 6 0) (v := mxV ([Iv 3, Iv 1, slv 4 0 1 1, slv 5 0 0 0])) ?_
  refine Zt (Zm7 (G := G) 3 2) (vals := [Iv 3, Iv 2]) (res' := mxV ([Iv 2, Iv 0, Iv 0] ++ (Zs (Zcl 3 2) ++ ([.slice none 0 0] ++ (Zr (⟨0, 0, 0, 0, dz⟩ : Claim)))))) rfl rfl rfl rfl rfl rfl ?_
  refine Z7 (e := [some (4, 0), some (5, 0), none]) (nid := 10) (Zh4 (G := G) (⟨3, 1, [Zcl 1 1], []⟩ : Kept) 1 0 (by decide) (by decide) (by decide) (by decide) (⟨2, 0, 0, (Zcl 3 2), [], (⟨0, 0, 0, 0, dz⟩ : Claim)⟩ : Rec) 0 0 rfl (by decide) (by decide) (show (2 : Int) ≤ 3 by decide) Zwi) (vals := [mxV ([Iv 3, Iv 1, slv 4 0 1 1, slv 5 0 0 0]), mxV ([Iv 2, Iv 0, Iv 0] ++ (Zs (Zcl 3 2) ++ ([.slice none 0 0] ++ (Zr (⟨0, 0, 0, 0, dz⟩ : Claim)))))]) (v := .tuple #[mxV ([Iv 0, Iv 0, slv 10 0 0 0, slv 11 0 0 0]), Iv 140]) (H' := [Y17, Y18, rwB Zg [], Y19, Y18, rwB Zg [], Y20, rwB Zi [], rwB Zg [], Y21, rwB Zi [], rwB Zg [], hole, hole, hole, hole, hole, hole, hole, hole, hole]) rfl rfl rfl rfl rfl rfl rfl ⟨⟨(Zag (by kernel_rfl) ⟨⟨rfl, rfl⟩, ⟨rfl, rfl⟩, ⟨rfl, rfl, (by first | rfl | omega), by first | omega | exact Nat.le_refl _, by first | omega | exact Nat.le_refl _⟩, ⟨rfl, rfl, (by first | rfl | omega), by first | omega | exact Nat.le_refl _, by first | omega | exact Nat.le_refl _⟩, trivial⟩), (Zag (by kernel_rfl) (Z9 ⟨⟨rfl, rfl⟩, ⟨rfl, rfl⟩, ⟨rfl, rfl⟩, trivial⟩ (Z9 (Zai (by kernel_rfl)) (Z9 ⟨⟨rfl, rfl, rfl, rfl⟩, trivial⟩ (Zai (by kernel_rfl)))))), trivial⟩, ⟨(Za7 rfl), (Za7 rfl), ⟨rfl, rfl, by first | exact Nat.succ_pos _ | (show 0 < _; decide)⟩, trivial⟩, rfl, rfl, rfl⟩ (by kernel_rfl) (by kernel_rfl) ?_
  refine Zb (.tuple #[mxV ([Iv 0, Iv 0, slv 10 0 0 0, slv 11 0 0 0]), Iv 140]) (Zau (vs := #[mxV ([Iv 0, Iv 0, slv 10 0 0 0, slv 11 0 0 0]), Iv 140]) (v := mxV ([Iv 0, Iv 0, slv 10 0 0 0, slv 11 0 0 0])) (Zau (vs := #[mxV ([Iv 0, Iv 0, slv 10 0 0 0, slv 11 0 0 0]), Iv 140]) (v := Iv 140) (Zbg (b := mxB 4 ([Iv 0, Iv 0, .slice none 0 0, .slice none 0 0])) (nid := 12) (H' := [Y17, Y18, rwB Zg [], Y19, Y18, rwB Zg [], Y20, rwB Zi [], rwB Zg [], Y21, rwB Zi [], rwB Zg [], Y16, hole, hole, hole, hole, hole, hole, hole, hole]) (Zz (p := pt 12 0) (v := mxV ([Iv 0, Iv 0, slv 10 0 0 0, slv 11 0 0 0])) (b := 12) (blk := mxB 4 ([Iv 0, Iv 0, slv 10 0 0 0, slv 11 0 0 0])) (H' := [Y17, Y18, rwB Zg [], Y19, Y18, rwB Zg [], Y20, rwB Zi [], rwB Zg [], Y21, rwB Zi [], rwB Zg [], Y22, hole, hole, hole, hole, hole, hole, hole, hole]) (Zc (Iv 140) ?_)))))
  refine Za9 (Zap [[], [], [0, 1], [0, 1, 2], [0, 1, 2, 3], [0, 1, 2, 3], [], [0, 1, 2, 3, 4, 6], [0, 1, 2, 3, 4, 5, 6, 7]] (by kernel_rfl) (by kernel_rfl)) ?_
  refine Zf (Zj (Zl ?_))
  refine Zbt (vs := [(0, Iv 1), (1, Iv 3), (2, Iv 2)]) (v := Zy (⟨1, 3, 2, 0, dz⟩ : Claim)) rfl rfl rfl (by kernel_rfl) ?_
  refine Zbt (vs := [(0, Iv 3), (5, Zy (⟨1, 3, 2, 0, dz⟩ : Claim))]) (v := Zc7 (⟨3, 0, 0, ⟨#[]⟩, (⟨(⟨0, 0, 0, dz, 0⟩ : Head), 0, dz⟩ : Signed), (⟨1, 3, 2, 0, dz⟩ : Claim)⟩ : Entry)) rfl rfl rfl (by kernel_rfl) ?_
  refine Zbt (vs := [(0, Iv 3), (1, Zc7 (⟨3, 0, 0, ⟨#[]⟩, (⟨(⟨0, 0, 0, dz, 0⟩ : Head), 0, dz⟩ : Signed), (⟨1, 3, 2, 0, dz⟩ : Claim)⟩ : Entry))]) (v := Zao (⟨3, (⟨3, 0, 0, ⟨#[]⟩, (⟨(⟨0, 0, 0, dz, 0⟩ : Head), 0, dz⟩ : Signed), (⟨1, 3, 2, 0, dz⟩ : Claim)⟩ : Entry)⟩ : Item)) rfl rfl rfl (by kernel_rfl) ?_
  refine Zbg (b := bxB 110 (Zs (⟨0, (⟨0, 0, 0, ⟨#[]⟩, (⟨(⟨0, 0, 0, dz, 0⟩ : Head), 0, dz⟩ : Signed), (⟨0, 0, 0, 0, dz⟩ : Claim)⟩ : Entry)⟩ : Item))) (nid := 13) (H' := [Y17, Y18, rwB Zg [], Y19, Y18, rwB Zg [], Y20, rwB Zi [], rwB Zg [], Y21, rwB Zi [], rwB Zg [], Y22, bxB 110 (Zs (⟨0, (⟨0, 0, 0, ⟨#[]⟩, (⟨(⟨0, 0, 0, dz, 0⟩ : Head), 0, dz⟩ : Signed), (⟨0, 0, 0, 0, dz⟩ : Claim)⟩ : Entry)⟩ : Item)), hole, hole, hole, hole, hole, hole, hole]) (Zz (p := pt 13 0) (v := Zao (⟨3, (⟨3, 0, 0, ⟨#[]⟩, (⟨(⟨0, 0, 0, dz, 0⟩ : Head), 0, dz⟩ : Signed), (⟨1, 3, 2, 0, dz⟩ : Claim)⟩ : Entry)⟩ : Item)) (b := 13) (blk := bxB 110 (Zs (⟨3, (⟨3, 0, 0, ⟨#[]⟩, (⟨(⟨0, 0, 0, dz, 0⟩ : Head), 0, dz⟩ : Signed), (⟨1, 3, 2, 0, dz⟩ : Claim)⟩ : Entry)⟩ : Item))) (H' := [Y17, Y18, rwB Zg [], Y19, Y18, rwB Zg [], Y20, rwB Zi [], rwB Zg [], Y21, rwB Zi [], rwB Zg [], Y22, bxB 110 (Zs (⟨3, (⟨3, 0, 0, ⟨#[]⟩, (⟨(⟨0, 0, 0, dz, 0⟩ : Head), 0, dz⟩ : Signed), (⟨1, 3, 2, 0, dz⟩ : Claim)⟩ : Entry)⟩ : Item)), hole, hole, hole, hole, hole, hole, hole]) (Zd (Zf (Zj ?_))))
  refine Zxr (H' := [Y17, Y18, rwB Zg [], Y19, Y18, rwB Zg [], Y20, rwB Zi [], rwB Zg [], Y21, rwB Zi [], rwB Zg [], Y22, bxB 110 (Zs Zbp), hole, hole, hole, hole, hole, hole, hole]) rfl ?_
  refine Zl (Zk (p := pt 6 0) (v := mxV ([Iv 3, Iv 1, slv 4 0 1 1, slv 5 0 0 0])) (Zk (p := pt 13 0) (v := Zao Zbp) ?_))
  refine Zp0 (vs := [(0, Zao Zbp)]) (v := slv 14 0 1 1) (blk := rwB Zi [Zbp]) (nid := 14) (H' := [Y17, Y18, rwB Zg [], Y19, Y18, rwB Zg [], Y20, rwB Zi [], rwB Zg [], Y21, rwB Zi [], rwB Zg [], Y22, bxB 110 (Zs Zbp), rwB Zi [Zbp], hole, hole, hole, hole, hole, hole]) rfl rfl rfl (by kernel_rfl) (by kernel_rfl) ?_
  refine Zbt (vs := [(0, Iv 3), (1, Iv 3), (2, Iv 1), (4, slv 14 0 1 1)]) (v := mxV ([Iv 3, Iv 3, Iv 1] ++ (Zs (⟨0, (⟨0, 0, 0, ⟨#[]⟩, (⟨(⟨0, 0, 0, dz, 0⟩ : Head), 0, dz⟩ : Signed), (⟨0, 0, 0, 0, dz⟩ : Claim)⟩ : Entry)⟩ : Item) ++ ([slv 14 0 1 1] ++ (Zr (⟨0, 0, 0, 0, dz⟩ : Claim)))))) rfl rfl rfl (by kernel_rfl) ?_
  refine Z7 (e := [some (4, 0), some (5, 0), some (14, 0)]) (nid := 15) (Zh4 (G := G) (⟨3, 1, [Zcl 1 1], []⟩ : Kept) 1 0 (by decide) (by decide) (by decide) (by decide) (⟨3, 3, 1, (⟨0, (⟨0, 0, 0, ⟨#[]⟩, (⟨(⟨0, 0, 0, dz, 0⟩ : Head), 0, dz⟩ : Signed), (⟨0, 0, 0, 0, dz⟩ : Claim)⟩ : Entry)⟩ : Item), [Zbp], (⟨0, 0, 0, 0, dz⟩ : Claim)⟩ : Rec) 1 1 rfl (by decide) (by decide) (show (3 : Int) ≤ 3 by decide) Zwj) (vals := [mxV ([Iv 3, Iv 1, slv 4 0 1 1, slv 5 0 0 0]), mxV ([Iv 3, Iv 3, Iv 1] ++ (Zs (⟨0, (⟨0, 0, 0, ⟨#[]⟩, (⟨(⟨0, 0, 0, dz, 0⟩ : Head), 0, dz⟩ : Signed), (⟨0, 0, 0, 0, dz⟩ : Claim)⟩ : Entry)⟩ : Item) ++ ([slv 14 0 1 1] ++ (Zr (⟨0, 0, 0, 0, dz⟩ : Claim)))))]) (v := .tuple #[mxV ([Iv 3, Iv 3, slv 15 0 2 2, slv 16 0 0 0]), Iv 0]) (H' := [Y17, Y18, rwB Zg [], Y19, Y18, rwB Zg [], Y20, rwB Zi [], rwB Zg [], Y21, rwB Zi [], rwB Zg [], Y22, bxB 110 (Zs Zbp), rwB Zi [Zbp], Y23, rwB Zg [], hole, hole, hole, hole]) rfl rfl rfl rfl rfl rfl rfl ⟨⟨(Zag (by kernel_rfl) ⟨⟨rfl, rfl⟩, ⟨rfl, rfl⟩, ⟨rfl, rfl, (by first | rfl | omega), by first | omega | exact Nat.le_refl _, by first | omega | exact Nat.le_refl _⟩, ⟨rfl, rfl, (by first | rfl | omega), by first | omega | exact Nat.le_refl _, by first | omega | exact Nat.le_refl _⟩, trivial⟩), (Zag (by kernel_rfl) (Z9 ⟨⟨rfl, rfl⟩, ⟨rfl, rfl⟩, ⟨rfl, rfl⟩, trivial⟩ (Z9 (Zai (by kernel_rfl)) (Z9 ⟨⟨rfl, rfl, (by first | rfl | omega), by first | omega | exact Nat.le_refl _, by first | omega | exact Nat.le_refl _⟩, trivial⟩ (Zai (by kernel_rfl)))))), trivial⟩, ⟨(Za7 rfl), (Za7 rfl), (Za7 rfl), trivial⟩, rfl, rfl, rfl⟩ (by kernel_rfl) (by kernel_rfl) ?_
  refine Zb (.tuple #[mxV ([Iv 3, Iv 3, slv 15 0 2 2, slv 16 0 0 0]), Iv 0]) (Zau (vs := #[mxV ([Iv 3, Iv 3, slv 15 0 2 2, slv 16 0 0 0]), Iv 0]) (v := mxV ([Iv 3, Iv 3, slv 15 0 2 2, slv 16 0 0 0])) (Zau (vs := #[mxV ([Iv 3, Iv 3, slv 15 0 2 2, slv 16 0 0 0]), Iv 0]) (v := Iv 0) (Zbg (b := mxB 4 ([Iv 0, Iv 0, .slice none 0 0, .slice none 0 0])) (nid := 17) (H' := [Y17, Y18, rwB Zg [], Y19, Y18, rwB Zg [], Y20, rwB Zi [], rwB Zg [], Y21, rwB Zi [], rwB Zg [], Y22, bxB 110 (Zs Zbp), rwB Zi [Zbp], Y23, rwB Zg [], Y16, hole, hole, hole]) (Zz (p := pt 17 0) (v := mxV ([Iv 3, Iv 3, slv 15 0 2 2, slv 16 0 0 0])) (b := 17) (blk := mxB 4 ([Iv 3, Iv 3, slv 15 0 2 2, slv 16 0 0 0])) (H' := [Y17, Y18, rwB Zg [], Y19, Y18, rwB Zg [], Y20, rwB Zi [], rwB Zg [], Y21, rwB Zi [], rwB Zg [], Y22, bxB 110 (Zs Zbp), rwB Zi [Zbp], Y23, rwB Zg [], Y24, hole, hole, hole]) (Zc (Iv 0) (Zd (Zf (Zj (Zl (Zk (p := pt 17 0) (v := mxV ([Iv 3, Iv 3, slv 15 0 2 2, slv 16 0 0 0])) ?_))))))))))
  refine Zbt (vs := [(0, Iv 3), (1, Iv 4)]) (v := mxV ([Iv 3, Iv 4, Iv 0] ++ (Zs (⟨0, (⟨0, 0, 0, ⟨#[]⟩, (⟨(⟨0, 0, 0, dz, 0⟩ : Head), 0, dz⟩ : Signed), (⟨0, 0, 0, 0, dz⟩ : Claim)⟩ : Entry)⟩ : Item) ++ ([.slice none 0 0] ++ (Zr (⟨0, 0, 0, 0, dz⟩ : Claim)))))) rfl rfl rfl (by kernel_rfl) ?_
  refine Z7 (e := [some (15, 0), some (16, 0), none]) (nid := 18) (Zh4 (G := G) (⟨3, 3, [Zcl 1 1, Zbp], []⟩ : Kept) 2 0 (by decide) (by decide) (by decide) (by decide) (⟨3, 4, 0, (⟨0, (⟨0, 0, 0, ⟨#[]⟩, (⟨(⟨0, 0, 0, dz, 0⟩ : Head), 0, dz⟩ : Signed), (⟨0, 0, 0, 0, dz⟩ : Claim)⟩ : Entry)⟩ : Item), [], (⟨0, 0, 0, 0, dz⟩ : Claim)⟩ : Rec) 0 0 rfl (by decide) (by decide) (show (3 : Int) ≤ 3 by decide) Zwk) (vals := [mxV ([Iv 3, Iv 3, slv 15 0 2 2, slv 16 0 0 0]), mxV ([Iv 3, Iv 4, Iv 0] ++ (Zs (⟨0, (⟨0, 0, 0, ⟨#[]⟩, (⟨(⟨0, 0, 0, dz, 0⟩ : Head), 0, dz⟩ : Signed), (⟨0, 0, 0, 0, dz⟩ : Claim)⟩ : Entry)⟩ : Item) ++ ([.slice none 0 0] ++ (Zr (⟨0, 0, 0, 0, dz⟩ : Claim)))))]) (v := .tuple #[mxV ([Iv 0, Iv 0, slv 18 0 0 0, slv 19 0 0 0]), Iv 140]) (H' := [Y17, Y18, rwB Zg [], Y19, Y18, rwB Zg [], Y20, rwB Zi [], rwB Zg [], Y21, rwB Zi [], rwB Zg [], Y22, bxB 110 (Zs Zbp), rwB Zi [Zbp], Y23, rwB Zg [], Y24, rwB Zi [], rwB Zg [], hole]) rfl rfl rfl rfl rfl rfl rfl ⟨⟨(Zag (by kernel_rfl) ⟨⟨rfl, rfl⟩, ⟨rfl, rfl⟩, ⟨rfl, rfl, (by first | rfl | omega), by first | omega | exact Nat.le_refl _, by first | omega | exact Nat.le_refl _⟩, ⟨rfl, rfl, (by first | rfl | omega), by first | omega | exact Nat.le_refl _, by first | omega | exact Nat.le_refl _⟩, trivial⟩), (Zag (by kernel_rfl) (Z9 ⟨⟨rfl, rfl⟩, ⟨rfl, rfl⟩, ⟨rfl, rfl⟩, trivial⟩ (Z9 (Zai (by kernel_rfl)) (Z9 ⟨⟨rfl, rfl, rfl, rfl⟩, trivial⟩ (Zai (by kernel_rfl)))))), trivial⟩, ⟨(Za7 rfl), (Za7 rfl), ⟨rfl, rfl, by first | exact Nat.succ_pos _ | (show 0 < _; decide)⟩, trivial⟩, rfl, rfl, rfl⟩ (by kernel_rfl) (by kernel_rfl) ?_
  refine Zb (.tuple #[mxV ([Iv 0, Iv 0, slv 18 0 0 0, slv 19 0 0 0]), Iv 140]) (Zau (vs := #[mxV ([Iv 0, Iv 0, slv 18 0 0 0, slv 19 0 0 0]), Iv 140]) (v := mxV ([Iv 0, Iv 0, slv 18 0 0 0, slv 19 0 0 0])) (Zau (vs := #[mxV ([Iv 0, Iv 0, slv 18 0 0 0, slv 19 0 0 0]), Iv 140]) (v := Iv 140) (Zbg (b := mxB 4 ([Iv 0, Iv 0, .slice none 0 0, .slice none 0 0])) (nid := 20) (H' := [Y17, Y18, rwB Zg [], Y19, Y18, rwB Zg [], Y20, rwB Zi [], rwB Zg [], Y21, rwB Zi [], rwB Zg [], Y22, bxB 110 (Zs Zbp), rwB Zi [Zbp], Y23, rwB Zg [], Y24, rwB Zi [], rwB Zg [], Y16]) (Zz (p := pt 20 0) (v := mxV ([Iv 0, Iv 0, slv 18 0 0 0, slv 19 0 0 0])) (b := 20) (blk := mxB 4 ([Iv 0, Iv 0, slv 18 0 0 0, slv 19 0 0 0])) (H' := [Y17, Y18, rwB Zg [], Y19, Y18, rwB Zg [], Y20, rwB Zi [], rwB Zg [], Y21, rwB Zi [], rwB Zg [], Y22, bxB 110 (Zs Zbp), rwB Zi [Zbp], Y23, rwB Zg [], Y24, rwB Zi [], rwB Zg [], Y25]) (Zc (Iv 140) (Zd (Zf (Zj (Zl (Zk (p := pt 0 0) (v := mxV ([Iv 1, Iv 1, .slice none 0 0, .slice none 0 0])) ?_))))))))))
  refine Z7 (e := [none, none]) (nid := 0) (Zcp (G := G) (⟨1, 1, [], []⟩ : Kept) 0 0 0 0 rfl rfl (by omega) (by omega) (by omega) (by omega)) (vals := [mxV ([Iv 1, Iv 1, .slice none 0 0, .slice none 0 0])]) (v := Iv 0) (H' := [Y17, Y18, rwB Zg [], Y19, Y18, rwB Zg [], Y20, rwB Zi [], rwB Zg [], Y21, rwB Zi [], rwB Zg [], Y22, bxB 110 (Zs Zbp), rwB Zi [Zbp], Y23, rwB Zg [], Y24, rwB Zi [], rwB Zg [], Y25]) rfl rfl rfl rfl rfl rfl rfl ⟨⟨(Zag (by kernel_rfl) ⟨⟨rfl, rfl⟩, ⟨rfl, rfl⟩, ⟨rfl, rfl, rfl, rfl⟩, ⟨rfl, rfl, rfl, rfl⟩, trivial⟩), trivial⟩, ⟨⟨rfl, rfl, by first | exact Nat.succ_pos _ | (show 0 < _; decide)⟩, ⟨rfl, rfl, by first | exact Nat.succ_pos _ | (show 0 < _; decide)⟩, trivial⟩, rfl, rfl, rfl⟩ (by kernel_rfl) (by kernel_rfl) ?_
  refine Zn (vx := Iv 0) (vy := Iv 0) rfl rfl (.bool true) rfl rfl (Zaw (by omega)) ?_
  refine Zb (.bool true) (Zk (p := pt 0 0) (v := mxV ([Iv 1, Iv 1, .slice none 0 0, .slice none 0 0])) ?_)
  refine Z7 (e := [none, none]) (nid := 0) (Zmp (G := G) (⟨1, 1, [], []⟩ : Kept) 0 0 0 0 rfl rfl (by omega) (by omega) (by omega) (by omega)) (vals := [mxV ([Iv 1, Iv 1, .slice none 0 0, .slice none 0 0])]) (v := Iv 1) (H' := [Y17, Y18, rwB Zg [], Y19, Y18, rwB Zg [], Y20, rwB Zi [], rwB Zg [], Y21, rwB Zi [], rwB Zg [], Y22, bxB 110 (Zs Zbp), rwB Zi [Zbp], Y23, rwB Zg [], Y24, rwB Zi [], rwB Zg [], Y25]) rfl rfl rfl rfl rfl rfl rfl ⟨⟨(Zag (by kernel_rfl) ⟨⟨rfl, rfl⟩, ⟨rfl, rfl⟩, ⟨rfl, rfl, rfl, rfl⟩, ⟨rfl, rfl, rfl, rfl⟩, trivial⟩), trivial⟩, ⟨⟨rfl, rfl, by first | exact Nat.succ_pos _ | (show 0 < _; decide)⟩, ⟨rfl, rfl, by first | exact Nat.succ_pos _ | (show 0 < _; decide)⟩, trivial⟩, rfl, rfl, rfl⟩ (by kernel_rfl) (by kernel_rfl) ?_
  refine Zn (vx := Iv 1) (vy := Iv 1) rfl rfl (.bool true) rfl rfl (Zaw (by omega)) ?_
  refine Zh (.bool true) (Zb (.bool true) (Zb (Iv 0) ?_))
  refine Zn (vx := Iv 0) (vy := Iv 0) rfl rfl (.bool true) rfl rfl (Zaw (by omega)) ?_
  refine Zh (.bool true) (Zb (.bool true) (Ze (b := 3) (o := 0) (n := 2) (o' := 2) (Zk (p := pt 3 2) (v := slv 1 0 1 1) (Zbd (p := slv 1 0 1 1) (v := Iv 1) ?_))))
  refine Zn (vx := Iv 1) (vy := Iv 1) rfl rfl (.bool true) rfl rfl (Zaw (by omega)) ?_
  refine Zh (.bool true) (Zb (.bool true) (Zb (Iv 0) ?_))
  refine Zn (vx := Iv 0) (vy := Iv 0) rfl rfl (.bool true) rfl rfl (Zaw (by omega)) ?_
  refine Zh (.bool true) (Zb (.bool true) (Ze (b := 6) (o := 0) (n := 0) (o' := 0) (Zk (p := pt 6 0) (v := Iv 3) ?_)))
  refine Zn (vx := Iv 3) (vy := Iv 3) rfl rfl (.bool true) rfl rfl (Zaw (by omega)) ?_
  refine Zh (.bool true) (Zb (.bool true) (Ze (b := 6) (o := 0) (n := 1) (o' := 1) (Zk (p := pt 6 1) (v := Iv 1) ?_)))
  refine Zn (vx := Iv 1) (vy := Iv 1) rfl rfl (.bool true) rfl rfl (Zaw (by omega)) ?_
  refine Zh (.bool true) (Zb (.bool true) (Zb (Iv 140) ?_))
  refine Zn (vx := Iv 140) (vy := Iv 140) rfl rfl (.bool true) rfl rfl (Zaw (by omega)) ?_
  refine Zh (.bool true) (Zb (.bool true) (Zb (Iv 140) ?_))
  refine Zn (vx := Iv 140) (vy := Iv 140) rfl rfl (.bool true) rfl rfl (Zaw (by omega)) ?_
  refine Zh (.bool true) (Zc (.bool true) (Zd (Zf (Zj (Zl (Zb (.bool true) (Zb (.bool true) (Zb (Iv 0) ?_))))))))
  refine Zn (vx := Iv 0) (vy := Iv 0) rfl rfl (.bool true) rfl rfl (Zaw (by omega)) ?_
  refine Zh (.bool true) (Zb (.bool true) (Ze (b := 17) (o := 0) (n := 2) (o' := 2) (Zk (p := pt 17 2) (v := slv 15 0 2 2) (Zbd (p := slv 15 0 2 2) (v := Iv 2) ?_))))
  refine Zn (vx := Iv 2) (vy := Iv 2) rfl rfl (.bool true) rfl rfl (Zaw (by omega)) ?_
  refine Zh (.bool true) (Zb (.bool true) (Ze (b := 17) (o := 0) (n := 1) (o' := 1) (Zk (p := pt 17 1) (v := Iv 3) ?_)))
  refine Zn (vx := Iv 3) (vy := Iv 3) rfl rfl (.bool true) rfl rfl (Zaw (by omega)) ?_
  refine Zh (.bool true) (Zb (.bool true) (Zk (p := pt 17 0) (v := mxV ([Iv 3, Iv 3, slv 15 0 2 2, slv 16 0 0 0])) ?_))
  refine Z7 (e := [some (15, 0), some (16, 0)]) (nid := 0) (Zmp (G := G) (⟨3, 3, [Zcl 1 1, Zbp], []⟩ : Kept) 2 2 0 0 (rfl : _ = 2) rfl (by omega) (by omega) (by omega) (by omega)) (vals := [mxV ([Iv 3, Iv 3, slv 15 0 2 2, slv 16 0 0 0])]) (v := Iv 2) (H' := [Y17, Y18, rwB Zg [], Y19, Y18, rwB Zg [], Y20, rwB Zi [], rwB Zg [], Y21, rwB Zi [], rwB Zg [], Y22, bxB 110 (Zs Zbp), rwB Zi [Zbp], Y23, rwB Zg [], Y24, rwB Zi [], rwB Zg [], Y25]) rfl rfl rfl rfl rfl rfl rfl ⟨⟨(Zag (by kernel_rfl) ⟨⟨rfl, rfl⟩, ⟨rfl, rfl⟩, ⟨rfl, rfl, rfl, by first | omega | exact Nat.le_refl _, by first | omega | exact Nat.le_refl _⟩, ⟨rfl, rfl, rfl, by first | omega | exact Nat.le_refl _, by first | omega | exact Nat.le_refl _⟩, trivial⟩), trivial⟩, ⟨(Za7 rfl), (Za7 rfl), trivial⟩, rfl, rfl, rfl⟩ (by kernel_rfl) (by kernel_rfl) ?_
  refine Zn (vx := Iv 2) (vy := Iv 2) rfl rfl (.bool true) rfl rfl (Zaw (by omega)) ?_
  refine Zh (.bool true) (Zb (.bool true) (Zb (Iv 140) ?_))
  refine Zn (vx := Iv 140) (vy := Iv 140) rfl rfl (.bool true) rfl rfl (Zaw (by omega)) ?_
  refine Zh (.bool true) (Zb (.bool true) ?_)
  refine Zbt (vs := []) (v := mxV ([Iv 0, Iv 0, .slice none 0 0, .slice none 0 0])) rfl rfl rfl (by kernel_rfl) ?_
  refine Z7 (e := [none, none]) (nid := 0) (Zcp (G := G) (⟨0, 0, [], []⟩ : Kept) 0 0 0 0 rfl rfl (by omega) (by omega) (by omega) (by omega)) (vals := [mxV ([Iv 0, Iv 0, .slice none 0 0, .slice none 0 0])]) (v := Iv 1) (H' := [Y17, Y18, rwB Zg [], Y19, Y18, rwB Zg [], Y20, rwB Zi [], rwB Zg [], Y21, rwB Zi [], rwB Zg [], Y22, bxB 110 (Zs Zbp), rwB Zi [Zbp], Y23, rwB Zg [], Y24, rwB Zi [], rwB Zg [], Y25]) rfl rfl rfl rfl rfl rfl rfl ⟨⟨(Zag (by kernel_rfl) ⟨⟨rfl, rfl⟩, ⟨rfl, rfl⟩, ⟨rfl, rfl, rfl, rfl⟩, ⟨rfl, rfl, rfl, rfl⟩, trivial⟩), trivial⟩, ⟨⟨rfl, rfl, by first | exact Nat.succ_pos _ | (show 0 < _; decide)⟩, ⟨rfl, rfl, by first | exact Nat.succ_pos _ | (show 0 < _; decide)⟩, trivial⟩, rfl, rfl, rfl⟩ (by kernel_rfl) (by kernel_rfl) ?_
  refine Zn (vx := Iv 1) (vy := Iv 1) rfl rfl (.bool true) rfl rfl (Zaw (by omega)) ?_
  refine Zh (.bool true) (Zc (.bool true) (Zd (Zf (Zq (Zp ?_)))))
  exact Zm (v := .bool true) rfl rfl rfl (by kernel_rfl) rfl
end Go.Flat
