/- Walks. -/
import Derived.Test.YtfjkagjbanhdlaaDoorE2
import Derived.Test.YtfjkagjbanhdlaaDoorH9
set_option linter.unusedVariables false
set_option linter.unusedSimpArgs false
set_option maxRecDepth 20000
namespace Go.Flat
open Go.Proofs
variable {G : Glob}
theorem Zyf (l : List Item) (i : Nat) (h : i < l.length) : l.drop i = l.getD i default :: l.drop (i + 1) := by
 rw [List.drop_eq_getElem_cons h, List.getD_eq_getElem?_getD, List.getElem?_eq_getElem h]; rfl
def Zju : Int → List Item → Bool
  | _, [] => true
  | ep, x :: l => decide (Zd1 x) && decide (ep ≤ x.epoch) && Zju x.epoch l
def Zin (l : List Item) : Prop := l.length ≤ 2000 ∧ Zju 0 l = true
instance (l : List Item) : Decidable (Zin l) := inferInstanceAs (Decidable (_ ∧ _))
def Zop (l : List Item) : Int := if Zin l then 0 else 100
theorem Zpj {l : List Item} (h : Zop l = 0) : Zin l := by
 unfold Zop at h
 split at h
 ·assumption
 ·omega
theorem Z02 {l : List Item} (h : ¬ Zop l = 0) : ¬ Zin l := fun q => h (if_pos q)
theorem Zwt {ep : Int} {l : List Item} {i : Nat} {R : Bool} (hR : Zju ep (l.drop i) = R) (hi : i < l.length) (h1 : Zd1 (l.getD i default)) (h2 : ep ≤ (l.getD i default).epoch) : Zju (l.getD i default).epoch (l.drop (i + 1)) = R := by
 rw [Zyf l i hi, Zju, decide_eq_true h1, decide_eq_true h2] at hR; simpa using hR
theorem Znu {ep : Int} {l : List Item} {i : Nat} {R : Bool} (hR : Zju ep (l.drop i) = R) (hi : i < l.length) (h : ¬ (Zd1 (l.getD i default) ∧ ep ≤ (l.getD i default).epoch)) : R = false := by
 rw [Zyf l i hi, Zju] at hR
 rw [← hR]
 by_cases h1 : Zd1 (l.getD i default)
 ·rw [decide_eq_false (fun q => h ⟨h1, q⟩ : ¬ ep ≤ (l.getD i default).epoch)]; simp
 ·rw [decide_eq_false h1]; simp
def prevE (l : List Item) (i : Nat) : Int := if i = 0 then 0 else (l.getD (i - 1) default).epoch
def Z7u (x : Item) : Bool := decide (1000 < x.entry.text.size)
def bigB (l : List Item) : Bool := decide (60 < l.length) || l.any Z7u
def sameL (l m : List Item) : Bool := decide (l.length = m.length) && (List.range l.length).all fun i => Znr (l.getD i default) (m.getD i default)
theorem Zga (n low high : Int) : Z9 Tryd.prog G 48 [Iv n, Iv low, Iv high] [] (.bool (Zdj n low high)) [] := by
 refine Zbu (fn := Tryd.f48) (nt := 15) rfl rfl rfl rfl ?_
 refine Ze (Zf (Zb (.bool false) (Za (Zc (Ze (Zf (Zd (Iv n) (Zd (Iv low) ?_))))))))
 by_cases h1 : low ≤ n
 refine Zj (vx := Iv n) (vy := Iv low) rfl rfl (.bool true) rfl rfl (Zgy (by omega)) ?_
 refine Zd (.bool true) (Zd (Iv n) (Zd (Iv high) ?_))
 by_cases h2 : n ≤ high
 refine Zj (vx := Iv n) (vy := Iv high) rfl rfl (.bool true) rfl rfl (Zup (by omega)) ?_
 refine Zl (.bool true) (Zb (.bool true) (Za (Zc (Zs (Zu ?_)))))
 rw [show Zdj n low high = true from Zb8 (by omega) (by omega)]
 exact Zm (v := .bool true) rfl rfl rfl (by kernel_rfl) rfl
 refine Zj (vx := Iv n) (vy := Iv high) rfl rfl (.bool false) rfl rfl (Zuo (by omega)) ?_
 refine Zl (.bool false) (Zb (.bool false) (Za (Zc (Zs (Zu ?_)))))
 rw [show Zdj n low high = false from Zao (by omega)]
 exact Zm (v := .bool false) rfl rfl rfl (by kernel_rfl) rfl
 refine Zj (vx := Iv n) (vy := Iv low) rfl rfl (.bool false) rfl rfl (Zhi (by omega)) ?_
 refine Zd (.bool false) (Zg (Zg (Zg (Zl (.bool false) (Zb (.bool false) (Za (Zc (Zs (Zu ?_)))))))))
 rw [show Zdj n low high = false from Zao (by omega)]
 exact Zm (v := .bool false) rfl rfl rfl (by kernel_rfl) rfl
theorem Z2u (x : Item) : Z9 Tryd.prog G 31 [Zbq x] [] (.bool (decide (Zd1 x))) [] := by
  refine Zbu (fn := Tryd.f31) (nt := 12) rfl rfl rfl rfl ?_
  refine Zaj 1 (H' := [hole]) rfl ?_
  refine Ze (Zf (Zci (v := Zbq x) (b := bxB 110 (Zr x)) (nid := 0) (H' := [bxB 110 (Zr x)]) (Zb (.bool false) (Za (Zc (Ze (Zf (Zi (b := 0) (o := 0) (n := 0) (o' := 0) (Zn (p := pt 0 0) (v := Iv x.epoch) ?_)))))))))
  by_cases h1 : 1 ≤ x.epoch
  by_cases h2 : x.epoch ≤ 900000000
  refine Zp ((Zga (G := G) x.epoch 1 900000000).res (congrArg Value.bool (Zb8 (by omega) (by omega)))) (vals := [Iv x.epoch, Iv 1, Iv 900000000]) (res' := .bool true) rfl rfl rfl rfl rfl rfl ?_
  refine Zd (.bool true) (Zi (b := 0) (o := 0) (n := 1) (o' := 1) (Zn (p := pt 0 1) (v := Zcy x.entry) ?_))
  refine Zp (Zod (G := G) x.entry) (vals := [Zcy x.entry]) (res' := Iv (Ze0 x.entry)) rfl rfl rfl rfl rfl rfl ?_
  by_cases h3 : (Ze0 x.entry) = 0
  refine Zj (vx := Iv (Ze0 x.entry)) (vy := Iv 0) rfl rfl (.bool true) rfl rfl (Zeb (by omega)) ?_
  refine Zl (.bool true) (Zb (.bool true) (Za (Zc (Zs (Zu ?_)))))
  rw [show decide (Zd1 x) = true from decide_eq_true ⟨by omega, by omega, Ztx (by omega)⟩]
  exact Zm (v := .bool true) rfl rfl rfl (by kernel_rfl) rfl
  refine Zj (vx := Iv (Ze0 x.entry)) (vy := Iv 0) rfl rfl (.bool false) rfl rfl (Zgm (by omega)) ?_
  refine Zl (.bool false) (Zb (.bool false) (Za (Zc (Zs (Zu ?_)))))
  rw [show decide (Zd1 x) = false from decide_eq_false (fun q => by first | (have := q.1; have := q.2.1; omega) | (exact Zj4 (by omega) q.2.2))]
  exact Zm (v := .bool false) rfl rfl rfl (by kernel_rfl) rfl
  refine Zp ((Zga (G := G) x.epoch 1 900000000).res (congrArg Value.bool (Zao (by omega)))) (vals := [Iv x.epoch, Iv 1, Iv 900000000]) (res' := .bool false) rfl rfl rfl rfl rfl rfl ?_
  refine Zd (.bool false) (Zg (Zg (Zg (Zg (Zl (.bool false) (Zb (.bool false) (Za (Zc (Zs (Zu ?_))))))))))
  rw [show decide (Zd1 x) = false from decide_eq_false (fun q => by first | (have := q.1; have := q.2.1; omega) | (exact Zj4 (by omega) q.2.2))]
  exact Zm (v := .bool false) rfl rfl rfl (by kernel_rfl) rfl
  refine Zp ((Zga (G := G) x.epoch 1 900000000).res (congrArg Value.bool (Zao (by omega)))) (vals := [Iv x.epoch, Iv 1, Iv 900000000]) (res' := .bool false) rfl rfl rfl rfl rfl rfl ?_
  refine Zd (.bool false) (Zg (Zg (Zg (Zg (Zl (.bool false) (Zb (.bool false) (Za (Zc (Zs (Zu ?_))))))))))
  rw [show decide (Zd1 x) = false from decide_eq_false (fun q => by first | (have := q.1; have := q.2.1; omega) | (exact Zj4 (by omega) q.2.2))]
  exact Zm (v := .bool false) rfl rfl rfl (by kernel_rfl) rfl
theorem Zy3 (l : List Item) (n c : Nat) (hn : l.length = n) (hc : n ≤ c) (hb : n ≤ 1048576) : Z9 Tryd.prog G 13 [slv 0 0 n c] [rwR Zx l] (Iv (Zop l)) [rwR Zx l] := by
  refine Zbu (fn := Tryd.f13) (nt := 27) rfl rfl rfl rfl ?_
  refine Ze (Zf (Zb (Iv 0) (Za (Zc (Ze (Zf (Zb (Iv 0) (Za (Zc (Ze (Ze (Zf (Zd (slv 0 0 n c) (Zc3 (p := slv 0 0 n c) (v := Iv (n : Nat)) (Zd (Iv 0) (Za (Zc (Z5 ?_))))))))))))))))))
  refine Zck (fun x : Nat × Int => match x with | (i, ep) => [slv 0 0 n c, dead, dead, Iv ep, dead, dead, slv 0 0 n c, Iv (n : Nat), Iv (i : Nat)]) (fun x : Nat × Int => match x with | (i, ep) => [rwR Zx l]) (fun x : Nat × Int => match x with | (i, ep) => Zju ep (l.drop i) = Zju 0 l ∧ i ≤ n) (fun x : Nat × Int => match x with | (i, ep) => n - i) (0, 0) ⟨rfl, by omega⟩ ?_ ?_
  · refine Zam (n := 1) rfl ?_ (by kernel_rfl) (by kernel_rfl)
    repeat (first | exact trivial | refine ⟨.inl rfl, ?_⟩ | refine ⟨.inr ⟨rfl, rfl⟩, ?_⟩ | refine ⟨.inr ⟨congrArg (Value.int .i64) (by first | omega | (dsimp only; omega)), rfl⟩, ?_⟩)
  rintro ⟨i, ep⟩ ⟨hR, hi⟩
  dsimp only at *
  refine Zaj 2 (H' := [rwR Zx l, hole, hole]) rfl ?_
  refine Ze (Zf ?_)
  by_cases h1 : (i : Nat) < (n : Nat)
  refine Zj (vx := Iv (i : Nat)) (vy := Iv (n : Nat)) rfl rfl (.bool true) rfl rfl (Zdd (by omega)) ?_
  refine Za (Zc (Ze (Zv rfl (Z0 (Zc (Ze (Z5 (Ze (Zf ?_)))))))))
  refine Zbs (b := 0) (o := 0) (j := i * 110) (m := n) (c := c) (sz := 110) (i := (i : Nat)) (k := .i64) rfl rfl rfl rfl rfl (by omega) (by omega) (by omega) ?_
  refine Zal (p := pt 0 (i * 110)) (v := Zbq (l.getD i default)) rfl rfl rfl (Zmn (n := 0) (m := 110) Zx rfl rfl rfl rfl (by have := hn; omega) (by omega)) ?_
  refine Zai (b := bxB 110 (Zr (⟨0, (⟨0, 0, 0, ⟨#[]⟩, (⟨(⟨0, 0, 0, dz, 0⟩ : Head), 0, dz⟩ : Signed), (⟨0, 0, 0, 0, dz⟩ : Claim)⟩ : Entry)⟩ : Item))) (nid := 1) (H' := [rwR Zx l, bxB 110 (Zr (⟨0, (⟨0, 0, 0, ⟨#[]⟩, (⟨(⟨0, 0, 0, dz, 0⟩ : Head), 0, dz⟩ : Signed), (⟨0, 0, 0, 0, dz⟩ : Claim)⟩ : Entry)⟩ : Item)), hole]) (Z2 (p := pt 1 0) (v := Zbq (l.getD i default)) (b := 1) (blk := bxB 110 (Zr (l.getD i default))) (H' := [rwR Zx l, bxB 110 (Zr (l.getD i default)), hole]) (Za (Zc (Ze (Ze (Zf (Zn (p := pt 1 0) (v := Zbq (l.getD i default)) ?_)))))))
  refine Zp (Z2u (G := G) (l.getD i default)) (vals := [Zbq (l.getD i default)]) (res' := .bool (decide (Zd1 (l.getD i default)))) rfl rfl rfl rfl rfl rfl ?_
  rcases Bool.eq_false_or_eq_true (decide (Zd1 (l.getD i default))) with h2 | h2
  refine Zi1 (vx := .bool (decide (Zd1 (l.getD i default)))) rfl rfl (.bool false) rfl (Eq.trans Zeu (congrArg (fun b => some (Value.bool !b)) h2)) ?_
  refine Zd (.bool false) (Zi (b := 1) (o := 0) (n := 0) (o' := 0) (Zn (p := pt 1 0) (v := Iv ((l.getD i default).epoch)) (Zd (Iv ep) ?_)))
  by_cases h3 : ((l.getD i default).epoch) < ep
  refine Zj (vx := Iv ((l.getD i default).epoch)) (vy := Iv ep) rfl rfl (.bool true) rfl rfl (Zdd (by omega)) ?_
  refine Zl (.bool true) (Za (Zc (Zv rfl (Ze (Zf (Zb (Iv 100) (Za (Zc (Zs (Zaa (Zct (Zaa (Zen (Zct (Zaa (Zu ?_))))))))))))))))
  rw [show Zop l = 100 from if_neg (fun q => by have q1 := q.1; have q2 := q.2; first | omega | (rw [Znu hR (by omega) (fun r => by first | (have := r.2; omega) | exact absurd r.1 (of_decide_eq_false (by assumption)))] at q2; cases q2))]
  exact Zm (v := Iv 100) rfl rfl rfl (by kernel_rfl) rfl
  refine Zj (vx := Iv ((l.getD i default).epoch)) (vy := Iv ep) rfl rfl (.bool false) rfl rfl (Zcw (by omega)) ?_
  refine Zl (.bool false) (Za (Zc (Zt rfl (Z0 (Zc (Zf (Zi (b := 1) (o := 0) (n := 0) (o' := 0) (Zn (p := pt 1 0) (v := Iv ((l.getD i default).epoch)) (Zb (Iv ((l.getD i default).epoch)) (Za (Zz (Zc (Zf ?_)))))))))))))
  refine Zj (vx := Iv (i : Nat)) (vy := Iv 1) rfl rfl (Iv ((i : Nat) + 1)) rfl rfl (Za0 (by omega) (by omega) (by omega)) ?_
  refine Zd (Iv ((i : Nat) + 1)) (Za ?_)
  refine Zas ⟨((i + 1), ((l.getD i default).epoch)), ⟨Zwt hR (by omega) (of_decide_eq_true (by assumption)) (by omega), by omega⟩, by show n - (i + 1) < n - i; omega, ?_⟩
  refine Zam (n := 1) rfl ?_ (by kernel_rfl) (by kernel_rfl)
  repeat (first | exact trivial | refine ⟨.inl rfl, ?_⟩ | refine ⟨.inr ⟨rfl, rfl⟩, ?_⟩ | refine ⟨.inr ⟨congrArg (Value.int .i64) (by first | omega | (dsimp only; omega)), rfl⟩, ?_⟩)
  refine Zi1 (vx := .bool (decide (Zd1 (l.getD i default)))) rfl rfl (.bool true) rfl (Eq.trans Zeu (congrArg (fun b => some (Value.bool !b)) h2)) ?_
  refine Zd (.bool true) (Zg (Zg (Zg (Zg (Zl (.bool true) (Za (Zc (Zv rfl (Ze (Zf (Zb (Iv 100) (Za (Zc (Zs (Zaa (Zct (Zaa (Zen (Zct (Zaa (Zu ?_)))))))))))))))))))))
  rw [show Zop l = 100 from if_neg (fun q => by have q1 := q.1; have q2 := q.2; first | omega | (rw [Znu hR (by omega) (fun r => by first | (have := r.2; omega) | exact absurd r.1 (of_decide_eq_false (by assumption)))] at q2; cases q2))]
  exact Zm (v := Iv 100) rfl rfl rfl (by kernel_rfl) rfl
  refine Zj (vx := Iv (i : Nat)) (vy := Iv (n : Nat)) rfl rfl (.bool false) rfl rfl (Zcw (by omega)) ?_
  refine Za (Zc (Ze (Zt rfl (Zbn (Zat (Za3 (Zay rfl (Zc (Ze (Ze (Zf (Zd (slv 0 0 n c) (Zc3 (p := slv 0 0 n c) (v := Iv (n : Nat)) ?_)))))))))))))
  by_cases h4 : 2000 < (n : Nat)
  refine Zj (vx := Iv (n : Nat)) (vy := Iv 2000) rfl rfl (.bool true) rfl rfl (Ze3 (by omega)) ?_
  refine Za (Zc (Zv rfl (Ze (Zf (Zb (Iv 100) (Za (Zc (Zs (Zaa (Zu ?_))))))))))
  rw [show Zop l = 100 from if_neg (fun q => by have q1 := q.1; have q2 := q.2; first | omega | (rw [Znu hR (by omega) (fun r => by first | (have := r.2; omega) | exact absurd r.1 (of_decide_eq_false (by assumption)))] at q2; cases q2))]
  exact Zm (v := Iv 100) rfl rfl rfl (by kernel_rfl) rfl
  refine Zj (vx := Iv (n : Nat)) (vy := Iv 2000) rfl rfl (.bool false) rfl rfl (Ze2 (by omega)) ?_
  refine Za (Zc (Zt rfl (Z0 (Zc (Ze (Zf (Zb (Iv 0) (Za (Zc (Zs (Zu ?_)))))))))))
  rw [show Zop l = 0 from if_pos ⟨by omega, by rw [← hR, List.drop_of_length_le (by omega)]; rfl⟩]
  exact Zm (v := Iv 0) rfl rfl rfl (by kernel_rfl) rfl
end Go.Flat
namespace Go.Flat
open Go.Proofs
variable {G : Glob}
def Z3r : Cod Int := ⟨fun z => [.int .i64 z], 1, fun _ => rfl, by decide⟩
def Zig (c : Claim) : List Field := [⟨1, (Zo c.region).1⟩, ⟨2, (Zo c.epoch).1⟩, ⟨3, (Zo c.node).1⟩, ⟨4, (Zo c.size).1⟩, ⟨5, Zk (dgL c.root)⟩]
theorem Zty (c : Claim) (i : Nat) (hi : i < 4) : (Zig c).take i ++ [⟨((i : Nat) : Int) + 1, (Zo ([c.region, c.epoch, c.node, c.size].getD i default)).1⟩] = (Zig c).take (i + 1) := by
 rcases i with _ | _ | _ | _ | i
 ·rfl
 ·rfl
 ·rfl
 ·rfl
 ·omega
theorem Zze {c : Claim} (hc : (1 ≤ c.region ∧ c.region ≤ 5) ∧ (1 ≤ c.epoch ∧ c.epoch ≤ 900000000) ∧ (1 ≤ c.node ∧ c.node ≤ 3) ∧ (0 ≤ c.size ∧ c.size ≤ 100000)) (i : Nat) (hi : i < 4) : -9223372036854775808 ≤ [c.region, c.epoch, c.node, c.size].getD i default ∧ [c.region, c.epoch, c.node, c.size].getD i default ≤ 9223372036854775807 := by
 rcases i with _ | _ | _ | _ | i
 ·show _ ≤ c.region ∧ c.region ≤ _; omega
 ·show _ ≤ c.epoch ∧ c.epoch ≤ _; omega
 ·show _ ≤ c.node ∧ c.node ≤ _; omega
 ·show _ ≤ c.size ∧ c.size ≤ _; omega
 ·omega
theorem Zzd (c : Claim) : (Z4 (Zig c) 0 []).2 = 0 := by
 have h1 := Zbh c.region
 have h2 := Zbh c.epoch
 have h3 := Zbh c.node
 have h4 := Zbh c.size
 have h5 : (Zk (dgL c.root)).size = 32 := by rw [Za6, Zfw]
 have h := Zn0 [(Zo c.region).1, (Zo c.epoch).1, (Zo c.node).1, (Zo c.size).1, Zk (dgL c.root)] 0 [] (by simp) (by
  intro x hx
  simp only [List.mem_cons, List.not_mem_nil, or_false] at hx
  rcases hx with rfl | rfl | rfl | rfl | rfl <;> omega)
 show (Z4 (Zgt 0 [(Zo c.region).1, (Zo c.epoch).1, (Zo c.node).1, (Zo c.size).1, Zk (dgL c.root)]) ((0 : Nat) : Int) []).2 = 0
 rw [h]
def Zch (c : Claim) : Bs × Int := if Ze8 c then ((Z4 (Zig c) 0 []).1, 0) else ([], 60)
theorem Zu2 (c : Claim) : (Zch c).1.length ≤ 100 := by
 unfold Zch
 split
 ·have := Zhn (Zig c) 0 []
  have h1 := Zbh c.region
  have h2 := Zbh c.epoch
  have h3 := Zbh c.node
  have h4 := Zbh c.size
  simp only [Zig, Zoc, Za6, Zfw, List.length_nil] at this
  show (Z4 (Zig c) 0 []).1.length ≤ 100
  simp only [Zig]; omega
 ·exact Nat.zero_le _
theorem Zkx (ls : List Field) (n : Nat) (tag : Int) (x : ByteArray) (hn : ls.length = n) (hb : n ≤ 1000) : Z9 Tryd.prog G 53 [pt 0 0, Iv tag, .string x] [rfB (slv 1 0 n n), rwB cFd ls] (.tuple #[]) [rfB (slv 1 0 (n + 1) (n + 1)), rwB cFd (ls ++ [⟨tag, x⟩])] := by
  refine Zbu (fn := Tryd.f53) (nt := 16) rfl rfl rfl rfl ?_
  refine Zaj 1 (H' := [rfB (slv 1 0 n n), rwB cFd ls, hole]) rfl ?_
  refine Zf (Zd (pt 0 0) (Zd (pt 0 0) (Ze7 (p := pt 0 0) (v := pt 0 0) ?_)))
  refine Zal (p := pt 0 0) (v := slv 1 0 n n) rfl rfl rfl rfl ?_
  refine Zd (Iv tag) (Zd (.string x) ?_)
  refine Zbm (vs := [(0, Iv tag), (1, .string x)]) (v := fdV (⟨tag, x⟩ : Field)) rfl rfl rfl (by kernel_rfl) ?_
  refine Zel (vs := [(0, fdV (⟨tag, x⟩ : Field))]) (v := slv 2 0 1 1) (blk := rwB cFd [(⟨tag, x⟩ : Field)]) (nid := 2) (H' := [rfB (slv 1 0 n n), rwB cFd ls, rwB cFd [(⟨tag, x⟩ : Field)]]) rfl rfl rfl (by kernel_rfl) (by kernel_rfl) ?_
  have hl2 : (ls ++ [(⟨tag, x⟩ : Field)]).length = n + 1 := by have := hn; have := (rfl : _ = 1); first | (rw [List.length_append]; omega) | (rw [List.length_append, List.length_take]; omega) | (simp; omega) | simp
  refine Zc9 (p := slv 1 0 n n) (q := slv 2 0 1 1) (v := slv 1 0 (n + 1) (n + 1)) (b := 1) (blk := rwB cFd (ls ++ [(⟨tag, x⟩ : Field)])) (H' := [rfB (dead), rwB cFd (ls ++ [(⟨tag, x⟩ : Field)]), rwB cFd [(⟨tag, x⟩ : Field)]]) rfl rfl rfl (.inl ⟨_, rfl⟩) rfl rfl (Zsf cFd (by_ := 24) (k := 1) (n' := n + 1) (ms := [(⟨tag, x⟩ : Field)]) (fun _ => rfl) rfl rfl (by kernel_rfl) rfl rfl (by have := hn; omega) (by omega) (by decide) (by omega)) rfl (by kernel_rfl) ?_
  refine Ze7 (p := pt 0 0) (v := pt 0 0) (Z2 (p := pt 0 0) (v := slv 1 0 (n + 1) (n + 1)) (b := 0) (blk := rfB (slv 1 0 (n + 1) (n + 1))) (H' := [rfB (slv 1 0 (n + 1) (n + 1)), rwB cFd (ls ++ [(⟨tag, x⟩ : Field)]), rwB cFd [(⟨tag, x⟩ : Field)]]) (Za (Zkr ?_)))
  exact Zm (v := .tuple #[]) rfl rfl rfl (by simp [Zbe, rfB, rwB, cFd, Zlu, Zfz]) trivial
theorem Zmi (ls : List Field) (n : Nat) (tag x : Int) (hn : ls.length = n) (hb : n ≤ 1000) (hl : -9223372036854775808 ≤ x) (hh : x ≤ 9223372036854775807) : Z9 Tryd.prog G 52 [pt 0 0, Iv tag, Iv x] [rfB (slv 1 0 n n), rwB cFd ls] (.tuple #[]) [rfB (slv 1 0 (n + 1) (n + 1)), rwB cFd (ls ++ [⟨tag, (Zo x).1⟩])] := by
 refine Zbu (fn := Tryd.f52) (nt := 17) rfl rfl rfl rfl ?_
 refine Ze (Zf (Zd (Iv x) ?_))
 refine Zp (Zq7 (G := G) x (by omega) (by omega)) (vals := [Iv x]) (res' := .tuple #[.string ((Zo x).1), Iv ((Zo x).2)]) rfl rfl rfl rfl rfl (by kernel_rfl) ?_
 refine Zd (.tuple #[.string ((Zo x).1), Iv ((Zo x).2)]) (Zq (vs := #[.string ((Zo x).1), Iv ((Zo x).2)]) (v := .string ((Zo x).1)) (Zq (vs := #[.string ((Zo x).1), Iv ((Zo x).2)]) (v := Iv ((Zo x).2)) (Zb (.string ((Zo x).1)) (Zb (Iv ((Zo x).2)) (Za (Zc (Zf (Zd (pt 0 0) (Zd (Iv tag) (Zd (.string ((Zo x).1)) ?_))))))))))
 refine Zc2 (e := [some (0, 0), some (1, 0)]) (nid := 0) (Zkx (G := G) ls n tag ((Zo x).1) hn (by omega)) (vals := [pt 0 0, Iv tag, .string ((Zo x).1)]) (v := .tuple #[]) (H' := [rfB (slv 1 0 (n + 1) (n + 1)), rwB cFd (ls ++ [(⟨tag, (Zo x).1⟩ : Field)])]) rfl rfl rfl rfl rfl rfl ⟨⟨⟨rfl, rfl⟩, rfl, rfl, trivial⟩, ⟨(Zaw rfl rfl rfl rfl), (Zaw rfl rfl rfl rfl), trivial⟩, rfl, rfl, rfl, Nat.le_refl _⟩ (by kernel_rfl) rfl (by kernel_rfl) ?_
 refine Za (Zkr ?_)
 exact Zm (v := .tuple #[]) rfl rfl rfl (by simp [Zbe, rfB, rwB, cFd, Zlu, Zfz]) trivial
theorem Zgn (fs : List Field) (n c : Nat) (hn : fs.length = n) (hc : n ≤ c) (hb : n ≤ 1000) : Z9 Tryd.prog G 54 [slv 0 0 n c] [rwR cFd fs] (.tuple #[slv 1 0 (Z4 fs 0 []).1.length (Z4 fs 0 []).1.length, Iv (Z4 fs 0 []).2]) [rwR cFd fs, Zar (Z4 fs 0 []).1] := by
  refine Zbu (fn := Tryd.f54) (nt := 8) rfl rfl rfl rfl ?_
  refine Zaj 1 (H' := [rwR cFd fs, hole]) rfl ?_
  refine Ze (Zf (Zb (.slice none 0 0) (Zb (Iv 0) (Za (Zc (Ze (Zf (Zd (slv 0 0 n c) ?_))))))))
  refine Zab (e := [some (0, 0)]) (nid := 1) (Z0o (G := G) fs n c hn (by omega) (by omega)) (vals := [slv 0 0 n c]) (v := .tuple #[slv 1 0 ((Z4 fs 0 []).1.length) ((Z4 fs 0 []).1.length), Iv ((Z4 fs 0 []).2)]) (H' := [rwR cFd fs, Zar ((Z4 fs 0 []).1)]) rfl rfl rfl rfl rfl rfl rfl ⟨⟨⟨rfl, rfl, rfl, by first | omega | exact Nat.le_refl _, by first | omega | exact Nat.le_refl _⟩, trivial⟩, ⟨(Zgg rfl), trivial⟩, rfl, rfl, rfl⟩ (by kernel_rfl) (by kernel_rfl) ?_
  refine Zq (vs := #[slv 1 0 ((Z4 fs 0 []).1.length) ((Z4 fs 0 []).1.length), Iv ((Z4 fs 0 []).2)]) (v := slv 1 0 ((Z4 fs 0 []).1.length) ((Z4 fs 0 []).1.length)) (Zq (vs := #[slv 1 0 ((Z4 fs 0 []).1.length) ((Z4 fs 0 []).1.length), Iv ((Z4 fs 0 []).2)]) (v := Iv ((Z4 fs 0 []).2)) (Zb (slv 1 0 ((Z4 fs 0 []).1.length) ((Z4 fs 0 []).1.length)) (Zb (Iv ((Z4 fs 0 []).2)) (Za (Zc (Zs (Zu ?_)))))))
  exact Zbb [0, 1] (v := .tuple #[slv 1 0 ((Z4 fs 0 []).1.length) ((Z4 fs 0 []).1.length), Iv ((Z4 fs 0 []).2)]) rfl (by kernel_rfl) rfl rfl (by decide) (by simp [Zbe, rwR, Zar, cFd]) ⟨⟨rfl, rfl, rfl, by first | omega | exact Nat.le_refl _ | exact Nat.zero_le _ | (dsimp only; omega), by first | omega | exact Nat.le_refl _ | exact Nat.zero_le _ | (dsimp only; omega)⟩, rfl, trivial⟩
abbrev Y4 (c : Claim) : Blk := rwB Z3r [c.region, c.epoch, c.node, c.size]
theorem Ztg (c : Claim) : Z9 Tryd.prog G 71 [Zes c] [] (.tuple #[slv 0 0 (Zch c).1.length (Zch c).1.length, Iv (Zch c).2]) [Zar (Zch c).1] := by
  refine Zbu (fn := Tryd.f71) (nt := 41) rfl rfl rfl rfl ?_
  refine Zaj 4 (H' := [hole, hole, hole, hole]) rfl ?_
  refine Ze (Zf (Zci (v := Zes c) (b := bxB 36 (Zee c)) (nid := 0) (H' := [bxB 36 (Zee c), hole, hole, hole]) (Zb (.slice none 0 0) (Zb (Iv 0) (Za (Zc (Ze (Ze (Zf (Zn (p := pt 0 0) (v := Zes c) ?_))))))))))
  refine Zp (Zld (G := G) c) (vals := [Zes c]) (res' := Iv (Zfa c)) rfl rfl rfl rfl rfl rfl ?_
  refine Zb (Iv (Zfa c)) (Za (Zc (Ze (Zf (Zd (Iv (Zfa c)) ?_)))))
  by_cases h1 : (Zfa c) ≠ 0
  refine Zj (vx := Iv (Zfa c)) (vy := Iv 0) rfl rfl (.bool true) rfl rfl (Zek (by omega)) ?_
  refine Za (Zc (Zv rfl (Ze (Zf (Zd (Iv (Zfa c)) (Zb (.slice none 0 0) (Zb (Iv (Zfa c)) (Za (Zc ?_)))))))))
  refine Zb5 (Zbo.nilTmp (i := 2) (b := 1) true 1 rfl (by decide) rfl) ?_
  refine Zs (Zaa (Zu ?_))
  rw [show Zch c = ([], (Zfa c)) from if_neg (fun q => Ztv (c := c) (by omega) q) |>.trans (by first | rfl | (unfold Zfa; rw [if_neg (Ztv (c := c) (by omega))]))]
  exact Zbb [1] (v := .tuple #[slv 1 0 0 0, Iv (Zfa c)]) rfl (by kernel_rfl) rfl rfl (by decide) (by simp [Zbe, Zar]) ⟨⟨rfl, rfl, rfl, by first | omega | exact Nat.le_refl _ | exact Nat.zero_le _ | (dsimp only; omega), by first | omega | exact Nat.le_refl _ | exact Nat.zero_le _ | (dsimp only; omega)⟩, rfl, trivial⟩
  refine Zj (vx := Iv (Zfa c)) (vy := Iv 0) rfl rfl (.bool false) rfl rfl (Zd6 (by omega)) ?_
  refine Za (Zc (Zt rfl (Z0 (Zc (Ze (Zf (Zai (b := rfB (.slice none 0 0)) (nid := 1) (H' := [bxB 36 (Zee c), rfB (.slice none 0 0), hole, hole]) (Za (Zc (Ze (Ze ?_)))))))))))
  have hc := Ztw (c := c) (by omega)
  unfold Ze8 at hc
  refine Zb5 (Zbo.nilCell (k := 1) (j := 0) (b := 2) true 2 rfl (by decide) rfl (by show 0 < 1; decide) rfl rfl) ?_
  refine Zf (Zi (b := 0) (o := 0) (n := 0) (o' := 0) (Zn (p := pt 0 0) (v := Iv c.region) (Zi (b := 0) (o := 0) (n := 1) (o' := 1) (Zn (p := pt 0 1) (v := Iv c.epoch) (Zi (b := 0) (o := 0) (n := 2) (o' := 2) (Zn (p := pt 0 2) (v := Iv c.node) (Zi (b := 0) (o := 0) (n := 3) (o' := 3) (Zn (p := pt 0 3) (v := Iv c.size) ?_))))))))
  refine Zel (vs := [(0, Iv c.region), (1, Iv c.epoch), (2, Iv c.node), (3, Iv c.size)]) (v := slv 3 0 4 4) (blk := rwB Z3r [c.region, c.epoch, c.node, c.size]) (nid := 3) (H' := [bxB 36 (Zee c), rfB (slv 2 0 0 0), rwB cFd [], Y4 c]) rfl rfl rfl (by kernel_rfl) (by kernel_rfl) ?_
  refine Zc3 (p := slv 3 0 4 4) (v := Iv 4) (Zd (Iv 0) (Za (Zc (Z5 ?_))))
  refine Zck (fun x : Nat × (List Field) => match x with | (i, acc) => [Zes c, pt 0 0, .slice none 0 0, Iv 0, Iv (Zfa c), pt 1 0, dead, dead, Zes c, Iv (Zfa c), Iv (Zfa c), .bool false, dead, pt 0 0, Iv c.region, pt 0 1, Iv c.epoch, pt 0 2, Iv c.node, pt 0 3, Iv c.size, slv 3 0 4 4, Iv 4, Iv (i : Nat)]) (fun x : Nat × (List Field) => match x with | (i, acc) => [bxB 36 (Zee c), rfB (slv 2 0 i i), rwB cFd acc, rwB Z3r [c.region, c.epoch, c.node, c.size]]) (fun x : Nat × (List Field) => match x with | (i, acc) => acc = (Zig c).take i ∧ i ≤ 4 ∧ acc.length = i) (fun x : Nat × (List Field) => match x with | (i, acc) => 4 - i) (0, []) ⟨rfl, by omega, rfl⟩ ?_ ?_
  · refine Zam (n := 4) rfl ?_ (by kernel_rfl) (by kernel_rfl)
    repeat (first | exact trivial | refine ⟨.inl rfl, ?_⟩ | refine ⟨.inr ⟨rfl, rfl⟩, ?_⟩ | refine ⟨.inr ⟨congrArg (Value.int .i64) (by first | omega | (dsimp only; omega)), rfl⟩, ?_⟩)
  rintro ⟨i, acc⟩ ⟨hR, hi, ha⟩
  dsimp only at *
  refine Zaj 1 (H' := [bxB 36 (Zee c), rfB (slv 2 0 i i), rwB cFd acc, Y4 c, hole]) rfl ?_
  refine Ze (Zf ?_)
  by_cases h2 : (i : Nat) < 4
  refine Zj (vx := Iv (i : Nat)) (vy := Iv 4) rfl rfl (.bool true) rfl rfl (Zdd (by omega)) ?_
  refine Za (Zc (Ze (Zv rfl (Z0 (Zc (Ze (Z5 (Ze (Zf (Zd (Iv (i : Nat)) ?_))))))))))
  refine Zbs (b := 3) (o := 0) (j := i) (m := 4) (c := 4) (sz := 1) (i := (i : Nat)) (k := .i64) rfl rfl rfl rfl rfl (by omega) (by omega) (by omega) ?_
  refine Zal (p := pt 3 i) (v := Iv (([c.region, c.epoch, c.node, c.size]).getD i default)) rfl rfl rfl (Z17 (m := 1) Z3r (l := [c.region, c.epoch, c.node, c.size]) (i := i) rfl rfl rfl rfl (by have : ([c.region, c.epoch, c.node, c.size]).length = 4 := rfl; omega) (by omega) rfl rfl) ?_
  refine Zb (Iv (i : Nat)) (Zb (Iv (([c.region, c.epoch, c.node, c.size]).getD i default)) (Za (Zc ?_)))
  have hx := Zze hc i (by omega)
  refine Zf (Zd (Iv (i : Nat)) ?_)
  refine Zj (vx := Iv (i : Nat)) (vy := Iv 1) rfl rfl (Iv ((i : Nat) + 1)) rfl rfl (Za0 (by omega) (by omega) (by omega)) ?_
  refine Zd (Iv (([c.region, c.epoch, c.node, c.size]).getD i default)) ?_
  refine Zc2 (e := [some (1, 0), some (2, 0)]) (nid := 0) (Zmi (G := G) acc i ((i : Nat) + 1) (([c.region, c.epoch, c.node, c.size]).getD i default) ha (by omega) (by omega) (by omega)) (vals := [pt 1 0, Iv ((i : Nat) + 1), Iv (([c.region, c.epoch, c.node, c.size]).getD i default)]) (v := .tuple #[]) (H' := [bxB 36 (Zee c), rfB (slv 2 0 (i + 1) (i + 1)), rwB cFd (acc ++ [(⟨(i : Nat) + 1, (Zo (([c.region, c.epoch, c.node, c.size]).getD i default)).1⟩ : Field)]), Y4 c, hole]) rfl rfl rfl rfl rfl rfl ⟨⟨⟨rfl, rfl⟩, rfl, rfl, trivial⟩, ⟨(Zaw rfl rfl rfl rfl), (Zaw rfl rfl rfl rfl), trivial⟩, rfl, rfl, rfl, Nat.le_refl _⟩ (by kernel_rfl) rfl (by kernel_rfl) ?_
  refine Za (Zz (Zc (Zf ?_)))
  refine Zj (vx := Iv (i : Nat)) (vy := Iv 1) rfl rfl (Iv ((i : Nat) + 1)) rfl rfl (Za0 (by omega) (by omega) (by omega)) ?_
  refine Zd (Iv ((i : Nat) + 1)) (Za ?_)
  refine Zas ⟨((i + 1), (acc ++ [(⟨(i : Nat) + 1, (Zo (([c.region, c.epoch, c.node, c.size]).getD i default)).1⟩ : Field)])), ⟨by dsimp only; rw [hR]; exact Zty c i (by omega), by dsimp only; omega, by rw [List.length_append, ha]; rfl⟩, by show 4 - (i + 1) < 4 - i; omega, ?_⟩
  refine Zam (n := 4) rfl ?_ (by kernel_rfl) (by kernel_rfl)
  repeat (first | exact trivial | refine ⟨.inl rfl, ?_⟩ | refine ⟨.inr ⟨rfl, rfl⟩, ?_⟩ | refine ⟨.inr ⟨congrArg (Value.int .i64) (by first | omega | (dsimp only; omega)), rfl⟩, ?_⟩)
  refine Zj (vx := Iv (i : Nat)) (vy := Iv 4) rfl rfl (.bool false) rfl rfl (Zcw (by omega)) ?_
  refine Za (Zc (Ze (Zt rfl (Zbn (Zat (Za3 (Zay rfl (Zc (Ze ?_)))))))))
  have hi4 : i = 4 := by omega
  refine Zf (Zi (b := 0) (o := 0) (n := 4) (o' := 4) ?_)
  refine Zda (p := pt 0 4) (vl := none) (vh := none) (v := slv 0 4 32 32) rfl rfl rfl rfl rfl rfl ?_
  refine Zfs (p := slv 0 4 32 32) (v := .string (Zk (dgL c.root))) rfl rfl rfl (Zd9 (l := (dgL c.root)) rfl rfl rfl rfl (of_decide_eq_true (by kernel_rfl)) (by kernel_rfl)) ?_
  refine Zc2 (e := [some (1, 0), some (2, 0)]) (nid := 0) (Zkx (G := G) acc i 5 (Zk (dgL c.root)) ha (by omega)) (vals := [pt 1 0, Iv 5, .string (Zk (dgL c.root))]) (v := .tuple #[]) (H' := [bxB 36 (Zee c), rfB (slv 2 0 (i + 1) (i + 1)), rwB cFd (acc ++ [(⟨5, (Zk (dgL c.root))⟩ : Field)]), Y4 c, hole]) rfl rfl rfl rfl rfl rfl ⟨⟨⟨rfl, rfl⟩, rfl, rfl, trivial⟩, ⟨(Zaw rfl rfl rfl rfl), (Zaw rfl rfl rfl rfl), trivial⟩, rfl, rfl, rfl, Nat.le_refl _⟩ (by kernel_rfl) rfl (by kernel_rfl) ?_
  refine Za (Zc (Ze (Zf ?_)))
  refine Zal (p := pt 1 0) (v := slv 2 0 (i + 1) (i + 1)) rfl rfl rfl rfl ?_
  refine Zab (e := [some (2, 0)]) (nid := 4) (Zgn (G := G) (acc ++ [(⟨5, (Zk (dgL c.root))⟩ : Field)]) (i + 1) (i + 1) (by rw [List.length_append, ha]; rfl) (by omega) (by omega)) (vals := [slv 2 0 (i + 1) (i + 1)]) (v := .tuple #[slv 4 0 ((Z4 (acc ++ [(⟨5, (Zk (dgL c.root))⟩ : Field)]) 0 []).1.length) ((Z4 (acc ++ [(⟨5, (Zk (dgL c.root))⟩ : Field)]) 0 []).1.length), Iv ((Z4 (acc ++ [(⟨5, (Zk (dgL c.root))⟩ : Field)]) 0 []).2)]) (H' := [bxB 36 (Zee c), rfB (slv 2 0 (i + 1) (i + 1)), rwB cFd (acc ++ [(⟨5, (Zk (dgL c.root))⟩ : Field)]), Y4 c, Zar ((Z4 (acc ++ [(⟨5, (Zk (dgL c.root))⟩ : Field)]) 0 []).1)]) rfl rfl rfl rfl rfl rfl rfl ⟨⟨⟨rfl, rfl, rfl, by first | omega | exact Nat.le_refl _, by first | omega | exact Nat.le_refl _⟩, trivial⟩, ⟨(Zg2 rfl), trivial⟩, rfl, rfl, rfl⟩ (by kernel_rfl) (by kernel_rfl) ?_
  refine Zq (vs := #[slv 4 0 ((Z4 (acc ++ [(⟨5, (Zk (dgL c.root))⟩ : Field)]) 0 []).1.length) ((Z4 (acc ++ [(⟨5, (Zk (dgL c.root))⟩ : Field)]) 0 []).1.length), Iv ((Z4 (acc ++ [(⟨5, (Zk (dgL c.root))⟩ : Field)]) 0 []).2)]) (v := slv 4 0 ((Z4 (acc ++ [(⟨5, (Zk (dgL c.root))⟩ : Field)]) 0 []).1.length) ((Z4 (acc ++ [(⟨5, (Zk (dgL c.root))⟩ : Field)]) 0 []).1.length)) (Zq (vs := #[slv 4 0 ((Z4 (acc ++ [(⟨5, (Zk (dgL c.root))⟩ : Field)]) 0 []).1.length) ((Z4 (acc ++ [(⟨5, (Zk (dgL c.root))⟩ : Field)]) 0 []).1.length), Iv ((Z4 (acc ++ [(⟨5, (Zk (dgL c.root))⟩ : Field)]) 0 []).2)]) (v := Iv ((Z4 (acc ++ [(⟨5, (Zk (dgL c.root))⟩ : Field)]) 0 []).2)) (Zb (slv 4 0 ((Z4 (acc ++ [(⟨5, (Zk (dgL c.root))⟩ : Field)]) 0 []).1.length) ((Z4 (acc ++ [(⟨5, (Zk (dgL c.root))⟩ : Field)]) 0 []).1.length)) (Zb (Iv ((Z4 (acc ++ [(⟨5, (Zk (dgL c.root))⟩ : Field)]) 0 []).2)) (Za (Zc (Zs (Zu ?_)))))))
  have e : acc ++ [(⟨5, Zk (dgL c.root)⟩ : Field)] = Zig c := by rw [hR, hi4]; rfl
  have ez := Zzd c
  rw [← e] at ez
  rw [show Zch c = ((Z4 (acc ++ [(⟨5, Zk (dgL c.root)⟩ : Field)]) 0 []).1, (Z4 (acc ++ [(⟨5, Zk (dgL c.root)⟩ : Field)]) 0 []).2) from by rw [ez, e]; exact if_pos (Ztw (by omega))]
  exact Zbb [4] (v := .tuple #[slv 4 0 ((Z4 (acc ++ [(⟨5, (Zk (dgL c.root))⟩ : Field)]) 0 []).1.length) ((Z4 (acc ++ [(⟨5, (Zk (dgL c.root))⟩ : Field)]) 0 []).1.length), Iv ((Z4 (acc ++ [(⟨5, (Zk (dgL c.root))⟩ : Field)]) 0 []).2)]) rfl (by kernel_rfl) rfl rfl (by decide) (by simp [Zbe, Zar]) ⟨⟨rfl, rfl, rfl, by first | omega | exact Nat.le_refl _ | exact Nat.zero_le _ | (dsimp only; omega), by first | omega | exact Nat.le_refl _ | exact Nat.zero_le _ | (dsimp only; omega)⟩, rfl, trivial⟩
end Go.Flat
