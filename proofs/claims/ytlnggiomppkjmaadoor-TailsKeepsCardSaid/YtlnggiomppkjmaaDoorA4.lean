/- Walks. -/
import Derived.Test.YtlnggiomppkjmaaDoorA2
set_option linter.unusedVariables false
set_option linter.unusedSimpArgs false
set_option maxRecDepth 20000
namespace Go.Flat
open Go.Proofs
variable {G : Glob}
def Zid (l : List (TailT × Nat)) : Nat → Nat → Int
  | 0 => fun _ => 0
  | i + 1 => if 1 ≤ (l.getD i default).1.node ∧ (l.getD i default).1.node ≤ 3 then Zhb (Zid l i) (l.getD i default).1.node.toNat 1 else Zid l i
theorem Zrk {l : List (TailT × Nat)} {i : Nat} {f : Nat → Int} (h : f = Zid l i) (h1 : 1 ≤ (l.getD i default).1.node) (h2 : (l.getD i default).1.node ≤ 3) : Zhb f (l.getD i default).1.node.toNat 1 = Zid l (i + 1) := by
 subst h; exact (if_pos ⟨h1, h2⟩).symm
theorem Zrj {l : List (TailT × Nat)} {i : Nat} {f : Nat → Int} (h : f = Zid l i) (h1 : ¬ (1 ≤ (l.getD i default).1.node ∧ (l.getD i default).1.node ≤ 3)) : f = Zid l (i + 1) := by
 subst h; exact (if_neg h1).symm
theorem Zlw (l : List (TailT × Nat)) : ∀ i k, 0 ≤ Zid l i k ∧ Zid l i k ≤ 1
 | 0, k => by show 0 ≤ (0 : Int) ∧ (0 : Int) ≤ 1; omega
 | i + 1, k => by
  have := Zlw l i k
  unfold Zid
  split
  ·unfold Zhb; split
   ·omega
   ·exact this
  ·exact this
def Zm4 (l : List (TailT × Nat)) : Int := Zid l l.length 1 + Zid l l.length 2 + Zid l l.length 3
theorem Zmv {l : List (TailT × Nat)} (h : ¬ Zm4 l < 2) : 0 < l.length := by
 cases l with
 | nil => exact absurd (by decide : Zm4 [] < 2) h
 | cons x l => simp
def Zq (l : List (TailT × Nat)) : TailT × Int × Bool := if Zm4 l < 2 then (⟨0, 0, 0, []⟩, 0, false) else ((l.getD (Zw l) default).1, min (Zjj (Za0 l)) (l.getD (Zw l) default).1.items.length, true)
theorem Zwx {l : List (TailT × Nat)} (h : Zm4 l < 2) : Zq l = (⟨0, 0, 0, []⟩, 0, false) := if_pos h
theorem Zn3 {l : List (TailT × Nat)} {z : Int} (h : ¬ Zm4 l < 2) (hz : min (Zjj (Za0 l)) (l.getD (Zw l) default).1.items.length = z) : Zq l = ((l.getD (Zw l) default).1, z, true) := by
 unfold Zq; rw [if_neg h, hz]
theorem Zjs (l : List (TailT × Nat)) (c : Nat) (hc : l.length ≤ c) (hb : c ≤ 9223372036854775807) (hS : ∀ i, i < l.length → okT (l.getD i default)) (hB : ∀ i, i < l.length → (l.getD i default).1.items.length ≤ 60) (h2 : l.length ≤ 20) : Z6 Tryd.prog G 10 [slv 0 0 l.length c] (Zv.S 0 l) (.tuple #[mxV ([Iv (Zq l).1.node, Iv (Zq l).1.log, Iv (Zq l).1.commit] ++ [slv (l.length + 1) 0 (Zq l).1.items.length (Zq l).1.items.length]), Iv (Zq l).2.1, .bool (Zq l).2.2]) ((Zv.S 0 l) ++ [rwB Zi (Zq l).1.items]) := by
  refine Z6.deep (fn := Tryd.f10) (nt := 50) (N := [rwB Zi (Zq l).1.items]) 12 rfl rfl rfl rfl Zaz ⟨⟨rfl, rfl, rfl, by first | omega | exact Nat.le_refl _, by first | omega | exact Nat.le_refl _⟩, trivial⟩ rfl rfl ?_
  refine Zgz (H' := ([(Zv.B 13 l), hole, hole, hole, hole, hole, hole, hole, hole, hole, hole, hole, hole] ++ (l.map Zv.blk))) rfl ?_
  refine Zf (Zg ?_)
  refine Zfh (b := (mxW 4 ([Iv 0, Iv 0, Iv 0, .slice none 0 0]))) (nid := 1) (H' := ([(Zv.B 13 l), (mxW 4 ([Iv 0, Iv 0, Iv 0, .slice none 0 0])), hole, hole, hole, hole, hole, hole, hole, hole, hole, hole, hole] ++ (l.map Zv.blk))) rfl rfl (by kernel_rfl) (by kernel_rfl) ?_
  refine Zb (Iv 0) (Zb (.bool false) (Za (Zc (Zf (Zg ?_)))))
  refine Zfh (b := (bxM 4 (Zah wI 4 (fun _ => (0 : Int))))) (nid := 2) (H' := ([(Zv.B 13 l), (mxW 4 ([Iv 0, Iv 0, Iv 0, .slice none 0 0])), (bxM 4 (Zah wI 4 (fun _ => (0 : Int)))), hole, hole, hole, hole, hole, hole, hole, hole, hole, hole] ++ (l.map Zv.blk))) rfl rfl (by kernel_rfl) (by kernel_rfl) ?_
  refine Za (Zc (Zf (Zf (Zg (Zd (slv 0 0 l.length c) (Zaw (p := slv 0 0 l.length c) (v := Iv (l.length : Nat)) (Zd (Iv 0) (Za (Zc (Z8 ?_))))))))))
  refine Zbt (fun x : Nat × (Nat → Int) => match x with | (i, f) => [slv 0 0 l.length c, dead, pt 1 0, Iv 0, .bool false, pt 2 0, dead, dead, dead, dead, slv 0 0 l.length c, Iv (l.length : Nat), Iv (i : Nat)]) (fun x : Nat × (Nat → Int) => match x with | (i, f) => ([(Zv.B 13 l), (mxW 4 ([Iv 0, Iv 0, Iv 0, .slice none 0 0])), (bxM 4 (Zah wI 4 f)), hole, hole, hole, hole, hole, hole, hole, hole, hole, hole] ++ (l.map Zv.blk))) (fun x : Nat × (Nat → Int) => match x with | (i, f) => f = Zid l i ∧ i ≤ l.length) (fun x : Nat × (Nat → Int) => match x with | (i, f) => l.length - i) (0, (fun _ => (0 : Int))) ⟨rfl, by omega⟩ ?_ ?_
  · refine Za7.drop [] rfl (fun b => rfl) ?_ (fun x _ => Zln x)
    repeat (first | exact trivial | refine ⟨.inl rfl, ?_⟩ | refine ⟨.inr ⟨rfl, rfl⟩, ?_⟩ | refine ⟨.inr ⟨congrArg (Value.int .i64) (by first | omega | (dsimp only; omega)), rfl⟩, ?_⟩)
  rintro ⟨i, f⟩ ⟨hA, hi⟩
  dsimp only at *
  refine Zf (Zg ?_)
  by_cases h1 : (i : Nat) < (l.length : Nat)
  refine Zl (vx := Iv (i : Nat)) (vy := Iv (l.length : Nat)) rfl rfl (.bool true) rfl rfl (Zck (by omega)) ?_
  refine Za (Zc (Zf (Zy rfl (Zz (Zc (Zf (Z8 (Zf ?_))))))))
  have hok := hS i (by omega)
  obtain ⟨⟨ho1, ho2⟩, ⟨ho3, ho4⟩, ⟨ho5, ho6⟩, ho7, ho8⟩ := hok
  refine Zg ?_
  refine Zbo (b := 0) (o := 0) (j := i * 4) (m := l.length) (c := c) (sz := 4) (i := (i : Nat)) (k := .i64) rfl rfl rfl rfl rfl (by omega) (by omega) (by omega) ?_
  refine Zal (p := pt 0 (i * 4)) (v := mxV ([Iv ((l.getD i default).1.node), Iv ((l.getD i default).1.log), Iv ((l.getD i default).1.commit), slv (i + 13) 0 ((l.getD i default).1.items.length) ((l.getD i default).2)])) rfl rfl rfl (Zh8 Zv (l := l) (i := i) (K := 13) (m := 4) rfl rfl rfl (by omega) (by omega)) ?_
  refine Zfh (b := (mxW 4 ([Iv 0, Iv 0, Iv 0, .slice none 0 0]))) (nid := 3) (H' := ([(Zv.B 13 l), (mxW 4 ([Iv 0, Iv 0, Iv 0, .slice none 0 0])), (bxM 4 (Zah wI 4 f)), (mxW 4 ([Iv 0, Iv 0, Iv 0, .slice none 0 0])), hole, hole, hole, hole, hole, hole, hole, hole, hole] ++ (l.map Zv.blk))) rfl rfl (by kernel_rfl) (by kernel_rfl) ?_
  refine Zab (p := pt 3 0) (v := mxV ([Iv ((l.getD i default).1.node), Iv ((l.getD i default).1.log), Iv ((l.getD i default).1.commit), slv (i + 13) 0 ((l.getD i default).1.items.length) ((l.getD i default).2)])) (b := 3) (blk := (mxW 4 ([Iv ((l.getD i default).1.node), Iv ((l.getD i default).1.log), Iv ((l.getD i default).1.commit), slv (i + 13) 0 ((l.getD i default).1.items.length) ((l.getD i default).2)]))) (H' := ([(Zv.B 13 l), (mxW 4 ([Iv 0, Iv 0, Iv 0, .slice none 0 0])), (bxM 4 (Zah wI 4 f)), (mxW 4 ([Iv ((l.getD i default).1.node), Iv ((l.getD i default).1.log), Iv ((l.getD i default).1.commit), slv (i + 13) 0 ((l.getD i default).1.items.length) ((l.getD i default).2)])), hole, hole, hole, hole, hole, hole, hole, hole, hole] ++ (l.map Zv.blk))) (Za (Zc (Zf (Zg (Zh (b := 3) (o := 0) (n := 0) (o' := 0) (Zn (p := pt 3 0) (v := Iv ((l.getD i default).1.node)) ?_))))))
  by_cases h2 : 1 ≤ ((l.getD i default).1.node)
  refine Zl (vx := Iv ((l.getD i default).1.node)) (vy := Iv 1) rfl rfl (.bool true) rfl rfl (Zoe (by omega)) ?_
  refine Zd (.bool true) (Zh (b := 3) (o := 0) (n := 0) (o' := 0) (Zn (p := pt 3 0) (v := Iv ((l.getD i default).1.node)) ?_))
  by_cases h3 : ((l.getD i default).1.node) ≤ 3
  refine Zl (vx := Iv ((l.getD i default).1.node)) (vy := Iv 3) rfl rfl (.bool true) rfl rfl (Zlg (by omega)) ?_
  refine Zk (.bool true) (Za (Zc (Zy rfl (Zg (Zh (b := 3) (o := 0) (n := 0) (o' := 0) (Zn (p := pt 3 0) (v := Iv ((l.getD i default).1.node)) ?_))))))
  refine Zdn (b := 2) (o := 0) (j := (((l.getD i default).1.node).toNat)) (n := 4) (sz := 1) (i := ((l.getD i default).1.node)) (k := .i64) rfl rfl rfl rfl rfl (by omega) (by omega) (by omega) ?_
  refine Zc0 (p := pt 2 (((l.getD i default).1.node).toNat)) (v := Iv 1) (b := 2) (blk := (bxM 4 (Zah wI 4 (Zhb f (((l.getD i default).1.node).toNat) 1)))) (H' := ([(Zv.B 13 l), (mxW 4 ([Iv 0, Iv 0, Iv 0, .slice none 0 0])), (bxM 4 (Zah wI 4 (Zhb f (((l.getD i default).1.node).toNat) 1))), (mxW 4 ([Iv ((l.getD i default).1.node), Iv ((l.getD i default).1.log), Iv ((l.getD i default).1.commit), slv (i + 13) 0 ((l.getD i default).1.items.length) ((l.getD i default).2)])), hole, hole, hole, hole, hole, hole, hole, hole, hole] ++ (l.map Zv.blk))) rfl rfl rfl (Zg9 (blk := (bxM 4 (Zah wI 4 f))) (i := (((l.getD i default).1.node).toNat)) (enc := wI) (n := 4) (w := f) (x := 1) rfl rfl rfl rfl rfl (by omega) rfl rfl) (by kernel_rfl) ?_
  refine Za (Z7 (Zc (Zg ?_)))
  refine Zl (vx := Iv (i : Nat)) (vy := Iv 1) rfl rfl (Iv ((i : Nat) + 1)) rfl rfl (Zak (by omega) (by omega) (by omega)) ?_
  refine Zd (Iv ((i : Nat) + 1)) (Za ?_)
  refine Zag ⟨((i + 1), (Zhb f (((l.getD i default).1.node).toNat) 1)), ⟨by first | exact Zrk hA (by omega) (by omega) | exact Zrj hA (by omega), by omega⟩, by show l.length - (i + 1) < l.length - i; omega, ?_⟩
  refine Za7.drop [3] rfl (Ze4 rfl rfl) ?_ (Zet (Zj (Zev Zv Zaz (by decide)) (Zj (.inr (by kernel_rfl)) (Zj (.inl rfl) (Zj (.inl rfl) (Zj (.inl rfl) (Zj (.inl rfl) (Zj (.inl rfl) (Zj (.inl rfl) (Zj (.inl rfl) (Zj (.inl rfl) (Zj (.inl rfl) (Zj (.inl rfl) (Zj (.inl rfl) Zds))))))))))))) (Zeu Zv Zaz))
  repeat (first | exact trivial | refine ⟨.inl rfl, ?_⟩ | refine ⟨.inr ⟨rfl, rfl⟩, ?_⟩ | refine ⟨.inr ⟨congrArg (Value.int .i64) (by first | omega | (dsimp only; omega)), rfl⟩, ?_⟩)
  refine Zl (vx := Iv ((l.getD i default).1.node)) (vy := Iv 3) rfl rfl (.bool false) rfl rfl (Zlf (by omega)) ?_
  refine Zk (.bool false) (Za (Zc (Zu rfl (Zz (Z7 (Zc (Zg ?_)))))))
  refine Zl (vx := Iv (i : Nat)) (vy := Iv 1) rfl rfl (Iv ((i : Nat) + 1)) rfl rfl (Zak (by omega) (by omega) (by omega)) ?_
  refine Zd (Iv ((i : Nat) + 1)) (Za ?_)
  refine Zag ⟨((i + 1), f), ⟨by first | exact Zrk hA (by omega) (by omega) | exact Zrj hA (by omega), by omega⟩, by show l.length - (i + 1) < l.length - i; omega, ?_⟩
  refine Za7.drop [3] rfl (Ze4 rfl rfl) ?_ (Zet (Zj (Zev Zv Zaz (by decide)) (Zj (.inr (by kernel_rfl)) (Zj (.inl rfl) (Zj (.inl rfl) (Zj (.inl rfl) (Zj (.inl rfl) (Zj (.inl rfl) (Zj (.inl rfl) (Zj (.inl rfl) (Zj (.inl rfl) (Zj (.inl rfl) (Zj (.inl rfl) (Zj (.inl rfl) Zds))))))))))))) (Zeu Zv Zaz))
  repeat (first | exact trivial | refine ⟨.inl rfl, ?_⟩ | refine ⟨.inr ⟨rfl, rfl⟩, ?_⟩ | refine ⟨.inr ⟨congrArg (Value.int .i64) (by first | omega | (dsimp only; omega)), rfl⟩, ?_⟩)
  refine Zl (vx := Iv ((l.getD i default).1.node)) (vy := Iv 1) rfl rfl (.bool false) rfl rfl (Zod (by omega)) ?_
  refine Zd (.bool false) (Ze (Ze (Ze (Zk (.bool false) (Za (Zc (Zu rfl (Zz (Z7 (Zc (Zg ?_)))))))))))
  refine Zl (vx := Iv (i : Nat)) (vy := Iv 1) rfl rfl (Iv ((i : Nat) + 1)) rfl rfl (Zak (by omega) (by omega) (by omega)) ?_
  refine Zd (Iv ((i : Nat) + 1)) (Za ?_)
  refine Zag ⟨((i + 1), f), ⟨by first | exact Zrk hA (by omega) (by omega) | exact Zrj hA (by omega), by omega⟩, by show l.length - (i + 1) < l.length - i; omega, ?_⟩
  refine Za7.drop [3] rfl (Ze4 rfl rfl) ?_ (Zet (Zj (Zev Zv Zaz (by decide)) (Zj (.inr (by kernel_rfl)) (Zj (.inl rfl) (Zj (.inl rfl) (Zj (.inl rfl) (Zj (.inl rfl) (Zj (.inl rfl) (Zj (.inl rfl) (Zj (.inl rfl) (Zj (.inl rfl) (Zj (.inl rfl) (Zj (.inl rfl) (Zj (.inl rfl) Zds))))))))))))) (Zeu Zv Zaz))
  repeat (first | exact trivial | refine ⟨.inl rfl, ?_⟩ | refine ⟨.inr ⟨rfl, rfl⟩, ?_⟩ | refine ⟨.inr ⟨congrArg (Value.int .i64) (by first | omega | (dsimp only; omega)), rfl⟩, ?_⟩)
  refine Zl (vx := Iv (i : Nat)) (vy := Iv (l.length : Nat)) rfl rfl (.bool false) rfl rfl (Zcd (by omega)) ?_
  refine Za (Zc (Zf (Zu rfl (Zbm (Zaq (Zax (Zav rfl (Zc (Zf (Zf ?_))))))))))
  have hse : Zm4 l = f 1 + f 2 + f 3 := by rw [hA, show i = l.length from by omega]; rfl
  have hf1 : 0 ≤ f 1 ∧ f 1 ≤ 1 := by rw [hA]; exact Zlw l i 1
  have hf2 : 0 ≤ f 2 ∧ f 2 ≤ 1 := by rw [hA]; exact Zlw l i 2
  have hf3 : 0 ≤ f 3 ∧ f 3 ≤ 1 := by rw [hA]; exact Zlw l i 3
  refine Zg ?_
  refine Zdn (b := 2) (o := 0) (j := 1) (n := 4) (sz := 1) (i := 1) (k := .i64) rfl rfl rfl rfl rfl (by omega) (by omega) (by omega) ?_
  refine Zn (p := pt 2 1) (v := Iv (f 1)) ?_
  refine Zdn (b := 2) (o := 0) (j := 2) (n := 4) (sz := 1) (i := 2) (k := .i64) rfl rfl rfl rfl rfl (by omega) (by omega) (by omega) ?_
  refine Zn (p := pt 2 2) (v := Iv (f 2)) ?_
  refine Zl (vx := Iv (f 1)) (vy := Iv (f 2)) rfl rfl (Iv ((f 1) + (f 2))) rfl rfl (Zak (by omega) (by omega) (by omega)) ?_
  refine Zdn (b := 2) (o := 0) (j := 3) (n := 4) (sz := 1) (i := 3) (k := .i64) rfl rfl rfl rfl rfl (by omega) (by omega) (by omega) ?_
  refine Zn (p := pt 2 3) (v := Iv (f 3)) ?_
  refine Zl (vx := Iv ((f 1) + (f 2))) (vy := Iv (f 3)) rfl rfl (Iv ((f 1) + (f 2) + (f 3))) rfl rfl (Zak (by omega) (by omega) (by omega)) ?_
  by_cases h4 : (f 1) + (f 2) + (f 3) < 2
  refine Zl (vx := Iv ((f 1) + (f 2) + (f 3))) (vy := Iv 2) rfl rfl (.bool true) rfl rfl (Zck (by omega)) ?_
  refine Za (Zc (Zy rfl (Zf (Zg ?_))))
  refine Zdb (vs := []) (v := mxV ([Iv 0, Iv 0, Iv 0, .slice none 0 0])) rfl rfl rfl (by kernel_rfl) ?_
  refine Zab (p := pt 1 0) (v := mxV ([Iv 0, Iv 0, Iv 0, .slice none 0 0])) (b := 1) (blk := (mxW 4 ([Iv 0, Iv 0, Iv 0, .slice none 0 0]))) (H' := ([(Zv.B 13 l), (mxW 4 ([Iv 0, Iv 0, Iv 0, .slice none 0 0])), (bxM 4 (Zah wI 4 f)), hole, hole, hole, hole, hole, hole, hole, hole, hole, hole] ++ (l.map Zv.blk))) (Zb (Iv 0) (Zb (.bool false) (Za (Zc ?_))))
  refine Zca (Za7.nilCell (k := 1) (j := 3) (b := 3) true 110 rfl (by decide) rfl (by show 0 < 4; decide) rfl rfl) ?_
  refine Zgz (H' := ([(Zv.B 13 l), (mxW 4 ([Iv 0, Iv 0, Iv 0, slv 3 0 0 0])), (bxM 4 (Zah wI 4 f)), rwB Zi [], hole, hole, hole, hole, hole, hole, hole, hole, hole] ++ (l.map Zv.blk))) (by kernel_rfl) ?_
  refine Zr (Z2 ?_)
  rw [Zwx (by omega : Zm4 l < 2)]
  exact Zey (v := .tuple #[mxV ([Iv 0, Iv 0, Iv 0, slv 3 0 0 0]), Iv 0, .bool false]) (by kernel_rfl) ⟨rfl, fun i hi => Zbw Zv rfl hi, [3], rfl, by decide, rfl, ⟨Zce (by kernel_rfl) ⟨⟨rfl, rfl⟩, ⟨rfl, rfl⟩, ⟨rfl, rfl⟩, Zkt (j := 0) (ks := [3]) rfl (Nat.le_refl _), trivial⟩, rfl, rfl, trivial⟩⟩
  refine Zl (vx := Iv ((f 1) + (f 2) + (f 3))) (vy := Iv 2) rfl rfl (.bool false) rfl rfl (Zcd (by omega)) ?_
  refine Za (Zc (Zu rfl (Zz (Zc (Zf ?_)))))
  have h0 : 0 < l.length := Zmv (by omega)
  have hbl := Zny h0
  have hok := hS (Zw l) hbl
  obtain ⟨⟨ho1, ho2⟩, ⟨ho3, ho4⟩, ⟨ho5, ho6⟩, ho7, ho8⟩ := hok
  have hbi := hB (Zw l) hbl
  refine Zg (Zd (slv 0 0 l.length c) ?_)
  refine Znq (N := []) (b0 := 0) (kk := 13) (a := 0) (q := l.length) (L := l) (nid := 0) (Zt1 (G := G) l c hc hb hS hB h0) (vals := [slv 0 0 l.length c, .func (.func 24) #[] #[]]) (v := mxV ([Iv ((l.getD (Zw l) default).1.node), Iv ((l.getD (Zw l) default).1.log), Iv ((l.getD (Zw l) default).1.commit), slv ((Zw l) + 13) 0 ((l.getD (Zw l) default).1.items.length) ((l.getD (Zw l) default).2)])) (H' := ([(Zv.B 13 l), (mxW 4 ([Iv 0, Iv 0, Iv 0, .slice none 0 0])), (bxM 4 (Zah wI 4 f)), hole, hole, hole, hole, hole, hole, hole, hole, hole, hole] ++ (l.map Zv.blk))) rfl rfl rfl rfl rfl rfl Zaz (by simp) (by omega) rfl (fun i hi => Zk2 Zv rfl hi) ⟨⟨rfl, rfl, rfl, by omega, by omega⟩, (by first | rfl | exact ⟨by kernel_rfl, by kernel_rfl⟩), trivial⟩ rfl rfl (Z2v (by kernel_rfl) (Zaz.ren _ _ _ _ (Dcod.ext_at hbl))) (by kernel_rfl) ?_
  refine Zfh (b := (mxW 4 ([Iv 0, Iv 0, Iv 0, .slice none 0 0]))) (nid := 3) (H' := ([(Zv.B 13 l), (mxW 4 ([Iv 0, Iv 0, Iv 0, .slice none 0 0])), (bxM 4 (Zah wI 4 f)), (mxW 4 ([Iv 0, Iv 0, Iv 0, .slice none 0 0])), hole, hole, hole, hole, hole, hole, hole, hole, hole] ++ (l.map Zv.blk))) rfl rfl (by kernel_rfl) (by kernel_rfl) ?_
  refine Zab (p := pt 3 0) (v := mxV ([Iv ((l.getD (Zw l) default).1.node), Iv ((l.getD (Zw l) default).1.log), Iv ((l.getD (Zw l) default).1.commit), slv ((Zw l) + 13) 0 ((l.getD (Zw l) default).1.items.length) ((l.getD (Zw l) default).2)])) (b := 3) (blk := (mxW 4 ([Iv ((l.getD (Zw l) default).1.node), Iv ((l.getD (Zw l) default).1.log), Iv ((l.getD (Zw l) default).1.commit), slv ((Zw l) + 13) 0 ((l.getD (Zw l) default).1.items.length) ((l.getD (Zw l) default).2)]))) (H' := ([(Zv.B 13 l), (mxW 4 ([Iv 0, Iv 0, Iv 0, .slice none 0 0])), (bxM 4 (Zah wI 4 f)), (mxW 4 ([Iv ((l.getD (Zw l) default).1.node), Iv ((l.getD (Zw l) default).1.log), Iv ((l.getD (Zw l) default).1.commit), slv ((Zw l) + 13) 0 ((l.getD (Zw l) default).1.items.length) ((l.getD (Zw l) default).2)])), hole, hole, hole, hole, hole, hole, hole, hole, hole] ++ (l.map Zv.blk))) (Za (Zc (Zf (Zg (Zd (slv 0 0 l.length c) ?_)))))
  refine Znq (N := [rwB Zd5 (Za0 l)]) (b0 := 0) (kk := 13) (a := 0) (q := l.length) (L := l) (nid := 4) (Zy5 (G := G) l c hc hb hS hB (by omega)) (vals := [slv 0 0 l.length c, .func (.func 29) #[] #[]]) (v := slv 4 0 l.length l.length) (H' := ([(Zv.B 13 l), (mxW 4 ([Iv 0, Iv 0, Iv 0, .slice none 0 0])), (bxM 4 (Zah wI 4 f)), (mxW 4 ([Iv ((l.getD (Zw l) default).1.node), Iv ((l.getD (Zw l) default).1.log), Iv ((l.getD (Zw l) default).1.commit), slv ((Zw l) + 13) 0 ((l.getD (Zw l) default).1.items.length) ((l.getD (Zw l) default).2)])), rwB Zd5 (Za0 l), hole, hole, hole, hole, hole, hole, hole, hole] ++ (l.map Zv.blk))) rfl rfl rfl rfl rfl rfl Zaz (by simp) (by omega) rfl (fun i hi => Zk2 Zv rfl hi) ⟨⟨rfl, rfl, rfl, by omega, by omega⟩, (by first | rfl | exact ⟨by kernel_rfl, by kernel_rfl⟩), trivial⟩ rfl rfl (Zri (Dcod.ext_new (j := 0) rfl (by show 0 < 1; decide))) (by kernel_rfl) ?_
  refine Z5 (e := [some (4, 0)]) (nid := 0) (Z3w (G := G) (Za0 l) l.length l.length (Zsb l) (by omega) (by omega) (by omega)) (vals := [slv 4 0 l.length l.length]) (v := Iv (Zjj (Za0 l))) (H' := ([(Zv.B 13 l), (mxW 4 ([Iv 0, Iv 0, Iv 0, .slice none 0 0])), (bxM 4 (Zah wI 4 f)), (mxW 4 ([Iv ((l.getD (Zw l) default).1.node), Iv ((l.getD (Zw l) default).1.log), Iv ((l.getD (Zw l) default).1.commit), slv ((Zw l) + 13) 0 ((l.getD (Zw l) default).1.items.length) ((l.getD (Zw l) default).2)])), rwB Zd5 (Za0 l), hole, hole, hole, hole, hole, hole, hole, hole] ++ (l.map Zv.blk))) rfl rfl rfl rfl rfl rfl rfl ⟨⟨⟨rfl, rfl, rfl, by first | omega | exact Nat.le_refl _, by first | omega | exact Nat.le_refl _⟩, trivial⟩, ⟨(Zb8 rfl), trivial⟩, rfl, rfl, rfl⟩ rfl (by kernel_rfl) ?_
  refine Zb (Iv (Zjj (Za0 l))) (Za (Zc (Zf ?_)))
  refine Zgl (by kernel_rfl) ?_
  refine Zn (p := pt 3 0) (v := mxV ([Iv ((l.getD (Zw l) default).1.node), Iv ((l.getD (Zw l) default).1.log), Iv ((l.getD (Zw l) default).1.commit), slv ((Zw l) + 13) 0 ((l.getD (Zw l) default).1.items.length) ((l.getD (Zw l) default).2)])) ?_
  refine Z5 (e := [some (((Zw l) + 13), 0)]) (nid := 5) (Zre (G := G) ((l.getD (Zw l) default).1) ((l.getD (Zw l) default).1.items.length) ((l.getD (Zw l) default).2) (rfl : _ = _) (by omega) (by omega)) (vals := [mxV ([Iv ((l.getD (Zw l) default).1.node), Iv ((l.getD (Zw l) default).1.log), Iv ((l.getD (Zw l) default).1.commit), slv ((Zw l) + 13) 0 ((l.getD (Zw l) default).1.items.length) ((l.getD (Zw l) default).2)])]) (v := mxV ([Iv ((l.getD (Zw l) default).1.node), Iv ((l.getD (Zw l) default).1.log), Iv ((l.getD (Zw l) default).1.commit), slv 5 0 ((l.getD (Zw l) default).1.items.length) ((l.getD (Zw l) default).1.items.length)])) (H' := ([(Zv.B 13 l), (mxW 4 ([Iv 0, Iv 0, Iv 0, .slice none 0 0])), (bxM 4 (Zah wI 4 f)), (mxW 4 ([Iv ((l.getD (Zw l) default).1.node), Iv ((l.getD (Zw l) default).1.log), Iv ((l.getD (Zw l) default).1.commit), slv ((Zw l) + 13) 0 ((l.getD (Zw l) default).1.items.length) ((l.getD (Zw l) default).2)])), rwB Zd5 (Za0 l), rwB Zi ((l.getD (Zw l) default).1.items), hole, hole, hole, hole, hole, hole, hole] ++ (l.map Zv.blk))) rfl rfl rfl rfl rfl rfl rfl ⟨⟨(Zce (by kernel_rfl) ⟨⟨rfl, rfl⟩, ⟨rfl, rfl⟩, ⟨rfl, rfl⟩, ⟨rfl, rfl, rfl, by first | omega | exact Nat.le_refl _, by first | omega | exact Nat.le_refl _⟩, trivial⟩), trivial⟩, ⟨(Zco (Zbw Zv (l := l) (i := (Zw l)) rfl (by omega)) rfl (by show 0 + (Zi.row _).length ≤ (Zi.row _).length; omega) (Zjo Zi _)), trivial⟩, rfl, rfl, rfl⟩ (by kernel_rfl) (by kernel_rfl) ?_
  refine Zd (Iv (Zjj (Za0 l))) (Zh (b := 3) (o := 0) (n := 3) (o' := 3) (Zn (p := pt 3 3) (v := slv ((Zw l) + 13) 0 ((l.getD (Zw l) default).1.items.length) ((l.getD (Zw l) default).2)) (Zaw (p := slv ((Zw l) + 13) 0 ((l.getD (Zw l) default).1.items.length) ((l.getD (Zw l) default).2)) (v := Iv ((((l.getD (Zw l) default).1.items.length) : Nat) : Int)) ?_)))
  by_cases h5 : (Zjj (Za0 l)) ≤ ((((l.getD (Zw l) default).1.items.length) : Nat) : Int)
  refine Z40 (vs := [Iv (Zjj (Za0 l)), Iv ((((l.getD (Zw l) default).1.items.length) : Nat) : Int)]) (v := Iv (Zjj (Za0 l))) rfl rfl rfl (Zz2 (by omega)) ?_
  refine Zab (p := pt 1 0) (v := mxV ([Iv ((l.getD (Zw l) default).1.node), Iv ((l.getD (Zw l) default).1.log), Iv ((l.getD (Zw l) default).1.commit), slv 5 0 ((l.getD (Zw l) default).1.items.length) ((l.getD (Zw l) default).1.items.length)])) (b := 1) (blk := (mxW 4 ([Iv ((l.getD (Zw l) default).1.node), Iv ((l.getD (Zw l) default).1.log), Iv ((l.getD (Zw l) default).1.commit), slv 5 0 ((l.getD (Zw l) default).1.items.length) ((l.getD (Zw l) default).1.items.length)]))) (H' := ([(Zv.B 13 l), (mxW 4 ([Iv ((l.getD (Zw l) default).1.node), Iv ((l.getD (Zw l) default).1.log), Iv ((l.getD (Zw l) default).1.commit), slv 5 0 ((l.getD (Zw l) default).1.items.length) ((l.getD (Zw l) default).1.items.length)])), (bxM 4 (Zah wI 4 f)), (mxW 4 ([Iv ((l.getD (Zw l) default).1.node), Iv ((l.getD (Zw l) default).1.log), Iv ((l.getD (Zw l) default).1.commit), slv ((Zw l) + 13) 0 ((l.getD (Zw l) default).1.items.length) ((l.getD (Zw l) default).2)])), rwB Zd5 (Za0 l), rwB Zi ((l.getD (Zw l) default).1.items), hole, hole, hole, hole, hole, hole, hole] ++ (l.map Zv.blk))) (Zb (Iv (Zjj (Za0 l))) (Zb (.bool true) ?_))
  refine Zdc (Zb2 [[], [0], [], [], [3], [3, 4], [2, 3, 4, 5], [0, 1], [0, 1, 2, 3, 4, 5, 6, 7], [0, 1, 2, 3, 4, 5, 6, 7, 8]] (by kernel_rfl) (by kernel_rfl)) ?_
  refine Zc (Zr ?_)
  rw [show Zq l = ((l.getD (Zw l) default).1, (Zjj (Za0 l)), true) from Zn3 (by omega) (by omega)]
  exact Zey (v := .tuple #[mxV ([Iv ((l.getD (Zw l) default).1.node), Iv ((l.getD (Zw l) default).1.log), Iv ((l.getD (Zw l) default).1.commit), slv 5 0 ((l.getD (Zw l) default).1.items.length) ((l.getD (Zw l) default).1.items.length)]), Iv (Zjj (Za0 l)), .bool true]) (by kernel_rfl) ⟨rfl, fun i hi => Zbw Zv rfl hi, [5], rfl, by decide, rfl, ⟨Zce (by kernel_rfl) ⟨⟨rfl, rfl⟩, ⟨rfl, rfl⟩, ⟨rfl, rfl⟩, Zkt (j := 0) (ks := [5]) rfl (Nat.le_refl _), trivial⟩, rfl, rfl, trivial⟩⟩
  refine Z40 (vs := [Iv (Zjj (Za0 l)), Iv ((((l.getD (Zw l) default).1.items.length) : Nat) : Int)]) (v := Iv ((((l.getD (Zw l) default).1.items.length) : Nat) : Int)) rfl rfl rfl (Zz3 (by omega)) ?_
  refine Zab (p := pt 1 0) (v := mxV ([Iv ((l.getD (Zw l) default).1.node), Iv ((l.getD (Zw l) default).1.log), Iv ((l.getD (Zw l) default).1.commit), slv 5 0 ((l.getD (Zw l) default).1.items.length) ((l.getD (Zw l) default).1.items.length)])) (b := 1) (blk := (mxW 4 ([Iv ((l.getD (Zw l) default).1.node), Iv ((l.getD (Zw l) default).1.log), Iv ((l.getD (Zw l) default).1.commit), slv 5 0 ((l.getD (Zw l) default).1.items.length) ((l.getD (Zw l) default).1.items.length)]))) (H' := ([(Zv.B 13 l), (mxW 4 ([Iv ((l.getD (Zw l) default).1.node), Iv ((l.getD (Zw l) default).1.log), Iv ((l.getD (Zw l) default).1.commit), slv 5 0 ((l.getD (Zw l) default).1.items.length) ((l.getD (Zw l) default).1.items.length)])), (bxM 4 (Zah wI 4 f)), (mxW 4 ([Iv ((l.getD (Zw l) default).1.node), Iv ((l.getD (Zw l) default).1.log), Iv ((l.getD (Zw l) default).1.commit), slv ((Zw l) + 13) 0 ((l.getD (Zw l) default).1.items.length) ((l.getD (Zw l) default).2)])), rwB Zd5 (Za0 l), rwB Zi ((l.getD (Zw l) default).1.items), hole, hole, hole, hole, hole, hole, hole] ++ (l.map Zv.blk))) (Zb (Iv ((((l.getD (Zw l) default).1.items.length) : Nat) : Int)) (Zb (.bool true) ?_))
  refine Zdc (Zb2 [[], [0], [], [], [3], [3, 4], [2, 3, 4, 5], [0, 1], [0, 1, 2, 3, 4, 5, 6, 7], [0, 1, 2, 3, 4, 5, 6, 7, 8]] (by kernel_rfl) (by kernel_rfl)) ?_
  refine Zc (Zr ?_)
  rw [show Zq l = ((l.getD (Zw l) default).1, ((((l.getD (Zw l) default).1.items.length) : Nat) : Int), true) from Zn3 (by omega) (by omega)]
  exact Zey (v := .tuple #[mxV ([Iv ((l.getD (Zw l) default).1.node), Iv ((l.getD (Zw l) default).1.log), Iv ((l.getD (Zw l) default).1.commit), slv 5 0 ((l.getD (Zw l) default).1.items.length) ((l.getD (Zw l) default).1.items.length)]), Iv ((((l.getD (Zw l) default).1.items.length) : Nat) : Int), .bool true]) (by kernel_rfl) ⟨rfl, fun i hi => Zbw Zv rfl hi, [5], rfl, by decide, rfl, ⟨Zce (by kernel_rfl) ⟨⟨rfl, rfl⟩, ⟨rfl, rfl⟩, ⟨rfl, rfl⟩, Zkt (j := 0) (ks := [5]) rfl (Nat.le_refl _), trivial⟩, rfl, rfl, trivial⟩⟩
end Go.Flat
namespace Go.Flat
open Go.Proofs
variable {G : Glob}
def Zx : Nat → List Item
  | 0 => []
  | i + 1 => Zx i ++ [(⟨1, ⟨1, 1, ((i : Int) + 1), ⟨#[]⟩, ⟨⟨0, 0, 0, dz, 0⟩, 0, dz⟩, ⟨0, 0, 0, 0, dz⟩⟩⟩ : Item)]
theorem Zc1 : ∀ n, (Zx n).length = n
 | 0 => rfl
 | n + 1 => by
  have := Zc1 n
  unfold Zx; rw [List.length_append, this]; rfl
def Zi2 (node log : Int) (n : Nat) : TailT := ⟨node, log, 0, Zx n⟩
abbrev Y10  : Blk := mxB 4 ([Iv 0, Iv 0, Iv 0, .slice none 0 0])
theorem Zfo (node log : Int) (n : Nat) (hn : n ≤ 100) : Z6 Tryd.prog G 32 [Iv node, Iv log, Iv (n : Nat)] [] (mxV ([Iv node, Iv log, Iv 0, slv 0 0 n n])) [rwB Zi (Zx n)] := by
  refine Zbh (fn := Tryd.f32) (nt := 26) rfl rfl rfl rfl ?_
  refine Zaf 4 (H' := [hole, hole, hole, hole]) rfl ?_
  refine Zf (Zg (Za9 (b := mxB 4 ([Iv 0, Iv 0, Iv 0, .slice none 0 0])) (nid := 0) (H' := [Y10, hole, hole, hole]) (Za (Zc (Zf (Zg (Zd (Iv node) (Zd (Iv log) ?_))))))))
  refine Zdb (vs := [(0, Iv node), (1, Iv log)]) (v := mxV ([Iv node, Iv log, Iv 0, .slice none 0 0])) rfl rfl rfl (by kernel_rfl) ?_
  refine Za9 (b := mxB 4 ([Iv 0, Iv 0, Iv 0, .slice none 0 0])) (nid := 1) (H' := [Y10, Y10, hole, hole]) (Zab (p := pt 1 0) (v := mxV ([Iv node, Iv log, Iv 0, .slice none 0 0])) (b := 1) (blk := mxB 4 ([Iv node, Iv log, Iv 0, .slice none 0 0])) (H' := [Y10, mxB 4 ([Iv node, Iv log, Iv 0, .slice none 0 0]), hole, hole]) (Za (Zc (Zf (Zf ?_)))))
  refine Zca (Za7.nilCell (k := 1) (j := 3) (b := 2) true 110 rfl (by decide) rfl (by show 0 < 4; decide) rfl rfl) ?_
  refine Zgz (H' := [Y10, mxB 4 ([Iv node, Iv log, Iv 0, slv 2 0 0 0]), rwB Zi [], hole]) (by kernel_rfl) ?_
  refine Zg (Zb (Iv 1) (Za (Zc (Z8 ?_))))
  refine Zbt (fun j : Nat => [Iv node, Iv log, Iv (n : Nat), dead, dead, dead, pt 0 0, pt 1 0, Iv ((j : Nat) + 1), Iv node, Iv log, mxV ([Iv node, Iv log, Iv 0, .slice none 0 0])]) (fun j : Nat => [mxB 4 ([Iv 0, Iv 0, Iv 0, .slice none 0 0]), mxB 4 ([Iv node, Iv log, Iv 0, slv 2 0 j j]), rwB Zi (Zx j)]) (fun j : Nat => j ≤ n) (fun j : Nat => n + 1 - j) 0 (by omega) ?_ ?_
  · refine Zaj (n := 3) rfl ?_ (by kernel_rfl) (by kernel_rfl)
    repeat (first | exact trivial | refine ⟨.inl rfl, ?_⟩ | refine ⟨.inr ⟨rfl, rfl⟩, ?_⟩ | refine ⟨.inr ⟨congrArg (Value.int .i64) (by first | omega | (dsimp only; omega)), rfl⟩, ?_⟩)
  rintro j hj
  refine Zaf 2 (H' := [Y10, mxB 4 ([Iv node, Iv log, Iv 0, slv 2 0 j j]), rwB Zi (Zx j), hole, hole]) rfl ?_
  refine Zf (Zf (Zg (Zd (Iv ((j : Nat) + 1)) (Zd (Iv (n : Nat)) ?_))))
  by_cases h1 : (j : Nat) + 1 ≤ (n : Nat)
  refine Zl (vx := Iv ((j : Nat) + 1)) (vy := Iv (n : Nat)) rfl rfl (.bool true) rfl rfl (Zlg (by omega)) ?_
  refine Za (Zc (Zy rfl (Zz (Zc (Zf (Z8 (Zg (Zh (b := 1) (o := 0) (n := 3) (o' := 3) (Zn (p := pt 1 3) (v := slv 2 0 j j) (Zd (Iv ((j : Nat) + 1)) ?_))))))))))
  refine Zdb (vs := [(0, Iv 1), (1, Iv 1), (2, Iv ((j : Nat) + 1))]) (v := Zd1 (⟨1, 1, (j : Nat) + 1, ⟨#[]⟩, (⟨(⟨0, 0, 0, dz, 0⟩ : Head), 0, dz⟩ : Signed), (⟨0, 0, 0, 0, dz⟩ : Claim)⟩ : Entry)) rfl rfl rfl (by kernel_rfl) ?_
  refine Zdb (vs := [(0, Iv 1), (1, Zd1 (⟨1, 1, (j : Nat) + 1, ⟨#[]⟩, (⟨(⟨0, 0, 0, dz, 0⟩ : Head), 0, dz⟩ : Signed), (⟨0, 0, 0, 0, dz⟩ : Claim)⟩ : Entry))]) (v := Zbd (⟨1, (⟨1, 1, (j : Nat) + 1, ⟨#[]⟩, (⟨(⟨0, 0, 0, dz, 0⟩ : Head), 0, dz⟩ : Signed), (⟨0, 0, 0, 0, dz⟩ : Claim)⟩ : Entry)⟩ : Item)) rfl rfl rfl (by kernel_rfl) ?_
  refine Zep (vs := [(0, Zbd (⟨1, (⟨1, 1, (j : Nat) + 1, ⟨#[]⟩, (⟨(⟨0, 0, 0, dz, 0⟩ : Head), 0, dz⟩ : Signed), (⟨0, 0, 0, 0, dz⟩ : Claim)⟩ : Entry)⟩ : Item))]) (v := slv 3 0 1 1) (blk := rwB Zi [(⟨1, (⟨1, 1, (j : Nat) + 1, ⟨#[]⟩, (⟨(⟨0, 0, 0, dz, 0⟩ : Head), 0, dz⟩ : Signed), (⟨0, 0, 0, 0, dz⟩ : Claim)⟩ : Entry)⟩ : Item)]) (nid := 3) (H' := [Y10, mxB 4 ([Iv node, Iv log, Iv 0, slv 2 0 j j]), rwB Zi (Zx j), rwB Zi [(⟨1, (⟨1, 1, (j : Nat) + 1, ⟨#[]⟩, (⟨(⟨0, 0, 0, dz, 0⟩ : Head), 0, dz⟩ : Signed), (⟨0, 0, 0, 0, dz⟩ : Claim)⟩ : Entry)⟩ : Item)], hole]) rfl rfl rfl (by kernel_rfl) (by kernel_rfl) ?_
  have hl1 : ((Zx j) ++ [(⟨1, (⟨1, 1, (j : Nat) + 1, ⟨#[]⟩, (⟨(⟨0, 0, 0, dz, 0⟩ : Head), 0, dz⟩ : Signed), (⟨0, 0, 0, 0, dz⟩ : Claim)⟩ : Entry)⟩ : Item)]).length = j + 1 := by have := (Zc1 j); have := (rfl : _ = 1); first | (rw [List.length_append]; omega) | (rw [List.length_append, List.length_take]; omega) | (simp; omega) | simp
  refine Zc6 (p := slv 2 0 j j) (q := slv 3 0 1 1) (v := slv 2 0 (j + 1) (j + 1)) (b := 2) (blk := rwB Zi ((Zx j) ++ [(⟨1, (⟨1, 1, (j : Nat) + 1, ⟨#[]⟩, (⟨(⟨0, 0, 0, dz, 0⟩ : Head), 0, dz⟩ : Signed), (⟨0, 0, 0, 0, dz⟩ : Claim)⟩ : Entry)⟩ : Item)])) (H' := [Y10, mxB 4 ([Iv node, Iv log, Iv 0, dead]), rwB Zi ((Zx j) ++ [(⟨1, (⟨1, 1, (j : Nat) + 1, ⟨#[]⟩, (⟨(⟨0, 0, 0, dz, 0⟩ : Head), 0, dz⟩ : Signed), (⟨0, 0, 0, 0, dz⟩ : Claim)⟩ : Entry)⟩ : Item)]), rwB Zi [(⟨1, (⟨1, 1, (j : Nat) + 1, ⟨#[]⟩, (⟨(⟨0, 0, 0, dz, 0⟩ : Head), 0, dz⟩ : Signed), (⟨0, 0, 0, 0, dz⟩ : Claim)⟩ : Entry)⟩ : Item)], hole]) rfl rfl rfl (.inl ⟨_, rfl⟩) rfl rfl (Zig Zi (by_ := 216) (k := 1) (n' := j + 1) (ms := [(⟨1, (⟨1, 1, (j : Nat) + 1, ⟨#[]⟩, (⟨(⟨0, 0, 0, dz, 0⟩ : Head), 0, dz⟩ : Signed), (⟨0, 0, 0, 0, dz⟩ : Claim)⟩ : Entry)⟩ : Item)]) (fun _ => rfl) rfl rfl (by kernel_rfl) rfl rfl (by have := (Zc1 j); omega) (by omega) (by decide) (by omega)) rfl (by kernel_rfl) ?_
  refine Zh (b := 1) (o := 0) (n := 3) (o' := 3) (Zab (p := pt 1 3) (v := slv 2 0 (j + 1) (j + 1)) (b := 1) (blk := mxB 4 ([Iv node, Iv log, Iv 0, slv 2 0 (j + 1) (j + 1)])) (H' := [Y10, mxB 4 ([Iv node, Iv log, Iv 0, slv 2 0 (j + 1) (j + 1)]), rwB Zi ((Zx j) ++ [(⟨1, (⟨1, 1, (j : Nat) + 1, ⟨#[]⟩, (⟨(⟨0, 0, 0, dz, 0⟩ : Head), 0, dz⟩ : Signed), (⟨0, 0, 0, 0, dz⟩ : Claim)⟩ : Entry)⟩ : Item)]), rwB Zi [(⟨1, (⟨1, 1, (j : Nat) + 1, ⟨#[]⟩, (⟨(⟨0, 0, 0, dz, 0⟩ : Head), 0, dz⟩ : Signed), (⟨0, 0, 0, 0, dz⟩ : Claim)⟩ : Entry)⟩ : Item)], hole]) (Za (Z7 (Zc (Zg (Zd (Iv ((j : Nat) + 1)) ?_))))))
  refine Zl (vx := Iv ((j : Nat) + 1)) (vy := Iv 1) rfl rfl (Iv ((j : Nat) + 2)) rfl rfl (Zak (by omega) (by omega) (by omega)) ?_
  refine Zb (Iv ((j : Nat) + 2)) (Za ?_)
  refine Zag ⟨(j + 1), by omega, by show n + 1 - (j + 1) < n + 1 - j; omega, ?_⟩
  refine Zaj (n := 3) rfl ?_ (by kernel_rfl) (by kernel_rfl)
  repeat (first | exact trivial | refine ⟨.inl rfl, ?_⟩ | refine ⟨.inr ⟨rfl, rfl⟩, ?_⟩ | refine ⟨.inr ⟨congrArg (Value.int .i64) (by first | omega | (dsimp only; omega)), rfl⟩, ?_⟩)
  refine Zl (vx := Iv ((j : Nat) + 1)) (vy := Iv (n : Nat)) rfl rfl (.bool false) rfl rfl (Zlf (by omega)) ?_
  refine Za (Zc (Zu rfl (Zbm (Zaq (Zax (Zav rfl (Zc (Zf (Zg (Zn (p := pt 1 0) (v := mxV ([Iv node, Iv log, Iv 0, slv 2 0 j j])) (Zab (p := pt 0 0) (v := mxV ([Iv node, Iv log, Iv 0, slv 2 0 j j])) (b := 0) (blk := mxB 4 ([Iv node, Iv log, Iv 0, slv 2 0 j j])) (H' := [mxB 4 ([Iv node, Iv log, Iv 0, slv 2 0 j j]), mxB 4 ([Iv node, Iv log, Iv 0, slv 2 0 j j]), rwB Zi (Zx j), hole, hole]) (Za (Zc (Zr (Zt ?_)))))))))))))))
  obtain rfl : j = n := (by omega)
  exact Zbc [2] (v := mxV ([Iv node, Iv log, Iv 0, slv 2 0 j j])) rfl (by kernel_rfl) rfl rfl (by decide) (by simp [Zbe, rwB, rwR, Zi]) (Zce (by kernel_rfl) ⟨⟨rfl, rfl⟩, ⟨rfl, rfl⟩, ⟨rfl, rfl⟩, ⟨rfl, rfl, rfl, by first | omega | exact Nat.le_refl _ | exact Nat.zero_le _ | (dsimp only; omega), by first | omega | exact Nat.le_refl _ | exact Nat.zero_le _ | (dsimp only; omega)⟩, trivial⟩)
end Go.Flat
