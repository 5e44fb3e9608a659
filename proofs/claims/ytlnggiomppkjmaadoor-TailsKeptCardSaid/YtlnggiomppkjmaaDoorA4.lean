/- Walks. -/
import Derived.Test.YtlnggiomppkjmaaDoorA2
set_option linter.unusedVariables false
set_option linter.unusedSimpArgs false
set_option maxRecDepth 20000
namespace Go.Flat
open Go.Proofs
variable {G : Glob}
def Zh3 (l : List (TailT × Nat)) : Nat → Nat → Int
  | 0 => fun _ => 0
  | i + 1 => if 1 ≤ (l.getD i default).1.node ∧ (l.getD i default).1.node ≤ 3 then Zg4 (Zh3 l i) (l.getD i default).1.node.toNat 1 else Zh3 l i
theorem Zq4 {l : List (TailT × Nat)} {i : Nat} {f : Nat → Int} (h : f = Zh3 l i) (h1 : 1 ≤ (l.getD i default).1.node) (h2 : (l.getD i default).1.node ≤ 3) : Zg4 f (l.getD i default).1.node.toNat 1 = Zh3 l (i + 1) := by
 subst h; exact (if_pos ⟨h1, h2⟩).symm
theorem Zq3 {l : List (TailT × Nat)} {i : Nat} {f : Nat → Int} (h : f = Zh3 l i) (h1 : ¬ (1 ≤ (l.getD i default).1.node ∧ (l.getD i default).1.node ≤ 3)) : f = Zh3 l (i + 1) := by
 subst h; exact (if_neg h1).symm
theorem Zlk (l : List (TailT × Nat)) : ∀ i k, 0 ≤ Zh3 l i k ∧ Zh3 l i k ≤ 1
 | 0, k => by show 0 ≤ (0 : Int) ∧ (0 : Int) ≤ 1; omega
 | i + 1, k => by
  have := Zlk l i k
  unfold Zh3
  split
  ·unfold Zg4; split
   ·omega
   ·exact this
  ·exact this
def Zom (l : List (TailT × Nat)) : Int := Zh3 l l.length 1 + Zh3 l l.length 2 + Zh3 l l.length 3
theorem Zxl {l : List (TailT × Nat)} (h : ¬ Zom l < 2) : 0 < l.length := by
 cases l with
 | nil => exact absurd (by decide : Zom [] < 2) h
 | cons x l => simp
def Zdf (l : List (TailT × Nat)) : TailT × Int × Bool := if Zom l < 2 then (⟨0, 0, 0, []⟩, 0, false) else ((l.getD (Zv l) default).1, min (Zjz (Za5 l)) (l.getD (Zv l) default).1.items.length, true)
theorem Zwi {l : List (TailT × Nat)} (h : Zom l < 2) : Zdf l = (⟨0, 0, 0, []⟩, 0, false) := if_pos h
theorem Znk {l : List (TailT × Nat)} {z : Int} (h : ¬ Zom l < 2) (hz : min (Zjz (Za5 l)) (l.getD (Zv l) default).1.items.length = z) : Zdf l = ((l.getD (Zv l) default).1, z, true) := by
 unfold Zdf; rw [if_neg h, hz]
theorem Zls (l : List (TailT × Nat)) (c : Nat) (hc : l.length ≤ c) (hb : c ≤ 9223372036854775807) (hS : ∀ i, i < l.length → okT (l.getD i default)) (hB : ∀ i, i < l.length → (l.getD i default).1.items.length ≤ 60) (h2 : l.length ≤ 20) : Z4 Tryd.prog G 10 [slv 0 0 l.length c] (Z9.S 0 l) (.tuple #[mxV ([Iv (Zdf l).1.node, Iv (Zdf l).1.log, Iv (Zdf l).1.commit] ++ [slv (l.length + 1) 0 (Zdf l).1.items.length (Zdf l).1.items.length]), Iv (Zdf l).2.1, .bool (Zdf l).2.2]) ((Z9.S 0 l) ++ [rwB Zh (Zdf l).1.items]) := by
  refine Z4.deep (fn := Tryd.f10) (nt := 50) (N := [rwB Zh (Zdf l).1.items]) 12 rfl rfl rfl rfl Zcw ⟨⟨rfl, rfl, rfl, by first | omega | exact Nat.le_refl _, by first | omega | exact Nat.le_refl _⟩, trivial⟩ rfl rfl ?_
  refine Zia (H' := ([(Z9.B 13 l), hole, hole, hole, hole, hole, hole, hole, hole, hole, hole, hole, hole] ++ (l.map Z9.blk))) rfl ?_
  refine Ze (Zg ?_)
  refine Zgy (b := (mxW 4 ([Iv 0, Iv 0, Iv 0, .slice none 0 0]))) (nid := 1) (H' := ([(Z9.B 13 l), (mxW 4 ([Iv 0, Iv 0, Iv 0, .slice none 0 0])), hole, hole, hole, hole, hole, hole, hole, hole, hole, hole, hole] ++ (l.map Z9.blk))) rfl rfl (by kernel_rfl) (by kernel_rfl) ?_
  refine Zc (Iv 0) (Zc (.bool false) (Za (Zb (Ze (Zg ?_)))))
  refine Zgy (b := (bxM 4 (Zag wI 4 (fun _ => (0 : Int))))) (nid := 2) (H' := ([(Z9.B 13 l), (mxW 4 ([Iv 0, Iv 0, Iv 0, .slice none 0 0])), (bxM 4 (Zag wI 4 (fun _ => (0 : Int)))), hole, hole, hole, hole, hole, hole, hole, hole, hole, hole] ++ (l.map Z9.blk))) rfl rfl (by kernel_rfl) (by kernel_rfl) ?_
  refine Za (Zb (Ze (Ze (Zg (Zd (slv 0 0 l.length c) (Zba (p := slv 0 0 l.length c) (v := Iv (l.length : Nat)) (Zd (Iv 0) (Za (Zb (Z7 ?_))))))))))
  refine Zb2 (fun x : Nat × (Nat → Int) => match x with | (i, f) => [slv 0 0 l.length c, dead, pt 1 0, Iv 0, .bool false, pt 2 0, dead, dead, dead, dead, slv 0 0 l.length c, Iv (l.length : Nat), Iv (i : Nat)]) (fun x : Nat × (Nat → Int) => match x with | (i, f) => ([(Z9.B 13 l), (mxW 4 ([Iv 0, Iv 0, Iv 0, .slice none 0 0])), (bxM 4 (Zag wI 4 f)), hole, hole, hole, hole, hole, hole, hole, hole, hole, hole] ++ (l.map Z9.blk))) (fun x : Nat × (Nat → Int) => match x with | (i, f) => f = Zh3 l i ∧ i ≤ l.length) (fun x : Nat × (Nat → Int) => match x with | (i, f) => l.length - i) (0, (fun _ => (0 : Int))) ⟨rfl, by omega⟩ ?_ ?_
  · refine Zbe.drop [] rfl (fun b => rfl) ?_ (fun x _ => Zqw x)
    repeat (first | exact trivial | refine ⟨.inl rfl, ?_⟩ | refine ⟨.inr ⟨rfl, rfl⟩, ?_⟩ | refine ⟨.inr ⟨congrArg (Value.int .i64) (by first | omega | (dsimp only; omega)), rfl⟩, ?_⟩)
  rintro ⟨i, f⟩ ⟨hA, hi⟩
  dsimp only at *
  refine Ze (Zg ?_)
  by_cases h1 : (i : Nat) < (l.length : Nat)
  refine Zl (vx := Iv (i : Nat)) (vy := Iv (l.length : Nat)) rfl rfl (.bool true) rfl rfl (Zc0 (by omega)) ?_
  refine Za (Zb (Ze (Zy rfl (Zx (Zb (Ze (Z7 (Ze ?_))))))))
  have hok := hS i (by omega)
  obtain ⟨⟨ho1, ho2⟩, ⟨ho3, ho4⟩, ⟨ho5, ho6⟩, ho7, ho8⟩ := hok
  refine Zg ?_
  refine Zb1 (b := 0) (o := 0) (j := i * 4) (m := l.length) (c := c) (sz := 4) (i := (i : Nat)) (k := .i64) rfl rfl rfl rfl rfl (by omega) (by omega) (by omega) ?_
  refine Zaj (p := pt 0 (i * 4)) (v := mxV ([Iv ((l.getD i default).1.node), Iv ((l.getD i default).1.log), Iv ((l.getD i default).1.commit), slv (i + 13) 0 ((l.getD i default).1.items.length) ((l.getD i default).2)])) rfl rfl rfl (Zja Z9 (l := l) (i := i) (K := 13) (m := 4) rfl rfl rfl (by omega) (by omega)) ?_
  refine Zgy (b := (mxW 4 ([Iv 0, Iv 0, Iv 0, .slice none 0 0]))) (nid := 3) (H' := ([(Z9.B 13 l), (mxW 4 ([Iv 0, Iv 0, Iv 0, .slice none 0 0])), (bxM 4 (Zag wI 4 f)), (mxW 4 ([Iv 0, Iv 0, Iv 0, .slice none 0 0])), hole, hole, hole, hole, hole, hole, hole, hole, hole] ++ (l.map Z9.blk))) rfl rfl (by kernel_rfl) (by kernel_rfl) ?_
  refine Zaa (p := pt 3 0) (v := mxV ([Iv ((l.getD i default).1.node), Iv ((l.getD i default).1.log), Iv ((l.getD i default).1.commit), slv (i + 13) 0 ((l.getD i default).1.items.length) ((l.getD i default).2)])) (b := 3) (blk := (mxW 4 ([Iv ((l.getD i default).1.node), Iv ((l.getD i default).1.log), Iv ((l.getD i default).1.commit), slv (i + 13) 0 ((l.getD i default).1.items.length) ((l.getD i default).2)]))) (H' := ([(Z9.B 13 l), (mxW 4 ([Iv 0, Iv 0, Iv 0, .slice none 0 0])), (bxM 4 (Zag wI 4 f)), (mxW 4 ([Iv ((l.getD i default).1.node), Iv ((l.getD i default).1.log), Iv ((l.getD i default).1.commit), slv (i + 13) 0 ((l.getD i default).1.items.length) ((l.getD i default).2)])), hole, hole, hole, hole, hole, hole, hole, hole, hole] ++ (l.map Z9.blk))) (Za (Zb (Ze (Zg (Zi (b := 3) (o := 0) (n := 0) (o' := 0) (Zm (p := pt 3 0) (v := Iv ((l.getD i default).1.node)) ?_))))))
  by_cases h2 : 1 ≤ ((l.getD i default).1.node)
  refine Zl (vx := Iv ((l.getD i default).1.node)) (vy := Iv 1) rfl rfl (.bool true) rfl rfl (Znx (by omega)) ?_
  refine Zd (.bool true) (Zi (b := 3) (o := 0) (n := 0) (o' := 0) (Zm (p := pt 3 0) (v := Iv ((l.getD i default).1.node)) ?_))
  by_cases h3 : ((l.getD i default).1.node) ≤ 3
  refine Zl (vx := Iv ((l.getD i default).1.node)) (vy := Iv 3) rfl rfl (.bool true) rfl rfl (Zj3 (by omega)) ?_
  refine Zj (.bool true) (Za (Zb (Zy rfl (Zg (Zi (b := 3) (o := 0) (n := 0) (o' := 0) (Zm (p := pt 3 0) (v := Iv ((l.getD i default).1.node)) ?_))))))
  refine Zdi (b := 2) (o := 0) (j := (((l.getD i default).1.node).toNat)) (n := 4) (sz := 1) (i := ((l.getD i default).1.node)) (k := .i64) rfl rfl rfl rfl rfl (by omega) (by omega) (by omega) ?_
  refine Zcv (p := pt 2 (((l.getD i default).1.node).toNat)) (v := Iv 1) (b := 2) (blk := (bxM 4 (Zag wI 4 (Zg4 f (((l.getD i default).1.node).toNat) 1)))) (H' := ([(Z9.B 13 l), (mxW 4 ([Iv 0, Iv 0, Iv 0, .slice none 0 0])), (bxM 4 (Zag wI 4 (Zg4 f (((l.getD i default).1.node).toNat) 1))), (mxW 4 ([Iv ((l.getD i default).1.node), Iv ((l.getD i default).1.log), Iv ((l.getD i default).1.commit), slv (i + 13) 0 ((l.getD i default).1.items.length) ((l.getD i default).2)])), hole, hole, hole, hole, hole, hole, hole, hole, hole] ++ (l.map Z9.blk))) rfl rfl rfl (Zg2 (blk := (bxM 4 (Zag wI 4 f))) (i := (((l.getD i default).1.node).toNat)) (enc := wI) (n := 4) (w := f) (x := 1) rfl rfl rfl rfl rfl (by omega) rfl rfl) (by kernel_rfl) ?_
  refine Za (Z8 (Zb (Zg ?_)))
  refine Zl (vx := Iv (i : Nat)) (vy := Iv 1) rfl rfl (Iv ((i : Nat) + 1)) rfl rfl (Zan (by omega) (by omega) (by omega)) ?_
  refine Zd (Iv ((i : Nat) + 1)) (Za ?_)
  refine Zak ⟨((i + 1), (Zg4 f (((l.getD i default).1.node).toNat) 1)), ⟨by first | exact Zq4 hA (by omega) (by omega) | exact Zq3 hA (by omega), by omega⟩, by show l.length - (i + 1) < l.length - i; omega, ?_⟩
  refine Zbe.drop [3] rfl (Zjm rfl rfl) ?_ (Zii (Zp (Zik Z9 Zcw (by decide)) (Zp (.inr (by kernel_rfl)) (Zp (.inl rfl) (Zp (.inl rfl) (Zp (.inl rfl) (Zp (.inl rfl) (Zp (.inl rfl) (Zp (.inl rfl) (Zp (.inl rfl) (Zp (.inl rfl) (Zp (.inl rfl) (Zp (.inl rfl) (Zp (.inl rfl) Zfz))))))))))))) (Zij Z9 Zcw))
  repeat (first | exact trivial | refine ⟨.inl rfl, ?_⟩ | refine ⟨.inr ⟨rfl, rfl⟩, ?_⟩ | refine ⟨.inr ⟨congrArg (Value.int .i64) (by first | omega | (dsimp only; omega)), rfl⟩, ?_⟩)
  refine Zl (vx := Iv ((l.getD i default).1.node)) (vy := Iv 3) rfl rfl (.bool false) rfl rfl (Zj2 (by omega)) ?_
  refine Zj (.bool false) (Za (Zb (Zt rfl (Zx (Z8 (Zb (Zg ?_)))))))
  refine Zl (vx := Iv (i : Nat)) (vy := Iv 1) rfl rfl (Iv ((i : Nat) + 1)) rfl rfl (Zan (by omega) (by omega) (by omega)) ?_
  refine Zd (Iv ((i : Nat) + 1)) (Za ?_)
  refine Zak ⟨((i + 1), f), ⟨by first | exact Zq4 hA (by omega) (by omega) | exact Zq3 hA (by omega), by omega⟩, by show l.length - (i + 1) < l.length - i; omega, ?_⟩
  refine Zbe.drop [3] rfl (Zjm rfl rfl) ?_ (Zii (Zp (Zik Z9 Zcw (by decide)) (Zp (.inr (by kernel_rfl)) (Zp (.inl rfl) (Zp (.inl rfl) (Zp (.inl rfl) (Zp (.inl rfl) (Zp (.inl rfl) (Zp (.inl rfl) (Zp (.inl rfl) (Zp (.inl rfl) (Zp (.inl rfl) (Zp (.inl rfl) (Zp (.inl rfl) Zfz))))))))))))) (Zij Z9 Zcw))
  repeat (first | exact trivial | refine ⟨.inl rfl, ?_⟩ | refine ⟨.inr ⟨rfl, rfl⟩, ?_⟩ | refine ⟨.inr ⟨congrArg (Value.int .i64) (by first | omega | (dsimp only; omega)), rfl⟩, ?_⟩)
  refine Zl (vx := Iv ((l.getD i default).1.node)) (vy := Iv 1) rfl rfl (.bool false) rfl rfl (Znw (by omega)) ?_
  refine Zd (.bool false) (Zf (Zf (Zf (Zj (.bool false) (Za (Zb (Zt rfl (Zx (Z8 (Zb (Zg ?_)))))))))))
  refine Zl (vx := Iv (i : Nat)) (vy := Iv 1) rfl rfl (Iv ((i : Nat) + 1)) rfl rfl (Zan (by omega) (by omega) (by omega)) ?_
  refine Zd (Iv ((i : Nat) + 1)) (Za ?_)
  refine Zak ⟨((i + 1), f), ⟨by first | exact Zq4 hA (by omega) (by omega) | exact Zq3 hA (by omega), by omega⟩, by show l.length - (i + 1) < l.length - i; omega, ?_⟩
  refine Zbe.drop [3] rfl (Zjm rfl rfl) ?_ (Zii (Zp (Zik Z9 Zcw (by decide)) (Zp (.inr (by kernel_rfl)) (Zp (.inl rfl) (Zp (.inl rfl) (Zp (.inl rfl) (Zp (.inl rfl) (Zp (.inl rfl) (Zp (.inl rfl) (Zp (.inl rfl) (Zp (.inl rfl) (Zp (.inl rfl) (Zp (.inl rfl) (Zp (.inl rfl) Zfz))))))))))))) (Zij Z9 Zcw))
  repeat (first | exact trivial | refine ⟨.inl rfl, ?_⟩ | refine ⟨.inr ⟨rfl, rfl⟩, ?_⟩ | refine ⟨.inr ⟨congrArg (Value.int .i64) (by first | omega | (dsimp only; omega)), rfl⟩, ?_⟩)
  refine Zl (vx := Iv (i : Nat)) (vy := Iv (l.length : Nat)) rfl rfl (.bool false) rfl rfl (Zct (by omega)) ?_
  refine Za (Zb (Ze (Zt rfl (Zbp (Zau (Za2 (Za1 rfl (Zb (Ze (Ze ?_))))))))))
  have hse : Zom l = f 1 + f 2 + f 3 := by rw [hA, show i = l.length from by omega]; rfl
  have hf1 : 0 ≤ f 1 ∧ f 1 ≤ 1 := by rw [hA]; exact Zlk l i 1
  have hf2 : 0 ≤ f 2 ∧ f 2 ≤ 1 := by rw [hA]; exact Zlk l i 2
  have hf3 : 0 ≤ f 3 ∧ f 3 ≤ 1 := by rw [hA]; exact Zlk l i 3
  refine Zg ?_
  refine Zdi (b := 2) (o := 0) (j := 1) (n := 4) (sz := 1) (i := 1) (k := .i64) rfl rfl rfl rfl rfl (by omega) (by omega) (by omega) ?_
  refine Zm (p := pt 2 1) (v := Iv (f 1)) ?_
  refine Zdi (b := 2) (o := 0) (j := 2) (n := 4) (sz := 1) (i := 2) (k := .i64) rfl rfl rfl rfl rfl (by omega) (by omega) (by omega) ?_
  refine Zm (p := pt 2 2) (v := Iv (f 2)) ?_
  refine Zl (vx := Iv (f 1)) (vy := Iv (f 2)) rfl rfl (Iv ((f 1) + (f 2))) rfl rfl (Zan (by omega) (by omega) (by omega)) ?_
  refine Zdi (b := 2) (o := 0) (j := 3) (n := 4) (sz := 1) (i := 3) (k := .i64) rfl rfl rfl rfl rfl (by omega) (by omega) (by omega) ?_
  refine Zm (p := pt 2 3) (v := Iv (f 3)) ?_
  refine Zl (vx := Iv ((f 1) + (f 2))) (vy := Iv (f 3)) rfl rfl (Iv ((f 1) + (f 2) + (f 3))) rfl rfl (Zan (by omega) (by omega) (by omega)) ?_
  by_cases h4 : (f 1) + (f 2) + (f 3) < 2
  refine Zl (vx := Iv ((f 1) + (f 2) + (f 3))) (vy := Iv 2) rfl rfl (.bool true) rfl rfl (Zc0 (by omega)) ?_
  refine Za (Zb (Zy rfl (Ze (Zg ?_))))
  refine Zcz (vs := []) (v := mxV ([Iv 0, Iv 0, Iv 0, .slice none 0 0])) rfl rfl rfl (by kernel_rfl) ?_
  refine Zaa (p := pt 1 0) (v := mxV ([Iv 0, Iv 0, Iv 0, .slice none 0 0])) (b := 1) (blk := (mxW 4 ([Iv 0, Iv 0, Iv 0, .slice none 0 0]))) (H' := ([(Z9.B 13 l), (mxW 4 ([Iv 0, Iv 0, Iv 0, .slice none 0 0])), (bxM 4 (Zag wI 4 f)), hole, hole, hole, hole, hole, hole, hole, hole, hole, hole] ++ (l.map Z9.blk))) (Zc (Iv 0) (Zc (.bool false) (Za (Zb ?_))))
  refine Zb6 (Zbe.nilCell (k := 1) (j := 3) (b := 3) true 110 rfl (by decide) rfl (by show 0 < 4; decide) rfl rfl) ?_
  refine Zia (H' := ([(Z9.B 13 l), (mxW 4 ([Iv 0, Iv 0, Iv 0, slv 3 0 0 0])), (bxM 4 (Zag wI 4 f)), rwB Zh [], hole, hole, hole, hole, hole, hole, hole, hole, hole] ++ (l.map Z9.blk))) (by kernel_rfl) ?_
  refine Zr (Z3 ?_)
  rw [Zwi (by omega : Zom l < 2)]
  exact Zow (v := .tuple #[mxV ([Iv 0, Iv 0, Iv 0, slv 3 0 0 0]), Iv 0, .bool false]) (by kernel_rfl) ⟨rfl, fun i hi => Ze8 Z9 rfl hi, [3], rfl, by decide, rfl, ⟨Zbh (by kernel_rfl) ⟨⟨rfl, rfl⟩, ⟨rfl, rfl⟩, ⟨rfl, rfl⟩, Zkq (j := 0) (ks := [3]) rfl (Nat.le_refl _), trivial⟩, rfl, rfl, trivial⟩⟩
  refine Zl (vx := Iv ((f 1) + (f 2) + (f 3))) (vy := Iv 2) rfl rfl (.bool false) rfl rfl (Zct (by omega)) ?_
  refine Za (Zb (Zt rfl (Zx (Zb (Ze ?_)))))
  have h0 : 0 < l.length := Zxl (by omega)
  have hbl := Zya h0
  have hok := hS (Zv l) hbl
  obtain ⟨⟨ho1, ho2⟩, ⟨ho3, ho4⟩, ⟨ho5, ho6⟩, ho7, ho8⟩ := hok
  have hbi := hB (Zv l) hbl
  refine Zg (Zd (slv 0 0 l.length c) ?_)
  refine Zvz (N := []) (b0 := 0) (kk := 13) (a := 0) (q := l.length) (L := l) (nid := 0) (Ztl (G := G) l c hc hb hS hB h0) (vals := [slv 0 0 l.length c, .func (.func 24) #[] #[]]) (v := mxV ([Iv ((l.getD (Zv l) default).1.node), Iv ((l.getD (Zv l) default).1.log), Iv ((l.getD (Zv l) default).1.commit), slv ((Zv l) + 13) 0 ((l.getD (Zv l) default).1.items.length) ((l.getD (Zv l) default).2)])) (H' := ([(Z9.B 13 l), (mxW 4 ([Iv 0, Iv 0, Iv 0, .slice none 0 0])), (bxM 4 (Zag wI 4 f)), hole, hole, hole, hole, hole, hole, hole, hole, hole, hole] ++ (l.map Z9.blk))) rfl rfl rfl rfl rfl rfl Zcw (by simp) (by omega) rfl (fun i hi => Zql Z9 rfl hi) ⟨⟨rfl, rfl, rfl, by omega, by omega⟩, (by first | rfl | exact ⟨by kernel_rfl, by kernel_rfl⟩), trivial⟩ rfl rfl (Z2a (by kernel_rfl) (Zcw.ren _ _ _ _ (Dcod.ext_at hbl))) (by kernel_rfl) ?_
  refine Zgy (b := (mxW 4 ([Iv 0, Iv 0, Iv 0, .slice none 0 0]))) (nid := 3) (H' := ([(Z9.B 13 l), (mxW 4 ([Iv 0, Iv 0, Iv 0, .slice none 0 0])), (bxM 4 (Zag wI 4 f)), (mxW 4 ([Iv 0, Iv 0, Iv 0, .slice none 0 0])), hole, hole, hole, hole, hole, hole, hole, hole, hole] ++ (l.map Z9.blk))) rfl rfl (by kernel_rfl) (by kernel_rfl) ?_
  refine Zaa (p := pt 3 0) (v := mxV ([Iv ((l.getD (Zv l) default).1.node), Iv ((l.getD (Zv l) default).1.log), Iv ((l.getD (Zv l) default).1.commit), slv ((Zv l) + 13) 0 ((l.getD (Zv l) default).1.items.length) ((l.getD (Zv l) default).2)])) (b := 3) (blk := (mxW 4 ([Iv ((l.getD (Zv l) default).1.node), Iv ((l.getD (Zv l) default).1.log), Iv ((l.getD (Zv l) default).1.commit), slv ((Zv l) + 13) 0 ((l.getD (Zv l) default).1.items.length) ((l.getD (Zv l) default).2)]))) (H' := ([(Z9.B 13 l), (mxW 4 ([Iv 0, Iv 0, Iv 0, .slice none 0 0])), (bxM 4 (Zag wI 4 f)), (mxW 4 ([Iv ((l.getD (Zv l) default).1.node), Iv ((l.getD (Zv l) default).1.log), Iv ((l.getD (Zv l) default).1.commit), slv ((Zv l) + 13) 0 ((l.getD (Zv l) default).1.items.length) ((l.getD (Zv l) default).2)])), hole, hole, hole, hole, hole, hole, hole, hole, hole] ++ (l.map Z9.blk))) (Za (Zb (Ze (Zg (Zd (slv 0 0 l.length c) ?_)))))
  refine Zvz (N := [rwB Zd1 (Za5 l)]) (b0 := 0) (kk := 13) (a := 0) (q := l.length) (L := l) (nid := 4) (Zyo (G := G) l c hc hb hS hB (by omega)) (vals := [slv 0 0 l.length c, .func (.func 29) #[] #[]]) (v := slv 4 0 l.length l.length) (H' := ([(Z9.B 13 l), (mxW 4 ([Iv 0, Iv 0, Iv 0, .slice none 0 0])), (bxM 4 (Zag wI 4 f)), (mxW 4 ([Iv ((l.getD (Zv l) default).1.node), Iv ((l.getD (Zv l) default).1.log), Iv ((l.getD (Zv l) default).1.commit), slv ((Zv l) + 13) 0 ((l.getD (Zv l) default).1.items.length) ((l.getD (Zv l) default).2)])), rwB Zd1 (Za5 l), hole, hole, hole, hole, hole, hole, hole, hole] ++ (l.map Z9.blk))) rfl rfl rfl rfl rfl rfl Zcw (by simp) (by omega) rfl (fun i hi => Zql Z9 rfl hi) ⟨⟨rfl, rfl, rfl, by omega, by omega⟩, (by first | rfl | exact ⟨by kernel_rfl, by kernel_rfl⟩), trivial⟩ rfl rfl (Zv2 (Dcod.ext_new (j := 0) rfl (by show 0 < 1; decide))) (by kernel_rfl) ?_
  refine Z0 (e := [some (4, 0)]) (nid := 0) (Z3a (G := G) (Za5 l) l.length l.length (Zrw l) (by omega) (by omega) (by omega)) (vals := [slv 4 0 l.length l.length]) (v := Iv (Zjz (Za5 l))) (H' := ([(Z9.B 13 l), (mxW 4 ([Iv 0, Iv 0, Iv 0, .slice none 0 0])), (bxM 4 (Zag wI 4 f)), (mxW 4 ([Iv ((l.getD (Zv l) default).1.node), Iv ((l.getD (Zv l) default).1.log), Iv ((l.getD (Zv l) default).1.commit), slv ((Zv l) + 13) 0 ((l.getD (Zv l) default).1.items.length) ((l.getD (Zv l) default).2)])), rwB Zd1 (Za5 l), hole, hole, hole, hole, hole, hole, hole, hole] ++ (l.map Z9.blk))) rfl rfl rfl rfl rfl rfl rfl ⟨⟨⟨rfl, rfl, rfl, by first | omega | exact Nat.le_refl _, by first | omega | exact Nat.le_refl _⟩, trivial⟩, ⟨(Zbq rfl), trivial⟩, rfl, rfl, rfl⟩ rfl (by kernel_rfl) ?_
  refine Zc (Iv (Zjz (Za5 l))) (Za (Zb (Ze ?_)))
  refine Zha (by kernel_rfl) ?_
  refine Zm (p := pt 3 0) (v := mxV ([Iv ((l.getD (Zv l) default).1.node), Iv ((l.getD (Zv l) default).1.log), Iv ((l.getD (Zv l) default).1.commit), slv ((Zv l) + 13) 0 ((l.getD (Zv l) default).1.items.length) ((l.getD (Zv l) default).2)])) ?_
  refine Z0 (e := [some (((Zv l) + 13), 0)]) (nid := 5) (Zqy (G := G) ((l.getD (Zv l) default).1) ((l.getD (Zv l) default).1.items.length) ((l.getD (Zv l) default).2) (rfl : _ = _) (by omega) (by omega)) (vals := [mxV ([Iv ((l.getD (Zv l) default).1.node), Iv ((l.getD (Zv l) default).1.log), Iv ((l.getD (Zv l) default).1.commit), slv ((Zv l) + 13) 0 ((l.getD (Zv l) default).1.items.length) ((l.getD (Zv l) default).2)])]) (v := mxV ([Iv ((l.getD (Zv l) default).1.node), Iv ((l.getD (Zv l) default).1.log), Iv ((l.getD (Zv l) default).1.commit), slv 5 0 ((l.getD (Zv l) default).1.items.length) ((l.getD (Zv l) default).1.items.length)])) (H' := ([(Z9.B 13 l), (mxW 4 ([Iv 0, Iv 0, Iv 0, .slice none 0 0])), (bxM 4 (Zag wI 4 f)), (mxW 4 ([Iv ((l.getD (Zv l) default).1.node), Iv ((l.getD (Zv l) default).1.log), Iv ((l.getD (Zv l) default).1.commit), slv ((Zv l) + 13) 0 ((l.getD (Zv l) default).1.items.length) ((l.getD (Zv l) default).2)])), rwB Zd1 (Za5 l), rwB Zh ((l.getD (Zv l) default).1.items), hole, hole, hole, hole, hole, hole, hole] ++ (l.map Z9.blk))) rfl rfl rfl rfl rfl rfl rfl ⟨⟨(Zbh (by kernel_rfl) ⟨⟨rfl, rfl⟩, ⟨rfl, rfl⟩, ⟨rfl, rfl⟩, ⟨rfl, rfl, rfl, by first | omega | exact Nat.le_refl _, by first | omega | exact Nat.le_refl _⟩, trivial⟩), trivial⟩, ⟨(Zcn (Ze8 Z9 (l := l) (i := (Zv l)) rfl (by omega)) rfl (by show 0 + (Zh.row _).length ≤ (Zh.row _).length; omega) (Zlj Zh _)), trivial⟩, rfl, rfl, rfl⟩ (by kernel_rfl) (by kernel_rfl) ?_
  refine Zd (Iv (Zjz (Za5 l))) (Zi (b := 3) (o := 0) (n := 3) (o' := 3) (Zm (p := pt 3 3) (v := slv ((Zv l) + 13) 0 ((l.getD (Zv l) default).1.items.length) ((l.getD (Zv l) default).2)) (Zba (p := slv ((Zv l) + 13) 0 ((l.getD (Zv l) default).1.items.length) ((l.getD (Zv l) default).2)) (v := Iv ((((l.getD (Zv l) default).1.items.length) : Nat) : Int)) ?_)))
  by_cases h5 : (Zjz (Za5 l)) ≤ ((((l.getD (Zv l) default).1.items.length) : Nat) : Int)
  refine Z4d (vs := [Iv (Zjz (Za5 l)), Iv ((((l.getD (Zv l) default).1.items.length) : Nat) : Int)]) (v := Iv (Zjz (Za5 l))) rfl rfl rfl (Zzk (by omega)) ?_
  refine Zaa (p := pt 1 0) (v := mxV ([Iv ((l.getD (Zv l) default).1.node), Iv ((l.getD (Zv l) default).1.log), Iv ((l.getD (Zv l) default).1.commit), slv 5 0 ((l.getD (Zv l) default).1.items.length) ((l.getD (Zv l) default).1.items.length)])) (b := 1) (blk := (mxW 4 ([Iv ((l.getD (Zv l) default).1.node), Iv ((l.getD (Zv l) default).1.log), Iv ((l.getD (Zv l) default).1.commit), slv 5 0 ((l.getD (Zv l) default).1.items.length) ((l.getD (Zv l) default).1.items.length)]))) (H' := ([(Z9.B 13 l), (mxW 4 ([Iv ((l.getD (Zv l) default).1.node), Iv ((l.getD (Zv l) default).1.log), Iv ((l.getD (Zv l) default).1.commit), slv 5 0 ((l.getD (Zv l) default).1.items.length) ((l.getD (Zv l) default).1.items.length)])), (bxM 4 (Zag wI 4 f)), (mxW 4 ([Iv ((l.getD (Zv l) default).1.node), Iv ((l.getD (Zv l) default).1.log), Iv ((l.getD (Zv l) default).1.commit), slv ((Zv l) + 13) 0 ((l.getD (Zv l) default).1.items.length) ((l.getD (Zv l) default).2)])), rwB Zd1 (Za5 l), rwB Zh ((l.getD (Zv l) default).1.items), hole, hole, hole, hole, hole, hole, hole] ++ (l.map Z9.blk))) (Zc (Iv (Zjz (Za5 l))) (Zc (.bool true) ?_))
  refine Zet (Zc1 [[], [0], [], [], [3], [3, 4], [2, 3, 4, 5], [0, 1], [0, 1, 2, 3, 4, 5, 6, 7], [0, 1, 2, 3, 4, 5, 6, 7, 8]] (by kernel_rfl) (by kernel_rfl)) ?_
  refine Zb (Zr ?_)
  rw [show Zdf l = ((l.getD (Zv l) default).1, (Zjz (Za5 l)), true) from Znk (by omega) (by omega)]
  exact Zow (v := .tuple #[mxV ([Iv ((l.getD (Zv l) default).1.node), Iv ((l.getD (Zv l) default).1.log), Iv ((l.getD (Zv l) default).1.commit), slv 5 0 ((l.getD (Zv l) default).1.items.length) ((l.getD (Zv l) default).1.items.length)]), Iv (Zjz (Za5 l)), .bool true]) (by kernel_rfl) ⟨rfl, fun i hi => Ze8 Z9 rfl hi, [5], rfl, by decide, rfl, ⟨Zbh (by kernel_rfl) ⟨⟨rfl, rfl⟩, ⟨rfl, rfl⟩, ⟨rfl, rfl⟩, Zkq (j := 0) (ks := [5]) rfl (Nat.le_refl _), trivial⟩, rfl, rfl, trivial⟩⟩
  refine Z4d (vs := [Iv (Zjz (Za5 l)), Iv ((((l.getD (Zv l) default).1.items.length) : Nat) : Int)]) (v := Iv ((((l.getD (Zv l) default).1.items.length) : Nat) : Int)) rfl rfl rfl (Zzl (by omega)) ?_
  refine Zaa (p := pt 1 0) (v := mxV ([Iv ((l.getD (Zv l) default).1.node), Iv ((l.getD (Zv l) default).1.log), Iv ((l.getD (Zv l) default).1.commit), slv 5 0 ((l.getD (Zv l) default).1.items.length) ((l.getD (Zv l) default).1.items.length)])) (b := 1) (blk := (mxW 4 ([Iv ((l.getD (Zv l) default).1.node), Iv ((l.getD (Zv l) default).1.log), Iv ((l.getD (Zv l) default).1.commit), slv 5 0 ((l.getD (Zv l) default).1.items.length) ((l.getD (Zv l) default).1.items.length)]))) (H' := ([(Z9.B 13 l), (mxW 4 ([Iv ((l.getD (Zv l) default).1.node), Iv ((l.getD (Zv l) default).1.log), Iv ((l.getD (Zv l) default).1.commit), slv 5 0 ((l.getD (Zv l) default).1.items.length) ((l.getD (Zv l) default).1.items.length)])), (bxM 4 (Zag wI 4 f)), (mxW 4 ([Iv ((l.getD (Zv l) default).1.node), Iv ((l.getD (Zv l) default).1.log), Iv ((l.getD (Zv l) default).1.commit), slv ((Zv l) + 13) 0 ((l.getD (Zv l) default).1.items.length) ((l.getD (Zv l) default).2)])), rwB Zd1 (Za5 l), rwB Zh ((l.getD (Zv l) default).1.items), hole, hole, hole, hole, hole, hole, hole] ++ (l.map Z9.blk))) (Zc (Iv ((((l.getD (Zv l) default).1.items.length) : Nat) : Int)) (Zc (.bool true) ?_))
  refine Zet (Zc1 [[], [0], [], [], [3], [3, 4], [2, 3, 4, 5], [0, 1], [0, 1, 2, 3, 4, 5, 6, 7], [0, 1, 2, 3, 4, 5, 6, 7, 8]] (by kernel_rfl) (by kernel_rfl)) ?_
  refine Zb (Zr ?_)
  rw [show Zdf l = ((l.getD (Zv l) default).1, ((((l.getD (Zv l) default).1.items.length) : Nat) : Int), true) from Znk (by omega) (by omega)]
  exact Zow (v := .tuple #[mxV ([Iv ((l.getD (Zv l) default).1.node), Iv ((l.getD (Zv l) default).1.log), Iv ((l.getD (Zv l) default).1.commit), slv 5 0 ((l.getD (Zv l) default).1.items.length) ((l.getD (Zv l) default).1.items.length)]), Iv ((((l.getD (Zv l) default).1.items.length) : Nat) : Int), .bool true]) (by kernel_rfl) ⟨rfl, fun i hi => Ze8 Z9 rfl hi, [5], rfl, by decide, rfl, ⟨Zbh (by kernel_rfl) ⟨⟨rfl, rfl⟩, ⟨rfl, rfl⟩, ⟨rfl, rfl⟩, Zkq (j := 0) (ks := [5]) rfl (Nat.le_refl _), trivial⟩, rfl, rfl, trivial⟩⟩
end Go.Flat
namespace Go.Flat
open Go.Proofs
variable {G : Glob}
def Zu : Nat → List Item
  | 0 => []
  | i + 1 => Zu i ++ [(⟨1, ⟨1, 1, ((i : Int) + 1), ⟨#[]⟩, ⟨⟨0, 0, 0, dz, 0⟩, 0, dz⟩, ⟨0, 0, 0, 0, dz⟩⟩⟩ : Item)]
theorem Zcx : ∀ n, (Zu n).length = n
 | 0 => rfl
 | n + 1 => by
  have := Zcx n
  unfold Zu; rw [List.length_append, this]; rfl
def Ziv (node log : Int) (n : Nat) : TailT := ⟨node, log, 0, Zu n⟩
abbrev Y10  : Blk := mxB 4 ([Iv 0, Iv 0, Iv 0, .slice none 0 0])
theorem Zfj (node log : Int) (n : Nat) (hn : n ≤ 100) : Z4 Tryd.prog G 32 [Iv node, Iv log, Iv (n : Nat)] [] (mxV ([Iv node, Iv log, Iv 0, slv 0 0 n n])) [rwB Zh (Zu n)] := by
  refine Zbd (fn := Tryd.f32) (nt := 26) rfl rfl rfl rfl ?_
  refine Zae 4 (H' := [hole, hole, hole, hole]) rfl ?_
  refine Ze (Zg (Zaw (b := mxB 4 ([Iv 0, Iv 0, Iv 0, .slice none 0 0])) (nid := 0) (H' := [Y10, hole, hole, hole]) (Za (Zb (Ze (Zg (Zd (Iv node) (Zd (Iv log) ?_))))))))
  refine Zcz (vs := [(0, Iv node), (1, Iv log)]) (v := mxV ([Iv node, Iv log, Iv 0, .slice none 0 0])) rfl rfl rfl (by kernel_rfl) ?_
  refine Zaw (b := mxB 4 ([Iv 0, Iv 0, Iv 0, .slice none 0 0])) (nid := 1) (H' := [Y10, Y10, hole, hole]) (Zaa (p := pt 1 0) (v := mxV ([Iv node, Iv log, Iv 0, .slice none 0 0])) (b := 1) (blk := mxB 4 ([Iv node, Iv log, Iv 0, .slice none 0 0])) (H' := [Y10, mxB 4 ([Iv node, Iv log, Iv 0, .slice none 0 0]), hole, hole]) (Za (Zb (Ze (Ze ?_)))))
  refine Zb6 (Zbe.nilCell (k := 1) (j := 3) (b := 2) true 110 rfl (by decide) rfl (by show 0 < 4; decide) rfl rfl) ?_
  refine Zia (H' := [Y10, mxB 4 ([Iv node, Iv log, Iv 0, slv 2 0 0 0]), rwB Zh [], hole]) (by kernel_rfl) ?_
  refine Zg (Zc (Iv 1) (Za (Zb (Z7 ?_))))
  refine Zb2 (fun j : Nat => [Iv node, Iv log, Iv (n : Nat), dead, dead, dead, pt 0 0, pt 1 0, Iv ((j : Nat) + 1), Iv node, Iv log, mxV ([Iv node, Iv log, Iv 0, .slice none 0 0])]) (fun j : Nat => [mxB 4 ([Iv 0, Iv 0, Iv 0, .slice none 0 0]), mxB 4 ([Iv node, Iv log, Iv 0, slv 2 0 j j]), rwB Zh (Zu j)]) (fun j : Nat => j ≤ n) (fun j : Nat => n + 1 - j) 0 (by omega) ?_ ?_
  · refine Zah (n := 3) rfl ?_ (by kernel_rfl) (by kernel_rfl)
    repeat (first | exact trivial | refine ⟨.inl rfl, ?_⟩ | refine ⟨.inr ⟨rfl, rfl⟩, ?_⟩ | refine ⟨.inr ⟨congrArg (Value.int .i64) (by first | omega | (dsimp only; omega)), rfl⟩, ?_⟩)
  rintro j hj
  refine Zae 2 (H' := [Y10, mxB 4 ([Iv node, Iv log, Iv 0, slv 2 0 j j]), rwB Zh (Zu j), hole, hole]) rfl ?_
  refine Ze (Ze (Zg (Zd (Iv ((j : Nat) + 1)) (Zd (Iv (n : Nat)) ?_))))
  by_cases h1 : (j : Nat) + 1 ≤ (n : Nat)
  refine Zl (vx := Iv ((j : Nat) + 1)) (vy := Iv (n : Nat)) rfl rfl (.bool true) rfl rfl (Zj3 (by omega)) ?_
  refine Za (Zb (Zy rfl (Zx (Zb (Ze (Z7 (Zg (Zi (b := 1) (o := 0) (n := 3) (o' := 3) (Zm (p := pt 1 3) (v := slv 2 0 j j) (Zd (Iv ((j : Nat) + 1)) ?_))))))))))
  refine Zcz (vs := [(0, Iv 1), (1, Iv 1), (2, Iv ((j : Nat) + 1))]) (v := Zdv (⟨1, 1, (j : Nat) + 1, ⟨#[]⟩, (⟨(⟨0, 0, 0, dz, 0⟩ : Head), 0, dz⟩ : Signed), (⟨0, 0, 0, 0, dz⟩ : Claim)⟩ : Entry)) rfl rfl rfl (by kernel_rfl) ?_
  refine Zcz (vs := [(0, Iv 1), (1, Zdv (⟨1, 1, (j : Nat) + 1, ⟨#[]⟩, (⟨(⟨0, 0, 0, dz, 0⟩ : Head), 0, dz⟩ : Signed), (⟨0, 0, 0, 0, dz⟩ : Claim)⟩ : Entry))]) (v := Zcs (⟨1, (⟨1, 1, (j : Nat) + 1, ⟨#[]⟩, (⟨(⟨0, 0, 0, dz, 0⟩ : Head), 0, dz⟩ : Signed), (⟨0, 0, 0, 0, dz⟩ : Claim)⟩ : Entry)⟩ : Item)) rfl rfl rfl (by kernel_rfl) ?_
  refine Zen (vs := [(0, Zcs (⟨1, (⟨1, 1, (j : Nat) + 1, ⟨#[]⟩, (⟨(⟨0, 0, 0, dz, 0⟩ : Head), 0, dz⟩ : Signed), (⟨0, 0, 0, 0, dz⟩ : Claim)⟩ : Entry)⟩ : Item))]) (v := slv 3 0 1 1) (blk := rwB Zh [(⟨1, (⟨1, 1, (j : Nat) + 1, ⟨#[]⟩, (⟨(⟨0, 0, 0, dz, 0⟩ : Head), 0, dz⟩ : Signed), (⟨0, 0, 0, 0, dz⟩ : Claim)⟩ : Entry)⟩ : Item)]) (nid := 3) (H' := [Y10, mxB 4 ([Iv node, Iv log, Iv 0, slv 2 0 j j]), rwB Zh (Zu j), rwB Zh [(⟨1, (⟨1, 1, (j : Nat) + 1, ⟨#[]⟩, (⟨(⟨0, 0, 0, dz, 0⟩ : Head), 0, dz⟩ : Signed), (⟨0, 0, 0, 0, dz⟩ : Claim)⟩ : Entry)⟩ : Item)], hole]) rfl rfl rfl (by kernel_rfl) (by kernel_rfl) ?_
  have hl1 : ((Zu j) ++ [(⟨1, (⟨1, 1, (j : Nat) + 1, ⟨#[]⟩, (⟨(⟨0, 0, 0, dz, 0⟩ : Head), 0, dz⟩ : Signed), (⟨0, 0, 0, 0, dz⟩ : Claim)⟩ : Entry)⟩ : Item)]).length = j + 1 := by have := (Zcx j); have := (rfl : _ = 1); first | (rw [List.length_append]; omega) | (rw [List.length_append, List.length_take]; omega) | (simp; omega) | simp
  refine Zc4 (p := slv 2 0 j j) (q := slv 3 0 1 1) (v := slv 2 0 (j + 1) (j + 1)) (b := 2) (blk := rwB Zh ((Zu j) ++ [(⟨1, (⟨1, 1, (j : Nat) + 1, ⟨#[]⟩, (⟨(⟨0, 0, 0, dz, 0⟩ : Head), 0, dz⟩ : Signed), (⟨0, 0, 0, 0, dz⟩ : Claim)⟩ : Entry)⟩ : Item)])) (H' := [Y10, mxB 4 ([Iv node, Iv log, Iv 0, dead]), rwB Zh ((Zu j) ++ [(⟨1, (⟨1, 1, (j : Nat) + 1, ⟨#[]⟩, (⟨(⟨0, 0, 0, dz, 0⟩ : Head), 0, dz⟩ : Signed), (⟨0, 0, 0, 0, dz⟩ : Claim)⟩ : Entry)⟩ : Item)]), rwB Zh [(⟨1, (⟨1, 1, (j : Nat) + 1, ⟨#[]⟩, (⟨(⟨0, 0, 0, dz, 0⟩ : Head), 0, dz⟩ : Signed), (⟨0, 0, 0, 0, dz⟩ : Claim)⟩ : Entry)⟩ : Item)], hole]) rfl rfl rfl (.inl ⟨_, rfl⟩) rfl rfl (Zh6 Zh (by_ := 216) (k := 1) (n' := j + 1) (ms := [(⟨1, (⟨1, 1, (j : Nat) + 1, ⟨#[]⟩, (⟨(⟨0, 0, 0, dz, 0⟩ : Head), 0, dz⟩ : Signed), (⟨0, 0, 0, 0, dz⟩ : Claim)⟩ : Entry)⟩ : Item)]) (fun _ => rfl) rfl rfl (by kernel_rfl) rfl rfl (by have := (Zcx j); omega) (by omega) (by decide) (by omega)) rfl (by kernel_rfl) ?_
  refine Zi (b := 1) (o := 0) (n := 3) (o' := 3) (Zaa (p := pt 1 3) (v := slv 2 0 (j + 1) (j + 1)) (b := 1) (blk := mxB 4 ([Iv node, Iv log, Iv 0, slv 2 0 (j + 1) (j + 1)])) (H' := [Y10, mxB 4 ([Iv node, Iv log, Iv 0, slv 2 0 (j + 1) (j + 1)]), rwB Zh ((Zu j) ++ [(⟨1, (⟨1, 1, (j : Nat) + 1, ⟨#[]⟩, (⟨(⟨0, 0, 0, dz, 0⟩ : Head), 0, dz⟩ : Signed), (⟨0, 0, 0, 0, dz⟩ : Claim)⟩ : Entry)⟩ : Item)]), rwB Zh [(⟨1, (⟨1, 1, (j : Nat) + 1, ⟨#[]⟩, (⟨(⟨0, 0, 0, dz, 0⟩ : Head), 0, dz⟩ : Signed), (⟨0, 0, 0, 0, dz⟩ : Claim)⟩ : Entry)⟩ : Item)], hole]) (Za (Z8 (Zb (Zg (Zd (Iv ((j : Nat) + 1)) ?_))))))
  refine Zl (vx := Iv ((j : Nat) + 1)) (vy := Iv 1) rfl rfl (Iv ((j : Nat) + 2)) rfl rfl (Zan (by omega) (by omega) (by omega)) ?_
  refine Zc (Iv ((j : Nat) + 2)) (Za ?_)
  refine Zak ⟨(j + 1), by omega, by show n + 1 - (j + 1) < n + 1 - j; omega, ?_⟩
  refine Zah (n := 3) rfl ?_ (by kernel_rfl) (by kernel_rfl)
  repeat (first | exact trivial | refine ⟨.inl rfl, ?_⟩ | refine ⟨.inr ⟨rfl, rfl⟩, ?_⟩ | refine ⟨.inr ⟨congrArg (Value.int .i64) (by first | omega | (dsimp only; omega)), rfl⟩, ?_⟩)
  refine Zl (vx := Iv ((j : Nat) + 1)) (vy := Iv (n : Nat)) rfl rfl (.bool false) rfl rfl (Zj2 (by omega)) ?_
  refine Za (Zb (Zt rfl (Zbp (Zau (Za2 (Za1 rfl (Zb (Ze (Zg (Zm (p := pt 1 0) (v := mxV ([Iv node, Iv log, Iv 0, slv 2 0 j j])) (Zaa (p := pt 0 0) (v := mxV ([Iv node, Iv log, Iv 0, slv 2 0 j j])) (b := 0) (blk := mxB 4 ([Iv node, Iv log, Iv 0, slv 2 0 j j])) (H' := [mxB 4 ([Iv node, Iv log, Iv 0, slv 2 0 j j]), mxB 4 ([Iv node, Iv log, Iv 0, slv 2 0 j j]), rwB Zh (Zu j), hole, hole]) (Za (Zb (Zr (Zs ?_)))))))))))))))
  obtain rfl : j = n := (by omega)
  exact Za9 [2] (v := mxV ([Iv node, Iv log, Iv 0, slv 2 0 j j])) rfl (by kernel_rfl) rfl rfl (by decide) (by simp [Za6, rwB, rwR, Zh]) (Zbh (by kernel_rfl) ⟨⟨rfl, rfl⟩, ⟨rfl, rfl⟩, ⟨rfl, rfl⟩, ⟨rfl, rfl, rfl, by first | omega | exact Nat.le_refl _ | exact Nat.zero_le _ | (dsimp only; omega), by first | omega | exact Nat.le_refl _ | exact Nat.zero_le _ | (dsimp only; omega)⟩, trivial⟩)
end Go.Flat
