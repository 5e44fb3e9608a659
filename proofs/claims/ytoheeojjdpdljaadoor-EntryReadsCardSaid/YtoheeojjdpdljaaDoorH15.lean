/- Walks. -/
import Derived.Test.YtoheeojjdpdljaaDoorH12
import Derived.Test.YtoheeojjdpdljaaDoorFlatH
set_option linter.unusedVariables false
set_option linter.unusedSimpArgs false
set_option maxRecDepth 20000
namespace Go.Flat
open Go.Proofs
variable {G : Glob}

def gAt (l : Bs) (o : Nat) : Field × Int × Int := Za2 (l.drop o) (l.length - o)
def Zbh (l : Bs) : Nat → Nat
  | 0 => 0
  | k + 1 => Zbh l k + (gAt l (Zbh l k)).2.1.toNat
def Zcr (l : Bs) (k : Nat) : Field := (gAt l (Zbh l k)).1
def Zey (l : Bs) (k : Nat) : Int := (gAt l (Zbh l k)).2.2
def Zdp (l : Bs) : Nat → Int
  | 0 => 0
  | k + 1 => (Zcr l k).tag
def Zfa (l : Bs) : Nat → List Field
  | 0 => []
  | k + 1 => Zfa l k ++ [Zcr l k]
theorem Zyy (l : Bs) (k : Nat) : Zfa l (k + 1) = Zfa l k ++ [Zcr l k] := rfl
def okK (l : Bs) (k : Nat) : Prop := Zey l k = 0 ∧ Zdp l k < (Zcr l k).tag
def Zn4 (l : Bs) : Nat → Nat → Nat
  | 0, k => k
  | f + 1, k => if l.length ≤ Zbh l k then k else if Zey l k ≠ 0 then k + 1 else Zn4 l f (k + 1)
def Zdm (l : Bs) : Nat := Zn4 l (l.length + 1) 0
theorem Zxf (l : Bs) : ∀ f k, k ≤ Zn4 l f k
 | 0, k => Nat.le_refl _
 | f + 1, k => by
  rw [Zn4]
  split
  ·exact Nat.le_refl _
  ·split
   ·omega
   ·have := Zxf l f (k + 1); omega
theorem Zg7 {l : Bs} {n : Nat} (h : (Za2 l n).2.2 = 0) : 4 ≤ (Za2 l n).2.1 ∧ (Za2 l n).2.1 ≤ (n : Int) := by
 revert h
 unfold Za2
 repeat' split
 all_goals intro h
 all_goals first | exact absurd h (by decide) | (dsimp only; omega)
theorem Zsn {l : Bs} {k : Nat} (h : Zey l k = 0) : Zbh l k + 4 ≤ Zbh l (k + 1) ∧ (Zbh l k ≤ l.length → Zbh l (k + 1) ≤ l.length) := by
 have := Zg7 (l := l.drop (Zbh l k)) (n := l.length - Zbh l k) h
 show Zbh l k + 4 ≤ Zbh l k + (gAt l (Zbh l k)).2.1.toNat ∧ (Zbh l k ≤ l.length → Zbh l k + (gAt l (Zbh l k)).2.1.toNat ≤ l.length)
 unfold gAt
 omega
theorem Zpa {l : Bs} : ∀ k, (∀ j, j < k → okK l j) → (∀ j, j < k → Zbh l j < l.length) → ∃ f, l.length + 1 ≤ f + Zbh l k ∧ Zn4 l f k = Zdm l ∧ Zbh l k ≤ l.length
 | 0, _, _ => ⟨l.length + 1, by simp [Zbh], rfl, Nat.zero_le _⟩
 | k + 1, h, ho => by
  obtain ⟨f, h1, h2, h3⟩ := Zpa k (fun j hj => h j (by omega)) (fun j hj => ho j (by omega))
  have hk := h k (by omega)
  have hl := ho k (by omega)
  have hp := Zsn hk.1
  cases f with
  | zero => omega
  | succ f =>
   rw [Zn4, if_neg (by omega), if_neg (by rw [hk.1]; simp)] at h2
   exact ⟨f, by omega, h2, hp.2 h3⟩
theorem Zkj {l : Bs} : ∀ k, k ≤ Zdm l → (∀ j, j < k → okK l j) → ∀ j, j < k → Zbh l j < l.length
 | 0, _, _, j, hj => by omega
 | k + 1, hk, h, j, hj => by
  have ih := Zkj k (by omega) (fun j hj => h j (by omega))
  rcases Nat.lt_or_ge j k with h1 | h1
  ·exact ih j h1
  ·obtain rfl : j = k := by omega
   obtain ⟨f, g1, g2, g3⟩ := Zpa j (fun i hi => h i (by omega)) ih
   rcases Nat.lt_or_ge (Zbh l j) l.length with h2 | h2
   ·exact h2
   ·have : Zn4 l f j = j := by
     cases f with
     | zero => rfl
     | succ f => rw [Zn4, if_pos h2]
    omega
theorem Z1e {l : Bs} {k : Nat} (h : ∀ j, j < k → okK l j) (ho : ∀ j, j < k → Zbh l j < l.length) (hk : Zbh l k < l.length) : k < Zdm l := by
 obtain ⟨f, g1, g2, g3⟩ := Zpa k h ho
 cases f with
 | zero => omega
 | succ f =>
  rw [Zn4, if_neg (by omega)] at g2
  split at g2
  ·omega
  ·have := Zxf l f (k + 1); omega
theorem Zzs {l : Bs} {k : Nat} (h : ∀ j, j < k → okK l j) (ho : ∀ j, j < k → Zbh l j < l.length) (hk : l.length ≤ Zbh l k) : Zdm l = k := by
 obtain ⟨f, g1, g2, g3⟩ := Zpa k h ho
 rw [← g2]
 cases f with
 | zero => rfl
 | succ f => rw [Zn4, if_pos hk]
theorem Z3l {l : Bs} (h : ∀ k, k < Zdm l → okK l k) : l.length ≤ Zbh l (Zdm l) := by
 rcases Nat.lt_or_ge (Zbh l (Zdm l)) l.length with h1 | h1
 ·have := Z1e h (Zkj _ (Nat.le_refl _) h) h1; omega
 ·exact h1
def Zde : Nat → Bs → Int → List Field → List Field × Int
  | 0, _, _, acc => (acc, 0)
  | f + 1, l, last, acc => if l.length = 0 then (acc, 0) else if (Za2 l l.length).2.2 ≠ 0 then ([], (Za2 l l.length).2.2) else if (Za2 l l.length).1.tag ≤ last then ([], 11) else Zde f (l.drop (Za2 l l.length).2.1.toNat) (Za2 l l.length).1.tag (acc ++ [(Za2 l l.length).1])
def Zh (l : Bs) : List Field × Int := Zde (l.length + 1) l 0 []
theorem Zr7 {l : Bs} : ∀ k, (∀ j, j < k → okK l j) → (∀ j, j < k → Zbh l j < l.length) → ∃ f, l.length + 1 ≤ f + Zbh l k ∧ Zbh l k ≤ l.length ∧ Zh l = Zde f (l.drop (Zbh l k)) (Zdp l k) (Zfa l k)
 | 0, _, _ => ⟨l.length + 1, by simp [Zbh], Nat.zero_le _, rfl⟩
 | k + 1, h, ho => by
  obtain ⟨f, h1, h3, h2⟩ := Zr7 k (fun j hj => h j (by omega)) (fun j hj => ho j (by omega))
  have hk := h k (by omega)
  have hl := ho k (by omega)
  have hp := Zsn hk.1
  cases f with
  | zero => omega
  | succ f =>
   have e : (l.drop (Zbh l k)).length = l.length - Zbh l k := List.length_drop
   rw [Zde, e, if_neg (by omega)] at h2
   have hk1 : (Za2 (l.drop (Zbh l k)) (l.length - Zbh l k)).2.2 = 0 := hk.1
   have hk2 : Zdp l k < (Za2 (l.drop (Zbh l k)) (l.length - Zbh l k)).1.tag := hk.2
   rw [if_neg (by rw [hk1]; simp), if_neg (by omega), List.drop_drop] at h2
   refine ⟨f, by omega, hp.2 h3, ?_⟩
   rw [h2, Zyy]
   rfl
theorem Zun {l : Bs} {k : Nat} (h : ∀ j, j < k → okK l j) (hk : k < Zdm l) : (Zey l k ≠ 0 → Zh l = ([], Zey l k)) ∧ (Zey l k = 0 → (Zcr l k).tag ≤ Zdp l k → Zh l = ([], 11)) := by
 have ho := Zkj k (by omega) h
 obtain ⟨f, h1, h3, h2⟩ := Zr7 k h ho
 have hlt : Zbh l k < l.length := by
  rcases Nat.lt_or_ge (Zbh l k) l.length with h4 | h4
  ·exact h4
  ·have := Zzs h ho h4; omega
 cases f with
 | zero => omega
 | succ f =>
  have e : (l.drop (Zbh l k)).length = l.length - Zbh l k := List.length_drop
  rw [Zde, e, if_neg (by omega)] at h2
  constructor
  ·intro he
   have he' : (Za2 (l.drop (Zbh l k)) (l.length - Zbh l k)).2.2 ≠ 0 := he
   rw [if_pos he'] at h2; exact h2
  ·intro he ht
   have he' : (Za2 (l.drop (Zbh l k)) (l.length - Zbh l k)).2.2 = 0 := he
   have ht' : (Za2 (l.drop (Zbh l k)) (l.length - Zbh l k)).1.tag ≤ Zdp l k := ht
   rw [if_neg (by rw [he']; simp), if_pos ht'] at h2; exact h2
theorem Zzu {l : Bs} (h : ∀ k, k < Zdm l → okK l k) : Zh l = (Zfa l (Zdm l), 0) := by
 obtain ⟨f, h1, h3, h2⟩ := Zr7 _ h (Zkj _ (Nat.le_refl _) h)
 have := Z3l h
 cases f with
 | zero => rw [h2]; rfl
 | succ f =>
  rw [h2, Zde, if_pos (by rw [List.length_drop]; omega)]
theorem Zl5 (l : Bs) : ∀ k, (Zfa l k).length = k
 | 0 => rfl
 | k + 1 => by rw [Zfa, List.length_append, Zl5 l k]; rfl
end Go.Flat
namespace Go.Flat
open Go.Proofs
variable {G : Glob}
def gK (l : Bs) (k : Nat) : Nat := (gAt l (Zbh l k)).2.1.toNat
def Zc7 (l : Bs) : Nat → Nat
  | 0 => l.length
  | k + 1 => Zc7 l k - gK l k
def Ze6 (l : Bs) (c : Nat) : Nat → Nat
  | 0 => c
  | k + 1 => Ze6 l c k - gK l k
theorem Zr5 (l : Bs) : ∀ k, Zc7 l k = l.length - Zbh l k
 | 0 => rfl
 | k + 1 => by
  have h1 := Zr5 l k
  show Zc7 l k - gK l k = l.length - (Zbh l k + gK l k)
  omega
theorem Zxe {l : Bs} {c : Nat} (hc : l.length ≤ c) : ∀ k, Zc7 l k ≤ Ze6 l c k
 | 0 => hc
 | k + 1 => by
  have h1 := Zxe hc k
  show Zc7 l k - gK l k ≤ Ze6 l c k - gK l k
  omega
theorem Z4x {l : Bs} {k : Nat} (h : ∀ j, j < k → okK l j) (ho : ∀ j, j < k → Zbh l j < l.length) : Zbh l k ≤ l.length := by
 obtain ⟨f, h1, h2, h3⟩ := Zpa k h ho; exact h3
theorem Z48 {l : Bs} {k : Nat} (h : Zey l k = 0) (ho : Zbh l k ≤ l.length) : 4 ≤ gK l k ∧ gK l k ≤ Zc7 l k := by
 have h1 := Zg7 (l := l.drop (Zbh l k)) (n := l.length - Zbh l k) h
 have h2 := Zr5 l k
 show 4 ≤ (gAt l (Zbh l k)).2.1.toNat ∧ (gAt l (Zbh l k)).2.1.toNat ≤ Zc7 l k
 unfold gAt
 omega
theorem Zwx (l : Bs) (n : Nat) : 0 ≤ (Za2 l n).2.1 := by
 unfold Za2
 repeat' split
 all_goals first | exact Int.le_refl _ | (dsimp only; omega)
theorem Z50 (l : Bs) (c k : Nat) (hb : l.length ≤ 1099511627776) (hlc : Zc7 l k = l.length - Zbh l k) (hof : Zbh l k ≤ l.length) {d : Nat} (hd : Zc7 l k ≤ d := by omega) : Zao Tryd.prog G 100 [slv 0 0 (Zc7 l k) d] [rdB ((l.drop (Zbh l k)).take (Zc7 l k))] (.tuple #[fdV (Zcr l k), Iv (gK l k : Nat), Iv (Zey l k)]) [rdB ((l.drop (Zbh l k)).take (Zc7 l k))] := by
 have e : (l.drop (Zbh l k)).take (Zc7 l k) = l.drop (Zbh l k) := List.take_of_length_le (by rw [List.length_drop]; omega)
 rw [e]
 have h := Z4t (G := G) (l.drop (Zbh l k)) (Zc7 l k) d (by rw [List.length_drop]; omega) hd (by omega)
 have eg : (Za2 (l.drop (Zbh l k)) (Zc7 l k)).2.1 = ((gK l k : Nat) : Int) := by
  have := Zwx (l.drop (Zbh l k)) (Zc7 l k)
  unfold gK gAt
  rw [← hlc]; omega
 rw [eg] at h
 unfold Zcr Zey gAt
 rw [← hlc]; exact h
theorem Zsx (l : Bs) (c : Nat) (hc : l.length ≤ c) (hb : l.length ≤ 1099511627776) : Z04 Tryd.prog G 99 [pt 6 0] (Zdm l) (fun k => [fdV (Zcr l k), Iv (Zey l k)]) [rdB l, rfB (.slice none 0 0), bxB 1 ([Iv 0]), rfB (slv 4 0 0 0), rwB cFd (Zfa l 0), bxB 1 ([Iv (Zdp l 0)]), rfB (slv 0 (Zbh l 0) (Zc7 l 0) (Ze6 l c 0))] (fun k => [rdB l, rfB (.slice none 0 0), bxB 1 ([Iv 0]), rfB (slv 4 0 k k), rwB cFd (Zfa l k), bxB 1 ([Iv (Zdp l k)]), rfB (slv 0 (Zbh l k) (Zc7 l k) (Ze6 l c k)), bxB 2 (fdC (Zcr l k))]) (fun k => [rdB l, rfB (.slice none 0 0), bxB 1 ([Iv 0]), rfB (slv 4 0 (k + 1) (k + 1)), rwB cFd (Zfa l (k + 1)), bxB 1 ([Iv (Zdp l (k + 1))]), rfB (slv 0 (Zbh l k) (Zc7 l k) (Ze6 l c k)), bxB 2 (fdC (Zcr l k))]) (okK l) [rdB l, rfB (.slice none 0 0), bxB 1 ([Iv 0]), rfB (slv 4 0 (Zdm l) (Zdm l)), rwB cFd (Zfa l (Zdm l)), bxB 1 ([Iv (Zdp l (Zdm l))]), rfB (slv 0 (Zbh l (Zdm l)) (Zc7 l (Zdm l)) (Ze6 l c (Zdm l)))] := by
  refine Zwj (fn := Tryd.f99) rfl rfl (nt := 27) rfl rfl rfl ?_
  intro E l' Stop hE hd hY
  refine Ztc ?_
  refine Z3d hE (fun k : Nat => [.func (.yield l') #[] #[], pt 6 0]) (fun k : Nat => [rdB l, rfB (.slice none 0 0), bxB 1 ([Iv 0]), rfB (slv 4 0 k k), rwB cFd (Zfa l k), bxB 1 ([Iv (Zdp l k)]), rfB (slv 0 (Zbh l k) (Zc7 l k) (Ze6 l c k))]) (fun k : Nat => (∀ j, j < k → okK l j) ∧ (∀ j, j < k → Zbh l j < l.length)) (fun k : Nat => Zc7 l k) 0 ⟨fun _ h => absurd h (by omega), fun _ h => absurd h (by omega)⟩ ?_ ?_
  · refine Zaq (n := 7) rfl ?_ (by kernel_rfl) (by kernel_rfl)
    repeat (first | exact trivial | refine ⟨.inl rfl, ?_⟩ | refine ⟨.inr ⟨rfl, rfl⟩, ?_⟩ | refine ⟨.inr ⟨congrArg (Value.int .i64) (by first | omega | (dsimp only; omega)), rfl⟩, ?_⟩)
  rintro k ⟨hks, hos⟩
  refine Z2e hE 1 (H' := [rdB l, rfB (.slice none 0 0), bxB 1 ([Iv 0]), rfB (slv 4 0 k k), rwB cFd (Zfa l k), bxB 1 ([Iv (Zdp l k)]), rfB (slv 0 (Zbh l k) (Zc7 l k) (Ze6 l c k)), hole]) rfl ?_
  have hof := Z4x hks hos
  have hlc := Zr5 l k
  have hcc := Zxe (c := c) hc k
  refine Zpw (Zpw ?_)
  refine Zvb (by kernel_rfl) ?_
  refine Zo (p := pt 6 0) (v := slv 0 (Zbh l k) (Zc7 l k) (Ze6 l c k)) rfl rfl rfl rfl ?_
  refine Zb7 (p := slv 0 (Zbh l k) (Zc7 l k) (Ze6 l c k)) (v := Iv (((Zc7 l k) : Nat) : Int)) rfl rfl rfl rfl ?_
  by_cases h1 : 0 < (((Zc7 l k) : Nat) : Int)
  refine Zn (vx := Iv (((Zc7 l k) : Nat) : Int)) (vy := Iv 0) rfl rfl (.bool true) rfl rfl (Zf1 (by omega)) ?_
  refine Za (Zau (Z15 rfl (Zxj (Zau (Ztc (Zpw ?_))))))
  refine Zvb (by kernel_rfl) ?_
  refine Zo (p := pt 6 0) (v := slv 0 (Zbh l k) (Zc7 l k) (Ze6 l c k)) rfl rfl rfl rfl ?_
  refine Zad (e := [some (0, (Zbh l k))]) (nid := 0) (Z50 (G := G) l c k hb hlc hof) (vals := [slv 0 (Zbh l k) (Zc7 l k) (Ze6 l c k)]) (v := .tuple #[fdV (Zcr l k), Iv (((gK l k) : Nat) : Int), Iv (Zey l k)]) (H' := [rdB l, rfB (.slice none 0 0), bxB 1 ([Iv 0]), rfB (slv 4 0 k k), rwB cFd (Zfa l k), bxB 1 ([Iv (Zdp l k)]), rfB (slv 0 (Zbh l k) (Zc7 l k) (Ze6 l c k)), hole]) rfl rfl rfl rfl rfl rfl rfl ⟨⟨⟨rfl, by omega, rfl, by omega, by omega⟩, trivial⟩, ⟨(Zme rfl (.inl rfl) (by omega)), trivial⟩, rfl, rfl, rfl⟩ (by kernel_rfl) (by kernel_rfl) ?_
  refine Zd rfl rfl (.tuple #[fdV (Zcr l k), Iv (((gK l k) : Nat) : Int), Iv (Zey l k)]) rfl (Zt (vs := #[fdV (Zcr l k), Iv (((gK l k) : Nat) : Int), Iv (Zey l k)]) (v := fdV (Zcr l k)) rfl rfl rfl rfl (Zt (vs := #[fdV (Zcr l k), Iv (((gK l k) : Nat) : Int), Iv (Zey l k)]) (v := Iv (((gK l k) : Nat) : Int)) rfl rfl rfl rfl (Zt (vs := #[fdV (Zcr l k), Iv (((gK l k) : Nat) : Int), Iv (Zey l k)]) (v := Iv (Zey l k)) rfl rfl rfl rfl ?_)))
  refine Zae (b := bxB 2 (fdC (⟨0, ⟨#[]⟩⟩ : Field))) (nid := 7) (H' := [rdB l, rfB (.slice none 0 0), bxB 1 ([Iv 0]), rfB (slv 4 0 k k), rwB cFd (Zfa l k), bxB 1 ([Iv (Zdp l k)]), rfB (slv 0 (Zbh l k) (Zc7 l k) (Ze6 l c k)), bxB 2 (fdC (⟨0, ⟨#[]⟩⟩ : Field))]) rfl rfl (by kernel_rfl) (by kernel_rfl) ?_
  refine Zr (p := pt 7 0) (v := fdV (Zcr l k)) (b := 7) (blk := bxB 2 (fdC (Zcr l k))) (H' := [rdB l, rfB (.slice none 0 0), bxB 1 ([Iv 0]), rfB (slv 4 0 k k), rwB cFd (Zfa l k), bxB 1 ([Iv (Zdp l k)]), rfB (slv 0 (Zbh l k) (Zc7 l k) (Ze6 l c k)), bxB 2 (fdC (Zcr l k))]) rfl rfl rfl (by kernel_rfl) (by kernel_rfl) ?_
  refine Zb rfl rfl (Iv (((gK l k) : Nat) : Int)) rfl (Zb rfl rfl (Iv (Zey l k)) rfl (Za (Zau (Zpw (Zpw ?_)))))
  refine Z0q (fun w' h => ⟨w', h, rfl⟩) 3 rfl rfl rfl (by kernel_rfl) ?_
  refine Zd rfl rfl (.func (.yield l') #[] #[]) rfl ?_
  refine Zo (p := pt 7 0) (v := fdV (Zcr l k)) rfl rfl rfl (by kernel_rfl) ?_
  refine Zd rfl rfl (Iv (Zey l k)) rfl ?_
  refine Zrt ?_
  show Zxk _ _ _ _ _ _ _ _ _ _ _ _ _
  unfold Zxk
  refine ⟨l', [fdV (Zcr l k), Iv (Zey l k)], [rdB l, rfB (.slice none 0 0), bxB 1 ([Iv 0]), rfB (slv 4 0 (k + 1) (k + 1)), rwB cFd (Zfa l (k + 1)), bxB 1 ([Iv (Zdp l (k + 1))]), rfB (slv 0 (Zbh l k) (Zc7 l k) (Ze6 l c k)), bxB 2 (fdC (Zcr l k))], okK l k, rfl, rfl, by decide, hY k (Z1e hks hos (by omega)) hks, fun hok => ?_, ?_⟩
  have he : Zey l k = 0 := hok.1
  have hg := Z48 he hof
  have hp := Zsn he
  refine Zef (vx := .bool true) rfl rfl (.bool false) rfl Zb1 ?_
  refine Zd rfl rfl (.bool false) rfl (Zd rfl rfl (Iv (Zey l k)) rfl ?_)
  refine Zn (vx := Iv (Zey l k)) (vy := Iv 0) rfl rfl (.bool false) rfl rfl (Zds (by omega)) ?_
  refine Zk rfl rfl (.bool false) rfl (Za (Zau (Zs1 rfl (Zxj (Zau ?_)))))
  refine Zvb (by kernel_rfl) ?_
  refine Zo (p := pt 6 0) (v := slv 0 (Zbh l k) (Zc7 l k) (Ze6 l c k)) rfl rfl rfl rfl ?_
  refine Zd rfl rfl (Iv (((gK l k) : Nat) : Int)) rfl ?_
  refine Zec (p := slv 0 (Zbh l k) (Zc7 l k) (Ze6 l c k)) (vl := some (Iv (((gK l k) : Nat) : Int))) (vh := none) (v := slv 0 ((Zbh l k) + (gK l k)) ((Zc7 l k) - (gK l k)) ((Ze6 l c k) - (gK l k))) rfl rfl rfl rfl rfl (Zmb (sz := 1) (l := (gK l k)) rfl rfl rfl (by omega) (by omega) (by omega) rfl (by omega) (by omega) (by omega)) ?_
  refine Zr (p := pt 6 0) (v := slv 0 ((Zbh l k) + (gK l k)) ((Zc7 l k) - (gK l k)) ((Ze6 l c k) - (gK l k))) (b := 6) (blk := rfB (slv 0 ((Zbh l k) + (gK l k)) ((Zc7 l k) - (gK l k)) ((Ze6 l c k) - (gK l k)))) (H' := [rdB l, rfB (.slice none 0 0), bxB 1 ([Iv 0]), rfB (slv 4 0 (k + 1) (k + 1)), rwB cFd (Zfa l (k + 1)), bxB 1 ([Iv (Zdp l (k + 1))]), rfB (slv 0 ((Zbh l k) + (gK l k)) ((Zc7 l k) - (gK l k)) ((Ze6 l c k) - (gK l k))), bxB 2 (fdC (Zcr l k))]) rfl rfl rfl (by kernel_rfl) (by kernel_rfl) ?_
  refine Za (Z1 ?_)
  refine Zau ⟨(k + 1), ⟨fun j hj => by rcases Nat.lt_or_ge j k with h | h; exact hks j h; obtain rfl : j = k := (by omega); exact hok, fun j hj => by rcases Nat.lt_or_ge j k with h | h; exact hos j h; obtain rfl : j = k := (by omega); omega⟩, by show Zc7 l k - gK l k < Zc7 l k; omega, ?_⟩
  refine Zaq (n := 7) rfl ?_ (by kernel_rfl) (by kernel_rfl)
  repeat (first | exact trivial | refine ⟨.inl rfl, ?_⟩ | refine ⟨.inr ⟨rfl, rfl⟩, ?_⟩ | refine ⟨.inr ⟨congrArg (Value.int .i64) (by first | omega | (dsimp only; omega)), rfl⟩, ?_⟩)
  refine Zef (vx := .bool false) rfl rfl (.bool true) rfl Zb1 ?_
  refine Zd rfl rfl (.bool true) rfl (Zf rfl rfl (Zf rfl rfl (Zk rfl rfl (.bool true) rfl (Za (Zau (Zn8 rfl (Zrp (Zfm (Zbb (Zfm (Zbb ?_)))))))))))
  exact ⟨.inr rfl⟩
  refine Zn (vx := Iv (((Zc7 l k) : Nat) : Int)) (vy := Iv 0) rfl rfl (.bool false) rfl rfl (Zf8 (by omega)) ?_
  refine Za (Zau (Zs1 rfl (Z3h (Zbo (Zbo (Zbp rfl ?_))))))
  have e := Zzs hks hos (by omega)
  exact ⟨⟨.inl rfl, fun j hj => hks j (by omega), _, by rw [e]; exact Zaq (l := []) (n := 7) rfl trivial (by kernel_rfl) (by kernel_rfl)⟩⟩
end Go.Flat
namespace Go.Flat
open Go.Proofs
variable {G : Glob}
theorem Zxb (l : Bs) : ∀ f k, Zn4 l f k ≤ k + f
 | 0, k => Nat.le_refl _
 | f + 1, k => by
  rw [Zn4]
  split
  ·omega
  ·split
   ·omega
   ·have := Zxb l f (k + 1); omega
theorem Zxq {l : Bs} {k : Nat} (hk : k < Zdm l) (hb : l.length ≤ 1099511627776) : k ≤ 1099511627776 := by
 have := Zxb l (l.length + 1) 0
 unfold Zdm at hk
 omega
theorem Zy7 (l : Bs) (n c : Nat) (hn : l.length = n) (hc : n ≤ c) : Zao Tryd.prog G 91 [slv 0 0 n c] [rdB l] (.func (.func 99) #[] #[pt 1 0]) [rdB l, rfB (slv 0 0 n c)] := by
 refine Zbv (fn := Tryd.f91) (nt := 4) rfl rfl rfl rfl ?_
 refine Zat 1 (H' := [rdB l, hole]) rfl ?_
 refine Zg (Zi ?_)
 refine Zel (v := slv 0 0 n c) (b := rfB (slv 0 0 n c)) (nid := 1) (H' := [rdB l, rfB (slv 0 0 n c)]) rfl rfl rfl (by kernel_rfl) (by kernel_rfl) ?_
 refine Zb rfl rfl .nilFunc rfl (Za (Zc (Zg (Zi ?_))))
 refine Zqz (vs := []) (ws := [pt 1 0]) rfl rfl rfl rfl rfl ?_
 refine Zb rfl rfl (.func (.func 99) #[] #[pt 1 0]) rfl (Za (Zc (Zv (Zu ?_))))
 exact Za5 [0, 1] (v := .func (.func 99) #[] #[pt 1 0]) rfl (by kernel_rfl) rfl rfl (by decide) (by simp [Zac, rdB, rfB, Zej, Zcp]) ⟨by simp [Zdq, Zct, Zk3, idE], by kernel_rfl⟩
theorem Zof (l : Bs) (c : Nat) (hc : l.length ≤ c) (hb : l.length ≤ 1099511627776) : Zao Tryd.prog G 67 [slv 0 0 l.length c] [rdB l] (.tuple #[slv 1 0 (Zh l).1.length (Zh l).1.length, Iv (Zh l).2]) [rdB l, rwB cFd (Zh l).1] := by
  refine Zao.introM (fn := Tryd.f67) rfl rfl (nt := 30) rfl rfl ?_
  refine Zoh (Zsi ?_)
  refine Zxd 6 (H' := [rdB l, hole, hole, hole, hole, hole, hole]) rfl ?_
  refine Zfk (by kernel_rfl) ?_
  refine Zae (b := rfB (.slice none 0 0)) (nid := 1) (H' := [rdB l, rfB (.slice none 0 0), hole, hole, hole, hole, hole]) rfl rfl (by kernel_rfl) (by kernel_rfl) ?_
  refine Zae (b := bxB 1 ([Iv 0])) (nid := 2) (H' := [rdB l, rfB (.slice none 0 0), bxB 1 ([Iv 0]), hole, hole, hole, hole]) rfl rfl (by kernel_rfl) (by kernel_rfl) ?_
  refine Za (Zau (Zoh (Zsi ?_)))
  refine Zfk (by kernel_rfl) ?_
  refine Zae (b := rfB (.slice none 0 0)) (nid := 3) (H' := [rdB l, rfB (.slice none 0 0), bxB 1 ([Iv 0]), rfB (.slice none 0 0), hole, hole, hole]) rfl rfl (by kernel_rfl) (by kernel_rfl) ?_
  refine Za (Zau (Zoh (Zsi ?_)))
  refine Zod (Zcq.nilCell (k := 3) (j := 0) (b := 4) true 2 rfl (by decide) rfl (by show 0 < 1; decide) rfl rfl) ?_
  refine Zfk (by kernel_rfl) ?_
  refine Zae (b := bxB 1 ([Iv 0])) (nid := 5) (H' := [rdB l, rfB (.slice none 0 0), bxB 1 ([Iv 0]), rfB (slv 4 0 0 0), rwB cFd [], bxB 1 ([Iv 0]), hole]) rfl rfl (by kernel_rfl) (by kernel_rfl) ?_
  refine Zr (p := pt 5 0) (v := Iv 0) (b := 5) (blk := bxB 1 ([Iv 0])) (H' := [rdB l, rfB (.slice none 0 0), bxB 1 ([Iv 0]), rfB (slv 4 0 0 0), rwB cFd [], bxB 1 ([Iv 0]), hole]) rfl rfl rfl (by kernel_rfl) (by kernel_rfl) ?_
  refine Za (Zau (Zoh (Zoh (Zsi ?_))))
  refine Zfk (by kernel_rfl) ?_
  refine Zd rfl rfl (slv 0 0 l.length c) rfl ?_
  refine Zad (e := [some (0, 0)]) (nid := 6) (Zy7 (G := G) l l.length c rfl hc) (vals := [slv 0 0 l.length c]) (v := .func (.func 99) #[] #[pt 6 0]) (H' := [rdB l, rfB (.slice none 0 0), bxB 1 ([Iv 0]), rfB (slv 4 0 0 0), rwB cFd [], bxB 1 ([Iv 0]), rfB (slv 0 0 l.length c)]) rfl rfl rfl rfl rfl rfl rfl ⟨⟨⟨rfl, rfl, rfl, by omega, by omega⟩, trivial⟩, ⟨(Zdk rfl), trivial⟩, rfl, rfl, rfl⟩ (by kernel_rfl) (by kernel_rfl) ?_
  refine Za (Zau ?_)
  refine Zz0 (lbs := #[pt 6 0]) (iter := Zsx (G := G) l c hc hb) rfl rfl rfl (fun _ _ => rfl) (by kernel_rfl) ?_ ?_
  · intro lp k hk hks
    have hkb : k ≤ 1099511627776 := Zxq hk hb
    refine Zxd 3 (H' := [rdB l, rfB (.slice none 0 0), bxB 1 ([Iv 0]), rfB (slv 4 0 k k), rwB cFd (Zfa l k), bxB 1 ([Iv (Zdp l k)]), rfB (slv 0 (Zbh l k) (Zc7 l k) (Ze6 l c k)), bxB 2 (fdC (Zcr l k)), hole, hole, hole]) rfl ?_
    refine Zgi ?_
    refine Zfk (by kernel_rfl) ?_
    refine Zae (b := bxB 2 (fdC (⟨0, ⟨#[]⟩⟩ : Field))) (nid := 8) (H' := [rdB l, rfB (.slice none 0 0), bxB 1 ([Iv 0]), rfB (slv 4 0 k k), rwB cFd (Zfa l k), bxB 1 ([Iv (Zdp l k)]), rfB (slv 0 (Zbh l k) (Zc7 l k) (Ze6 l c k)), bxB 2 (fdC (Zcr l k)), bxB 2 (fdC (⟨0, ⟨#[]⟩⟩ : Field)), hole, hole]) rfl rfl (by kernel_rfl) (by kernel_rfl) ?_
    refine Zr (p := pt 8 0) (v := fdV (Zcr l k)) (b := 8) (blk := bxB 2 (fdC (Zcr l k))) (H' := [rdB l, rfB (.slice none 0 0), bxB 1 ([Iv 0]), rfB (slv 4 0 k k), rwB cFd (Zfa l k), bxB 1 ([Iv (Zdp l k)]), rfB (slv 0 (Zbh l k) (Zc7 l k) (Ze6 l c k)), bxB 2 (fdC (Zcr l k)), bxB 2 (fdC (Zcr l k)), hole, hole]) rfl rfl rfl (by kernel_rfl) (by kernel_rfl) ?_
    refine Za (Zau ?_)
    refine Zfk (by kernel_rfl) ?_
    refine Zb rfl rfl (Iv (Zey l k)) rfl (Za (Zau (Z1u (Zgi (Zgi ?_)))))
    refine Zfk (by kernel_rfl) ?_
    refine Zd rfl rfl (Iv (Zey l k)) rfl ?_
    by_cases h1 : (Zey l k) = 0
    refine Zn (vx := Iv (Zey l k)) (vy := Iv 0) rfl rfl (.bool true) rfl rfl (Zbs (by omega)) ?_
    refine Zd rfl rfl (.bool true) rfl ?_
    refine Zj (b := 8) (o := 0) (n := 0) (o' := 0) rfl rfl rfl rfl rfl ?_
    refine Zo (p := pt 8 0) (v := Iv ((Zcr l k).tag)) rfl rfl rfl (by kernel_rfl) ?_
    refine Zo (p := pt 5 0) (v := Iv (Zdp l k)) rfl rfl rfl (by kernel_rfl) ?_
    by_cases h2 : ((Zcr l k).tag) ≤ (Zdp l k)
    refine Zn (vx := Iv ((Zcr l k).tag)) (vy := Iv (Zdp l k)) rfl rfl (.bool true) rfl rfl (Zmf (by omega)) ?_
    refine Zk rfl rfl (.bool true) rfl (Za (Zau (Zn8 rfl ?_)))
    refine Zfk (by kernel_rfl) ?_
    refine Zb rfl rfl (Iv 11) rfl (Za (Zau (Zgi (Zgi ?_))))
    refine Zfk (by kernel_rfl) ?_
    refine Zd rfl rfl (Iv 11) rfl ?_
    refine Zn (vx := Iv 11) (vy := Iv 0) rfl rfl (.bool true) rfl rfl (Zeg (by omega)) ?_
    refine Za (Zau (Zn8 rfl (Zgi ?_)))
    refine Zfk (by kernel_rfl) ?_
    refine Zd rfl rfl (Iv 11) rfl ?_
    refine Zr (p := pt 1 0) (v := .slice none 0 0) (b := 1) (blk := rfB (.slice none 0 0)) (H' := [rdB l, rfB (.slice none 0 0), bxB 1 ([Iv 0]), rfB (slv 4 0 k k), rwB cFd (Zfa l k), bxB 1 ([Iv (Zdp l k)]), rfB (slv 0 (Zbh l k) (Zc7 l k) (Ze6 l c k)), bxB 2 (fdC (Zcr l k)), bxB 2 (fdC (Zcr l k)), hole, hole]) rfl rfl rfl (by kernel_rfl) (by kernel_rfl) ?_
    refine Zr (p := pt 2 0) (v := Iv 11) (b := 2) (blk := bxB 1 ([Iv 11])) (H' := [rdB l, rfB (.slice none 0 0), bxB 1 ([Iv 11]), rfB (slv 4 0 k k), rwB cFd (Zfa l k), bxB 1 ([Iv (Zdp l k)]), rfB (slv 0 (Zbh l k) (Zc7 l k) (Ze6 l c k)), bxB 2 (fdC (Zcr l k)), bxB 2 (fdC (Zcr l k)), hole, hole]) rfl rfl rfl (by kernel_rfl) (by kernel_rfl) ?_
    refine Za (Zau ?_)
    refine Zod (Zcq.nilCell (k := 1) (j := 0) (b := 9) true 2 rfl (by decide) rfl (by show 0 < 1; decide) rfl rfl) ?_
    refine Zrp (Zfm (Zbb ?_))
    refine ⟨?_⟩
    show ∃ v e, EndOK _ _ _ _ _ _ _ v e
    rw [show Zh l = ([], 11) from (Zun hks hk).2 (by omega) (by omega)]
    exact Za5 [0, 9] (v := .tuple #[slv 9 0 0 0, Iv 11]) (by kernel_rfl) (by kernel_rfl) rfl rfl (by decide) (by simp [Zac, rdB, rwB, cFd]) ⟨⟨rfl, rfl, rfl, by first | omega | exact Nat.le_refl _ | exact Nat.zero_le _ | (dsimp only; omega), by first | omega | exact Nat.le_refl _ | exact Nat.zero_le _ | (dsimp only; omega)⟩, rfl, trivial⟩
    refine Zn (vx := Iv ((Zcr l k).tag)) (vy := Iv (Zdp l k)) rfl rfl (.bool false) rfl rfl (Zk8 (by omega)) ?_
    refine Zk rfl rfl (.bool false) rfl (Za (Zau (Zos rfl (Zrs (Zau (Zgi (Zgi ?_)))))))
    refine Zfk (by kernel_rfl) ?_
    refine Zd rfl rfl (Iv (Zey l k)) rfl ?_
    refine Zn (vx := Iv (Zey l k)) (vy := Iv 0) rfl rfl (.bool false) rfl rfl (Zds (by omega)) ?_
    refine Za (Zau (Zos rfl (Zrs (Zau (Zgi ?_)))))
    refine Zfk (by kernel_rfl) ?_
    refine Zo (p := pt 3 0) (v := slv 4 0 k k) rfl rfl rfl rfl ?_
    refine Zo (p := pt 8 0) (v := fdV (Zcr l k)) rfl rfl rfl (by kernel_rfl) ?_
    refine Zd5 (vs := [(0, fdV (Zcr l k))]) (v := slv 9 0 1 1) (blk := rwB cFd [(Zcr l k)]) (nid := 9) (H' := [rdB l, rfB (.slice none 0 0), bxB 1 ([Iv 0]), rfB (slv 4 0 k k), rwB cFd (Zfa l k), bxB 1 ([Iv (Zdp l k)]), rfB (slv 0 (Zbh l k) (Zc7 l k) (Ze6 l c k)), bxB 2 (fdC (Zcr l k)), bxB 2 (fdC (Zcr l k)), rwB cFd [(Zcr l k)], hole]) rfl rfl rfl (by kernel_rfl) (by kernel_rfl) ?_
    have hl1 : ((Zfa l k) ++ [(Zcr l k)]).length = k + 1 := by have := (Zl5 l k); have := (rfl : _ = 1); first | (rw [List.length_append]; omega) | (simp; omega) | simp
    refine Zbz (p := slv 4 0 k k) (q := slv 9 0 1 1) (v := slv 4 0 (k + 1) (k + 1)) (b := 4) (blk := rwB cFd ((Zfa l k) ++ [(Zcr l k)])) (H' := [rdB l, rfB (.slice none 0 0), bxB 1 ([Iv 0]), rfB (dead), rwB cFd ((Zfa l k) ++ [(Zcr l k)]), bxB 1 ([Iv (Zdp l k)]), rfB (slv 0 (Zbh l k) (Zc7 l k) (Ze6 l c k)), bxB 2 (fdC (Zcr l k)), bxB 2 (fdC (Zcr l k)), rwB cFd [(Zcr l k)], hole]) rfl rfl rfl (.inl ⟨_, rfl⟩) rfl rfl (Zhh cFd (by_ := 24) (k := 1) (n' := k + 1) (ms := [(Zcr l k)]) (fun _ => rfl) rfl rfl (by kernel_rfl) rfl rfl (by have := (Zl5 l k); omega) (by omega) (by decide) (by omega)) rfl (by kernel_rfl) ?_
    refine Zr (p := pt 3 0) (v := slv 4 0 (k + 1) (k + 1)) (b := 3) (blk := rfB (slv 4 0 (k + 1) (k + 1))) (H' := [rdB l, rfB (.slice none 0 0), bxB 1 ([Iv 0]), rfB (slv 4 0 (k + 1) (k + 1)), rwB cFd ((Zfa l k) ++ [(Zcr l k)]), bxB 1 ([Iv (Zdp l k)]), rfB (slv 0 (Zbh l k) (Zc7 l k) (Ze6 l c k)), bxB 2 (fdC (Zcr l k)), bxB 2 (fdC (Zcr l k)), rwB cFd [(Zcr l k)], hole]) rfl rfl rfl (by kernel_rfl) (by kernel_rfl) ?_
    refine Za (Zau ?_)
    refine Zfk (by kernel_rfl) ?_
    refine Zj (b := 8) (o := 0) (n := 0) (o' := 0) rfl rfl rfl rfl rfl ?_
    refine Zo (p := pt 8 0) (v := Iv ((Zcr l k).tag)) rfl rfl rfl (by kernel_rfl) ?_
    refine Zr (p := pt 5 0) (v := Iv ((Zcr l k).tag)) (b := 5) (blk := bxB 1 ([Iv ((Zcr l k).tag)])) (H' := [rdB l, rfB (.slice none 0 0), bxB 1 ([Iv 0]), rfB (slv 4 0 (k + 1) (k + 1)), rwB cFd ((Zfa l k) ++ [(Zcr l k)]), bxB 1 ([Iv ((Zcr l k).tag)]), rfB (slv 0 (Zbh l k) (Zc7 l k) (Ze6 l c k)), bxB 2 (fdC (Zcr l k)), bxB 2 (fdC (Zcr l k)), rwB cFd [(Zcr l k)], hole]) rfl rfl rfl (by kernel_rfl) (by kernel_rfl) ?_
    refine Za (Z1 ?_)
    exact ⟨⟨⟨by omega, by omega⟩, _, Zaq (l := []) (n := 8) rfl trivial (by kernel_rfl) (by kernel_rfl)⟩⟩
    refine Zn (vx := Iv (Zey l k)) (vy := Iv 0) rfl rfl (.bool false) rfl rfl (Zb6 (by omega)) ?_
    refine Zd rfl rfl (.bool false) rfl (Zf rfl rfl (Zf rfl rfl (Zf rfl rfl (Zf rfl rfl (Zk rfl rfl (.bool false) rfl (Za (Zau (Zos rfl (Zrs (Zau (Zgi (Zgi ?_))))))))))))
    refine Zfk (by kernel_rfl) ?_
    refine Zd rfl rfl (Iv (Zey l k)) rfl ?_
    refine Zn (vx := Iv (Zey l k)) (vy := Iv 0) rfl rfl (.bool true) rfl rfl (Zeg (by omega)) ?_
    refine Za (Zau (Zn8 rfl (Zgi ?_)))
    refine Zfk (by kernel_rfl) ?_
    refine Zd rfl rfl (Iv (Zey l k)) rfl ?_
    refine Zr (p := pt 1 0) (v := .slice none 0 0) (b := 1) (blk := rfB (.slice none 0 0)) (H' := [rdB l, rfB (.slice none 0 0), bxB 1 ([Iv 0]), rfB (slv 4 0 k k), rwB cFd (Zfa l k), bxB 1 ([Iv (Zdp l k)]), rfB (slv 0 (Zbh l k) (Zc7 l k) (Ze6 l c k)), bxB 2 (fdC (Zcr l k)), bxB 2 (fdC (Zcr l k)), hole, hole]) rfl rfl rfl (by kernel_rfl) (by kernel_rfl) ?_
    refine Zr (p := pt 2 0) (v := Iv (Zey l k)) (b := 2) (blk := bxB 1 ([Iv (Zey l k)])) (H' := [rdB l, rfB (.slice none 0 0), bxB 1 ([Iv (Zey l k)]), rfB (slv 4 0 k k), rwB cFd (Zfa l k), bxB 1 ([Iv (Zdp l k)]), rfB (slv 0 (Zbh l k) (Zc7 l k) (Ze6 l c k)), bxB 2 (fdC (Zcr l k)), bxB 2 (fdC (Zcr l k)), hole, hole]) rfl rfl rfl (by kernel_rfl) (by kernel_rfl) ?_
    refine Za (Zau ?_)
    refine Zod (Zcq.nilCell (k := 1) (j := 0) (b := 9) true 2 rfl (by decide) rfl (by show 0 < 1; decide) rfl rfl) ?_
    refine Zrp (Zfm (Zbb ?_))
    refine ⟨?_⟩
    show ∃ v e, EndOK _ _ _ _ _ _ _ v e
    rw [show Zh l = ([], (Zey l k)) from (Zun hks hk).1 (by omega)]
    exact Za5 [0, 9] (v := .tuple #[slv 9 0 0 0, Iv (Zey l k)]) (by kernel_rfl) (by kernel_rfl) rfl rfl (by decide) (by simp [Zac, rdB, rwB, cFd]) ⟨⟨rfl, rfl, rfl, by first | omega | exact Nat.le_refl _ | exact Nat.zero_le _ | (dsimp only; omega), by first | omega | exact Nat.le_refl _ | exact Nat.zero_le _ | (dsimp only; omega)⟩, rfl, trivial⟩
  intro hall
  show CW none _ _ _ _ _ _ _
  refine Zgi ?_
  refine Zfk (by kernel_rfl) ?_
  refine Zo (p := pt 3 0) (v := slv 4 0 (Zdm l) (Zdm l)) rfl rfl rfl rfl ?_
  refine Zr (p := pt 1 0) (v := slv 4 0 (Zdm l) (Zdm l)) (b := 1) (blk := rfB (slv 4 0 (Zdm l) (Zdm l))) (H' := [rdB l, rfB (slv 4 0 (Zdm l) (Zdm l)), bxB 1 ([Iv 0]), rfB (slv 4 0 (Zdm l) (Zdm l)), rwB cFd (Zfa l (Zdm l)), bxB 1 ([Iv (Zdp l (Zdm l))]), rfB (slv 0 (Zbh l (Zdm l)) (Zc7 l (Zdm l)) (Ze6 l c (Zdm l)))]) rfl rfl rfl (by kernel_rfl) (by kernel_rfl) ?_
  refine Zr (p := pt 2 0) (v := Iv 0) (b := 2) (blk := bxB 1 ([Iv 0])) (H' := [rdB l, rfB (slv 4 0 (Zdm l) (Zdm l)), bxB 1 ([Iv 0]), rfB (slv 4 0 (Zdm l) (Zdm l)), rwB cFd (Zfa l (Zdm l)), bxB 1 ([Iv (Zdp l (Zdm l))]), rfB (slv 0 (Zbh l (Zdm l)) (Zc7 l (Zdm l)) (Ze6 l c (Zdm l)))]) rfl rfl rfl (by kernel_rfl) (by kernel_rfl) ?_
  refine Za (Zau (Zrp (Zfm (Zu ?_))))
  rw [show Zh l = (Zfa l (Zdm l), 0) from Zzu hall]
  rw [show (Zfa l (Zdm l), (0 : Int)).1.length = Zdm l from Zl5 _ _]
  exact Za5 [0, 4] (v := .tuple #[slv 4 0 (Zdm l) (Zdm l), Iv 0]) rfl (by kernel_rfl) rfl rfl (by decide) (by simp [Zac, rdB, rwB, cFd]) ⟨⟨rfl, rfl, rfl, by first | omega | exact Nat.le_refl _ | exact Nat.zero_le _ | (dsimp only; omega), by first | omega | exact Nat.le_refl _ | exact Nat.zero_le _ | (dsimp only; omega)⟩, rfl, trivial⟩
end Go.Flat
