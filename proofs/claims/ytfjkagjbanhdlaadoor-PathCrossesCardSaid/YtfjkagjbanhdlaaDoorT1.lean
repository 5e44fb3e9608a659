/- Walks. -/
import Derived.Test.YtfjkagjbanhdlaaDoorFlatG
import Derived.ScopeJumps
import Derived.Lib.SliceRun
import Derived.Test.YtfjkagjbanhdlaaDoorK1
import Derived.Test.YtfjkagjbanhdlaaDoorH10
set_option linter.unusedVariables false
set_option linter.unusedSimpArgs false
set_option maxRecDepth 20000
section
/- Structs that hold slices: their values, boxes, arguments. -/
namespace Go.Flat
abbrev mxV (l : List Value) : Value := .agg l.toArray
def mxB (n : Nat) (l : List Value) : Blk := { cells := l, sz := n, wr := true, fix := true, mv := false, pur := false }
theorem Zar {e : Emb} : ∀ {a a' b b' : List Value}, Zns e a a' → Zns e b b' → Zns e (a ++ b) (a' ++ b')
 | [], [], _, _, _, h => h
 | _ :: _, _ :: _, _, _, h1, h => ⟨h1.1, Zar h1.2 h⟩
 | [], _ :: _, _, _, h1, _ => h1.elim
 | _ :: _, [], _, _, h1, _ => h1.elim
theorem Zyl {e : Emb} {v : Value} (h : Zbk v = true) : Zv1 e v v := by
  cases v
  case slice a n c => rcases a with _ | ⟨b, o, q⟩
                      · exact ⟨rfl, rfl⟩
                      · cases h
  case pointer a => rcases a with _ | ⟨b, o, q⟩
                    · exact ⟨rfl, rfl⟩
                    · cases h
  all_goals first | exact ⟨rfl, rfl⟩ | (cases h)
theorem Za9 {e : Emb} : ∀ {a : List Value}, a.all Zbk = true → Zns e a a
 | [], _ => trivial
 | x :: l, h => by
  rw [List.all_cons, Bool.and_eq_true] at h
  exact ⟨Zyl h.1, Za9 h.2⟩
theorem Zf8 {e : Emb} {a b : List Value} (hp : Zbi (mxV a) = false) (h : Zns e a b) : Zj4 e (mxV a) (mxV b) := by
 unfold Zj4
 rw [if_neg (by rw [hp]; decide)]
 exact h
open Go.ChangeShapes Go.WideShapes Go.RowKit
section
variable {H : Type} {enc : TypeId × Value → H} {P : Program} {W : World} {α : Type} {c : Cod α} {ok : α → Prop}
end
theorem L2.pure {m : MapM} {a : List Value} (h : a.all Zbk = true) : L2 (CR m) a a :=
 ⟨rfl, fun i x y hx hy => by
  rw [hx] at hy; injection hy with hy; subst hy
  exact CR.of_pure (List.all_eq_true.1 h x (List.mem_of_getElem? hx))⟩
theorem L2.cell {m : MapM} {b o n k : Nat} {v : Value} (h : VR m (slv b o n k) v) : L2 (CR m) [slv b o n k] [v] := L2.cons h L2.nil
theorem VR.mx {m : MapM} {l cs : List Value} (h : L2 (CR m) l cs) : VR m (mxV l) (.agg cs.toArray) := ⟨cs.toArray, rfl, h⟩
end Go.Flat
end
section
/- A scope in which the run jumps ahead to one label. -/
namespace Go.Flat
variable {P : Program} {G : Glob} {nt n0 : Nat} {Q : Exit → St → Prop} {s : St} {x : Code}
def Zx1 (Q : Exit → St → Prop) : Exit → St → Prop
  | .goto _, _ => False
  | e, s => Q e s
def Zzq (P : Program) (G : Glob) (nt n0 l : Nat) (rest : Code) (Q : Exit → St → Prop) : Exit → St → Prop
  | .goto l', s => l' = l ∧ C P G nt n0 rest (Zx1 Q) s
  | e, s => Q e s
theorem Zoc {l : Nat} {rest : Code} (hf : findLabel x l = some rest) (h : C P G nt n0 x (Zzq P G nt n0 l rest Q) s) : C P G nt n0 (.scope x) Q s := by
 refine ⟨fun E m a w h0 hr => ?_⟩
 refine wp_scope_jumps l (fun a w => ∃ s m, C P G nt n0 rest (Zx1 Q) s ∧ SRel G nt E m s a w) (fun _ _ => 0) hf (wp_mono (h.h E m a w h0 hr) ?_) ?_
 ·rintro e a' w' ⟨s', m', h1, h2⟩
  cases e with
  | goto l' => exact ⟨h1.1, s', m', h1.2, h2⟩
  | _ => exact ⟨s', m', h1, h2⟩
 ·rintro a w ⟨s', m', h1, h2⟩
  refine wp_mono (h1.h E m' a w h0 h2) ?_
  rintro e a' w' ⟨s2, m2, h3, h4⟩
  cases e with
  | goto l' => exact h3.elim
  | _ => exact ⟨s2, m2, h3, h4⟩
theorem Zei {l : Nat} {rest : Code} (h : X Q .ret s) : X (Zzq P G nt n0 l rest Q) .ret s := ⟨h.h⟩
end Go.Flat
end
section
/- Is a slice nil? A split that the code itself makes; parts of own rows that are appended to. -/
namespace Go.Flat
variable {P : Program} {G : Glob} {nt n0 : Nat} {Q : Exit → St → Prop}
def Z6w (P : Program) (σ : List Blk) (t : TypeId) (nid : Nat) : Option (Value × Blk) :=
  match Zde P t with
  | some (sz, _, _) => if 0 < sz ∧ Zd3 σ nid = true then some (.slice (some ⟨nid, 0, none⟩) 0 0, Zex true false sz []) else none
  | none => none
section
variable {ops l : List Oper} {K : Trace → St → Prop} {tr : Trace} {T : Nat → Value} {H H' : List Blk} {d : Tmp} {ty : TypeId} {ps : String} {af : Array Edge} {g : Option (Nat × Bool)}
end
end Go.Flat
end
section
/- Loops of few rounds, round by round; rows of structs that hold slices. -/
namespace Go.Flat
variable {P : Program} {G : Glob} {nt n0 : Nat} {Q : Exit → St → Prop}
def UL (P : Program) (G : Glob) (nt n0 : Nat) (y : Code) (Q : Exit → St → Prop) : Nat → St → Prop
  | 0, _ => False
  | k + 1, s => C P G nt n0 y (Zd7 (UL P G nt n0 y Q k) Q) s
theorem Zd0 {y : Code} {k : Nat} {s : St} (h : C P G nt n0 y (Zd7 (UL P G nt n0 y Q k) Q) s) : UL P G nt n0 y Q (k + 1) s := h
theorem Zfg {next : St → Prop} {s : St} (h : next s) : X (Zd7 next Q) .normal s := Zaw h
theorem Zxs {p : Nat → Prop} (h : ∃ n, p n) : ∃ n, p n ∧ ∀ m, p m → n ≤ m := by
  obtain ⟨n, hn⟩ := h
  induction n using Nat.strongRecOn with
  | _ n ih =>
    by_cases hx : ∃ m, m < n ∧ p m
    · obtain ⟨m, h1, h2⟩ := hx; exact ih m h1 h2
    · exact ⟨n, hn, fun m hm => by rcases Nat.lt_or_ge m n with h | h; exact absurd ⟨m, h, hm⟩ hx; exact h⟩
theorem Zl7 {y : Code} {s : St} (k : Nat) (h : UL P G nt n0 y Q k s) : C P G nt n0 (.loop y) Q s := by
 classical
 refine ⟨fun E m a w h0 hr => ?_⟩
 let ok : Act → World → Nat → Prop := fun a w j => ∃ s m, UL P G nt n0 y Q j s ∧ SRel G nt E m s a w
 refine wp_loop (fun a w => ∃ j, ok a w j) (fun a w => if hx : ∃ j, ok a w j then Classical.choose (Zxs hx) else 0) ⟨k, s, m, h, hr⟩ ?_
 intro a w hI
 have hsp := Classical.choose_spec (Zxs hI)
 generalize hk : Classical.choose (Zxs hI) = j at hsp
 obtain ⟨⟨s1, m1, h1, hr1⟩, hmin⟩ := hsp
 cases j with
 | zero => exact h1.elim
 | succ j =>
  refine wp_mono (C.h (show C P G nt n0 y (Zd7 (UL P G nt n0 y Q j) Q) s1 from h1) E m1 a w h0 hr1) ?_
  rintro e a' w' ⟨s2, m2, h2, hr2⟩
  cases e with
  | normal =>
   have hI' : ∃ j, ok a' w' j := ⟨j, s2, m2, h2, hr2⟩
   refine ⟨hI', ?_⟩
   simp only [dif_pos hI, dif_pos hI', hk]
   exact Nat.lt_succ_of_le ((Classical.choose_spec (Zxs hI')).2 j ⟨s2, m2, h2, hr2⟩)
  | _ => exact ⟨s2, m2, h2, hr2⟩
def mxW (n : Nat) (l : List Value) : Blk := { cells := l, sz := n, wr := true, fix := false, mv := true, pur := false }
def mxR (n : Nat) (l : List Value) : Blk := { cells := l, sz := n, wr := false, fix := false, mv := true, pur := false }
end Go.Flat
end
namespace Go.Flat
open Go.Proofs
variable {G : Glob}
theorem Zhu (kk : Nat → BitVec 32) (l : List Item) (k i : Int) : (Zl kk l k i).1.length ≤ 1000 := by
 unfold Zl
 split
 ·split
  ·have := Zj9 kk 11 (Zah kk l k).1 i.toNat (Nat.le_trans (Zpq kk l k) (by decide))
   show (Zc8 kk (Zah kk l k).1 i.toNat).length ≤ 1000
   omega
  ·exact Nat.zero_le _
 ·exact Nat.zero_le _
structure PStep where
  index : Int
  item : Item
  proof : List D
  head : Signed
def Zen (kk : Nat → BitVec 32) (l : List Item) (i : Int) (s : Signed) : PStep × Int :=
  if (Zae kk l s.head.size).2 = 0 ∧ Zi8 s ∧ Zcc 32 (Zae kk l s.head.size).1 s.head.root = true then
    (if (Zl kk l s.head.size i).2 = 0 then (⟨i, l.getD i.toNat default, (Zl kk l s.head.size i).1, s⟩, 0) else ((⟨0, (⟨0, (⟨0, 0, 0, ⟨#[]⟩, (⟨(⟨0, 0, 0, dz, 0⟩ : Head), 0, dz⟩ : Signed), (⟨0, 0, 0, 0, dz⟩ : Claim)⟩ : Entry)⟩ : Item), [], (⟨(⟨0, 0, 0, dz, 0⟩ : Head), 0, dz⟩ : Signed)⟩ : PStep), 131)) else ((⟨0, (⟨0, (⟨0, 0, 0, ⟨#[]⟩, (⟨(⟨0, 0, 0, dz, 0⟩ : Head), 0, dz⟩ : Signed), (⟨0, 0, 0, 0, dz⟩ : Claim)⟩ : Entry)⟩ : Item), [], (⟨(⟨0, 0, 0, dz, 0⟩ : Head), 0, dz⟩ : Signed)⟩ : PStep), 130)
theorem Ziz {s : Signed} (h : (Zaj s).2 = 0) : Zi8 s := by
 by_cases q : Zi8 s
 ·exact q
 ·rw [Zqw q] at h; exact absurd h (by decide)
theorem Zk1 {s : Signed} (h : ¬ (Zaj s).2 = 0) : ¬ Zi8 s := fun q => h (by rw [Zqt q])
section
variable {kk : Nat → BitVec 32} {l : List Item} {i : Int} {s : Signed}
theorem Z1n (h1 : (Zae kk l s.head.size).2 = 0) (h2 : Zi8 s) (h3 : Zcc 32 (Zae kk l s.head.size).1 s.head.root = true) (h4 : (Zl kk l s.head.size i).2 = 0) : Zen kk l i s = (⟨i, l.getD i.toNat default, (Zl kk l s.head.size i).1, s⟩, 0) := by
 unfold Zen; rw [if_pos ⟨h1, h2, h3⟩, if_pos h4]
theorem Zp7 (h1 : (Zae kk l s.head.size).2 = 0) (h2 : Zi8 s) (h3 : Zcc 32 (Zae kk l s.head.size).1 s.head.root = true) (h4 : ¬ (Zl kk l s.head.size i).2 = 0) : Zen kk l i s = ((⟨0, (⟨0, (⟨0, 0, 0, ⟨#[]⟩, (⟨(⟨0, 0, 0, dz, 0⟩ : Head), 0, dz⟩ : Signed), (⟨0, 0, 0, 0, dz⟩ : Claim)⟩ : Entry)⟩ : Item), [], (⟨(⟨0, 0, 0, dz, 0⟩ : Head), 0, dz⟩ : Signed)⟩ : PStep), 131) := by
 unfold Zen; rw [if_pos ⟨h1, h2, h3⟩, if_neg h4]
theorem Zoy (h : ¬ (Zae kk l s.head.size).2 = 0 ∨ ¬ Zi8 s ∨ Zcc 32 (Zae kk l s.head.size).1 s.head.root = false) : Zen kk l i s = ((⟨0, (⟨0, (⟨0, 0, 0, ⟨#[]⟩, (⟨(⟨0, 0, 0, dz, 0⟩ : Head), 0, dz⟩ : Signed), (⟨0, 0, 0, 0, dz⟩ : Claim)⟩ : Entry)⟩ : Item), [], (⟨(⟨0, 0, 0, dz, 0⟩ : Head), 0, dz⟩ : Signed)⟩ : PStep), 130) := by
  unfold Zen; rw [if_neg (fun q => by rcases h with h | h | h; exact h q.1; exact h q.2.1; rw [q.2.2] at h; cases h)]
theorem Z2f {k i : Int} (h : (Zl kk l k i).2 = 0) : 0 ≤ i ∧ i < l.length := by
 by_cases h0 : (Zah kk l k).2 = 0
 ·have hlen : (Zah kk l k).1.length ≤ l.length := by
   unfold Zah at h0 ⊢
   split at h0
   ·rename_i g
    split at h0
    ·rename_i g2
     rw [if_pos g, if_pos g2]; show (acL kk l k.toNat).length ≤ _; rw [Zfh]; omega
    ·exact absurd h0 (by decide)
   ·exact absurd h0 (by decide)
  by_cases h1 : 0 ≤ i ∧ i < (Zah kk l k).1.length
  ·omega
  ·rw [show Zl kk l k i = ([], 20) from by unfold Zl; rw [if_pos h0, if_neg h1]] at h
   exact absurd h (by decide)
 ·rw [show Zl kk l k i = ([], (Zah kk l k).2) from by unfold Zl; rw [if_neg h0]] at h
  exact absurd h h0
end
def Z1 (kk : Nat → BitVec 32) (master : D) (x : PStep) : Int :=
  if Zca kk master x.head = 0 then (if (Zao kk x.item).2 = 0 then Zhs kk x.head.head.root (Zao kk x.item).1 x.head.head.size x.index x.proof else 130) else Zca kk master x.head
section
variable {kk : Nat → BitVec 32} {master : D} {x : PStep}
theorem Z2j (h : ¬ Zca kk master x.head = 0) : Z1 kk master x = Zca kk master x.head := if_neg h
theorem Z2a (h : Zca kk master x.head = 0) (h1 : ¬ (Zao kk x.item).2 = 0) : Z1 kk master x = 130 := by unfold Z1; rw [if_pos h, if_neg h1]
theorem Zxk (h : Zca kk master x.head = 0) (h1 : (Zao kk x.item).2 = 0) : Z1 kk master x = Zhs kk x.head.head.root (Zao kk x.item).1 x.head.head.size x.index x.proof := by unfold Z1; rw [if_pos h, if_pos h1]
end
theorem Z16 (kk : Nat → BitVec 32) (hG : G 0 = some (Zad w32 64 kk)) (hG1 : G 2 = some (Zad u8N 64 dbF)) (l : List Item) (n c : Nat) (hn : l.length = n) (hc : n ≤ c) (hb : n ≤ 1048576) (i : Int) (s : Signed) : Zaf Tryd.prog G 11 [slv 0 0 n c, Iv i, Zs s] [rwR Zk l] (.tuple #[mxV ([Iv ((Zen kk l i s).1.index)] ++ (Zh ((Zen kk l i s).1.item) ++ ([slv 1 0 ((Zen kk l i s).1.proof.length) ((Zen kk l i s).1.proof.length)] ++ (Za ((Zen kk l i s).1.head))))), Iv (Zen kk l i s).2]) [rwR Zk l, dsB (Zen kk l i s).1.proof] := by
  refine Zbj (fn := Tryd.f11) (nt := 60) rfl rfl rfl rfl ?_
  refine Zai 6 (H' := [rwR Zk l, hole, hole, hole, hole, hole, hole]) rfl ?_
  refine Zg (Zj ?_)
  refine Zcj (v := Zs s) (b := bxB 69 (Za s)) (nid := 1) (H' := [rwR Zk l, bxB 69 (Za s), hole, hole, hole, hole, hole]) rfl rfl rfl (by kernel_rfl) (by kernel_rfl) ?_
  refine Z2 (b := mxB 181 ([Iv 0] ++ (Zh (⟨0, (⟨0, 0, 0, ⟨#[]⟩, (⟨(⟨0, 0, 0, dz, 0⟩ : Head), 0, dz⟩ : Signed), (⟨0, 0, 0, 0, dz⟩ : Claim)⟩ : Entry)⟩ : Item) ++ ([.slice none 0 0] ++ (Za (⟨(⟨0, 0, 0, dz, 0⟩ : Head), 0, dz⟩ : Signed)))))) (nid := 2) (H' := [rwR Zk l, bxB 69 (Za s), mxB 181 ([Iv 0] ++ (Zh (⟨0, (⟨0, 0, 0, ⟨#[]⟩, (⟨(⟨0, 0, 0, dz, 0⟩ : Head), 0, dz⟩ : Signed), (⟨0, 0, 0, 0, dz⟩ : Claim)⟩ : Entry)⟩ : Item) ++ ([.slice none 0 0] ++ (Za (⟨(⟨0, 0, 0, dz, 0⟩ : Head), 0, dz⟩ : Signed))))), hole, hole, hole, hole]) rfl rfl (by kernel_rfl) (by kernel_rfl) ?_
  refine Zd rfl rfl (Iv 0) rfl (Zb (Zc (Zg (Zj (Zf rfl rfl (slv 0 0 n c) rfl ?_)))))
  refine Zn (b := 1) (o := 0) (n := 0) (o' := 0) rfl rfl rfl rfl rfl ?_
  refine Zn (b := 1) (o := 0) (n := 2) (o' := 2) rfl rfl rfl rfl rfl ?_
  refine Zp (p := pt 1 2) (v := Iv s.head.size) rfl rfl rfl (by kernel_rfl) ?_
  refine Z4 (e := [some (0, 0)]) (nid := 0) (Ztj (G := G) kk hG hG1 l n c hn (by omega) (by omega) s.head.size) (vals := [slv 0 0 n c, Iv s.head.size]) (v := .tuple #[dgV ((Zae kk l s.head.size).1), Iv ((Zae kk l s.head.size).2)]) (H' := [rwR Zk l, bxB 69 (Za s), mxB 181 ([Iv 0] ++ (Zh (⟨0, (⟨0, 0, 0, ⟨#[]⟩, (⟨(⟨0, 0, 0, dz, 0⟩ : Head), 0, dz⟩ : Signed), (⟨0, 0, 0, 0, dz⟩ : Claim)⟩ : Entry)⟩ : Item) ++ ([.slice none 0 0] ++ (Za (⟨(⟨0, 0, 0, dz, 0⟩ : Head), 0, dz⟩ : Signed))))), hole, hole, hole, hole]) rfl rfl rfl rfl rfl rfl rfl ⟨⟨⟨rfl, rfl, rfl, by first | omega | exact Nat.le_refl _, by first | omega | exact Nat.le_refl _⟩, rfl, trivial⟩, ⟨(Zc0 rfl), trivial⟩, rfl, rfl, rfl⟩ (by kernel_rfl) (by kernel_rfl) ?_
  refine Zf rfl rfl (.tuple #[dgV ((Zae kk l s.head.size).1), Iv ((Zae kk l s.head.size).2)]) rfl (Zu (vs := #[dgV ((Zae kk l s.head.size).1), Iv ((Zae kk l s.head.size).2)]) (v := dgV ((Zae kk l s.head.size).1)) rfl rfl rfl rfl (Zu (vs := #[dgV ((Zae kk l s.head.size).1), Iv ((Zae kk l s.head.size).2)]) (v := Iv ((Zae kk l s.head.size).2)) rfl rfl rfl rfl ?_))
  refine Z2 (b := dgB dz) (nid := 3) (H' := [rwR Zk l, bxB 69 (Za s), mxB 181 ([Iv 0] ++ (Zh (⟨0, (⟨0, 0, 0, ⟨#[]⟩, (⟨(⟨0, 0, 0, dz, 0⟩ : Head), 0, dz⟩ : Signed), (⟨0, 0, 0, 0, dz⟩ : Claim)⟩ : Entry)⟩ : Item) ++ ([.slice none 0 0] ++ (Za (⟨(⟨0, 0, 0, dz, 0⟩ : Head), 0, dz⟩ : Signed))))), dgB dz, hole, hole, hole]) rfl rfl (by kernel_rfl) (by kernel_rfl) ?_
  refine Zw (p := pt 3 0) (v := dgV ((Zae kk l s.head.size).1)) (b := 3) (blk := dgB ((Zae kk l s.head.size).1)) (H' := [rwR Zk l, bxB 69 (Za s), mxB 181 ([Iv 0] ++ (Zh (⟨0, (⟨0, 0, 0, ⟨#[]⟩, (⟨(⟨0, 0, 0, dz, 0⟩ : Head), 0, dz⟩ : Signed), (⟨0, 0, 0, 0, dz⟩ : Claim)⟩ : Entry)⟩ : Item) ++ ([.slice none 0 0] ++ (Za (⟨(⟨0, 0, 0, dz, 0⟩ : Head), 0, dz⟩ : Signed))))), dgB ((Zae kk l s.head.size).1), hole, hole, hole]) rfl rfl rfl (by kernel_rfl) (by kernel_rfl) ?_
  refine Zd rfl rfl (Iv ((Zae kk l s.head.size).2)) rfl (Zb (Zc (Zg (Zj ?_))))
  refine Zp (p := pt 1 0) (v := Zs s) rfl rfl rfl (by kernel_rfl) ?_
  refine Z4 (e := []) (nid := 4) (Zmb (G := G) s) (vals := [Zs s]) (v := .tuple #[slv 4 0 ((Zaj s).1.length) ((Zaj s).1.length), Iv ((Zaj s).2)]) (H' := [rwR Zk l, bxB 69 (Za s), mxB 181 ([Iv 0] ++ (Zh (⟨0, (⟨0, 0, 0, ⟨#[]⟩, (⟨(⟨0, 0, 0, dz, 0⟩ : Head), 0, dz⟩ : Signed), (⟨0, 0, 0, 0, dz⟩ : Claim)⟩ : Entry)⟩ : Item) ++ ([.slice none 0 0] ++ (Za (⟨(⟨0, 0, 0, dz, 0⟩ : Head), 0, dz⟩ : Signed))))), dgB ((Zae kk l s.head.size).1), Zaq ((Zaj s).1), hole, hole]) rfl rfl rfl rfl rfl rfl rfl ⟨⟨rfl, trivial⟩, trivial, rfl, rfl, rfl⟩ (by kernel_rfl) (by kernel_rfl) ?_
  refine Zf rfl rfl (.tuple #[slv 4 0 ((Zaj s).1.length) ((Zaj s).1.length), Iv ((Zaj s).2)]) rfl (Zu (vs := #[slv 4 0 ((Zaj s).1.length) ((Zaj s).1.length), Iv ((Zaj s).2)]) (v := slv 4 0 ((Zaj s).1.length) ((Zaj s).1.length)) rfl rfl rfl rfl (Zu (vs := #[slv 4 0 ((Zaj s).1.length) ((Zaj s).1.length), Iv ((Zaj s).2)]) (v := Iv ((Zaj s).2)) rfl rfl rfl rfl (Zd rfl rfl (slv 4 0 ((Zaj s).1.length) ((Zaj s).1.length)) rfl (Zd rfl rfl (Iv ((Zaj s).2)) rfl (Zb (Zc (Zg (Zg (Zj (Zf rfl rfl (Iv ((Zae kk l s.head.size).2)) rfl ?_))))))))))
  by_cases h1 : ((Zae kk l s.head.size).2) ≠ 0
  refine Zo (vx := Iv ((Zae kk l s.head.size).2)) (vy := Iv 0) rfl rfl (.bool true) rfl rfl (Zdr (by omega)) ?_
  refine Zf rfl rfl (.bool true) rfl (Zi rfl rfl (Zi rfl rfl (Zm rfl rfl (.bool true) rfl (Zf rfl rfl (.bool true) rfl (Zi rfl rfl (Zi rfl rfl (Zi rfl rfl (Zi rfl rfl (Zi rfl rfl (Zm rfl rfl (.bool true) rfl (Zb (Zc (Z0 rfl (Zg (Zj ?_)))))))))))))))
  refine Za1 (vs := []) (v := mxV ([Iv 0] ++ (Zh (⟨0, (⟨0, 0, 0, ⟨#[]⟩, (⟨(⟨0, 0, 0, dz, 0⟩ : Head), 0, dz⟩ : Signed), (⟨0, 0, 0, 0, dz⟩ : Claim)⟩ : Entry)⟩ : Item) ++ ([.slice none 0 0] ++ (Za (⟨(⟨0, 0, 0, dz, 0⟩ : Head), 0, dz⟩ : Signed)))))) rfl rfl rfl (by kernel_rfl) ?_
  refine Zw (p := pt 2 0) (v := mxV ([Iv 0] ++ (Zh (⟨0, (⟨0, 0, 0, ⟨#[]⟩, (⟨(⟨0, 0, 0, dz, 0⟩ : Head), 0, dz⟩ : Signed), (⟨0, 0, 0, 0, dz⟩ : Claim)⟩ : Entry)⟩ : Item) ++ ([.slice none 0 0] ++ (Za (⟨(⟨0, 0, 0, dz, 0⟩ : Head), 0, dz⟩ : Signed)))))) (b := 2) (blk := mxB 181 ([Iv 0] ++ (Zh (⟨0, (⟨0, 0, 0, ⟨#[]⟩, (⟨(⟨0, 0, 0, dz, 0⟩ : Head), 0, dz⟩ : Signed), (⟨0, 0, 0, 0, dz⟩ : Claim)⟩ : Entry)⟩ : Item) ++ ([.slice none 0 0] ++ (Za (⟨(⟨0, 0, 0, dz, 0⟩ : Head), 0, dz⟩ : Signed)))))) (H' := [rwR Zk l, bxB 69 (Za s), mxB 181 ([Iv 0] ++ (Zh (⟨0, (⟨0, 0, 0, ⟨#[]⟩, (⟨(⟨0, 0, 0, dz, 0⟩ : Head), 0, dz⟩ : Signed), (⟨0, 0, 0, 0, dz⟩ : Claim)⟩ : Entry)⟩ : Item) ++ ([.slice none 0 0] ++ (Za (⟨(⟨0, 0, 0, dz, 0⟩ : Head), 0, dz⟩ : Signed))))), dgB ((Zae kk l s.head.size).1), Zaq ((Zaj s).1), hole, hole]) rfl rfl rfl (by kernel_rfl) (by kernel_rfl) ?_
  refine Zd rfl rfl (Iv 130) rfl (Zb (Zc ?_))
  refine Zby (Zbt.nilCell (k := 2) (j := 111) (b := 5) true 32 rfl (by decide) rfl (by show 0 < 181; decide) rfl rfl) ?_
  refine Zx (Zaa (Zy ?_))
  rw [show Zen kk l i s = ((⟨0, (⟨0, (⟨0, 0, 0, ⟨#[]⟩, (⟨(⟨0, 0, 0, dz, 0⟩ : Head), 0, dz⟩ : Signed), (⟨0, 0, 0, 0, dz⟩ : Claim)⟩ : Entry)⟩ : Item), [], (⟨(⟨0, 0, 0, dz, 0⟩ : Head), 0, dz⟩ : Signed)⟩ : PStep), 130) from by first | exact Zoy (by first | exact .inl (by omega) | exact .inr (.inl (Zk1 (by omega))) | exact .inr (.inr (by assumption))) | exact Zp7 (by omega) (Ziz (by omega)) (by assumption) (by omega)]
  exact Za2 [0, 5] (v := .tuple #[mxV ([Iv 0] ++ (Zh (⟨0, (⟨0, 0, 0, ⟨#[]⟩, (⟨(⟨0, 0, 0, dz, 0⟩ : Head), 0, dz⟩ : Signed), (⟨0, 0, 0, 0, dz⟩ : Claim)⟩ : Entry)⟩ : Item) ++ ([slv 5 0 0 0] ++ (Za (⟨(⟨0, 0, 0, dz, 0⟩ : Head), 0, dz⟩ : Signed))))), Iv 130]) rfl (by kernel_rfl) rfl rfl (by decide) (by simp [Za8, rwR, dsB, Zk]) ⟨(Zf8 (by kernel_rfl) (Zar ⟨⟨rfl, rfl⟩, trivial⟩ (Zar (Za9 (by kernel_rfl)) (Zar ⟨⟨rfl, rfl, rfl, by first | omega | exact Nat.le_refl _ | exact Nat.zero_le _ | (dsimp only; omega), by first | omega | exact Nat.le_refl _ | exact Nat.zero_le _ | (dsimp only; omega)⟩, trivial⟩ (Za9 (by kernel_rfl)))))), rfl, trivial⟩
  refine Zo (vx := Iv ((Zae kk l s.head.size).2)) (vy := Iv 0) rfl rfl (.bool false) rfl rfl (Zdb (by omega)) ?_
  refine Zf rfl rfl (.bool false) rfl (Zf rfl rfl (Iv ((Zaj s).2)) rfl ?_)
  by_cases h2 : ((Zaj s).2) ≠ 0
  refine Zo (vx := Iv ((Zaj s).2)) (vy := Iv 0) rfl rfl (.bool true) rfl rfl (Zdr (by omega)) ?_
  refine Zm rfl rfl (.bool true) rfl (Zf rfl rfl (.bool true) rfl (Zi rfl rfl (Zi rfl rfl (Zi rfl rfl (Zi rfl rfl (Zi rfl rfl (Zm rfl rfl (.bool true) rfl (Zb (Zc (Z0 rfl (Zg (Zj ?_))))))))))))
  refine Za1 (vs := []) (v := mxV ([Iv 0] ++ (Zh (⟨0, (⟨0, 0, 0, ⟨#[]⟩, (⟨(⟨0, 0, 0, dz, 0⟩ : Head), 0, dz⟩ : Signed), (⟨0, 0, 0, 0, dz⟩ : Claim)⟩ : Entry)⟩ : Item) ++ ([.slice none 0 0] ++ (Za (⟨(⟨0, 0, 0, dz, 0⟩ : Head), 0, dz⟩ : Signed)))))) rfl rfl rfl (by kernel_rfl) ?_
  refine Zw (p := pt 2 0) (v := mxV ([Iv 0] ++ (Zh (⟨0, (⟨0, 0, 0, ⟨#[]⟩, (⟨(⟨0, 0, 0, dz, 0⟩ : Head), 0, dz⟩ : Signed), (⟨0, 0, 0, 0, dz⟩ : Claim)⟩ : Entry)⟩ : Item) ++ ([.slice none 0 0] ++ (Za (⟨(⟨0, 0, 0, dz, 0⟩ : Head), 0, dz⟩ : Signed)))))) (b := 2) (blk := mxB 181 ([Iv 0] ++ (Zh (⟨0, (⟨0, 0, 0, ⟨#[]⟩, (⟨(⟨0, 0, 0, dz, 0⟩ : Head), 0, dz⟩ : Signed), (⟨0, 0, 0, 0, dz⟩ : Claim)⟩ : Entry)⟩ : Item) ++ ([.slice none 0 0] ++ (Za (⟨(⟨0, 0, 0, dz, 0⟩ : Head), 0, dz⟩ : Signed)))))) (H' := [rwR Zk l, bxB 69 (Za s), mxB 181 ([Iv 0] ++ (Zh (⟨0, (⟨0, 0, 0, ⟨#[]⟩, (⟨(⟨0, 0, 0, dz, 0⟩ : Head), 0, dz⟩ : Signed), (⟨0, 0, 0, 0, dz⟩ : Claim)⟩ : Entry)⟩ : Item) ++ ([.slice none 0 0] ++ (Za (⟨(⟨0, 0, 0, dz, 0⟩ : Head), 0, dz⟩ : Signed))))), dgB ((Zae kk l s.head.size).1), Zaq ((Zaj s).1), hole, hole]) rfl rfl rfl (by kernel_rfl) (by kernel_rfl) ?_
  refine Zd rfl rfl (Iv 130) rfl (Zb (Zc ?_))
  refine Zby (Zbt.nilCell (k := 2) (j := 111) (b := 5) true 32 rfl (by decide) rfl (by show 0 < 181; decide) rfl rfl) ?_
  refine Zx (Zaa (Zy ?_))
  rw [show Zen kk l i s = ((⟨0, (⟨0, (⟨0, 0, 0, ⟨#[]⟩, (⟨(⟨0, 0, 0, dz, 0⟩ : Head), 0, dz⟩ : Signed), (⟨0, 0, 0, 0, dz⟩ : Claim)⟩ : Entry)⟩ : Item), [], (⟨(⟨0, 0, 0, dz, 0⟩ : Head), 0, dz⟩ : Signed)⟩ : PStep), 130) from by first | exact Zoy (by first | exact .inl (by omega) | exact .inr (.inl (Zk1 (by omega))) | exact .inr (.inr (by assumption))) | exact Zp7 (by omega) (Ziz (by omega)) (by assumption) (by omega)]
  exact Za2 [0, 5] (v := .tuple #[mxV ([Iv 0] ++ (Zh (⟨0, (⟨0, 0, 0, ⟨#[]⟩, (⟨(⟨0, 0, 0, dz, 0⟩ : Head), 0, dz⟩ : Signed), (⟨0, 0, 0, 0, dz⟩ : Claim)⟩ : Entry)⟩ : Item) ++ ([slv 5 0 0 0] ++ (Za (⟨(⟨0, 0, 0, dz, 0⟩ : Head), 0, dz⟩ : Signed))))), Iv 130]) rfl (by kernel_rfl) rfl rfl (by decide) (by simp [Za8, rwR, dsB, Zk]) ⟨(Zf8 (by kernel_rfl) (Zar ⟨⟨rfl, rfl⟩, trivial⟩ (Zar (Za9 (by kernel_rfl)) (Zar ⟨⟨rfl, rfl, rfl, by first | omega | exact Nat.le_refl _ | exact Nat.zero_le _ | (dsimp only; omega), by first | omega | exact Nat.le_refl _ | exact Nat.zero_le _ | (dsimp only; omega)⟩, trivial⟩ (Za9 (by kernel_rfl)))))), rfl, trivial⟩
  refine Zo (vx := Iv ((Zaj s).2)) (vy := Iv 0) rfl rfl (.bool false) rfl rfl (Zdb (by omega)) ?_
  refine Zm rfl rfl (.bool false) rfl (Zf rfl rfl (.bool false) rfl ?_)
  refine Zp (p := pt 3 0) (v := dgV ((Zae kk l s.head.size).1)) rfl rfl rfl (by kernel_rfl) ?_
  refine Zn (b := 1) (o := 0) (n := 0) (o' := 0) rfl rfl rfl rfl rfl ?_
  refine Zn (b := 1) (o := 0) (n := 3) (o' := 3) rfl rfl rfl rfl rfl ?_
  refine Zp (p := pt 1 3) (v := dgV s.head.root) rfl rfl rfl (by kernel_rfl) ?_
  rcases Bool.eq_false_or_eq_true (Zcc 32 ((Zae kk l s.head.size).1) s.head.root) with h3 | h3
  refine Zo (vx := dgV ((Zae kk l s.head.size).1)) (vy := dgV s.head.root) rfl rfl (.bool false) rfl rfl (Eq.trans (Zry (n := 32) (a := (Zae kk l s.head.size).1) (b := s.head.root) (by kernel_rfl) rfl rfl rfl) (by rw [h3] <;> rfl)) ?_
  refine Zm rfl rfl (.bool false) rfl (Zb (Zc (Zz rfl (Z5 (Zc (Zg (Zj (Zf rfl rfl (slv 0 0 n c) rfl ?_))))))))
  refine Zn (b := 1) (o := 0) (n := 0) (o' := 0) rfl rfl rfl rfl rfl ?_
  refine Zn (b := 1) (o := 0) (n := 2) (o' := 2) rfl rfl rfl rfl rfl ?_
  refine Zp (p := pt 1 2) (v := Iv s.head.size) rfl rfl rfl (by kernel_rfl) ?_
  refine Zf rfl rfl (Iv i) rfl ?_
  have hpl3 := Zhu kk l s.head.size i
  refine Z4 (e := [some (0, 0)]) (nid := 5) (Z00 (G := G) kk hG hG1 l n c hn (by omega) (by omega) s.head.size i) (vals := [slv 0 0 n c, Iv s.head.size, Iv i]) (v := .tuple #[slv 5 0 ((Zl kk l s.head.size i).1.length) ((Zl kk l s.head.size i).1.length), Iv ((Zl kk l s.head.size i).2)]) (H' := [rwR Zk l, bxB 69 (Za s), mxB 181 ([Iv 0] ++ (Zh (⟨0, (⟨0, 0, 0, ⟨#[]⟩, (⟨(⟨0, 0, 0, dz, 0⟩ : Head), 0, dz⟩ : Signed), (⟨0, 0, 0, 0, dz⟩ : Claim)⟩ : Entry)⟩ : Item) ++ ([.slice none 0 0] ++ (Za (⟨(⟨0, 0, 0, dz, 0⟩ : Head), 0, dz⟩ : Signed))))), dgB ((Zae kk l s.head.size).1), Zaq ((Zaj s).1), dsB ((Zl kk l s.head.size i).1), hole]) rfl rfl rfl rfl rfl rfl rfl ⟨⟨⟨rfl, rfl, rfl, by first | omega | exact Nat.le_refl _, by first | omega | exact Nat.le_refl _⟩, rfl, rfl, trivial⟩, ⟨(Zc0 rfl), trivial⟩, rfl, rfl, rfl⟩ (by kernel_rfl) (by kernel_rfl) ?_
  refine Zf rfl rfl (.tuple #[slv 5 0 ((Zl kk l s.head.size i).1.length) ((Zl kk l s.head.size i).1.length), Iv ((Zl kk l s.head.size i).2)]) rfl (Zu (vs := #[slv 5 0 ((Zl kk l s.head.size i).1.length) ((Zl kk l s.head.size i).1.length), Iv ((Zl kk l s.head.size i).2)]) (v := slv 5 0 ((Zl kk l s.head.size i).1.length) ((Zl kk l s.head.size i).1.length)) rfl rfl rfl rfl (Zu (vs := #[slv 5 0 ((Zl kk l s.head.size i).1.length) ((Zl kk l s.head.size i).1.length), Iv ((Zl kk l s.head.size i).2)]) (v := Iv ((Zl kk l s.head.size i).2)) rfl rfl rfl rfl (Zd rfl rfl (slv 5 0 ((Zl kk l s.head.size i).1.length) ((Zl kk l s.head.size i).1.length)) rfl (Zd rfl rfl (Iv ((Zl kk l s.head.size i).2)) rfl (Zb (Zc (Zg (Zg (Zj (Zf rfl rfl (Iv ((Zl kk l s.head.size i).2)) rfl ?_))))))))))
  by_cases h4 : ((Zl kk l s.head.size i).2) ≠ 0
  refine Zo (vx := Iv ((Zl kk l s.head.size i).2)) (vy := Iv 0) rfl rfl (.bool true) rfl rfl (Zdr (by omega)) ?_
  refine Zb (Zc (Z0 rfl (Zg (Zj ?_))))
  refine Za1 (vs := []) (v := mxV ([Iv 0] ++ (Zh (⟨0, (⟨0, 0, 0, ⟨#[]⟩, (⟨(⟨0, 0, 0, dz, 0⟩ : Head), 0, dz⟩ : Signed), (⟨0, 0, 0, 0, dz⟩ : Claim)⟩ : Entry)⟩ : Item) ++ ([.slice none 0 0] ++ (Za (⟨(⟨0, 0, 0, dz, 0⟩ : Head), 0, dz⟩ : Signed)))))) rfl rfl rfl (by kernel_rfl) ?_
  refine Zw (p := pt 2 0) (v := mxV ([Iv 0] ++ (Zh (⟨0, (⟨0, 0, 0, ⟨#[]⟩, (⟨(⟨0, 0, 0, dz, 0⟩ : Head), 0, dz⟩ : Signed), (⟨0, 0, 0, 0, dz⟩ : Claim)⟩ : Entry)⟩ : Item) ++ ([.slice none 0 0] ++ (Za (⟨(⟨0, 0, 0, dz, 0⟩ : Head), 0, dz⟩ : Signed)))))) (b := 2) (blk := mxB 181 ([Iv 0] ++ (Zh (⟨0, (⟨0, 0, 0, ⟨#[]⟩, (⟨(⟨0, 0, 0, dz, 0⟩ : Head), 0, dz⟩ : Signed), (⟨0, 0, 0, 0, dz⟩ : Claim)⟩ : Entry)⟩ : Item) ++ ([.slice none 0 0] ++ (Za (⟨(⟨0, 0, 0, dz, 0⟩ : Head), 0, dz⟩ : Signed)))))) (H' := [rwR Zk l, bxB 69 (Za s), mxB 181 ([Iv 0] ++ (Zh (⟨0, (⟨0, 0, 0, ⟨#[]⟩, (⟨(⟨0, 0, 0, dz, 0⟩ : Head), 0, dz⟩ : Signed), (⟨0, 0, 0, 0, dz⟩ : Claim)⟩ : Entry)⟩ : Item) ++ ([.slice none 0 0] ++ (Za (⟨(⟨0, 0, 0, dz, 0⟩ : Head), 0, dz⟩ : Signed))))), dgB ((Zae kk l s.head.size).1), Zaq ((Zaj s).1), dsB ((Zl kk l s.head.size i).1), hole]) rfl rfl rfl (by kernel_rfl) (by kernel_rfl) ?_
  refine Zd rfl rfl (Iv 131) rfl (Zb (Zc ?_))
  refine Zby (Zbt.nilCell (k := 2) (j := 111) (b := 6) true 32 rfl (by decide) rfl (by show 0 < 181; decide) rfl rfl) ?_
  refine Zx (Zaa (Zy ?_))
  rw [show Zen kk l i s = ((⟨0, (⟨0, (⟨0, 0, 0, ⟨#[]⟩, (⟨(⟨0, 0, 0, dz, 0⟩ : Head), 0, dz⟩ : Signed), (⟨0, 0, 0, 0, dz⟩ : Claim)⟩ : Entry)⟩ : Item), [], (⟨(⟨0, 0, 0, dz, 0⟩ : Head), 0, dz⟩ : Signed)⟩ : PStep), 131) from by first | exact Zoy (by first | exact .inl (by omega) | exact .inr (.inl (Zk1 (by omega))) | exact .inr (.inr (by assumption))) | exact Zp7 (by omega) (Ziz (by omega)) (by assumption) (by omega)]
  exact Za2 [0, 6] (v := .tuple #[mxV ([Iv 0] ++ (Zh (⟨0, (⟨0, 0, 0, ⟨#[]⟩, (⟨(⟨0, 0, 0, dz, 0⟩ : Head), 0, dz⟩ : Signed), (⟨0, 0, 0, 0, dz⟩ : Claim)⟩ : Entry)⟩ : Item) ++ ([slv 6 0 0 0] ++ (Za (⟨(⟨0, 0, 0, dz, 0⟩ : Head), 0, dz⟩ : Signed))))), Iv 131]) rfl (by kernel_rfl) rfl rfl (by decide) (by simp [Za8, rwR, dsB, Zk]) ⟨(Zf8 (by kernel_rfl) (Zar ⟨⟨rfl, rfl⟩, trivial⟩ (Zar (Za9 (by kernel_rfl)) (Zar ⟨⟨rfl, rfl, rfl, by first | omega | exact Nat.le_refl _ | exact Nat.zero_le _ | (dsimp only; omega), by first | omega | exact Nat.le_refl _ | exact Nat.zero_le _ | (dsimp only; omega)⟩, trivial⟩ (Za9 (by kernel_rfl)))))), rfl, trivial⟩
  refine Zo (vx := Iv ((Zl kk l s.head.size i).2)) (vy := Iv 0) rfl rfl (.bool false) rfl rfl (Zdb (by omega)) ?_
  refine Zb (Zc (Zz rfl (Z5 (Zc (Zg ?_)))))
  have hin := Z2f (by omega : (Zl kk l s.head.size i).2 = 0)
  refine Zd9 (by kernel_rfl) ?_
  refine Zf rfl rfl (Iv i) rfl (Zf rfl rfl (slv 0 0 n c) rfl (Zf rfl rfl (Iv i) rfl ?_))
  refine Zba (b := 0) (o := 0) (j := i.toNat * 110) (m := n) (c := c) (sz := 110) (i := i) (k := .i64) rfl rfl rfl rfl rfl (by omega) (by omega) (by omega) ?_
  refine Zp (p := pt 0 (i.toNat * 110)) (v := Zay (l.getD i.toNat default)) rfl rfl rfl (Zkw (n := 0) (m := 110) Zk rfl rfl rfl rfl (by have := hn; omega) (by omega)) ?_
  refine Zf rfl rfl (slv 5 0 ((Zl kk l s.head.size i).1.length) ((Zl kk l s.head.size i).1.length)) rfl ?_
  refine Zp (p := pt 1 0) (v := Zs s) rfl rfl rfl (by kernel_rfl) ?_
  refine Za1 (vs := [(0, Iv i), (1, Zay (l.getD i.toNat default)), (2, slv 5 0 ((Zl kk l s.head.size i).1.length) ((Zl kk l s.head.size i).1.length)), (3, Zs s)]) (v := mxV ([Iv i] ++ (Zh (l.getD i.toNat default) ++ ([slv 5 0 ((Zl kk l s.head.size i).1.length) ((Zl kk l s.head.size i).1.length)] ++ (Za s))))) rfl rfl rfl (by kernel_rfl) ?_
  refine Zw (p := pt 2 0) (v := mxV ([Iv i] ++ (Zh (l.getD i.toNat default) ++ ([slv 5 0 ((Zl kk l s.head.size i).1.length) ((Zl kk l s.head.size i).1.length)] ++ (Za s))))) (b := 2) (blk := mxB 181 ([Iv i] ++ (Zh (l.getD i.toNat default) ++ ([slv 5 0 ((Zl kk l s.head.size i).1.length) ((Zl kk l s.head.size i).1.length)] ++ (Za s))))) (H' := [rwR Zk l, bxB 69 (Za s), mxB 181 ([Iv i] ++ (Zh (l.getD i.toNat default) ++ ([slv 5 0 ((Zl kk l s.head.size i).1.length) ((Zl kk l s.head.size i).1.length)] ++ (Za s)))), dgB ((Zae kk l s.head.size).1), Zaq ((Zaj s).1), dsB ((Zl kk l s.head.size i).1), hole]) rfl rfl rfl (by kernel_rfl) (by kernel_rfl) ?_
  refine Zd rfl rfl (Iv 0) rfl ?_
  refine Zc3 (Zgl [[], [], [], [1, 2], [1, 2, 3], [], [], [0, 1, 2, 3, 4, 5, 6], [0, 1, 2, 3, 4, 5, 6, 7], [0, 1, 2, 3, 4, 5, 6, 7, 8]] (by kernel_rfl) (by kernel_rfl)) ?_
  refine Zc (Zx (Zy ?_))
  rw [show Zen kk l i s = ((⟨i, l.getD i.toNat default, (Zl kk l s.head.size i).1, s⟩ : PStep), 0) from Z1n (by omega) (Ziz (by omega)) (by assumption) (by omega)]
  exact Za2 [0, 5] (v := .tuple #[mxV ([Iv i] ++ (Zh (l.getD i.toNat default) ++ ([slv 5 0 ((Zl kk l s.head.size i).1.length) ((Zl kk l s.head.size i).1.length)] ++ (Za s)))), Iv 0]) rfl (by kernel_rfl) rfl rfl (by decide) (by simp [Za8, rwR, dsB, Zk]) ⟨(Zf8 (by kernel_rfl) (Zar ⟨⟨rfl, rfl⟩, trivial⟩ (Zar (Za9 (by kernel_rfl)) (Zar ⟨⟨rfl, rfl, rfl, by first | omega | exact Nat.le_refl _ | exact Nat.zero_le _ | (dsimp only; omega), by first | omega | exact Nat.le_refl _ | exact Nat.zero_le _ | (dsimp only; omega)⟩, trivial⟩ (Za9 (by kernel_rfl)))))), rfl, trivial⟩
  refine Zo (vx := dgV ((Zae kk l s.head.size).1)) (vy := dgV s.head.root) rfl rfl (.bool true) rfl rfl (Eq.trans (Zry (n := 32) (a := (Zae kk l s.head.size).1) (b := s.head.root) (by kernel_rfl) rfl rfl rfl) (by rw [h3] <;> rfl)) ?_
  refine Zm rfl rfl (.bool true) rfl (Zb (Zc (Z0 rfl (Zg (Zj ?_)))))
  refine Za1 (vs := []) (v := mxV ([Iv 0] ++ (Zh (⟨0, (⟨0, 0, 0, ⟨#[]⟩, (⟨(⟨0, 0, 0, dz, 0⟩ : Head), 0, dz⟩ : Signed), (⟨0, 0, 0, 0, dz⟩ : Claim)⟩ : Entry)⟩ : Item) ++ ([.slice none 0 0] ++ (Za (⟨(⟨0, 0, 0, dz, 0⟩ : Head), 0, dz⟩ : Signed)))))) rfl rfl rfl (by kernel_rfl) ?_
  refine Zw (p := pt 2 0) (v := mxV ([Iv 0] ++ (Zh (⟨0, (⟨0, 0, 0, ⟨#[]⟩, (⟨(⟨0, 0, 0, dz, 0⟩ : Head), 0, dz⟩ : Signed), (⟨0, 0, 0, 0, dz⟩ : Claim)⟩ : Entry)⟩ : Item) ++ ([.slice none 0 0] ++ (Za (⟨(⟨0, 0, 0, dz, 0⟩ : Head), 0, dz⟩ : Signed)))))) (b := 2) (blk := mxB 181 ([Iv 0] ++ (Zh (⟨0, (⟨0, 0, 0, ⟨#[]⟩, (⟨(⟨0, 0, 0, dz, 0⟩ : Head), 0, dz⟩ : Signed), (⟨0, 0, 0, 0, dz⟩ : Claim)⟩ : Entry)⟩ : Item) ++ ([.slice none 0 0] ++ (Za (⟨(⟨0, 0, 0, dz, 0⟩ : Head), 0, dz⟩ : Signed)))))) (H' := [rwR Zk l, bxB 69 (Za s), mxB 181 ([Iv 0] ++ (Zh (⟨0, (⟨0, 0, 0, ⟨#[]⟩, (⟨(⟨0, 0, 0, dz, 0⟩ : Head), 0, dz⟩ : Signed), (⟨0, 0, 0, 0, dz⟩ : Claim)⟩ : Entry)⟩ : Item) ++ ([.slice none 0 0] ++ (Za (⟨(⟨0, 0, 0, dz, 0⟩ : Head), 0, dz⟩ : Signed))))), dgB ((Zae kk l s.head.size).1), Zaq ((Zaj s).1), hole, hole]) rfl rfl rfl (by kernel_rfl) (by kernel_rfl) ?_
  refine Zd rfl rfl (Iv 130) rfl (Zb (Zc ?_))
  refine Zby (Zbt.nilCell (k := 2) (j := 111) (b := 5) true 32 rfl (by decide) rfl (by show 0 < 181; decide) rfl rfl) ?_
  refine Zx (Zaa (Zy ?_))
  rw [show Zen kk l i s = ((⟨0, (⟨0, (⟨0, 0, 0, ⟨#[]⟩, (⟨(⟨0, 0, 0, dz, 0⟩ : Head), 0, dz⟩ : Signed), (⟨0, 0, 0, 0, dz⟩ : Claim)⟩ : Entry)⟩ : Item), [], (⟨(⟨0, 0, 0, dz, 0⟩ : Head), 0, dz⟩ : Signed)⟩ : PStep), 130) from by first | exact Zoy (by first | exact .inl (by omega) | exact .inr (.inl (Zk1 (by omega))) | exact .inr (.inr (by assumption))) | exact Zp7 (by omega) (Ziz (by omega)) (by assumption) (by omega)]
  exact Za2 [0, 5] (v := .tuple #[mxV ([Iv 0] ++ (Zh (⟨0, (⟨0, 0, 0, ⟨#[]⟩, (⟨(⟨0, 0, 0, dz, 0⟩ : Head), 0, dz⟩ : Signed), (⟨0, 0, 0, 0, dz⟩ : Claim)⟩ : Entry)⟩ : Item) ++ ([slv 5 0 0 0] ++ (Za (⟨(⟨0, 0, 0, dz, 0⟩ : Head), 0, dz⟩ : Signed))))), Iv 130]) rfl (by kernel_rfl) rfl rfl (by decide) (by simp [Za8, rwR, dsB, Zk]) ⟨(Zf8 (by kernel_rfl) (Zar ⟨⟨rfl, rfl⟩, trivial⟩ (Zar (Za9 (by kernel_rfl)) (Zar ⟨⟨rfl, rfl, rfl, by first | omega | exact Nat.le_refl _ | exact Nat.zero_le _ | (dsimp only; omega), by first | omega | exact Nat.le_refl _ | exact Nat.zero_le _ | (dsimp only; omega)⟩, trivial⟩ (Za9 (by kernel_rfl)))))), rfl, trivial⟩
theorem Zi1 (kk : Nat → BitVec 32) (hG : G 0 = some (Zad w32 64 kk)) (master : D) (x : PStep) (n c : Nat) (hn : x.proof.length = n) (hc : n ≤ c) (hb : n ≤ 1000) (hx : (-9223372036854775808 ≤ x.index ∧ x.index ≤ 9223372036854775807) ∧ -9223372036854775808 ≤ x.head.head.size ∧ x.head.head.size ≤ 9223372036854775807) : Zaf Tryd.prog G 30 [dgV master, mxV ([Iv x.index] ++ (Zh x.item ++ ([slv 0 0 n c] ++ (Za x.head))))] [dsR x.proof] (Iv (Z1 kk master x)) [dsR x.proof] := by
  refine Zbj (fn := Tryd.f30) (nt := 43) rfl rfl rfl rfl ?_
  refine Zai 3 (H' := [dsR x.proof, hole, hole, hole]) rfl ?_
  refine Zg (Zj ?_)
  refine Zcj (v := dgV master) (b := dgB master) (nid := 1) (H' := [dsR x.proof, dgB master, hole, hole]) rfl rfl rfl (by kernel_rfl) (by kernel_rfl) ?_
  refine Zcj (v := mxV ([Iv x.index] ++ (Zh x.item ++ ([slv 0 0 n c] ++ (Za x.head))))) (b := mxB 181 ([Iv x.index] ++ (Zh x.item ++ ([slv 0 0 n c] ++ (Za x.head))))) (nid := 2) (H' := [dsR x.proof, dgB master, mxB 181 ([Iv x.index] ++ (Zh x.item ++ ([slv 0 0 n c] ++ (Za x.head)))), hole]) rfl rfl rfl (by kernel_rfl) (by kernel_rfl) ?_
  refine Zd rfl rfl (Iv 0) rfl (Zb (Zc (Zg (Zj ?_))))
  refine Zp (p := pt 1 0) (v := dgV master) rfl rfl rfl (by kernel_rfl) ?_
  refine Zn (b := 2) (o := 0) (n := 112) (o' := 112) rfl rfl rfl rfl rfl ?_
  refine Zp (p := pt 2 112) (v := Zs x.head) rfl rfl rfl (by kernel_rfl) ?_
  refine Zt (Zvw (G := G) kk hG master x.head) (vals := [dgV master, Zs x.head]) (res' := Iv (Zca kk master x.head)) rfl rfl rfl rfl rfl rfl ?_
  refine Zd rfl rfl (Iv (Zca kk master x.head)) rfl (Zb (Zc (Zg (Zj ?_))))
  refine Zn (b := 2) (o := 0) (n := 1) (o' := 1) rfl rfl rfl rfl rfl ?_
  refine Zp (p := pt 2 1) (v := Zay x.item) rfl rfl rfl (by kernel_rfl) ?_
  refine Zt (Zxr (G := G) kk hG x.item) (vals := [Zay x.item]) (res' := .tuple #[dgV ((Zao kk x.item).1), Iv ((Zao kk x.item).2)]) rfl rfl rfl rfl rfl (by kernel_rfl) ?_
  refine Zf rfl rfl (.tuple #[dgV ((Zao kk x.item).1), Iv ((Zao kk x.item).2)]) rfl (Zu (vs := #[dgV ((Zao kk x.item).1), Iv ((Zao kk x.item).2)]) (v := dgV ((Zao kk x.item).1)) rfl rfl rfl rfl (Zu (vs := #[dgV ((Zao kk x.item).1), Iv ((Zao kk x.item).2)]) (v := Iv ((Zao kk x.item).2)) rfl rfl rfl rfl ?_))
  refine Z2 (b := dgB dz) (nid := 3) (H' := [dsR x.proof, dgB master, mxB 181 ([Iv x.index] ++ (Zh x.item ++ ([slv 0 0 n c] ++ (Za x.head)))), dgB dz]) rfl rfl (by kernel_rfl) (by kernel_rfl) ?_
  refine Zw (p := pt 3 0) (v := dgV ((Zao kk x.item).1)) (b := 3) (blk := dgB ((Zao kk x.item).1)) (H' := [dsR x.proof, dgB master, mxB 181 ([Iv x.index] ++ (Zh x.item ++ ([slv 0 0 n c] ++ (Za x.head)))), dgB ((Zao kk x.item).1)]) rfl rfl rfl (by kernel_rfl) (by kernel_rfl) ?_
  refine Zd rfl rfl (Iv ((Zao kk x.item).2)) rfl (Zb (Zc (Zg (Z7 (Zg (Z7 (Zg (Z7 (Zg (Zg (Zg (Zj (Zf rfl rfl (Iv (Zca kk master x.head)) rfl ?_)))))))))))))
  by_cases h1 : (Zca kk master x.head) = 0
  refine Zo (vx := Iv (Zca kk master x.head)) (vy := Iv 0) rfl rfl (.bool true) rfl rfl (Zdd (by omega)) ?_
  refine Zf rfl rfl (.bool true) rfl (Zf rfl rfl (Iv ((Zao kk x.item).2)) rfl ?_)
  by_cases h2 : ((Zao kk x.item).2) ≠ 0
  refine Zo (vx := Iv ((Zao kk x.item).2)) (vy := Iv 0) rfl rfl (.bool true) rfl rfl (Zdr (by omega)) ?_
  refine Zm rfl rfl (.bool true) rfl (Zd rfl rfl (.bool true) rfl (Zb (Zc (Z0 rfl (Zbe (Zam (Zam (Zas rfl (Zc (Zj (Zd rfl rfl (Iv 130) rfl (Zb (Z3 (Zc (Zg (Zg (Zj (Zf rfl rfl (Iv 130) rfl (Zd rfl rfl (Iv 130) rfl (Zb (Zc (Zx (Zaa (Zc1 (Zaa (Zy ?_))))))))))))))))))))))))))
  rw [show Z1 kk master x = 130 from Z2a (by omega) (by omega)]
  exact Zq (v := Iv 130) rfl rfl rfl (by kernel_rfl) rfl
  refine Zo (vx := Iv ((Zao kk x.item).2)) (vy := Iv 0) rfl rfl (.bool false) rfl rfl (Zdb (by omega)) ?_
  refine Zm rfl rfl (.bool false) rfl (Zd rfl rfl (.bool false) rfl (Zb (Zc (Zz rfl (Z5 (Zc (Zg (Zj (Zf rfl rfl (Iv (Zca kk master x.head)) rfl ?_)))))))))
  refine Zo (vx := Iv (Zca kk master x.head)) (vy := Iv 0) rfl rfl (.bool false) rfl rfl (Zdb (by omega)) ?_
  refine Zd rfl rfl (.bool false) rfl (Zb (Zc (Zz rfl (Z5 (Zc (Zbe (Zgf rfl (Zam (Zgf rfl (Zam (Zas rfl (Zc (Zg (Zj ?_))))))))))))))
  refine Zn (b := 2) (o := 0) (n := 112) (o' := 112) rfl rfl rfl rfl rfl ?_
  refine Zn (b := 2) (o := 112) (n := 0) (o' := 112) rfl rfl rfl rfl rfl ?_
  refine Zn (b := 2) (o := 112) (n := 3) (o' := 115) rfl rfl rfl rfl rfl ?_
  refine Zp (p := pt 2 115) (v := dgV x.head.head.root) rfl rfl rfl (by kernel_rfl) ?_
  refine Zn (b := 2) (o := 0) (n := 112) (o' := 112) rfl rfl rfl rfl rfl ?_
  refine Zn (b := 2) (o := 112) (n := 0) (o' := 112) rfl rfl rfl rfl rfl ?_
  refine Zn (b := 2) (o := 112) (n := 2) (o' := 114) rfl rfl rfl rfl rfl ?_
  refine Zp (p := pt 2 114) (v := Iv x.head.head.size) rfl rfl rfl (by kernel_rfl) ?_
  refine Zn (b := 2) (o := 0) (n := 0) (o' := 0) rfl rfl rfl rfl rfl ?_
  refine Zp (p := pt 2 0) (v := Iv x.index) rfl rfl rfl (by kernel_rfl) ?_
  refine Zp (p := pt 3 0) (v := dgV ((Zao kk x.item).1)) rfl rfl rfl (by kernel_rfl) ?_
  refine Zn (b := 2) (o := 0) (n := 111) (o' := 111) rfl rfl rfl rfl rfl ?_
  refine Zp (p := pt 2 111) (v := slv 0 0 n c) rfl rfl rfl (by kernel_rfl) ?_
  refine Z4 (e := [some (0, 0)]) (nid := 0) (Zus (G := G) kk hG x.head.head.root ((Zao kk x.item).1) x.head.head.size x.index x.proof n c hn (by omega) (by omega) (by omega) (by omega) (by omega) (by omega)) (vals := [dgV x.head.head.root, Iv x.head.head.size, Iv x.index, dgV ((Zao kk x.item).1), slv 0 0 n c]) (v := Iv (Zhs kk x.head.head.root ((Zao kk x.item).1) x.head.head.size x.index x.proof)) (H' := [dsR x.proof, dgB master, mxB 181 ([Iv x.index] ++ (Zh x.item ++ ([slv 0 0 n c] ++ (Za x.head)))), dgB ((Zao kk x.item).1)]) rfl rfl rfl rfl rfl rfl rfl ⟨⟨rfl, rfl, rfl, rfl, ⟨rfl, rfl, rfl, by first | omega | exact Nat.le_refl _, by first | omega | exact Nat.le_refl _⟩, trivial⟩, ⟨(Zdw rfl), trivial⟩, rfl, rfl, rfl⟩ rfl (by kernel_rfl) ?_
  refine Zd rfl rfl (Iv (Zhs kk x.head.head.root ((Zao kk x.item).1) x.head.head.size x.index x.proof)) rfl (Zb (Zc (Zx (Zy ?_))))
  rw [show Z1 kk master x = (Zhs kk x.head.head.root ((Zao kk x.item).1) x.head.head.size x.index x.proof) from Zxk (by omega) (by omega)]
  exact Zq (v := Iv (Zhs kk x.head.head.root ((Zao kk x.item).1) x.head.head.size x.index x.proof)) rfl rfl rfl (by kernel_rfl) rfl
  refine Zo (vx := Iv (Zca kk master x.head)) (vy := Iv 0) rfl rfl (.bool false) rfl rfl (Zf5 (by omega)) ?_
  refine Zf rfl rfl (.bool false) rfl (Zi rfl rfl (Zi rfl rfl (Zm rfl rfl (.bool false) rfl (Zd rfl rfl (.bool false) rfl (Zb (Zc (Zz rfl (Z5 (Zc (Zg (Zj (Zf rfl rfl (Iv (Zca kk master x.head)) rfl ?_))))))))))))
  refine Zo (vx := Iv (Zca kk master x.head)) (vy := Iv 0) rfl rfl (.bool true) rfl rfl (Zdr (by omega)) ?_
  refine Zd rfl rfl (.bool true) rfl (Zb (Zc (Z0 rfl (Zbe (Zam (Zgf rfl (Zam (Zas rfl (Zc (Zg (Zg (Zj (Zf rfl rfl (Iv (Zca kk master x.head)) rfl (Zd rfl rfl (Iv (Zca kk master x.head)) rfl (Zb (Zc (Zx (Zaa (Zc1 (Zaa (Zy ?_)))))))))))))))))))))
  rw [show Z1 kk master x = Zca kk master x.head from Z2j (by omega)]
  exact Zq (v := Iv (Zca kk master x.head)) rfl rfl rfl (by kernel_rfl) rfl
end Go.Flat
