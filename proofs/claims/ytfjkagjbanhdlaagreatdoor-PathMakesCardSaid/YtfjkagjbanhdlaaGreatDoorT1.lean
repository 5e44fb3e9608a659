/- Walks. -/
import Derived.Test.YtfjkagjbanhdlaaGreatDoorFlatG
import Derived.ScopeJumps
import Derived.Lib.SliceRun
import Derived.Test.YtfjkagjbanhdlaaGreatDoorK2
import Derived.Test.YtfjkagjbanhdlaaGreatDoorH10
set_option linter.unusedVariables false
set_option linter.unusedSimpArgs false
set_option maxRecDepth 20000
section
/- Structs that hold slices: their values, boxes, arguments. -/
namespace Go.Flat
abbrev mxV (l : List Value) : Value := .agg l.toArray
def mxB (n : Nat) (l : List Value) : Blk := { cells := l, sz := n, wr := true, fix := true, mv := false, pur := false }
theorem Zan {e : Emb} : ∀ {a a' b b' : List Value}, Zph e a a' → Zph e b b' → Zph e (a ++ b) (a' ++ b')
 | [], [], _, _, _, h => h
 | _ :: _, _ :: _, _, _, h1, h => ⟨h1.1, Zan h1.2 h⟩
 | [], _ :: _, _, _, h1, _ => h1.elim
 | _ :: _, [], _, _, h1, _ => h1.elim
theorem Z1c {e : Emb} {v : Value} (h : Zb9 v = true) : Zy0 e v v := by
  cases v
  case slice a n c => rcases a with _ | ⟨b, o, q⟩
                      · exact ⟨rfl, rfl⟩
                      · cases h
  case pointer a => rcases a with _ | ⟨b, o, q⟩
                    · exact ⟨rfl, rfl⟩
                    · cases h
  all_goals first | exact ⟨rfl, rfl⟩ | (cases h)
theorem Za6 {e : Emb} : ∀ {a : List Value}, a.all Zb9 = true → Zph e a a
 | [], _ => trivial
 | x :: l, h => by
  rw [List.all_cons, Bool.and_eq_true] at h
  exact ⟨Z1c h.1, Za6 h.2⟩
theorem Ze7 {e : Emb} {a b : List Value} (hp : Zb7 (mxV a) = false) (h : Zph e a b) : Zky e (mxV a) (mxV b) := by
 unfold Zky
 rw [if_neg (by rw [hp]; decide)]
 exact h
open Go.ChangeShapes Go.WideShapes Go.RowKit
section
variable {H : Type} {enc : TypeId × Value → H} {P : Program} {W : World} {α : Type} {c : Cod α} {ok : α → Prop}
end
theorem L2.pure {m : MapM} {a : List Value} (h : a.all Zb9 = true) : L2 (CR m) a a :=
 ⟨rfl, fun i x y hx hy => by
  rw [hx] at hy; injection hy with hy; subst hy
  exact CR.of_pure (List.all_eq_true.1 h x (List.mem_of_getElem? hx))⟩
theorem L2.cell {m : MapM} {b o n k : Nat} {v : Value} (h : VR m (slv b o n k) v) : L2 (CR m) [slv b o n k] [v] := L2.cons h L2.nil
end Go.Flat
end
section
/- A scope in which the run jumps ahead to one label. -/
namespace Go.Flat
variable {P : Program} {G : Glob} {nt n0 : Nat} {Q : Exit → St → Prop} {s : St} {x : Code}
def Zz3 (Q : Exit → St → Prop) : Exit → St → Prop
  | .goto _, _ => False
  | e, s => Q e s
def Z4a (P : Program) (G : Glob) (nt n0 l : Nat) (rest : Code) (Q : Exit → St → Prop) : Exit → St → Prop
  | .goto l', s => l' = l ∧ C P G nt n0 rest (Zz3 Q) s
  | e, s => Q e s
theorem Ztw {l : Nat} {rest : Code} (hf : findLabel x l = some rest) (h : C P G nt n0 x (Z4a P G nt n0 l rest Q) s) : C P G nt n0 (.scope x) Q s := by
 refine ⟨fun E m a w h0 hr => ?_⟩
 refine wp_scope_jumps l (fun a w => ∃ s m, C P G nt n0 rest (Zz3 Q) s ∧ SRel G nt E m s a w) (fun _ _ => 0) hf (wp_mono (h.h E m a w h0 hr) ?_) ?_
 ·rintro e a' w' ⟨s', m', h1, h2⟩
  cases e with
  | goto l' => exact ⟨h1.1, s', m', h1.2, h2⟩
  | _ => exact ⟨s', m', h1, h2⟩
 ·rintro a w ⟨s', m', h1, h2⟩
  refine wp_mono (h1.h E m' a w h0 h2) ?_
  rintro e a' w' ⟨s2, m2, h3, h4⟩
  cases e with
  | goto l' => exact h3.elim
  | _ => exact ⟨s2, m2, h3, h4⟩
theorem Zjr {l : Nat} {rest : Code} (h : X Q .ret s) : X (Z4a P G nt n0 l rest Q) .ret s := ⟨h.h⟩
end Go.Flat
end
section
/- Is a slice nil? A split that the code itself makes; parts of own rows that are appended to. -/
namespace Go.Flat
variable {P : Program} {G : Glob} {nt n0 : Nat} {Q : Exit → St → Prop}
def lit0D (P : Program) (σ : List Blk) (t : TypeId) (nid : Nat) : Option (Value × Blk) :=
  match Zdo P t with
  | some (sz, _, _) => if 0 < sz ∧ Zd3 σ nid = true then some (.slice (some ⟨nid, 0, none⟩) 0 0, Zew true false sz []) else none
  | none => none
section
variable {ops l : List Oper} {K : Trace → St → Prop} {tr : Trace} {T : Nat → Value} {H H' : List Blk} {d : Tmp} {ty : TypeId} {ps : String} {af : Array Edge} {g : Option (Nat × Bool)}
end
end Go.Flat
end
section
/- Loops of few rounds, round by round; rows of structs that hold slices. -/
namespace Go.Flat
variable {P : Program} {G : Glob} {nt n0 : Nat} {Q : Exit → St → Prop}
def UL (P : Program) (G : Glob) (nt n0 : Nat) (y : Code) (Q : Exit → St → Prop) : Nat → St → Prop
  | 0, _ => False
  | k + 1, s => C P G nt n0 y (Zez (UL P G nt n0 y Q k) Q) s
theorem Ziy {y : Code} {k : Nat} {s : St} (h : C P G nt n0 y (Zez (UL P G nt n0 y Q k) Q) s) : UL P G nt n0 y Q (k + 1) s := h
theorem Zm9 {next : St → Prop} {s : St} (h : next s) : X (Zez next Q) .normal s := Zao h
theorem Z0t {p : Nat → Prop} (h : ∃ n, p n) : ∃ n, p n ∧ ∀ m, p m → n ≤ m := by
  obtain ⟨n, hn⟩ := h
  induction n using Nat.strongRecOn with
  | _ n ih =>
    by_cases hx : ∃ m, m < n ∧ p m
    · obtain ⟨m, h1, h2⟩ := hx; exact ih m h1 h2
    · exact ⟨n, hn, fun m hm => by rcases Nat.lt_or_ge m n with h | h; exact absurd ⟨m, h, hm⟩ hx; exact h⟩
theorem Zrr {y : Code} {s : St} (k : Nat) (h : UL P G nt n0 y Q k s) : C P G nt n0 (.loop y) Q s := by
 classical
 refine ⟨fun E m a w h0 hr => ?_⟩
 let ok : Act → World → Nat → Prop := fun a w j => ∃ s m, UL P G nt n0 y Q j s ∧ SRel G nt E m s a w
 refine wp_loop (fun a w => ∃ j, ok a w j) (fun a w => if hx : ∃ j, ok a w j then Classical.choose (Z0t hx) else 0) ⟨k, s, m, h, hr⟩ ?_
 intro a w hI
 have hsp := Classical.choose_spec (Z0t hI)
 generalize hk : Classical.choose (Z0t hI) = j at hsp
 obtain ⟨⟨s1, m1, h1, hr1⟩, hmin⟩ := hsp
 cases j with
 | zero => exact h1.elim
 | succ j =>
  refine wp_mono (C.h (show C P G nt n0 y (Zez (UL P G nt n0 y Q j) Q) s1 from h1) E m1 a w h0 hr1) ?_
  rintro e a' w' ⟨s2, m2, h2, hr2⟩
  cases e with
  | normal =>
   have hI' : ∃ j, ok a' w' j := ⟨j, s2, m2, h2, hr2⟩
   refine ⟨hI', ?_⟩
   simp only [dif_pos hI, dif_pos hI', hk]
   exact Nat.lt_succ_of_le ((Classical.choose_spec (Z0t hI')).2 j ⟨s2, m2, h2, hr2⟩)
  | _ => exact ⟨s2, m2, h2, hr2⟩
def mxW (n : Nat) (l : List Value) : Blk := { cells := l, sz := n, wr := true, fix := false, mv := true, pur := false }
def mxR (n : Nat) (l : List Value) : Blk := { cells := l, sz := n, wr := false, fix := false, mv := true, pur := false }
end Go.Flat
end
namespace Go.Flat
open Go.Proofs
variable {G : Glob}
theorem Zjk (kk : Nat → BitVec 32) (l : List Item) (k i : Int) : (Zaf kk l k i).1.length ≤ 1000 := by
 unfold Zaf
 split
 ·split
  ·have := Zk9 kk 11 (Zap kk l k).1 i.toNat (Nat.le_trans (Zqg kk l k) (by decide))
   show (Zcp kk (Zap kk l k).1 i.toNat).length ≤ 1000
   omega
  ·exact Nat.zero_le _
 ·exact Nat.zero_le _
structure PStep where
  index : Int
  item : Item
  proof : List D
  head : Signed
def Zv (kk : Nat → BitVec 32) (l : List Item) (i : Int) (s : Signed) : PStep × Int :=
  if (Zab kk l s.head.size).2 = 0 ∧ Zf4 s ∧ Zcv 32 (Zab kk l s.head.size).1 s.head.root = true then
    (if (Zaf kk l s.head.size i).2 = 0 then (⟨i, l.getD i.toNat default, (Zaf kk l s.head.size i).1, s⟩, 0) else ((⟨0, (⟨0, (⟨0, 0, 0, ⟨#[]⟩, (⟨(⟨0, 0, 0, dz, 0⟩ : Head), 0, dz⟩ : Signed), (⟨0, 0, 0, 0, dz⟩ : Claim)⟩ : Entry)⟩ : Item), [], (⟨(⟨0, 0, 0, dz, 0⟩ : Head), 0, dz⟩ : Signed)⟩ : PStep), 131)) else ((⟨0, (⟨0, (⟨0, 0, 0, ⟨#[]⟩, (⟨(⟨0, 0, 0, dz, 0⟩ : Head), 0, dz⟩ : Signed), (⟨0, 0, 0, 0, dz⟩ : Claim)⟩ : Entry)⟩ : Item), [], (⟨(⟨0, 0, 0, dz, 0⟩ : Head), 0, dz⟩ : Signed)⟩ : PStep), 130)
theorem Zjf {s : Signed} (h : (Zaj s).2 = 0) : Zf4 s := by
 by_cases q : Zf4 s
 ·exact q
 ·rw [Zs3 q] at h; exact absurd h (by decide)
theorem Zl0 {s : Signed} (h : ¬ (Zaj s).2 = 0) : ¬ Zf4 s := fun q => h (by rw [Zot q])
section
variable {kk : Nat → BitVec 32} {l : List Item} {i : Int} {s : Signed}
theorem Zy9 (h1 : (Zab kk l s.head.size).2 = 0) (h2 : Zf4 s) (h3 : Zcv 32 (Zab kk l s.head.size).1 s.head.root = true) (h4 : (Zaf kk l s.head.size i).2 = 0) : Zv kk l i s = (⟨i, l.getD i.toNat default, (Zaf kk l s.head.size i).1, s⟩, 0) := by
 unfold Zv; rw [if_pos ⟨h1, h2, h3⟩, if_pos h4]
theorem Zkc (h1 : (Zab kk l s.head.size).2 = 0) (h2 : Zf4 s) (h3 : Zcv 32 (Zab kk l s.head.size).1 s.head.root = true) (h4 : ¬ (Zaf kk l s.head.size i).2 = 0) : Zv kk l i s = ((⟨0, (⟨0, (⟨0, 0, 0, ⟨#[]⟩, (⟨(⟨0, 0, 0, dz, 0⟩ : Head), 0, dz⟩ : Signed), (⟨0, 0, 0, 0, dz⟩ : Claim)⟩ : Entry)⟩ : Item), [], (⟨(⟨0, 0, 0, dz, 0⟩ : Head), 0, dz⟩ : Signed)⟩ : PStep), 131) := by
 unfold Zv; rw [if_pos ⟨h1, h2, h3⟩, if_neg h4]
theorem Zj3 (h : ¬ (Zab kk l s.head.size).2 = 0 ∨ ¬ Zf4 s ∨ Zcv 32 (Zab kk l s.head.size).1 s.head.root = false) : Zv kk l i s = ((⟨0, (⟨0, (⟨0, 0, 0, ⟨#[]⟩, (⟨(⟨0, 0, 0, dz, 0⟩ : Head), 0, dz⟩ : Signed), (⟨0, 0, 0, 0, dz⟩ : Claim)⟩ : Entry)⟩ : Item), [], (⟨(⟨0, 0, 0, dz, 0⟩ : Head), 0, dz⟩ : Signed)⟩ : PStep), 130) := by
  unfold Zv; rw [if_neg (fun q => by rcases h with h | h | h; exact h q.1; exact h q.2.1; rw [q.2.2] at h; cases h)]
theorem Z0v {k i : Int} (h : (Zaf kk l k i).2 = 0) : 0 ≤ i ∧ i < l.length := by
 by_cases h0 : (Zap kk l k).2 = 0
 ·have hlen : (Zap kk l k).1.length ≤ l.length := by
   unfold Zap at h0 ⊢
   split at h0
   ·rename_i g
    split at h0
    ·rename_i g2
     rw [if_pos g, if_pos g2]; show (acL kk l k.toNat).length ≤ _; rw [Zd2]; omega
    ·exact absurd h0 (by decide)
   ·exact absurd h0 (by decide)
  by_cases h1 : 0 ≤ i ∧ i < (Zap kk l k).1.length
  ·omega
  ·rw [show Zaf kk l k i = ([], 20) from by unfold Zaf; rw [if_pos h0, if_neg h1]] at h
   exact absurd h (by decide)
 ·rw [show Zaf kk l k i = ([], (Zap kk l k).2) from by unfold Zaf; rw [if_neg h0]] at h
  exact absurd h h0
end
def Zar (kk : Nat → BitVec 32) (master : D) (x : PStep) : Int :=
  if Zda kk master x.head = 0 then (if (Zat kk x.item).2 = 0 then Zig kk x.head.head.root (Zat kk x.item).1 x.head.head.size x.index x.proof else 130) else Zda kk master x.head
section
variable {kk : Nat → BitVec 32} {master : D} {x : PStep}
theorem Z6c (h : ¬ Zda kk master x.head = 0) : Zar kk master x = Zda kk master x.head := if_neg h
theorem Z61 (h : Zda kk master x.head = 0) (h1 : ¬ (Zat kk x.item).2 = 0) : Zar kk master x = 130 := by unfold Zar; rw [if_pos h, if_neg h1]
theorem Zzc (h : Zda kk master x.head = 0) (h1 : (Zat kk x.item).2 = 0) : Zar kk master x = Zig kk x.head.head.root (Zat kk x.item).1 x.head.head.size x.index x.proof := by unfold Zar; rw [if_pos h, if_pos h1]
end
abbrev Y7  : Blk := mxB 181 ([Iv 0] ++ (Zs (⟨0, (⟨0, 0, 0, ⟨#[]⟩, (⟨(⟨0, 0, 0, dz, 0⟩ : Head), 0, dz⟩ : Signed), (⟨0, 0, 0, 0, dz⟩ : Claim)⟩ : Entry)⟩ : Item) ++ ([.slice none 0 0] ++ (Zj (⟨(⟨0, 0, 0, dz, 0⟩ : Head), 0, dz⟩ : Signed)))))
theorem Zzn (kk : Nat → BitVec 32) (hG : G 3 = some (Zag w32 64 kk)) (hG1 : G 1 = some (Zag u8N 64 dbF)) (l : List Item) (n c : Nat) (hn : l.length = n) (hc : n ≤ c) (hb : n ≤ 1048576) (i : Int) (s : Signed) : Z6 Tryz.prog G 7 [slv 0 0 n c, Iv i, Zy s] [rwR Zt l] (.tuple #[mxV ([Iv ((Zv kk l i s).1.index)] ++ (Zs ((Zv kk l i s).1.item) ++ ([slv 1 0 ((Zv kk l i s).1.proof.length) ((Zv kk l i s).1.proof.length)] ++ (Zj ((Zv kk l i s).1.head))))), Iv (Zv kk l i s).2]) [rwR Zt l, dsB (Zv kk l i s).1.proof] := by
  refine Za8 (fn := Tryz.f7) (nt := 60) rfl rfl rfl rfl ?_
  refine Zaa 6 (H' := [rwR Zt l, hole, hole, hole, hole, hole, hole]) rfl ?_
  refine Zf (Zg (Zbq (v := Zy s) (b := bxB 69 (Zj s)) (nid := 1) (H' := [rwR Zt l, bxB 69 (Zj s), hole, hole, hole, hole, hole]) (Zam (b := mxB 181 ([Iv 0] ++ (Zs (⟨0, (⟨0, 0, 0, ⟨#[]⟩, (⟨(⟨0, 0, 0, dz, 0⟩ : Head), 0, dz⟩ : Signed), (⟨0, 0, 0, 0, dz⟩ : Claim)⟩ : Entry)⟩ : Item) ++ ([.slice none 0 0] ++ (Zj (⟨(⟨0, 0, 0, dz, 0⟩ : Head), 0, dz⟩ : Signed)))))) (nid := 2) (H' := [rwR Zt l, bxB 69 (Zj s), Y7, hole, hole, hole, hole]) (Zb (Iv 0) (Za (Zc (Zf (Zg (Zd (slv 0 0 n c) (Zh (b := 1) (o := 0) (n := 0) (o' := 0) (Zh (b := 1) (o := 0) (n := 2) (o' := 2) (Zp (p := pt 1 2) (v := Iv s.head.size) ?_))))))))))))
  refine Z2 (e := [some (0, 0)]) (nid := 0) (Zv7 (G := G) kk hG hG1 l n c hn (by omega) (by omega) s.head.size) (vals := [slv 0 0 n c, Iv s.head.size]) (v := .tuple #[dgV ((Zab kk l s.head.size).1), Iv ((Zab kk l s.head.size).2)]) (H' := [rwR Zt l, bxB 69 (Zj s), Y7, hole, hole, hole, hole]) rfl rfl rfl rfl rfl rfl rfl ⟨⟨⟨rfl, rfl, rfl, by first | omega | exact Nat.le_refl _, by first | omega | exact Nat.le_refl _⟩, rfl, trivial⟩, ⟨(Zds rfl), trivial⟩, rfl, rfl, rfl⟩ (by kernel_rfl) (by kernel_rfl) ?_
  refine Zd (.tuple #[dgV ((Zab kk l s.head.size).1), Iv ((Zab kk l s.head.size).2)]) (Zw (vs := #[dgV ((Zab kk l s.head.size).1), Iv ((Zab kk l s.head.size).2)]) (v := dgV ((Zab kk l s.head.size).1)) (Zw (vs := #[dgV ((Zab kk l s.head.size).1), Iv ((Zab kk l s.head.size).2)]) (v := Iv ((Zab kk l s.head.size).2)) (Zam (b := dgB dz) (nid := 3) (H' := [rwR Zt l, bxB 69 (Zj s), Y7, dgB dz, hole, hole, hole]) (Z7 (p := pt 3 0) (v := dgV ((Zab kk l s.head.size).1)) (b := 3) (blk := dgB ((Zab kk l s.head.size).1)) (H' := [rwR Zt l, bxB 69 (Zj s), Y7, dgB ((Zab kk l s.head.size).1), hole, hole, hole]) (Zb (Iv ((Zab kk l s.head.size).2)) (Za (Zc (Zf (Zg (Zp (p := pt 1 0) (v := Zy s) ?_))))))))))
  refine Z2 (e := []) (nid := 4) (Znw (G := G) s) (vals := [Zy s]) (v := .tuple #[slv 4 0 ((Zaj s).1.length) ((Zaj s).1.length), Iv ((Zaj s).2)]) (H' := [rwR Zt l, bxB 69 (Zj s), Y7, dgB ((Zab kk l s.head.size).1), Zah ((Zaj s).1), hole, hole]) rfl rfl rfl rfl rfl rfl rfl ⟨⟨rfl, trivial⟩, trivial, rfl, rfl, rfl⟩ (by kernel_rfl) (by kernel_rfl) ?_
  refine Zd (.tuple #[slv 4 0 ((Zaj s).1.length) ((Zaj s).1.length), Iv ((Zaj s).2)]) (Zw (vs := #[slv 4 0 ((Zaj s).1.length) ((Zaj s).1.length), Iv ((Zaj s).2)]) (v := slv 4 0 ((Zaj s).1.length) ((Zaj s).1.length)) (Zw (vs := #[slv 4 0 ((Zaj s).1.length) ((Zaj s).1.length), Iv ((Zaj s).2)]) (v := Iv ((Zaj s).2)) (Zb (slv 4 0 ((Zaj s).1.length) ((Zaj s).1.length)) (Zb (Iv ((Zaj s).2)) (Za (Zc (Zf (Zf (Zg (Zd (Iv ((Zab kk l s.head.size).2)) ?_))))))))))
  by_cases h1 : ((Zab kk l s.head.size).2) ≠ 0
  refine Zl (vx := Iv ((Zab kk l s.head.size).2)) (vy := Iv 0) rfl rfl (.bool true) rfl rfl (Zea (by omega)) ?_
  refine Zd (.bool true) (Ze (Ze (Zi (.bool true) (Zd (.bool true) (Ze (Ze (Ze (Ze (Ze (Zi (.bool true) (Za (Zc (Zx rfl (Zf (Zg ?_)))))))))))))))
  refine Za5 (vs := []) (v := mxV ([Iv 0] ++ (Zs (⟨0, (⟨0, 0, 0, ⟨#[]⟩, (⟨(⟨0, 0, 0, dz, 0⟩ : Head), 0, dz⟩ : Signed), (⟨0, 0, 0, 0, dz⟩ : Claim)⟩ : Entry)⟩ : Item) ++ ([.slice none 0 0] ++ (Zj (⟨(⟨0, 0, 0, dz, 0⟩ : Head), 0, dz⟩ : Signed)))))) rfl rfl rfl (by kernel_rfl) ?_
  refine Z7 (p := pt 2 0) (v := mxV ([Iv 0] ++ (Zs (⟨0, (⟨0, 0, 0, ⟨#[]⟩, (⟨(⟨0, 0, 0, dz, 0⟩ : Head), 0, dz⟩ : Signed), (⟨0, 0, 0, 0, dz⟩ : Claim)⟩ : Entry)⟩ : Item) ++ ([.slice none 0 0] ++ (Zj (⟨(⟨0, 0, 0, dz, 0⟩ : Head), 0, dz⟩ : Signed)))))) (b := 2) (blk := mxB 181 ([Iv 0] ++ (Zs (⟨0, (⟨0, 0, 0, ⟨#[]⟩, (⟨(⟨0, 0, 0, dz, 0⟩ : Head), 0, dz⟩ : Signed), (⟨0, 0, 0, 0, dz⟩ : Claim)⟩ : Entry)⟩ : Item) ++ ([.slice none 0 0] ++ (Zj (⟨(⟨0, 0, 0, dz, 0⟩ : Head), 0, dz⟩ : Signed)))))) (H' := [rwR Zt l, bxB 69 (Zj s), Y7, dgB ((Zab kk l s.head.size).1), Zah ((Zaj s).1), hole, hole]) (Zb (Iv 130) (Za (Zc ?_)))
  refine Zbo (Zb6.nilCell (k := 2) (j := 111) (b := 5) true 32 rfl (by decide) rfl (by show 0 < 181; decide) rfl rfl) ?_
  refine Zq (Zz (Zr ?_))
  rw [show Zv kk l i s = ((⟨0, (⟨0, (⟨0, 0, 0, ⟨#[]⟩, (⟨(⟨0, 0, 0, dz, 0⟩ : Head), 0, dz⟩ : Signed), (⟨0, 0, 0, 0, dz⟩ : Claim)⟩ : Entry)⟩ : Item), [], (⟨(⟨0, 0, 0, dz, 0⟩ : Head), 0, dz⟩ : Signed)⟩ : PStep), 130) from by first | exact Zj3 (by first | exact .inl (by omega) | exact .inr (.inl (Zl0 (by omega))) | exact .inr (.inr (by assumption))) | exact Zkc (by omega) (Zjf (by omega)) (by assumption) (by omega)]
  exact Zav [0, 5] (v := .tuple #[mxV ([Iv 0] ++ (Zs (⟨0, (⟨0, 0, 0, ⟨#[]⟩, (⟨(⟨0, 0, 0, dz, 0⟩ : Head), 0, dz⟩ : Signed), (⟨0, 0, 0, 0, dz⟩ : Claim)⟩ : Entry)⟩ : Item) ++ ([slv 5 0 0 0] ++ (Zj (⟨(⟨0, 0, 0, dz, 0⟩ : Head), 0, dz⟩ : Signed))))), Iv 130]) rfl (by kernel_rfl) rfl rfl (by decide) (by simp [Za0, rwR, dsB, Zt]) ⟨(Ze7 (by kernel_rfl) (Zan ⟨⟨rfl, rfl⟩, trivial⟩ (Zan (Za6 (by kernel_rfl)) (Zan ⟨⟨rfl, rfl, rfl, by first | omega | exact Nat.le_refl _ | exact Nat.zero_le _ | (dsimp only; omega), by first | omega | exact Nat.le_refl _ | exact Nat.zero_le _ | (dsimp only; omega)⟩, trivial⟩ (Za6 (by kernel_rfl)))))), rfl, trivial⟩
  refine Zl (vx := Iv ((Zab kk l s.head.size).2)) (vy := Iv 0) rfl rfl (.bool false) rfl rfl (Zdz (by omega)) ?_
  refine Zd (.bool false) (Zd (Iv ((Zaj s).2)) ?_)
  by_cases h2 : ((Zaj s).2) ≠ 0
  refine Zl (vx := Iv ((Zaj s).2)) (vy := Iv 0) rfl rfl (.bool true) rfl rfl (Zea (by omega)) ?_
  refine Zi (.bool true) (Zd (.bool true) (Ze (Ze (Ze (Ze (Ze (Zi (.bool true) (Za (Zc (Zx rfl (Zf (Zg ?_))))))))))))
  refine Za5 (vs := []) (v := mxV ([Iv 0] ++ (Zs (⟨0, (⟨0, 0, 0, ⟨#[]⟩, (⟨(⟨0, 0, 0, dz, 0⟩ : Head), 0, dz⟩ : Signed), (⟨0, 0, 0, 0, dz⟩ : Claim)⟩ : Entry)⟩ : Item) ++ ([.slice none 0 0] ++ (Zj (⟨(⟨0, 0, 0, dz, 0⟩ : Head), 0, dz⟩ : Signed)))))) rfl rfl rfl (by kernel_rfl) ?_
  refine Z7 (p := pt 2 0) (v := mxV ([Iv 0] ++ (Zs (⟨0, (⟨0, 0, 0, ⟨#[]⟩, (⟨(⟨0, 0, 0, dz, 0⟩ : Head), 0, dz⟩ : Signed), (⟨0, 0, 0, 0, dz⟩ : Claim)⟩ : Entry)⟩ : Item) ++ ([.slice none 0 0] ++ (Zj (⟨(⟨0, 0, 0, dz, 0⟩ : Head), 0, dz⟩ : Signed)))))) (b := 2) (blk := mxB 181 ([Iv 0] ++ (Zs (⟨0, (⟨0, 0, 0, ⟨#[]⟩, (⟨(⟨0, 0, 0, dz, 0⟩ : Head), 0, dz⟩ : Signed), (⟨0, 0, 0, 0, dz⟩ : Claim)⟩ : Entry)⟩ : Item) ++ ([.slice none 0 0] ++ (Zj (⟨(⟨0, 0, 0, dz, 0⟩ : Head), 0, dz⟩ : Signed)))))) (H' := [rwR Zt l, bxB 69 (Zj s), Y7, dgB ((Zab kk l s.head.size).1), Zah ((Zaj s).1), hole, hole]) (Zb (Iv 130) (Za (Zc ?_)))
  refine Zbo (Zb6.nilCell (k := 2) (j := 111) (b := 5) true 32 rfl (by decide) rfl (by show 0 < 181; decide) rfl rfl) ?_
  refine Zq (Zz (Zr ?_))
  rw [show Zv kk l i s = ((⟨0, (⟨0, (⟨0, 0, 0, ⟨#[]⟩, (⟨(⟨0, 0, 0, dz, 0⟩ : Head), 0, dz⟩ : Signed), (⟨0, 0, 0, 0, dz⟩ : Claim)⟩ : Entry)⟩ : Item), [], (⟨(⟨0, 0, 0, dz, 0⟩ : Head), 0, dz⟩ : Signed)⟩ : PStep), 130) from by first | exact Zj3 (by first | exact .inl (by omega) | exact .inr (.inl (Zl0 (by omega))) | exact .inr (.inr (by assumption))) | exact Zkc (by omega) (Zjf (by omega)) (by assumption) (by omega)]
  exact Zav [0, 5] (v := .tuple #[mxV ([Iv 0] ++ (Zs (⟨0, (⟨0, 0, 0, ⟨#[]⟩, (⟨(⟨0, 0, 0, dz, 0⟩ : Head), 0, dz⟩ : Signed), (⟨0, 0, 0, 0, dz⟩ : Claim)⟩ : Entry)⟩ : Item) ++ ([slv 5 0 0 0] ++ (Zj (⟨(⟨0, 0, 0, dz, 0⟩ : Head), 0, dz⟩ : Signed))))), Iv 130]) rfl (by kernel_rfl) rfl rfl (by decide) (by simp [Za0, rwR, dsB, Zt]) ⟨(Ze7 (by kernel_rfl) (Zan ⟨⟨rfl, rfl⟩, trivial⟩ (Zan (Za6 (by kernel_rfl)) (Zan ⟨⟨rfl, rfl, rfl, by first | omega | exact Nat.le_refl _ | exact Nat.zero_le _ | (dsimp only; omega), by first | omega | exact Nat.le_refl _ | exact Nat.zero_le _ | (dsimp only; omega)⟩, trivial⟩ (Za6 (by kernel_rfl)))))), rfl, trivial⟩
  refine Zl (vx := Iv ((Zaj s).2)) (vy := Iv 0) rfl rfl (.bool false) rfl rfl (Zdz (by omega)) ?_
  refine Zi (.bool false) (Zd (.bool false) (Zp (p := pt 3 0) (v := dgV ((Zab kk l s.head.size).1)) (Zh (b := 1) (o := 0) (n := 0) (o' := 0) (Zh (b := 1) (o := 0) (n := 3) (o' := 3) (Zp (p := pt 1 3) (v := dgV s.head.root) ?_)))))
  rcases Bool.eq_false_or_eq_true (Zcv 32 ((Zab kk l s.head.size).1) s.head.root) with h3 | h3
  refine Zl (vx := dgV ((Zab kk l s.head.size).1)) (vy := dgV s.head.root) rfl rfl (.bool false) rfl rfl (Eq.trans (Zk1 (n := 32) (a := (Zab kk l s.head.size).1) (b := s.head.root) (by kernel_rfl) rfl rfl rfl) (by rw [h3] <;> rfl)) ?_
  refine Zi (.bool false) (Za (Zc (Zu rfl (Z0 (Zc (Zf (Zg (Zd (slv 0 0 n c) (Zh (b := 1) (o := 0) (n := 0) (o' := 0) (Zh (b := 1) (o := 0) (n := 2) (o' := 2) (Zp (p := pt 1 2) (v := Iv s.head.size) (Zd (Iv i) ?_))))))))))))
  have hpl3 := Zjk kk l s.head.size i
  refine Z2 (e := [some (0, 0)]) (nid := 5) (Z3j (G := G) kk hG hG1 l n c hn (by omega) (by omega) s.head.size i) (vals := [slv 0 0 n c, Iv s.head.size, Iv i]) (v := .tuple #[slv 5 0 ((Zaf kk l s.head.size i).1.length) ((Zaf kk l s.head.size i).1.length), Iv ((Zaf kk l s.head.size i).2)]) (H' := [rwR Zt l, bxB 69 (Zj s), Y7, dgB ((Zab kk l s.head.size).1), Zah ((Zaj s).1), dsB ((Zaf kk l s.head.size i).1), hole]) rfl rfl rfl rfl rfl rfl rfl ⟨⟨⟨rfl, rfl, rfl, by first | omega | exact Nat.le_refl _, by first | omega | exact Nat.le_refl _⟩, rfl, rfl, trivial⟩, ⟨(Zds rfl), trivial⟩, rfl, rfl, rfl⟩ (by kernel_rfl) (by kernel_rfl) ?_
  refine Zd (.tuple #[slv 5 0 ((Zaf kk l s.head.size i).1.length) ((Zaf kk l s.head.size i).1.length), Iv ((Zaf kk l s.head.size i).2)]) (Zw (vs := #[slv 5 0 ((Zaf kk l s.head.size i).1.length) ((Zaf kk l s.head.size i).1.length), Iv ((Zaf kk l s.head.size i).2)]) (v := slv 5 0 ((Zaf kk l s.head.size i).1.length) ((Zaf kk l s.head.size i).1.length)) (Zw (vs := #[slv 5 0 ((Zaf kk l s.head.size i).1.length) ((Zaf kk l s.head.size i).1.length), Iv ((Zaf kk l s.head.size i).2)]) (v := Iv ((Zaf kk l s.head.size i).2)) (Zb (slv 5 0 ((Zaf kk l s.head.size i).1.length) ((Zaf kk l s.head.size i).1.length)) (Zb (Iv ((Zaf kk l s.head.size i).2)) (Za (Zc (Zf (Zf (Zg (Zd (Iv ((Zaf kk l s.head.size i).2)) ?_))))))))))
  by_cases h4 : ((Zaf kk l s.head.size i).2) ≠ 0
  refine Zl (vx := Iv ((Zaf kk l s.head.size i).2)) (vy := Iv 0) rfl rfl (.bool true) rfl rfl (Zea (by omega)) ?_
  refine Za (Zc (Zx rfl (Zf (Zg ?_))))
  refine Za5 (vs := []) (v := mxV ([Iv 0] ++ (Zs (⟨0, (⟨0, 0, 0, ⟨#[]⟩, (⟨(⟨0, 0, 0, dz, 0⟩ : Head), 0, dz⟩ : Signed), (⟨0, 0, 0, 0, dz⟩ : Claim)⟩ : Entry)⟩ : Item) ++ ([.slice none 0 0] ++ (Zj (⟨(⟨0, 0, 0, dz, 0⟩ : Head), 0, dz⟩ : Signed)))))) rfl rfl rfl (by kernel_rfl) ?_
  refine Z7 (p := pt 2 0) (v := mxV ([Iv 0] ++ (Zs (⟨0, (⟨0, 0, 0, ⟨#[]⟩, (⟨(⟨0, 0, 0, dz, 0⟩ : Head), 0, dz⟩ : Signed), (⟨0, 0, 0, 0, dz⟩ : Claim)⟩ : Entry)⟩ : Item) ++ ([.slice none 0 0] ++ (Zj (⟨(⟨0, 0, 0, dz, 0⟩ : Head), 0, dz⟩ : Signed)))))) (b := 2) (blk := mxB 181 ([Iv 0] ++ (Zs (⟨0, (⟨0, 0, 0, ⟨#[]⟩, (⟨(⟨0, 0, 0, dz, 0⟩ : Head), 0, dz⟩ : Signed), (⟨0, 0, 0, 0, dz⟩ : Claim)⟩ : Entry)⟩ : Item) ++ ([.slice none 0 0] ++ (Zj (⟨(⟨0, 0, 0, dz, 0⟩ : Head), 0, dz⟩ : Signed)))))) (H' := [rwR Zt l, bxB 69 (Zj s), Y7, dgB ((Zab kk l s.head.size).1), Zah ((Zaj s).1), dsB ((Zaf kk l s.head.size i).1), hole]) (Zb (Iv 131) (Za (Zc ?_)))
  refine Zbo (Zb6.nilCell (k := 2) (j := 111) (b := 6) true 32 rfl (by decide) rfl (by show 0 < 181; decide) rfl rfl) ?_
  refine Zq (Zz (Zr ?_))
  rw [show Zv kk l i s = ((⟨0, (⟨0, (⟨0, 0, 0, ⟨#[]⟩, (⟨(⟨0, 0, 0, dz, 0⟩ : Head), 0, dz⟩ : Signed), (⟨0, 0, 0, 0, dz⟩ : Claim)⟩ : Entry)⟩ : Item), [], (⟨(⟨0, 0, 0, dz, 0⟩ : Head), 0, dz⟩ : Signed)⟩ : PStep), 131) from by first | exact Zj3 (by first | exact .inl (by omega) | exact .inr (.inl (Zl0 (by omega))) | exact .inr (.inr (by assumption))) | exact Zkc (by omega) (Zjf (by omega)) (by assumption) (by omega)]
  exact Zav [0, 6] (v := .tuple #[mxV ([Iv 0] ++ (Zs (⟨0, (⟨0, 0, 0, ⟨#[]⟩, (⟨(⟨0, 0, 0, dz, 0⟩ : Head), 0, dz⟩ : Signed), (⟨0, 0, 0, 0, dz⟩ : Claim)⟩ : Entry)⟩ : Item) ++ ([slv 6 0 0 0] ++ (Zj (⟨(⟨0, 0, 0, dz, 0⟩ : Head), 0, dz⟩ : Signed))))), Iv 131]) rfl (by kernel_rfl) rfl rfl (by decide) (by simp [Za0, rwR, dsB, Zt]) ⟨(Ze7 (by kernel_rfl) (Zan ⟨⟨rfl, rfl⟩, trivial⟩ (Zan (Za6 (by kernel_rfl)) (Zan ⟨⟨rfl, rfl, rfl, by first | omega | exact Nat.le_refl _ | exact Nat.zero_le _ | (dsimp only; omega), by first | omega | exact Nat.le_refl _ | exact Nat.zero_le _ | (dsimp only; omega)⟩, trivial⟩ (Za6 (by kernel_rfl)))))), rfl, trivial⟩
  refine Zl (vx := Iv ((Zaf kk l s.head.size i).2)) (vy := Iv 0) rfl rfl (.bool false) rfl rfl (Zdz (by omega)) ?_
  refine Za (Zc (Zu rfl (Z0 (Zc (Zf ?_)))))
  have hin := Z0v (by omega : (Zaf kk l s.head.size i).2 = 0)
  refine Zc1 (by kernel_rfl) ?_
  refine Zd (Iv i) (Zd (slv 0 0 n c) (Zd (Iv i) ?_))
  refine Zbe (b := 0) (o := 0) (j := i.toNat * 110) (m := n) (c := c) (sz := 110) (i := i) (k := .i64) rfl rfl rfl rfl rfl (by omega) (by omega) (by omega) ?_
  refine Zad (p := pt 0 (i.toNat * 110)) (v := Za9 (l.getD i.toNat default)) rfl rfl rfl (Zhf (n := 0) (m := 110) Zt rfl rfl rfl rfl (by have := hn; omega) (by omega)) ?_
  refine Zd (slv 5 0 ((Zaf kk l s.head.size i).1.length) ((Zaf kk l s.head.size i).1.length)) (Zp (p := pt 1 0) (v := Zy s) ?_)
  refine Za5 (vs := [(0, Iv i), (1, Za9 (l.getD i.toNat default)), (2, slv 5 0 ((Zaf kk l s.head.size i).1.length) ((Zaf kk l s.head.size i).1.length)), (3, Zy s)]) (v := mxV ([Iv i] ++ (Zs (l.getD i.toNat default) ++ ([slv 5 0 ((Zaf kk l s.head.size i).1.length) ((Zaf kk l s.head.size i).1.length)] ++ (Zj s))))) rfl rfl rfl (by kernel_rfl) ?_
  refine Z7 (p := pt 2 0) (v := mxV ([Iv i] ++ (Zs (l.getD i.toNat default) ++ ([slv 5 0 ((Zaf kk l s.head.size i).1.length) ((Zaf kk l s.head.size i).1.length)] ++ (Zj s))))) (b := 2) (blk := mxB 181 ([Iv i] ++ (Zs (l.getD i.toNat default) ++ ([slv 5 0 ((Zaf kk l s.head.size i).1.length) ((Zaf kk l s.head.size i).1.length)] ++ (Zj s))))) (H' := [rwR Zt l, bxB 69 (Zj s), mxB 181 ([Iv i] ++ (Zs (l.getD i.toNat default) ++ ([slv 5 0 ((Zaf kk l s.head.size i).1.length) ((Zaf kk l s.head.size i).1.length)] ++ (Zj s)))), dgB ((Zab kk l s.head.size).1), Zah ((Zaj s).1), dsB ((Zaf kk l s.head.size i).1), hole]) (Zb (Iv 0) ?_)
  refine Zb3 (Zgj [[], [], [], [1, 2], [1, 2, 3], [], [], [0, 1, 2, 3, 4, 5, 6], [0, 1, 2, 3, 4, 5, 6, 7], [0, 1, 2, 3, 4, 5, 6, 7, 8]] (by kernel_rfl) (by kernel_rfl)) ?_
  refine Zc (Zq (Zr ?_))
  rw [show Zv kk l i s = ((⟨i, l.getD i.toNat default, (Zaf kk l s.head.size i).1, s⟩ : PStep), 0) from Zy9 (by omega) (Zjf (by omega)) (by assumption) (by omega)]
  exact Zav [0, 5] (v := .tuple #[mxV ([Iv i] ++ (Zs (l.getD i.toNat default) ++ ([slv 5 0 ((Zaf kk l s.head.size i).1.length) ((Zaf kk l s.head.size i).1.length)] ++ (Zj s)))), Iv 0]) rfl (by kernel_rfl) rfl rfl (by decide) (by simp [Za0, rwR, dsB, Zt]) ⟨(Ze7 (by kernel_rfl) (Zan ⟨⟨rfl, rfl⟩, trivial⟩ (Zan (Za6 (by kernel_rfl)) (Zan ⟨⟨rfl, rfl, rfl, by first | omega | exact Nat.le_refl _ | exact Nat.zero_le _ | (dsimp only; omega), by first | omega | exact Nat.le_refl _ | exact Nat.zero_le _ | (dsimp only; omega)⟩, trivial⟩ (Za6 (by kernel_rfl)))))), rfl, trivial⟩
  refine Zl (vx := dgV ((Zab kk l s.head.size).1)) (vy := dgV s.head.root) rfl rfl (.bool true) rfl rfl (Eq.trans (Zk1 (n := 32) (a := (Zab kk l s.head.size).1) (b := s.head.root) (by kernel_rfl) rfl rfl rfl) (by rw [h3] <;> rfl)) ?_
  refine Zi (.bool true) (Za (Zc (Zx rfl (Zf (Zg ?_)))))
  refine Za5 (vs := []) (v := mxV ([Iv 0] ++ (Zs (⟨0, (⟨0, 0, 0, ⟨#[]⟩, (⟨(⟨0, 0, 0, dz, 0⟩ : Head), 0, dz⟩ : Signed), (⟨0, 0, 0, 0, dz⟩ : Claim)⟩ : Entry)⟩ : Item) ++ ([.slice none 0 0] ++ (Zj (⟨(⟨0, 0, 0, dz, 0⟩ : Head), 0, dz⟩ : Signed)))))) rfl rfl rfl (by kernel_rfl) ?_
  refine Z7 (p := pt 2 0) (v := mxV ([Iv 0] ++ (Zs (⟨0, (⟨0, 0, 0, ⟨#[]⟩, (⟨(⟨0, 0, 0, dz, 0⟩ : Head), 0, dz⟩ : Signed), (⟨0, 0, 0, 0, dz⟩ : Claim)⟩ : Entry)⟩ : Item) ++ ([.slice none 0 0] ++ (Zj (⟨(⟨0, 0, 0, dz, 0⟩ : Head), 0, dz⟩ : Signed)))))) (b := 2) (blk := mxB 181 ([Iv 0] ++ (Zs (⟨0, (⟨0, 0, 0, ⟨#[]⟩, (⟨(⟨0, 0, 0, dz, 0⟩ : Head), 0, dz⟩ : Signed), (⟨0, 0, 0, 0, dz⟩ : Claim)⟩ : Entry)⟩ : Item) ++ ([.slice none 0 0] ++ (Zj (⟨(⟨0, 0, 0, dz, 0⟩ : Head), 0, dz⟩ : Signed)))))) (H' := [rwR Zt l, bxB 69 (Zj s), Y7, dgB ((Zab kk l s.head.size).1), Zah ((Zaj s).1), hole, hole]) (Zb (Iv 130) (Za (Zc ?_)))
  refine Zbo (Zb6.nilCell (k := 2) (j := 111) (b := 5) true 32 rfl (by decide) rfl (by show 0 < 181; decide) rfl rfl) ?_
  refine Zq (Zz (Zr ?_))
  rw [show Zv kk l i s = ((⟨0, (⟨0, (⟨0, 0, 0, ⟨#[]⟩, (⟨(⟨0, 0, 0, dz, 0⟩ : Head), 0, dz⟩ : Signed), (⟨0, 0, 0, 0, dz⟩ : Claim)⟩ : Entry)⟩ : Item), [], (⟨(⟨0, 0, 0, dz, 0⟩ : Head), 0, dz⟩ : Signed)⟩ : PStep), 130) from by first | exact Zj3 (by first | exact .inl (by omega) | exact .inr (.inl (Zl0 (by omega))) | exact .inr (.inr (by assumption))) | exact Zkc (by omega) (Zjf (by omega)) (by assumption) (by omega)]
  exact Zav [0, 5] (v := .tuple #[mxV ([Iv 0] ++ (Zs (⟨0, (⟨0, 0, 0, ⟨#[]⟩, (⟨(⟨0, 0, 0, dz, 0⟩ : Head), 0, dz⟩ : Signed), (⟨0, 0, 0, 0, dz⟩ : Claim)⟩ : Entry)⟩ : Item) ++ ([slv 5 0 0 0] ++ (Zj (⟨(⟨0, 0, 0, dz, 0⟩ : Head), 0, dz⟩ : Signed))))), Iv 130]) rfl (by kernel_rfl) rfl rfl (by decide) (by simp [Za0, rwR, dsB, Zt]) ⟨(Ze7 (by kernel_rfl) (Zan ⟨⟨rfl, rfl⟩, trivial⟩ (Zan (Za6 (by kernel_rfl)) (Zan ⟨⟨rfl, rfl, rfl, by first | omega | exact Nat.le_refl _ | exact Nat.zero_le _ | (dsimp only; omega), by first | omega | exact Nat.le_refl _ | exact Nat.zero_le _ | (dsimp only; omega)⟩, trivial⟩ (Za6 (by kernel_rfl)))))), rfl, trivial⟩
abbrev Y8 (x : PStep) (n : Nat) (c : Nat) : Blk := mxB 181 ([Iv x.index] ++ (Zs x.item ++ ([slv 0 0 n c] ++ (Zj x.head))))
theorem Zqy (kk : Nat → BitVec 32) (hG : G 3 = some (Zag w32 64 kk)) (master : D) (x : PStep) (n c : Nat) (hn : x.proof.length = n) (hc : n ≤ c) (hb : n ≤ 1000) (hx : (-9223372036854775808 ≤ x.index ∧ x.index ≤ 9223372036854775807) ∧ -9223372036854775808 ≤ x.head.head.size ∧ x.head.head.size ≤ 9223372036854775807) : Z6 Tryz.prog G 28 [dgV master, mxV ([Iv x.index] ++ (Zs x.item ++ ([slv 0 0 n c] ++ (Zj x.head))))] [dsR x.proof] (Iv (Zar kk master x)) [dsR x.proof] := by
  refine Za8 (fn := Tryz.f28) (nt := 43) rfl rfl rfl rfl ?_
  refine Zaa 3 (H' := [dsR x.proof, hole, hole, hole]) rfl ?_
  refine Zf (Zg (Zbq (v := dgV master) (b := dgB master) (nid := 1) (H' := [dsR x.proof, dgB master, hole, hole]) (Zbq (v := mxV ([Iv x.index] ++ (Zs x.item ++ ([slv 0 0 n c] ++ (Zj x.head))))) (b := mxB 181 ([Iv x.index] ++ (Zs x.item ++ ([slv 0 0 n c] ++ (Zj x.head))))) (nid := 2) (H' := [dsR x.proof, dgB master, Y8 x n c, hole]) (Zb (Iv 0) (Za (Zc (Zf (Zg (Zp (p := pt 1 0) (v := dgV master) (Zh (b := 2) (o := 0) (n := 112) (o' := 112) (Zp (p := pt 2 112) (v := Zy x.head) ?_)))))))))))
  refine Zo (Zx1 (G := G) kk hG master x.head) (vals := [dgV master, Zy x.head]) (res' := Iv (Zda kk master x.head)) rfl rfl rfl rfl rfl rfl ?_
  refine Zb (Iv (Zda kk master x.head)) (Za (Zc (Zf (Zg (Zh (b := 2) (o := 0) (n := 1) (o' := 1) (Zp (p := pt 2 1) (v := Za9 x.item) ?_))))))
  refine Zo (Z0m (G := G) kk hG x.item) (vals := [Za9 x.item]) (res' := .tuple #[dgV ((Zat kk x.item).1), Iv ((Zat kk x.item).2)]) rfl rfl rfl rfl rfl (by kernel_rfl) ?_
  refine Zd (.tuple #[dgV ((Zat kk x.item).1), Iv ((Zat kk x.item).2)]) (Zw (vs := #[dgV ((Zat kk x.item).1), Iv ((Zat kk x.item).2)]) (v := dgV ((Zat kk x.item).1)) (Zw (vs := #[dgV ((Zat kk x.item).1), Iv ((Zat kk x.item).2)]) (v := Iv ((Zat kk x.item).2)) (Zam (b := dgB dz) (nid := 3) (H' := [dsR x.proof, dgB master, Y8 x n c, dgB dz]) (Z7 (p := pt 3 0) (v := dgV ((Zat kk x.item).1)) (b := 3) (blk := dgB ((Zat kk x.item).1)) (H' := [dsR x.proof, dgB master, Y8 x n c, dgB ((Zat kk x.item).1)]) (Zb (Iv ((Zat kk x.item).2)) (Za (Zc (Zf (Z1 (Zf (Z1 (Zf (Z1 (Zf (Zf (Zf (Zg (Zd (Iv (Zda kk master x.head)) ?_))))))))))))))))))
  by_cases h1 : (Zda kk master x.head) = 0
  refine Zl (vx := Iv (Zda kk master x.head)) (vy := Iv 0) rfl rfl (.bool true) rfl rfl (Zdn (by omega)) ?_
  refine Zd (.bool true) (Zd (Iv ((Zat kk x.item).2)) ?_)
  by_cases h2 : ((Zat kk x.item).2) ≠ 0
  refine Zl (vx := Iv ((Zat kk x.item).2)) (vy := Iv 0) rfl rfl (.bool true) rfl rfl (Zea (by omega)) ?_
  refine Zi (.bool true) (Zb (.bool true) (Za (Zc (Zx rfl (Zbb (Zaq (Zaq (Zax rfl (Zc (Zg (Zb (Iv 130) (Za (Z4 (Zc (Zf (Zf (Zg (Zd (Iv 130) (Zb (Iv 130) (Za (Zc (Zq (Zz (Za4 (Zz (Zr ?_))))))))))))))))))))))))))
  rw [show Zar kk master x = 130 from Z61 (by omega) (by omega)]
  exact Zk (v := Iv 130) rfl rfl rfl (by kernel_rfl) rfl
  refine Zl (vx := Iv ((Zat kk x.item).2)) (vy := Iv 0) rfl rfl (.bool false) rfl rfl (Zdz (by omega)) ?_
  refine Zi (.bool false) (Zb (.bool false) (Za (Zc (Zu rfl (Z0 (Zc (Zf (Zg (Zd (Iv (Zda kk master x.head)) ?_)))))))))
  refine Zl (vx := Iv (Zda kk master x.head)) (vy := Iv 0) rfl rfl (.bool false) rfl rfl (Zdz (by omega)) ?_
  refine Zb (.bool false) (Za (Zc (Zu rfl (Z0 (Zc (Zbb (Zju rfl (Zaq (Zju rfl (Zaq (Zax rfl (Zc (Zf (Zg (Zh (b := 2) (o := 0) (n := 112) (o' := 112) (Zh (b := 2) (o := 112) (n := 0) (o' := 112) (Zh (b := 2) (o := 112) (n := 3) (o' := 115) (Zp (p := pt 2 115) (v := dgV x.head.head.root) (Zh (b := 2) (o := 0) (n := 112) (o' := 112) (Zh (b := 2) (o := 112) (n := 0) (o' := 112) (Zh (b := 2) (o := 112) (n := 2) (o' := 114) (Zp (p := pt 2 114) (v := Iv x.head.head.size) (Zh (b := 2) (o := 0) (n := 0) (o' := 0) (Zp (p := pt 2 0) (v := Iv x.index) ?_))))))))))))))))))))))))
  refine Zp (p := pt 3 0) (v := dgV ((Zat kk x.item).1)) (Zh (b := 2) (o := 0) (n := 111) (o' := 111) (Zp (p := pt 2 111) (v := slv 0 0 n c) ?_))
  refine Z2 (e := [some (0, 0)]) (nid := 0) (Zvz (G := G) kk hG x.head.head.root ((Zat kk x.item).1) x.head.head.size x.index x.proof n c hn (by omega) (by omega) (by omega) (by omega) (by omega) (by omega)) (vals := [dgV x.head.head.root, Iv x.head.head.size, Iv x.index, dgV ((Zat kk x.item).1), slv 0 0 n c]) (v := Iv (Zig kk x.head.head.root ((Zat kk x.item).1) x.head.head.size x.index x.proof)) (H' := [dsR x.proof, dgB master, Y8 x n c, dgB ((Zat kk x.item).1)]) rfl rfl rfl rfl rfl rfl rfl ⟨⟨rfl, rfl, rfl, rfl, ⟨rfl, rfl, rfl, by first | omega | exact Nat.le_refl _, by first | omega | exact Nat.le_refl _⟩, trivial⟩, ⟨(Zhg rfl), trivial⟩, rfl, rfl, rfl⟩ rfl (by kernel_rfl) ?_
  refine Zb (Iv (Zig kk x.head.head.root ((Zat kk x.item).1) x.head.head.size x.index x.proof)) (Za (Zc (Zq (Zr ?_))))
  rw [show Zar kk master x = (Zig kk x.head.head.root ((Zat kk x.item).1) x.head.head.size x.index x.proof) from Zzc (by omega) (by omega)]
  exact Zk (v := Iv (Zig kk x.head.head.root ((Zat kk x.item).1) x.head.head.size x.index x.proof)) rfl rfl rfl (by kernel_rfl) rfl
  refine Zl (vx := Iv (Zda kk master x.head)) (vy := Iv 0) rfl rfl (.bool false) rfl rfl (Zer (by omega)) ?_
  refine Zd (.bool false) (Ze (Ze (Zi (.bool false) (Zb (.bool false) (Za (Zc (Zu rfl (Z0 (Zc (Zf (Zg (Zd (Iv (Zda kk master x.head)) ?_))))))))))))
  refine Zl (vx := Iv (Zda kk master x.head)) (vy := Iv 0) rfl rfl (.bool true) rfl rfl (Zea (by omega)) ?_
  refine Zb (.bool true) (Za (Zc (Zx rfl (Zbb (Zaq (Zju rfl (Zaq (Zax rfl (Zc (Zf (Zf (Zg (Zd (Iv (Zda kk master x.head)) (Zb (Iv (Zda kk master x.head)) (Za (Zc (Zq (Zz (Za4 (Zz (Zr ?_)))))))))))))))))))))
  rw [show Zar kk master x = Zda kk master x.head from Z6c (by omega)]
  exact Zk (v := Iv (Zda kk master x.head)) rfl rfl rfl (by kernel_rfl) rfl
end Go.Flat
