/- Walks. -/
import Derived.Test.YtfjkagjbanhdlaaDoorFlatG
import Derived.ScopeJumps
import Derived.Lib.SliceRun
import Derived.Test.YtfjkagjbanhdlaaDoorK2
import Derived.Test.YtfjkagjbanhdlaaDoorH10
set_option linter.unusedVariables false
set_option linter.unusedSimpArgs false
set_option maxRecDepth 20000
section
/- Structs that hold slices: their values, boxes, arguments. -/
namespace Go.Flat
abbrev mxV (l : List Value) : Value := .agg l.toArray
def mxB (n : Nat) (l : List Value) : Blk := { cells := l, sz := n, wr := true, fix := true, mv := false, pur := false }
theorem Zav {e : Emb} : ∀ {a a' b b' : List Value}, Zoe e a a' → Zoe e b b' → Zoe e (a ++ b) (a' ++ b')
 | [], [], _, _, _, h => h
 | _ :: _, _ :: _, _, _, h1, h => ⟨h1.1, Zav h1.2 h⟩
 | [], _ :: _, _, _, h1, _ => h1.elim
 | _ :: _, [], _, _, h1, _ => h1.elim
theorem Zy8 {e : Emb} {v : Value} (h : Zbj v = true) : Zv8 e v v := by
  cases v
  case slice a n c => rcases a with _ | ⟨b, o, q⟩
                      · exact ⟨rfl, rfl⟩
                      · cases h
  case pointer a => rcases a with _ | ⟨b, o, q⟩
                    · exact ⟨rfl, rfl⟩
                    · cases h
  all_goals first | exact ⟨rfl, rfl⟩ | (cases h)
theorem Zbk {e : Emb} : ∀ {a : List Value}, a.all Zbj = true → Zoe e a a
 | [], _ => trivial
 | x :: l, h => by
  rw [List.all_cons, Bool.and_eq_true] at h
  exact ⟨Zy8 h.1, Zbk h.2⟩
theorem Zgf {e : Emb} {a b : List Value} (hp : Zbl (mxV a) = false) (h : Zoe e a b) : Zjx e (mxV a) (mxV b) := by
 unfold Zjx
 rw [if_neg (by rw [hp]; decide)]
 exact h
open Go.ChangeShapes Go.WideShapes Go.RowKit
section
variable {H : Type} {enc : TypeId × Value → H} {P : Program} {W : World} {α : Type} {c : Cod α} {ok : α → Prop}
theorem Zzv {t te : TypeId} (ho : Zax P te c.enc ok) (ht : P.underlying t = some (.slice te)) (hce : P.cellsOf te = c.n)
    {fuel : Nat} {cs : List Value} {x : DataW H × List MemPlace} (hf : DataW.trod enc P W 0 (fun _ => true) true fuel t cs = some x) :
    ∃ (v : Value) (xs : List α) (cap : Nat) (r : Reg), cs = [v] ∧ xs.length ≤ cap ∧ cap ≤ maxLen ∧ r.wr = false ∧ r.fix = false ∧ r.len = xs.length * c.n ∧ r.sz = c.n ∧ r.mv = true ∧ (∀ x, x ∈ xs → ok x) ∧ (∀ k v, (c.row xs)[k]? = some v → W.cell? ⟨r.g, r.lo + k, none⟩ = some v) ∧ ∀ (m : MapM) (b : Nat), m b = some r → VR m (slv b 0 xs.length cap) v := by
  have hn := c.pos
  rcases DataW.trod_slice ht hf with ⟨hcs, _⟩ | ⟨a, len, cap, elems, rest, k, _, hcs, _, _, hl, hmx, hlen, hel, hsp, _⟩
  · subst hcs
    refine ⟨.slice none 0 0, [], 0, ⟨0, 0, 0, 0, c.n, false, false, true⟩, rfl, Nat.le_refl _, Nat.zero_le _, rfl, rfl, by simp, rfl, rfl, fun x hx => by simp at hx, fun k v hk => by simp [Cod.row] at hk, fun m b hb => ?_⟩
    exact ⟨_, none, 0, hb, rfl, Nat.le_refl _, Nat.le_refl _, fun h => by omega⟩
  · subst hcs
    obtain ⟨xs, hxl, hxs⟩ := Zs1 (Q := fun i y => (∀ j, j < c.n → W.cell? ((a.add (i * c.n)).add j) = (c.enc y)[j]?) ∧ ok y) len fun i hi => by
      have e := hel i hi
      rw [hce, List.getElem?_eq_getElem (by omega)] at e
      exact Zrr ho e
    have hcell : ∀ k v, (c.row xs)[k]? = some v → W.cell? ⟨a.block, a.off + k, none⟩ = some v := by
      intro k v hk
      obtain ⟨y, h1, h2⟩ := c.row_get xs k v hk
      have h3 := (hxs _ _ h1).1 (k % c.n) (Nat.mod_lt _ hn)
      rw [h2, Zow, Nat.mul_comm, Nat.div_add_mod] at h3
      exact Ztt h3
    have hspot : 0 < cap → a.spot = none := by
      intro hc
      have key : ∀ {fuel : Nat} {x : DataW H × List MemPlace}, (W.cells? 0 (a.add (0 * c.n)) c.n).bind (DataW.trod enc P W 0 (fun _ => true) true fuel te) = some x → a.spot = none := by
        intro fuel x h
        obtain ⟨y, h1, _⟩ := Zrr ho h
        have h2 := h1 0 hn
        rw [Zow, Nat.zero_mul, List.getElem?_eq_getElem (by rw [c.len]; exact hn)] at h2
        exact Zpi h2
      rcases Nat.eq_zero_or_pos len with h0 | h0
      · subst h0
        obtain ⟨s1, s2⟩ := hsp rfl
        have e := s2 0 (by omega)
        rw [hce, List.getElem?_eq_getElem (by omega)] at e
        exact key e
      · have e := hel 0 h0
        rw [hce, List.getElem?_eq_getElem (by omega)] at e
        exact key e
    refine ⟨.slice (some a) len cap, xs, cap, ⟨a.block, a.off, a.off + cap * c.n, xs.length * c.n, c.n, false, false, true⟩, rfl, by omega, hmx, rfl, rfl, rfl, rfl, rfl, ?_, hcell, fun m b hb => ?_⟩
    · intro x hx
      obtain ⟨i, hi⟩ := List.getElem?_of_mem hx
      exact (hxs i x hi).2
    · rw [hxl]
      refine ⟨_, some a, cap, hb, rfl, hl, Nat.le_refl _, fun hc => ⟨?_, fun _ => ?_, fun h _ _ => by cases h⟩⟩
      · have := hspot hc
        obtain ⟨g, o, s⟩ := a
        simp only at this
        subst this
        rfl
      · show a.off + 0 + cap * c.n ≤ a.off + cap * c.n
        omega
end
theorem L2.pure {m : MapM} {a : List Value} (h : a.all Zbj = true) : L2 (CR m) a a :=
 ⟨rfl, fun i x y hx hy => by
  rw [hx] at hy; injection hy with hy; subst hy
  exact CR.of_pure (List.all_eq_true.1 h x (List.mem_of_getElem? hx))⟩
theorem L2.cell {m : MapM} {b o n k : Nat} {v : Value} (h : VR m (slv b o n k) v) : L2 (CR m) [slv b o n k] [v] := L2.cons h L2.nil
end Go.Flat
end
section
/- A scope in which the run jumps ahead to one label. -/
namespace Go.Flat
variable {P : Program} {G : Glob} {nt n0 : Nat} {Q : Exit → St → Prop} {s : St} {x : Code}
def Zyr (Q : Exit → St → Prop) : Exit → St → Prop
  | .goto _, _ => False
  | e, s => Q e s
def Z2x (P : Program) (G : Glob) (nt n0 l : Nat) (rest : Code) (Q : Exit → St → Prop) : Exit → St → Prop
  | .goto l', s => l' = l ∧ C P G nt n0 rest (Zyr Q) s
  | e, s => Q e s
theorem Zoz {l : Nat} {rest : Code} (hf : findLabel x l = some rest) (h : C P G nt n0 x (Z2x P G nt n0 l rest Q) s) : C P G nt n0 (.scope x) Q s := by
 refine ⟨fun E m a w h0 hr => ?_⟩
 refine wp_scope_jumps l (fun a w => ∃ s m, C P G nt n0 rest (Zyr Q) s ∧ SRel G nt E m s a w) (fun _ _ => 0) hf (wp_mono (h.h E m a w h0 hr) ?_) ?_
 ·rintro e a' w' ⟨s', m', h1, h2⟩
  cases e with
  | goto l' => exact ⟨h1.1, s', m', h1.2, h2⟩
  | _ => exact ⟨s', m', h1, h2⟩
 ·rintro a w ⟨s', m', h1, h2⟩
  refine wp_mono (h1.h E m' a w h0 h2) ?_
  rintro e a' w' ⟨s2, m2, h3, h4⟩
  cases e with
  | goto l' => exact h3.elim
  | _ => exact ⟨s2, m2, h3, h4⟩
theorem Zgw {l : Nat} {rest : Code} (h : X Q .ret s) : X (Z2x P G nt n0 l rest Q) .ret s := ⟨h.h⟩
end Go.Flat
end
section
/- Is a slice nil? A split that the code itself makes; parts of own rows that are appended to. -/
namespace Go.Flat
variable {P : Program} {G : Glob} {nt n0 : Nat} {Q : Exit → St → Prop}
def lit0D (P : Program) (σ : List Blk) (t : TypeId) (nid : Nat) : Option (Value × Blk) :=
  match Zdf P t with
  | some (sz, _, _) => if 0 < sz ∧ Zc5 σ nid = true then some (.slice (some ⟨nid, 0, none⟩) 0 0, Zde true false sz []) else none
  | none => none
section
variable {ops l : List Oper} {K : Trace → St → Prop} {tr : Trace} {T : Nat → Value} {H H' : List Blk} {d : Tmp} {ty : TypeId} {ps : String} {af : Array Edge} {g : Option (Nat × Bool)}
end
end Go.Flat
end
section
/- Loops of few rounds, round by round; rows of structs that hold slices. -/
namespace Go.Flat
variable {P : Program} {G : Glob} {nt n0 : Nat} {Q : Exit → St → Prop}
def UL (P : Program) (G : Glob) (nt n0 : Nat) (y : Code) (Q : Exit → St → Prop) : Nat → St → Prop
  | 0, _ => False
  | k + 1, s => C P G nt n0 y (Zea (UL P G nt n0 y Q k) Q) s
theorem Zid {y : Code} {k : Nat} {s : St} (h : C P G nt n0 y (Zea (UL P G nt n0 y Q k) Q) s) : UL P G nt n0 y Q (k + 1) s := h
theorem Znj {next : St → Prop} {s : St} (h : next s) : X (Zea next Q) .normal s := Zas h
theorem Zyq {p : Nat → Prop} (h : ∃ n, p n) : ∃ n, p n ∧ ∀ m, p m → n ≤ m := by
  obtain ⟨n, hn⟩ := h
  induction n using Nat.strongRecOn with
  | _ n ih =>
    by_cases hx : ∃ m, m < n ∧ p m
    · obtain ⟨m, h1, h2⟩ := hx; exact ih m h1 h2
    · exact ⟨n, hn, fun m hm => by rcases Nat.lt_or_ge m n with h | h; exact absurd ⟨m, h, hm⟩ hx; exact h⟩
theorem Zpg {y : Code} {s : St} (k : Nat) (h : UL P G nt n0 y Q k s) : C P G nt n0 (.loop y) Q s := by
 classical
 refine ⟨fun E m a w h0 hr => ?_⟩
 let ok : Act → World → Nat → Prop := fun a w j => ∃ s m, UL P G nt n0 y Q j s ∧ SRel G nt E m s a w
 refine wp_loop (fun a w => ∃ j, ok a w j) (fun a w => if hx : ∃ j, ok a w j then Classical.choose (Zyq hx) else 0) ⟨k, s, m, h, hr⟩ ?_
 intro a w hI
 have hsp := Classical.choose_spec (Zyq hI)
 generalize hk : Classical.choose (Zyq hI) = j at hsp
 obtain ⟨⟨s1, m1, h1, hr1⟩, hmin⟩ := hsp
 cases j with
 | zero => exact h1.elim
 | succ j =>
  refine wp_mono (C.h (show C P G nt n0 y (Zea (UL P G nt n0 y Q j) Q) s1 from h1) E m1 a w h0 hr1) ?_
  rintro e a' w' ⟨s2, m2, h2, hr2⟩
  cases e with
  | normal =>
   have hI' : ∃ j, ok a' w' j := ⟨j, s2, m2, h2, hr2⟩
   refine ⟨hI', ?_⟩
   simp only [dif_pos hI, dif_pos hI', hk]
   exact Nat.lt_succ_of_le ((Classical.choose_spec (Zyq hI')).2 j ⟨s2, m2, h2, hr2⟩)
  | _ => exact ⟨s2, m2, h2, hr2⟩
def mxW (n : Nat) (l : List Value) : Blk := { cells := l, sz := n, wr := true, fix := false, mv := true, pur := false }
def mxR (n : Nat) (l : List Value) : Blk := { cells := l, sz := n, wr := false, fix := false, mv := true, pur := false }
theorem Zsj {P : Program} {G : Glob} {nt n0 : Nat} {Q : Exit → St → Prop} {x : Code} {T : Nat → Value} {H H' : List Blk} (hH : H = H') (h : C P G nt n0 x Q ⟨T, H'⟩) : C P G nt n0 x Q ⟨T, H⟩ := hH ▸ h
end Go.Flat
end
section
/- A walk's state with its blocks named anew: some dropped, some at other places. -/
namespace Go.Flat
def Z60 (e : Emb) (T : Nat → Value) : Nat → List Value → Prop
  | _, [] => True
  | i, v :: l => (v = dead ∨ Zjx e v (T i)) ∧ Z60 e T (i + 1) l
end Go.Flat
end
namespace Go.Flat
open Go.Proofs
variable {G : Glob}
theorem Zmk (kk : Nat → BitVec 32) (l : List Item) (k i : Int) : (Zah kk l k i).1.length ≤ 1000 := by
 unfold Zah
 split
 ·split
  ·have := Zj8 kk 11 (Zae kk l k).1 i.toNat (Nat.le_trans (Zpr kk l k) (by decide))
   show (Zdc kk (Zae kk l k).1 i.toNat).length ≤ 1000
   omega
  ·exact Nat.zero_le _
 ·exact Nat.zero_le _
structure PStep where
  index : Int
  item : Item
  proof : List D
  head : Signed
def Zew (kk : Nat → BitVec 32) (l : List Item) (i : Int) (s : Signed) : PStep × Int :=
  if (Zac kk l s.head.size).2 = 0 ∧ Zkd s ∧ Zcg 32 (Zac kk l s.head.size).1 s.head.root = true then
    (if (Zah kk l s.head.size i).2 = 0 then (⟨i, l.getD i.toNat default, (Zah kk l s.head.size i).1, s⟩, 0) else ((⟨0, (⟨0, (⟨0, 0, 0, ⟨#[]⟩, (⟨(⟨0, 0, 0, dz, 0⟩ : Head), 0, dz⟩ : Signed), (⟨0, 0, 0, 0, dz⟩ : Claim)⟩ : Entry)⟩ : Item), [], (⟨(⟨0, 0, 0, dz, 0⟩ : Head), 0, dz⟩ : Signed)⟩ : PStep), 131)) else ((⟨0, (⟨0, (⟨0, 0, 0, ⟨#[]⟩, (⟨(⟨0, 0, 0, dz, 0⟩ : Head), 0, dz⟩ : Signed), (⟨0, 0, 0, 0, dz⟩ : Claim)⟩ : Entry)⟩ : Item), [], (⟨(⟨0, 0, 0, dz, 0⟩ : Head), 0, dz⟩ : Signed)⟩ : PStep), 130)
theorem Zi0 {s : Signed} (h : (Zaf s).2 = 0) : Zkd s := by
 by_cases q : Zkd s
 ·exact q
 ·rw [Zru q] at h; exact absurd h (by decide)
theorem Zk6 {s : Signed} (h : ¬ (Zaf s).2 = 0) : ¬ Zkd s := fun q => h (by rw [Zrv q])
section
variable {kk : Nat → BitVec 32} {l : List Item} {i : Int} {s : Signed}
theorem Z18 (h1 : (Zac kk l s.head.size).2 = 0) (h2 : Zkd s) (h3 : Zcg 32 (Zac kk l s.head.size).1 s.head.root = true) (h4 : (Zah kk l s.head.size i).2 = 0) : Zew kk l i s = (⟨i, l.getD i.toNat default, (Zah kk l s.head.size i).1, s⟩, 0) := by
 unfold Zew; rw [if_pos ⟨h1, h2, h3⟩, if_pos h4]
theorem Zp5 (h1 : (Zac kk l s.head.size).2 = 0) (h2 : Zkd s) (h3 : Zcg 32 (Zac kk l s.head.size).1 s.head.root = true) (h4 : ¬ (Zah kk l s.head.size i).2 = 0) : Zew kk l i s = ((⟨0, (⟨0, (⟨0, 0, 0, ⟨#[]⟩, (⟨(⟨0, 0, 0, dz, 0⟩ : Head), 0, dz⟩ : Signed), (⟨0, 0, 0, 0, dz⟩ : Claim)⟩ : Entry)⟩ : Item), [], (⟨(⟨0, 0, 0, dz, 0⟩ : Head), 0, dz⟩ : Signed)⟩ : PStep), 131) := by
 unfold Zew; rw [if_pos ⟨h1, h2, h3⟩, if_neg h4]
theorem Zp4 (h : ¬ (Zac kk l s.head.size).2 = 0 ∨ ¬ Zkd s ∨ Zcg 32 (Zac kk l s.head.size).1 s.head.root = false) : Zew kk l i s = ((⟨0, (⟨0, (⟨0, 0, 0, ⟨#[]⟩, (⟨(⟨0, 0, 0, dz, 0⟩ : Head), 0, dz⟩ : Signed), (⟨0, 0, 0, 0, dz⟩ : Claim)⟩ : Entry)⟩ : Item), [], (⟨(⟨0, 0, 0, dz, 0⟩ : Head), 0, dz⟩ : Signed)⟩ : PStep), 130) := by
  unfold Zew; rw [if_neg (fun q => by rcases h with h | h | h; exact h q.1; exact h q.2.1; rw [q.2.2] at h; cases h)]
theorem Z39 {k i : Int} (h : (Zah kk l k i).2 = 0) : 0 ≤ i ∧ i < l.length := by
 by_cases h0 : (Zae kk l k).2 = 0
 ·have hlen : (Zae kk l k).1.length ≤ l.length := by
   unfold Zae at h0 ⊢
   split at h0
   ·rename_i g
    split at h0
    ·rename_i g2
     rw [if_pos g, if_pos g2]; show (acL kk l k.toNat).length ≤ _; rw [Zfk]; omega
    ·exact absurd h0 (by decide)
   ·exact absurd h0 (by decide)
  by_cases h1 : 0 ≤ i ∧ i < (Zae kk l k).1.length
  ·omega
  ·rw [show Zah kk l k i = ([], 20) from by unfold Zah; rw [if_pos h0, if_neg h1]] at h
   exact absurd h (by decide)
 ·rw [show Zah kk l k i = ([], (Zae kk l k).2) from by unfold Zah; rw [if_neg h0]] at h
  exact absurd h h0
end
def Zy (kk : Nat → BitVec 32) (master : D) (x : PStep) : Int :=
  if Zcd kk master x.head = 0 then (if (Zap kk x.item).2 = 0 then Zhk kk x.head.head.root (Zap kk x.item).1 x.head.head.size x.index x.proof else 130) else Zcd kk master x.head
section
variable {kk : Nat → BitVec 32} {master : D} {x : PStep}
theorem Z5a (h : ¬ Zcd kk master x.head = 0) : Zy kk master x = Zcd kk master x.head := if_neg h
theorem Z5b (h : Zcd kk master x.head = 0) (h1 : ¬ (Zap kk x.item).2 = 0) : Zy kk master x = 130 := by unfold Zy; rw [if_pos h, if_neg h1]
theorem Zy1 (h : Zcd kk master x.head = 0) (h1 : (Zap kk x.item).2 = 0) : Zy kk master x = Zhk kk x.head.head.root (Zap kk x.item).1 x.head.head.size x.index x.proof := by unfold Zy; rw [if_pos h, if_pos h1]
end
abbrev Y7  : Blk := mxB 181 ([Iv 0] ++ (Zr (⟨0, (⟨0, 0, 0, ⟨#[]⟩, (⟨(⟨0, 0, 0, dz, 0⟩ : Head), 0, dz⟩ : Signed), (⟨0, 0, 0, 0, dz⟩ : Claim)⟩ : Entry)⟩ : Item) ++ ([.slice none 0 0] ++ (Zh (⟨(⟨0, 0, 0, dz, 0⟩ : Head), 0, dz⟩ : Signed)))))
theorem Z3k (kk : Nat → BitVec 32) (hG : G 0 = some (Z6 w32 64 kk)) (hG1 : G 2 = some (Z6 u8N 64 dbF)) (l : List Item) (n c : Nat) (hn : l.length = n) (hc : n ≤ c) (hb : n ≤ 1048576) (i : Int) (s : Signed) : Z9 Tryd.prog G 11 [slv 0 0 n c, Iv i, Zw s] [rwR Zx l] (.tuple #[mxV ([Iv ((Zew kk l i s).1.index)] ++ (Zr ((Zew kk l i s).1.item) ++ ([slv 1 0 ((Zew kk l i s).1.proof.length) ((Zew kk l i s).1.proof.length)] ++ (Zh ((Zew kk l i s).1.head))))), Iv (Zew kk l i s).2]) [rwR Zx l, dsB (Zew kk l i s).1.proof] := by
  refine Zbu (fn := Tryd.f11) (nt := 60) rfl rfl rfl rfl ?_
  refine Zaj 6 (H' := [rwR Zx l, hole, hole, hole, hole, hole, hole]) rfl ?_
  refine Ze (Zf (Zci (v := Zw s) (b := bxB 69 (Zh s)) (nid := 1) (H' := [rwR Zx l, bxB 69 (Zh s), hole, hole, hole, hole, hole]) (Zai (b := mxB 181 ([Iv 0] ++ (Zr (⟨0, (⟨0, 0, 0, ⟨#[]⟩, (⟨(⟨0, 0, 0, dz, 0⟩ : Head), 0, dz⟩ : Signed), (⟨0, 0, 0, 0, dz⟩ : Claim)⟩ : Entry)⟩ : Item) ++ ([.slice none 0 0] ++ (Zh (⟨(⟨0, 0, 0, dz, 0⟩ : Head), 0, dz⟩ : Signed)))))) (nid := 2) (H' := [rwR Zx l, bxB 69 (Zh s), Y7, hole, hole, hole, hole]) (Zb (Iv 0) (Za (Zc (Ze (Zf (Zd (slv 0 0 n c) (Zi (b := 1) (o := 0) (n := 0) (o' := 0) (Zi (b := 1) (o := 0) (n := 2) (o' := 2) (Zn (p := pt 1 2) (v := Iv s.head.size) ?_))))))))))))
  refine Zab (e := [some (0, 0)]) (nid := 0) (Ztd (G := G) kk hG hG1 l n c hn (by omega) (by omega) s.head.size) (vals := [slv 0 0 n c, Iv s.head.size]) (v := .tuple #[dgV ((Zac kk l s.head.size).1), Iv ((Zac kk l s.head.size).2)]) (H' := [rwR Zx l, bxB 69 (Zh s), Y7, hole, hole, hole, hole]) rfl rfl rfl rfl rfl rfl rfl ⟨⟨⟨rfl, rfl, rfl, by first | omega | exact Nat.le_refl _, by first | omega | exact Nat.le_refl _⟩, rfl, trivial⟩, ⟨(Zgg rfl), trivial⟩, rfl, rfl, rfl⟩ (by kernel_rfl) (by kernel_rfl) ?_
  refine Zd (.tuple #[dgV ((Zac kk l s.head.size).1), Iv ((Zac kk l s.head.size).2)]) (Zq (vs := #[dgV ((Zac kk l s.head.size).1), Iv ((Zac kk l s.head.size).2)]) (v := dgV ((Zac kk l s.head.size).1)) (Zq (vs := #[dgV ((Zac kk l s.head.size).1), Iv ((Zac kk l s.head.size).2)]) (v := Iv ((Zac kk l s.head.size).2)) (Zai (b := dgB dz) (nid := 3) (H' := [rwR Zx l, bxB 69 (Zh s), Y7, dgB dz, hole, hole, hole]) (Z2 (p := pt 3 0) (v := dgV ((Zac kk l s.head.size).1)) (b := 3) (blk := dgB ((Zac kk l s.head.size).1)) (H' := [rwR Zx l, bxB 69 (Zh s), Y7, dgB ((Zac kk l s.head.size).1), hole, hole, hole]) (Zb (Iv ((Zac kk l s.head.size).2)) (Za (Zc (Ze (Zf (Zn (p := pt 1 0) (v := Zw s) ?_))))))))))
  refine Zab (e := []) (nid := 4) (Zl4 (G := G) s) (vals := [Zw s]) (v := .tuple #[slv 4 0 ((Zaf s).1.length) ((Zaf s).1.length), Iv ((Zaf s).2)]) (H' := [rwR Zx l, bxB 69 (Zh s), Y7, dgB ((Zac kk l s.head.size).1), Zar ((Zaf s).1), hole, hole]) rfl rfl rfl rfl rfl rfl rfl ⟨⟨rfl, trivial⟩, trivial, rfl, rfl, rfl⟩ (by kernel_rfl) (by kernel_rfl) ?_
  refine Zd (.tuple #[slv 4 0 ((Zaf s).1.length) ((Zaf s).1.length), Iv ((Zaf s).2)]) (Zq (vs := #[slv 4 0 ((Zaf s).1.length) ((Zaf s).1.length), Iv ((Zaf s).2)]) (v := slv 4 0 ((Zaf s).1.length) ((Zaf s).1.length)) (Zq (vs := #[slv 4 0 ((Zaf s).1.length) ((Zaf s).1.length), Iv ((Zaf s).2)]) (v := Iv ((Zaf s).2)) (Zb (slv 4 0 ((Zaf s).1.length) ((Zaf s).1.length)) (Zb (Iv ((Zaf s).2)) (Za (Zc (Ze (Ze (Zf (Zd (Iv ((Zac kk l s.head.size).2)) ?_))))))))))
  by_cases h1 : ((Zac kk l s.head.size).2) ≠ 0
  refine Zj (vx := Iv ((Zac kk l s.head.size).2)) (vy := Iv 0) rfl rfl (.bool true) rfl rfl (Zek (by omega)) ?_
  refine Zd (.bool true) (Zg (Zg (Zl (.bool true) (Zd (.bool true) (Zg (Zg (Zg (Zg (Zg (Zl (.bool true) (Za (Zc (Zv rfl (Ze (Zf ?_)))))))))))))))
  refine Zbm (vs := []) (v := mxV ([Iv 0] ++ (Zr (⟨0, (⟨0, 0, 0, ⟨#[]⟩, (⟨(⟨0, 0, 0, dz, 0⟩ : Head), 0, dz⟩ : Signed), (⟨0, 0, 0, 0, dz⟩ : Claim)⟩ : Entry)⟩ : Item) ++ ([.slice none 0 0] ++ (Zh (⟨(⟨0, 0, 0, dz, 0⟩ : Head), 0, dz⟩ : Signed)))))) rfl rfl rfl (by kernel_rfl) ?_
  refine Z2 (p := pt 2 0) (v := mxV ([Iv 0] ++ (Zr (⟨0, (⟨0, 0, 0, ⟨#[]⟩, (⟨(⟨0, 0, 0, dz, 0⟩ : Head), 0, dz⟩ : Signed), (⟨0, 0, 0, 0, dz⟩ : Claim)⟩ : Entry)⟩ : Item) ++ ([.slice none 0 0] ++ (Zh (⟨(⟨0, 0, 0, dz, 0⟩ : Head), 0, dz⟩ : Signed)))))) (b := 2) (blk := mxB 181 ([Iv 0] ++ (Zr (⟨0, (⟨0, 0, 0, ⟨#[]⟩, (⟨(⟨0, 0, 0, dz, 0⟩ : Head), 0, dz⟩ : Signed), (⟨0, 0, 0, 0, dz⟩ : Claim)⟩ : Entry)⟩ : Item) ++ ([.slice none 0 0] ++ (Zh (⟨(⟨0, 0, 0, dz, 0⟩ : Head), 0, dz⟩ : Signed)))))) (H' := [rwR Zx l, bxB 69 (Zh s), Y7, dgB ((Zac kk l s.head.size).1), Zar ((Zaf s).1), hole, hole]) (Zb (Iv 130) (Za (Zc ?_)))
  refine Zb5 (Zbo.nilCell (k := 2) (j := 111) (b := 5) true 32 rfl (by decide) rfl (by show 0 < 181; decide) rfl rfl) ?_
  refine Zs (Zaa (Zu ?_))
  rw [show Zew kk l i s = ((⟨0, (⟨0, (⟨0, 0, 0, ⟨#[]⟩, (⟨(⟨0, 0, 0, dz, 0⟩ : Head), 0, dz⟩ : Signed), (⟨0, 0, 0, 0, dz⟩ : Claim)⟩ : Entry)⟩ : Item), [], (⟨(⟨0, 0, 0, dz, 0⟩ : Head), 0, dz⟩ : Signed)⟩ : PStep), 130) from by first | exact Zp4 (by first | exact .inl (by omega) | exact .inr (.inl (Zk6 (by omega))) | exact .inr (.inr (by assumption))) | exact Zp5 (by omega) (Zi0 (by omega)) (by assumption) (by omega)]
  exact Zbb [0, 5] (v := .tuple #[mxV ([Iv 0] ++ (Zr (⟨0, (⟨0, 0, 0, ⟨#[]⟩, (⟨(⟨0, 0, 0, dz, 0⟩ : Head), 0, dz⟩ : Signed), (⟨0, 0, 0, 0, dz⟩ : Claim)⟩ : Entry)⟩ : Item) ++ ([slv 5 0 0 0] ++ (Zh (⟨(⟨0, 0, 0, dz, 0⟩ : Head), 0, dz⟩ : Signed))))), Iv 130]) rfl (by kernel_rfl) rfl rfl (by decide) (by simp [Zbe, rwR, dsB, Zx]) ⟨(Zgf (by kernel_rfl) (Zav ⟨⟨rfl, rfl⟩, trivial⟩ (Zav (Zbk (by kernel_rfl)) (Zav ⟨⟨rfl, rfl, rfl, by first | omega | exact Nat.le_refl _ | exact Nat.zero_le _ | (dsimp only; omega), by first | omega | exact Nat.le_refl _ | exact Nat.zero_le _ | (dsimp only; omega)⟩, trivial⟩ (Zbk (by kernel_rfl)))))), rfl, trivial⟩
  refine Zj (vx := Iv ((Zac kk l s.head.size).2)) (vy := Iv 0) rfl rfl (.bool false) rfl rfl (Zd6 (by omega)) ?_
  refine Zd (.bool false) (Zd (Iv ((Zaf s).2)) ?_)
  by_cases h2 : ((Zaf s).2) ≠ 0
  refine Zj (vx := Iv ((Zaf s).2)) (vy := Iv 0) rfl rfl (.bool true) rfl rfl (Zek (by omega)) ?_
  refine Zl (.bool true) (Zd (.bool true) (Zg (Zg (Zg (Zg (Zg (Zl (.bool true) (Za (Zc (Zv rfl (Ze (Zf ?_))))))))))))
  refine Zbm (vs := []) (v := mxV ([Iv 0] ++ (Zr (⟨0, (⟨0, 0, 0, ⟨#[]⟩, (⟨(⟨0, 0, 0, dz, 0⟩ : Head), 0, dz⟩ : Signed), (⟨0, 0, 0, 0, dz⟩ : Claim)⟩ : Entry)⟩ : Item) ++ ([.slice none 0 0] ++ (Zh (⟨(⟨0, 0, 0, dz, 0⟩ : Head), 0, dz⟩ : Signed)))))) rfl rfl rfl (by kernel_rfl) ?_
  refine Z2 (p := pt 2 0) (v := mxV ([Iv 0] ++ (Zr (⟨0, (⟨0, 0, 0, ⟨#[]⟩, (⟨(⟨0, 0, 0, dz, 0⟩ : Head), 0, dz⟩ : Signed), (⟨0, 0, 0, 0, dz⟩ : Claim)⟩ : Entry)⟩ : Item) ++ ([.slice none 0 0] ++ (Zh (⟨(⟨0, 0, 0, dz, 0⟩ : Head), 0, dz⟩ : Signed)))))) (b := 2) (blk := mxB 181 ([Iv 0] ++ (Zr (⟨0, (⟨0, 0, 0, ⟨#[]⟩, (⟨(⟨0, 0, 0, dz, 0⟩ : Head), 0, dz⟩ : Signed), (⟨0, 0, 0, 0, dz⟩ : Claim)⟩ : Entry)⟩ : Item) ++ ([.slice none 0 0] ++ (Zh (⟨(⟨0, 0, 0, dz, 0⟩ : Head), 0, dz⟩ : Signed)))))) (H' := [rwR Zx l, bxB 69 (Zh s), Y7, dgB ((Zac kk l s.head.size).1), Zar ((Zaf s).1), hole, hole]) (Zb (Iv 130) (Za (Zc ?_)))
  refine Zb5 (Zbo.nilCell (k := 2) (j := 111) (b := 5) true 32 rfl (by decide) rfl (by show 0 < 181; decide) rfl rfl) ?_
  refine Zs (Zaa (Zu ?_))
  rw [show Zew kk l i s = ((⟨0, (⟨0, (⟨0, 0, 0, ⟨#[]⟩, (⟨(⟨0, 0, 0, dz, 0⟩ : Head), 0, dz⟩ : Signed), (⟨0, 0, 0, 0, dz⟩ : Claim)⟩ : Entry)⟩ : Item), [], (⟨(⟨0, 0, 0, dz, 0⟩ : Head), 0, dz⟩ : Signed)⟩ : PStep), 130) from by first | exact Zp4 (by first | exact .inl (by omega) | exact .inr (.inl (Zk6 (by omega))) | exact .inr (.inr (by assumption))) | exact Zp5 (by omega) (Zi0 (by omega)) (by assumption) (by omega)]
  exact Zbb [0, 5] (v := .tuple #[mxV ([Iv 0] ++ (Zr (⟨0, (⟨0, 0, 0, ⟨#[]⟩, (⟨(⟨0, 0, 0, dz, 0⟩ : Head), 0, dz⟩ : Signed), (⟨0, 0, 0, 0, dz⟩ : Claim)⟩ : Entry)⟩ : Item) ++ ([slv 5 0 0 0] ++ (Zh (⟨(⟨0, 0, 0, dz, 0⟩ : Head), 0, dz⟩ : Signed))))), Iv 130]) rfl (by kernel_rfl) rfl rfl (by decide) (by simp [Zbe, rwR, dsB, Zx]) ⟨(Zgf (by kernel_rfl) (Zav ⟨⟨rfl, rfl⟩, trivial⟩ (Zav (Zbk (by kernel_rfl)) (Zav ⟨⟨rfl, rfl, rfl, by first | omega | exact Nat.le_refl _ | exact Nat.zero_le _ | (dsimp only; omega), by first | omega | exact Nat.le_refl _ | exact Nat.zero_le _ | (dsimp only; omega)⟩, trivial⟩ (Zbk (by kernel_rfl)))))), rfl, trivial⟩
  refine Zj (vx := Iv ((Zaf s).2)) (vy := Iv 0) rfl rfl (.bool false) rfl rfl (Zd6 (by omega)) ?_
  refine Zl (.bool false) (Zd (.bool false) (Zn (p := pt 3 0) (v := dgV ((Zac kk l s.head.size).1)) (Zi (b := 1) (o := 0) (n := 0) (o' := 0) (Zi (b := 1) (o := 0) (n := 3) (o' := 3) (Zn (p := pt 1 3) (v := dgV s.head.root) ?_)))))
  rcases Bool.eq_false_or_eq_true (Zcg 32 ((Zac kk l s.head.size).1) s.head.root) with h3 | h3
  refine Zj (vx := dgV ((Zac kk l s.head.size).1)) (vy := dgV s.head.root) rfl rfl (.bool false) rfl rfl (Eq.trans (Zs2 (n := 32) (a := (Zac kk l s.head.size).1) (b := s.head.root) (by kernel_rfl) rfl rfl rfl) (by rw [h3] <;> rfl)) ?_
  refine Zl (.bool false) (Za (Zc (Zt rfl (Z0 (Zc (Ze (Zf (Zd (slv 0 0 n c) (Zi (b := 1) (o := 0) (n := 0) (o' := 0) (Zi (b := 1) (o := 0) (n := 2) (o' := 2) (Zn (p := pt 1 2) (v := Iv s.head.size) (Zd (Iv i) ?_))))))))))))
  have hpl3 := Zmk kk l s.head.size i
  refine Zab (e := [some (0, 0)]) (nid := 5) (Z0k (G := G) kk hG hG1 l n c hn (by omega) (by omega) s.head.size i) (vals := [slv 0 0 n c, Iv s.head.size, Iv i]) (v := .tuple #[slv 5 0 ((Zah kk l s.head.size i).1.length) ((Zah kk l s.head.size i).1.length), Iv ((Zah kk l s.head.size i).2)]) (H' := [rwR Zx l, bxB 69 (Zh s), Y7, dgB ((Zac kk l s.head.size).1), Zar ((Zaf s).1), dsB ((Zah kk l s.head.size i).1), hole]) rfl rfl rfl rfl rfl rfl rfl ⟨⟨⟨rfl, rfl, rfl, by first | omega | exact Nat.le_refl _, by first | omega | exact Nat.le_refl _⟩, rfl, rfl, trivial⟩, ⟨(Zgg rfl), trivial⟩, rfl, rfl, rfl⟩ (by kernel_rfl) (by kernel_rfl) ?_
  refine Zd (.tuple #[slv 5 0 ((Zah kk l s.head.size i).1.length) ((Zah kk l s.head.size i).1.length), Iv ((Zah kk l s.head.size i).2)]) (Zq (vs := #[slv 5 0 ((Zah kk l s.head.size i).1.length) ((Zah kk l s.head.size i).1.length), Iv ((Zah kk l s.head.size i).2)]) (v := slv 5 0 ((Zah kk l s.head.size i).1.length) ((Zah kk l s.head.size i).1.length)) (Zq (vs := #[slv 5 0 ((Zah kk l s.head.size i).1.length) ((Zah kk l s.head.size i).1.length), Iv ((Zah kk l s.head.size i).2)]) (v := Iv ((Zah kk l s.head.size i).2)) (Zb (slv 5 0 ((Zah kk l s.head.size i).1.length) ((Zah kk l s.head.size i).1.length)) (Zb (Iv ((Zah kk l s.head.size i).2)) (Za (Zc (Ze (Ze (Zf (Zd (Iv ((Zah kk l s.head.size i).2)) ?_))))))))))
  by_cases h4 : ((Zah kk l s.head.size i).2) ≠ 0
  refine Zj (vx := Iv ((Zah kk l s.head.size i).2)) (vy := Iv 0) rfl rfl (.bool true) rfl rfl (Zek (by omega)) ?_
  refine Za (Zc (Zv rfl (Ze (Zf ?_))))
  refine Zbm (vs := []) (v := mxV ([Iv 0] ++ (Zr (⟨0, (⟨0, 0, 0, ⟨#[]⟩, (⟨(⟨0, 0, 0, dz, 0⟩ : Head), 0, dz⟩ : Signed), (⟨0, 0, 0, 0, dz⟩ : Claim)⟩ : Entry)⟩ : Item) ++ ([.slice none 0 0] ++ (Zh (⟨(⟨0, 0, 0, dz, 0⟩ : Head), 0, dz⟩ : Signed)))))) rfl rfl rfl (by kernel_rfl) ?_
  refine Z2 (p := pt 2 0) (v := mxV ([Iv 0] ++ (Zr (⟨0, (⟨0, 0, 0, ⟨#[]⟩, (⟨(⟨0, 0, 0, dz, 0⟩ : Head), 0, dz⟩ : Signed), (⟨0, 0, 0, 0, dz⟩ : Claim)⟩ : Entry)⟩ : Item) ++ ([.slice none 0 0] ++ (Zh (⟨(⟨0, 0, 0, dz, 0⟩ : Head), 0, dz⟩ : Signed)))))) (b := 2) (blk := mxB 181 ([Iv 0] ++ (Zr (⟨0, (⟨0, 0, 0, ⟨#[]⟩, (⟨(⟨0, 0, 0, dz, 0⟩ : Head), 0, dz⟩ : Signed), (⟨0, 0, 0, 0, dz⟩ : Claim)⟩ : Entry)⟩ : Item) ++ ([.slice none 0 0] ++ (Zh (⟨(⟨0, 0, 0, dz, 0⟩ : Head), 0, dz⟩ : Signed)))))) (H' := [rwR Zx l, bxB 69 (Zh s), Y7, dgB ((Zac kk l s.head.size).1), Zar ((Zaf s).1), dsB ((Zah kk l s.head.size i).1), hole]) (Zb (Iv 131) (Za (Zc ?_)))
  refine Zb5 (Zbo.nilCell (k := 2) (j := 111) (b := 6) true 32 rfl (by decide) rfl (by show 0 < 181; decide) rfl rfl) ?_
  refine Zs (Zaa (Zu ?_))
  rw [show Zew kk l i s = ((⟨0, (⟨0, (⟨0, 0, 0, ⟨#[]⟩, (⟨(⟨0, 0, 0, dz, 0⟩ : Head), 0, dz⟩ : Signed), (⟨0, 0, 0, 0, dz⟩ : Claim)⟩ : Entry)⟩ : Item), [], (⟨(⟨0, 0, 0, dz, 0⟩ : Head), 0, dz⟩ : Signed)⟩ : PStep), 131) from by first | exact Zp4 (by first | exact .inl (by omega) | exact .inr (.inl (Zk6 (by omega))) | exact .inr (.inr (by assumption))) | exact Zp5 (by omega) (Zi0 (by omega)) (by assumption) (by omega)]
  exact Zbb [0, 6] (v := .tuple #[mxV ([Iv 0] ++ (Zr (⟨0, (⟨0, 0, 0, ⟨#[]⟩, (⟨(⟨0, 0, 0, dz, 0⟩ : Head), 0, dz⟩ : Signed), (⟨0, 0, 0, 0, dz⟩ : Claim)⟩ : Entry)⟩ : Item) ++ ([slv 6 0 0 0] ++ (Zh (⟨(⟨0, 0, 0, dz, 0⟩ : Head), 0, dz⟩ : Signed))))), Iv 131]) rfl (by kernel_rfl) rfl rfl (by decide) (by simp [Zbe, rwR, dsB, Zx]) ⟨(Zgf (by kernel_rfl) (Zav ⟨⟨rfl, rfl⟩, trivial⟩ (Zav (Zbk (by kernel_rfl)) (Zav ⟨⟨rfl, rfl, rfl, by first | omega | exact Nat.le_refl _ | exact Nat.zero_le _ | (dsimp only; omega), by first | omega | exact Nat.le_refl _ | exact Nat.zero_le _ | (dsimp only; omega)⟩, trivial⟩ (Zbk (by kernel_rfl)))))), rfl, trivial⟩
  refine Zj (vx := Iv ((Zah kk l s.head.size i).2)) (vy := Iv 0) rfl rfl (.bool false) rfl rfl (Zd6 (by omega)) ?_
  refine Za (Zc (Zt rfl (Z0 (Zc (Ze ?_)))))
  have hin := Z39 (by omega : (Zah kk l s.head.size i).2 = 0)
  refine Zer (by kernel_rfl) ?_
  refine Zd (Iv i) (Zd (slv 0 0 n c) (Zd (Iv i) ?_))
  refine Zbs (b := 0) (o := 0) (j := i.toNat * 110) (m := n) (c := c) (sz := 110) (i := i) (k := .i64) rfl rfl rfl rfl rfl (by omega) (by omega) (by omega) ?_
  refine Zal (p := pt 0 (i.toNat * 110)) (v := Zbq (l.getD i.toNat default)) rfl rfl rfl (Zmn (n := 0) (m := 110) Zx rfl rfl rfl rfl (by have := hn; omega) (by omega)) ?_
  refine Zd (slv 5 0 ((Zah kk l s.head.size i).1.length) ((Zah kk l s.head.size i).1.length)) (Zn (p := pt 1 0) (v := Zw s) ?_)
  refine Zbm (vs := [(0, Iv i), (1, Zbq (l.getD i.toNat default)), (2, slv 5 0 ((Zah kk l s.head.size i).1.length) ((Zah kk l s.head.size i).1.length)), (3, Zw s)]) (v := mxV ([Iv i] ++ (Zr (l.getD i.toNat default) ++ ([slv 5 0 ((Zah kk l s.head.size i).1.length) ((Zah kk l s.head.size i).1.length)] ++ (Zh s))))) rfl rfl rfl (by kernel_rfl) ?_
  refine Z2 (p := pt 2 0) (v := mxV ([Iv i] ++ (Zr (l.getD i.toNat default) ++ ([slv 5 0 ((Zah kk l s.head.size i).1.length) ((Zah kk l s.head.size i).1.length)] ++ (Zh s))))) (b := 2) (blk := mxB 181 ([Iv i] ++ (Zr (l.getD i.toNat default) ++ ([slv 5 0 ((Zah kk l s.head.size i).1.length) ((Zah kk l s.head.size i).1.length)] ++ (Zh s))))) (H' := [rwR Zx l, bxB 69 (Zh s), mxB 181 ([Iv i] ++ (Zr (l.getD i.toNat default) ++ ([slv 5 0 ((Zah kk l s.head.size i).1.length) ((Zah kk l s.head.size i).1.length)] ++ (Zh s)))), dgB ((Zac kk l s.head.size).1), Zar ((Zaf s).1), dsB ((Zah kk l s.head.size i).1), hole]) (Zb (Iv 0) ?_)
  refine Zdq (Zis [[], [], [], [1, 2], [1, 2, 3], [], [], [0, 1, 2, 3, 4, 5, 6], [0, 1, 2, 3, 4, 5, 6, 7], [0, 1, 2, 3, 4, 5, 6, 7, 8]] (by kernel_rfl) (by kernel_rfl)) ?_
  refine Zc (Zs (Zu ?_))
  rw [show Zew kk l i s = ((⟨i, l.getD i.toNat default, (Zah kk l s.head.size i).1, s⟩ : PStep), 0) from Z18 (by omega) (Zi0 (by omega)) (by assumption) (by omega)]
  exact Zbb [0, 5] (v := .tuple #[mxV ([Iv i] ++ (Zr (l.getD i.toNat default) ++ ([slv 5 0 ((Zah kk l s.head.size i).1.length) ((Zah kk l s.head.size i).1.length)] ++ (Zh s)))), Iv 0]) rfl (by kernel_rfl) rfl rfl (by decide) (by simp [Zbe, rwR, dsB, Zx]) ⟨(Zgf (by kernel_rfl) (Zav ⟨⟨rfl, rfl⟩, trivial⟩ (Zav (Zbk (by kernel_rfl)) (Zav ⟨⟨rfl, rfl, rfl, by first | omega | exact Nat.le_refl _ | exact Nat.zero_le _ | (dsimp only; omega), by first | omega | exact Nat.le_refl _ | exact Nat.zero_le _ | (dsimp only; omega)⟩, trivial⟩ (Zbk (by kernel_rfl)))))), rfl, trivial⟩
  refine Zj (vx := dgV ((Zac kk l s.head.size).1)) (vy := dgV s.head.root) rfl rfl (.bool true) rfl rfl (Eq.trans (Zs2 (n := 32) (a := (Zac kk l s.head.size).1) (b := s.head.root) (by kernel_rfl) rfl rfl rfl) (by rw [h3] <;> rfl)) ?_
  refine Zl (.bool true) (Za (Zc (Zv rfl (Ze (Zf ?_)))))
  refine Zbm (vs := []) (v := mxV ([Iv 0] ++ (Zr (⟨0, (⟨0, 0, 0, ⟨#[]⟩, (⟨(⟨0, 0, 0, dz, 0⟩ : Head), 0, dz⟩ : Signed), (⟨0, 0, 0, 0, dz⟩ : Claim)⟩ : Entry)⟩ : Item) ++ ([.slice none 0 0] ++ (Zh (⟨(⟨0, 0, 0, dz, 0⟩ : Head), 0, dz⟩ : Signed)))))) rfl rfl rfl (by kernel_rfl) ?_
  refine Z2 (p := pt 2 0) (v := mxV ([Iv 0] ++ (Zr (⟨0, (⟨0, 0, 0, ⟨#[]⟩, (⟨(⟨0, 0, 0, dz, 0⟩ : Head), 0, dz⟩ : Signed), (⟨0, 0, 0, 0, dz⟩ : Claim)⟩ : Entry)⟩ : Item) ++ ([.slice none 0 0] ++ (Zh (⟨(⟨0, 0, 0, dz, 0⟩ : Head), 0, dz⟩ : Signed)))))) (b := 2) (blk := mxB 181 ([Iv 0] ++ (Zr (⟨0, (⟨0, 0, 0, ⟨#[]⟩, (⟨(⟨0, 0, 0, dz, 0⟩ : Head), 0, dz⟩ : Signed), (⟨0, 0, 0, 0, dz⟩ : Claim)⟩ : Entry)⟩ : Item) ++ ([.slice none 0 0] ++ (Zh (⟨(⟨0, 0, 0, dz, 0⟩ : Head), 0, dz⟩ : Signed)))))) (H' := [rwR Zx l, bxB 69 (Zh s), Y7, dgB ((Zac kk l s.head.size).1), Zar ((Zaf s).1), hole, hole]) (Zb (Iv 130) (Za (Zc ?_)))
  refine Zb5 (Zbo.nilCell (k := 2) (j := 111) (b := 5) true 32 rfl (by decide) rfl (by show 0 < 181; decide) rfl rfl) ?_
  refine Zs (Zaa (Zu ?_))
  rw [show Zew kk l i s = ((⟨0, (⟨0, (⟨0, 0, 0, ⟨#[]⟩, (⟨(⟨0, 0, 0, dz, 0⟩ : Head), 0, dz⟩ : Signed), (⟨0, 0, 0, 0, dz⟩ : Claim)⟩ : Entry)⟩ : Item), [], (⟨(⟨0, 0, 0, dz, 0⟩ : Head), 0, dz⟩ : Signed)⟩ : PStep), 130) from by first | exact Zp4 (by first | exact .inl (by omega) | exact .inr (.inl (Zk6 (by omega))) | exact .inr (.inr (by assumption))) | exact Zp5 (by omega) (Zi0 (by omega)) (by assumption) (by omega)]
  exact Zbb [0, 5] (v := .tuple #[mxV ([Iv 0] ++ (Zr (⟨0, (⟨0, 0, 0, ⟨#[]⟩, (⟨(⟨0, 0, 0, dz, 0⟩ : Head), 0, dz⟩ : Signed), (⟨0, 0, 0, 0, dz⟩ : Claim)⟩ : Entry)⟩ : Item) ++ ([slv 5 0 0 0] ++ (Zh (⟨(⟨0, 0, 0, dz, 0⟩ : Head), 0, dz⟩ : Signed))))), Iv 130]) rfl (by kernel_rfl) rfl rfl (by decide) (by simp [Zbe, rwR, dsB, Zx]) ⟨(Zgf (by kernel_rfl) (Zav ⟨⟨rfl, rfl⟩, trivial⟩ (Zav (Zbk (by kernel_rfl)) (Zav ⟨⟨rfl, rfl, rfl, by first | omega | exact Nat.le_refl _ | exact Nat.zero_le _ | (dsimp only; omega), by first | omega | exact Nat.le_refl _ | exact Nat.zero_le _ | (dsimp only; omega)⟩, trivial⟩ (Zbk (by kernel_rfl)))))), rfl, trivial⟩
abbrev Y8 (x : PStep) (n : Nat) (c : Nat) : Blk := mxB 181 ([Iv x.index] ++ (Zr x.item ++ ([slv 0 0 n c] ++ (Zh x.head))))
theorem Zkq (kk : Nat → BitVec 32) (hG : G 0 = some (Z6 w32 64 kk)) (master : D) (x : PStep) (n c : Nat) (hn : x.proof.length = n) (hc : n ≤ c) (hb : n ≤ 1000) (hx : (-9223372036854775808 ≤ x.index ∧ x.index ≤ 9223372036854775807) ∧ -9223372036854775808 ≤ x.head.head.size ∧ x.head.head.size ≤ 9223372036854775807) : Z9 Tryd.prog G 30 [dgV master, mxV ([Iv x.index] ++ (Zr x.item ++ ([slv 0 0 n c] ++ (Zh x.head))))] [dsR x.proof] (Iv (Zy kk master x)) [dsR x.proof] := by
  refine Zbu (fn := Tryd.f30) (nt := 43) rfl rfl rfl rfl ?_
  refine Zaj 3 (H' := [dsR x.proof, hole, hole, hole]) rfl ?_
  refine Ze (Zf (Zci (v := dgV master) (b := dgB master) (nid := 1) (H' := [dsR x.proof, dgB master, hole, hole]) (Zci (v := mxV ([Iv x.index] ++ (Zr x.item ++ ([slv 0 0 n c] ++ (Zh x.head))))) (b := mxB 181 ([Iv x.index] ++ (Zr x.item ++ ([slv 0 0 n c] ++ (Zh x.head))))) (nid := 2) (H' := [dsR x.proof, dgB master, Y8 x n c, hole]) (Zb (Iv 0) (Za (Zc (Ze (Zf (Zn (p := pt 1 0) (v := dgV master) (Zi (b := 2) (o := 0) (n := 112) (o' := 112) (Zn (p := pt 2 112) (v := Zw x.head) ?_)))))))))))
  refine Zp (Zv5 (G := G) kk hG master x.head) (vals := [dgV master, Zw x.head]) (res' := Iv (Zcd kk master x.head)) rfl rfl rfl rfl rfl rfl ?_
  refine Zb (Iv (Zcd kk master x.head)) (Za (Zc (Ze (Zf (Zi (b := 2) (o := 0) (n := 1) (o' := 1) (Zn (p := pt 2 1) (v := Zbq x.item) ?_))))))
  refine Zp (Zxt (G := G) kk hG x.item) (vals := [Zbq x.item]) (res' := .tuple #[dgV ((Zap kk x.item).1), Iv ((Zap kk x.item).2)]) rfl rfl rfl rfl rfl (by kernel_rfl) ?_
  refine Zd (.tuple #[dgV ((Zap kk x.item).1), Iv ((Zap kk x.item).2)]) (Zq (vs := #[dgV ((Zap kk x.item).1), Iv ((Zap kk x.item).2)]) (v := dgV ((Zap kk x.item).1)) (Zq (vs := #[dgV ((Zap kk x.item).1), Iv ((Zap kk x.item).2)]) (v := Iv ((Zap kk x.item).2)) (Zai (b := dgB dz) (nid := 3) (H' := [dsR x.proof, dgB master, Y8 x n c, dgB dz]) (Z2 (p := pt 3 0) (v := dgV ((Zap kk x.item).1)) (b := 3) (blk := dgB ((Zap kk x.item).1)) (H' := [dsR x.proof, dgB master, Y8 x n c, dgB ((Zap kk x.item).1)]) (Zb (Iv ((Zap kk x.item).2)) (Za (Zc (Ze (Z5 (Ze (Z5 (Ze (Z5 (Ze (Ze (Ze (Zf (Zd (Iv (Zcd kk master x.head)) ?_))))))))))))))))))
  by_cases h1 : (Zcd kk master x.head) = 0
  refine Zj (vx := Iv (Zcd kk master x.head)) (vy := Iv 0) rfl rfl (.bool true) rfl rfl (Zeb (by omega)) ?_
  refine Zd (.bool true) (Zd (Iv ((Zap kk x.item).2)) ?_)
  by_cases h2 : ((Zap kk x.item).2) ≠ 0
  refine Zj (vx := Iv ((Zap kk x.item).2)) (vy := Iv 0) rfl rfl (.bool true) rfl rfl (Zek (by omega)) ?_
  refine Zl (.bool true) (Zb (.bool true) (Za (Zc (Zv rfl (Zbn (Zat (Zat (Zay rfl (Zc (Zf (Zb (Iv 130) (Za (Zz (Zc (Ze (Ze (Zf (Zd (Iv 130) (Zb (Iv 130) (Za (Zc (Zs (Zaa (Zct (Zaa (Zu ?_))))))))))))))))))))))))))
  rw [show Zy kk master x = 130 from Z5b (by omega) (by omega)]
  exact Zm (v := Iv 130) rfl rfl rfl (by kernel_rfl) rfl
  refine Zj (vx := Iv ((Zap kk x.item).2)) (vy := Iv 0) rfl rfl (.bool false) rfl rfl (Zd6 (by omega)) ?_
  refine Zl (.bool false) (Zb (.bool false) (Za (Zc (Zt rfl (Z0 (Zc (Ze (Zf (Zd (Iv (Zcd kk master x.head)) ?_)))))))))
  refine Zj (vx := Iv (Zcd kk master x.head)) (vy := Iv 0) rfl rfl (.bool false) rfl rfl (Zd6 (by omega)) ?_
  refine Zb (.bool false) (Za (Zc (Zt rfl (Z0 (Zc (Zbn (Zhs rfl (Zat (Zhs rfl (Zat (Zay rfl (Zc (Ze (Zf (Zi (b := 2) (o := 0) (n := 112) (o' := 112) (Zi (b := 2) (o := 112) (n := 0) (o' := 112) (Zi (b := 2) (o := 112) (n := 3) (o' := 115) (Zn (p := pt 2 115) (v := dgV x.head.head.root) (Zi (b := 2) (o := 0) (n := 112) (o' := 112) (Zi (b := 2) (o := 112) (n := 0) (o' := 112) (Zi (b := 2) (o := 112) (n := 2) (o' := 114) (Zn (p := pt 2 114) (v := Iv x.head.head.size) (Zi (b := 2) (o := 0) (n := 0) (o' := 0) (Zn (p := pt 2 0) (v := Iv x.index) ?_))))))))))))))))))))))))
  refine Zn (p := pt 3 0) (v := dgV ((Zap kk x.item).1)) (Zi (b := 2) (o := 0) (n := 111) (o' := 111) (Zn (p := pt 2 111) (v := slv 0 0 n c) ?_))
  refine Zab (e := [some (0, 0)]) (nid := 0) (Zte (G := G) kk hG x.head.head.root ((Zap kk x.item).1) x.head.head.size x.index x.proof n c hn (by omega) (by omega) (by omega) (by omega) (by omega) (by omega)) (vals := [dgV x.head.head.root, Iv x.head.head.size, Iv x.index, dgV ((Zap kk x.item).1), slv 0 0 n c]) (v := Iv (Zhk kk x.head.head.root ((Zap kk x.item).1) x.head.head.size x.index x.proof)) (H' := [dsR x.proof, dgB master, Y8 x n c, dgB ((Zap kk x.item).1)]) rfl rfl rfl rfl rfl rfl rfl ⟨⟨rfl, rfl, rfl, rfl, ⟨rfl, rfl, rfl, by first | omega | exact Nat.le_refl _, by first | omega | exact Nat.le_refl _⟩, trivial⟩, ⟨(Zh4 rfl), trivial⟩, rfl, rfl, rfl⟩ rfl (by kernel_rfl) ?_
  refine Zb (Iv (Zhk kk x.head.head.root ((Zap kk x.item).1) x.head.head.size x.index x.proof)) (Za (Zc (Zs (Zu ?_))))
  rw [show Zy kk master x = (Zhk kk x.head.head.root ((Zap kk x.item).1) x.head.head.size x.index x.proof) from Zy1 (by omega) (by omega)]
  exact Zm (v := Iv (Zhk kk x.head.head.root ((Zap kk x.item).1) x.head.head.size x.index x.proof)) rfl rfl rfl (by kernel_rfl) rfl
  refine Zj (vx := Iv (Zcd kk master x.head)) (vy := Iv 0) rfl rfl (.bool false) rfl rfl (Zgm (by omega)) ?_
  refine Zd (.bool false) (Zg (Zg (Zl (.bool false) (Zb (.bool false) (Za (Zc (Zt rfl (Z0 (Zc (Ze (Zf (Zd (Iv (Zcd kk master x.head)) ?_))))))))))))
  refine Zj (vx := Iv (Zcd kk master x.head)) (vy := Iv 0) rfl rfl (.bool true) rfl rfl (Zek (by omega)) ?_
  refine Zb (.bool true) (Za (Zc (Zv rfl (Zbn (Zat (Zhs rfl (Zat (Zay rfl (Zc (Ze (Ze (Zf (Zd (Iv (Zcd kk master x.head)) (Zb (Iv (Zcd kk master x.head)) (Za (Zc (Zs (Zaa (Zct (Zaa (Zu ?_)))))))))))))))))))))
  rw [show Zy kk master x = Zcd kk master x.head from Z5a (by omega)]
  exact Zm (v := Iv (Zcd kk master x.head)) rfl rfl rfl (by kernel_rfl) rfl
end Go.Flat
