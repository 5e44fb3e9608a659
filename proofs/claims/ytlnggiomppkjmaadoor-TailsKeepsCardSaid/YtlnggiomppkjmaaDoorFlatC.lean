/- Walks. -/
import Derived.Test.YtlnggiomppkjmaaDoorFlatB
import Derived.ChangeSame
import Derived.RowKit
import Derived.OpenShut
import Derived.Lib.LaidTab
import Derived.FnData
import Derived.LaidLaws
import Derived.MakeChecks
set_option linter.unusedVariables false
set_option linter.unusedSimpArgs false
section
/- The end of a function whose blocks lie where they lay. -/
namespace Go.Flat
def idE (n : Nat) : Emb := (List.range n).map fun i => some (i, 0)
theorem Zio {n i : Nat} (h : i < n) : (idE n)[i]? = some (some (i, 0)) := by simp [idE, h]
def Zeg (n : Nat) : Value → Bool
  | .pointer (some ⟨b, _, none⟩) => decide (b < n)
  | .slice (some ⟨b, _, none⟩) _ _ => decide (b < n)
  | .slice (some ⟨_, _, some _⟩) _ _ => false
  | _ => true
def Zib (n : Nat) : Value → Bool
  | .func _ xs ys => xs.toList.all (Zeg n) && ys.toList.all (Zeg n)
  | v => Zeg n v
theorem Zlr {n : Nat} {v : Value} (h : Zeg n v = true) : Zc8 (idE n) v = v ∧ Zcx (inE (idE n)) v = true := by
 cases v
 case pointer a =>
  rcases a with _ | ⟨b, o, _ | q⟩
  ·exact ⟨rfl, rfl⟩
  ·simp only [Zeg, decide_eq_true_eq] at h
   simp [Zc8, Zcx, inE, Zio h]
  ·exact ⟨rfl, rfl⟩
 case slice a m c =>
  rcases a with _ | ⟨b, o, _ | q⟩
  ·exact ⟨rfl, rfl⟩
  ·simp only [Zeg, decide_eq_true_eq] at h
   simp [Zc8, Zcx, inE, Zio h]
  ·cases h
 all_goals exact ⟨rfl, rfl⟩
theorem Z0k {n : Nat} {v : Value} (h : Zib n v = true) : Ze6 (idE n) v = v ∧ Zan (inE (idE n)) v = true := by
  revert h
  refine Zem (P := fun v => Zib n v = true → Ze6 (idE n) v = v ∧ Zan (inE (idE n)) v = true) ?_ ?_ v
  · intro v hf h
    have h' : Zeg n v = true := by cases v <;> first | exact h | cases hf
    rw [Zjh hf, Zia hf]; exact Zlr h'
  · intro f xs ys h
    simp only [Zib, Bool.and_eq_true, List.all_eq_true] at h
    refine ⟨?_, ?_⟩
    · simp only [Ze6]
      have e1 : xs.map (Zc8 (idE n)) = xs := by
        conv => rhs; rw [← Array.map_id xs]
        exact Array.map_congr_left fun x hx => (Zlr (h.1 x (Array.mem_toList_iff.2 hx))).1
      have e2 : ys.map (Zc8 (idE n)) = ys := by
        conv => rhs; rw [← Array.map_id ys]
        exact Array.map_congr_left fun x hx => (Zlr (h.2 x (Array.mem_toList_iff.2 hx))).1
      rw [e1, e2]
    · simp only [Zan, Bool.and_eq_true, List.all_eq_true]
      exact ⟨fun x hx => (Zlr (h.1 x hx)).2, fun x hx => (Zlr (h.2 x hx)).2⟩
def Zbe (n : Nat) (x : Blk) : Bool := decide (0 < x.sz) && (!x.fix || !x.mv) && (x.pur || x.cells.all (Zib n))
section
variable {P : Program} {G : Glob} {s : St} {fn : Func} {σ σ' : List Blk} {res v : Value}
theorem Zm (hr : Zd9 P G fn s = some v) (hh : s.heap.take σ'.length = σ') (hl : decide (σ.length ≤ σ'.length) = true) (hn : σ'.all (Zbe σ'.length) = true) (hv : Zku (idE σ'.length) res v) : ∃ v e, EndOK P G fn σ res σ' s v e := by
  have hget : ∀ i, i < σ'.length → s.heap[i]? = σ'[i]? := fun i hi => by
    have : (s.heap.take σ'.length)[i]? = s.heap[i]? := by rw [List.getElem?_take, if_pos hi]
    rw [← this, hh]
  simp only [List.all_eq_true, Zbe, Bool.and_eq_true, decide_eq_true_eq, Bool.or_eq_true, Bool.not_eq_true'] at hn
  refine ⟨v, idE σ'.length, hr, ⟨by simp [idE], ?_, ?_⟩, ?_, hv, ⟨by simpa using hl, ?_⟩⟩
  · intro i p L hp hL
    have hi : i < σ'.length := (List.getElem?_eq_some_iff.1 hL).1
    rw [Zio hi] at hp
    injection hp with hp; subst hp
    obtain ⟨⟨h1, h3⟩, h2⟩ := hn L (List.mem_of_getElem? hL)
    refine ⟨L, by rw [hget i hi]; exact hL, ⟨h1, h1, fun h => by rcases h3 with h3 | h3; rw [h] at h3; cases h3; exact h3⟩, rfl, fun _ => rfl, fun h => h, by omega, fun hw => ⟨hw, rfl, rfl, fun h => h, rfl, rfl⟩, ?_⟩
    simp only [List.drop_zero, List.take_length]
    unfold Zci
    split
    · rfl
    · rename_i hp
      rcases h2 with h2 | h2
      · exact absurd h2 hp
      · conv => lhs; rw [← List.map_id L.cells]
        exact List.map_congr_left fun x hx => ((Z0k (h2 x hx)).1).symm
  · intro i j id sh sh' L hij h1 h2 hw h3
    have hi : i < σ'.length := (List.getElem?_eq_some_iff.1 h2).1
    have hj : j < σ'.length := by have := (List.getElem?_eq_some_iff.1 h3).1; simpa [idE] using this
    rw [Zio hi] at h1
    rw [Zio hj] at h3
    injection h1 with h1; injection h1 with h1; injection h1 with h1
    injection h3 with h3; injection h3 with h3; injection h3 with h3
    omega
  · intro i L hL
    obtain ⟨h1, h2⟩ := hn L (List.mem_of_getElem? hL)
    rcases h2 with h2 | h2
    · exact .inl h2
    · exact .inr fun v hv => (Z0k (h2 v hv)).2
  · intro b L hb hL
    have hi : b < σ'.length := (List.getElem?_eq_some_iff.1 hL).1
    exact ⟨L, by rw [hget b hi]; exact hL, Zio hi, rfl, rfl, rfl, rfl, rfl⟩
end
end Go.Flat
end
section
/- Rows that grow; nil rows. -/
namespace Go.Flat
abbrev Iv (z : Int) : Value := .int .i64 z
abbrev slv (b o n c : Nat) : Value := .slice (some ⟨b, o, none⟩) n c
section
variable {G : Glob} {nt n0 : Nat}
theorem Za7.nilCell {T : Nat → Value} {H : List Blk} {k j b : Nat} {blk : Blk} (pur : Bool) (sz : Nat) (hb : Zby H b = true) (hsz : 0 < sz) (hk : H[k]? = some blk) (h0 : 0 < blk.sz) (hp : blk.pur = false) (hj : blk.cells[j]? = some (.slice none 0 0)) :
    Za7 G nt n0 ⟨T, H⟩ ⟨T, (Zeo H b (Zb6 pur false sz [])).set k { blk with cells := blk.cells.set j (slv b 0 0 0) }⟩ := by
  intro E m a w hE hr
  obtain ⟨m', h1, h2, h3, h4⟩ := hr.heap.emptyRow hr.frame hb pur sz hsz
  have hkb : k ≠ b := by
    rintro rfl
    unfold Zby at hb
    simp only [hk, Bool.or_eq_true, beq_iff_eq] at hb
    rcases hb with hb | hb
    · subst hb; simp at hk
    · omega
  have hget : (Zeo H b (Zb6 pur false sz []))[k]? = some blk := by
    unfold Zeo
    split
    · rename_i he
      have : k < H.length := (List.getElem?_eq_some_iff.1 hk).1
      rw [List.getElem?_append_left this]; exact hk
    · rw [List.getElem?_set_ne (fun e => hkb e.symm)]; exact hk
  have hlt : k < (Zeo H b (Zb6 pur false sz [])).length := (List.getElem?_eq_some_iff.1 hget).1
  obtain ⟨r, hrk⟩ := h1.live k blk hget h0
  refine ⟨m', hr.size, fun i => (hr.tmps i).mono h3, hr.defers, ⟨?_, ?_, ?_, ?_, h1.own, h1.clean, h1.dis, h1.glob, h1.gwr⟩, h2⟩
  · intro i q hq
    obtain ⟨B, g1, g2⟩ := h1.reg i q hq
    by_cases hi : k = i
    · subst hi
      rw [hget] at g1; injection g1 with g1; subst g1
      exact ⟨_, List.getElem?_set_self hlt, by simpa using g2⟩
    · exact ⟨B, by rw [List.getElem?_set_ne hi]; exact g1, g2⟩
  · intro i B hB h
    by_cases hi : k = i
    · subst hi; exact ⟨r, hrk⟩
    · rw [List.getElem?_set_ne hi] at hB
      exact h1.live i B hB h
  · intro i B q x v hB hq hv
    by_cases hi : k = i
    · subst hi
      rw [List.getElem?_set_self hlt] at hB
      injection hB with hB; subst hB
      simp only at hv
      by_cases hx : j = x
      · subst hx
        have hjl : j < blk.cells.length := (List.getElem?_eq_some_iff.1 hj).1
        rw [List.getElem?_set_self hjl] at hv
        injection hv with hv; subst hv
        obtain ⟨v', g1, g2⟩ := h1.cell k blk q j _ hget hq hj
        refine ⟨v', g1, ?_⟩
        have : v' = .slice none 0 0 := g2
        subst this
        exact ⟨_, none, 0, h4, rfl, Nat.le_refl _, Nat.le_refl _, fun h => by omega⟩
      · rw [List.getElem?_set_ne hx] at hv
        exact h1.cell k blk q x v hget hq hv
    · rw [List.getElem?_set_ne hi] at hB
      exact h1.cell i B q x v hB hq hv
  · intro i B hB hpu v hv
    by_cases hi : k = i
    · subst hi
      rw [List.getElem?_set_self hlt] at hB
      injection hB with hB; subst hB
      simp only at hpu
      rw [hp] at hpu; cases hpu
    · rw [List.getElem?_set_ne hi] at hB
      exact h1.pur i B hB hpu v hv
theorem Za7.nilTmp {T : Nat → Value} {H : List Blk} {i b : Nat} (pur : Bool) (sz : Nat) (hb : Zby H b = true) (hsz : 0 < sz) (hi : T i = .slice none 0 0) :
  Za7 G nt n0 ⟨T, H⟩ ⟨upd T i (slv b 0 0 0), Zeo H b (Zb6 pur false sz [])⟩ := by
 intro E m a w hE hr
 obtain ⟨m', h1, h2, h3, h4⟩ := hr.heap.emptyRow hr.frame hb pur sz hsz
 refine ⟨m', hr.size, fun q => ?_, hr.defers, h1, h2⟩
 simp only [upd]
 split
 ·rename_i hq
  subst hq
  have := hr.tmps q
  simp only [hi] at this
  have hv : a.tmps.getD q undef = .slice none 0 0 := this
  rw [hv]
  exact ⟨_, none, 0, h4, rfl, Nat.le_refl _, Nat.le_refl _, fun h => by omega⟩
 ·exact (hr.tmps q).mono h3
end
section
variable {P : Program} {H : List Blk} {t : TypeId} {b o n c sz by_ : Nat} {zc : List Value} {blk : Blk}
theorem Zfy {q : Value} {p : Nat × List Value} {n' : Nat} (ht : Zda P t = some (sz, zc, by_)) (hs : Zg8 H sz q = some p) (hb : H[b]? = some blk) (hw : (blk.wr && !blk.fix && blk.mv && blk.pur) = true) (hsz : blk.sz = sz) (hz : zc.length = sz) (hpp : p.2.all Zba = true) (hl : o + n * sz ≤ blk.cells.length) (hby : 0 < by_) (hn : n + p.1 = n') (hm : n' * by_ ≤ 140737488355328) :
  Znt P H t (slv b o n c) q = some (slv b 0 n' n', b, { blk with cells := (blk.cells.drop o).take (n * sz) ++ p.2 }) := by
 subst hn
 simp only [Bool.and_eq_true, Bool.not_eq_true'] at hw
 obtain ⟨⟨⟨w1, w2⟩, w3⟩, w4⟩ := hw
 unfold Znt
 rw [ht]
 simp only [hs, Option.bind_some, hb, w1, w2, w3, w4, hsz, hz, Zdr, hpp, Zbz, if_true]
 simp [hl, hby, hm]
theorem Zjp {k : IntKind} {h : Nat} {e : TypeId} {i : TypeInfo} {x : Int} (hu : P.underlying t = some (.slice e)) (hi : P.info? e = some i) (hx : x = (h : Int)) (hc : h ≤ c) (ho : Zm6 H b i.size = true) : Zg7 P H t (slv b o n c) none (some (.int k x)) = some (slv b o h c) := by
 subst hx
 unfold Zg7
 rw [hu]
 simp only [Zdk, Zi5, Option.bind_some]
 rw [if_pos ⟨by omega, by omega⟩]
 simp [hi, ho]
theorem Ze2 {k : IntKind} {l j sz m c' : Nat} {e : TypeId} {i : TypeInfo} {x : Int} (hu : P.underlying t = some (.slice e)) (hi : P.info? e = some i) (hz : i.size = sz) (hx : x = (l : Int)) (hn : n ≤ c) (hc : l ≤ n) (ho : Zm6 H b i.size = true) (hj : o + l * sz = j) (hm : n - l = m) (hc' : c - l = c') : Zg7 P H t (slv b o n c) (some (.int k x)) none = some (slv b j m c') := by
 subst hx; subst hz; subst hm; subst hc'
 unfold Zg7
 rw [hu]
 simp only [Zdk, Zi5, Option.bind_some]
 rw [if_pos ⟨by omega, by omega⟩]
 simp [hi, ho, hj]
end
end Go.Flat
end
section
/- A call that moves no row. -/
namespace Go.Flat
section
variable {P : Program} {G : Glob} {nt : Nat} {ops l : List Oper} {K : Trace → St → Prop} {tr : Trace} {T : Nat → Value} {H H' : List Blk} {d : Tmp} {ty : TypeId} {ps : String} {af : Array Edge} {g : Option (Nat × Bool)}
theorem Zco {e : Emb} {id sh : Nat} {L B : Blk} (hB : H[id]? = some B) (hf : (decide (0 < L.sz) && decide (0 < B.sz) && L.fix == B.fix && (L.fix || L.sz == B.sz) && (!L.pur || B.pur) && !L.wr && (!B.fix || !B.mv)) = true) (hl : sh + L.cells.length ≤ B.cells.length) (hc : (B.cells.drop sh).take L.cells.length = Zci e L) : Zd3 H e (some (id, sh)) L := by
  simp only [Bool.and_eq_true, decide_eq_true_eq, beq_iff_eq, Bool.or_eq_true, Bool.not_eq_true'] at hf
  obtain ⟨⟨⟨⟨⟨⟨h1, h2⟩, h3⟩, h4⟩, h5⟩, h6⟩, h7⟩ := hf
  simp only [Zd3, hB]
  refine ⟨⟨h1, h2, fun h => by rcases h7 with h7 | h7; rw [h] at h7; cases h7; exact h7⟩, h3, fun h => ?_, fun h => ?_, hl, fun h => ?_, hc⟩
  · rcases h4 with h4 | h4
    · rw [h] at h4; cases h4
    · exact h4
  · rcases h5 with h5 | h5
    · rw [h] at h5; cases h5
    · exact h5
  · rw [h] at h6; cases h6
theorem Zad {e : Emb} {id : Nat} {L B : Blk} (hB : H[id]? = some B) (hf : (decide (0 < L.sz) && L.fix == B.fix && L.sz == B.sz && L.pur == B.pur && B.wr && (!L.mv || B.mv) && (!B.fix || !B.mv)) = true) (hl : L.cells.length = B.cells.length) (hc : B.cells = Zci e L) : Zd3 H e (some (id, 0)) L := by
  simp only [Bool.and_eq_true, decide_eq_true_eq, beq_iff_eq, Bool.or_eq_true, Bool.not_eq_true'] at hf
  obtain ⟨⟨⟨⟨⟨⟨h1, h3⟩, h4⟩, h5⟩, h6⟩, h7⟩, h8⟩ := hf
  unfold Zd3
  simp only [hB]
  show (0 < L.sz ∧ 0 < B.sz ∧ (B.fix = true → B.mv = false)) ∧ L.fix = B.fix ∧ (L.fix = false → L.sz = B.sz) ∧ (L.pur = true → B.pur = true) ∧ 0 + L.cells.length ≤ B.cells.length ∧ (L.wr = true → B.wr = true ∧ True ∧ L.sz = B.sz ∧ (L.mv = true → B.mv = true) ∧ L.pur = B.pur ∧ L.cells.length = B.cells.length) ∧ (B.cells.drop 0).take L.cells.length = Zci e L
  refine ⟨⟨h1, h4 ▸ h1, fun h => by rcases h8 with h8 | h8; rw [h] at h8; cases h8; exact h8⟩, h3, fun _ => h4, fun h => h5 ▸ h, by omega, fun h => ⟨h6, trivial, h4, fun h => ?_, h5, hl⟩, ?_⟩
  · rcases h7 with h7 | h7
    · rw [h] at h7; cases h7
    · exact h7
  · rw [List.drop_zero, hl, List.take_length]; exact hc
def Zr3 (H : List Blk) (e : Emb) (σ : List Blk) (res : Value) (σ' : List Blk) (nid : Nat) : Delta :=
  { val := res, sets := Zb5 H e σ σ' nid, foot := Zso e ++ (List.range (σ'.length - σ.length)).map (nid + ·) }
structure CallN (H : List Blk) (e : Emb) (argsL argsC : List Value) (σ σ' : List Blk) (nid : Nat) : Prop where
  args : Zix e argsL argsC
  emb : Zhu H e e σ
  dist : Zil e σ = true
  names : Zf7 e σ = true
  shape : Zgr H σ σ' nid = true
theorem Z5 {e : Emb} {nid : Nat} {f : Operand} {args : Array Operand} {ts : Array TypeId} {k : FuncId} {first captured : Array Value} {argsL vals : List Value} {σ σ' : List Blk} {res v : Value} (hC : Z6 P G k argsL σ res σ') (hg : gd nt T ops g = some true) (hd : Zbb nt (some d) = true) (hf : St.eval ⟨T, H⟩ f = .func (.func k) first captured) (hcap : (first.toList.all Zdy && captured.toList.all Zdy) = true) (hk : Zd6 P k = true)
  (hm : (Za8 e σ).length = 0) (ha : first.toList ++ args.toList.map (St.eval ⟨T, H⟩) ++ captured.toList = vals) (hok : CallN H e argsL vals σ σ' nid) (hv : Zmq (Zei e nid (σ'.length - σ.length)) res = v)
  (hH : Zd0 H (Zb5 H e σ σ' nid) = H')
  (kk : R P G nt ops K l (tr ++ [(⟨some d, .call { callee := .value f, args := args, argTypes := ts }, ty, ps, af, g⟩, Zr3 H e σ v σ' nid)]) (upd T d v) H') : R P G nt ops K (⟨some d, .call { callee := .value f, args := args, argTypes := ts }, ty, ps, af, g⟩ :: l) tr T H := by
 have hm' : Za8 e σ = [] := List.length_eq_zero_iff.1 hm
 subst hv
 have hD : Zhj H e σ res σ' nid = Zr3 H e σ (Zmq (Zei e nid (σ'.length - σ.length)) res) σ' nid := by
  unfold Zhj Zr3; rw [hm']; rfl
 refine Zcp (e := e) (nid := nid) hC hg hd hf hcap hk ha ⟨hok.args, by rw [hm']; exact hok.emb, hok.dist, hok.names, by rw [hm']; exact hok.shape, by rw [hm']; exact Nat.zero_le _⟩ rfl (T' := T) (by rw [hm']; rfl) (H' := H') (by rw [hm']; exact hH) ?_
 rw [hD]; exact kk
end
end Go.Flat
end
section
/- Rows by a list. -/
namespace Go.Flat
section
variable {P : Program} {G : Glob} {t : TypeId} {m n : Nat} {H : List Blk} {b o : Nat} {blk : Blk}
theorem Zlh {v : Value} (hk : Zdw P t = some (false, m)) (hb : H[b]? = some blk) (hv : blk.cells[o]? = some v) (h1 : Zhf v = true) : Zde P G t H (.pointer (some ⟨b, o, none⟩)) = some v := by
 unfold Zde
 rw [hk]
 simp [hb, rdA, hv, h1]
theorem Zgv {cs : List Value} (hk : Zdw P t = some (true, n)) (hb : H[b]? = some blk) (hl : o + n ≤ blk.cells.length) (hv : (blk.cells.drop o).take n = cs) : Zde P G t H (.pointer (some ⟨b, o, none⟩)) = some (.agg cs.toArray) := by
 unfold Zde
 rw [hk]
 simp [hb, rdA, hl, hv]
theorem Zvg {v : Value} {cs : List Value} (hk : Zdw P t = some (false, 1)) (hb : H[b]? = some blk) (hw : blk.wr = true) (hc : blk.cells = cs) (hi : o < cs.length) (h1 : v.cells = #[v]) (h2 : (if blk.pur then Zba v else Zi1 v) = true) :
  Zfn P t H (.pointer (some ⟨b, o, none⟩)) v = some (b, { blk with cells := cs.set o v }) := by
 subst hc
 unfold Zfn
 rw [hk]
 simp only [hb, Option.bind_some, hw, h1]
 rw [if_pos]
 ·congr 4
  unfold splice
  rw [List.set_eq_take_append_cons_drop, if_pos hi]
  simp
 ·simp only [Zdr, Bool.true_and, Bool.and_eq_true, decide_eq_true_eq, beq_iff_eq]
  refine ⟨⟨rfl, ?_⟩, by omega⟩
  by_cases hp : blk.pur = true
  ·rw [if_pos hp] at h2 ⊢; simpa using h2
  ·rw [if_neg hp] at h2 ⊢; simpa using h2
theorem Zz0 {sz by_ : Nat} {zc : List Value} {li ci : Int} {c nid : Nat} {k k' : IntKind} (ht : Zda P t = some (sz, zc, by_)) (hl : li = (n : Int)) (hc : ci = (c : Int)) (h1 : n ≤ c) (h2 : by_ * c ≤ 281474976710656) (h3 : c ≤ 9223372036854775807) (h4 : (zc.length == sz && decide (0 < sz) && zc.all Zba && Zby H nid) = true) :
  Zoq P H t (.int k li) (.int k' ci) nid = some (slv nid 0 n c, Zb6 (zc.all Zfm) false sz (rep n zc)) := by
 subst hl; subst hc
 simp only [Bool.and_eq_true, beq_iff_eq, decide_eq_true_eq] at h4
 unfold Zoq
 rw [ht]
 simp only [Zi5]
 have h2' : ((by_ : Int) * (c : Int)) ≤ 281474976710656 := by rw [← Int.natCast_mul]; omega
 rw [if_pos ⟨by omega, by omega, h2', by omega, h4.1.1.1, h4.1.1.2, h4.1.2, h4.2⟩]
 rw [Int.toNat_natCast, Int.toNat_natCast]
theorem Z2w (n : Nat) (z : Value) : rep n [z] = List.replicate n z := by
 unfold rep
 induction n with
 | zero => rfl
 | succ n ih => rw [List.replicate_succ, List.replicate_succ, List.flatten_cons, ih]; rfl
theorem Z0z {sz c : Nat} {cs : List Value} (hb : H[b]? = some blk) (hl : o + n * sz ≤ blk.cells.length) (hc : (blk.cells.drop o).take (n * sz) = cs) : Zg8 H sz (slv b o n c) = some (n, cs) := by
 unfold Zg8
 simp [hb, hl, hc]
theorem Zt6 (l : List (BitVec 8)) : Zij (l.map w8) = some (l.map UInt8.ofBitVec) := by
 induction l with
 | nil => rfl
 | cons x l ih =>
  simp only [List.map_cons, Zij, Zr0, Option.bind_some, ih, Option.map_some]
  congr 2
  apply UInt8.toBitVec_inj.1
  simp
theorem Zha {src dst e : TypeId} {c : Nat} {l : List (BitVec 8)} (h1 : P.underlying src = some (.slice e)) (h2 : P.underlying dst = some .string) (h3 : Zho P e = true) (hb : H[b]? = some blk) (hl : o + n ≤ blk.cells.length) (hc : (blk.cells.drop o).take n = l.map w8) : Zrp P H src dst (slv b o n c) = some (.string ⟨(l.map UInt8.ofBitVec).toArray⟩) := by
 unfold Zrp
 rw [h1, h2]
 simp only [h3, if_true, hb, Option.bind_some, hl, hc, Zt6, Option.map_some]
end
theorem Ze7 {e : Emb} {res v : Value} (hp : Za2 res = true) (h : v = res) : Zku e res v := by
  subst h
  have ht := Zgp hp
  cases v <;> first | (show Zii _ _ _; unfold Zii; rw [if_pos hp]) | cases ht
theorem Ze1 {α : Type} {enc : α → Value} {n : Nat} {w : Nat → α} (h : ∀ x, Zba (enc x) = true) : Za2 (.agg (Zah enc n w).toArray) = true := by
 show (Zah enc n w).toArray.toList.all Zba = true
 exact Z0r h
end Go.Flat
end
section
/- A byte of a text. -/
namespace Go.Flat
def Zqw (n : Nat) : Nat := if n = 0 then 0 else n.log2 + 1
def Z6p (b : ByteArray) : Bool := (List.range 256).all fun i => match b.data.toList[i]? with | some x => x.toNat == Zqw i | none => false
theorem Z22 {w : Nat} (x : BitVec w) (n : Nat) : (x >>> n).toNat = x.toNat / 2 ^ n := by rw [BitVec.toNat_ushiftRight, Nat.shiftRight_eq_div_pow]
end Go.Flat
end
section
/- 1 moved to the left. -/
namespace Go.Flat
end Go.Flat
end
section
/- Trailing zeros. -/
namespace Go.Flat
theorem Z05 {P : Program} {n : Int} {a : BitVec 64} (h : BitVec.ofInt 64 n = a) : unD P .neg (.int .u64 n) = some (.int .u64 ((-a).toNat : Int)) := by
 subst h
 unfold unD
 rw [if_pos (show Za2 (.int .u64 n) = true from rfl)]
 have : Z0 P (Op.unary .neg (.int .u64 n)) = some (.int .u64 (IntKind.u64.wrap (0 - n))) := rfl
 rw [this, Z07, Int.zero_sub, BitVec.ofInt_neg]; rfl
theorem Zpj {P : Program} {G : Glob} {t : TypeId} {H : List Blk} {α : Type} {enc : α → Value} {n m g o q : Nat} {w : Nat → α} (hk : Zdw P t = some (false, m)) (hG : G g = some (Zah enc n w)) (hi : o < n) (h1 : ∀ x, Zhf (enc x) = true) : Zde P G t H (.pointer (some ⟨g, o, some q⟩)) = some (enc (w o)) := by
 unfold Zde
 rw [hk]
 simp only [hG, Option.bind_some, rdA, Zc9 hi, h1, if_true]
 rfl
def dbK : BitVec 64 := BitVec.ofInt 64 285870213051353865
def dbF (i : Nat) : Nat := ((List.range 64).find? fun (k : Nat) => (((dbK <<< k : BitVec 64) >>> (58 : Nat) : BitVec 64).toNat == i)).getD 0
theorem Z37 (i : Nat) : dbF i < 64 := by
 unfold dbF
 cases h : (List.range 64).find? fun (k : Nat) => (((dbK <<< k : BitVec 64) >>> (58 : Nat) : BitVec 64).toNat == i) with
 | none => decide
 | some k => have := List.mem_of_find?_eq_some h; simpa using this
abbrev u8N (n : Nat) : Value := .int .u8 (n : Int)
def tzN : Nat → Nat → Nat
  | 0, _ => 0
  | f + 1, n => if n % 2 = 1 then 0 else tzN f (n / 2) + 1
def tz (n : Nat) : Nat := tzN n n
theorem Zty : ∀ (f g n : Nat), 0 < n → n ≤ f → n ≤ g → tzN f n = tzN g n
 | 0, _, n, h, h1, _ => by omega
 | _, 0, n, h, _, h1 => by omega
 | f + 1, g + 1, n, h, h1, h2 => by
  unfold tzN
  split
  ·rfl
  ·rw [Zty f g (n / 2) (by omega) (by omega) (by omega)]
theorem Zrq {n : Nat} (h : n % 2 = 1) : tz n = 0 := by
 unfold tz
 obtain ⟨m, rfl⟩ : ∃ m, n = m + 1 := ⟨n - 1, by omega⟩
 unfold tzN
 rw [if_pos h]
theorem Zl1 {m : Nat} (h : 0 < m) : tz (2 * m) = tz m + 1 := by
 unfold tz
 obtain ⟨q, hq⟩ : ∃ q, 2 * m = q + 1 := ⟨2 * m - 1, by omega⟩
 conv => lhs; rw [hq]; unfold tzN
 rw [← hq, if_neg (by omega), show 2 * m / 2 = m from by omega, Zty q m m h (by omega) (Nat.le_refl _)]
theorem Z04 : ∀ (j m : Nat), 0 < m → m < 2 ^ j → tz (2 ^ j + m) = tz m
 | 0, m, h, h1 => by simp at h1; omega
 | j + 1, m, h, h1 => by
  rw [Nat.pow_succ] at h1
  have hp : 0 < 2 ^ j := Nat.pow_pos (by decide)
  rcases Nat.mod_two_eq_zero_or_one m with h2 | h2
  ·obtain ⟨k, rfl⟩ : ∃ k, m = 2 * k := ⟨m / 2, by omega⟩
   rw [show 2 ^ (j + 1) + 2 * k = 2 * (2 ^ j + k) from by rw [Nat.pow_succ]; omega, Zl1 (by omega), Zl1 (by omega), Z04 j k (by omega) (by omega)]
  ·rw [Zrq h2, Zrq (by rw [Nat.pow_succ]; omega)]
theorem Z3s : ∀ (j n : Nat), 0 < n → n < 2 ^ j → tz n < j
 | 0, n, h, h1 => by simp at h1; omega
 | j + 1, n, h, h1 => by
  rcases Nat.mod_two_eq_zero_or_one n with h2 | h2
  ·obtain ⟨k, rfl⟩ : ∃ k, n = 2 * k := ⟨n / 2, by omega⟩
   rw [Zl1 (by omega)]
   have := Z3s j k (by omega) (by rw [Nat.pow_succ] at h1; omega)
   omega
  ·rw [Zrq h2]; omega
theorem iso : ∀ n, 0 < n → BitVec.ofNat 64 n &&& -(BitVec.ofNat 64 n) = 1#64 <<< tz n := by
 intro n
 induction n using Nat.strongRecOn with
 | ind n ih =>
  intro h
  rcases Nat.mod_two_eq_zero_or_one n with h2 | h2
  ·obtain ⟨k, rfl⟩ : ∃ k, n = 2 * k := ⟨n / 2, by omega⟩
   have e := ih k (by omega) (by omega)
   have e1 : BitVec.ofNat 64 (2 * k) = BitVec.ofNat 64 k <<< 1 := by
    apply BitVec.eq_of_toNat_eq
    simp only [BitVec.toNat_ofNat, BitVec.toNat_shiftLeft]
    rw [Nat.shiftLeft_eq]
    omega
   have e2 : -(BitVec.ofNat 64 k <<< 1) = (-(BitVec.ofNat 64 k)) <<< 1 := by
    generalize BitVec.ofNat 64 k = x
    apply BitVec.eq_of_toNat_eq
    simp only [BitVec.toNat_neg, BitVec.toNat_shiftLeft, Nat.shiftLeft_eq]
    omega
   rw [Zl1 (by omega), e1, e2, ← BitVec.shiftLeft_and_distrib, e, BitVec.shiftLeft_add]
  ·obtain ⟨k, rfl⟩ : ∃ k, n = 2 * k + 1 := ⟨n / 2, by omega⟩
   rw [Zrq h2]
   have e2 : -(BitVec.ofNat 64 (2 * k + 1)) = ~~~(BitVec.ofNat 64 (2 * k)) := by
    apply BitVec.eq_of_toNat_eq
    simp only [BitVec.toNat_neg, BitVec.toNat_not, BitVec.toNat_ofNat]
    omega
   rw [e2]
   apply BitVec.eq_of_getLsbD_eq
   intro i hi
   simp only [BitVec.getLsbD_and, BitVec.getLsbD_not, BitVec.getLsbD_ofNat, hi, decide_true, Bool.true_and]
   cases i with
   | zero => simp
   | succ i =>
    rw [Nat.testBit_succ, Nat.testBit_succ, show (2 * k + 1) / 2 = k from by omega, show 2 * k / 2 = k from by omega]
    have : (1#64 <<< 0).getLsbD (i + 1) = false := by
     rw [BitVec.shiftLeft_zero, BitVec.getLsbD_one]; simp
    rw [this]
    cases k.testBit i <;> rfl
theorem Z38 : ∀ t : Fin 64, dbF (((1#64 <<< t.val) * dbK) >>> (58 : Nat)).toNat = t.val := by decide +kernel
theorem Z54 {n : Nat} (h : 0 < n) (h1 : n < 2 ^ 64) : dbF (((BitVec.ofNat 64 n &&& -(BitVec.ofNat 64 n)) * dbK) >>> (58 : Nat)).toNat = tz n := by
 rw [iso n h]
 exact Z38 ⟨tz n, Z3s 64 n h h1⟩
end Go.Flat
end
section
/- Powers of 2, and how many peaks there are. -/
namespace Go.Flat
def big (n : Nat) : Nat := 2 ^ n.log2
theorem Zl9 {n : Nat} (h : 0 < n) : big n ≤ n ∧ n < 2 * big n ∧ 0 < big n := by
 have h1 := Nat.log2_self_le (n := n) (by omega)
 have h2 := Nat.lt_log2_self (n := n)
 rw [Nat.pow_succ] at h2
 unfold big
 exact ⟨h1, by omega, Nat.pow_pos (by decide)⟩
theorem Z1k {n : Nat} (h : 0 < n) (h2 : n + 1 < 2 * big n) : big (n + 1) = big n := by
 have := Zl9 h
 unfold big at *
 congr 1
 rw [Nat.log2_eq_iff (by omega), Nat.pow_succ]; omega
theorem Z1l {n : Nat} (h : 0 < n) (h2 : n + 1 = 2 * big n) : big (n + 1) = n + 1 := by
 have := Zl9 h
 unfold big at *
 have e : (n + 1).log2 = n.log2 + 1 := by rw [Nat.log2_eq_iff (by omega), Nat.pow_succ, Nat.pow_succ]; omega
 rw [e, Nat.pow_succ]; omega
theorem Z28 {n : Nat} (h : 0 < n) : tz (n + 1) = tz (n - big n + 1) + (if n + 1 = 2 * big n then 1 else 0) := by
 obtain ⟨h1, h2, h3⟩ := Zl9 h
 by_cases hd : n + 1 = 2 * big n
 ·rw [if_pos hd, show n - big n + 1 = big n from by omega, hd, Zl1 h3]
 ·rw [if_neg hd, Nat.add_zero]
  have := Z04 n.log2 (n - big n + 1) (by omega) (by unfold big at *; omega)
  rw [← this]
  congr 1
  unfold big at *; omega
def pcF (n : Nat) : Nat := if h : n = 0 then 0 else 1 + pcF (n - big n)
termination_by n
decreasing_by
  have := Zl9 (n := n) (by omega)
  omega
theorem Zjk : pcF 0 = 0 := by rw [pcF, dif_pos rfl]
theorem Zis {n : Nat} (h : 0 < n) : pcF n = 1 + pcF (n - big n) := by rw [pcF, dif_neg (by omega)]
theorem Zs8 : ∀ n, tz (n + 1) ≤ pcF n ∧ pcF (n + 1) + tz (n + 1) = pcF n + 1 := by
 intro n
 induction n using Nat.strongRecOn with
 | ind n ih =>
  rcases Nat.eq_zero_or_pos n with h | h
  ·subst h
   rw [Zjk, Zis (by omega), show big (0 + 1) = 1 from by decide, show 0 + 1 - 1 = 0 from rfl, Zjk]
   decide
  ·obtain ⟨h1, h2, h3⟩ := Zl9 h
   obtain ⟨i1, i2⟩ := ih (n - big n) (by omega)
   have hs := Z28 h
   by_cases hd : n + 1 = 2 * big n
   ·rw [if_pos hd] at hs
    rw [Zis h, Zis (n := n + 1) (by omega), Z1l h hd, Nat.sub_self, Zjk]
    have e : pcF (n - big n + 1) = 1 := by
     have hb : n - big n + 1 = big n := by omega
     rw [hb, Zis h3]
     have : big (big n) = big n := by unfold big; rw [Nat.log2_two_pow]
     rw [this, Nat.sub_self, Zjk]
    omega
   ·rw [if_neg hd] at hs
    rw [Zis h, Zis (n := n + 1) (by omega), Z1k h (by omega), show n + 1 - big n = n - big n + 1 from by omega]
    omega
def Zmk : Nat → Nat
  | 0 => 0
  | i + 1 => Zmk i + 1 - tz (i + 1)
theorem Zq8 : ∀ n, Zmk n = pcF n
 | 0 => Zjk.symm
 | n + 1 => by
  have := Zs8 n
  simp only [Zmk]
  rw [Zq8 n]; omega
theorem Zq9 : ∀ n, Zmk n ≤ n
 | 0 => Nat.le_refl _
 | n + 1 => by
  have := Zq9 n
  simp only [Zmk]; omega
theorem Zra (i : Nat) : tz (i + 1) ≤ Zmk i ∧ 1 ≤ Zmk (i + 1) ∧ Zmk i ≤ i := by
 refine ⟨?_, ?_, Zq9 i⟩
 ·rw [Zq8]; exact (Zs8 i).1
 ·rw [Zq8, Zis (by omega)]; omega
end Go.Flat
end
section
/- A closure, its cells one by one. -/
namespace Go.Flat
section
variable {P : Program} {G : Glob} {nt : Nat} {ops l : List Oper} {K : Trace → St → Prop} {tr : Trace} {T : Nat → Value} {H : List Blk} {d : Tmp} {ty : TypeId} {ps : String} {af : Array Edge} {g : Option (Nat × Bool)}
theorem Zgw {f : Fn} {xs ys : Array Operand} {vs ws : List Value} (hg : gd nt T ops g = some true) (hd : Zbb nt (some d) = true) (hx : xs.toList.map (St.eval ⟨T, H⟩) = vs) (hy : ys.toList.map (St.eval ⟨T, H⟩) = ws) (hok : (vs.all Zdy && ws.all Zdy) = true)
  (k : R P G nt ops K l (tr ++ [(⟨some d, .makeFunc f xs ys, ty, ps, af, g⟩, { val := .func f vs.toArray ws.toArray })]) (upd T d (.func f vs.toArray ws.toArray)) H) : R P G nt ops K (⟨some d, .makeFunc f xs ys, ty, ps, af, g⟩ :: l) tr T H := by
 subst hx; subst hy
 refine Zux hg hd ?_ k
 unfold Zp3
 simp only [List.all_map] at hok
 rw [if_pos (by simpa [Function.comp_def] using hok)]
 congr 2
 ·rw [← Array.toList_map, Array.toArray_toList]
 ·rw [← Array.toList_map, Array.toArray_toList]
end
end Go.Flat
end
section
/- Equality of aggregates. -/
namespace Go.Flat
section
variable {P : Program}
theorem Zy8 (body : Nat → Option Bool × Unit → Sem (ForInStep (Option Bool × Unit))) (g : Nat → Bool) : ∀ (l : List Nat), (∀ i, i ∈ l → Z0 P (body i (none, ())) = some (if g i then .yield (none, ()) else .done (some false, ()))) →
  Z0 P (forIn (m := Sem) l ((none, ()) : Option Bool × Unit) body) = some (if l.all g then (none, ()) else (some false, ()))
 | [], _ => by simp [Z4]
 | i :: l, h => by
  rw [List.forIn_cons, Zaa, h i (by simp), Option.bind_some]
  cases hg : g i with
  | false => simp [Z4, hg]
  | true =>
   simp only [if_true]
   rw [Zy8 body g l (fun j hj => h j (by simp [hj]))]
   simp [hg]
theorem eqA (d : Nat) (t e : TypeId) (len sz : Nat) (xs ys : Array Value) (g : Nat → Bool) (ht : P.underlying t = some (.array len e)) (hs : (P.info? e).map (·.size) = some sz)
  (hg : ∀ i, i < len → ∃ a b, Z0 P (part e xs (i * sz)) = some a ∧ Z0 P (part e ys (i * sz)) = some b ∧ Z0 P (Op.equalIn d e a b) = some (g i)) :
  Z0 P (Op.equalIn (d + 1) t (.agg xs) (.agg ys)) = some ((List.range len).all g) := by
 simp only [Op.equalIn, Zaa, Zbk ht, Option.bind_some, Ziy, hs]
 rw [Std.Legacy.Range.forIn_eq_forIn_range']
 have e1 : List.range' [:len].start [:len].size [:len].step = List.range len := by simp [List.range_eq_range', Std.Legacy.Range.size]
 rw [e1, Zy8 _ g]
 ·cases h : (List.range len).all g <;> simp [h, Z4]
 ·intro i hi
  obtain ⟨a, b, h1, h2, h3⟩ := hg i (by simpa using hi)
  rw [Zaa, h1, Option.bind_some, Zaa, h2, Option.bind_some, Zaa, h3, Option.bind_some, Zk6]
  cases g i <;> simp [Z4]
theorem Za1 {e : TypeId} {xs : Array Value} {off : Nat} {v : Value} {dsc : TypeDesc} (hu : P.underlying e = some dsc) (ha : Zmh dsc = false) (hx : xs.toList[off]? = some v) : Z0 P (part e xs off) = some v := by
  have hag : Z0 P (isAgg e) = some false := by
    unfold isAgg
    rw [Zaa, Zbk hu, Option.bind_some]
    cases dsc <;> first | rfl | cases ha
  unfold part
  rw [Zaa, hag, Option.bind_some]
  simp only [Bool.false_eq_true, if_false]
  have : xs[off]? = some v := by simpa using hx
  rw [this]; rfl
theorem Z0b {e : TypeId} {xs : Array Value} {off n : Nat} {dsc : TypeDesc} {i : TypeInfo} (hu : P.underlying e = some dsc) (ha : Zmh dsc = true) (hi : P.info? e = some i) (hn : i.size = n) : Z0 P (part e xs off) = some (.agg (xs.extract off (off + n))) := by
  have hag : Z0 P (isAgg e) = some true := by
    unfold isAgg
    rw [Zaa, Zbk hu, Option.bind_some]
    cases dsc <;> first | rfl | cases ha
  subst hn
  unfold part
  rw [Zaa, hag, Option.bind_some]
  simp only [if_true]
  rw [Zaa, Ziy, hi]; rfl
theorem Zfe {t : TypeId} {k : IntKind} {d : Nat} {a b : Int} (hu : P.underlying t = some (.int k)) : Z0 P (Op.equalIn (d + 1) t (.int k a) (.int k b)) = some (a == b) := by
 simp only [Op.equalIn, Zaa, Zbk hu, Option.bind_some]
 rfl
theorem Zoa {t e : TypeId} {n d : Nat} {a b : Nat → BitVec 8} (ht : P.underlying t = some (.array n e)) (hu : P.underlying e = some (.int .u8)) (hs : (P.info? e).map (·.size) = some 1) :
  Z0 P (Op.equalIn (d + 2) t (.agg (Zah w8 n a).toArray) (.agg (Zah w8 n b).toArray)) = some ((List.range n).all fun i => a i == b i) := by
 refine (eqA (d + 1) t e n 1 _ _ (fun i => a i == b i) ht hs fun i hi => ?_)
 refine ⟨w8 (a i), w8 (b i), Za1 hu rfl (by rw [Nat.mul_one]; exact Zc9 hi), Za1 hu rfl (by rw [Nat.mul_one]; exact Zc9 hi), ?_⟩
 rw [Zfe hu]
 congr 1
 rw [Bool.eq_iff_iff]
 simp only [beq_iff_eq]
 exact ⟨fun h => BitVec.eq_of_toNat_eq (by exact_mod_cast h), fun h => by rw [h]⟩
def Zfx (n : Nat) (a b : Nat → BitVec 8) : Bool := (List.range n).all fun i => a i == b i
theorem Zj2 {n : Nat} {a b : Nat → BitVec 8} : Zfx n a b = true ↔ Zah w8 n a = Zah w8 n b := by
 simp only [Zfx, List.all_eq_true, List.mem_range, beq_iff_eq]
 constructor
 ·exact fun h => Z0s h
 ·intro h i hi
  have h1 : (Zah w8 n a)[i]? = (Zah w8 n b)[i]? := by rw [h]
  rw [Zc9 hi, Zc9 hi] at h1
  injection h1 with h1; injection h1 with _ h1
  exact BitVec.eq_of_toNat_eq (by exact_mod_cast h1)
end
end Go.Flat
end
section
/- Comparing digests. -/
namespace Go.Flat
section
variable {P : Program} {t e : TypeId} {x y : Operand} {n : Nat} {a b : Nat → BitVec 8}
theorem Zp4 {op : BinOp} {xs ys : Array Value} (h : P.eqGuardType P.depth t = false) : Z0 P (eqGuard op t x y (.agg xs) (.agg ys)) = some () := by
  cases op <;> first | rfl | skip
  all_goals
    show Z0 P (do if !(← program).eqGuardType (← program).depth t then return
                        if ← Op.eqGuardIn Op.maxDepth t (.agg xs) (.agg ys) then unsupported (.noEntry "binop/eql: two nil values of an interface type with methods, in a part of a struct or an array")) = some ()
    rw [Zaa, show Z0 P program = some P from rfl, Option.bind_some, Zaa, show Z0 P program = some P from rfl, Option.bind_some, h]
    rfl
variable (hgd : P.eqGuardType P.depth t = false) (ht : P.underlying t = some (.array n e)) (hu : P.underlying e = some (.int .u8)) (hs : (P.info? e).map (·.size) = some 1)
include hgd ht hu hs
end
end Go.Flat
end
section
/- From a law's contract to its row: nothing that was there has turned. -/
namespace Go.Flat
open Go.ChangeShapes Go.WideShapes
section
variable {H : Type} {enc : TypeId × Value → H} {P : Program}
theorem Zta {f : Func} {s : ChangeSpec} {apart fresh handsOn again : Bool} {W W' : World} {args : Array Value} {v : Value} {ds gs : List (DataW H)} {before pa pv : List MemPlace}
    (hW : DataW.Whole enc P f.params.toList s.vars apart W args.toList ds gs before)
    (hres : ∀ (b : Nat) (sp : Nat → Bool) (hd : Bool), DataW.TrodAll enc P W' b sp hd f.resultTypes.toList (v.resultList f.resultTypes.size) (s.fn H (ds ++ gs)).results [])
    (hargs : ∀ sp : Nat → Bool, (∀ p ∈ before, sp p.block = true) → DataW.TrodAll enc P W' 0 sp true f.params.toList args.toList (s.fn H (ds ++ gs)).args pa)
    (hvars : ∀ sp : Nat → Bool, (∀ p ∈ before, sp p.block = true) → DataW.TrodVars enc P W' sp s.vars (s.fn H (ds ++ gs)).vars pv)
    (hps : before = pa ++ pv) (hk : W.keptBut W' (· ∈ before)) (hfz : ∀ a : Addr, a.block < W.heap.size → W'.frozen? a = W.frozen? a)
    (hok : ∀ (j : Nat) (t : TypeId) (r : Value), f.resultTypes[j]? = some t → (v.resultList f.resultTypes.size)[j]? = some r → Value.okWide P W' .any 0 t r) :
    s.post enc P f apart fresh handsOn again W args v W' := by
  have hold : ∀ p ∈ before, (fun b => decide (b < W.heap.size)) p.block = true := fun p hp => by simpa using hW.lt p hp
  have hlt : ∀ p ∈ before, p.block < W.heap.size := fun p hp => hW.lt p hp
  refine ⟨ds, gs, before, [], pa, pv, hW, hres _ _ _, hargs _ hold, hvars _ hold, World.keptBut_mono (fun p hp => ⟨hp, ?_⟩) hk, fun _ => ?_⟩
  · rw [hps, List.mem_append] at hp
    exact Or.inr hp
  · obtain ⟨_, _, _, _, _, hz, hn⟩ := hW
    refine ⟨hok, _, _, ([] ++ pa) ++ pv, ⟨[] ++ pa, pv, trodAll_append (hargs _ (fun _ _ => rfl)) (hres _ _ _), hvars _ (fun _ _ => rfl), rfl, ?_, ?_⟩, ?_⟩
    · intro b off hp
      have hp' : MemPlace.cell b off ∈ before := by rw [hps]; simpa using hp
      rw [hfz _ (hlt _ hp')]
      exact hz b off hp'
    · intro ha
      have := hn ha
      rw [hps] at this
      simpa using this
    · intro p hp _
      rw [hps]
      simpa using hp
end
section
variable {m m' : MapM} {W W' : World}
theorem Zdt.same {g : Nat} {o o' : Obj} (hm : ∀ b r, m b = some r → r.wr = false) (h : Zdt m g o o') : o' = o := by
  rcases h with rfl | ⟨c, t, fr, c', rfl, rfl, h1, h2⟩
  · rfl
  · have : c' = c := by
      apply Array.ext_getElem?
      intro j
      refine h2 j ?_
      rintro ⟨b, r, h3, h4, _⟩
      rw [hm b r h3] at h4; cases h4
    rw [this]
theorem Frame.same (hm : ∀ b r, m b = some r → r.wr = false) (h : Frame ⟨m, W, []⟩ m' W') {g : Nat} (hg : g < W.heap.size) : W'.heap[g]? = W.heap[g]? := by
 have h0 : W.heap[g]? = some W.heap[g] := Array.getElem?_eq_getElem hg
 obtain ⟨o', h1, h2⟩ := h.block g _ h0
 rw [h1, h0, h2.same hm]
theorem Frame.kept (hm : ∀ b r, m b = some r → r.wr = false) (h : Frame ⟨m, W, []⟩ m' W') (may : MemPlace → Prop) : W.keptBut W' may := by
  refine ⟨h.os, h.output, fun i hi => ?_⟩
  rw [h.same hm hi]
  cases W.heap[i]? with
  | none => rfl
  | some o => cases o <;> simp
theorem Frame.frozen (hm : ∀ b r, m b = some r → r.wr = false) (h : Frame ⟨m, W, []⟩ m' W') (a : Addr) (ha : a.block < W.heap.size) : W'.frozen? a = W.frozen? a := by
 unfold World.frozen?
 rw [h.same hm ha]
theorem HRel.plain {G : Glob} {W : World} (hg : ∀ g cs, G g = some cs → g < W.heap.size ∧ ∀ (i : Nat) (v : Value), cs[i]? = some v → W.cell? ⟨g, i, none⟩ = some v ∧ Zba v = true) : HRel G (fun _ => none) [] W :=
  { reg := by intro b r h; cases h
    live := by intro b blk h; simp at h
    cell := by intro b blk r i v h; simp at h
    pur := by intro b blk h; simp at h
    own := by intro b r h; cases h
    dis := by intro b b' r r' _ h; cases h
    glob := hg
    gwr := by intro b r j h; cases h
    clean := by intro b r h; cases h }
end
end Go.Flat
end
section
/- From a row's listed tables to the package-level variables that a Zbh reads. -/
namespace Go.Flat
section
variable {P : Program} {W : World}
def Zvj (P : Program) (w : World) (n : String) (d : DataW Unit) : Prop :=
  ∃ g t cs fuel p, P.globalNamed n = some g ∧ (P.globals[g]?).map (·.type) = some t ∧ w.var? P n = some cs ∧ DataW.trod (fun _ => ()) P w 0 (fun _ => true) false fuel t cs.toList = some (d, p)
theorem Ztg : ∀ {l : List (String × DataW Unit)} {ps : List MemPlace}, DataW.LaidVars P W l ps → ∀ n d, (n, d) ∈ l → Zvj P W n d
  | [], _, _, _, _, hm => by cases hm
  | (n', d') :: r, ps, h, n, d, hm => by
    obtain ⟨g, t, cs, fuel, p, q, h1, h2, h3, h4, h5, _⟩ := h
    rcases List.mem_cons.1 hm with e | e
    · cases e
      exact ⟨g, t, cs, fuel, p, h1, h2, h3, h4⟩
    · exact Ztg h5 n d e
theorem Zon {l : List (String × DataW Unit)} (h : laidMetH P l W) (hp : (l.all fun x => x.2.handleName?.isNone) = true) {n : String} {d : DataW Unit} (hm : (n, d) ∈ l) : Zvj P W n d := by
 rw [MakeChecks.laidMetH_plain _ _ _ hp] at h
 exact Ztg h.choose_spec.1 n d hm
theorem Zvj.tab {n : String} {k : IntKind} {zs : List Int} (h : Zvj P W n (Lib.tabData k zs)) {g : Nat} {t e : TypeId} {c : Nat} (hg : P.globalNamed n = some g) (h0 : (P.globals[g]?).map (·.type) = some t) (ht : P.underlying t = some (.array c e)) (he : P.underlying e = some (.int k)) (hce : P.cellsOf e = 1) (hct : P.cellsOf t = c) (hz : 0 < zs.length)
  {cs : List Value} (hcs : zs.map (fun z => Value.int k z) = cs) : g < W.heap.size ∧ ∀ (i : Nat) (v : Value), cs[i]? = some v → W.cell? ⟨g, i, none⟩ = some v ∧ Zba v = true := by
 obtain ⟨g', t', cs', fuel, p, h1, h2, h3, h4⟩ := h
 obtain rfl := Option.some.inj (hg.symm.trans h1)
 obtain rfl := Option.some.inj (h0.symm.trans h2)
 have hc := Lib.cells_of_tab ht he hce hct h4
 subst hcs
 have hcell : ∀ (i : Nat) (v : Value), (zs.map (fun z => Value.int k z))[i]? = some v → W.cell? ⟨g, i, none⟩ = some v := by
  intro i v hv
  rw [World.var?_cell hg h3 i, ← hv, ← hc]
  simp
 refine ⟨?_, fun i v hv => ⟨hcell i v hv, ?_⟩⟩
 ·obtain ⟨z, zs', rfl⟩ : ∃ z zs', zs = z :: zs' := by
   cases zs with
   | nil => simp at hz
   | cons z zs' => exact ⟨z, zs', rfl⟩
  have h5 := hcell 0 _ rfl
  rcases Nat.lt_or_ge g W.heap.size with h6 | h6
  ·exact h6
  ·simp [World.cell?, Array.getElem?_eq_none h6] at h5
 ·rw [List.getElem?_map] at hv
  obtain ⟨z, _, rfl⟩ := Option.map_eq_some_iff.1 hv
  rfl
def Z68 (w : Nat) (zs : List Int) : Nat → BitVec w := fun i => BitVec.ofInt w (zs.getD i 0)
end
end Go.Flat
end
