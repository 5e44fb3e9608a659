/- Walks. -/
import Derived.Test.YtoafdomlefoenaaFlatB
import Derived.ChangeSame
import Derived.RowKit
import Derived.OpenShut
import Derived.Lib.LaidTab
import Derived.FnData
import Derived.LaidLaws
import Derived.MakeChecks
import Derived.Test.YtoafdomlefoenaaProg
set_option linter.unusedVariables false
set_option linter.unusedSimpArgs false
set_option maxRecDepth 20000
section
/- The end of a function whose blocks lie where they lay. -/
namespace Go.Flat
def idE (n : Nat) : Emb := (List.range n).map fun i => some (i, 0)
theorem Zih {n i : Nat} (h : i < n) : (idE n)[i]? = some (some (i, 0)) := by simp [idE, h]
def Zhk (n : Nat) : Value → Bool
  | .pointer (some ⟨b, _, none⟩) => decide (b < n)
  | .slice (some ⟨b, _, none⟩) _ _ => decide (b < n)
  | .slice (some ⟨_, _, some _⟩) _ _ => false
  | _ => true
def Zpv (n : Nat) : Value → Bool
  | .func _ xs ys => xs.toList.all (Zhk n) && ys.toList.all (Zhk n)
  | v => Zhk n v
theorem Zjy {n : Nat} {v : Value} (h : Zhk n v = true) : Zde (idE n) v = v ∧ Zdg (inE (idE n)) v = true := by
 cases v
 case pointer a =>
  rcases a with _ | ⟨b, o, _ | q⟩
  ·exact ⟨rfl, rfl⟩
  ·simp only [Zhk, decide_eq_true_eq] at h
   simp [Zde, Zdg, inE, Zih h]
  ·exact ⟨rfl, rfl⟩
 case slice a m c =>
  rcases a with _ | ⟨b, o, _ | q⟩
  ·exact ⟨rfl, rfl⟩
  ·simp only [Zhk, decide_eq_true_eq] at h
   simp [Zde, Zdg, inE, Zih h]
  ·cases h
 all_goals exact ⟨rfl, rfl⟩
theorem Zv8 {n : Nat} {v : Value} (h : Zpv n v = true) : Zfq (idE n) v = v ∧ Zbc (inE (idE n)) v = true := by
  revert h
  refine Zdz (P := fun v => Zpv n v = true → Zfq (idE n) v = v ∧ Zbc (inE (idE n)) v = true) ?_ ?_ v
  · intro v hf h
    have h' : Zhk n v = true := by cases v <;> first | exact h | cases hf
    rw [Zh2 hf, Zgy hf]; exact Zjy h'
  · intro f xs ys h
    simp only [Zpv, Bool.and_eq_true, List.all_eq_true] at h
    refine ⟨?_, ?_⟩
    · simp only [Zfq]
      have e1 : xs.map (Zde (idE n)) = xs := by
        conv => rhs; rw [← Array.map_id xs]
        exact Array.map_congr_left fun x hx => (Zjy (h.1 x (Array.mem_toList_iff.2 hx))).1
      have e2 : ys.map (Zde (idE n)) = ys := by
        conv => rhs; rw [← Array.map_id ys]
        exact Array.map_congr_left fun x hx => (Zjy (h.2 x (Array.mem_toList_iff.2 hx))).1
      rw [e1, e2]
    · simp only [Zbc, Bool.and_eq_true, List.all_eq_true]
      exact ⟨fun x hx => (Zjy (h.1 x hx)).2, fun x hx => (Zjy (h.2 x hx)).2⟩
def Zcl (n : Nat) (x : Blk) : Bool := decide (0 < x.sz) && (!x.fix || !x.mv) && (x.pur || x.cells.all (Zpv n))
section
variable {P : Program} {G : Glob} {s : St} {fn : Func} {σ σ' : List Blk} {res v : Value}
theorem Zm (hr : Ze2 P G fn s = some v) (hh : s.heap.take σ'.length = σ') (hl : decide (σ.length ≤ σ'.length) = true) (hn : σ'.all (Zcl σ'.length) = true) (hv : Zo1 (idE σ'.length) res v) : ∃ v e, EndOK P G fn σ res σ' s v e := by
  have hget : ∀ i, i < σ'.length → s.heap[i]? = σ'[i]? := fun i hi => by
    have : (s.heap.take σ'.length)[i]? = s.heap[i]? := by rw [List.getElem?_take, if_pos hi]
    rw [← this, hh]
  simp only [List.all_eq_true, Zcl, Bool.and_eq_true, decide_eq_true_eq, Bool.or_eq_true, Bool.not_eq_true'] at hn
  refine ⟨v, idE σ'.length, hr, ⟨by simp [idE], ?_, ?_⟩, ?_, hv, ⟨by simpa using hl, ?_⟩⟩
  · intro i p L hp hL
    have hi : i < σ'.length := (List.getElem?_eq_some_iff.1 hL).1
    rw [Zih hi] at hp
    injection hp with hp; subst hp
    obtain ⟨⟨h1, h3⟩, h2⟩ := hn L (List.mem_of_getElem? hL)
    refine ⟨L, by rw [hget i hi]; exact hL, ⟨h1, h1, fun h => by rcases h3 with h3 | h3; rw [h] at h3; cases h3; exact h3⟩, rfl, fun _ => rfl, fun h => h, by omega, fun hw => ⟨hw, rfl, rfl, fun h => h, rfl, rfl⟩, ?_⟩
    simp only [List.drop_zero, List.take_length]
    unfold Zce
    split
    · rfl
    · rename_i hp
      rcases h2 with h2 | h2
      · exact absurd h2 hp
      · conv => lhs; rw [← List.map_id L.cells]
        exact List.map_congr_left fun x hx => ((Zv8 (h2 x hx)).1).symm
  · intro i j id sh sh' L hij h1 h2 hw h3
    have hi : i < σ'.length := (List.getElem?_eq_some_iff.1 h2).1
    have hj : j < σ'.length := by have := (List.getElem?_eq_some_iff.1 h3).1; simpa [idE] using this
    rw [Zih hi] at h1
    rw [Zih hj] at h3
    injection h1 with h1; injection h1 with h1; injection h1 with h1
    injection h3 with h3; injection h3 with h3; injection h3 with h3
    omega
  · intro i L hL
    obtain ⟨h1, h2⟩ := hn L (List.mem_of_getElem? hL)
    rcases h2 with h2 | h2
    · exact .inl h2
    · exact .inr fun v hv => (Zv8 (h2 v hv)).2
  · intro b L hb hL
    have hi : b < σ'.length := (List.getElem?_eq_some_iff.1 hL).1
    exact ⟨L, by rw [hget b hi]; exact hL, Zih hi, rfl, rfl, rfl, rfl, rfl⟩
end
end Go.Flat
end
section
/- Rows that grow; nil rows. -/
namespace Go.Flat
abbrev Iv (z : Int) : Value := .int .i64 z
abbrev slv (b o n c : Nat) : Value := .slice (some ⟨b, o, none⟩) n c
section
variable {G : Glob} {nt n0 : Nat}
theorem Zch.nilCell {T : Nat → Value} {H : List Blk} {k j b : Nat} {blk : Blk} (pur : Bool) (sz : Nat) (hb : Zcs H b = true) (hsz : 0 < sz) (hk : H[k]? = some blk) (h0 : 0 < blk.sz) (hp : blk.pur = false) (hj : blk.cells[j]? = some (.slice none 0 0)) :
    Zch G nt n0 ⟨T, H⟩ ⟨T, (Zet H b (Zdd pur false sz [])).set k { blk with cells := blk.cells.set j (slv b 0 0 0) }⟩ := by
  intro E m a w hE hr
  obtain ⟨m', h1, h2, h3, h4⟩ := hr.heap.emptyRow hr.frame hb pur sz hsz
  have hkb : k ≠ b := by
    rintro rfl
    unfold Zcs at hb
    simp only [hk, Bool.or_eq_true, beq_iff_eq] at hb
    rcases hb with hb | hb
    · subst hb; simp at hk
    · omega
  have hget : (Zet H b (Zdd pur false sz []))[k]? = some blk := by
    unfold Zet
    split
    · rename_i he
      have : k < H.length := (List.getElem?_eq_some_iff.1 hk).1
      rw [List.getElem?_append_left this]; exact hk
    · rw [List.getElem?_set_ne (fun e => hkb e.symm)]; exact hk
  have hlt : k < (Zet H b (Zdd pur false sz [])).length := (List.getElem?_eq_some_iff.1 hget).1
  obtain ⟨r, hrk⟩ := h1.live k blk hget h0
  refine ⟨m', hr.size, fun i => (hr.tmps i).mono h3, hr.defers, ⟨?_, ?_, ?_, ?_, h1.own, h1.clean, h1.dis, h1.glob, h1.gwr⟩, h2⟩
  · intro i q hq
    obtain ⟨B, g1, g2⟩ := h1.reg i q hq
    by_cases hi : k = i
    · subst hi
      rw [hget] at g1; injection g1 with g1; subst g1
      exact ⟨_, List.getElem?_set_self hlt, by simpa using g2⟩
    · exact ⟨B, by rw [List.getElem?_set_ne hi]; exact g1, g2⟩
  · intro i B hB h
    by_cases hi : k = i
    · subst hi; exact ⟨r, hrk⟩
    · rw [List.getElem?_set_ne hi] at hB
      exact h1.live i B hB h
  · intro i B q x v hB hq hv
    by_cases hi : k = i
    · subst hi
      rw [List.getElem?_set_self hlt] at hB
      injection hB with hB; subst hB
      simp only at hv
      by_cases hx : j = x
      · subst hx
        have hjl : j < blk.cells.length := (List.getElem?_eq_some_iff.1 hj).1
        rw [List.getElem?_set_self hjl] at hv
        injection hv with hv; subst hv
        obtain ⟨v', g1, g2⟩ := h1.cell k blk q j _ hget hq hj
        refine ⟨v', g1, ?_⟩
        have : v' = .slice none 0 0 := g2
        subst this
        exact ⟨_, none, 0, h4, rfl, Nat.le_refl _, Nat.le_refl _, fun h => by omega⟩
      · rw [List.getElem?_set_ne hx] at hv
        exact h1.cell k blk q x v hget hq hv
    · rw [List.getElem?_set_ne hi] at hB
      exact h1.cell i B q x v hB hq hv
  · intro i B hB hpu v hv
    by_cases hi : k = i
    · subst hi
      rw [List.getElem?_set_self hlt] at hB
      injection hB with hB; subst hB
      simp only at hpu
      rw [hp] at hpu; cases hpu
    · rw [List.getElem?_set_ne hi] at hB
      exact h1.pur i B hB hpu v hv
theorem Zch.nilTmp {T : Nat → Value} {H : List Blk} {i b : Nat} (pur : Bool) (sz : Nat) (hb : Zcs H b = true) (hsz : 0 < sz) (hi : T i = .slice none 0 0) :
  Zch G nt n0 ⟨T, H⟩ ⟨upd T i (slv b 0 0 0), Zet H b (Zdd pur false sz [])⟩ := by
 intro E m a w hE hr
 obtain ⟨m', h1, h2, h3, h4⟩ := hr.heap.emptyRow hr.frame hb pur sz hsz
 refine ⟨m', hr.size, fun q => ?_, hr.defers, h1, h2⟩
 simp only [upd]
 split
 ·rename_i hq
  subst hq
  have := hr.tmps q
  simp only [hi] at this
  have hv : a.tmps.getD q undef = .slice none 0 0 := this
  rw [hv]
  exact ⟨_, none, 0, h4, rfl, Nat.le_refl _, Nat.le_refl _, fun h => by omega⟩
 ·exact (hr.tmps q).mono h3
end
section
variable {P : Program} {H : List Blk} {t : TypeId} {b o n c sz by_ : Nat} {zc : List Value} {blk : Blk}
theorem Zmz {q : Value} {p : Nat × List Value} {n' : Nat} (ht : Zcg P t = some (sz, zc, by_)) (hs : Zhf H sz q = some p) (hb : H[b]? = some blk) (hw : (blk.wr && !blk.fix && blk.mv && blk.pur) = true) (hsz : blk.sz = sz) (hz : zc.length = sz) (hpp : p.2.all Za9 = true) (hl : o + n * sz ≤ blk.cells.length) (hby : 0 < by_) (hn : n + p.1 = n') (hm : n' * by_ ≤ 140737488355328) :
  Zn1 P H t (slv b o n c) q = some (slv b 0 n' n', b, { blk with cells := (blk.cells.drop o).take (n * sz) ++ p.2 }) := by
 subst hn
 simp only [Bool.and_eq_true, Bool.not_eq_true'] at hw
 obtain ⟨⟨⟨w1, w2⟩, w3⟩, w4⟩ := hw
 unfold Zn1
 rw [ht]
 simp only [hs, Option.bind_some, hb, w1, w2, w3, w4, hsz, hz, Zdh, hpp, Zb0, if_true]
 simp [hl, hby, hm]
theorem Zl6 {k : IntKind} {h : Nat} {e : TypeId} {i : TypeInfo} {x : Int} (hu : P.underlying t = some (.slice e)) (hi : P.info? e = some i) (hx : x = (h : Int)) (hc : h ≤ c) (ho : Zkv H b i.size = true) : Zhe P H t (slv b o n c) none (some (.int k x)) = some (slv b o h c) := by
 subst hx
 unfold Zhe
 rw [hu]
 simp only [Zds, Zis, Option.bind_some]
 rw [if_pos ⟨by omega, by omega⟩]
 simp [hi, ho]
theorem Zeg {k : IntKind} {l j sz m c' : Nat} {e : TypeId} {i : TypeInfo} {x : Int} (hu : P.underlying t = some (.slice e)) (hi : P.info? e = some i) (hz : i.size = sz) (hx : x = (l : Int)) (hn : n ≤ c) (hc : l ≤ n) (ho : Zkv H b i.size = true) (hj : o + l * sz = j) (hm : n - l = m) (hc' : c - l = c') : Zhe P H t (slv b o n c) (some (.int k x)) none = some (slv b j m c') := by
 subst hx; subst hz; subst hm; subst hc'
 unfold Zhe
 rw [hu]
 simp only [Zds, Zis, Option.bind_some]
 rw [if_pos ⟨by omega, by omega⟩]
 simp [hi, ho, hj]
end
end Go.Flat
end
section
/- A call that moves no row. -/
namespace Go.Flat
section
variable {P : Program} {G : Glob} {nt : Nat} {ops l : List Oper} {K : Trace → St → Prop} {tr : Trace} {T : Nat → Value} {H H' : List Blk} {d : Tmp} {ty : TypeId} {ps : String} {af : Array Edge} {g : Option (Nat × Bool)}
theorem Zuy {e : Emb} {id sh : Nat} {L B : Blk} (hB : H[id]? = some B) (hf : (decide (0 < L.sz) && decide (0 < B.sz) && L.fix == B.fix && (L.fix || L.sz == B.sz) && (!L.pur || B.pur) && !L.wr && (!B.fix || !B.mv)) = true) (hl : sh + L.cells.length ≤ B.cells.length) (hc : (B.cells.drop sh).take L.cells.length = Zce e L) : Ze9 H e (some (id, sh)) L := by
  simp only [Bool.and_eq_true, decide_eq_true_eq, beq_iff_eq, Bool.or_eq_true, Bool.not_eq_true'] at hf
  obtain ⟨⟨⟨⟨⟨⟨h1, h2⟩, h3⟩, h4⟩, h5⟩, h6⟩, h7⟩ := hf
  simp only [Ze9, hB]
  refine ⟨⟨h1, h2, fun h => by rcases h7 with h7 | h7; rw [h] at h7; cases h7; exact h7⟩, h3, fun h => ?_, fun h => ?_, hl, fun h => ?_, hc⟩
  · rcases h4 with h4 | h4
    · rw [h] at h4; cases h4
    · exact h4
  · rcases h5 with h5 | h5
    · rw [h] at h5; cases h5
    · exact h5
  · rw [h] at h6; cases h6
theorem Zht {e : Emb} {id : Nat} {L B : Blk} (hB : H[id]? = some B) (hf : (decide (0 < L.sz) && L.fix == B.fix && L.sz == B.sz && L.pur == B.pur && B.wr && (!L.mv || B.mv) && (!B.fix || !B.mv)) = true) (hl : L.cells.length = B.cells.length) (hc : B.cells = Zce e L) : Ze9 H e (some (id, 0)) L := by
  simp only [Bool.and_eq_true, decide_eq_true_eq, beq_iff_eq, Bool.or_eq_true, Bool.not_eq_true'] at hf
  obtain ⟨⟨⟨⟨⟨⟨h1, h3⟩, h4⟩, h5⟩, h6⟩, h7⟩, h8⟩ := hf
  unfold Ze9
  simp only [hB]
  show (0 < L.sz ∧ 0 < B.sz ∧ (B.fix = true → B.mv = false)) ∧ L.fix = B.fix ∧ (L.fix = false → L.sz = B.sz) ∧ (L.pur = true → B.pur = true) ∧ 0 + L.cells.length ≤ B.cells.length ∧ (L.wr = true → B.wr = true ∧ True ∧ L.sz = B.sz ∧ (L.mv = true → B.mv = true) ∧ L.pur = B.pur ∧ L.cells.length = B.cells.length) ∧ (B.cells.drop 0).take L.cells.length = Zce e L
  refine ⟨⟨h1, h4 ▸ h1, fun h => by rcases h8 with h8 | h8; rw [h] at h8; cases h8; exact h8⟩, h3, fun _ => h4, fun h => h5 ▸ h, by omega, fun h => ⟨h6, trivial, h4, fun h => ?_, h5, hl⟩, ?_⟩
  · rcases h7 with h7 | h7
    · rw [h] at h7; cases h7
    · exact h7
  · rw [List.drop_zero, hl, List.take_length]; exact hc
def Zur (H : List Blk) (e : Emb) (σ : List Blk) (res : Value) (σ' : List Blk) (nid : Nat) : Delta :=
  { val := res, sets := Zb4 H e σ σ' nid, foot := Zu7 e ++ (List.range (σ'.length - σ.length)).map (nid + ·) }
structure CallN (H : List Blk) (e : Emb) (argsL argsC : List Value) (σ σ' : List Blk) (nid : Nat) : Prop where
  args : Zkn e argsL argsC
  emb : Zi1 H e e σ
  dist : Zln e σ = true
  names : Zjs e σ = true
  shape : Zgf H σ σ' nid = true
theorem Z2 {e : Emb} {nid : Nat} {f : Operand} {args : Array Operand} {ts : Array TypeId} {k : FuncId} {first captured : Array Value} {argsL vals : List Value} {σ σ' : List Blk} {res v : Value} (hC : Zas P G k argsL σ res σ') (hg : gd nt T ops g = some true) (hd : Zbd nt (some d) = true) (hf : St.eval ⟨T, H⟩ f = .func (.func k) first captured) (hcap : (first.toList.all Zdm && captured.toList.all Zdm) = true) (hk : Zdy P k = true)
  (hm : (Za7 e σ).length = 0) (ha : first.toList ++ args.toList.map (St.eval ⟨T, H⟩) ++ captured.toList = vals) (hok : CallN H e argsL vals σ σ' nid) (hv : Zot (Zen e nid (σ'.length - σ.length)) res = v)
  (hH : Zdf H (Zb4 H e σ σ' nid) = H')
  (kk : R P G nt ops K l (tr ++ [(⟨some d, .call { callee := .value f, args := args, argTypes := ts }, ty, ps, af, g⟩, Zur H e σ v σ' nid)]) (upd T d v) H') : R P G nt ops K (⟨some d, .call { callee := .value f, args := args, argTypes := ts }, ty, ps, af, g⟩ :: l) tr T H := by
 have hm' : Za7 e σ = [] := List.length_eq_zero_iff.1 hm
 subst hv
 have hD : Zga H e σ res σ' nid = Zur H e σ (Zot (Zen e nid (σ'.length - σ.length)) res) σ' nid := by
  unfold Zga Zur; rw [hm']; rfl
 refine Zrb (e := e) (nid := nid) hC hg hd hf hcap hk ha ⟨hok.args, by rw [hm']; exact hok.emb, hok.dist, hok.names, by rw [hm']; exact hok.shape, by rw [hm']; exact Nat.zero_le _⟩ rfl (T' := T) (by rw [hm']; rfl) (H' := H') (by rw [hm']; exact hH) ?_
 rw [hD]; exact kk
end
end Go.Flat
end
section
/- Rows by a list. -/
namespace Go.Flat
section
variable {P : Program} {G : Glob} {t : TypeId} {m n : Nat} {H : List Blk} {b o : Nat} {blk : Blk}
theorem Zpr {v : Value} (hk : Zhj P t = some (false, m)) (hb : H[b]? = some blk) (hv : blk.cells[o]? = some v) (h1 : Zi7 v = true) : Zfn P G t H (.pointer (some ⟨b, o, none⟩)) = some v := by
 unfold Zfn
 rw [hk]
 simp [hb, rdA, hv, h1]
theorem Ztq {cs : List Value} (hk : Zhj P t = some (true, n)) (hb : H[b]? = some blk) (hl : o + n ≤ blk.cells.length) (hv : (blk.cells.drop o).take n = cs) : Zfn P G t H (.pointer (some ⟨b, o, none⟩)) = some (.agg cs.toArray) := by
 unfold Zfn
 rw [hk]
 simp [hb, rdA, hl, hv]
end
theorem Zj6 {e : Emb} {res v : Value} (hp : Zbf res = true) (h : v = res) : Zo1 e res v := by
  subst h
  have ht := Zg8 hp
  cases v <;> first | (show Zir _ _ _; unfold Zir; rw [if_pos hp]) | cases ht
end Go.Flat
end
section
/- A byte of a text. -/
namespace Go.Flat
def Zn5 (n : Nat) : Nat := if n = 0 then 0 else n.log2 + 1
def Z05 (b : ByteArray) : Bool := (List.range 256).all fun i => match b.data.toList[i]? with | some x => x.toNat == Zn5 i | none => false
end Go.Flat
end
section
/- 1 moved to the left. -/
namespace Go.Flat
end Go.Flat
end
section
/- Trailing zeros. -/
namespace Go.Flat
def dbK : BitVec 64 := BitVec.ofInt 64 285870213051353865
def dbF (i : Nat) : Nat := ((List.range 64).find? fun (k : Nat) => (((dbK <<< k : BitVec 64) >>> (58 : Nat) : BitVec 64).toNat == i)).getD 0
abbrev u8N (n : Nat) : Value := .int .u8 (n : Int)
def tzN : Nat → Nat → Nat
  | 0, _ => 0
  | f + 1, n => if n % 2 = 1 then 0 else tzN f (n / 2) + 1
def tz (n : Nat) : Nat := tzN n n
end Go.Flat
end
section
/- Powers of 2, and how many peaks there are. -/
namespace Go.Flat
def big (n : Nat) : Nat := 2 ^ n.log2
theorem Zum {n : Nat} (h : 0 < n) : big n ≤ n ∧ n < 2 * big n ∧ 0 < big n := by
 have h1 := Nat.log2_self_le (n := n) (by omega)
 have h2 := Nat.lt_log2_self (n := n)
 rw [Nat.pow_succ] at h2
 unfold big
 exact ⟨h1, by omega, Nat.pow_pos (by decide)⟩
def pcF (n : Nat) : Nat := if h : n = 0 then 0 else 1 + pcF (n - big n)
termination_by n
decreasing_by
  have := Zum (n := n) (by omega)
  omega
def Zz1 : Nat → Nat
  | 0 => 0
  | i + 1 => Zz1 i + 1 - tz (i + 1)
end Go.Flat
end
section
/- A closure, its cells one by one. -/
namespace Go.Flat
section
variable {P : Program} {G : Glob} {nt : Nat} {ops l : List Oper} {K : Trace → St → Prop} {tr : Trace} {T : Nat → Value} {H : List Blk} {d : Tmp} {ty : TypeId} {ps : String} {af : Array Edge} {g : Option (Nat × Bool)}
theorem Znn {f : Fn} {xs ys : Array Operand} {vs ws : List Value} (hg : gd nt T ops g = some true) (hd : Zbd nt (some d) = true) (hx : xs.toList.map (St.eval ⟨T, H⟩) = vs) (hy : ys.toList.map (St.eval ⟨T, H⟩) = ws) (hok : (vs.all Zdm && ws.all Zdm) = true)
  (k : R P G nt ops K l (tr ++ [(⟨some d, .makeFunc f xs ys, ty, ps, af, g⟩, { val := .func f vs.toArray ws.toArray })]) (upd T d (.func f vs.toArray ws.toArray)) H) : R P G nt ops K (⟨some d, .makeFunc f xs ys, ty, ps, af, g⟩ :: l) tr T H := by
 subst hx; subst hy
 refine Zrc hg hd ?_ k
 unfold Zna
 simp only [List.all_map] at hok
 rw [if_pos (by simpa [Function.comp_def] using hok)]
 congr 2
 ·rw [← Array.toList_map, Array.toArray_toList]
 ·rw [← Array.toList_map, Array.toArray_toList]
end
end Go.Flat
end
section
/- Equality of aggregates. -/
namespace Go.Flat
section
variable {P : Program}
theorem Zu0 (body : Nat → Option Bool × Unit → Sem (ForInStep (Option Bool × Unit))) (g : Nat → Bool) : ∀ (l : List Nat), (∀ i, i ∈ l → Zz P (body i (none, ())) = some (if g i then .yield (none, ()) else .done (some false, ()))) →
  Zz P (forIn (m := Sem) l ((none, ()) : Option Bool × Unit) body) = some (if l.all g then (none, ()) else (some false, ()))
 | [], _ => by simp [Zam]
 | i :: l, h => by
  rw [List.forIn_cons, Z3, h i (by simp), Option.bind_some]
  cases hg : g i with
  | false => simp [Zam, hg]
  | true =>
   simp only [if_true]
   rw [Zu0 body g l (fun j hj => h j (by simp [hj]))]
   simp [hg]
theorem eqA (d : Nat) (t e : TypeId) (len sz : Nat) (xs ys : Array Value) (g : Nat → Bool) (ht : P.underlying t = some (.array len e)) (hs : (P.info? e).map (·.size) = some sz)
  (hg : ∀ i, i < len → ∃ a b, Zz P (part e xs (i * sz)) = some a ∧ Zz P (part e ys (i * sz)) = some b ∧ Zz P (Op.equalIn d e a b) = some (g i)) :
  Zz P (Op.equalIn (d + 1) t (.agg xs) (.agg ys)) = some ((List.range len).all g) := by
 simp only [Op.equalIn, Z3, Za3 ht, Option.bind_some, Zhi, hs]
 rw [Std.Legacy.Range.forIn_eq_forIn_range']
 have e1 : List.range' [:len].start [:len].size [:len].step = List.range len := by simp [List.range_eq_range', Std.Legacy.Range.size]
 rw [e1, Zu0 _ g]
 ·cases h : (List.range len).all g <;> simp [h, Zam]
 ·intro i hi
  obtain ⟨a, b, h1, h2, h3⟩ := hg i (by simpa using hi)
  rw [Z3, h1, Option.bind_some, Z3, h2, Option.bind_some, Z3, h3, Option.bind_some, Zjh]
  cases g i <;> simp [Zam]
theorem Zay {e : TypeId} {xs : Array Value} {off : Nat} {v : Value} {dsc : TypeDesc} (hu : P.underlying e = some dsc) (ha : Zkb dsc = false) (hx : xs.toList[off]? = some v) : Zz P (part e xs off) = some v := by
  have hag : Zz P (isAgg e) = some false := by
    unfold isAgg
    rw [Z3, Za3 hu, Option.bind_some]
    cases dsc <;> first | rfl | cases ha
  unfold part
  rw [Z3, hag, Option.bind_some]
  simp only [Bool.false_eq_true, if_false]
  have : xs[off]? = some v := by simpa using hx
  rw [this]; rfl
theorem Zvz {e : TypeId} {xs : Array Value} {off n : Nat} {dsc : TypeDesc} {i : TypeInfo} (hu : P.underlying e = some dsc) (ha : Zkb dsc = true) (hi : P.info? e = some i) (hn : i.size = n) : Zz P (part e xs off) = some (.agg (xs.extract off (off + n))) := by
  have hag : Zz P (isAgg e) = some true := by
    unfold isAgg
    rw [Z3, Za3 hu, Option.bind_some]
    cases dsc <;> first | rfl | cases ha
  subst hn
  unfold part
  rw [Z3, hag, Option.bind_some]
  simp only [if_true]
  rw [Z3, Zhi, hi]; rfl
theorem Zew {t : TypeId} {k : IntKind} {d : Nat} {a b : Int} (hu : P.underlying t = some (.int k)) : Zz P (Op.equalIn (d + 1) t (.int k a) (.int k b)) = some (a == b) := by
 simp only [Op.equalIn, Z3, Za3 hu, Option.bind_some]
 rfl
theorem Zlp {t e : TypeId} {n d : Nat} {a b : Nat → BitVec 8} (ht : P.underlying t = some (.array n e)) (hu : P.underlying e = some (.int .u8)) (hs : (P.info? e).map (·.size) = some 1) :
  Zz P (Op.equalIn (d + 2) t (.agg (Zd2 w8 n a).toArray) (.agg (Zd2 w8 n b).toArray)) = some ((List.range n).all fun i => a i == b i) := by
 refine (eqA (d + 1) t e n 1 _ _ (fun i => a i == b i) ht hs fun i hi => ?_)
 refine ⟨w8 (a i), w8 (b i), Zay hu rfl (by rw [Nat.mul_one]; exact Zh6 hi), Zay hu rfl (by rw [Nat.mul_one]; exact Zh6 hi), ?_⟩
 rw [Zew hu]
 congr 1
 rw [Bool.eq_iff_iff]
 simp only [beq_iff_eq]
 exact ⟨fun h => BitVec.eq_of_toNat_eq (by exact_mod_cast h), fun h => by rw [h]⟩
def Zdn (n : Nat) (a b : Nat → BitVec 8) : Bool := (List.range n).all fun i => a i == b i
theorem Zg1 {n : Nat} {a b : Nat → BitVec 8} : Zdn n a b = true ↔ Zd2 w8 n a = Zd2 w8 n b := by
 simp only [Zdn, List.all_eq_true, List.mem_range, beq_iff_eq]
 constructor
 ·exact fun h => Zwa h
 ·intro h i hi
  have h1 : (Zd2 w8 n a)[i]? = (Zd2 w8 n b)[i]? := by rw [h]
  rw [Zh6 hi, Zh6 hi] at h1
  injection h1 with h1; injection h1 with _ h1
  exact BitVec.eq_of_toNat_eq (by exact_mod_cast h1)
end
end Go.Flat
end
section
/- Comparing digests. -/
namespace Go.Flat
section
variable {P : Program} {t e : TypeId} {x y : Operand} {n : Nat} {a b : Nat → BitVec 8}
theorem Znb {op : BinOp} {xs ys : Array Value} (h : P.eqGuardType P.depth t = false) : Zz P (eqGuard op t x y (.agg xs) (.agg ys)) = some () := by
  cases op <;> first | rfl | skip
  all_goals
    show Zz P (do if !(← program).eqGuardType (← program).depth t then return
                        if ← Op.eqGuardIn Op.maxDepth t (.agg xs) (.agg ys) then unsupported (.noEntry "binop/eql: two nil values of an interface type with methods, in a part of a struct or an array")) = some ()
    rw [Z3, show Zz P program = some P from rfl, Option.bind_some, Z3, show Zz P program = some P from rfl, Option.bind_some, h]
    rfl
variable (hgd : P.eqGuardType P.depth t = false) (ht : P.underlying t = some (.array n e)) (hu : P.underlying e = some (.int .u8)) (hs : (P.info? e).map (·.size) = some 1)
include hgd ht hu hs
end
end Go.Flat
end
section
/- From a law's contract to its row: nothing that was there has turned. -/
namespace Go.Flat
open Go.ChangeShapes Go.WideShapes
section
variable {H : Type} {enc : TypeId × Value → H} {P : Program}
theorem Zp1 {f : Func} {s : ChangeSpec} {apart fresh handsOn again : Bool} {W W' : World} {args : Array Value} {v : Value} {ds gs : List (DataW H)} {before pa pv : List MemPlace}
    (hW : DataW.Whole enc P f.params.toList s.vars apart W args.toList ds gs before)
    (hres : ∀ (b : Nat) (sp : Nat → Bool) (hd : Bool), DataW.TrodAll enc P W' b sp hd f.resultTypes.toList (v.resultList f.resultTypes.size) (s.fn H (ds ++ gs)).results [])
    (hargs : ∀ sp : Nat → Bool, (∀ p ∈ before, sp p.block = true) → DataW.TrodAll enc P W' 0 sp true f.params.toList args.toList (s.fn H (ds ++ gs)).args pa)
    (hvars : ∀ sp : Nat → Bool, (∀ p ∈ before, sp p.block = true) → DataW.TrodVars enc P W' sp s.vars (s.fn H (ds ++ gs)).vars pv)
    (hps : before = pa ++ pv) (hk : W.keptBut W' (· ∈ before)) (hfz : ∀ a : Addr, a.block < W.heap.size → W'.frozen? a = W.frozen? a)
    (hok : ∀ (j : Nat) (t : TypeId) (r : Value), f.resultTypes[j]? = some t → (v.resultList f.resultTypes.size)[j]? = some r → Value.okWide P W' .any 0 t r) :
    s.post enc P f apart fresh handsOn again W args v W' := by
  have hold : ∀ p ∈ before, (fun b => decide (b < W.heap.size)) p.block = true := fun p hp => by simpa using hW.lt p hp
  have hlt : ∀ p ∈ before, p.block < W.heap.size := fun p hp => hW.lt p hp
  refine ⟨ds, gs, before, [], pa, pv, hW, hres _ _ _, hargs _ hold, hvars _ hold, World.keptBut_mono (fun p hp => ⟨hp, ?_⟩) hk, fun _ => ?_⟩
  · rw [hps, List.mem_append] at hp
    exact Or.inr hp
  · obtain ⟨_, _, _, _, _, hz, hn⟩ := hW
    refine ⟨hok, _, _, ([] ++ pa) ++ pv, ⟨[] ++ pa, pv, trodAll_append (hargs _ (fun _ _ => rfl)) (hres _ _ _), hvars _ (fun _ _ => rfl), rfl, ?_, ?_⟩, ?_⟩
    · intro b off hp
      have hp' : MemPlace.cell b off ∈ before := by rw [hps]; simpa using hp
      rw [hfz _ (hlt _ hp')]
      exact hz b off hp'
    · intro ha
      have := hn ha
      rw [hps] at this
      simpa using this
    · intro p hp _
      rw [hps]
      simpa using hp
end
section
variable {m m' : MapM} {W W' : World}
theorem Zc8.same {g : Nat} {o o' : Obj} (hm : ∀ b r, m b = some r → r.wr = false) (h : Zc8 m g o o') : o' = o := by
  rcases h with rfl | ⟨c, t, fr, c', rfl, rfl, h1, h2⟩
  · rfl
  · have : c' = c := by
      apply Array.ext_getElem?
      intro j
      refine h2 j ?_
      rintro ⟨b, r, h3, h4, _⟩
      rw [hm b r h3] at h4; cases h4
    rw [this]
theorem Frame.same (hm : ∀ b r, m b = some r → r.wr = false) (h : Frame ⟨m, W, []⟩ m' W') {g : Nat} (hg : g < W.heap.size) : W'.heap[g]? = W.heap[g]? := by
 have h0 : W.heap[g]? = some W.heap[g] := Array.getElem?_eq_getElem hg
 obtain ⟨o', h1, h2⟩ := h.block g _ h0
 rw [h1, h0, h2.same hm]
theorem Frame.kept (hm : ∀ b r, m b = some r → r.wr = false) (h : Frame ⟨m, W, []⟩ m' W') (may : MemPlace → Prop) : W.keptBut W' may := by
  refine ⟨h.os, h.output, fun i hi => ?_⟩
  rw [h.same hm hi]
  cases W.heap[i]? with
  | none => rfl
  | some o => cases o <;> simp
theorem Frame.frozen (hm : ∀ b r, m b = some r → r.wr = false) (h : Frame ⟨m, W, []⟩ m' W') (a : Addr) (ha : a.block < W.heap.size) : W'.frozen? a = W.frozen? a := by
 unfold World.frozen?
 rw [h.same hm ha]
theorem HRel.plain {G : Glob} {W : World} (hg : ∀ g cs, G g = some cs → g < W.heap.size ∧ ∀ (i : Nat) (v : Value), cs[i]? = some v → W.cell? ⟨g, i, none⟩ = some v ∧ Za9 v = true) : HRel G (fun _ => none) [] W :=
  { reg := by intro b r h; cases h
    live := by intro b blk h; simp at h
    cell := by intro b blk r i v h; simp at h
    pur := by intro b blk h; simp at h
    own := by intro b r h; cases h
    dis := by intro b b' r r' _ h; cases h
    glob := hg
    gwr := by intro b r j h; cases h
    clean := by intro b r h; cases h }
end
end Go.Flat
end
section
/- From a row's listed tables to the package-level variables that a Zcv reads. -/
namespace Go.Flat
section
variable {P : Program} {W : World}
def Zxz (P : Program) (w : World) (n : String) (d : DataW Unit) : Prop :=
  ∃ g t cs fuel p, P.globalNamed n = some g ∧ (P.globals[g]?).map (·.type) = some t ∧ w.var? P n = some cs ∧ DataW.trod (fun _ => ()) P w 0 (fun _ => true) false fuel t cs.toList = some (d, p)
theorem Zxz.tab {n : String} {k : IntKind} {zs : List Int} (h : Zxz P W n (Lib.tabData k zs)) {g : Nat} {t e : TypeId} {c : Nat} (hg : P.globalNamed n = some g) (h0 : (P.globals[g]?).map (·.type) = some t) (ht : P.underlying t = some (.array c e)) (he : P.underlying e = some (.int k)) (hce : P.cellsOf e = 1) (hct : P.cellsOf t = c) (hz : 0 < zs.length)
  {cs : List Value} (hcs : zs.map (fun z => Value.int k z) = cs) : g < W.heap.size ∧ ∀ (i : Nat) (v : Value), cs[i]? = some v → W.cell? ⟨g, i, none⟩ = some v ∧ Za9 v = true := by
 obtain ⟨g', t', cs', fuel, p, h1, h2, h3, h4⟩ := h
 obtain rfl := Option.some.inj (hg.symm.trans h1)
 obtain rfl := Option.some.inj (h0.symm.trans h2)
 have hc := Lib.cells_of_tab ht he hce hct h4
 subst hcs
 have hcell : ∀ (i : Nat) (v : Value), (zs.map (fun z => Value.int k z))[i]? = some v → W.cell? ⟨g, i, none⟩ = some v := by
  intro i v hv
  rw [World.var?_cell hg h3 i, ← hv, ← hc]
  simp
 refine ⟨?_, fun i v hv => ⟨hcell i v hv, ?_⟩⟩
 ·obtain ⟨z, zs', rfl⟩ : ∃ z zs', zs = z :: zs' := by
   cases zs with
   | nil => simp at hz
   | cons z zs' => exact ⟨z, zs', rfl⟩
  have h5 := hcell 0 _ rfl
  rcases Nat.lt_or_ge g W.heap.size with h6 | h6
  ·exact h6
  ·simp [World.cell?, Array.getElem?_eq_none h6] at h5
 ·rw [List.getElem?_map] at hv
  obtain ⟨z, _, rfl⟩ := Option.map_eq_some_iff.1 hv
  rfl
def Z2b (w : Nat) (zs : List Int) : Nat → BitVec w := fun i => BitVec.ofInt w (zs.getD i 0)
end
end Go.Flat
end
section
namespace Go.Flat
open Go.Proofs
variable {G : Glob}
def rot (x : BitVec 32) (n : Nat) : BitVec 32 := x <<< n ||| x >>> (32 - n)

def Zoy (x : BitVec 32) (a b : Int) (z : BitVec 32) : BitVec 32 := rot x ((0 - a) % 32).toNat ^^^ rot x ((0 - b) % 32).toNat ^^^ z
end Go.Flat
end
section
namespace Go.Flat
open Go.Proofs
variable {G : Glob}
def inB (w : Nat → BitVec 32) (i : Nat) (x : BitVec 8) : Nat → BitVec 32 := Zrv w (i / 4) (w (i / 4) <<< 8 ||| x.setWidth 32)
def Zzo (b : Nat → BitVec 8) : Nat → Nat → BitVec 32
  | 0 => fun _ => 0
  | i + 1 => inB (Zzo b i) i (b i)
def Z0c (k : BitVec 32) (v w : Nat → BitVec 32) (t : Nat) : BitVec 32 := v 7 + Zoy (v 4) 6 11 (rot (v 4) ((-25 : Int) % 32).toNat) + (v 6 ^^^ (v 4 &&& (v 5 ^^^ v 6))) + k + w (t % 16)
def Z0d (v : Nat → BitVec 32) : BitVec 32 := Zoy (v 0) 2 13 (rot (v 0) ((-22 : Int) % 32).toNat) + ((v 0 &&& v 1) ^^^ (v 0 &&& v 2) ^^^ (v 1 &&& v 2))
def Zyc (p q : BitVec 32) (v : Nat → BitVec 32) : Nat → BitVec 32 := fun k => if k = 0 then p + q else if k = 4 then v 3 + p else v (k - 1)
def Z0e (w : Nat → BitVec 32) (t : Nat) : Nat → BitVec 32 := Zrv w (t % 16) (w (t % 16) + (w ((t + 9) % 16) + Zoy (w ((t + 1) % 16)) 7 18 (w ((t + 1) % 16) >>> 3) + Zoy (w ((t + 14) % 16)) 17 19 (w ((t + 14) % 16) >>> 10)))
def Z0g (kk : Nat → BitVec 32) (v w : Nat → BitVec 32) : Nat → (Nat → BitVec 32) × (Nat → BitVec 32)
  | 0 => (v, w)
  | t + 1 => let p := Z0g kk v w t; (Zyc (Z0c (kk t) p.1 p.2 t) (Z0d p.1) p.1, Z0e p.2 t)
def Zwm (v V : Nat → BitVec 32) : Nat → Nat → BitVec 32
  | 0 => v
  | i + 1 => Zrv (Zwm v V i) i (Zwm v V i i + V i)
def Z1f (kk : Nat → BitVec 32) (v : Nat → BitVec 32) (b : Nat → BitVec 8) : Nat → BitVec 32 := Zwm v (Z0g kk v (Zzo b 64) 64).1 8

abbrev pt (b o : Nat) : Value := .pointer (some ⟨b, o, none⟩)
abbrev sl (b o n c : Nat) : Value := .slice (some ⟨b, o, none⟩) n c
def stB (v : Nat → BitVec 32) (r n : Value) : Blk := { cells := Zd2 w32 8 v ++ [r, n], sz := 10, wr := true, fix := true, mv := false, pur := false }
def byB (n : Nat) (b : Nat → BitVec 8) : Blk := { cells := Zd2 w8 n b, sz := 1, wr := false, fix := false, mv := true, pur := true }
def wB (w : Nat → BitVec 32) : Blk := { cells := Zd2 w32 16 w, sz := 16, wr := true, fix := true, mv := false, pur := true }
def vB (v : Nat → BitVec 32) : Blk := { cells := Zd2 w32 8 v, sz := 8, wr := true, fix := true, mv := false, pur := true }

end Go.Flat
end
section
namespace Go.Flat
open Go.Proofs
variable {G : Glob}
abbrev Bs := List (BitVec 8)
def bl (s : ByteArray) : Bs := s.data.toList.map UInt8.toBitVec
def Z18 (l : Bs) : Blk := { cells := l.map w8, sz := 1, wr := true, fix := false, mv := true, pur := true }
def Zx0 (l : Bs) (j : Nat) : Nat → BitVec 8 := fun i => l.getD (64 * j + i) 0
def Zzf (kk v : Nat → BitVec 32) (l : Bs) : Nat → Nat → BitVec 32
  | 0 => v
  | j + 1 => Z1f kk (Zzf kk v l j) (Zx0 l j)
end Go.Flat
end
section
namespace Go.Flat
open Go.Proofs
variable {G : Glob}
def Z0f : Nat → BitVec 32
  | 0 => 0x6a09e667 | 1 => 0xbb67ae85 | 2 => 0x3c6ef372 | 3 => 0xa54ff53a | 4 => 0x510e527f | 5 => 0x9b05688c | 6 => 0x1f83d9ab | _ => 0x5be0cd19
abbrev Z16 : Value := .slice none 0 0
def Z0s (v : Nat → BitVec 32) (r n : Value) : List Value := Zd2 w32 8 v ++ [r, n]
def tl (M : Bs) : Bs := M.drop (64 * (M.length / 64))
def Zze (kk : Nat → BitVec 32) (M : Bs) : Nat → BitVec 32 := Zzf kk Z0f M (M.length / 64)
def Z0q (M : Bs) (s : ByteArray) : Bs := (tl M ++ bl s).take (64 * ((tl M ++ bl s).length / 64))
def stM (kk : Nat → BitVec 32) (M pre : Bs) (r : Nat) : Blk := stB (Zze kk M) (slv r pre.length (tl M).length (tl M).length) (w64 (BitVec.ofNat 64 M.length))
end Go.Flat
end
section
namespace Go.Flat
open Go.Proofs
variable {G : Glob}
def Z19 (ps : List ByteArray) : Blk := { cells := ps.map Value.string, sz := 1, wr := false, fix := false, mv := true, pur := true }
def dgB (d : Nat → BitVec 8) : Blk := { cells := Zd2 w8 32 d, sz := 32, wr := true, fix := true, mv := false, pur := true }
def Zsu (ps : List ByteArray) : Bs := (ps.map bl).flatten
def Zzh (n : BitVec 64) (i : Nat) : BitVec 8 := (n >>> (56 - 8 * (i : Int)).toNat).setWidth 8
def Z08 (r : Nat) : Bs := (128 : BitVec 8) :: List.replicate ((119 - r) % 64) 0
def Zz6 (r : Nat) (n : BitVec 64) : Nat → Bs
  | 0 => Z08 r
  | i + 1 => Zz6 r n i ++ [Zzh n i]
def Z1i (v : Nat → BitVec 32) (i : Nat) : BitVec 8 := (v (i / 4) >>> (24 - (i : Int) % 4 * 8).toNat).setWidth 8
def Zwd (v : Nat → BitVec 32) : Nat → Nat → BitVec 8
  | 0 => fun _ => 0
  | i + 1 => Zrv (Zwd v i) i (Z1i v i)
def Z06 (M : Bs) : BitVec 64 := BitVec.ofNat 64 M.length * BitVec.ofInt 64 8
def Zy5 (M : Bs) (i : Nat) : Bs := Zz6 (tl M).length (Z06 M) i
def Zqe (kk : Nat → BitVec 32) (M : Bs) : Nat → BitVec 8 := Zwd (Zze kk (M ++ Zy5 M 8)) 32
def Zfh (l : Bs) : ByteArray := ⟨(l.map UInt8.ofBitVec).toArray⟩
end Go.Flat
end
section
namespace Go.Flat
open Go.Proofs
variable {G : Glob}
abbrev dgV (d : Nat → BitVec 8) : Value := .agg (Zd2 w8 32 d).toArray
def dgL (d : Nat → BitVec 8) : Bs := (List.range 32).map d
def Zz5 : ByteArray := ⟨#[1]⟩
def Zx5 (kk : Nat → BitVec 32) (a b : Nat → BitVec 8) : Nat → BitVec 8 := Zqe kk (Zsu [Zz5, Zfh (dgL a), Zfh (dgL b)])
end Go.Flat
end
section
namespace Go.Flat
open Go.Proofs
variable {G : Glob}
end Go.Flat
end
section
namespace Go.Flat
open Go.Proofs
variable {G : Glob}
def Zh8 (n : Int) : Int := if n < 2 then 0 else 2 ^ (Zn5 (n - 1).toNat - 1)
end Go.Flat
end
section
namespace Go.Flat
open Go.Proofs
variable {G : Glob}
end Go.Flat
end
section
namespace Go.Flat
open Go.Proofs
variable {G : Glob}
abbrev D := Nat → BitVec 8
def dsC (ds : List D) : List Value := (ds.map (Zd2 w8 32)).flatten
def dsB (ds : List D) : Blk := { cells := dsC ds, sz := 32, wr := true, fix := false, mv := true, pur := true }
def dsR (ds : List D) : Blk := { cells := dsC ds, sz := 32, wr := false, fix := false, mv := true, pur := true }
def Z2d (v : Value) : Blk := { cells := [v], sz := 1, wr := true, fix := true, mv := false, pur := false }
end Go.Flat
end
section
namespace Go.Flat
open Go.Proofs
variable {G : Glob}
def d0 : D := fun _ => 0
def Zzs (kk : Nat → BitVec 32) (P : List D) : List D := P.take (P.length - 2) ++ [Zx5 kk (P.getD (P.length - 2) d0) (P.getD (P.length - 1) d0)]
def Zvg (kk : Nat → BitVec 32) : Nat → List D → List D
  | 0, P => P
  | n + 1, P => Zzs kk (Zvg kk n P)
def Zx8 (kk : Nat → BitVec 32) (ds : List D) : Nat → List D
  | 0 => []
  | i + 1 => Zvg kk (tz (i + 1)) (Zx8 kk ds i ++ [ds.getD i d0])
def Znq (kk : Nat → BitVec 32) (ds : List D) : D := if ds.length = 0 then Zqe kk [] else (Zvg kk (Zz1 ds.length - 1) (Zx8 kk ds ds.length)).getD 0 d0
end Go.Flat
end
section
namespace Go.Flat
open Go.Proofs
variable {G : Glob}
end Go.Flat
end
section
namespace Go.Flat
open Go.Proofs
variable {G : Glob}
def Z1h (us vs : List D) : Bool := us.length == vs.length && (List.range us.length).all fun i => Zdn 32 (us.getD i d0) (vs.getD i d0)
end Go.Flat
end
section
namespace Go.Flat
open Go.Proofs
variable {G : Glob}
def Zzb (P : List D) : Nat → List D
  | 0 => P
  | i + 1 => ((Zzb P i).set i ((Zzb P i).getD (P.length - 1 - i) d0)).set (P.length - 1 - i) ((Zzb P i).getD i d0)
def dsM (b : Bool) (ds : List D) : Blk := { cells := dsC ds, sz := 32, wr := true, fix := false, mv := b, pur := true }
end Go.Flat
end
section
namespace Go.Flat
open Go.Proofs
variable {G : Glob}
def Zvb (kk : Nat → BitVec 32) (f : Nat) (l : List D) (i : Nat) (down : List D) : List D :=
  match f with
  | 0 => down
  | f + 1 => if l.length ≤ 1 then down else
      let k := (Zh8 l.length).toNat
      if i < k then Zvb kk f (l.take k) i (down ++ [Znq kk (l.drop k)]) else Zvb kk f (l.drop k) (i - k) (down ++ [Znq kk (l.take k)])
theorem Zrt {n : Nat} (h : 2 ≤ n) : 1 ≤ (Zh8 n).toNat ∧ (Zh8 n).toNat < n ∧ Zh8 n = ((Zh8 n).toNat : Int) := by
 unfold Zh8
 rw [if_neg (by omega)]
 have hb : ((n : Int) - 1).toNat = n - 1 := by omega
 rw [hb]
 have h0 : n - 1 ≠ 0 := by omega
 have e : Zn5 (n - 1) - 1 = (n - 1).log2 := by unfold Zn5; rw [if_neg h0]; rfl
 rw [e]
 have h1 := Nat.log2_self_le h0
 have h2 : (2 : Int) ^ (n - 1).log2 = ((2 ^ (n - 1).log2 : Nat) : Int) := by simp
 have h3 : 0 < 2 ^ (n - 1).log2 := Nat.pow_pos (by decide)
 rw [h2, Int.toNat_natCast]
 refine ⟨h3, by omega, rfl⟩
end Go.Flat
end
section
namespace Go.Flat
open Go.Proofs
variable {G : Glob}
def sub (ds : List D) (o m : Nat) : List D := (ds.drop o).take m
structure IncS where
  o : Nat
  m : Nat
  cap : Nat
  i : Nat
  f : Nat
  down : List D
end Go.Flat
end
section
namespace Go.Flat
open Go.Proofs
variable {G : Glob}
end Go.Flat
end
section
namespace Go.Flat
open Go.Proofs
variable {G : Glob}
def Zsb (kk : Nat → BitVec 32) (f : Nat) (l : List D) (m : Nat) (kn : Bool) (down : List D) : List D :=
  match f with
  | 0 => if kn then down else down ++ [Znq kk l]
  | f + 1 => if l.length ≤ m then (if kn then down else down ++ [Znq kk l]) else
      let k := (Zh8 l.length).toNat
      if m ≤ k then Zsb kk f (l.take k) m kn (down ++ [Znq kk (l.drop k)]) else Zsb kk f (l.drop k) (m - k) false (down ++ [Znq kk (l.take k)])
structure ConS where
  o : Nat
  m : Nat
  cap : Nat
  i : Nat
  kn : Bool
  f : Nat
  down : List D
end Go.Flat
end
section
namespace Go.Flat
open Go.Proofs
variable {G : Glob}
end Go.Flat
end
section
namespace Go.Flat
open Go.Proofs
variable {G : Glob}
def dg1 (k : Nat) : D := fun i => if i = 0 then BitVec.ofNat 8 k else 0
end Go.Flat
end
