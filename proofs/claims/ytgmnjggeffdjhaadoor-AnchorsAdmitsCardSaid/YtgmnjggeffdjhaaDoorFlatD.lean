/- The way from a law's arguments to a walk, and from the walk to the row; no condition. -/
import Derived.Test.YtgmnjggeffdjhaaDoorFlatC
import Derived.Carry
import Derived.ReadAgain
section
/- A law's row, out of its contract: whatever the arguments, as long as what was there is not written. -/
set_option linter.unusedVariables false
set_option linter.unusedSimpArgs false
namespace Go.Flat
open Go.ChangeShapes Go.WideShapes Go.RowKit
section
variable {H : Type} {enc : TypeId × Value → H} {P : Program} {m m' : MapM} {W W' : World}
theorem trodAll_stays (hl : laidOutB P = true) {sp : Nat → Bool} (hk : ∀ g, g < W.heap.size → W'.heap[g]? = W.heap[g]?) : ∀ {ts : List TypeId} {vs : List Value} {ds : List (DataW H)} {ps : List MemPlace}, (ts.all fun t => P.readableRec t && decide (t < P.types.size)) = true →
    DataW.TrodAll enc P W 0 (fun _ => true) true ts vs ds ps → (∀ p ∈ ps, p.block < W.heap.size) → (∀ p ∈ ps, sp p.block = true) → DataW.TrodAll enc P W' 0 sp true ts vs ds ps
  | [], [], [], _, _, h, _, _ => h
  | t :: ts, v :: vs, d :: ds, ps, ht, ⟨p, q, h1, h2, e⟩, hlt, hs => by
    rw [List.all_cons, Bool.and_eq_true, Bool.and_eq_true] at ht
    refine ⟨p, q, WideElems.Trod_stays hl ht.1.1 (of_decide_eq_true ht.1.2) h1 (fun x hx => ?_) (fun x hx => hs x (by rw [e]; exact List.mem_append_left _ hx)), trodAll_stays hl hk ht.2 h2 (fun x hx => hlt x (by rw [e]; exact List.mem_append_right _ hx)) (fun x hx => hs x (by rw [e]; exact List.mem_append_right _ hx)), e⟩
    have := hk x.block (hlt x (by rw [e]; exact List.mem_append_left _ hx))
    unfold World.sameAt
    cases x <;> simp_all [MemPlace.block, World.cell?]
  | [], _ :: _, _, _, _, h, _, _ => h.elim
  | [], [], _ :: _, _, _, h, _, _ => h.elim
  | _ :: _, [], _, _, _, h, _, _ => h.elim
  | _ :: _, _ :: _, [], _, _, h, _, _ => h.elim
/-- The law's end: true, and each argument reads as it read. -/
theorem law_post {f : Func} {s : ChangeSpec} {apart fresh handsOn again : Bool} {args : Array Value} {ds gs : List (DataW H)} {before : List MemPlace} {tb : TypeId}
    (hW : DataW.Whole enc P f.params.toList s.vars apart W args.toList ds gs before) (hv : s.vars = []) (hs : s.fn H ds = { results := [.lit (.bool true)], args := ds })
    (hr : f.resultTypes = #[tb]) (hb : P.underlying tb = some .bool) (hl : laidOutB P = true) (ht : (f.params.toList.all fun t => P.readableRec t && decide (t < P.types.size)) = true)
    (hm : ∀ b r, m b = some r → r.wr = false) (hf : Frame ⟨m, W, []⟩ m' W') : s.post enc P f apart fresh handsOn again W args (.bool true) W' := by
  have hlt : ∀ p ∈ before, p.block < W.heap.size := fun p hp => hW.lt p hp
  have hW' := hW
  obtain ⟨p, q, hA, hV, he, _, _⟩ := hW'
  rw [hv] at hV
  obtain ⟨rfl, rfl⟩ := trodVars_none hV
  rw [List.append_nil] at he
  subst he
  have e1 := hs
  refine post_of_old (pa := before) (pv := []) hW (fun _ _ _ => ?_) (fun sp hsp => ?_) (fun sp hsp => ?_) (by simp) (hf.kept hm _) (fun a ha => hf.frozen hm a ha) ?_
  · rw [List.append_nil, e1, hr]
    exact trodAll_mk1 (shut_bool hb _)
  · rw [List.append_nil, e1]
    exact trodAll_stays hl (fun g hg => hf.same hm hg) ht hA hlt hsp
  · rw [List.append_nil, e1, hv]; rfl
  · intro j t r h1 h2
    rw [hr] at h1 h2
    cases j with
    | zero =>
      simp [Value.resultList] at h1 h2
      subst h1; subst h2
      exact okWide_bool_mk hb _
    | succ j => simp at h1
/-- The law's contract, out of a walk over abstract blocks that are only read. -/
theorem law_calls {f : FuncId} {fn : Func} {G : Glob} {s : ChangeSpec} {apart fresh handsOn again : Bool} {args : Array Value} {ds gs : List (DataW H)} {before : List MemPlace} {tb : TypeId} {σ σ' : List Blk} {argsL : List Value}
    (hW : DataW.Whole enc P fn.params.toList s.vars apart W args.toList ds gs before) (hv : s.vars = []) (hs : s.fn H ds = { results := [.lit (.bool true)], args := ds })
    (hr : fn.resultTypes = #[tb]) (hb : P.underlying tb = some .bool) (hl : laidOutB P = true) (ht : (fn.params.toList.all fun t => P.readableRec t && decide (t < P.types.size)) = true)
    (hm : ∀ b r, m b = some r → r.wr = false) (hrel : HRel G m σ W) (ha : L2 (VR m) argsL args.toList) (hC : CallL P G f argsL σ (.bool true) σ') :
    Calls P f args W fun e W' => ∃ v, e = .returned v ∧ s.post enc P fn apart fresh handsOn again W args v W' := by
  refine (hC m W args.toList hrel ha).mono ?_
  rintro e w' ⟨v', m', rfl, h1, h2, h3⟩
  have : v' = .bool true := h2
  subst this
  exact ⟨_, rfl, law_post hW hv hs hr hb hl ht hm h3⟩
/-- One row more, that is only read. -/
theorem HRel.addRow {G : Glob} {σ : List Blk} (h : HRel G m σ W) (hm : ∀ b r, m b = some r → r.wr = false) {blk : Blk} {r : Reg} (hw : blk.wr = false) (hsz : 0 < blk.sz) (h1 : r.wr = false) (h2 : r.fix = blk.fix) (h3 : r.len = blk.cells.length) (h4 : r.sz = blk.sz) (h5 : r.mv = blk.mv)
    (hc : ∀ i v, blk.cells[i]? = some v → ∃ v', W.cell? ⟨r.g, r.lo + i, none⟩ = some v' ∧ CR (fun b => if b = σ.length then some r else m b) v v') (hp : blk.pur = true → ∀ v, v ∈ blk.cells → pureC v = true) :
    HRel G (fun b => if b = σ.length then some r else m b) (σ ++ [blk]) W ∧ (∀ b r', (if b = σ.length then some r else m b) = some r' → r'.wr = false) ∧ ∀ b r', m b = some r' → (if b = σ.length then some r else m b) = some r' := by
  have hdom : m σ.length = none := h.dom (Nat.le_refl _)
  have hext : ∀ b r', m b = some r' → (if b = σ.length then some r else m b) = some r' := by
    intro b r' hb
    by_cases e : b = σ.length
    · subst e; rw [hdom] at hb; cases hb
    · rw [if_neg e]; exact hb
  have hro : ∀ b r', (if b = σ.length then some r else m b) = some r' → r'.wr = false := by
    intro b r' hb
    by_cases e : b = σ.length
    · rw [if_pos e] at hb; injection hb with hb; subst hb; exact h1
    · rw [if_neg e] at hb; exact hm b r' hb
  have hget : ∀ b x, (σ ++ [blk])[b]? = some x → (b < σ.length ∧ σ[b]? = some x) ∨ (b = σ.length ∧ x = blk) := by
    intro b x hx
    rcases Nat.lt_or_ge b σ.length with hlt | hge
    · rw [List.getElem?_append_left hlt] at hx; exact .inl ⟨hlt, hx⟩
    · rw [List.getElem?_append_right hge] at hx
      cases e : b - σ.length with
      | zero => rw [e] at hx; simp at hx; exact .inr ⟨by omega, hx.symm⟩
      | succ k => rw [e] at hx; simp at hx
  refine ⟨{ reg := ?_, live := ?_, cell := ?_, pur := ?_, own := ?_, dis := ?_, glob := h.glob, gwr := ?_ }, hro, hext⟩
  · intro b r' hb
    by_cases e : b = σ.length
    · subst e
      rw [if_pos rfl] at hb; injection hb with hb; subst hb
      exact ⟨blk, by simp, hsz, by rw [h1, hw], h2, h3, h4, h5⟩
    · rw [if_neg e] at hb
      obtain ⟨B, g1, g2⟩ := h.reg b r' hb
      exact ⟨B, by rw [List.getElem?_append_left (List.getElem?_eq_some_iff.1 g1).1]; exact g1, g2⟩
  · intro b x hx h0
    rcases hget b x hx with ⟨hlt, hx⟩ | ⟨rfl, rfl⟩
    · obtain ⟨r', hr'⟩ := h.live b x hx h0
      exact ⟨r', hext _ _ hr'⟩
    · exact ⟨r, if_pos rfl⟩
  · intro b x r' i v hx hb hv
    rcases hget b x hx with ⟨hlt, hx⟩ | ⟨rfl, rfl⟩
    · rw [if_neg (by omega)] at hb
      obtain ⟨v', g1, g2⟩ := h.cell b x r' i v hx hb hv
      exact ⟨v', g1, g2.mono hext⟩
    · rw [if_pos rfl] at hb; injection hb with hb; subst hb
      exact hc i v hv
  · intro b x hx
    rcases hget b x hx with ⟨hlt, hx⟩ | ⟨rfl, rfl⟩
    · exact h.pur b x hx
    · exact hp
  · intro b r' hb hw'
    rw [hro b r' hb] at hw'; cases hw'
  · intro b b' r1 r2 _ hb _ hw'
    rw [hro b r1 hb] at hw'; cases hw'
  · intro b r' j hb hw'
    rw [hro b r' hb] at hw'; cases hw'
end
end Go.Flat
end
section
/- Opening an argument: a slice of arrays of bytes. -/
set_option linter.unusedVariables false
namespace Go.Flat
open Go.ChangeShapes Go.WideShapes Go.RowKit
section
variable {H : Type} {enc : TypeId × Value → H} {P : Program} {W : World}
theorem cell_at {a : Addr} {x : Nat} {v : Value} (h : W.cell? (a.add x) = some v) : W.cell? ⟨a.block, a.off + x, none⟩ = some v ∧ a.spot = none ∨ (W.cell? ⟨a.block, a.off + x, none⟩ = some v ∧ 0 < x) := by
  obtain ⟨b, o, s⟩ := a
  unfold Addr.add at h
  split at h
  · rename_i hx
    subst hx
    cases s with
    | none => exact .inl ⟨h, rfl⟩
    | some q => unfold World.cell? at h; split at h <;> simp at h
  · exact .inr ⟨h, by omega⟩
theorem cell_add {a : Addr} {x : Nat} {v : Value} (h : W.cell? (a.add x) = some v) : W.cell? ⟨a.block, a.off + x, none⟩ = some v := by
  rcases cell_at h with h | h
  · exact h.1
  · exact h.1
theorem cell_spot0 {a : Addr} {v : Value} (h : W.cell? (a.add 0) = some v) : a.spot = none := by
  rcases cell_at h with h | h
  · exact h.2
  · omega
theorem add_add (a : Addr) (x y : Nat) : (a.add x).add y = a.add (x + y) := by
  obtain ⟨b, o, s⟩ := a
  unfold Addr.add
  by_cases hx : x = 0
  · subst hx; by_cases hy : y = 0
    · subst hy; simp
    · simp [hy]
  · by_cases hy : y = 0
    · subst hy; simp [hx]
    · simp [hx, hy]; omega
/-- What lies at a place, as a byte. -/
def byteAt (W : World) (g o : Nat) : BitVec 8 := match W.cell? ⟨g, o, none⟩ with | some (.int _ z) => BitVec.ofInt 8 z | _ => 0
theorem byteAt_eq {g o : Nat} {z : Int} (h : W.cell? ⟨g, o, none⟩ = some (.int .u8 z)) (hw : (Lit.int .u8 z).wf = true) : W.cell? ⟨g, o, none⟩ = some (.int .u8 ((byteAt W g o).toNat : Int)) := by
  rw [Lit.wf, Bool.and_eq_true] at hw
  have h1 : (0 : Int) ≤ z := of_decide_eq_true hw.1
  have h2 : z ≤ 255 := of_decide_eq_true hw.2
  unfold byteAt
  rw [h]
  simp only [BitVec.toNat_ofInt]
  congr 2
  omega
/-- An array of bytes reads. -/
theorem arr8 {ta tb : TypeId} {n fuel : Nat} {a : Addr} {x : DataW H × List MemPlace} (hta : P.underlying ta = some (.array n tb)) (htb : P.underlying tb = some (.int .u8)) (hcb : P.cellsOf tb = 1) (hca : P.cellsOf ta = n)
    (h : (W.cells? 0 a n).bind (DataW.trod enc P W 0 (fun _ => true) true fuel ta) = some x) : ∀ j, j < n → W.cell? (a.add j) = W.cell? ⟨a.block, a.off + j, none⟩ ∧ W.cell? ⟨a.block, a.off + j, none⟩ = some (.int .u8 ((byteAt W a.block (a.off + j)).toNat : Int)) := by
  obtain ⟨cs, h1, h2⟩ := Option.bind_eq_some_iff.1 h
  obtain ⟨_, hl, hc⟩ := World.cells?_some h1
  obtain ⟨xs, m, _, _, _, hxl, hel⟩ := DataW.trod_array hta h2
  intro j hj
  have e := hel j hj
  rw [hcb, Nat.mul_one, List.getElem?_eq_getElem (by omega)] at e
  obtain ⟨z, e1, _, e3⟩ := DataW.trod_int htb e
  have hcj : cs[j]? = some (.int .u8 z) := by
    have : ((cs.drop j).take 1)[0]? = some (.int .u8 z) := by rw [e1]; rfl
    simpa using this
  have h3 := (hc j hj).trans hcj
  exact ⟨h3.trans (cell_add h3).symm, byteAt_eq (cell_add h3) e3⟩
/-- A slice of arrays of bytes: the row that it names. -/
theorem open_arrs {t ta tb : TypeId} {n base : Nat} {v : Value} {d : DataW H} {p : List MemPlace} (hn : 0 < n) (ht : P.underlying t = some (.slice ta)) (hta : P.underlying ta = some (.array n tb)) (htb : P.underlying tb = some (.int .u8)) (hca : P.cellsOf ta = n) (hcb : P.cellsOf tb = 1)
    (hv : Value.okWide P W .any base t v) (h : DataW.Trod enc P W 0 (fun _ => true) true t v d p) :
    ∃ (len c : Nat) (f : Nat → BitVec 8) (r : Reg), len ≤ c ∧ c ≤ maxLen ∧ r.wr = false ∧ r.fix = false ∧ r.len = len * n ∧ r.sz = n ∧ r.mv = true ∧ (∀ k, k < len * n → W.cell? ⟨r.g, r.lo + k, none⟩ = some (.int .u8 ((f k).toNat : Int))) ∧ ∀ (m : MapM) (b : Nat), m b = some r → VR m (slv b 0 len c) v := by
  obtain ⟨a0, len0, cap0, rfl⟩ := okWide_slice ht hv
  obtain ⟨fuel, hf⟩ := h
  rcases DataW.trod_slice ht hf with ⟨hcs, _⟩ | ⟨a, len, cap, elems, rest, k, _, hcs, _, _, hl, hmx, hlen, hel, hsp, _⟩
  · have hcs' : Value.slice a0 len0 cap0 = .slice none 0 0 := by simpa [Value.cells] using hcs
    injection hcs' with e1 e2 e3
    subst e1; subst e2; subst e3
    refine ⟨0, 0, fun _ => 0, ⟨0, 0, 0, 0, n, false, false, true⟩, Nat.le_refl _, Nat.zero_le _, rfl, rfl, by simp, rfl, rfl, fun k hk => by omega, fun m b hb => ?_⟩
    exact ⟨_, none, 0, hb, rfl, Nat.le_refl _, Nat.le_refl _, fun h => by omega⟩
  · have hcs' : Value.slice a0 len0 cap0 = .slice (some a) len cap := by simpa [Value.cells] using hcs
    injection hcs' with e1 e2 e3
    subst e1; subst e2; subst e3
    have hcell : ∀ k, k < len0 * n → W.cell? ⟨a.block, a.off + k, none⟩ = some (.int .u8 ((byteAt W a.block (a.off + k)).toNat : Int)) := by
      intro k hk
      have hi : k / n < len0 := Nat.div_lt_of_lt_mul (by rw [Nat.mul_comm]; exact hk)
      have hj : k % n < n := Nat.mod_lt _ hn
      have e := hel (k / n) hi
      rw [hca, List.getElem?_eq_getElem (by omega)] at e
      have := (arr8 hta htb hcb hca e (k % n) hj)
      have hk' : n * (k / n) + k % n = k := Nat.div_add_mod k n
      rw [Nat.mul_comm] at hk'
      have h2 := this.1.trans this.2
      have e2 : (a.add (k / n * n)).add (k % n) = a.add k := by rw [add_add, hk']
      rw [e2] at h2
      have h3 := cell_add h2
      have hb : (a.add (k / n * n)).block = a.block := by unfold Addr.add; split <;> rfl
      have ho : (a.add (k / n * n)).off + k % n = a.off + k := by
        unfold Addr.add
        split
        · rename_i h0; rw [h0] at hk'; omega
        · simp only []; omega
      rw [hb, ho] at h3
      exact h3
    have hspot : 0 < cap0 → a.spot = none := by
      intro hc
      rcases Nat.eq_zero_or_pos len0 with h0 | h0
      · subst h0
        obtain ⟨s1, s2⟩ := hsp rfl
        have e := s2 0 (by omega)
        rw [hca, List.getElem?_eq_getElem (by omega)] at e
        have := arr8 hta htb hcb hca e 0 hn
        have h2 := this.1.trans this.2
        rw [add_add] at h2
        simp only [Nat.add_zero, Nat.zero_mul] at h2
        exact cell_spot0 h2
      · have e := hel 0 h0
        rw [hca, List.getElem?_eq_getElem (by omega)] at e
        have := arr8 hta htb hcb hca e 0 hn
        have h2 := this.1.trans this.2
        rw [add_add] at h2
        simp only [Nat.add_zero, Nat.zero_mul] at h2
        exact cell_spot0 h2
    refine ⟨len0, cap0, fun k => byteAt W a.block (a.off + k), ⟨a.block, a.off, a.off + cap0 * n, len0 * n, n, false, false, true⟩, hl, hmx, rfl, rfl, rfl, rfl, rfl, hcell, fun m b hb => ?_⟩
    refine ⟨_, some a, cap0, hb, rfl, hl, Nat.le_refl _, fun hc => ⟨?_, fun _ => ?_⟩⟩
    · have := hspot hc
      obtain ⟨g, o, s⟩ := a
      simp only at this
      subst this
      rfl
    · show a.off + 0 + cap0 * n ≤ a.off + cap0 * n
      omega
end
end Go.Flat
end
