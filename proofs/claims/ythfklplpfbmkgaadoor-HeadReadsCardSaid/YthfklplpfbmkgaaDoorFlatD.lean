/- The way from a law's arguments to a walk, and from the walk to the row; no condition. -/
import Derived.Test.YthfklplpfbmkgaaDoorFlatC
import Derived.Carry
import Derived.ReadAgain
section
/- A law's row, out of its contract: whatever the arguments, as long as what was there is not written. -/
set_option linter.unusedVariables false
set_option linter.unusedSimpArgs false
namespace Go.Flat
open Go.ChangeShapes Go.WideShapes Go.RowKit
section
variable {H : Type} {enc : TypeId × Value → H} {P : Program} {m m' : MapM} {W W' : World}
theorem trodAll_stays (hl : laidOutB P = true) {sp : Nat → Bool} (hk : ∀ g, g < W.heap.size → W'.heap[g]? = W.heap[g]?) : ∀ {ts : List TypeId} {vs : List Value} {ds : List (DataW H)} {ps : List MemPlace}, (ts.all fun t => P.readableRec t && decide (t < P.types.size)) = true →
    DataW.TrodAll enc P W 0 (fun _ => true) true ts vs ds ps → (∀ p ∈ ps, p.block < W.heap.size) → (∀ p ∈ ps, sp p.block = true) → DataW.TrodAll enc P W' 0 sp true ts vs ds ps
  | [], [], [], _, _, h, _, _ => h
  | t :: ts, v :: vs, d :: ds, ps, ht, ⟨p, q, h1, h2, e⟩, hlt, hs => by
    rw [List.all_cons, Bool.and_eq_true, Bool.and_eq_true] at ht
    refine ⟨p, q, WideElems.Trod_stays hl ht.1.1 (of_decide_eq_true ht.1.2) h1 (fun x hx => ?_) (fun x hx => hs x (by rw [e]; exact List.mem_append_left _ hx)), trodAll_stays hl hk ht.2 h2 (fun x hx => hlt x (by rw [e]; exact List.mem_append_right _ hx)) (fun x hx => hs x (by rw [e]; exact List.mem_append_right _ hx)), e⟩
    have := hk x.block (hlt x (by rw [e]; exact List.mem_append_left _ hx))
    unfold World.sameAt
    cases x <;> simp_all [MemPlace.block, World.cell?]
  | [], _ :: _, _, _, _, h, _, _ => h.elim
  | [], [], _ :: _, _, _, h, _, _ => h.elim
  | _ :: _, [], _, _, _, h, _, _ => h.elim
  | _ :: _, _ :: _, [], _, _, h, _, _ => h.elim
theorem law_post {f : Func} {s : ChangeSpec} {apart fresh handsOn again : Bool} {args : Array Value} {ds gs : List (DataW H)} {before : List MemPlace} {tb : TypeId}
    (hW : DataW.Whole enc P f.params.toList s.vars apart W args.toList ds gs before) (hv : s.vars = []) (hs : s.fn H ds = { results := [.lit (.bool true)], args := ds })
    (hr : f.resultTypes = #[tb]) (hb : P.underlying tb = some .bool) (hl : laidOutB P = true) (ht : (f.params.toList.all fun t => P.readableRec t && decide (t < P.types.size)) = true)
    (hm : ∀ b r, m b = some r → r.wr = false) (hf : Frame ⟨m, W, []⟩ m' W') : s.post enc P f apart fresh handsOn again W args (.bool true) W' := by
  have hlt : ∀ p ∈ before, p.block < W.heap.size := fun p hp => hW.lt p hp
  have hW' := hW
  obtain ⟨p, q, hA, hV, he, _, _⟩ := hW'
  rw [hv] at hV
  obtain ⟨rfl, rfl⟩ := trodVars_none hV
  rw [List.append_nil] at he
  subst he
  have e1 := hs
  refine post_of_old (pa := before) (pv := []) hW (fun _ _ _ => ?_) (fun sp hsp => ?_) (fun sp hsp => ?_) (by simp) (hf.kept hm _) (fun a ha => hf.frozen hm a ha) ?_
  · rw [List.append_nil, e1, hr]
    exact trodAll_mk1 (shut_bool hb _)
  · rw [List.append_nil, e1]
    exact trodAll_stays hl (fun g hg => hf.same hm hg) ht hA hlt hsp
  · rw [List.append_nil, e1, hv]; rfl
  · intro j t r h1 h2
    rw [hr] at h1 h2
    cases j with
    | zero =>
      simp [Value.resultList] at h1 h2
      subst h1; subst h2
      exact okWide_bool_mk hb _
    | succ j => simp at h1
theorem law_calls {f : FuncId} {fn : Func} {G : Glob} {s : ChangeSpec} {apart fresh handsOn again : Bool} {args : Array Value} {ds gs : List (DataW H)} {before : List MemPlace} {tb : TypeId} {σ σ' : List Blk} {argsL : List Value}
    (hW : DataW.Whole enc P fn.params.toList s.vars apart W args.toList ds gs before) (hv : s.vars = []) (hs : s.fn H ds = { results := [.lit (.bool true)], args := ds })
    (hr : fn.resultTypes = #[tb]) (hb : P.underlying tb = some .bool) (hl : laidOutB P = true) (ht : (fn.params.toList.all fun t => P.readableRec t && decide (t < P.types.size)) = true)
    (hm : ∀ b r, m b = some r → r.wr = false) (hrel : HRel G m σ W) (ha : L2 (VR m) argsL args.toList) (hC : CallL P G f argsL σ (.bool true) σ') :
    Calls P f args W fun e W' => ∃ v, e = .returned v ∧ s.post enc P fn apart fresh handsOn again W args v W' := by
  refine (hC m W args.toList hrel ha).mono ?_
  rintro e w' ⟨v', m', rfl, h1, h2, h3⟩
  have : v' = .bool true := h2
  subst this
  exact ⟨_, rfl, law_post hW hv hs hr hb hl ht hm h3⟩
theorem HRel.addRow {G : Glob} {σ : List Blk} (h : HRel G m σ W) (hm : ∀ b r, m b = some r → r.wr = false) {blk : Blk} {r : Reg} (hw : blk.wr = false) (hsz : 0 < blk.sz) (h1 : r.wr = false) (h2 : r.fix = blk.fix) (h3 : r.len = blk.cells.length) (h4 : r.sz = blk.sz) (h5 : r.mv = blk.mv)
    (hc : ∀ i v, blk.cells[i]? = some v → ∃ v', W.cell? ⟨r.g, r.lo + i, none⟩ = some v' ∧ CR (fun b => if b = σ.length then some r else m b) v v') (hp : blk.pur = true → ∀ v, v ∈ blk.cells → pureC v = true) :
    HRel G (fun b => if b = σ.length then some r else m b) (σ ++ [blk]) W ∧ (∀ b r', (if b = σ.length then some r else m b) = some r' → r'.wr = false) ∧ ∀ b r', m b = some r' → (if b = σ.length then some r else m b) = some r' := by
  have hdom : m σ.length = none := h.dom (Nat.le_refl _)
  have hext : ∀ b r', m b = some r' → (if b = σ.length then some r else m b) = some r' := by
    intro b r' hb
    by_cases e : b = σ.length
    · subst e; rw [hdom] at hb; cases hb
    · rw [if_neg e]; exact hb
  have hro : ∀ b r', (if b = σ.length then some r else m b) = some r' → r'.wr = false := by
    intro b r' hb
    by_cases e : b = σ.length
    · rw [if_pos e] at hb; injection hb with hb; subst hb; exact h1
    · rw [if_neg e] at hb; exact hm b r' hb
  have hget : ∀ b x, (σ ++ [blk])[b]? = some x → (b < σ.length ∧ σ[b]? = some x) ∨ (b = σ.length ∧ x = blk) := by
    intro b x hx
    rcases Nat.lt_or_ge b σ.length with hlt | hge
    · rw [List.getElem?_append_left hlt] at hx; exact .inl ⟨hlt, hx⟩
    · rw [List.getElem?_append_right hge] at hx
      cases e : b - σ.length with
      | zero => rw [e] at hx; simp at hx; exact .inr ⟨by omega, hx.symm⟩
      | succ k => rw [e] at hx; simp at hx
  refine ⟨{ reg := ?_, live := ?_, cell := ?_, pur := ?_, own := ?_, dis := ?_, glob := h.glob, gwr := ?_ }, hro, hext⟩
  · intro b r' hb
    by_cases e : b = σ.length
    · subst e
      rw [if_pos rfl] at hb; injection hb with hb; subst hb
      exact ⟨blk, by simp, hsz, by rw [h1, hw], h2, h3, h4, h5⟩
    · rw [if_neg e] at hb
      obtain ⟨B, g1, g2⟩ := h.reg b r' hb
      exact ⟨B, by rw [List.getElem?_append_left (List.getElem?_eq_some_iff.1 g1).1]; exact g1, g2⟩
  · intro b x hx h0
    rcases hget b x hx with ⟨hlt, hx⟩ | ⟨rfl, rfl⟩
    · obtain ⟨r', hr'⟩ := h.live b x hx h0
      exact ⟨r', hext _ _ hr'⟩
    · exact ⟨r, if_pos rfl⟩
  · intro b x r' i v hx hb hv
    rcases hget b x hx with ⟨hlt, hx⟩ | ⟨rfl, rfl⟩
    · rw [if_neg (by omega)] at hb
      obtain ⟨v', g1, g2⟩ := h.cell b x r' i v hx hb hv
      exact ⟨v', g1, g2.mono hext⟩
    · rw [if_pos rfl] at hb; injection hb with hb; subst hb
      exact hc i v hv
  · intro b x hx
    rcases hget b x hx with ⟨hlt, hx⟩ | ⟨rfl, rfl⟩
    · exact h.pur b x hx
    · exact hp
  · intro b r' hb hw'
    rw [hro b r' hb] at hw'; cases hw'
  · intro b b' r1 r2 _ hb _ hw'
    rw [hro b r1 hb] at hw'; cases hw'
  · intro b r' j hb hw'
    rw [hro b r' hb] at hw'; cases hw'
end
end Go.Flat
end
section
/- Opening an argument: a slice of arrays of bytes. -/
set_option linter.unusedVariables false
namespace Go.Flat
open Go.ChangeShapes Go.WideShapes Go.RowKit
section
variable {H : Type} {enc : TypeId × Value → H} {P : Program} {W : World}
theorem cell_at {a : Addr} {x : Nat} {v : Value} (h : W.cell? (a.add x) = some v) : W.cell? ⟨a.block, a.off + x, none⟩ = some v ∧ a.spot = none ∨ (W.cell? ⟨a.block, a.off + x, none⟩ = some v ∧ 0 < x) := by
  obtain ⟨b, o, s⟩ := a
  unfold Addr.add at h
  split at h
  · rename_i hx
    subst hx
    cases s with
    | none => exact .inl ⟨h, rfl⟩
    | some q => unfold World.cell? at h; split at h <;> simp at h
  · exact .inr ⟨h, by omega⟩
theorem cell_add {a : Addr} {x : Nat} {v : Value} (h : W.cell? (a.add x) = some v) : W.cell? ⟨a.block, a.off + x, none⟩ = some v := by
  rcases cell_at h with h | h
  · exact h.1
  · exact h.1
theorem cell_spot0 {a : Addr} {v : Value} (h : W.cell? (a.add 0) = some v) : a.spot = none := by
  rcases cell_at h with h | h
  · exact h.2
  · omega
theorem add_add (a : Addr) (x y : Nat) : (a.add x).add y = a.add (x + y) := by
  obtain ⟨b, o, s⟩ := a
  unfold Addr.add
  by_cases hx : x = 0
  · subst hx; by_cases hy : y = 0
    · subst hy; simp
    · simp [hy]
  · by_cases hy : y = 0
    · subst hy; simp [hx]
    · simp [hx, hy]; omega
def byteAt (W : World) (g o : Nat) : BitVec 8 := match W.cell? ⟨g, o, none⟩ with | some (.int _ z) => BitVec.ofInt 8 z | _ => 0
end
end Go.Flat
end
