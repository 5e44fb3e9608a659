/- Walks. -/
import Derived.Test.YtoafdomlefoenaaN1
import Derived.Lib.Overlaps
set_option linter.unusedVariables false
set_option linter.unusedSimpArgs false
section
/- Rows whose capacity is known: cap, an append that must move, overlaps; and slices.Insert put together from its two roads. -/
namespace Go.Flat
def exB (n : Nat) (l : List Value) : Blk := { cells := l, sz := n, wr := true, fix := true, mv := true, pur := false }
section
variable {P : Program} {G : Glob}


def Zey (σ : List Blk) (b : Nat) : Bool := match σ[b]? with | some x => x.wr && x.fix && x.mv && decide (0 < x.sz) | none => false
def Zus (P : Program) (σ : List Blk) (t : TypeId) (v : Value) : Option Value :=
  match P.underlying t, v with
  | some (.slice _), .slice (some ⟨b, _, none⟩) _ c => if Zey σ b then some (.int .i64 c) else none
  | _, _ => none
theorem Zph {σ : List Blk} {b : Nat} (h : Zey σ b = true) : ∃ x, σ[b]? = some x ∧ x.wr = true ∧ x.fix = true ∧ x.mv = true ∧ 0 < x.sz := by
 unfold Zey at h
 split at h
 ·rename_i x hx
  simp only [Bool.and_eq_true, decide_eq_true_eq] at h
  exact ⟨x, hx, h.1.1.1, h.1.1.2, h.1.2, h.2⟩
 ·cases h
theorem HRel.exact {m : MapM} {σ : List Blk} {w : World} (h : HRel G m σ w) {b o n c c' : Nat} {r : Reg} {a' : Option Addr} (hx : Zey σ b = true) (hr : m b = some r) (hs : Zf6 r o n c a' c') : c' = c := by
 obtain ⟨x, hb, h1, h2, h3, _⟩ := Zph hx
 obtain ⟨_, g1, g2, _, _, g5⟩ := h.at_ hb hr
 rcases Nat.eq_zero_or_pos c' with h0 | h0
 ·have := hs.2.1; omega
 ·exact (hs.2.2 h0).2.2 (by rw [g1, h1]) (by rw [g2, h2]) (by rw [g5, h3])
theorem Zt3 {o : Oper} {s : St} {t : TypeId} {x : Operand} {v : Value} (ho : o.op = .call { callee := .builtin .cap, args := #[x], argTypes := #[t] }) (h : Zus P s.heap t (s.eval x) = some v) : Za6 P G o s v [] := by
 unfold Zus at h
 split at h
 ·rename_i e b q n c hu hx
  split at h
  ·rename_i hex
   injection h with h; subst h
   refine Za6.pure (fun nt E m a w hr => ?_) rfl
   have hxv := hr.eval x
   rw [hx] at hxv
   obtain ⟨r, a', c', h1, h2, h3⟩ : ∃ r a' c', m b = some r ∧ a.eval x = .slice a' n c' ∧ Zf6 r q n c a' c' := hxv
   have := hr.heap.exact hex h1 h3
   subst this
   simp [execOp, ho, resolve, invoke, builtin, Builtin.cap_, h2, run_underlying hu, goInt]
  ·cases h
 ·cases h


theorem Zhc (w : World) (t u ty e : TypeId) (i : TypeInfo) (z : Value) (ht : P.underlying t = some (.slice e)) (ku : IntKind) (hu : P.underlying u = some (.int ku)) (hi : P.info? e = some i) (hz : i.zero = some z)
  (base : Option Addr) (sLen sCap k : Nat) (olds : List Value)
  (ho : (Builtin.firstCells i.size sLen (.slice base sLen sCap)).run P w.drew = .ok olds.toArray w.drew)
  (hfit : ¬ sLen + k ≤ sCap) (hk : 0 < k) (hs0 : 0 < i.size) (hb : (sLen + k) * i.bytes ≤ 140737488355328) (hb0 : 0 < i.bytes) :
  (Builtin.append_ #[t, u] ty #[.slice base sLen sCap, .int .i64 k]).run P w = .ok (.slice (some ⟨w.heap.size, 0, none⟩) (sLen + k) (grownCap w (sLen + k) sCap e))
    (w.drew.alloc (.cells (olds.toArray ++ Builtin.zeroCells z.cells k ++ Builtin.zeroCells z.cells (grownCap w (sLen + k) sCap e - (sLen + k))) e)) := by
 have h48 := growslice_fits (need := sLen + k) (old := sCap) (bytes := i.bytes) (by omega) hb
 have h48' : ¬ (281474976710656 < Builtin.nextslicecap (sLen + k) sCap * i.bytes) := by omega
 have hbn : ¬ i.bytes = 0 := by omega
 have hkb : k * i.bytes ≤ (sLen + k) * i.bytes := Nat.mul_le_mul_right _ (by omega)
 have hkn : sLen + k ≤ (sLen + k) * i.bytes := Nat.le_mul_of_pos_right _ hb0
 have hw : IntKind.i64.wrap (k : Int) = k := by rw [IntKind.wrap_i64]; omega
 have h48i : ¬ (281474976710656 < (k : Int) * (i.bytes : Int)) := by rw [← Int.natCast_mul]; omega
 have hneg : ¬ ((k : Int) < 0) := by omega
 have hns : ¬ (k * i.size = 0) := Nat.mul_ne_zero (by omega) (by omega)
 have h63 : ¬ (9223372036854775807 < (sLen : Int) + (k : Int)) := by omega
 simp [Builtin.append_, run_underlying ht, run_underlying hu, sizeOf, typeInfo, zeroValue, hi, hz, asInt, asIntOf, hw, hneg, hns, h63, hfit, h48', h48i, Question.forced, newRow, hbn, ho, grownCap]
def Zqp (P : Program) (σ : List Blk) (t : TypeId) (v x : Value) (nid : Nat) : Option (Value × Blk) :=
  match Zcg P t, v, x with
  | some (sz, zc, by_), .slice (some ⟨b, o, none⟩) n c, .int .i64 z => (σ[b]?).bind fun blk =>
      if Zey σ b = true ∧ zc.length = sz ∧ 0 < sz ∧ 0 < by_ ∧ 0 < z ∧ c < n + z.toNat ∧ (n + z.toNat) * by_ ≤ 140737488355328 ∧ o + n * sz ≤ blk.cells.length ∧ Zcs σ nid = true then
        some (.slice (some ⟨nid, 0, none⟩) (n + z.toNat) (n + z.toNat), Zdd false false sz ((blk.cells.drop o).take (n * sz) ++ List.replicate (z.toNat * sz) dead)) else none
  | _, _, _ => none
theorem Zrj {o : Oper} {s : St} {t u : TypeId} {x y : Operand} {v : Value} {nid : Nat} {b : Blk} {ku : IntKind} (ho : o.op = .call { callee := .builtin .append, args := #[x, y], argTypes := #[t, u] })
  (hu : P.underlying u = some (.int ku)) (h : Zqp P s.heap t (s.eval x) (s.eval y) nid = some (v, b)) : Za6 P G o s v [(nid, b)] := by
 unfold Zqp at h
 split at h
 ·rename_i sz zc by_ b' of n c zi ht hx hy
  cases hb : s.heap[b']? with
  | none => simp [hb] at h
  | some blk =>
   simp only [hb, Option.bind_some] at h
   split at h
   ·rename_i hh
    obtain ⟨hex, hzl, hsz, hby, hz0, hgt, hbound, hle, hfr⟩ := hh
    injection h with h; injection h with h1 h2
    subst h1; subst h2
    obtain ⟨e, i, z, hut, hi, hz, he1, he2, he3⟩ := Zef ht
    intro nt E m a w hr
    have hyv : a.eval y = .int .i64 zi := by rw [Zbn hr (by rw [hy]; rfl), hy]
    have hxv := hr.eval x
    rw [hx] at hxv
    obtain ⟨r, a', c', hr1, hr2, hr3⟩ : ∃ r a' c', m b' = some r ∧ a.eval x = .slice a' n c' ∧ Zf6 r of n c a' c' := hxv
    have hcc := hr.heap.exact hex hr1 hr3
    subst hcc
    obtain ⟨k, rfl⟩ : ∃ k : Nat, zi = k := ⟨zi.toNat, by omega⟩
    simp only [Int.toNat_natCast] at hgt hbound ⊢
    obtain ⟨ys, hys1, hys2, hys3⟩ := hr.heap.cellsAt hb hr1 of (n * sz) hle
    have hold := Ze3 (P := P) (W := w.drew) sz n c' a' r.g (r.lo + of) ys hys2 (fun h0 => hr3.addr (by have := hr3.1; omega)) (fun j v hv => by simpa using hys3 j v hv)
    have hrun := Zhc (P := P) w t u o.type e i z hut ku hu hi hz a' n c' k ys (by rw [he1]; exact hold) (by omega) (by omega) (by omega) (by rw [he3]; exact hbound) (by omega)
    have hcap := grownCap_ge w (n + k) c' e
    generalize hC : grownCap w (n + k) c' e = C at hrun hcap
    have hzs : z.cells.size = sz := by rw [← hzl, ← he2]; simp
    have hcss : (ys.toArray ++ Builtin.zeroCells z.cells k ++ Builtin.zeroCells z.cells (C - (n + k))).size = C * sz := by
     simp only [Array.size_append, size_zeroCells, List.size_toArray, hys2, hzs]
     rw [← Nat.add_mul, ← Nat.add_mul]; congr 1; omega
    have holdl : ((blk.cells.drop of).take (n * sz)).length = n * sz := by simp; omega
    have hlen : ((blk.cells.drop of).take (n * sz) ++ List.replicate (k * sz) dead).length = (n + k) * sz := by
     rw [List.length_append, holdl, List.length_replicate, Nat.add_mul]
    have hcl : (n + k) * sz ≤ C * sz := Nat.mul_le_mul_right _ hcap
    have hmm := hr.heap.drew
    obtain ⟨m', g1, g2, g3, g4⟩ := Zfd hr.heap.drew hr.frame.drew hfr (Zdd false false sz ((blk.cells.drop of).take (n * sz) ++ List.replicate (k * sz) dead)) hsz
     (ys.toArray ++ Builtin.zeroCells z.cells k ++ Builtin.zeroCells z.cells (C - (n + k))) e (0, 0)
     (by simp only [Zdd]; rw [hcss, hlen]; exact hcl)
     ⟨by simp only [Zdd]; rw [hlen, List.length_take, Array.length_toList, hcss]; omega, fun j v v' hj hj' => by
      simp only [Zdd] at hj hj'
      rw [List.getElem?_append] at hj
      split at hj
      ·rename_i hlt
       obtain ⟨y, hy1, hy2⟩ := hys1.get hj
       have hjl : j < ys.length := (List.getElem?_eq_some_iff.1 hy1).1
       rw [List.getElem?_take] at hj'
       split at hj'
       ·rw [Array.getElem?_toList, Array.append_assoc, Array.getElem?_append_left (by simpa using hjl)] at hj'
        simp only [List.getElem?_toArray] at hj'
        rw [hy1] at hj'
        injection hj' with hj'; subst hj'; exact hy2
       ·cases hj'
      ·have := List.mem_of_getElem? hj
       rw [List.mem_replicate] at this
       rw [this.2]; exact trivial⟩
     (by intro hq; simp [Zdd] at hq) (by simp)
    refine ⟨_, _, m', .inl (by simp [execOp, ho, resolve, invoke, builtin, hr2, hyv, hrun]), g1, g2, g3, _, _, _, g4, rfl, Nat.le_refl _, hcap, fun _ => ⟨rfl, fun _ => ?_, fun _ h1 _ => by simp [Zdd] at h1⟩⟩
    show 0 + 0 + C * sz ≤ (ys.toArray ++ Builtin.zeroCells z.cells k ++ Builtin.zeroCells z.cells (C - (n + k))).size
    rw [hcss]; omega
   ·cases h
 ·cases h
end
section
variable {P : Program} {G : Glob}

theorem Zj0 (w : World) (tS tR e : TypeId) (ht : P.underlying tS = some (.slice e)) (size : Nat) (hz : ∀ w, (Go.sizeOf e).run P w = .ok size w)
    (g oa ob : Nat) (la ca lb cb : Nat) (hd : ¬ (oa < ob + lb * size ∧ ob < oa + la * size)) :
    (Extern.SlicesOverlaps.overlaps #[tS, tS] #[tR] #[.slice (some ⟨g, oa, none⟩) la ca, .slice (some ⟨g, ob, none⟩) lb cb]).run P w = .ok (.bool false) w := by
  change Sem.run P (α := Value) (do
    let some t := (#[tS, tS] : Array TypeId)[0]? | stuck "slices.overlaps: no parameter types"
    let .slice elem ← underlying t | stuck "slices.overlaps: slice type expected"
    let size ← sizeOf elem
    match (some (⟨g, oa, none⟩ : Addr)), (some (⟨g, ob, none⟩ : Addr)) with
    | some a, some b =>
      if la = 0 ∨ lb = 0 ∨ size = 0 then pure (Value.bool false)
      else if a.block != b.block && (← frozen a) && (← frozen b) then unsupported .addressObserved
      else do
        if a.block != b.block then do
          noView a; noView b
          if ← mayBeOne a b then return Value.bool ((← choose (.extern "sameAddr.stringBytes" 2)) == 1)
        pure (Value.bool (a.block == b.block && a.off < b.off + lb * size && b.off < a.off + la * size))
    | _, _ => pure (Value.bool false)) w = _
  by_cases h0 : la = 0 ∨ lb = 0 ∨ size = 0
  · simp [run_underlying ht, hz, h0]
  · simp [run_underlying ht, hz, h0, frozen, Sem.run]
    intro h1
    exact Nat.not_lt.1 fun h2 => hd ⟨h1, h2⟩
theorem Zjk {w : World} {g o : Nat} {c : Array Value} {t : TypeId} (h : w.heap[g]? = some (Obj.cells c t (0, 0))) : w.frozen? ⟨g, o, none⟩ = false := by
 simp [World.frozen?, h]
theorem Zku {w : World} {g : Nat} {c : Array Value} {t : TypeId} (h : w.heap[g]? = some (Obj.cells c t (0, 0))) : w.shape? g = some (t, c.size) := by
 simp [World.shape?, h]
def Zjv (σ : List Blk) (sz : Nat) (x y : Value) : Option Value :=
  match x, y with
  | .slice (some ⟨b1, o1, none⟩) n1 _, .slice (some ⟨b2, o2, none⟩) n2 _ => (σ[b1]?).bind fun B1 => (σ[b2]?).bind fun B2 =>
      if b1 ≠ b2 ∧ B1.wr = true ∧ B2.wr = true ∧ 1 < B1.sz ∧ 1 < B2.sz ∧ 0 < n1 ∧ 0 < n2 ∧ 0 < sz ∧ o1 + n1 * sz ≤ B1.cells.length ∧ o2 + n2 * sz ≤ B2.cells.length then some (.bool false) else none
  | _, _ => none
structure IsOver (P : Program) (f : FuncId) (sz : Nat) : Prop where
  run : ∃ tS tR e, P.underlying tS = some (.slice e) ∧ (∀ w, (Go.sizeOf e).run P w = .ok sz w) ∧ ∀ args w, (callFunc f args).run P w = ((Extern.SlicesOverlaps.overlaps #[tS, tS] #[tR] args).run P w).andThen fun v w' => .ok (.value v) w'
theorem Zrp {o : Oper} {s : St} {f : FuncId} {x y : Operand} {ts : Array TypeId} {sz : Nat} {v : Value} (hf : IsOver P f sz) (ho : o.op = .call { callee := .value (.func f), args := #[x, y], argTypes := ts }) (h : Zjv s.heap sz (s.eval x) (s.eval y) = some v) : Za6 P G o s v [] := by
 obtain ⟨tS, tR, e, ht, hz, hrun⟩ := hf.run
 unfold Zjv at h
 split at h
 ·rename_i b1 o1 n1 c1 b2 o2 n2 c2 hx hy
  cases hb1 : s.heap[b1]? with
  | none => simp [hb1] at h
  | some B1 =>
   cases hb2 : s.heap[b2]? with
   | none => simp [hb1, hb2] at h
   | some B2 =>
    simp only [hb1, hb2, Option.bind_some] at h
    split at h
    ·rename_i hh
     obtain ⟨hne, w1, w2, s1, s2, p1, p2, psz, l1, l2⟩ := hh
     injection h with h; subst h
     refine Za6.pure (fun nt E m a w hr => ?_) rfl
     have hxv := hr.eval x
     have hyv := hr.eval y
     rw [hx] at hxv
     rw [hy] at hyv
     obtain ⟨r1, a1, d1, m1, e1, k1⟩ : ∃ r a' c', m b1 = some r ∧ a.eval x = .slice a' n1 c' ∧ Zf6 r o1 n1 c1 a' c' := hxv
     obtain ⟨r2, a2, d2, m2, e2, k2⟩ : ∃ r a' c', m b2 = some r ∧ a.eval y = .slice a' n2 c' ∧ Zf6 r o2 n2 c2 a' c' := hyv
     have q1 := k1.addr (by have := k1.1; have := k1.2.1; omega)
     have q2 := k2.addr (by have := k2.1; have := k2.2.1; omega)
     subst q1; subst q2
     obtain ⟨_, f1, _, g1, z1, _⟩ := hr.heap.at_ hb1 m1
     obtain ⟨_, f2, _, g2, z2, _⟩ := hr.heap.at_ hb2 m2
     rw [w1] at f1
     rw [w2] at f2
     obtain ⟨t1, _⟩ := hr.heap.own b1 r1 m1 f1
     obtain ⟨t2, u2⟩ := hr.heap.own b2 r2 m2 f2
     have x1 : 0 < n1 * sz := Nat.mul_pos p1 psz
     have x2 : 0 < n2 * sz := Nat.mul_pos p2 psz
     obtain ⟨cc1, tt1, y1⟩ := hr.heap.clean b1 r1 m1 f1 (by omega) (by omega)
     obtain ⟨cc2, tt2, y2⟩ := hr.heap.clean b2 r2 m2 f2 (by omega) (by omega)
     have key : (Extern.SlicesOverlaps.overlaps #[tS, tS] #[tR] #[.slice (some ⟨r1.g, r1.lo + o1, none⟩) n1 d1, .slice (some ⟨r2.g, r2.lo + o2, none⟩) n2 d2]).run P w = .ok (.bool false) w := by
      by_cases hg : r1.g = r2.g
      ·rw [hg]
       refine Zj0 w tS tR e ht sz hz _ _ _ _ _ _ _ ?_
       rintro ⟨h1, h2⟩
       have hd := hr.heap.dis b1 b2 r1 r2 hne m1 m2 f1 hg (max (r1.lo + o1) (r2.lo + o2)) (by omega) (by omega) (by omega)
       refine hd ?_
       unfold Reg.ext
       rw [if_pos f2]
       omega
      ·refine Lib.run_overlaps_apart w tS tR e ht sz hz _ _ _ _ _ _ hg tt1 tt2 cc1.size cc2.size (Zku y1) (Zku y2) ?_ (Zjk y1) (Zjk y1)
       obtain ⟨v', hv', _⟩ := u2 (r2.lo + o2) (by omega) (by omega)
       rw [cell_of_row _ _ _ _ _ _ y2] at hv'
       have := (Array.getElem?_eq_some_iff.1 hv').1
       omega
     have hfv : a.eval (.func f) = .func (.func f) #[] #[] := rfl
     simp only [execOp, ho, resolve, hfv, Deferred.ofValue, Sem.run_bind, Sem.run_pure, Result.andThen_ok, invoke]
     simp only [Array.empty_append, Array.append_empty, hrun, List.map_toArray, List.map_cons, List.map_nil, e1, e2, key, Result.andThen_ok]
    ·cases h
 ·cases h
theorem Zpx {σ σ' : List Blk} {sz : Nat} {x y : Value} (h : ∀ b, b ∈ Zcb x ++ Zcb y → σ'[b]? = σ[b]?) : Zjv σ' sz x y = Zjv σ sz x y := by
 unfold Zjv
 split
 ·rename_i b1 o1 n1 c1 b2 o2 n2 c2
  rw [h b1 (by simp [Zcb]), h b2 (by simp [Zcb])]
 ·rfl
end
section
variable {P : Program} {G : Glob} {nt : Nat} {ops l : List Oper} {K : Trace → St → Prop} {tr : Trace} {T : Nat → Value} {H H' : List Blk} {d : Tmp} {ty : TypeId} {ps : String} {af : Array Edge} {g : Option (Nat × Bool)}
theorem Zzx {ops : Array Oper} {o : Oper} {s : St} {t : TypeId} {x : Operand} {v : Value} (hg : Zcn nt s (Zct ops o) = some true) (hd : Zbd nt o.dst = true) (ho : o.op = .call { callee := .builtin .cap, args := #[x], argTypes := #[t] }) (h : Zus P s.heap t (s.eval x) = some v) : Zal P G nt ops o s { val := v, foot := Zcb (s.eval x) } :=
 Zal.value hg hd fun s' ha => Zt3 ho (by
  rw [Zaj ha (x := x) (by rw [ho]; simp [Op.operands, Call.operands])]
  have hh := ha.heap
  generalize s.eval x = q at h hh ⊢
  unfold Zus at h ⊢
  split at h
  ·rename_i e b o n c hu
   have : Zey s'.heap b = Zey s.heap b := by unfold Zey; rw [hh b (by simp [Zcb])]
   simp only [hu, this]; exact h
  ·cases h)
theorem Zyx {ops : Array Oper} {o : Oper} {s : St} {t u : TypeId} {x y : Operand} {v : Value} {nid : Nat} {b : Blk} {ku : IntKind} (hg : Zcn nt s (Zct ops o) = some true) (hd : Zbd nt o.dst = true) (ho : o.op = .call { callee := .builtin .append, args := #[x, y], argTypes := #[t, u] })
  (hu : P.underlying u = some (.int ku)) (h : Zqp P s.heap t (s.eval x) (s.eval y) nid = some (v, b)) : Zal P G nt ops o s { val := v, sets := [(nid, b)], foot := nid :: Zcb (s.eval x) } :=
 Zal.value hg hd fun s' ha => Zrj ho hu (by
  rw [Zaj ha (x := x) (by rw [ho]; simp [Op.operands, Call.operands]), Zaj ha (x := y) (by rw [ho]; simp [Op.operands, Call.operands])]
  have hh := ha.heap
  unfold Zqp at h ⊢
  rw [show Zcs s'.heap nid = Zcs s.heap nid from by unfold Zcs; rw [ha.heap nid (by simp), ha.len]]
  split at h
  ·rename_i sz zc by_ b' of n c z ht hx hy
   try simp only [ht, hx, hy]
   have h1 : s'.heap[b']? = s.heap[b']? := hh b' (by simp [hx, Zcb])
   have : Zey s'.heap b' = Zey s.heap b' := by unfold Zey; rw [h1]
   rw [h1, this]; exact h
  ·cases h)
theorem Zy3 {ops : Array Oper} {o : Oper} {s : St} {f : FuncId} {x y : Operand} {ts : Array TypeId} {sz : Nat} {v : Value} (hg : Zcn nt s (Zct ops o) = some true) (hd : Zbd nt o.dst = true) (hf : IsOver P f sz) (ho : o.op = .call { callee := .value (.func f), args := #[x, y], argTypes := ts }) (h : Zjv s.heap sz (s.eval x) (s.eval y) = some v) : Zal P G nt ops o s { val := v, foot := Zcb (s.eval x) ++ Zcb (s.eval y) } :=
 Zal.value hg hd fun s' ha => Zrp hf ho (by
  rw [Zaj ha (x := x) (by rw [ho]; simp [Op.operands, Call.operands]), Zaj ha (x := y) (by rw [ho]; simp [Op.operands, Call.operands])]
  rw [Zpx fun b hb => ha.heap b hb]; exact h)
theorem Zx9 (hg : gd nt T ops g = some true) (hd : Zbd nt (some d) = true) {t : TypeId} {x : Operand} {p v : Value} (hx : St.eval ⟨T, H⟩ x = p) (h : Zus P H t p = some v) (k : R P G nt ops K l (tr ++ [(⟨some d, .call { callee := .builtin .cap, args := #[x], argTypes := #[t] }, ty, ps, af, g⟩, { val := v, foot := Zcb p })]) (upd T d v) H) : R P G nt ops K (⟨some d, .call { callee := .builtin .cap, args := #[x], argTypes := #[t] }, ty, ps, af, g⟩ :: l) tr T H := by
 subst hx; exact ⟨Zbi.valF (Zzx (by rw [Zc2]; exact hg) hd rfl h) rfl k.h⟩
theorem Zy7 {nid : Nat} (hg : gd nt T ops g = some true) (hd : Zbd nt (some d) = true) {t u : TypeId} {x y : Operand} {v p q : Value} {blk : Blk} {ku : IntKind} (hu : P.underlying u = some (.int ku)) (hx : St.eval ⟨T, H⟩ x = p) (hy : St.eval ⟨T, H⟩ y = q) (h : Zqp P H t p q nid = some (v, blk)) (hH : Zet H nid blk = H')
  (k : R P G nt ops K l (tr ++ [(⟨some d, .call { callee := .builtin .append, args := #[x, y], argTypes := #[t, u] }, ty, ps, af, g⟩, { val := v, sets := [(nid, blk)], foot := nid :: Zcb p })]) (upd T d v) H') : R P G nt ops K (⟨some d, .call { callee := .builtin .append, args := #[x, y], argTypes := #[t, u] }, ty, ps, af, g⟩ :: l) tr T H := by
 subst hx; subst hy; exact ⟨Zbi.new (Zyx (by rw [Zc2]; exact hg) hd rfl hu h) rfl hH k.h⟩
theorem Zy8 {f : FuncId} {sz : Nat} (hf : IsOver P f sz) (hg : gd nt T ops g = some true) (hd : Zbd nt (some d) = true) {x y : Operand} {ts : Array TypeId} {p q v : Value} (hx : St.eval ⟨T, H⟩ x = p) (hy : St.eval ⟨T, H⟩ y = q) (h : Zjv H sz p q = some v)
  (k : R P G nt ops K l (tr ++ [(⟨some d, .call { callee := .value (.func f), args := #[x, y], argTypes := ts }, ty, ps, af, g⟩, { val := v, foot := Zcb p ++ Zcb q })]) (upd T d v) H) : R P G nt ops K (⟨some d, .call { callee := .value (.func f), args := #[x, y], argTypes := ts }, ty, ps, af, g⟩ :: l) tr T H := by
 subst hx; subst hy; exact ⟨Zbi.valF (Zy3 (by rw [Zc2]; exact hg) hd hf rfl h) rfl k.h⟩
end


section
variable {P : Program} {G : Glob}
def Zsy (P : Program) (G : Glob) (fn : Func) (Φ : St → Value → Prop) : Exit → St → Prop
  | .normal, s | .ret, s => ∃ v, Ze2 P G fn s = some v ∧ Φ s v
  | _, _ => False
theorem Zwk {fn : Func} {Φ : St → Value → Prop} {s : St} {v : Value} (hr : Ze2 P G fn s = some v) (h : Φ s v) : X (Zsy P G fn Φ) .ret s := ⟨⟨v, hr, h⟩⟩
theorem Zx1 {f : FuncId} {fn : Func} {c : Code} {nt : Nat} {args args' : List Value} {σ : List Blk} {m : MapM} {w : World} (hf : P.funcs[f]? = some fn) (hb : fn.body = some c) (hnt : fn.ntmps = nt) (hn : args.length ≤ nt)
  (hH : HRel G m σ w) (hA : L2 (VR m) args args') (Φ : St → Value → Prop) (h : C P G nt σ.length c (Zsy P G fn Φ) ⟨Zg2 args, σ⟩) {R : Ending → World → Prop}
  (hR : ∀ s v m' w' v', Φ s v → HRel G m' s.heap w' → VR m' v v' → Frame ⟨m, w, []⟩ m' w' → R (.returned v') w') : Calls P f args'.toArray w R := by
 subst hnt
 refine calls_of_wp hf hb ?_
 have hl := hA.1
 have hdom : ∀ b, σ.length ≤ b → m b = none := fun b hb => hH.dom hb
 have h0 := h.h ⟨m, w, []⟩ m { tmps := args'.toArray ++ Array.replicate (fn.ntmps - args'.toArray.size) undef, defers := [] } w hdom
  ⟨by simp; omega, fun i => by
   rcases hA.at_ i with ⟨x, y, h1, h2, h3⟩ | ⟨h1, h2⟩
   ·have hi : i < args'.length := (List.getElem?_eq_some_iff.1 h2).1
    simp only [Zg2, h1, Option.getD_some]
    rw [Array.getD_eq_getD_getElem?, Array.getElem?_append_left (by simpa using hi)]
    simp only [List.getElem?_toArray, h2, Option.getD_some]
    exact h3
   ·simp only [Zg2, h1, Option.getD_none]
    have : args'.length ≤ i := by simpa using h2
    rw [Array.getD_eq_getD_getElem?, Array.getElem?_append_right (by simpa using this)]
    rw [Array.getElem?_replicate]
    split <;> exact VR.undef, rfl, hH, Frame.refl [] hH⟩
 refine wp_mono h0 ?_
 rintro e a w' ⟨s, m', hq, hr⟩
 have key : (∃ v, Ze2 P G fn s = some v ∧ Φ s v) → a.defers = [] ∧ ∃ v, (results fn a.tmps).run P w' = .ok v w' ∧ R (.returned v) w' := by
  rintro ⟨v, hv, hΦ⟩
  obtain ⟨v', g1, g2⟩ := Zdq hr hv
  exact ⟨hr.defers, v', g1, hR s v m' w' v' hΦ hr.heap g2 hr.frame⟩
 cases e with
 | normal => exact key hq
 | ret => exact key hq
 | _ => exact hq.elim


def Zpz (m : MapM) (r : Reg) : MapM := fun b => if b = 0 then some r else if b = 1 then m 1 else none
theorem HRel.pick {m : MapM} {H : List Blk} {w : World} (h : HRel G m H w) {j : Nat} {X B0 B1 : Blk} {r : Reg} (hX : H[j]? = some X) (hr : m j = some r) (h1 : H[1]? = some B1) (hj : j ≠ 1)
  (hw : X.wr = true) (hw0 : B0.wr = true) (hs : B0.sz = X.sz) (hf : B0.fix = false) (hm : B0.mv = X.mv) (hc : B0.cells = X.cells.take B0.cells.length) (hl : B0.cells.length ≤ X.cells.length)
  (hp0 : ∀ v, v ∈ B0.cells → Za9 v = true) (hp1 : B1.pur = true) (hs1 : 0 < B1.sz) :
  HRel G (Zpz m { r with len := B0.cells.length, fix := false }) [B0, B1] w := by
 obtain ⟨a1, a2, a3, a4, a5, a6⟩ := h.at_ hX hr
 obtain ⟨r1, hr1⟩ := h.live 1 B1 h1 hs1
 obtain ⟨b1, b2, b3, b4, b5, b6⟩ := h.at_ h1 hr1
 have hrw : r.wr = true := by rw [a2]; exact hw
 obtain ⟨o1, o2⟩ := h.own j r hr hrw
 have hcase : ∀ b q, Zpz m { r with len := B0.cells.length, fix := false } b = some q → (b = 0 ∧ q = { r with len := B0.cells.length, fix := false }) ∨ (b = 1 ∧ q = r1) := by
  intro b q hq
  unfold Zpz at hq
  split at hq
  ·injection hq with hq; exact .inl ⟨by assumption, hq.symm⟩
  ·split at hq
   ·rw [hr1] at hq; injection hq with hq; exact .inr ⟨by assumption, hq.symm⟩
   ·cases hq
 have hblk : ∀ (b : Nat) (x : Blk), [B0, B1][b]? = some x → (b = 0 ∧ x = B0) ∨ (b = 1 ∧ x = B1) := by
  intro b x hx
  match b with
  | 0 => injection hx with hx; exact .inl ⟨rfl, hx.symm⟩
  | 1 => injection hx with hx; exact .inr ⟨rfl, hx.symm⟩
  | b + 2 => simp at hx
 refine ⟨?_, ?_, ?_, ?_, ?_, ?_, ?_, h.glob, ?_⟩
 ·intro b q hq
  rcases hcase b q hq with ⟨rfl, rfl⟩ | ⟨rfl, rfl⟩
  ·exact ⟨B0, rfl, by rw [hs]; exact a1, by simp only; rw [hrw, hw0], by simp only; rw [hf], rfl, by simp only; rw [a5, hs], by simp only; rw [a6, hm]⟩
  ·exact ⟨B1, rfl, b1, b2, b3, b4, b5, b6⟩
 ·intro b x hx _
  rcases hblk b x hx with ⟨rfl, rfl⟩ | ⟨rfl, rfl⟩
  ·exact ⟨_, rfl⟩
  ·exact ⟨r1, hr1⟩
 ·intro b x q i v hx hq hv
  rcases hblk b x hx with ⟨rfl, rfl⟩ | ⟨rfl, rfl⟩
  ·rcases hcase 0 q hq with ⟨_, rfl⟩ | ⟨hh, _⟩
   ·have hi : i < x.cells.length := (List.getElem?_eq_some_iff.1 hv).1
    have hv2 : X.cells[i]? = some v := by rw [hc, List.getElem?_take, if_pos hi] at hv; exact hv
    obtain ⟨v', g1, g2⟩ := h.cell j X r i v hX hr hv2
    have hpv := hp0 v (List.mem_of_getElem? hv)
    exact ⟨v', g1, by rw [g2.pure hpv]; exact CR.of_pure hpv⟩
   ·cases hh
  ·rcases hcase 1 q hq with ⟨hh, _⟩ | ⟨_, rfl⟩
   ·cases hh
   ·obtain ⟨v', g1, g2⟩ := h.cell 1 x q i v h1 hr1 hv
    have hpv := h.pur 1 x h1 hp1 v (List.mem_of_getElem? hv)
    exact ⟨v', g1, by rw [g2.pure hpv]; exact CR.of_pure hpv⟩
 ·intro b x hx hp
  rcases hblk b x hx with ⟨rfl, rfl⟩ | ⟨rfl, rfl⟩
  ·exact hp0
  ·exact h.pur 1 x h1 hp
 ·intro b q hq hqw
  rcases hcase b q hq with ⟨rfl, rfl⟩ | ⟨rfl, rfl⟩
  ·exact ⟨by simp only; omega, o2⟩
  ·exact h.own 1 q hr1 hqw
 ·intro b q hq hqw
  rcases hcase b q hq with ⟨rfl, rfl⟩ | ⟨rfl, rfl⟩
  ·exact h.clean j r hr hrw
  ·exact h.clean 1 q hr1 hqw
 ·intro b b' q q' hne hq hq' hqw
  rcases hcase b q hq with ⟨rfl, rfl⟩ | ⟨rfl, rfl⟩
  ·rcases hcase b' q' hq' with ⟨rfl, rfl⟩ | ⟨rfl, rfl⟩
   ·exact absurd rfl hne
   ·exact h.dis j 1 r q' hj hr hr1 hrw
  ·rcases hcase b' q' hq' with ⟨rfl, rfl⟩ | ⟨rfl, rfl⟩
   ·intro hg k k1 k2 k3 k4
    have := h.dis 1 j q r (fun e => hj e.symm) hr1 hr hqw hg k k1 k2 k3
    refine this ?_
    unfold Reg.ext at k4 ⊢
    simp only [hrw, if_true] at k4 ⊢
    exact k4
   ·exact absurd rfl hne
 ·intro b q k hq hqw
  rcases hcase b q hq with ⟨rfl, rfl⟩ | ⟨rfl, rfl⟩
  ·exact h.gwr j r k hr hrw
  ·exact h.gwr 1 q k hr1 hqw
end
section
variable {P : Program} {G : Glob} {α : Type} {cod : Cod α}
theorem Cod.row_pureP (hp : ∀ x, (cod.enc x).all Za9 = true) (l : List α) : ∀ v, v ∈ cod.row l → Za9 v = true := by
 intro v hv
 unfold Cod.row at hv
 obtain ⟨q, hq, hv⟩ := List.mem_flatten.1 hv
 obtain ⟨x, _, rfl⟩ := List.mem_map.1 hq
 exact List.all_eq_true.1 (hp x) v hv
theorem Zwj {m : MapM} {r0 r2 : Reg} (h : m 0 = some r0) (hw : r0.wr = true) (hg : r2.g = r0.g) (hl : r2.lo = r0.lo) (hh : r2.hi = r0.hi) {g j : Nat} (q : Ziq (Ze5 m 0 r2) g j) : Ziq m g j := by
 obtain ⟨b, r, h1, h2, h3, h4, h5⟩ := q
 by_cases hb : b = 0
 ·subst hb; rw [Zb2] at h1; injection h1 with h1; subst h1
  exact ⟨0, r0, h, hw, by rw [← hg]; exact h3, by rw [← hl]; exact h4, by rw [← hh]; exact h5⟩
 ·rw [Zcj _ _ hb] at h1; exact ⟨b, r, h1, h2, h3, h4, h5⟩
theorem Frame.pick {m m' : MapM} {w w' : World} {r0 r2 rj q r1 : Reg} {j : Nat} (h0 : m 0 = some r0) (hw : r0.wr = true) (hv : r0.mv = true) (h1 : m 1 = some r1) (hdom : ∀ b, 2 ≤ b → m b = none) (hg : r2.g = r0.g) (hl : r2.lo = r0.lo) (hh : r2.hi = r0.hi)
    (h : Frame ⟨Ze5 m 0 r2, w, []⟩ m' w') (hj : m' j = some rj) (qg : q.g = rj.g) (ql : q.lo = rj.lo) (qh : q.hi = rj.hi) (qw : q.wr = rj.wr) : Frame ⟨m, w, []⟩ (Zpz m' q) w' := by
  have hW : ∀ g j, Ziq (Ze5 m 0 r2) g j → Ziq m g j := fun g j => Zwj h0 hw hg hl hh
  refine ⟨h.os, h.tape, h.output, h.size, ?_, ?_, ?_⟩
  · intro g o ho
    obtain ⟨o', k1, k2⟩ := h.block g o ho
    refine ⟨o', k1, ?_⟩
    rcases k2 with k2 | ⟨c, t, fr, c', e1, e2, e3, e4⟩
    · exact .inl k2
    · exact .inr ⟨c, t, fr, c', e1, e2, e3, fun j hn => e4 j fun hx => hn (hW _ _ hx)⟩
  · intro b r hr hrw hlt
    unfold Zpz at hr
    split at hr
    · injection hr with hr; subst hr
      rcases h.reg j rj hj (by rw [← qw]; exact hrw) (by omega) with k | k
      · left; rw [qg]; exact k
      · right; intro z z1 z2; rw [qg]; exact hW _ _ (k z (by omega) (by omega))
    · split at hr
      · rcases h.reg 1 r hr hrw hlt with k | k
        · exact .inl k
        · exact .inr fun z z1 z2 => hW _ _ (k z z1 z2)
      · cases hr
  · intro b r hr hk
    simp only at hr
    match b with
    | 0 => rw [h0] at hr; injection hr with hr; subst hr; rw [hw, hv] at hk; rcases hk with hk | hk <;> cases hk
    | 1 =>
      have := h.keep 1 r (by show Ze5 m 0 r2 1 = _; rw [Zcj _ _ (by decide)]; exact hr) hk
      exact this
    | b + 2 => rw [hdom _ (by omega)] at hr; cases hr
theorem HRel.toEx {m : MapM} {w : World} {l : List α} {B1 : Blk} {r0 : Reg} {k : Nat} (h : HRel G m [rwB cod l, B1] w) (hp : ∀ x, (cod.enc x).all Za9 = true) (h0 : m 0 = some r0) (hk : r0.lo + (l.length * cod.n + k) ≤ r0.hi) (hp1 : B1.pur = true) :
  HRel G (Ze5 m 0 { r0 with len := l.length * cod.n + k, fix := true }) [exB cod.n (cod.row l ++ List.replicate k dead), B1] w := by
 have hb : [rwB cod l, B1][0]? = some (rwB cod l) := rfl
 obtain ⟨a1, a2, a3, a4, a5, a6⟩ := h.at_ hb h0
 have hrw : r0.wr = true := a2
 obtain ⟨o1, o2⟩ := h.own 0 r0 h0 hrw
 refine h.replace hb { r0 with len := l.length * cod.n + k, fix := true } (exB cod.n (cod.row l ++ List.replicate k dead)) ⟨cod.pos, hrw, rfl, by simp [exB, cod.row_len], a5, a6⟩ (Nat.le_refl _) (fun _ _ _ _ _ _ _ => ⟨rfl, rfl⟩) (fun _ _ _ _ h => h)
  ?_ (fun hq => by simp [exB] at hq) (fun _ => ⟨hk, o2⟩) (fun i r hi hr _ hg j j1 j2 j3 j4 => ?_) (fun _ j j1 j2 => h.gwr 0 r0 j h0 hrw j1 j2) (fun i x v v' hi hx hv hc => ?_) (fun _ c _ _ h => ⟨c, h⟩) (fun _ hs hl => h.clean 0 r0 h0 hrw hs hl)
 ·intro i v hv
  have hlt : i < (cod.row l ++ List.replicate k dead).length := (List.getElem?_eq_some_iff.1 hv).1
  simp only [exB] at hv
  rw [List.getElem?_append] at hv
  split at hv
  ·obtain ⟨v', g1, g2⟩ := h.cell 0 _ r0 i v hb h0 hv
   have hpv := Cod.row_pureP hp l v (List.mem_of_getElem? hv)
   exact ⟨v', g1, by rw [g2.pure hpv]; exact CR.of_pure hpv⟩
  ·have hd := List.mem_of_getElem? hv
   rw [List.mem_replicate] at hd
   have hlt' : i < l.length * cod.n + k := by simpa [cod.row_len] using hlt
   obtain ⟨v', g1, _⟩ := o2 (r0.lo + i) (by omega) (by omega)
   exact ⟨v', g1, by rw [hd.2]; exact trivial⟩
 ·refine h.dis 0 i r0 r (fun e => hi e.symm) h0 hr hrw hg j j1 ?_ j3 j4
  simpa [Reg.ext, hrw] using j2
 ·match i with
  | 0 => exact absurd rfl hi
  | 1 =>
   injection hx with hx; subst hx
   have hpv := h.pur 1 B1 rfl hp1 v hv
   rw [hc.pure hpv]; exact CR.of_pure hpv
  | i + 2 => simp at hx
def rwL (c : Cod α) (l : List α) : Blk := { cells := c.row l, sz := c.n, wr := true, fix := false, mv := false, pur := true }
theorem Zpk {f : FuncId} {fn : Func} {c : Code} {nt : Nat} (hf : P.funcs[f]? = some fn) (hb : fn.body = some c) (hnt : fn.ntmps = nt) (hl : decide (3 ≤ nt) = true) (hp : ∀ x, (cod.enc x).all Za9 = true) (l : List α) (x : α) (n i : Nat) (hn : l.length = n) (hi : i < n)
    (hA : ∀ c', n + 1 ≤ c' → C P G nt 2 c (Zsy P G fn fun s v => (∃ D, s.heap[0]? = some (exB cod.n (cod.row (l.take i ++ x :: l.drop i) ++ D)) ∧ (n + 1) * cod.n + D.length = c' * cod.n) ∧ s.heap[1]? = some (rwL cod [x]) ∧ v = slv 0 0 (n + 1) c')
      ⟨Zg2 [slv 0 0 n c', .int .i64 i, slv 1 0 1 1], [exB cod.n (cod.row l ++ List.replicate ((c' - n) * cod.n) dead), rwL cod [x]]⟩)
    (hB : C P G nt 2 c (Zsy P G fn fun s v => s.heap[2]? = some (mxW cod.n (cod.row (l.take i ++ x :: l.drop i))) ∧ s.heap[1]? = some (rwL cod [x]) ∧ v = slv 2 0 (n + 1) (n + 1))
      ⟨Zg2 [slv 0 0 n n, .int .i64 i, slv 1 0 1 1], [exB cod.n (cod.row l), rwL cod [x]]⟩) :
    Zas P G f [slv 0 0 n n, .int .i64 i, slv 1 0 1 1] [rwB cod l, rwL cod [x]] (slv 0 0 (n + 1) (n + 1)) [rwB cod (l.take i ++ x :: l.drop i), rwL cod [x]] := by
  intro m w args' hH hArgs
  obtain ⟨a0, t0, rfl, v0, hArgs⟩ := hArgs.inv
  obtain ⟨a1, t1, rfl, v1, hArgs⟩ := hArgs.inv
  obtain ⟨a2, t2, rfl, v2, hArgs⟩ := hArgs.inv
  have := hArgs.nil_inv
  subst this
  have hinl : (l.take i ++ x :: l.drop i).length = n + 1 := by simp; omega
  obtain ⟨r0, p0, c', m0, rfl, k1, k2, k3⟩ : ∃ r a' c', m 0 = some r ∧ a0 = .slice a' n c' ∧ Zf6 r 0 n n a' c' := v0
  obtain ⟨r1, p1, d1, m1, rfl, j1, j2, j3⟩ : ∃ r a' c', m 1 = some r ∧ a2 = .slice a' 1 c' ∧ Zf6 r 0 1 1 a' c' := v2
  obtain ⟨b1, b2, b3, b4, b5, b6⟩ := hH.at_ (b := 0) rfl m0
  obtain ⟨e1, e2, e3, e4, e5, e6⟩ := hH.at_ (b := 1) rfl m1
  have hw0 : r0.wr = true := b2
  have hw1 : r1.wr = true := e2
  have hdom : ∀ b, 2 ≤ b → m b = none := fun b hb => hH.dom hb
  have hsz0 : r0.sz = cod.n := b5
  obtain ⟨g1, g2, _⟩ := k3 (by omega)
  have hhi : r0.lo + c' * cod.n ≤ r0.hi := by have := g2 b3; rw [hsz0] at this; simpa using this
  have hcl : c' * cod.n = n * cod.n + (c' - n) * cod.n := by rw [← Nat.add_mul]; congr 1; omega
  have hpr : ∀ v, v ∈ (rwB cod (l.take i ++ x :: l.drop i)).cells → Za9 v = true := Cod.row_pureP hp _
  have hil : (rwB cod (l.take i ++ x :: l.drop i)).cells.length = (n + 1) * cod.n := by show (cod.row _).length = _; rw [cod.row_len, hinl]
  have hH2 := hH.toEx (cod := cod) (k := (c' - n) * cod.n) hp m0 (by rw [hn]; omega) rfl
  have hargs : ∀ cc, cc = c' → L2 (VR (Ze5 m 0 { r0 with len := l.length * cod.n + (c' - n) * cod.n, fix := true })) [slv 0 0 n cc, .int .i64 i, slv 1 0 1 1] [.slice p0 n c', a1, .slice p1 1 d1] := by
    intro cc hcc
    subst hcc
    refine .cons ⟨_, p0, _, Zb2 _ _ _, rfl, Nat.le_trans k1 k2, Nat.le_refl _, fun h => ⟨g1, fun hfx => (by cases hfx), fun _ _ _ => rfl⟩⟩ (.cons ?_ (.cons ⟨r1, p1, d1, by rw [Zcj _ _ (by decide)]; exact m1, rfl, j1, j2, j3⟩ .nil))
    rw [v1.pure rfl]; exact VR.of_pure rfl
  by_cases hc : n + 1 ≤ c'
  · refine Zx1 hf hb hnt (by simpa using hl) hH2 (hargs c' rfl) _ (hA c' hc) ?_
    rintro s v m' w' v' ⟨⟨D, q1, q2⟩, q3, rfl⟩ h' hv' hF
    obtain ⟨r, p, d, z1, rfl, z2⟩ : ∃ r a' c'', m' 0 = some r ∧ v' = .slice a' (n + 1) c'' ∧ Zf6 r 0 (n + 1) c' a' c'' := hv'
    have hd : d = c' := h'.exact (by unfold Zey; rw [q1]; simp [exB, cod.pos]) z1 z2
    subst hd
    obtain ⟨y1, y2, y3, y4, y5, y6⟩ := h'.at_ q1 z1
    obtain ⟨u1, _⟩ := h'.own 0 r z1 y2
    have hlen : (exB cod.n (cod.row (l.take i ++ x :: l.drop i) ++ D)).cells.length = d * cod.n := by
      show (cod.row _ ++ D).length = _
      rw [List.length_append, cod.row_len, hinl]; exact q2
    have hpick := h'.pick (B0 := rwB cod (l.take i ++ x :: l.drop i)) q1 z1 q3 (by decide) rfl rfl rfl rfl rfl (by show cod.row _ = (cod.row _ ++ D).take (cod.row _).length; simp) (by show (cod.row _).length ≤ (cod.row _ ++ D).length; simp) hpr rfl cod.pos
    refine ⟨_, _, rfl, hpick, ⟨_, p, d, rfl, rfl, Nat.le_refl _, by omega, fun h => ⟨(z2.2.2 h).1, fun _ => ?_, fun _ h2 => by cases h2⟩⟩, Frame.pick (r2 := { r0 with len := l.length * cod.n + (d - n) * cod.n, fix := true }) m0 hw0 b6 m1 hdom rfl rfl rfl hF z1 rfl rfl rfl rfl⟩
    show r.lo + 0 + d * r.sz ≤ r.hi
    rw [y5, show (exB cod.n (cod.row (l.take i ++ x :: l.drop i) ++ D)).sz = cod.n from rfl, Nat.add_zero, ← hlen, ← y4]; exact u1
  · obtain rfl : c' = n := by omega
    have hz : (c' - c') * cod.n = 0 := by simp
    refine Zx1 hf hb hnt (by simpa using hl) hH2 (hargs c' rfl) _ (by rw [hz, List.replicate_zero, List.append_nil]; exact hB) ?_
    rintro s v m' w' v' ⟨q1, q3, rfl⟩ h' hv' hF
    obtain ⟨r, p, d, z1, rfl, z2⟩ : ∃ r a' c'', m' 2 = some r ∧ v' = .slice a' (c' + 1) c'' ∧ Zf6 r 0 (c' + 1) (c' + 1) a' c'' := hv'
    obtain ⟨y1, y2, y3, y4, y5, y6⟩ := h'.at_ q1 z1
    have hpick := h'.pick (B0 := rwB cod (l.take i ++ x :: l.drop i)) q1 z1 q3 (by decide) rfl rfl rfl rfl rfl (by show cod.row _ = (cod.row _).take (cod.row _).length; simp) (Nat.le_refl _) hpr rfl cod.pos
    refine ⟨_, _, rfl, hpick, ⟨_, p, d, rfl, rfl, Nat.le_refl _, z2.2.1, fun h => ⟨(z2.2.2 h).1, fun _ => (z2.2.2 h).2.1 y3, fun _ h2 => by cases h2⟩⟩, Frame.pick (r2 := { r0 with len := l.length * cod.n + (c' - c') * cod.n, fix := true }) m0 hw0 b6 m1 hdom rfl rfl rfl hF z1 rfl rfl rfl rfl⟩
end

section
variable {P : Program} {α : Type} {cod : Cod α} {H : List Blk} {t : TypeId} {by_ : Nat} {zc : List Value}
theorem Zo8 {b o dn dc k : Nat} {q : Value} {src part : List Value} {B : Blk} {sz : Nat} (ht : Zcg P t = some (sz, zc, by_)) (hs : Zhf H sz q = some (k, src)) (hb : H[b]? = some B) (hw : B.wr = true) (hpt : part = src.take (min k dn * sz)) (hp : Zdh B.pur part = true) (ho : o + dn * sz ≤ B.cells.length) (hl : part.length = min k dn * sz) :
  Zje P H t (slv b o dn dc) q = some (.int .i64 (min k dn : Nat), b, { B with cells := splice B.cells o part }) := by
 subst hpt
 have hl' : min (min k dn * sz) src.length = min k dn * sz := by rw [← List.length_take]; exact hl
 unfold Zje
 rw [ht]
 simp [hs, hb, hw, hp, ho, hl']
theorem Zqj {b o n c sz : Nat} {B : Blk} (hb : H[b]? = some B) (hl : o + n * sz ≤ B.cells.length) : Zhf H sz (slv b o n c) = some (n, (B.cells.drop o).take (n * sz)) := by
 unfold Zhf
 simp [hb, hl]
theorem Zx7 (hp : ∀ x, (cod.enc x).all Za9 = true) (p : Bool) (l : List α) : Zdh p (cod.row l) = true := by
 have h := Cod.row_pureP hp l
 unfold Zdh
 split
 ·rw [List.all_eq_true]; exact h
 ·rw [List.all_eq_true]; exact fun v hv => Zmd (h v hv)
theorem Zsc (hp : ∀ x, (cod.enc x).all Za9 = true) {l : List α} {n i sz a b oa ob da ca cb nb : Nat} {A B : Blk} {D : List Value} {k : Int} (hz : sz = cod.n) (ht : Zcg P t = some (sz, zc, by_)) (ha : H[a]? = some A) (hw : A.wr = true) (hb : H[b]? = some B) (hB : B.cells = cod.row l ++ D)
  (hn : l.length = n) (hi : i < n) (hoa : oa = (i + 1) * sz) (hob : ob = i * sz) (hda : da = n - i) (hnb : n - i ≤ nb) (hla : (n + 1) * sz ≤ A.cells.length) (hlb : i * sz + nb * sz ≤ B.cells.length) (hk : k = ((n - i : Nat) : Int)) :
  Zje P H t (slv a oa da ca) (slv b ob nb cb) = some (.int .i64 k, a, { A with cells := splice A.cells ((i + 1) * sz) (cod.row (l.drop i)) }) := by
 subst hz; subst hoa; subst hob; subst hda; subst hk
 have hmin : min nb (n - i) = n - i := by omega
 have e1 : (i + 1) * cod.n + (n - i) * cod.n = (n + 1) * cod.n := by rw [← Nat.add_mul]; congr 1; omega
 have e2 : (n - i) * cod.n ≤ nb * cod.n := Nat.mul_le_mul_right _ hnb
 have hrl : (cod.row (l.drop i)).length = (n - i) * cod.n := by rw [cod.row_len, List.length_drop, hn]
 have hd : B.cells.drop (i * cod.n) = cod.row (l.drop i) ++ D := by
  rw [hB, List.drop_append_of_le_length (by rw [cod.row_len, hn]; exact Nat.mul_le_mul_right _ (by omega)), cod.row_drop]
 have := Zo8 (P := P) (H := H) (t := t) (zc := zc) (by_ := by_) (dc := ca) (q := slv b (i * cod.n) nb cb) (o := (i + 1) * cod.n) (dn := n - i) (part := cod.row (l.drop i)) ht (Zqj hb hlb) ha hw (by
  rw [hd, hmin, List.take_take, Nat.min_eq_left e2, ← hrl, List.take_left]) (Zx7 hp _ _) (by rw [e1]; exact hla) (by rw [hmin]; exact hrl)
 rw [this, hmin]
theorem Zo9 (hp : ∀ x, (cod.enc x).all Za9 = true) {x : α} {n i sz a b oa da ca cb : Nat} {A : Blk} {k : Int} (hz : sz = cod.n) (ht : Zcg P t = some (sz, zc, by_)) (ha : H[a]? = some A) (hw : A.wr = true) (hb : H[b]? = some (rwL cod [x]))
  (hi : i < n) (hoa : oa = i * sz) (hda : da = n + 1 - i) (hla : (n + 1) * sz ≤ A.cells.length) (hk : k = 1) :
  Zje P H t (slv a oa da ca) (slv b 0 1 cb) = some (.int .i64 k, a, { A with cells := splice A.cells (i * sz) (cod.row [x]) }) := by
 subst hz; subst hoa; subst hda; subst hk
 have hmin : min 1 (n + 1 - i) = 1 := by omega
 have e1 : i * cod.n + (n + 1 - i) * cod.n = (n + 1) * cod.n := by rw [← Nat.add_mul]; congr 1; omega
 have hrl : (cod.row [x]).length = 1 * cod.n := by rw [cod.row_len]; rfl
 have hb1 : 0 + 1 * cod.n ≤ (rwL cod [x]).cells.length := by show _ ≤ (cod.row [x]).length; omega
 have := Zo8 (P := P) (H := H) (t := t) (zc := zc) (by_ := by_) (dc := ca) (q := slv b 0 1 cb) (o := i * cod.n) (dn := n + 1 - i) (part := cod.row [x]) ht (Zqj hb hb1) ha hw (by
  rw [hmin, List.drop_zero, List.take_take, Nat.min_self, ← hrl]; show _ = List.take _ (cod.row [x]); rw [List.take_length]) (Zx7 hp _ _) (by rw [e1]; exact hla) (by rw [hmin]; exact hrl)
 rw [this, hmin]; rfl
theorem Zzp {l : List α} {x : α} {n i sz : Nat} {D : List Value} (hz : sz = cod.n) (hn : l.length = n) (hi : i < n) (hD : sz ≤ D.length) :
  splice (splice (cod.row l ++ D) ((i + 1) * sz) (cod.row (l.drop i))) (i * sz) (cod.row [x]) = cod.row (l.take i ++ x :: l.drop i) ++ D.drop sz := by
 subst hz
 have hrl : (cod.row l).length = n * cod.n := by rw [cod.row_len, hn]
 have hdl : (cod.row (l.drop i)).length = (n - i) * cod.n := by rw [cod.row_len, List.length_drop, hn]
 have htl : (cod.row (l.take i)).length = i * cod.n := by rw [cod.row_len, List.length_take, hn]; congr 1; omega
 have hxl : (cod.row [x]).length = cod.n := by rw [cod.row_len]; simp
 have e0 : i * cod.n ≤ n * cod.n := Nat.mul_le_mul_right _ (by omega)
 have e1 : (i + 1) * cod.n = i * cod.n + cod.n := by rw [Nat.add_mul, Nat.one_mul]
 have e2 : i * cod.n + (n - i) * cod.n = n * cod.n := by rw [← Nat.add_mul]; congr 1; omega
 have e3 : (i + 1) * cod.n ≤ n * cod.n := Nat.mul_le_mul_right _ (by omega)
 have hX : splice (cod.row l ++ D) ((i + 1) * cod.n) (cod.row (l.drop i)) = (cod.row l).take ((i + 1) * cod.n) ++ (cod.row (l.drop i) ++ D.drop cod.n) := by
  unfold splice
  rw [List.take_append_of_le_length (by omega), List.append_assoc, hdl, show (i + 1) * cod.n + (n - i) * cod.n = (cod.row l).length + cod.n from by omega, List.drop_length_add_append]
 have hr : cod.row (l.take i ++ x :: l.drop i) = cod.row (l.take i) ++ (cod.row [x] ++ cod.row (l.drop i)) := by
  rw [cod.row_app, show x :: l.drop i = [x] ++ l.drop i from rfl, cod.row_app]
 rw [hX, hr]
 unfold splice
 rw [List.take_append_of_le_length (by rw [List.length_take, hrl]; omega), List.take_take, Nat.min_eq_left (by omega), cod.row_take, hxl]
 rw [show i * cod.n + cod.n = ((cod.row l).take ((i + 1) * cod.n)).length from by rw [List.length_take, hrl]; omega, List.drop_left]
 simp [List.append_assoc]
theorem Zzq {l : List α} {x : α} {n i sz : Nat} {R : List Value} (hz : sz = cod.n) (hn : l.length = n) (hi : i < n) (hR : R.length = (n + 1 - i) * sz) :
  splice (splice (((cod.row l).drop 0).take (i * sz) ++ R) (i * sz) (cod.row [x])) ((i + 1) * sz) (cod.row (l.drop i)) = cod.row (l.take i ++ x :: l.drop i) := by
 subst hz
 have hrl : (cod.row l).length = n * cod.n := by rw [cod.row_len, hn]
 have hdl : (cod.row (l.drop i)).length = (n - i) * cod.n := by rw [cod.row_len, List.length_drop, hn]
 have htl : (cod.row (l.take i)).length = i * cod.n := by rw [cod.row_len, List.length_take, hn]; congr 1; omega
 have hxl : (cod.row [x]).length = cod.n := by rw [cod.row_len]; simp
 have e1 : (i + 1) * cod.n = i * cod.n + cod.n := by rw [Nat.add_mul, Nat.one_mul]
 have e2 : (n + 1 - i) * cod.n = cod.n + (n - i) * cod.n := by rw [show n + 1 - i = 1 + (n - i) from by omega, Nat.add_mul, Nat.one_mul]
 have hr : cod.row (l.take i ++ x :: l.drop i) = cod.row (l.take i) ++ (cod.row [x] ++ cod.row (l.drop i)) := by
  rw [cod.row_app, show x :: l.drop i = [x] ++ l.drop i from rfl, cod.row_app]
 have hX : splice (((cod.row l).drop 0).take (i * cod.n) ++ R) (i * cod.n) (cod.row [x]) = (cod.row (l.take i) ++ cod.row [x]) ++ R.drop cod.n := by
  rw [List.drop_zero, cod.row_take]
  unfold splice
  rw [hxl, ← htl, List.take_left, List.drop_length_add_append]
 rw [hX, hr]
 unfold splice
 have hl2 : (cod.row (l.take i) ++ cod.row [x]).length = (i + 1) * cod.n := by rw [List.length_append, htl, hxl, e1]
 rw [← hl2, List.take_left, hdl, List.drop_length_add_append, List.drop_drop]
 rw [show List.drop (cod.n + (n - i) * cod.n) R = [] from List.drop_eq_nil_of_le (by omega)]
 simp [List.append_assoc]
end
section
variable {P : Program} {α : Type} {H : List Blk} {t : TypeId} {by_ : Nat} {zc : List Value}
theorem Zwn (cod : Cod α) {l : List α} {n i sz b nid q : Nat} {z : Int} (hz : sz = cod.n) (ht : Zcg P t = some (sz, zc, by_)) (hzl : zc.length = sz) (hb : H[b]? = some (exB sz (cod.row l))) (hn : l.length = n) (hi : i < n) (hzz : z = ((n + 1 - i : Nat) : Int)) (hq : q = n + 1) (hby : 0 < by_) (hB : (n + 1) * by_ ≤ 140737488355328) (hf : Zcs H nid = true) :
  Zqp P H t (slv b 0 i n) (.int .i64 z) nid = some (slv nid 0 q q, mxW sz (((cod.row l).drop 0).take (i * sz) ++ List.replicate ((n + 1 - i) * sz) dead)) := by
 subst hz; subst hzz; subst hq
 have hp := cod.pos
 have e : i + (n + 1 - i) = n + 1 := by omega
 have hex : Zey H b = true := by unfold Zey; rw [hb]; simp [exB, hp]
 have hle : 0 + i * cod.n ≤ (exB cod.n (cod.row l)).cells.length := by
  show _ ≤ (cod.row l).length
  rw [cod.row_len, hn, Nat.zero_add]; exact Nat.mul_le_mul_right _ (by omega)
 unfold Zqp
 rw [ht]
 simp only [hb, Option.bind_some, Int.toNat_natCast, e]
 rw [if_pos ⟨hex, hzl, hp, hby, by omega, by omega, hB, hle, hf⟩]
 rfl
theorem Zvy (cod : Cod α) {x : α} {X : List Value} {n i sz o2 n2 c2 : Nat} (hz : sz = cod.n) (h1 : H[1]? = some (rwL cod [x])) (h0 : H[0]? = some (exB sz X)) (hs : 1 < sz) (hi : i < n) (hX : (n + 1) * sz ≤ X.length) (ho : o2 = (i + 1) * sz) (hn2 : n2 = n - i) :
  Zjv H sz (slv 1 0 1 1) (slv 0 o2 n2 c2) = some (.bool false) := by
 subst hz; subst ho; subst hn2
 have e1 : (i + 1) * cod.n + (n - i) * cod.n = (n + 1) * cod.n := by rw [← Nat.add_mul]; congr 1; omega
 have hl1 : 0 + 1 * cod.n ≤ (rwL cod [x]).cells.length := by show _ ≤ (cod.row [x]).length; rw [cod.row_len]; simp
 unfold Zjv
 simp only [h1, h0, Option.bind_some]
 rw [if_pos ⟨by decide, rfl, rfl, hs, hs, by decide, by omega, by omega, hl1, by show _ ≤ X.length; rw [e1]; exact hX⟩]
end
end Go.Flat
end
