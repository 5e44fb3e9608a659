/- Walks. -/
import Derived.Test.YtlnggiomppkjmaaDoorP1
import Derived.Lib.Overlaps
set_option linter.unusedVariables false
set_option linter.unusedSimpArgs false
section
/- Rows whose capacity is known: cap, an append that must move, overlaps; and slices.Insert put together from its two roads. -/
namespace Go.Flat
def exB (n : Nat) (l : List Value) : Blk := { cells := l, sz := n, wr := true, fix := true, mv := true, pur := false }
section
variable {P : Program} {G : Glob}


def Zg2 (σ : List Blk) (b : Nat) : Bool := match σ[b]? with | some x => x.wr && x.fix && x.mv && decide (0 < x.sz) | none => false
def Zyv (P : Program) (σ : List Blk) (t : TypeId) (v : Value) : Option Value :=
  match P.underlying t, v with
  | some (.slice _), .slice (some ⟨b, _, none⟩) _ c => if Zg2 σ b then some (.int .i64 c) else none
  | _, _ => none
theorem Zsm {σ : List Blk} {b : Nat} (h : Zg2 σ b = true) : ∃ x, σ[b]? = some x ∧ x.wr = true ∧ x.fix = true ∧ x.mv = true ∧ 0 < x.sz := by
 unfold Zg2 at h
 split at h
 ·rename_i x hx
  simp only [Bool.and_eq_true, decide_eq_true_eq] at h
  exact ⟨x, hx, h.1.1.1, h.1.1.2, h.1.2, h.2⟩
 ·cases h
theorem HRel.exact {m : MapM} {σ : List Blk} {w : World} (h : HRel G m σ w) {b o n c c' : Nat} {r : Reg} {a' : Option Addr} (hx : Zg2 σ b = true) (hr : m b = some r) (hs : Zhd r o n c a' c') : c' = c := by
 obtain ⟨x, hb, h1, h2, h3, _⟩ := Zsm hx
 obtain ⟨_, g1, g2, _, _, g5⟩ := h.at_ hb hr
 rcases Nat.eq_zero_or_pos c' with h0 | h0
 ·have := hs.2.1; omega
 ·exact (hs.2.2 h0).2.2 (by rw [g1, h1]) (by rw [g2, h2]) (by rw [g5, h3])
theorem Zx6 {o : Oper} {s : St} {t : TypeId} {x : Operand} {v : Value} (ho : o.op = .call { callee := .builtin .cap, args := #[x], argTypes := #[t] }) (h : Zyv P s.heap t (s.eval x) = some v) : Zas P G o s v [] := by
 unfold Zyv at h
 split at h
 ·rename_i e b q n c hu hx
  split at h
  ·rename_i hex
   injection h with h; subst h
   refine Zas.pure (fun nt E m a w hr => ?_) rfl
   have hxv := hr.eval x
   rw [hx] at hxv
   obtain ⟨r, a', c', h1, h2, h3⟩ : ∃ r a' c', m b = some r ∧ a.eval x = .slice a' n c' ∧ Zhd r q n c a' c' := hxv
   have := hr.heap.exact hex h1 h3
   subst this
   simp [execOp, ho, resolve, invoke, builtin, Builtin.cap_, h2, run_underlying hu, goInt]
  ·cases h
 ·cases h


theorem Ziv (w : World) (t u ty e : TypeId) (i : TypeInfo) (z : Value) (ht : P.underlying t = some (.slice e)) (ku : IntKind) (hu : P.underlying u = some (.int ku)) (hi : P.info? e = some i) (hz : i.zero = some z)
  (base : Option Addr) (sLen sCap k : Nat) (olds : List Value)
  (ho : (Builtin.firstCells i.size sLen (.slice base sLen sCap)).run P w.drew = .ok olds.toArray w.drew)
  (hfit : ¬ sLen + k ≤ sCap) (hk : 0 < k) (hs0 : 0 < i.size) (hb : (sLen + k) * i.bytes ≤ 140737488355328) (hb0 : 0 < i.bytes) :
  (Builtin.append_ #[t, u] ty #[.slice base sLen sCap, .int .i64 k]).run P w = .ok (.slice (some ⟨w.heap.size, 0, none⟩) (sLen + k) (grownCap w (sLen + k) sCap e))
    (w.drew.alloc (.cells (olds.toArray ++ Builtin.zeroCells z.cells k ++ Builtin.zeroCells z.cells (grownCap w (sLen + k) sCap e - (sLen + k))) e)) := by
 have h48 := growslice_fits (need := sLen + k) (old := sCap) (bytes := i.bytes) (by omega) hb
 have h48' : ¬ (281474976710656 < Builtin.nextslicecap (sLen + k) sCap * i.bytes) := by omega
 have hbn : ¬ i.bytes = 0 := by omega
 have hkb : k * i.bytes ≤ (sLen + k) * i.bytes := Nat.mul_le_mul_right _ (by omega)
 have hkn : sLen + k ≤ (sLen + k) * i.bytes := Nat.le_mul_of_pos_right _ hb0
 have hw : IntKind.i64.wrap (k : Int) = k := by rw [IntKind.wrap_i64]; omega
 have h48i : ¬ (281474976710656 < (k : Int) * (i.bytes : Int)) := by rw [← Int.natCast_mul]; omega
 have hneg : ¬ ((k : Int) < 0) := by omega
 have hns : ¬ (k * i.size = 0) := Nat.mul_ne_zero (by omega) (by omega)
 have h63 : ¬ (9223372036854775807 < (sLen : Int) + (k : Int)) := by omega
 simp [Builtin.append_, run_underlying ht, run_underlying hu, sizeOf, typeInfo, zeroValue, hi, hz, asInt, asIntOf, hw, hneg, hns, h63, hfit, h48', h48i, Question.forced, newRow, hbn, ho, grownCap]
def Zyn (P : Program) (σ : List Blk) (t : TypeId) (v x : Value) (nid : Nat) : Option (Value × Blk) :=
  match Zda P t, v, x with
  | some (sz, zc, by_), .slice (some ⟨b, o, none⟩) n c, .int .i64 z => (σ[b]?).bind fun blk =>
      if Zg2 σ b = true ∧ zc.length = sz ∧ 0 < sz ∧ 0 < by_ ∧ 0 < z ∧ c < n + z.toNat ∧ (n + z.toNat) * by_ ≤ 140737488355328 ∧ o + n * sz ≤ blk.cells.length ∧ Zby σ nid = true then
        some (.slice (some ⟨nid, 0, none⟩) (n + z.toNat) (n + z.toNat), Zb6 false false sz ((blk.cells.drop o).take (n * sz) ++ List.replicate (z.toNat * sz) dead)) else none
  | _, _, _ => none
theorem Zu2 {o : Oper} {s : St} {t u : TypeId} {x y : Operand} {v : Value} {nid : Nat} {b : Blk} {ku : IntKind} (ho : o.op = .call { callee := .builtin .append, args := #[x, y], argTypes := #[t, u] })
  (hu : P.underlying u = some (.int ku)) (h : Zyn P s.heap t (s.eval x) (s.eval y) nid = some (v, b)) : Zas P G o s v [(nid, b)] := by
 unfold Zyn at h
 split at h
 ·rename_i sz zc by_ b' of n c zi ht hx hy
  cases hb : s.heap[b']? with
  | none => simp [hb] at h
  | some blk =>
   simp only [hb, Option.bind_some] at h
   split at h
   ·rename_i hh
    obtain ⟨hex, hzl, hsz, hby, hz0, hgt, hbound, hle, hfr⟩ := hh
    injection h with h; injection h with h1 h2
    subst h1; subst h2
    obtain ⟨e, i, z, hut, hi, hz, he1, he2, he3⟩ := Zdo ht
    intro nt E m a w hr
    have hyv : a.eval y = .int .i64 zi := by rw [Za6 hr (by rw [hy]; rfl), hy]
    have hxv := hr.eval x
    rw [hx] at hxv
    obtain ⟨r, a', c', hr1, hr2, hr3⟩ : ∃ r a' c', m b' = some r ∧ a.eval x = .slice a' n c' ∧ Zhd r of n c a' c' := hxv
    have hcc := hr.heap.exact hex hr1 hr3
    subst hcc
    obtain ⟨k, rfl⟩ : ∃ k : Nat, zi = k := ⟨zi.toNat, by omega⟩
    simp only [Int.toNat_natCast] at hgt hbound ⊢
    obtain ⟨ys, hys1, hys2, hys3⟩ := hr.heap.cellsAt hb hr1 of (n * sz) hle
    have hold := Zfl (P := P) (W := w.drew) sz n c' a' r.g (r.lo + of) ys hys2 (fun h0 => hr3.addr (by have := hr3.1; omega)) (fun j v hv => by simpa using hys3 j v hv)
    have hrun := Ziv (P := P) w t u o.type e i z hut ku hu hi hz a' n c' k ys (by rw [he1]; exact hold) (by omega) (by omega) (by omega) (by rw [he3]; exact hbound) (by omega)
    have hcap := grownCap_ge w (n + k) c' e
    generalize hC : grownCap w (n + k) c' e = C at hrun hcap
    have hzs : z.cells.size = sz := by rw [← hzl, ← he2]; simp
    have hcss : (ys.toArray ++ Builtin.zeroCells z.cells k ++ Builtin.zeroCells z.cells (C - (n + k))).size = C * sz := by
     simp only [Array.size_append, size_zeroCells, List.size_toArray, hys2, hzs]
     rw [← Nat.add_mul, ← Nat.add_mul]; congr 1; omega
    have holdl : ((blk.cells.drop of).take (n * sz)).length = n * sz := by simp; omega
    have hlen : ((blk.cells.drop of).take (n * sz) ++ List.replicate (k * sz) dead).length = (n + k) * sz := by
     rw [List.length_append, holdl, List.length_replicate, Nat.add_mul]
    have hcl : (n + k) * sz ≤ C * sz := Nat.mul_le_mul_right _ hcap
    have hmm := hr.heap.drew
    obtain ⟨m', g1, g2, g3, g4⟩ := Zdi hr.heap.drew hr.frame.drew hfr (Zb6 false false sz ((blk.cells.drop of).take (n * sz) ++ List.replicate (k * sz) dead)) hsz
     (ys.toArray ++ Builtin.zeroCells z.cells k ++ Builtin.zeroCells z.cells (C - (n + k))) e (0, 0)
     (by simp only [Zb6]; rw [hcss, hlen]; exact hcl)
     ⟨by simp only [Zb6]; rw [hlen, List.length_take, Array.length_toList, hcss]; omega, fun j v v' hj hj' => by
      simp only [Zb6] at hj hj'
      rw [List.getElem?_append] at hj
      split at hj
      ·rename_i hlt
       obtain ⟨y, hy1, hy2⟩ := hys1.get hj
       have hjl : j < ys.length := (List.getElem?_eq_some_iff.1 hy1).1
       rw [List.getElem?_take] at hj'
       split at hj'
       ·rw [Array.getElem?_toList, Array.append_assoc, Array.getElem?_append_left (by simpa using hjl)] at hj'
        simp only [List.getElem?_toArray] at hj'
        rw [hy1] at hj'
        injection hj' with hj'; subst hj'; exact hy2
       ·cases hj'
      ·have := List.mem_of_getElem? hj
       rw [List.mem_replicate] at this
       rw [this.2]; exact trivial⟩
     (by intro hq; simp [Zb6] at hq) (by simp)
    refine ⟨_, _, m', .inl (by simp [execOp, ho, resolve, invoke, builtin, hr2, hyv, hrun]), g1, g2, g3, _, _, _, g4, rfl, Nat.le_refl _, hcap, fun _ => ⟨rfl, fun _ => ?_, fun _ h1 _ => by simp [Zb6] at h1⟩⟩
    show 0 + 0 + C * sz ≤ (ys.toArray ++ Builtin.zeroCells z.cells k ++ Builtin.zeroCells z.cells (C - (n + k))).size
    rw [hcss]; omega
   ·cases h
 ·cases h
end
section
variable {P : Program} {G : Glob}

theorem Zlv (w : World) (tS tR e : TypeId) (ht : P.underlying tS = some (.slice e)) (size : Nat) (hz : ∀ w, (Go.sizeOf e).run P w = .ok size w)
    (g oa ob : Nat) (la ca lb cb : Nat) (hd : ¬ (oa < ob + lb * size ∧ ob < oa + la * size)) :
    (Extern.SlicesOverlaps.overlaps #[tS, tS] #[tR] #[.slice (some ⟨g, oa, none⟩) la ca, .slice (some ⟨g, ob, none⟩) lb cb]).run P w = .ok (.bool false) w := by
  change Sem.run P (α := Value) (do
    let some t := (#[tS, tS] : Array TypeId)[0]? | stuck "slices.overlaps: no parameter types"
    let .slice elem ← underlying t | stuck "slices.overlaps: slice type expected"
    let size ← sizeOf elem
    match (some (⟨g, oa, none⟩ : Addr)), (some (⟨g, ob, none⟩ : Addr)) with
    | some a, some b =>
      if la = 0 ∨ lb = 0 ∨ size = 0 then pure (Value.bool false)
      else if a.block != b.block && (← frozen a) && (← frozen b) then unsupported .addressObserved
      else do
        if a.block != b.block then do
          noView a; noView b
          if ← mayBeOne a b then return Value.bool ((← choose (.extern "sameAddr.stringBytes" 2)) == 1)
        pure (Value.bool (a.block == b.block && a.off < b.off + lb * size && b.off < a.off + la * size))
    | _, _ => pure (Value.bool false)) w = _
  by_cases h0 : la = 0 ∨ lb = 0 ∨ size = 0
  · simp [run_underlying ht, hz, h0]
  · simp [run_underlying ht, hz, h0, frozen, Sem.run]
    intro h1
    exact Nat.not_lt.1 fun h2 => hd ⟨h1, h2⟩
theorem Zla {w : World} {g o : Nat} {c : Array Value} {t : TypeId} (h : w.heap[g]? = some (Obj.cells c t (0, 0))) : w.frozen? ⟨g, o, none⟩ = false := by
 simp [World.frozen?, h]
theorem Zm5 {w : World} {g : Nat} {c : Array Value} {t : TypeId} (h : w.heap[g]? = some (Obj.cells c t (0, 0))) : w.shape? g = some (t, c.size) := by
 simp [World.shape?, h]
def Zou (σ : List Blk) (sz : Nat) (x y : Value) : Option Value :=
  match x, y with
  | .slice (some ⟨b1, o1, none⟩) n1 _, .slice (some ⟨b2, o2, none⟩) n2 _ => (σ[b1]?).bind fun B1 => (σ[b2]?).bind fun B2 =>
      if b1 ≠ b2 ∧ B1.wr = true ∧ B2.wr = true ∧ 1 < B1.sz ∧ 1 < B2.sz ∧ 0 < n1 ∧ 0 < n2 ∧ 0 < sz ∧ o1 + n1 * sz ≤ B1.cells.length ∧ o2 + n2 * sz ≤ B2.cells.length then some (.bool false) else none
  | _, _ => none
structure IsOver (P : Program) (f : FuncId) (sz : Nat) : Prop where
  run : ∃ tS tR e, P.underlying tS = some (.slice e) ∧ (∀ w, (Go.sizeOf e).run P w = .ok sz w) ∧ ∀ args w, (callFunc f args).run P w = ((Extern.SlicesOverlaps.overlaps #[tS, tS] #[tR] args).run P w).andThen fun v w' => .ok (.value v) w'
theorem Zva {o : Oper} {s : St} {f : FuncId} {x y : Operand} {ts : Array TypeId} {sz : Nat} {v : Value} (hf : IsOver P f sz) (ho : o.op = .call { callee := .value (.func f), args := #[x, y], argTypes := ts }) (h : Zou s.heap sz (s.eval x) (s.eval y) = some v) : Zas P G o s v [] := by
 obtain ⟨tS, tR, e, ht, hz, hrun⟩ := hf.run
 unfold Zou at h
 split at h
 ·rename_i b1 o1 n1 c1 b2 o2 n2 c2 hx hy
  cases hb1 : s.heap[b1]? with
  | none => simp [hb1] at h
  | some B1 =>
   cases hb2 : s.heap[b2]? with
   | none => simp [hb1, hb2] at h
   | some B2 =>
    simp only [hb1, hb2, Option.bind_some] at h
    split at h
    ·rename_i hh
     obtain ⟨hne, w1, w2, s1, s2, p1, p2, psz, l1, l2⟩ := hh
     injection h with h; subst h
     refine Zas.pure (fun nt E m a w hr => ?_) rfl
     have hxv := hr.eval x
     have hyv := hr.eval y
     rw [hx] at hxv
     rw [hy] at hyv
     obtain ⟨r1, a1, d1, m1, e1, k1⟩ : ∃ r a' c', m b1 = some r ∧ a.eval x = .slice a' n1 c' ∧ Zhd r o1 n1 c1 a' c' := hxv
     obtain ⟨r2, a2, d2, m2, e2, k2⟩ : ∃ r a' c', m b2 = some r ∧ a.eval y = .slice a' n2 c' ∧ Zhd r o2 n2 c2 a' c' := hyv
     have q1 := k1.addr (by have := k1.1; have := k1.2.1; omega)
     have q2 := k2.addr (by have := k2.1; have := k2.2.1; omega)
     subst q1; subst q2
     obtain ⟨_, f1, _, g1, z1, _⟩ := hr.heap.at_ hb1 m1
     obtain ⟨_, f2, _, g2, z2, _⟩ := hr.heap.at_ hb2 m2
     rw [w1] at f1
     rw [w2] at f2
     obtain ⟨t1, _⟩ := hr.heap.own b1 r1 m1 f1
     obtain ⟨t2, u2⟩ := hr.heap.own b2 r2 m2 f2
     have x1 : 0 < n1 * sz := Nat.mul_pos p1 psz
     have x2 : 0 < n2 * sz := Nat.mul_pos p2 psz
     obtain ⟨cc1, tt1, y1⟩ := hr.heap.clean b1 r1 m1 f1 (by omega) (by omega)
     obtain ⟨cc2, tt2, y2⟩ := hr.heap.clean b2 r2 m2 f2 (by omega) (by omega)
     have key : (Extern.SlicesOverlaps.overlaps #[tS, tS] #[tR] #[.slice (some ⟨r1.g, r1.lo + o1, none⟩) n1 d1, .slice (some ⟨r2.g, r2.lo + o2, none⟩) n2 d2]).run P w = .ok (.bool false) w := by
      by_cases hg : r1.g = r2.g
      ·rw [hg]
       refine Zlv w tS tR e ht sz hz _ _ _ _ _ _ _ ?_
       rintro ⟨h1, h2⟩
       have hd := hr.heap.dis b1 b2 r1 r2 hne m1 m2 f1 hg (max (r1.lo + o1) (r2.lo + o2)) (by omega) (by omega) (by omega)
       refine hd ?_
       unfold Reg.ext
       rw [if_pos f2]
       omega
      ·refine Lib.run_overlaps_apart w tS tR e ht sz hz _ _ _ _ _ _ hg tt1 tt2 cc1.size cc2.size (Zm5 y1) (Zm5 y2) ?_ (Zla y1) (Zla y1)
       obtain ⟨v', hv', _⟩ := u2 (r2.lo + o2) (by omega) (by omega)
       rw [cell_of_row _ _ _ _ _ _ y2] at hv'
       have := (Array.getElem?_eq_some_iff.1 hv').1
       omega
     have hfv : a.eval (.func f) = .func (.func f) #[] #[] := rfl
     simp only [execOp, ho, resolve, hfv, Deferred.ofValue, Sem.run_bind, Sem.run_pure, Result.andThen_ok, invoke]
     simp only [Array.empty_append, Array.append_empty, hrun, List.map_toArray, List.map_cons, List.map_nil, e1, e2, key, Result.andThen_ok]
    ·cases h
 ·cases h
theorem Zs6 {σ σ' : List Blk} {sz : Nat} {x y : Value} (h : ∀ b, b ∈ Zbx x ++ Zbx y → σ'[b]? = σ[b]?) : Zou σ' sz x y = Zou σ sz x y := by
 unfold Zou
 split
 ·rename_i b1 o1 n1 c1 b2 o2 n2 c2
  rw [h b1 (by simp [Zbx]), h b2 (by simp [Zbx])]
 ·rfl
end
section
variable {P : Program} {G : Glob} {nt : Nat} {ops l : List Oper} {K : Trace → St → Prop} {tr : Trace} {T : Nat → Value} {H H' : List Blk} {d : Tmp} {ty : TypeId} {ps : String} {af : Array Edge} {g : Option (Nat × Bool)}
theorem Z5m {ops : Array Oper} {o : Oper} {s : St} {t : TypeId} {x : Operand} {v : Value} (hg : Zc3 nt s (Zc5 ops o) = some true) (hd : Zbb nt o.dst = true) (ho : o.op = .call { callee := .builtin .cap, args := #[x], argTypes := #[t] }) (h : Zyv P s.heap t (s.eval x) = some v) : Zae P G nt ops o s { val := v, foot := Zbx (s.eval x) } :=
 Zae.value hg hd fun s' ha => Zx6 ho (by
  rw [Z9 ha (x := x) (by rw [ho]; simp [Op.operands, Call.operands])]
  have hh := ha.heap
  generalize s.eval x = q at h hh ⊢
  unfold Zyv at h ⊢
  split at h
  ·rename_i e b o n c hu
   have : Zg2 s'.heap b = Zg2 s.heap b := by unfold Zg2; rw [hh b (by simp [Zbx])]
   simp only [hu, this]; exact h
  ·cases h)
theorem Z4e {ops : Array Oper} {o : Oper} {s : St} {t u : TypeId} {x y : Operand} {v : Value} {nid : Nat} {b : Blk} {ku : IntKind} (hg : Zc3 nt s (Zc5 ops o) = some true) (hd : Zbb nt o.dst = true) (ho : o.op = .call { callee := .builtin .append, args := #[x, y], argTypes := #[t, u] })
  (hu : P.underlying u = some (.int ku)) (h : Zyn P s.heap t (s.eval x) (s.eval y) nid = some (v, b)) : Zae P G nt ops o s { val := v, sets := [(nid, b)], foot := nid :: Zbx (s.eval x) } :=
 Zae.value hg hd fun s' ha => Zu2 ho hu (by
  rw [Z9 ha (x := x) (by rw [ho]; simp [Op.operands, Call.operands]), Z9 ha (x := y) (by rw [ho]; simp [Op.operands, Call.operands])]
  have hh := ha.heap
  unfold Zyn at h ⊢
  rw [show Zby s'.heap nid = Zby s.heap nid from by unfold Zby; rw [ha.heap nid (by simp), ha.len]]
  split at h
  ·rename_i sz zc by_ b' of n c z ht hx hy
   try simp only [ht, hx, hy]
   have h1 : s'.heap[b']? = s.heap[b']? := hh b' (by simp [hx, Zbx])
   have : Zg2 s'.heap b' = Zg2 s.heap b' := by unfold Zg2; rw [h1]
   rw [h1, this]; exact h
  ·cases h)
theorem Z4l {ops : Array Oper} {o : Oper} {s : St} {f : FuncId} {x y : Operand} {ts : Array TypeId} {sz : Nat} {v : Value} (hg : Zc3 nt s (Zc5 ops o) = some true) (hd : Zbb nt o.dst = true) (hf : IsOver P f sz) (ho : o.op = .call { callee := .value (.func f), args := #[x, y], argTypes := ts }) (h : Zou s.heap sz (s.eval x) (s.eval y) = some v) : Zae P G nt ops o s { val := v, foot := Zbx (s.eval x) ++ Zbx (s.eval y) } :=
 Zae.value hg hd fun s' ha => Zva hf ho (by
  rw [Z9 ha (x := x) (by rw [ho]; simp [Op.operands, Call.operands]), Z9 ha (x := y) (by rw [ho]; simp [Op.operands, Call.operands])]
  rw [Zs6 fun b hb => ha.heap b hb]; exact h)
theorem Z3m (hg : gd nt T ops g = some true) (hd : Zbb nt (some d) = true) {t : TypeId} {x : Operand} {p v : Value} (hx : St.eval ⟨T, H⟩ x = p) (h : Zyv P H t p = some v) (k : R P G nt ops K l (tr ++ [(⟨some d, .call { callee := .builtin .cap, args := #[x], argTypes := #[t] }, ty, ps, af, g⟩, { val := v, foot := Zbx p })]) (upd T d v) H) : R P G nt ops K (⟨some d, .call { callee := .builtin .cap, args := #[x], argTypes := #[t] }, ty, ps, af, g⟩ :: l) tr T H := by
 subst hx; exact ⟨Zbg.valF (Z5m (by rw [Zcw]; exact hg) hd rfl h) rfl k.h⟩
theorem Z4w {nid : Nat} (hg : gd nt T ops g = some true) (hd : Zbb nt (some d) = true) {t u : TypeId} {x y : Operand} {v p q : Value} {blk : Blk} {ku : IntKind} (hu : P.underlying u = some (.int ku)) (hx : St.eval ⟨T, H⟩ x = p) (hy : St.eval ⟨T, H⟩ y = q) (h : Zyn P H t p q nid = some (v, blk)) (hH : Zeo H nid blk = H')
  (k : R P G nt ops K l (tr ++ [(⟨some d, .call { callee := .builtin .append, args := #[x, y], argTypes := #[t, u] }, ty, ps, af, g⟩, { val := v, sets := [(nid, blk)], foot := nid :: Zbx p })]) (upd T d v) H') : R P G nt ops K (⟨some d, .call { callee := .builtin .append, args := #[x, y], argTypes := #[t, u] }, ty, ps, af, g⟩ :: l) tr T H := by
 subst hx; subst hy; exact ⟨Zbg.new (Z4e (by rw [Zcw]; exact hg) hd rfl hu h) rfl hH k.h⟩
theorem Z41 {f : FuncId} {sz : Nat} (hf : IsOver P f sz) (hg : gd nt T ops g = some true) (hd : Zbb nt (some d) = true) {x y : Operand} {ts : Array TypeId} {p q v : Value} (hx : St.eval ⟨T, H⟩ x = p) (hy : St.eval ⟨T, H⟩ y = q) (h : Zou H sz p q = some v)
  (k : R P G nt ops K l (tr ++ [(⟨some d, .call { callee := .value (.func f), args := #[x, y], argTypes := ts }, ty, ps, af, g⟩, { val := v, foot := Zbx p ++ Zbx q })]) (upd T d v) H) : R P G nt ops K (⟨some d, .call { callee := .value (.func f), args := #[x, y], argTypes := ts }, ty, ps, af, g⟩ :: l) tr T H := by
 subst hx; subst hy; exact ⟨Zbg.valF (Z4l (by rw [Zcw]; exact hg) hd hf rfl h) rfl k.h⟩
end


section
variable {P : Program} {G : Glob}
def Zwe (P : Program) (G : Glob) (fn : Func) (Φ : St → Value → Prop) : Exit → St → Prop
  | .normal, s | .ret, s => ∃ v, Zd9 P G fn s = some v ∧ Φ s v
  | _, _ => False
theorem Zey {fn : Func} {Φ : St → Value → Prop} {s : St} {v : Value} (hr : Zd9 P G fn s = some v) (h : Φ s v) : X (Zwe P G fn Φ) .ret s := ⟨⟨v, hr, h⟩⟩
theorem Z3g {f : FuncId} {fn : Func} {c : Code} {nt : Nat} {args args' : List Value} {σ : List Blk} {m : MapM} {w : World} (hf : P.funcs[f]? = some fn) (hb : fn.body = some c) (hnt : fn.ntmps = nt) (hn : args.length ≤ nt)
  (hH : HRel G m σ w) (hA : L2 (VR m) args args') (Φ : St → Value → Prop) (h : C P G nt σ.length c (Zwe P G fn Φ) ⟨Zih args, σ⟩) {R : Ending → World → Prop}
  (hR : ∀ s v m' w' v', Φ s v → HRel G m' s.heap w' → VR m' v v' → Frame ⟨m, w, []⟩ m' w' → R (.returned v') w') : Calls P f args'.toArray w R := by
 subst hnt
 refine calls_of_wp hf hb ?_
 have hl := hA.1
 have hdom : ∀ b, σ.length ≤ b → m b = none := fun b hb => hH.dom hb
 have h0 := h.h ⟨m, w, []⟩ m { tmps := args'.toArray ++ Array.replicate (fn.ntmps - args'.toArray.size) undef, defers := [] } w hdom
  ⟨by simp; omega, fun i => by
   rcases hA.at_ i with ⟨x, y, h1, h2, h3⟩ | ⟨h1, h2⟩
   ·have hi : i < args'.length := (List.getElem?_eq_some_iff.1 h2).1
    simp only [Zih, h1, Option.getD_some]
    rw [Array.getD_eq_getD_getElem?, Array.getElem?_append_left (by simpa using hi)]
    simp only [List.getElem?_toArray, h2, Option.getD_some]
    exact h3
   ·simp only [Zih, h1, Option.getD_none]
    have : args'.length ≤ i := by simpa using h2
    rw [Array.getD_eq_getD_getElem?, Array.getElem?_append_right (by simpa using this)]
    rw [Array.getElem?_replicate]
    split <;> exact VR.undef, rfl, hH, Frame.refl [] hH⟩
 refine wp_mono h0 ?_
 rintro e a w' ⟨s, m', hq, hr⟩
 have key : (∃ v, Zd9 P G fn s = some v ∧ Φ s v) → a.defers = [] ∧ ∃ v, (results fn a.tmps).run P w' = .ok v w' ∧ R (.returned v) w' := by
  rintro ⟨v, hv, hΦ⟩
  obtain ⟨v', g1, g2⟩ := Zec hr hv
  exact ⟨hr.defers, v', g1, hR s v m' w' v' hΦ hr.heap g2 hr.frame⟩
 cases e with
 | normal => exact key hq
 | ret => exact key hq
 | _ => exact hq.elim


def Zs9 (m : MapM) (r : Reg) : MapM := fun b => if b = 0 then some r else if b = 1 then m 1 else none
theorem HRel.pick {m : MapM} {H : List Blk} {w : World} (h : HRel G m H w) {j : Nat} {X B0 B1 : Blk} {r : Reg} (hX : H[j]? = some X) (hr : m j = some r) (h1 : H[1]? = some B1) (hj : j ≠ 1)
  (hw : X.wr = true) (hw0 : B0.wr = true) (hs : B0.sz = X.sz) (hf : B0.fix = false) (hm : B0.mv = X.mv) (hc : B0.cells = X.cells.take B0.cells.length) (hl : B0.cells.length ≤ X.cells.length)
  (hp0 : ∀ v, v ∈ B0.cells → Zba v = true) (hp1 : B1.pur = true) (hs1 : 0 < B1.sz) :
  HRel G (Zs9 m { r with len := B0.cells.length, fix := false }) [B0, B1] w := by
 obtain ⟨a1, a2, a3, a4, a5, a6⟩ := h.at_ hX hr
 obtain ⟨r1, hr1⟩ := h.live 1 B1 h1 hs1
 obtain ⟨b1, b2, b3, b4, b5, b6⟩ := h.at_ h1 hr1
 have hrw : r.wr = true := by rw [a2]; exact hw
 obtain ⟨o1, o2⟩ := h.own j r hr hrw
 have hcase : ∀ b q, Zs9 m { r with len := B0.cells.length, fix := false } b = some q → (b = 0 ∧ q = { r with len := B0.cells.length, fix := false }) ∨ (b = 1 ∧ q = r1) := by
  intro b q hq
  unfold Zs9 at hq
  split at hq
  ·injection hq with hq; exact .inl ⟨by assumption, hq.symm⟩
  ·split at hq
   ·rw [hr1] at hq; injection hq with hq; exact .inr ⟨by assumption, hq.symm⟩
   ·cases hq
 have hblk : ∀ (b : Nat) (x : Blk), [B0, B1][b]? = some x → (b = 0 ∧ x = B0) ∨ (b = 1 ∧ x = B1) := by
  intro b x hx
  match b with
  | 0 => injection hx with hx; exact .inl ⟨rfl, hx.symm⟩
  | 1 => injection hx with hx; exact .inr ⟨rfl, hx.symm⟩
  | b + 2 => simp at hx
 refine ⟨?_, ?_, ?_, ?_, ?_, ?_, ?_, h.glob, ?_⟩
 ·intro b q hq
  rcases hcase b q hq with ⟨rfl, rfl⟩ | ⟨rfl, rfl⟩
  ·exact ⟨B0, rfl, by rw [hs]; exact a1, by simp only; rw [hrw, hw0], by simp only; rw [hf], rfl, by simp only; rw [a5, hs], by simp only; rw [a6, hm]⟩
  ·exact ⟨B1, rfl, b1, b2, b3, b4, b5, b6⟩
 ·intro b x hx _
  rcases hblk b x hx with ⟨rfl, rfl⟩ | ⟨rfl, rfl⟩
  ·exact ⟨_, rfl⟩
  ·exact ⟨r1, hr1⟩
 ·intro b x q i v hx hq hv
  rcases hblk b x hx with ⟨rfl, rfl⟩ | ⟨rfl, rfl⟩
  ·rcases hcase 0 q hq with ⟨_, rfl⟩ | ⟨hh, _⟩
   ·have hi : i < x.cells.length := (List.getElem?_eq_some_iff.1 hv).1
    have hv2 : X.cells[i]? = some v := by rw [hc, List.getElem?_take, if_pos hi] at hv; exact hv
    obtain ⟨v', g1, g2⟩ := h.cell j X r i v hX hr hv2
    have hpv := hp0 v (List.mem_of_getElem? hv)
    exact ⟨v', g1, by rw [g2.pure hpv]; exact CR.of_pure hpv⟩
   ·cases hh
  ·rcases hcase 1 q hq with ⟨hh, _⟩ | ⟨_, rfl⟩
   ·cases hh
   ·obtain ⟨v', g1, g2⟩ := h.cell 1 x q i v h1 hr1 hv
    have hpv := h.pur 1 x h1 hp1 v (List.mem_of_getElem? hv)
    exact ⟨v', g1, by rw [g2.pure hpv]; exact CR.of_pure hpv⟩
 ·intro b x hx hp
  rcases hblk b x hx with ⟨rfl, rfl⟩ | ⟨rfl, rfl⟩
  ·exact hp0
  ·exact h.pur 1 x h1 hp
 ·intro b q hq hqw
  rcases hcase b q hq with ⟨rfl, rfl⟩ | ⟨rfl, rfl⟩
  ·exact ⟨by simp only; omega, o2⟩
  ·exact h.own 1 q hr1 hqw
 ·intro b q hq hqw
  rcases hcase b q hq with ⟨rfl, rfl⟩ | ⟨rfl, rfl⟩
  ·exact h.clean j r hr hrw
  ·exact h.clean 1 q hr1 hqw
 ·intro b b' q q' hne hq hq' hqw
  rcases hcase b q hq with ⟨rfl, rfl⟩ | ⟨rfl, rfl⟩
  ·rcases hcase b' q' hq' with ⟨rfl, rfl⟩ | ⟨rfl, rfl⟩
   ·exact absurd rfl hne
   ·exact h.dis j 1 r q' hj hr hr1 hrw
  ·rcases hcase b' q' hq' with ⟨rfl, rfl⟩ | ⟨rfl, rfl⟩
   ·intro hg k k1 k2 k3 k4
    have := h.dis 1 j q r (fun e => hj e.symm) hr1 hr hqw hg k k1 k2 k3
    refine this ?_
    unfold Reg.ext at k4 ⊢
    simp only [hrw, if_true] at k4 ⊢
    exact k4
   ·exact absurd rfl hne
 ·intro b q k hq hqw
  rcases hcase b q hq with ⟨rfl, rfl⟩ | ⟨rfl, rfl⟩
  ·exact h.gwr j r k hr hrw
  ·exact h.gwr 1 q k hr1 hqw
end
section
variable {P : Program} {G : Glob} {α : Type} {cod : Cod α}
theorem Z08 {m : MapM} {r0 r2 : Reg} (h : m 0 = some r0) (hw : r0.wr = true) (hg : r2.g = r0.g) (hl : r2.lo = r0.lo) (hh : r2.hi = r0.hi) {g j : Nat} (q : Zj4 (Ze3 m 0 r2) g j) : Zj4 m g j := by
 obtain ⟨b, r, h1, h2, h3, h4, h5⟩ := q
 by_cases hb : b = 0
 ·subst hb; rw [Zbv] at h1; injection h1 with h1; subst h1
  exact ⟨0, r0, h, hw, by rw [← hg]; exact h3, by rw [← hl]; exact h4, by rw [← hh]; exact h5⟩
 ·rw [Zcm _ _ hb] at h1; exact ⟨b, r, h1, h2, h3, h4, h5⟩
theorem Frame.pick {m m' : MapM} {w w' : World} {r0 r2 rj q r1 : Reg} {j : Nat} (h0 : m 0 = some r0) (hw : r0.wr = true) (hv : r0.mv = true) (h1 : m 1 = some r1) (hdom : ∀ b, 2 ≤ b → m b = none) (hg : r2.g = r0.g) (hl : r2.lo = r0.lo) (hh : r2.hi = r0.hi)
    (h : Frame ⟨Ze3 m 0 r2, w, []⟩ m' w') (hj : m' j = some rj) (qg : q.g = rj.g) (ql : q.lo = rj.lo) (qh : q.hi = rj.hi) (qw : q.wr = rj.wr) : Frame ⟨m, w, []⟩ (Zs9 m' q) w' := by
  have hW : ∀ g j, Zj4 (Ze3 m 0 r2) g j → Zj4 m g j := fun g j => Z08 h0 hw hg hl hh
  refine ⟨h.os, h.tape, h.output, h.size, ?_, ?_, ?_⟩
  · intro g o ho
    obtain ⟨o', k1, k2⟩ := h.block g o ho
    refine ⟨o', k1, ?_⟩
    rcases k2 with k2 | ⟨c, t, fr, c', e1, e2, e3, e4⟩
    · exact .inl k2
    · exact .inr ⟨c, t, fr, c', e1, e2, e3, fun j hn => e4 j fun hx => hn (hW _ _ hx)⟩
  · intro b r hr hrw hlt
    unfold Zs9 at hr
    split at hr
    · injection hr with hr; subst hr
      rcases h.reg j rj hj (by rw [← qw]; exact hrw) (by omega) with k | k
      · left; rw [qg]; exact k
      · right; intro z z1 z2; rw [qg]; exact hW _ _ (k z (by omega) (by omega))
    · split at hr
      · rcases h.reg 1 r hr hrw hlt with k | k
        · exact .inl k
        · exact .inr fun z z1 z2 => hW _ _ (k z z1 z2)
      · cases hr
  · intro b r hr hk
    simp only at hr
    match b with
    | 0 => rw [h0] at hr; injection hr with hr; subst hr; rw [hw, hv] at hk; rcases hk with hk | hk <;> cases hk
    | 1 =>
      have := h.keep 1 r (by show Ze3 m 0 r2 1 = _; rw [Zcm _ _ (by decide)]; exact hr) hk
      exact this
    | b + 2 => rw [hdom _ (by omega)] at hr; cases hr
def rwL (c : Cod α) (l : List α) : Blk := { cells := c.row l, sz := c.n, wr := true, fix := false, mv := false, pur := true }
end

section
variable {P : Program} {α : Type} {cod : Cod α} {H : List Blk} {t : TypeId} {by_ : Nat} {zc : List Value}
end
section
variable {P : Program} {α : Type} {H : List Blk} {t : TypeId} {by_ : Nat} {zc : List Value}
end
end Go.Flat
end
