/- Walks. -/
import Derived.Test.YtlnggiomppkjmaaDoorFlatK
set_option linter.unusedVariables false
set_option linter.unusedSimpArgs false
section
/- Calls that only read and tell a thing without an address; walks over heaps with a part of any length. -/
namespace Go.Flat
section
variable {P : Program} {G : Glob}


def Zen (σ : List Blk) (b : Nat) : Bool := match σ[b]? with | some x => x.sz != 0 | none => true
def Zj6 (x : Blk) : Blk := if x.sz = 0 then { x with cells := [], sz := 1, wr := false } else x
theorem Z13 {x : Blk} (h : x.wr = false) : (Zj6 x).wr = false := by unfold Zj6; split <;> simp [h]
theorem Zer {x : Blk} (h : x.sz ≠ 0) : Zj6 x = x := if_neg h
theorem HRel.undum {m : MapM} {σ : List Blk} {w : World} (h : HRel G m (σ.map Zj6) w) (hro : ∀ x, x ∈ σ → x.wr = false) (hn : ∀ x, x ∈ σ → x.pur = true ∨ ∀ v, v ∈ x.cells → Zan (Zen σ) v = true) (h0 : ∀ x, x ∈ σ → x.sz = 0 → x.cells = []) :
    HRel G (fun b => if Zen σ b then m b else Option.none) σ w := by
  have hm : ∀ b r, (if Zen σ b then m b else Option.none) = some r → ∃ x : Blk, σ[b]? = some x ∧ x.sz ≠ 0 ∧ m b = some r ∧ (σ.map Zj6)[b]? = some x := by
    intro b r hr
    split at hr
    · rename_i hl
      obtain ⟨x, hx, _⟩ := h.reg b r hr
      simp only [List.getElem?_map, Option.map_eq_some_iff] at hx
      obtain ⟨y, hy, rfl⟩ := hx
      unfold Zen at hl
      rw [hy] at hl
      have hz : y.sz ≠ 0 := by simpa using hl
      exact ⟨y, hy, hz, hr, by simp [hy, Zer hz]⟩
    · cases hr
  have hw : ∀ b r, (if Zen σ b then m b else Option.none) = some r → r.wr = false := by
    intro b r hr
    obtain ⟨x, h1, h2, h3, h4⟩ := hm b r hr
    obtain ⟨_, g1, _⟩ := h.at_ h4 h3
    rw [g1]; exact hro x (List.mem_of_getElem? h1)
  have hag : ∀ b r, Zen σ b = true → m b = some r → (if Zen σ b then m b else Option.none) = some r := fun b r h1 h2 => by rw [if_pos h1]; exact h2
  refine ⟨?_, ?_, ?_, ?_, ?_, ?_, ?_, h.glob, ?_⟩
  · intro b r hr
    obtain ⟨x, h1, h2, h3, h4⟩ := hm b r hr
    exact ⟨x, h1, h.at_ h4 h3⟩
  · intro b x hx hz
    have hz' : x.sz ≠ 0 := by omega
    obtain ⟨r, hr⟩ := h.live b x (by simp [hx, Zer hz']) hz
    exact ⟨r, hag b r (by unfold Zen; rw [hx]; simpa using hz') hr⟩
  · intro b x r i v hx hr hv
    obtain ⟨y, h1, h2, h3, h4⟩ := hm b r hr
    rw [hx] at h1; injection h1 with h1; subst h1
    obtain ⟨v', g1, g2⟩ := h.cell b x r i v h4 h3 hv
    refine ⟨v', g1, ?_⟩
    rcases hn x (List.mem_of_getElem? hx) with hp | hp
    · have := h.pur b x h4 hp v (List.mem_of_getElem? hv)
      rw [g2.pure this]; exact CR.of_pure this
    · exact g2.congr hag (hp v (List.mem_of_getElem? hv))
  · intro b x hx hp v hv
    by_cases hz : x.sz = 0
    · rw [h0 x (List.mem_of_getElem? hx) hz] at hv; cases hv
    · exact h.pur b x (by simp [hx, Zer hz]) hp v hv
  · intro b r hr hq; rw [hw b r hr] at hq; cases hq
  · intro b r hr hq; rw [hw b r hr] at hq; cases hq
  · intro b b' r r' _ hr _ hq; rw [hw b r hr] at hq; cases hq
  · intro b r j hr hq; rw [hw b r hr] at hq; cases hq
structure RoOK (H : List Blk) (e : Emb) (argsL argsC : List Value) (σ : List Blk) : Prop where
  args : Zix e argsL argsC
  len : e.length = σ.length
  one : ∀ (i : Nat) (p : Option (Nat × Nat)) (L : Blk), e[i]? = some p → σ[i]? = some L → Zd3 H e p (Zj6 L)
  ro : ∀ x, x ∈ σ → x.wr = false
  nm : ∀ x, x ∈ σ → x.pur = true ∨ ∀ v, v ∈ x.cells → Zan (inE e) v = true ∧ Zan (Zen σ) v = true
  na : argsL.all (Zdx (Zen σ)) = true
  h0 : ∀ x, x ∈ σ → x.sz = 0 → x.cells = []
theorem L2.all_mem {R S : Value → Value → Prop} {xs ys : List Value} {p : Value → Bool} (h : L2 R xs ys) (hp : xs.all p = true) (hr : ∀ x y, p x = true → R x y → S x y) : L2 S xs ys :=
 h.mono fun x hx y hxy => hr x y (List.all_eq_true.1 hp x hx) hxy
end
section
variable {P : Program} {G : Glob} {nt : Nat} {ops l : List Oper} {K : Trace → St → Prop} {tr : Trace} {T : Nat → Value} {H : List Blk} {d : Tmp} {ty : TypeId} {ps : String} {af : Array Edge} {g : Option (Nat × Bool)}
end
section
variable {P : Program} {G : Glob} {nt n0 : Nat} {Q : Exit → St → Prop}
theorem Z6.ro {f : FuncId} {fn : Func} {c : Code} {nt : Nat} {args : List Value} {σ : List Blk} {res : Value} (hf : P.funcs[f]? = some fn) (hb : fn.body = some c) (hnt : fn.ntmps = nt) (hl : decide (args.length ≤ nt) = true) (hro : ∀ x, x ∈ σ → x.wr = false) (hp : Za2 res = true)
  (h : C P G nt σ.length c (Zwe P G fn fun _ v => v = res) ⟨Zih args, σ⟩) : Z6 P G f args σ res σ := by
 intro m w args' hH hA
 refine Z3g hf hb hnt (by simpa using hl) hH hA _ h ?_
 rintro s v m' w' v' rfl h' hv hF
 have hx : Ext w w' := hF.ext fun b r hbr => by
  obtain ⟨x, h1, _, h3, _⟩ := hH.reg b r hbr
  rw [h3]; exact hro x (List.mem_of_getElem? h1)
 exact ⟨v', m, rfl, hH.ext hx, by rw [hv.pure hp]; exact VR.of_pure hp, (Frame.refl [] hH).thenExt hx⟩


def bxM (n : Nat) (l : List Value) : Blk := { cells := l, sz := n, wr := true, fix := false, mv := true, pur := true }
def Z1m (σ : List Blk) (v : Value) (nid : Nat) : Option Blk :=
  if (Zhf v || Zhe v) && Znz.storC0 v && !v.cells.toList.isEmpty && Zby σ nid then some (Zb6 (v.cells.toList.all Zfm) false v.cells.toList.length v.cells.toList) else none
theorem Zu3 {o : Oper} {s : St} {t : TypeId} {x : Operand} {nid : Nat} {b : Blk} (ho : o.op = .box t x) (h : Z1m s.heap (s.eval x) nid = some b) : Zas P G o s (Zdv nid) [(nid, b)] := by
  unfold Z1m at h
  split at h
  · rename_i hc
    injection h with h; subst h
    simp only [Bool.and_eq_true, Bool.not_eq_true'] at hc
    obtain ⟨⟨⟨hk, hs⟩, he⟩, hf⟩ := hc
    intro nt E m a w hr
    have hL := (hr.eval x).cellsOf hk hs
    obtain ⟨m', h1, h2, h3, h4⟩ := Zdi hr.heap hr.frame hf (Zb6 ((s.eval x).cells.toList.all Zfm) false (s.eval x).cells.toList.length (s.eval x).cells.toList) (by
        simp only [Zb6]
        cases hl : (s.eval x).cells.toList with
        | nil => rw [hl] at he; cases he
        | cons => simp) (a.eval x).cells t (0, 0) (by simp only [Zb6]; rw [hL.1]; simp) (by
          simp only [Zb6]; rw [hL.1, List.take_length]; exact hL) (by
          intro hq v hv
          simp only [Zb6, List.all_eq_true] at hq hv
          exact Zit (hq v hv)) (by simp)
    exact ⟨_, _, m', .inl (by simp [execOp, ho, Instr.box, newVar, newRow]), h1, h2, h3, Zhg h4 rfl⟩
  · cases h
def Zqu (P : Program) (σ : List Blk) (t : TypeId) (nid : Nat) : Option Blk :=
  (Zqq P t).bind fun z => if z.all Zba && !z.isEmpty && Zby σ nid then some (Zb6 (z.all Zfm) false z.length z) else none
theorem Zrl {o : Oper} {s : St} {t : TypeId} {nid : Nat} {x : Blk} (ho : o.op = .alloc t) (h : Zqu P s.heap t nid = some x) : Zas P G o s (Zdv nid) [(nid, x)] := by
  unfold Zqu Zqq at h
  cases hi : P.info? t with
  | none => simp [hi] at h
  | some i =>
    cases hz : i.zero with
    | none => simp [hi, hz] at h
    | some z =>
      simp only [hi, hz, Option.bind_some, Option.map_some] at h
      split at h
      · rename_i hc
        injection h with h; subst h
        simp only [Bool.and_eq_true, Bool.not_eq_true'] at hc
        obtain ⟨⟨hp, he⟩, hf⟩ := hc
        intro nt E m a w hr
        obtain ⟨m', h1, h2, h3, h4⟩ := Zdi hr.heap hr.frame hf (Zb6 (z.cells.toList.all Zfm) false z.cells.toList.length z.cells.toList) (by
            simp only [Zb6]
            cases hl : z.cells.toList with
            | nil => rw [hl] at he; cases he
            | cons => simp) z.cells t (0, 0) (by simp [Zb6]) (by
              simp only [Zb6, List.take_length]
              simp only [List.all_eq_true] at hp
              exact (L2.refl _).mono fun x hx y hxy => by subst hxy; exact CR.of_pure (hp _ hx)) (by
              intro hq v hv
              simp only [Zb6, List.all_eq_true] at hq hv
              exact Zit (hq v hv)) (by simp)
        exact ⟨_, _, m', .inl (by simp [execOp, ho, Instr.alloc, zeroValue, typeInfo, hi, hz, newVar, newRow]), h1, h2, h3, Zhg h4 rfl⟩
      · cases h
section
variable {ops l : List Oper} {K : Trace → St → Prop} {tr : Trace} {T : Nat → Value} {H H' : List Blk} {d : Tmp} {ty : TypeId} {ps : String} {af : Array Edge} {g : Option (Nat × Bool)} {nid : Nat}
theorem Z4x (hg : gd nt T ops g = some true) (hd : Zbb nt (some d) = true) {t : TypeId} {x : Operand} {v : Value} {b : Blk} (hx : St.eval ⟨T, H⟩ x = v) (h : Z1m H v nid = some b) (hH : Zeo H nid b = H') (k : R P G nt ops K l (tr ++ [(⟨some d, .box t x, ty, ps, af, g⟩, { val := Zdv nid, sets := [(nid, b)], foot := [nid] })]) (upd T d (.pointer (some ⟨nid, 0, none⟩))) H') : R P G nt ops K (⟨some d, .box t x, ty, ps, af, g⟩ :: l) tr T H := by
 subst hx
 exact ⟨Zbg.new (Zae.value (by rw [Zcw]; exact hg) hd fun s' ha => Zu3 rfl (by
  unfold Z1m at h ⊢
  rw [Z9 ha (x := x) (by simp [Op.operands]), show Zby s'.heap nid = Zby H nid from by unfold Zby; rw [ha.heap nid (by simp), ha.len]]; exact h)) rfl hH k.h⟩
theorem Zfh (hg : gd nt T ops g = some true) (hd : Zbb nt (some d) = true) {t : TypeId} {b : Blk} (h : Zqu P H t nid = some b) (hH : Zeo H nid b = H') (k : R P G nt ops K l (tr ++ [(⟨some d, .alloc t, ty, ps, af, g⟩, { val := Zdv nid, sets := [(nid, b)], foot := [nid] })]) (upd T d (.pointer (some ⟨nid, 0, none⟩))) H') : R P G nt ops K (⟨some d, .alloc t, ty, ps, af, g⟩ :: l) tr T H :=
 ⟨Zbg.new (Zae.value (by rw [Zcw]; exact hg) hd fun s' ha => Zrl rfl (by
  unfold Zqu at h ⊢
  rw [show Zby s'.heap nid = Zby H nid from by unfold Zby; rw [ha.heap nid (by simp), ha.len]]; exact h)) rfl hH k.h⟩
end


def Zz7 (H : List Blk) (j : Nat) : Bool := match H[j]? with | some x => (x.wr && x.mv) || x.sz == 0 | none => false
def Zoi (D : List Nat) (T : Nat → Value) : Nat → List Value → Prop
  | _, [] => True
  | i, v :: l => (v = dead ∨ (v = T i ∧ Zdx (fun b => !D.contains b) (T i) = true)) ∧ Zoi D T (i + 1) l
theorem Zjx {D : List Nat} {T : Nat → Value} : ∀ {l : List Value} {i : Nat}, Zoi D T i l → ∀ (j : Nat) (v : Value), l[j]? = some v → v = dead ∨ (v = T (i + j) ∧ Zdx (fun b => !D.contains b) (T (i + j)) = true)
 | [], i, _, j, v, h => by simp at h
 | x :: l, i, hk, 0, v, h => by simp at h; subst h; exact hk.1
 | x :: l, i, hk, j + 1, v, h => by
  have := Zjx hk.2 j v (by simpa using h)
  rw [show i + (j + 1) = i + 1 + j from by omega]; exact this
def okN (D : List Nat) (x : Blk) : Prop := x.pur = true ∨ x.cells.all (Zan fun b => !D.contains b) = true
theorem Za7.drop {T : Nat → Value} {H H' : List Blk} {l : List Value} (D : List Nat) (hD : D.all (Zz7 H) = true) (hh : ∀ b, H'[b]? = if D.contains b then (H[b]?).map (fun _ => hole) else H[b]?) (ht : Zoi D T 0 l) (hn : ∀ x, x ∈ H' → okN D x) : Za7 G nt n0 ⟨T, H⟩ ⟨Tl l, H'⟩ := by
  intro E m a w h0 hr
  have hH := hr.heap
  have hag : ∀ b r, (!D.contains b) = true → m b = some r → (if D.contains b then none else m b) = some r := fun b r h1 h2 => by
    rw [if_neg (by simpa using h1)]; exact h2
  have hm : ∀ b r, (if D.contains b then none else m b) = some r → D.contains b = false ∧ m b = some r := by
    intro b r h
    split at h
    · cases h
    · rename_i hc; exact ⟨by simpa using hc, h⟩
  have hget : ∀ b, D.contains b = false → H'[b]? = H[b]? := fun b hb => by rw [hh, hb]; rfl
  have hblk : ∀ (b : Nat) (x : Blk), H'[b]? = some x → x = hole ∨ (D.contains b = false ∧ H[b]? = some x) := by
    intro b x hx
    rw [hh] at hx
    split at hx
    · rw [Option.map_eq_some_iff] at hx; obtain ⟨_, _, rfl⟩ := hx; exact .inl rfl
    · rename_i hc; exact .inr ⟨by simpa using hc, hx⟩
  refine ⟨fun b => if D.contains b then none else m b, hr.size, fun i => ?_, hr.defers, ⟨?_, ?_, ?_, ?_, ?_, ?_, ?_, hH.glob, ?_⟩, ⟨hr.frame.os, hr.frame.tape, hr.frame.output, hr.frame.size, hr.frame.block, ?_, ?_⟩⟩
  · show VR _ ((l[i]?).getD dead) _
    cases hl : l[i]? with
    | none => exact VR.dead
    | some v =>
      have := Zjx ht i v hl
      rw [Nat.zero_add] at this
      rcases this with h1 | ⟨h1, h2⟩
      · rw [h1]; exact VR.dead
      · rw [h1]; exact (hr.tmps i).congr hag h2
  · intro b r h
    obtain ⟨h1, h2⟩ := hm b r h
    obtain ⟨x, g1, g2⟩ := hH.reg b r h2
    exact ⟨x, by rw [hget b h1]; exact g1, g2⟩
  · intro b x hx hz
    rcases hblk b x hx with rfl | ⟨h1, h2⟩
    · exact absurd hz (by decide)
    · obtain ⟨r, hr2⟩ := hH.live b x h2 hz
      exact ⟨r, hag b r (by rw [h1]; rfl) hr2⟩
  · intro b x r i v hx h hv
    obtain ⟨h1, h2⟩ := hm b r h
    have hx' := hx
    rw [hget b h1] at hx
    obtain ⟨v', g1, g2⟩ := hH.cell b x r i v hx h2 hv
    refine ⟨v', g1, ?_⟩
    rcases hn x (List.mem_of_getElem? hx') with hp | hp
    · have := hH.pur b x hx hp v (List.mem_of_getElem? hv)
      rw [g2.pure this]; exact CR.of_pure this
    · exact g2.congr hag (List.all_eq_true.1 hp v (List.mem_of_getElem? hv))
  · intro b x hx hp v hv
    rcases hblk b x hx with rfl | ⟨h1, h2⟩
    · cases hv
    · exact hH.pur b x h2 hp v hv
  · intro b r h hw; exact hH.own b r (hm b r h).2 hw
  · intro b r h hw; exact hH.clean b r (hm b r h).2 hw
  · intro b b' r r' hne h h' hw; exact hH.dis b b' r r' hne (hm b r h).2 (hm b' r' h').2 hw
  · intro b r j h hw; exact hH.gwr b r j (hm b r h).2 hw
  · intro b r h hw hlt; exact hr.frame.reg b r (hm b r h).2 hw hlt
  · intro b r h hk
    have h1 := hr.frame.keep b r h hk
    refine hag b r ?_ h1
    cases hc : D.contains b with
    | false => rfl
    | true =>
      exfalso
      have h2 := List.all_eq_true.1 hD b (by simpa using hc)
      unfold Zz7 at h2
      cases hb : H[b]? with
      | none => rw [hb] at h2; cases h2
      | some x =>
        rw [hb] at h2
        simp only [Bool.or_eq_true, Bool.and_eq_true, beq_iff_eq] at h2
        obtain ⟨g0, g1, _, _, _, g5⟩ := hH.at_ hb h1
        rcases h2 with ⟨h3, h4⟩ | h3
        · rcases hk with hk | hk
          · rw [g1, h3] at hk; cases hk
          · rw [g5, h4] at hk; cases hk
        · omega
end

section
variable {α : Type}
def Zhk (enc : α → Nat → List Value) : Nat → List α → List Value
  | _, [] => []
  | K, x :: l => enc x K ++ Zhk enc (K + 1) l
structure Dcod (α : Type) where
  enc : α → Nat → List Value
  n : Nat
  len : ∀ x b, (enc x b).length = n
  pos : 0 < n
  blk : α → Blk
variable (c : Dcod α)
def Dcod.row (K : Nat) (l : List α) : List Value := Zhk c.enc K l
theorem Dcod.row_len : ∀ (l : List α) (K : Nat), (c.row K l).length = l.length * c.n
 | [], K => by simp [Dcod.row, Zhk]
 | x :: l, K => by
  have := Dcod.row_len l (K + 1)
  unfold Dcod.row at this ⊢
  rw [Zhk, List.length_append, c.len, this, List.length_cons, Nat.add_mul, Nat.one_mul, Nat.add_comm]
theorem Dcod.row_drop : ∀ (l : List α) (K i : Nat), (c.row K l).drop (i * c.n) = c.row (K + i) (l.drop i)
 | [], K, i => by simp [Dcod.row, Zhk]
 | x :: l, K, 0 => by simp
 | x :: l, K, i + 1 => by
  have := Dcod.row_drop l (K + 1) i
  unfold Dcod.row at this ⊢
  rw [Zhk, show (i + 1) * c.n = (c.enc x K).length + i * c.n from by rw [c.len, Nat.add_mul, Nat.one_mul, Nat.add_comm], List.drop_length_add_append, this]
  rw [List.drop_succ_cons, show K + 1 + i = K + (i + 1) from by omega]
theorem Dcod.row_take : ∀ (l : List α) (K i : Nat), (c.row K l).take (i * c.n) = c.row K (l.take i)
 | [], K, i => by simp [Dcod.row, Zhk]
 | x :: l, K, 0 => by simp [Dcod.row, Zhk]
 | x :: l, K, i + 1 => by
  have := Dcod.row_take l (K + 1) i
  unfold Dcod.row at this ⊢
  rw [Zhk, show (i + 1) * c.n = (c.enc x K).length + i * c.n from by rw [c.len, Nat.add_mul, Nat.one_mul, Nat.add_comm], List.take_length_add_append, this]
  rw [List.take_succ_cons, Zhk]
theorem Dcod.at_ [Inhabited α] {l : List α} {K i : Nat} (h : i < l.length) : ((c.row K l).drop (i * c.n)).take c.n = c.enc (l.getD i default) (K + i) := by
 rw [c.row_drop, List.drop_eq_getElem_cons h]
 unfold Dcod.row
 rw [Zhk, List.take_append_of_le_length (by rw [c.len]; exact Nat.le_refl _), List.take_of_length_le (by rw [c.len]; exact Nat.le_refl _), List.getD_eq_getElem?_getD, List.getElem?_eq_getElem h]; rfl
theorem Dcod.row_names {p : Nat → Bool} (he : ∀ x b, p b = true → (c.enc x b).all (Zan p) = true) : ∀ (l : List α) (K : Nat), (∀ i, i < l.length → p (K + i) = true) → (c.row K l).all (Zan p) = true
 | [], K, _ => rfl
 | x :: l, K, h => by
  have := Dcod.row_names he l (K + 1) (fun i hi => by rw [show K + 1 + i = K + (i + 1) from by omega]; exact h (i + 1) (by simp; omega))
  unfold Dcod.row at this ⊢
  rw [Zhk, List.all_append, he x K (h 0 (by simp)), this]; rfl
def Dcod.B (K : Nat) (l : List α) : Blk := { cells := c.row K l, sz := c.n, wr := false, fix := false, mv := true, pur := false }
variable {P : Program} {G : Glob} {t : TypeId} {H : List Blk} {b K : Nat}
theorem Z2k [Inhabited α] {l : List α} {i o m : Nat} (hm : m = c.n) (hk : Zdw P t = some (true, m)) (hb : H[b]? = some (c.B K l)) (hi : i < l.length) (ho : o = i * m) : Zde P G t H (.pointer (some ⟨b, o, none⟩)) = some (mxV (c.enc (l.getD i default) (K + i))) := by
 subst hm; subst ho
 refine Zgv hk hb ?_ (c.at_ hi)
 show _ ≤ (c.row K l).length
 rw [c.row_len]
 have := Nat.mul_le_mul_right c.n (Nat.succ_le_of_lt hi)
 rw [Nat.succ_mul] at this
 exact this
theorem Dcod.part [Inhabited α] {l : List α} {i k m : Nat} {cs : List Value} (hi : i < l.length) (hk : k + m ≤ c.n) (hc : ((c.enc (l.getD i default) (K + i)).drop k).take m = cs) : ((c.row K l).drop (i * c.n + k)).take m = cs := by
 rw [← hc, ← c.at_ hi, List.drop_take, List.take_take, List.drop_drop]
 congr 1
 omega
theorem Zzy [Inhabited α] {l : List α} {i k o n : Nat} {v : Value} (hn : n = c.n) (hk : Zdw P t = some (false, 1)) (hb : H[b]? = some (c.B K l)) (hi : i < l.length) (ho : o = i * n + k) (hkm : k < n) (hc : (c.enc (l.getD i default) (K + i))[k]? = some v) (h1v : Zhf v = true) : Zde P G t H (.pointer (some ⟨b, o, none⟩)) = some v := by
 subst hn; subst ho
 have h1 : (c.row K l)[i * c.n + k]? = some v := by
  have := c.at_ (K := K) hi
  rw [← hc, ← this, List.getElem?_take, if_pos hkm, List.getElem?_drop]
 unfold Zde
 rw [hk]
 simp only [hb, Option.bind_some]
 show rdA false 1 (c.row K l) (i * c.n + k) = some v
 unfold rdA
 rw [if_neg (by decide), h1]
 simp [h1v]
theorem Zk2 {lits : List Blk} [Inhabited α] {l : List α} {i : Nat} (hK : lits.length = K) (hi : i < l.length) : (lits ++ l.map c.blk)[K + i]? = some (c.blk (l.getD i default)) := by
 rw [List.getElem?_append_right (by omega), show K + i - lits.length = i from by omega, List.getElem?_map, List.getElem?_eq_getElem hi, List.getD_eq_getElem?_getD, List.getElem?_eq_getElem hi]; rfl
end

section
variable {α : Type} [Inhabited α] (c : Dcod α)
structure Dcod.OK : Prop where
  ren : ∀ (e : Emb) x (b b' : Nat), e[b]? = some (some (b', 0)) → (c.enc x b).map (Ze6 e) = c.enc x b'
  nam : ∀ (p : Nat → Bool) x b, p b = true → (c.enc x b).all (Zan p) = true
  bw : ∀ x, (c.blk x).wr = false
  bp : ∀ x, (c.blk x).pur = true
  bz : ∀ x, 0 < (c.blk x).sz
  bf : ∀ x, (!(c.blk x).fix || !(c.blk x).mv) = true
def Dcod.S (h : Nat) (l : List α) : List Blk := c.B (h + 1) l :: (List.replicate h hole ++ l.map c.blk)
def Dcod.E (b0 K a h q : Nat) : Emb := some (b0, a * c.n) :: (List.replicate h none ++ (List.range q).map fun i => some (K + a + i, 0))
variable {c}
theorem Dcod.E_at {b0 K a h q i : Nat} (hi : i < q) : (c.E b0 K a h q)[h + 1 + i]? = some (some (K + a + i, 0)) := by
 have _ := (inferInstance : Inhabited α)
 unfold Dcod.E
 rw [show h + 1 + i = (h + i) + 1 from by omega, List.getElem?_cons_succ, List.getElem?_append_right (by simp), List.length_replicate, show h + i - h = i from by omega, List.getElem?_map, List.getElem?_range hi]; rfl
theorem Dcod.S_at {h i : Nat} {l : List α} (hi : i < l.length) : (c.S h l)[h + 1 + i]? = some (c.blk (l.getD i default)) := by
 unfold Dcod.S
 rw [show h + 1 + i = (h + i) + 1 from by omega, List.getElem?_cons_succ, List.getElem?_append_right (by simp), List.length_replicate, show h + i - h = i from by omega, List.getElem?_map, List.getElem?_eq_getElem hi, List.getD_eq_getElem?_getD, List.getElem?_eq_getElem hi]; rfl
theorem Dcod.row_ren (hc : c.OK) {e : Emb} : ∀ (l : List α) (K K' : Nat), (∀ i, i < l.length → e[K + i]? = some (some (K' + i, 0))) → (c.row K l).map (Ze6 e) = c.row K' l
 | [], K, K', _ => by have _ := (inferInstance : Inhabited α); rfl
 | x :: l, K, K', h => by
  have := Dcod.row_ren hc l (K + 1) (K' + 1) (fun i hi => by rw [show K + 1 + i = K + (i + 1) from by omega, show K' + 1 + i = K' + (i + 1) from by omega]; exact h (i + 1) (by simp; omega))
  unfold Dcod.row at this ⊢
  rw [Zhk, Zhk, List.map_append, this, hc.ren e x K K' (h 0 (by simp))]
theorem Zzc {L : List α} {a q i : Nat} (hi : i < ((L.drop a).take q).length) : ((L.drop a).take q).getD i default = L.getD (a + i) default := by
 have h1 : i < q := by simp at hi; omega
 rw [List.getD_eq_getElem?_getD, List.getD_eq_getElem?_getD, List.getElem?_take, if_pos h1, List.getElem?_drop]
theorem Dcod.roOK (hc : c.OK) {H : List Blk} {b0 K a h q : Nat} {L l : List α} {argsL argsC : List Value} (hl : l = (L.drop a).take q) (hq : a + q ≤ L.length) (hB : H[b0]? = some (c.B K L)) (hD : ∀ i, i < L.length → H[K + i]? = some (c.blk (L.getD i default)))
  (ha : Zix (c.E b0 K a h q) argsL argsC) (hn : argsL.all (Zdx (Zen (c.S h l))) = true) : RoOK H (c.E b0 K a h q) argsL argsC (c.S h l) := by
 have hll : l.length = q := by rw [hl]; simp; omega
 have hlive : ∀ i, i < l.length → Zen (c.S h l) (h + 1 + i) = true := by
  intro i hi
  unfold Zen
  rw [Dcod.S_at hi]
  have := hc.bz (l.getD i default)
  exact bne_iff_ne.2 (by omega)
 have hinE : ∀ i, i < l.length → inE (c.E b0 K a h q) (h + 1 + i) = true := by
  intro i hi
  unfold inE
  rw [Dcod.E_at (by omega)]
 have hmem : ∀ x, x ∈ c.S h l → x = c.B (h + 1) l ∨ x = hole ∨ ∃ y, x = c.blk y := by
  intro x hx
  unfold Dcod.S at hx
  simp only [List.mem_cons, List.mem_append, List.mem_replicate, List.mem_map] at hx
  rcases hx with hx | ⟨_, hx⟩ | ⟨y, _, hx⟩
  ·exact .inl hx
  ·exact .inr (.inl hx)
  ·exact .inr (.inr ⟨y, hx.symm⟩)
 refine ⟨ha, by simp [Dcod.E, Dcod.S, hll], ?_, ?_, ?_, hn, ?_⟩
 ·intro i p L' h1 h2
  rcases Nat.lt_or_ge i (h + 1) with hi | hi
  ·cases i with
   | zero =>
    have e1 : p = some (b0, a * c.n) := by simpa [Dcod.E] using h1.symm
    have e2 : L' = c.B (h + 1) l := by simpa [Dcod.S] using h2.symm
    subst e1; subst e2
    rw [Zer (show (c.B (h + 1) l).sz ≠ 0 from by have := c.pos; show c.n ≠ 0; omega)]
    have hlen : (c.row (h + 1) l).length = q * c.n := by rw [c.row_len, hll]
    refine Zco hB (by have := c.pos; simp [Dcod.B, this]) ?_ ?_
    ·show a * c.n + (c.row (h + 1) l).length ≤ (c.row K L).length
     rw [hlen, c.row_len, ← Nat.add_mul]; exact Nat.mul_le_mul_right _ hq
    ·show ((c.row K L).drop (a * c.n)).take (c.row (h + 1) l).length = (c.row (h + 1) l).map _
     rw [hlen, c.row_drop, c.row_take, ← hl]
     exact (Dcod.row_ren hc l (h + 1) (K + a) (fun i hi => Dcod.E_at (by omega))).symm
   | succ i =>
    have e1 : p = none := by
     unfold Dcod.E at h1
     rw [List.getElem?_cons_succ, List.getElem?_append_left (by simp; omega), List.getElem?_replicate, if_pos (by omega)] at h1
     injection h1 with h1; exact h1.symm
    have e2 : L' = hole := by
     unfold Dcod.S at h2
     rw [List.getElem?_cons_succ, List.getElem?_append_left (by simp; omega), List.getElem?_replicate, if_pos (by omega)] at h2
     injection h2 with h2; exact h2.symm
    subst e1; subst e2
    exact ⟨rfl, rfl, by decide⟩
  ·obtain ⟨j, rfl⟩ : ∃ j, i = h + 1 + j := ⟨i - (h + 1), by omega⟩
   have hj : j < l.length := by
    have := (List.getElem?_eq_some_iff.1 h2).1
    simp [Dcod.S] at this; omega
   rw [Dcod.E_at (by omega)] at h1
   injection h1 with h1; subst h1
   rw [Dcod.S_at hj] at h2
   injection h2 with h2; subst h2
   have hz := hc.bz (l.getD j default)
   rw [Zer (by omega)]
   have hg : l.getD j default = L.getD (a + j) default := by subst hl; exact Zzc hj
   refine Zco (B := c.blk (l.getD j default)) (by rw [hg, Nat.add_assoc]; exact hD _ (by omega)) ?_ (by rw [Nat.zero_add]; exact Nat.le_refl _) ?_
   ·have h1 := hc.bw (l.getD j default); have h2 := hc.bp (l.getD j default); have h3 := hc.bf (l.getD j default)
    generalize c.blk (l.getD j default) = Y at hz h1 h2 h3 ⊢
    simp [hz, h1, h2]; simpa using h3
   ·unfold Zci; rw [if_pos (hc.bp _)]; simp
 ·intro x hx
  rcases hmem x hx with rfl | rfl | ⟨y, rfl⟩
  ·rfl
  ·rfl
  ·exact hc.bw y
 ·intro x hx
  rcases hmem x hx with rfl | rfl | ⟨y, rfl⟩
  ·right
   intro v hv
   have g1 := Dcod.row_names c (fun x b hb => hc.nam _ x b hb) l (h + 1) hinE
   have g2 := Dcod.row_names c (fun x b hb => hc.nam _ x b hb) l (h + 1) hlive
   exact ⟨List.all_eq_true.1 g1 v hv, List.all_eq_true.1 g2 v hv⟩
  ·exact .inl rfl
  ·exact .inl (hc.bp y)
 ·intro x hx hz
  rcases hmem x hx with rfl | rfl | ⟨y, rfl⟩
  ·have := c.pos; simp only [Dcod.B] at hz; omega
  ·rfl
  ·have := hc.bz y; omega
theorem Dcod.S_ro (hc : c.OK) (h : Nat) (l : List α) : ∀ x, x ∈ c.S h l → x.wr = false := by
 have _ := (inferInstance : Inhabited α)
 intro x hx
 unfold Dcod.S at hx
 simp only [List.mem_cons, List.mem_append, List.mem_replicate, List.mem_map] at hx
 rcases hx with rfl | ⟨_, rfl⟩ | ⟨y, _, rfl⟩
 ·rfl
 ·rfl
 ·exact hc.bw y
end
section
variable {P : Program} {G : Glob}
theorem Zln (x : Blk) : okN [] x := .inr (List.all_eq_true.2 fun v _ => Zge (fun _ => rfl) v)
theorem Zds {D : List Nat} : ∀ x, x ∈ ([] : List Blk) → okN D x := fun x h => by cases h
theorem Zj {D : List Nat} {y : Blk} {l : List Blk} (h : okN D y) (t : ∀ x, x ∈ l → okN D x) : ∀ x, x ∈ y :: l → okN D x := fun x hx => by
 rcases List.mem_cons.1 hx with rfl | hx
 ·exact h
 ·exact t x hx
theorem Zet {D : List Nat} {l m : List Blk} (h : ∀ x, x ∈ l → okN D x) (t : ∀ x, x ∈ m → okN D x) : ∀ x, x ∈ l ++ m → okN D x := fun x hx => by
 rcases List.mem_append.1 hx with hx | hx
 ·exact h x hx
 ·exact t x hx
theorem Zeu {α : Type} [Inhabited α] (c : Dcod α) (hc : c.OK) {D : List Nat} {l : List α} : ∀ x, x ∈ l.map c.blk → okN D x := fun x hx => by
 obtain ⟨y, _, rfl⟩ := List.mem_map.1 hx
 exact .inl (hc.bp y)
theorem Zev {α : Type} [Inhabited α] (c : Dcod α) (hc : c.OK) {D : List Nat} {K : Nat} {l : List α} (h : D.all (fun j => decide (j < K)) = true) : okN D (c.B K l) := by
 refine .inr (Dcod.row_names c (fun x b hb => hc.nam _ x b hb) l K fun i _ => ?_)
 cases hq : D.contains (K + i) with
 | false => rfl
 | true =>
  have h1 := List.all_eq_true.1 h (K + i) (by simpa using hq)
  simp at h1
  exact absurd h1 (by omega)
theorem Ze4 {D : List Nat} {lits lits' tail : List Blk} (h : lits' = lits.zipIdx.map fun p => if D.contains p.2 then hole else p.1) (hD : (D.all fun j => decide (j < lits.length)) = true) (b : Nat) :
  (lits' ++ tail)[b]? = if D.contains b then ((lits ++ tail)[b]?).map (fun _ => hole) else (lits ++ tail)[b]? := by
 have hl : lits'.length = lits.length := by rw [h]; simp
 rcases Nat.lt_or_ge b lits.length with hb | hb
 ·rw [List.getElem?_append_left (by omega), List.getElem?_append_left hb, h, List.getElem?_map, List.getElem?_zipIdx, List.getElem?_eq_getElem hb]
  simp only [Option.map_some, Nat.zero_add]
  split <;> rfl
 ·rw [List.getElem?_append_right (by omega), List.getElem?_append_right hb, hl, if_neg]
  intro hq
  have := List.all_eq_true.1 hD b (by simpa using hq)
  simp at this; omega
end

section
variable {α : Type} [Inhabited α] {c : Dcod α} {G : Glob} {W : World}
def Zk1 (h n : Nat) (rr : Reg) (rs : Nat → Reg) : MapM := fun b => if b = 0 then some rr else if h + 1 ≤ b ∧ b < h + 1 + n then some (rs (b - (h + 1))) else none
theorem HRel.deep (hg : HRel G (fun _ => Option.none) [] W) (hc : c.OK) (h : Nat) (l : List α) (rr : Reg) (rs : Nat → Reg)
    (h1 : rr.wr = false ∧ rr.fix = false ∧ rr.len = l.length * c.n ∧ rr.sz = c.n ∧ rr.mv = true)
    (h2 : ∀ i, i < l.length → (rs i).wr = (c.blk (l.getD i default)).wr ∧ (rs i).fix = (c.blk (l.getD i default)).fix ∧ (rs i).len = (c.blk (l.getD i default)).cells.length ∧ (rs i).sz = (c.blk (l.getD i default)).sz ∧ (rs i).mv = (c.blk (l.getD i default)).mv)
    (h3 : ∀ i, i < l.length → ∀ j v, (c.blk (l.getD i default)).cells[j]? = some v → W.cell? ⟨(rs i).g, (rs i).lo + j, Option.none⟩ = some v ∧ Zba v = true)
    (h4 : ∀ i, i < l.length → ∀ j v, (c.enc (l.getD i default) (h + 1 + i))[j]? = some v → ∃ v', W.cell? ⟨rr.g, rr.lo + (i * c.n + j), Option.none⟩ = some v' ∧ CR (Zk1 h l.length rr rs) v v') :
    HRel G (Zk1 h l.length rr rs) (c.S h l) W ∧ ∀ b r, Zk1 h l.length rr rs b = some r → r.wr = false := by
  have hcase : ∀ b r, Zk1 h l.length rr rs b = some r → (b = 0 ∧ r = rr) ∨ ∃ i, i < l.length ∧ b = h + 1 + i ∧ r = rs i := by
    intro b r hb
    unfold Zk1 at hb
    split at hb
    · injection hb with hb; exact .inl ⟨by assumption, hb.symm⟩
    · split at hb
      · rename_i hr
        injection hb with hb
        exact .inr ⟨b - (h + 1), by omega, by omega, hb.symm⟩
      · cases hb
  have hro : ∀ b r, Zk1 h l.length rr rs b = some r → r.wr = false := by
    intro b r hb
    rcases hcase b r hb with ⟨_, rfl⟩ | ⟨i, hi, _, rfl⟩
    · exact h1.1
    · rw [(h2 i hi).1]; exact hc.bw _
  have hget0 : (c.S h l)[0]? = some (c.B (h + 1) l) := rfl
  have hblk : ∀ (b : Nat) (x : Blk), (c.S h l)[b]? = some x → (b = 0 ∧ x = c.B (h + 1) l) ∨ x = Flat.hole ∨ ∃ i, i < l.length ∧ b = h + 1 + i ∧ x = c.blk (l.getD i default) := by
    intro b x hx
    rcases Nat.lt_or_ge b (h + 1) with hb | hb
    · cases b with
      | zero => rw [hget0] at hx; injection hx with hx; exact .inl ⟨rfl, hx.symm⟩
      | succ b =>
        unfold Dcod.S at hx
        rw [List.getElem?_cons_succ, List.getElem?_append_left (by simp; omega), List.getElem?_replicate, if_pos (by omega)] at hx
        injection hx with hx; exact .inr (.inl hx.symm)
    · obtain ⟨i, rfl⟩ : ∃ i, b = h + 1 + i := ⟨b - (h + 1), by omega⟩
      have hi : i < l.length := by
        have := (List.getElem?_eq_some_iff.1 hx).1
        simp [Dcod.S] at this; omega
      rw [Dcod.S_at hi] at hx
      injection hx with hx
      exact .inr (.inr ⟨i, hi, rfl, hx.symm⟩)
  refine ⟨⟨?_, ?_, ?_, ?_, ?_, ?_, ?_, hg.glob, ?_⟩, hro⟩
  · intro b r hb
    rcases hcase b r hb with ⟨rfl, rfl⟩ | ⟨i, hi, rfl, rfl⟩
    · exact ⟨c.B (h + 1) l, hget0, c.pos, h1.1, h1.2.1, by show _ = (c.row _ l).length; rw [c.row_len]; exact h1.2.2.1, h1.2.2.2.1, h1.2.2.2.2⟩
    · exact ⟨_, Dcod.S_at hi, hc.bz _, h2 i hi⟩
  · intro b x hx hz
    rcases hblk b x hx with ⟨rfl, rfl⟩ | rfl | ⟨i, hi, rfl, rfl⟩
    · exact ⟨rr, rfl⟩
    · exact absurd hz (by decide)
    · exact ⟨rs i, by unfold Zk1; rw [if_neg (by omega), if_pos ⟨by omega, by omega⟩, show h + 1 + i - (h + 1) = i from by omega]⟩
  · intro b x r j v hx hb hv
    rcases hcase b r hb with ⟨rfl, rfl⟩ | ⟨i, hi, rfl, rfl⟩
    · rw [hget0] at hx; injection hx with hx; subst hx
      have hj : j < l.length * c.n := by have := (List.getElem?_eq_some_iff.1 hv).1; simp only [Dcod.B] at this; rwa [c.row_len] at this
      have hp := c.pos
      have hi : j / c.n < l.length := Nat.div_lt_of_lt_mul (by rw [Nat.mul_comm]; exact hj)
      have hm : j % c.n < c.n := Nat.mod_lt _ hp
      have hd : j / c.n * c.n + j % c.n = j := by rw [Nat.mul_comm]; exact Nat.div_add_mod j c.n
      have he : (c.enc (l.getD (j / c.n) default) (h + 1 + j / c.n))[j % c.n]? = some v := by
        rw [← c.at_ (K := h + 1) hi, List.getElem?_take, if_pos hm, List.getElem?_drop, hd]; exact hv
      obtain ⟨v', g1, g2⟩ := h4 _ hi _ v he
      rw [hd] at g1
      exact ⟨v', g1, g2⟩
    · rw [Dcod.S_at hi] at hx; injection hx with hx; subst hx
      obtain ⟨g1, g2⟩ := h3 i hi j v hv
      exact ⟨v, g1, CR.of_pure g2⟩
  · intro b x hx hp v hv
    rcases hblk b x hx with ⟨rfl, rfl⟩ | rfl | ⟨i, hi, rfl, rfl⟩
    · cases hp
    · cases hv
    · obtain ⟨j, hj⟩ := List.getElem?_of_mem hv
      exact (h3 i hi j v hj).2
  · intro b r hb hw; rw [hro b r hb] at hw; cases hw
  · intro b r hb hw; rw [hro b r hb] at hw; cases hw
  · intro b b' r r' _ hb _ hw; rw [hro b r hb] at hw; cases hw
  · intro b r j hb hw; rw [hro b r hb] at hw; cases hw
end
theorem Zri {e : Emb} {b b' n k : Nat} (h : e[b]? = some (some (b', 0))) : Ze6 e (slv b 0 n k) = slv b' 0 n k := by
 show Zc8 e (slv b 0 n k) = _
 simp [Zc8, h]
open Go.ChangeShapes Go.WideShapes Go.RowKit
section
variable {α : Type} [Inhabited α] {G : Glob} {P : Program} {W : World}
def Zt2 (P : Program) (te : TypeId) (c : Dcod α) (ok : α → Prop) : Prop :=
  ∀ {H : Type} {enc : TypeId × Value → H} {W : World} {fuel : Nat} {cs : List Value} {x : DataW H × List MemPlace}, DataW.trod enc P W 0 (fun _ => true) true fuel te cs = some x →
    ∃ (y : α) (r : Reg), ok y ∧ (r.wr = (c.blk y).wr ∧ r.fix = (c.blk y).fix ∧ r.len = (c.blk y).cells.length ∧ r.sz = (c.blk y).sz ∧ r.mv = (c.blk y).mv) ∧ (∀ j v, (c.blk y).cells[j]? = some v → W.cell? ⟨r.g, r.lo + j, none⟩ = some v ∧ Zba v = true) ∧ ∀ (m : MapM) (b : Nat), m b = some r → L2 (CR m) (c.enc y b) cs
variable {H : Type} {enc : TypeId × Value → H} {c : Dcod α} {ok : α → Prop}
theorem Zos {te : TypeId} (ho : Zt2 P te c ok) {fuel : Nat} {a : Addr} {x : DataW H × List MemPlace} (h : (W.cells? 0 a c.n).bind (DataW.trod enc P W 0 (fun _ => true) true fuel te) = some x) :
  ∃ y : α × Reg, ok y.1 ∧ (y.2.wr = (c.blk y.1).wr ∧ y.2.fix = (c.blk y.1).fix ∧ y.2.len = (c.blk y.1).cells.length ∧ y.2.sz = (c.blk y.1).sz ∧ y.2.mv = (c.blk y.1).mv) ∧ (∀ j v, (c.blk y.1).cells[j]? = some v → W.cell? ⟨y.2.g, y.2.lo + j, none⟩ = some v ∧ Zba v = true) ∧
   ∃ cs : List Value, (∀ j, j < c.n → W.cell? (a.add j) = cs[j]?) ∧ cs.length = c.n ∧ ∀ (m : MapM) (b : Nat), m b = some y.2 → L2 (CR m) (c.enc y.1 b) cs := by
 have _ := (inferInstance : Inhabited α)
 obtain ⟨cs, h1, h2⟩ := Option.bind_eq_some_iff.1 h
 obtain ⟨_, hl, hc⟩ := World.cells?_some h1
 obtain ⟨y, r, g1, g2, g3, g4⟩ := ho h2
 exact ⟨(y, r), g1, g2, g3, cs, hc, hl, g4⟩
theorem HRel.open_deep (hg : HRel G (fun _ => Option.none) [] W) (hc : c.OK) (h : Nat) {t te : TypeId} (ho : Zt2 P te c ok) {base : Nat} {v : Value} {d : DataW H} {p : List MemPlace} (ht : P.underlying t = some (.slice te)) (hce : P.cellsOf te = c.n)
    (hv : Value.okWide P W .any base t v) (htr : DataW.Trod enc P W 0 (fun _ => true) true t v d p) :
    ∃ (l : List α) (cap : Nat) (m : MapM), l.length ≤ cap ∧ cap ≤ 9223372036854775807 ∧ (∀ i, i < l.length → ok (l.getD i default)) ∧ HRel G m (c.S h l) W ∧ (∀ b r, m b = some r → r.wr = false) ∧ VR m (slv 0 0 l.length cap) v := by
  obtain ⟨a0, len0, cap0, rfl⟩ := okWide_slice ht hv
  obtain ⟨fuel, hf⟩ := htr
  have hn := c.pos
  rcases DataW.trod_slice ht hf with ⟨hcs, _⟩ | ⟨a, len, cap, elems, rest, k, _, hcs, _, _, hl, hmx, hlen, hel, hsp, _⟩
  · have hcs' : Value.slice a0 len0 cap0 = .slice Option.none 0 0 := by simpa [Value.cells] using hcs
    injection hcs' with e1 e2 e3
    subst e1; subst e2; subst e3
    obtain ⟨g1, g2⟩ := hg.deep hc h ([] : List α) ⟨0, 0, 0, 0, c.n, false, false, true⟩ (fun _ => ⟨0, 0, 0, 0, 1, false, false, false⟩) ⟨rfl, rfl, by simp, rfl, rfl⟩ (fun i hi => absurd hi (Nat.not_lt_zero _)) (fun i hi => absurd hi (Nat.not_lt_zero _)) (fun i hi => absurd hi (Nat.not_lt_zero _))
    exact ⟨[], 0, _, Nat.le_refl _, Nat.zero_le _, fun i hi => absurd hi (Nat.not_lt_zero _), g1, g2, _, Option.none, 0, rfl, rfl, Nat.le_refl _, Nat.le_refl _, fun h => by omega⟩
  · have hcs' : Value.slice a0 len0 cap0 = .slice (some a) len cap := by simpa [Value.cells] using hcs
    injection hcs' with e1 e2 e3
    subst e1; subst e2; subst e3
    obtain ⟨xs, hxl, hxs⟩ := Zrb len0 fun i hi => by
      have e := hel i hi
      rw [hce, List.getElem?_eq_getElem (by omega)] at e
      exact Zos ho e
    have hlen' : (xs.map (·.1)).length = xs.length := by simp
    have hget : ∀ i (hi : i < xs.length), (xs.map (·.1)).getD i default = (xs[i]).1 := fun i hi => by
      rw [List.getD_eq_getElem?_getD, List.getElem?_map, List.getElem?_eq_getElem hi]; rfl
    let rs : Nat → Reg := fun i => match xs[i]? with | some y => y.2 | Option.none => ⟨0, 0, 0, 0, 1, false, false, false⟩
    have hrs : ∀ i (hi : i < xs.length), rs i = (xs[i]).2 := fun i hi => by simp only [rs, List.getElem?_eq_getElem hi]
    have hspot : 0 < cap0 → a.spot = Option.none := by
      intro hc0
      have key : ∀ {fuel : Nat} {x : DataW H × List MemPlace}, (W.cells? 0 (a.add (0 * c.n)) c.n).bind (DataW.trod enc P W 0 (fun _ => true) true fuel te) = some x → a.spot = Option.none := by
        intro fuel x h
        obtain ⟨y, _, _, _, cs, h1, h2, _⟩ := Zos ho h
        have h3 := h1 0 hn
        rw [Znh, Nat.zero_mul, List.getElem?_eq_getElem (by rw [h2]; exact hn)] at h3
        exact Zn2 h3
      rcases Nat.eq_zero_or_pos len0 with h0 | h0
      · subst h0
        obtain ⟨s1, s2⟩ := hsp rfl
        have e := s2 0 (by omega)
        rw [hce, List.getElem?_eq_getElem (by omega)] at e
        exact key e
      · have e := hel 0 h0
        rw [hce, List.getElem?_eq_getElem (by omega)] at e
        exact key e
    obtain ⟨g1, g2⟩ := hg.deep hc h (xs.map (·.1)) ⟨a.block, a.off, a.off + cap0 * c.n, (xs.map (·.1)).length * c.n, c.n, false, false, true⟩ rs ⟨rfl, rfl, rfl, rfl, rfl⟩
      (fun i hi => by
        rw [hlen'] at hi
        rw [hget i hi, hrs i hi]
        exact (hxs i _ (List.getElem?_eq_getElem hi)).2.1)
      (fun i hi j v hj => by
        rw [hlen'] at hi
        rw [hget i hi] at hj
        rw [hrs i hi]
        exact (hxs i _ (List.getElem?_eq_getElem hi)).2.2.1 j v hj)
      (fun i hi j v hj => by
        rw [hlen'] at hi
        rw [hget i hi] at hj
        obtain ⟨_, _, _, cs, k1, k2, k3⟩ := hxs i _ (List.getElem?_eq_getElem hi)
        have hm : Zk1 h (xs.map (·.1)).length ⟨a.block, a.off, a.off + cap0 * c.n, (xs.map (·.1)).length * c.n, c.n, false, false, true⟩ rs (h + 1 + i) = some (xs[i]).2 := by
          unfold Zk1
          rw [if_neg (by omega), if_pos ⟨by omega, by rw [hlen']; omega⟩, show h + 1 + i - (h + 1) = i from by omega, hrs i hi]
        obtain ⟨v', q1, q2⟩ := (k3 _ _ hm).get hj
        have hjn : j < c.n := by have := (List.getElem?_eq_some_iff.1 hj).1; rwa [c.len] at this
        have h5 := k1 j hjn
        rw [q1, Znh] at h5
        exact ⟨v', Zr4 h5, q2⟩)
    refine ⟨xs.map (·.1), cap0, _, by rw [hlen']; omega, hmx, fun i hi => ?_, g1, g2, ?_⟩
    · rw [hlen'] at hi
      rw [hget i hi]; exact (hxs i _ (List.getElem?_eq_getElem hi)).1
    · rw [show (xs.map (·.1)).length = len0 from by rw [hlen', hxl]]
      refine ⟨_, some a, cap0, rfl, rfl, hl, Nat.le_refl _, fun hc0 => ⟨?_, fun _ => ?_, fun h _ _ => by cases h⟩⟩
      · have := hspot hc0
        obtain ⟨g, o, s⟩ := a
        simp only at this
        subst this
        rfl
      · show a.off + 0 + cap0 * c.n ≤ a.off + cap0 * c.n
        omega
end
section
variable {H : Type} {enc : TypeId × Value → H} {P : Program} {W : World} {α : Type} {ok : α → Prop}
theorem Z2p {t te : TypeId} (c : Cod α) (ho : Zam P te c.enc ok) (ht : P.underlying t = some (.slice te)) (hce : P.cellsOf te = c.n)
  {n off : Nat} {cs : List Value} {ys : List (DataW H × List MemPlace)} {i : Nat} {f : Go.Field} (hf : DataW.trod enc P W 0 (fun _ => true) true n f.type ((cs.drop f.offset).take (P.cellsOf f.type)) = ys[i]?) (hi : i < ys.length) (ht' : f.type = t) (hc : P.cellsOf t = 1) (hoff : f.offset = off) :
  ∃ (v : Value) (xs : List α) (cap : Nat) (r : Reg), (cs.drop off).take 1 = [v] ∧ xs.length ≤ cap ∧ cap ≤ 9223372036854775807 ∧ r.wr = false ∧ r.fix = false ∧ r.len = xs.length * c.n ∧ r.sz = c.n ∧ r.mv = true ∧ (∀ x, x ∈ xs → ok x) ∧ (∀ k v, (c.row xs)[k]? = some v → W.cell? ⟨r.g, r.lo + k, none⟩ = some v) ∧ ∀ (m : MapM) (b : Nat), m b = some r → VR m (slv b 0 xs.length cap) v := by
 subst ht'; subst hoff
 rw [List.getElem?_eq_getElem hi, hc] at hf
 exact Zxs ho ht hce hf
end
end Go.Flat
end
section
/- Rows of structs that hold slices, of any length: calls that take a part of one and leave new rows behind. -/
namespace Go.Flat
section
variable {α : Type} [Inhabited α] (c : Dcod α) {P : Program} {G : Glob} {t : TypeId} {H : List Blk} {b K : Nat}
theorem Zh8 {l : List α} {i o m : Nat} (hm : m = c.n) (hk : Zdw P t = some (true, m)) (hb : H[b]? = some (c.B K l)) (hi : i < l.length) (ho : o = i * m) : Zde P G t H (.pointer (some ⟨b, o, none⟩)) = some (mxV (c.enc (l.getD i default) (i + K))) := by
 rw [Nat.add_comm]; exact Z2k c hm hk hb hi ho
theorem Zxk {l : List α} {i k o n : Nat} {v : Value} (hn : n = c.n) (hk : Zdw P t = some (false, 1)) (hb : H[b]? = some (c.B K l)) (hi : i < l.length) (ho : o = i * n + k) (hkm : k < n) (hc : (c.enc (l.getD i default) (i + K))[k]? = some v) (h1v : Zhf v = true) : Zde P G t H (.pointer (some ⟨b, o, none⟩)) = some v :=
 Zzy c hn hk hb hi ho hkm (by rw [Nat.add_comm]; exact hc) h1v
theorem Zbw {lits : List Blk} {l : List α} {i : Nat} (hK : lits.length = K) (hi : i < l.length) : (lits ++ l.map c.blk)[i + K]? = some (c.blk (l.getD i default)) := by
 rw [Nat.add_comm]; exact Zk2 c hK hi
end
theorem Z4p {P : Program} {ts : Array TypeId} {t : TypeId} {x y : Int} : mmD P .max ts t [.int .i64 x, .int .i64 y] = some (.int .i64 (max x y)) := by
 show (if true = true then (Z0 P (Builtin.max_ ts t [Value.int .i64 x, .int .i64 y].toArray)).bind (fun v => if Za2 v = true then some v else none) else none) = _
 rw [if_pos rfl]
 have : Z0 P (Builtin.max_ ts t [Value.int .i64 x, .int .i64 y].toArray) = some (.int .i64 (max x y)) := by
  rw [show (some (Value.int .i64 (max x y)) : Option Value) = some (.int .i64 (if x < y then y else x)) by congr 2; split <;> omega]
  have e : Builtin.max_ ts t [Value.int .i64 x, .int .i64 y].toArray = pure (.int .i64 (if x < y then y else x)) := by simp [Builtin.max_, Builtin.max2]
  rw [e, Z4]
 simp [this, Za2, Zba]

theorem Zzm {b : Nat} {x : Blk} (h : okN [b] x) : Zbz (· != b) x = x := by
  unfold Zbz
  split
  · rfl
  · rename_i hp
    rcases h with h | h
    · exact absurd h hp
    · have : x.cells.map (killC (· != b)) = x.cells := by
        conv => rhs; rw [← List.map_id x.cells]
        refine List.map_congr_left fun v hv => ?_
        unfold killC
        have h1 := List.all_eq_true.1 h v hv
        rw [if_pos]; rfl
        have hq : (fun q => ![b].contains q) = (fun q : Nat => q != b) := by
          funext q
          simp only [List.contains, List.elem, bne]
          cases q == b <;> rfl
        rw [hq] at h1; exact h1
      rw [this]
theorem Zxd {b : Nat} {H : List Blk} (h : ∀ x, x ∈ H → okN [b] x) : H.map (Zbz (· != b)) = H := by
  conv => rhs; rw [← List.map_id H]
  exact List.map_congr_left fun x hx => Zzm (h x hx)
section
variable {P : Program} {G : Glob} {nt : Nat} {ops l : List Oper} {K : Trace → St → Prop} {tr : Trace} {T : Nat → Value} {H H' : List Blk} {d : Tmp} {ty : TypeId} {ps : String} {af : Array Edge} {g : Option (Nat × Bool)}
theorem Zxx {t u : TypeId} {x y : Operand} {v p q : Value} {b : Nat} {blk : Blk} {de : TypeDesc} {T' : Nat → Value} (hg : gd nt T ops g = some true) (hd : Zbb nt (some d) = true) (hu : P.underlying u = some de) (hdd : (∃ e2, de = .slice e2) ∨ de = .string) (hx : St.eval ⟨T, H⟩ x = p) (hy : St.eval ⟨T, H⟩ y = q) (h : Znt P H t p q = some (v, b, blk))
    (hn : ∀ x, x ∈ H → okN [b] x) (hT : (fun i => killV (· != b) (T i)) = T') (hH : Zeo H b blk = H') (k : R P G nt ops K l (tr ++ [(⟨some d, .call { callee := .builtin .append, args := #[x, y], argTypes := #[t, u] }, ty, ps, af, g⟩, { val := v, sets := [(b, blk)], kill := some b, foot := Zbx p ++ Zbx q })]) (upd T' d v) H') : R P G nt ops K (⟨some d, .call { callee := .builtin .append, args := #[x, y], argTypes := #[t, u] }, ty, ps, af, g⟩ :: l) tr T H :=
  Zc6 hg hd hu hdd hx hy h hT (by rw [Zxd hn]; exact hH) k
end

theorem Zp0 {H : List Blk} {e : Emb} : ∀ {ps : Emb} {Ls : List Blk}, ps.length = Ls.length → (∀ (i : Nat) (p : Option (Nat × Nat)) (L : Blk), ps[i]? = some p → Ls[i]? = some L → Zd3 H e p L) → Zhu H e ps Ls
 | [], [], _, _ => trivial
 | p :: ps, L :: Ls, hl, h => ⟨h 0 p L rfl rfl, Zp0 (by simpa using hl) fun i q M h1 h2 => h (i + 1) q M (by simpa using h1) (by simpa using h2)⟩
 | [], _ :: _, hl, _ => by simp at hl
 | _ :: _, [], hl, _ => by simp at hl
theorem Zz4 {e : Emb} {σ : List Blk} (h : ∀ x, x ∈ σ → x.wr = false) : Za8 e σ = [] := by
 unfold Za8
 rw [List.filterMap_eq_nil_iff]
 rintro ⟨p, L⟩ hp
 have := h L (List.of_mem_zip hp).2
 simp [this]
theorem Z11 {e : Emb} {σ : List Blk} (h : ∀ x, x ∈ σ → x.wr = false) : Zil e σ = true := by
 unfold Zil
 rw [List.all_eq_true]
 rintro ⟨⟨p, L⟩, i⟩ hp
 have h1 : (p, L) ∈ e.zip σ := by
  obtain ⟨k, hk⟩ := List.getElem?_of_mem hp
  simp only [List.getElem?_zipIdx, Option.map_eq_some_iff] at hk
  obtain ⟨q, hq, hqe⟩ := hk
  injection hqe with h2 h3
  subst h2
  exact List.mem_of_getElem? hq
 have := h L (List.of_mem_zip h1).2
 simp [this]
theorem Z20 {H : List Blk} {e : Emb} {σ N : List Blk} {nid : Nat} (h : ∀ x, x ∈ σ → x.wr = false) (hN : N.all (fun x => x.pur && x.wr) = true) : Zb5 H e σ (σ ++ N) nid = N.zipIdx.map fun p => (nid + p.2, p.1) := by
  unfold Zb5
  refine (congrArg (· ++ _) (List.filterMap_eq_nil_iff.2 ?_)).trans ?_
  · rintro ⟨p, L, L'⟩ hp
    have := h L (List.of_mem_zip (List.of_mem_zip hp).2).1
    cases p with
    | none => rfl
    | some p => simp [this]
  rw [List.nil_append, List.drop_left]
  refine List.map_congr_left fun p hp => ?_
  obtain ⟨L, k⟩ := p
  have hL : L ∈ N := by
    obtain ⟨j, hj⟩ := List.getElem?_of_mem hp
    simp only [List.getElem?_zipIdx, Option.map_eq_some_iff] at hj
    obtain ⟨q, hq, hqe⟩ := hj
    injection hqe with h2 h3
    subst h2
    exact List.mem_of_getElem? hq
  have hp' := List.all_eq_true.1 hN L hL
  rw [Bool.and_eq_true] at hp'
  obtain ⟨c1, c2, c3, c4, c5, c6⟩ := L
  have h6 : c6 = true := hp'.1
  subst h6
  rfl
section
variable {α : Type} [Inhabited α] {c : Dcod α}
theorem Dcod.S0_len (l : List α) : (c.S 0 l).length = 1 + l.length := by have _ := (inferInstance : Inhabited α); simp [Dcod.S]; omega
variable {P : Program} {G : Glob} {nt : Nat} {ops l : List Oper} {K : Trace → St → Prop} {tr : Trace} {T : Nat → Value} {H H' : List Blk} {d : Tmp} {ty : TypeId} {ps : String} {af : Array Edge} {g : Option (Nat × Bool)}
theorem Znq {b0 kk a q nid : Nat} {f : Operand} {args : Array Operand} {ts : Array TypeId} {k : FuncId} {first captured : Array Value} {argsL vals : List Value} {N : List Blk} {res v : Value} {L ll : List α} (hC : Z6 P G k argsL (c.S 0 ll) res (c.S 0 ll ++ N)) (hg : gd nt T ops g = some true) (hd : Zbb nt (some d) = true) (hf : St.eval ⟨T, H⟩ f = .func (.func k) first captured) (hcap : (first.toList.all Zdy && captured.toList.all Zdy) = true) (hk : Zd6 P k = true)
  (ha : first.toList ++ args.toList.map (St.eval ⟨T, H⟩) ++ captured.toList = vals) (hc : c.OK) (hl : ll = (L.drop a).take q) (hq : a + q ≤ L.length) (hB : H[b0]? = some (c.B kk L)) (hD : ∀ i, i < L.length → H[kk + i]? = some (c.blk (L.getD i default)))
  (haa : Zix (c.E b0 kk a 0 q) argsL vals) (hN : N.all (fun x => x.pur && x.wr) = true) (hh : ((List.range N.length).all fun k => match H[nid + k]? with | some x => x.sz == 0 | none => false) = true)
  (hv : Zmq (Zei (c.E b0 kk a 0 q) nid N.length) res = v) (hH : Zd0 H (N.zipIdx.map fun p => (nid + p.2, p.1)) = H')
  (k' : R P G nt ops K l (tr ++ [(⟨some d, .call { callee := .value f, args := args, argTypes := ts }, ty, ps, af, g⟩, { val := v, sets := N.zipIdx.map fun p => (nid + p.2, p.1), foot := Zso (c.E b0 kk a 0 q) ++ (List.range N.length).map (nid + ·) })]) (upd T d v) H') : R P G nt ops K (⟨some d, .call { callee := .value f, args := args, argTypes := ts }, ty, ps, af, g⟩ :: l) tr T H := by
 have hro := Dcod.S_ro hc 0 ll
 have hR : RoOK H (c.E b0 kk a 0 q) [] [] (c.S 0 ll) := Dcod.roOK hc hl hq hB hD trivial rfl
 have hlen : (c.S 0 ll ++ N).length - (c.S 0 ll).length = N.length := by rw [List.length_append]; omega
 have hset := Z20 (H := H) (e := c.E b0 kk a 0 q) (nid := nid) hro hN
 have hz : ∀ x, x ∈ c.S 0 ll → x.sz ≠ 0 := by
  intro x hx
  unfold Dcod.S at hx
  simp only [List.mem_cons, List.replicate_zero, List.nil_append, List.mem_map] at hx
  rcases hx with rfl | ⟨y, _, rfl⟩
  ·have := c.pos; show c.n ≠ 0; omega
  ·have := hc.bz y; omega
 refine Z5 (e := c.E b0 kk a 0 q) (nid := nid) (v := v) (H' := H') hC hg hd hf hcap hk (by rw [Zz4 hro]; rfl) ha ⟨haa, Zp0 hR.len fun i p L' h1 h2 => ?_, Z11 hro, ?_, ?_⟩ (by rw [hlen]; exact hv) (by rw [hset]; exact hH) ?_
 ·have := hR.one i p L' h1 h2
  rwa [Zer (hz L' (List.mem_of_getElem? h2))] at this
 ·unfold Zf7
  rw [List.all_eq_true]
  intro x hx
  rcases hR.nm x hx with h1 | h1
  ·rw [h1]; rfl
  ·rw [Bool.or_eq_true, List.all_eq_true]; exact .inr fun v hv => (h1 v hv).1
 ·unfold Zgr
  rw [hlen]
  simp only [Bool.and_eq_true]
  refine ⟨⟨⟨by simp, ?_⟩, ?_⟩, hh⟩
  ·rw [List.all_eq_true]
   rintro ⟨x, y⟩ hp
   obtain ⟨j, hj⟩ := List.getElem?_of_mem hp
   rw [List.getElem?_zip_eq_some] at hj
   obtain ⟨h1, h2⟩ := hj
   dsimp only at h1 h2
   rw [List.getElem?_append_left (List.getElem?_eq_some_iff.1 h1).1, h1] at h2
   injection h2 with h2; subst h2
   simp
  ·rw [List.drop_left, List.all_eq_true]
   intro x hx
   have := List.all_eq_true.1 hN x hx
   rw [Bool.and_eq_true] at this
   exact this.2
 ·rw [show Zr3 H (c.E b0 kk a 0 q) (c.S 0 ll) v (c.S 0 ll ++ N) nid = { val := v, sets := N.zipIdx.map fun p => (nid + p.2, p.1), foot := Zso (c.E b0 kk a 0 q) ++ (List.range N.length).map (nid + ·) } from by unfold Zr3; rw [hset, hlen]]
  exact k'
end

section
variable {α : Type} [Inhabited α] {c : Dcod α} {P : Program} {G : Glob}
def Dcod.F (n h : Nat) (ks : List Nat) : Emb := some (0, 0) :: ((List.range n).map (fun i => some (i + (h + 1), 0)) ++ ks.map fun k => some (k, 0))
theorem Dcod.F_at {n h i : Nat} {ks : List Nat} (hi : i < n) : (Dcod.F n h ks)[i + 1]? = some (some (i + (h + 1), 0)) := by
 unfold Dcod.F
 rw [List.getElem?_cons_succ, List.getElem?_append_left (by simpa using hi), List.getElem?_map, List.getElem?_range hi]; rfl
theorem Dcod.F_new {n h j k : Nat} {ks : List Nat} (hj : ks[j]? = some k) : (Dcod.F n h ks)[n + 1 + j]? = some (some (k, 0)) := by
 unfold Dcod.F
 rw [show n + 1 + j = (n + j) + 1 from by omega, List.getElem?_cons_succ, List.getElem?_append_right (by simp), List.length_map, List.length_range, show n + j - n = j from by omega, List.getElem?_map, hj]; rfl
theorem Z3z {n h i o k m : Nat} {ks : List Nat} (hi : i < n) (hm : k ≤ m) : Zpf (Dcod.F n h ks) (slv (i + 1) o k m) (slv (i + (h + 1)) o k m) := by
 unfold Zpf slv
 simp only [Dcod.F_at hi]
 exact ⟨trivial, by omega, trivial, Nat.le_refl _, hm⟩
theorem Zkt {n h j q o k m : Nat} {ks : List Nat} (hj : ks[j]? = some q) (hm : k ≤ m) : Zpf (Dcod.F n h ks) (slv (n + 1 + j) o k m) (slv q o k m) := by
 unfold Zpf slv
 simp only [Dcod.F_new hj]
 exact ⟨trivial, by omega, trivial, Nat.le_refl _, hm⟩
theorem Dcod.ext_at {b0 K q i nid m : Nat} {c : Dcod α} (hi : i < q) : (Zei (c.E b0 K 0 0 q) nid m)[i + 1]? = some (some (i + K, 0)) := by
 have h := Dcod.E_at (c := c) (b0 := b0) (K := K) (a := 0) (h := 0) hi
 rw [show 0 + 1 + i = i + 1 from by omega] at h
 unfold Zei
 rw [List.getElem?_append_left (List.getElem?_eq_some_iff.1 h).1, h, show K + 0 + i = i + K from by omega]
theorem Dcod.ext_new {b0 K q j nid m n : Nat} {c : Dcod α} (hn : n = q) (hj : j < m) : (Zei (c.E b0 K 0 0 q) nid m)[n + 1 + j]? = some (some (nid + j, 0)) := by
 have _ := (inferInstance : Inhabited α)
 subst hn
 have hl : (c.E b0 K 0 0 n).length = n + 1 := by simp [Dcod.E]
 unfold Zei
 rw [List.getElem?_append_right (by omega), hl, show n + 1 + j - (n + 1) = j from by omega, List.getElem?_map, List.getElem?_range hj]; rfl
theorem Z0l {e : Emb} {l m : List Value} (hp : Za2 (mxV l) = false) (h : l.map (Ze6 e) = m) : Zg6 e (mxV l) = mxV m := by
 subst h
 unfold Zg6
 rw [if_neg (by rw [hp]; decide)]
 unfold mxV Z2u
 simp
theorem Z2v {e : Emb} {l m : List Value} (hp : Za2 (mxV l) = false) (h : l.map (Ze6 e) = m) : Zmq e (mxV l) = mxV m := (Z0l hp h : Zg6 e (mxV l) = mxV m)
theorem Z0m {e : Emb} {v : Value} (hp : Za2 v = true) : Zg6 e v = v := by unfold Zg6; rw [if_pos hp]
theorem Z0n {e : Emb} {x y z x' y' z' : Value} (h1 : Zg6 e x = x') (h2 : Zg6 e y = y') (h3 : Zg6 e z = z') : Zmq e (.tuple #[x, y, z]) = .tuple #[x', y', z'] := by
 subst h1; subst h2; subst h3; simp [Zmq]
theorem Zj3 {G : Glob} {m : MapM} {σ : List Blk} {w : World} (h : HRel G m σ w) {b : Nat} {x y : Blk} {r : Reg} (hb : σ[b]? = some x) (hr : m b = some r) (hw : y.wr = x.wr) (hf : y.fix = x.fix) (hm : y.mv = x.mv) (hs : y.sz = x.sz) (hl : y.cells.length = x.cells.length) : Zbn r 0 y = r := by
 obtain ⟨_, g1, g2, g3, g4, g5⟩ := h.at_ hb hr
 unfold Zbn
 obtain ⟨rg, rlo, rhi, rlen, rsz, rwr, rfix, rmv⟩ := r
 simp only at g1 g2 g3 g4 g5
 split
 ·rw [hm, g5]
 ·rename_i hw'
  simp only [hl, hs, hf, hm, g2, g3, g4, g5, Nat.add_zero]
  congr 1
  rw [g1]
  cases hB : x.wr with
  | false => rfl
  | true => rw [hw, hB] at hw'; exact absurd rfl hw'
structure DeepEnd (c : Dcod α) (h : Nat) (l : List α) (N : List Blk) (res : Value) (s : St) (v : Value) : Prop where
  row : s.heap[0]? = some (c.B (h + 1) l)
  blk : ∀ i, i < l.length → s.heap[i + (h + 1)]? = some (c.blk (l.getD i default))
  new : ∃ ks : List Nat, ks.map (fun k => s.heap[k]?) = N.map some ∧ ks.Nodup ∧ ks.all (fun k => decide (0 < k) && decide (k ≤ h)) = true ∧ Zku (Dcod.F l.length h ks) res v
theorem Z6.deep {f : FuncId} {fn : Func} {cd : Code} {nt : Nat} {args : List Value} {l : List α} {res : Value} {N : List Blk} (h : Nat) (hf : P.funcs[f]? = some fn) (hb : fn.body = some cd) (hnt : fn.ntmps = nt) (hl : decide (args.length ≤ nt) = true) (hc : c.OK) (haa : Zix (c.E 0 1 0 h l.length) args args) (hna : args.all (Zdx (Zen (c.S h l))) = true)
    (hN : N.all (fun x => x.pur && x.wr && decide (0 < x.sz) && (!x.fix || !x.mv)) = true)
    (hw : C P G nt (c.S h l).length cd (Zwe P G fn fun s v => DeepEnd c h l N res s v) ⟨Zih args, c.S h l⟩) : Z6 P G f args (c.S 0 l) res (c.S 0 l ++ N) := by
  intro m w args' hH hA
  have hS : (c.S 0 l).length = 1 + l.length := Dcod.S0_len l
  have hgetS : ∀ i, i < l.length → (c.S 0 l)[i + 1]? = some (c.blk (l.getD i default)) := fun i hi => by
    have := Dcod.S_at (c := c) (h := 0) hi
    rwa [show 0 + 1 + i = i + 1 from by omega] at this
  have hok : RoOK (c.S 0 l) (c.E 0 1 0 h l.length) args args (c.S h l) := Dcod.roOK hc (L := l) (a := 0) (by simp) (by omega) rfl (fun i hi => by rw [Nat.add_comm]; exact hgetS i hi) haa hna
  have hE : EmbOK (c.S 0 l) (c.E 0 1 0 h l.length) ((c.S h l).map Zj6) := by
    refine ⟨by simp [hok.len], fun i p L h1 h2 => ?_, fun i j id sh sh' L _ h1 h2 h3 => ?_⟩
    · simp only [List.getElem?_map, Option.map_eq_some_iff] at h2
      obtain ⟨y, hy, rfl⟩ := h2
      exact Zhv (hok.one i p y h1 hy)
    · simp only [List.getElem?_map, Option.map_eq_some_iff] at h2
      obtain ⟨y, hy, rfl⟩ := h2
      rw [Z13 (hok.ro y (List.mem_of_getElem? hy))] at h3; cases h3
  have hnm : ∀ (i : Nat) (L : Blk), ((c.S h l).map Zj6)[i]? = some L → L.pur = true ∨ ∀ v, v ∈ L.cells → Zan (inE (c.E 0 1 0 h l.length)) v = true := by
    intro i L hL
    simp only [List.getElem?_map, Option.map_eq_some_iff] at hL
    obtain ⟨y, hy, rfl⟩ := hL
    have hy' := List.mem_of_getElem? hy
    by_cases hz : y.sz = 0
    · right; intro v hv; unfold Zj6 at hv; rw [if_pos hz] at hv; cases hv
    · rw [Zer hz]
      rcases hok.nm y hy' with h | h
      · exact .inl h
      · exact .inr fun v hv => (h v hv).1
  have hargs := Zni hH hE _ _ _ hok.args hA
  have hemb := (hH.embed hE hnm).undum hok.ro (fun x hx => (hok.nm x hx).imp_right fun h v hv => (h v hv).2) hok.h0
  have hargs2 : L2 (VR (fun b => if Zen (c.S h l) b then mE m (c.E 0 1 0 h l.length) ((c.S h l).map Zj6) b else none)) args args' :=
    hargs.all_mem hok.na fun x y hx hxy => hxy.congr (fun b r h1 h2 => by rw [if_pos h1]; exact h2) hx
  refine Z3g hf hb hnt (by simpa using hl) hemb hargs2 _ hw ?_
  rintro s v m' w' v' ⟨hrow, hblk, ks, hks, hnd, hkr, hres⟩ h' hv hF
  have hkl : ks.length = N.length := by have := congrArg List.length hks; simpa using this
  have hkat : ∀ (j k : Nat) (x : Blk), ks[j]? = some k → N[j]? = some x → s.heap[k]? = some x := by
    intro j k x h1 h2
    have := congrArg (fun q : List (Option Blk) => q[j]?) hks
    simp only [List.getElem?_map, h1, h2, Option.map_some] at this
    injection this
  have hkh : ∀ (j k : Nat), ks[j]? = some k → 0 < k ∧ k ≤ h := fun j k h1 => by
    have := List.all_eq_true.1 hkr k (List.mem_of_getElem? h1)
    simpa using this
  have hF0 : (Dcod.F l.length h ks)[0]? = some (some (0, 0)) := rfl
  -- the blocks of what is told
  have hcase : ∀ (i : Nat) (x : Blk), (c.S 0 l ++ N)[i]? = some x → (i = 0 ∧ x = c.B 1 l) ∨ (∃ j, j < l.length ∧ i = j + 1 ∧ x = c.blk (l.getD j default)) ∨ ∃ j k, i = l.length + 1 + j ∧ N[j]? = some x ∧ ks[j]? = some k := by
    intro i x hx
    rcases Nat.lt_or_ge i (c.S 0 l).length with hi | hi
    · rw [List.getElem?_append_left hi] at hx
      cases i with
      | zero => injection hx with hx; exact .inl ⟨rfl, hx.symm⟩
      | succ j =>
        have hj : j < l.length := by omega
        rw [hgetS j hj] at hx; injection hx with hx
        exact .inr (.inl ⟨j, hj, rfl, hx.symm⟩)
    · rw [List.getElem?_append_right hi] at hx
      have hj := (List.getElem?_eq_some_iff.1 hx).1
      refine .inr (.inr ⟨i - (c.S 0 l).length, ks[i - (c.S 0 l).length]'(by rw [hkl]; exact hj), by omega, hx, ?_⟩)
      exact List.getElem?_eq_getElem _
  have hB2 : ∀ (j : Nat) (x : Blk), N[j]? = some x → x.pur = true ∧ x.wr = true ∧ 0 < x.sz ∧ (x.fix = true → x.mv = false) := by
    intro j x hx
    have := List.all_eq_true.1 hN x (List.mem_of_getElem? hx)
    simp only [Bool.and_eq_true, decide_eq_true_eq, Bool.or_eq_true, Bool.not_eq_true'] at this
    exact ⟨this.1.1.1, this.1.1.2, this.1.2, fun h => by rcases this.2 with q | q; rw [h] at q; cases q; exact q⟩
  have hrren : (c.row 1 l).map (Ze6 (Dcod.F l.length h ks)) = c.row (h + 1) l := Dcod.row_ren hc l 1 (h + 1) fun i hi => by
    rw [show 1 + i = i + 1 from by omega, show h + 1 + i = i + (h + 1) from by omega]; exact Dcod.F_at hi
  have hone : ∀ (i : Nat) (p : Option (Nat × Nat)) (x : Blk), (Dcod.F l.length h ks)[i]? = some p → (c.S 0 l ++ N)[i]? = some x → Zn9 s.heap (Dcod.F l.length h ks) p x := by
    intro i p x h1 h2
    refine Zhv ?_
    rcases hcase i x h2 with ⟨rfl, rfl⟩ | ⟨j, hj, rfl, rfl⟩ | ⟨j, k, rfl, hx, hk⟩
    · rw [hF0] at h1; injection h1 with h1; subst h1
      refine Zco hrow (by have := c.pos; simp [Dcod.B, this]) ?_ ?_
      · show 0 + (c.row 1 l).length ≤ (c.row (h + 1) l).length
        rw [c.row_len, c.row_len]; omega
      · show ((c.row (h + 1) l).drop 0).take (c.row 1 l).length = (c.row 1 l).map _
        rw [hrren, List.drop_zero, List.take_of_length_le (by rw [c.row_len, c.row_len]; exact Nat.le_refl _)]
    · rw [Dcod.F_at hj] at h1; injection h1 with h1; subst h1
      refine Zco (hblk j hj) ?_ (by rw [Nat.zero_add]; exact Nat.le_refl _) ?_
      · have hz := hc.bz (l.getD j default); have h1 := hc.bw (l.getD j default); have h2 := hc.bp (l.getD j default); have h3 := hc.bf (l.getD j default)
        generalize c.blk (l.getD j default) = Y at hz h1 h2 h3 ⊢
        simp [hz, h1, h2]; simpa using h3
      · unfold Zci; rw [if_pos (hc.bp _)]; simp
    · rw [Dcod.F_new hk] at h1; injection h1 with h1; subst h1
      obtain ⟨g1, g2, g3, g4⟩ := hB2 j x hx
      refine Zad (hkat j k x hk hx) ?_ rfl ?_
      · simp only [g3, g2, decide_true, beq_self_eq_true, Bool.true_and, Bool.and_eq_true, Bool.or_eq_true, Bool.not_eq_true']
        refine ⟨by cases x.mv <;> simp, ?_⟩
        cases hq : x.fix with
        | false => exact .inl rfl
        | true => exact .inr (g4 hq)
      · unfold Zci; rw [if_pos g1]
  have hE' : EmbOK s.heap (Dcod.F l.length h ks) (c.S 0 l ++ N) := by
    refine ⟨by simp [Dcod.F, Dcod.S, hkl] <;> omega, hone, fun i j id sh sh' x hij h1 h2 h3 h4 => ?_⟩
    rcases hcase i x h2 with ⟨rfl, rfl⟩ | ⟨i', hi', rfl, rfl⟩ | ⟨i', k, rfl, hx, hk⟩
    · cases h3
    · rw [hc.bw] at h3; cases h3
    · rw [Dcod.F_new hk] at h1
      injection h1 with h1; injection h1 with h1; injection h1 with h1 _
      subst h1
      obtain ⟨k0, k1⟩ := hkh i' k hk
      rcases Nat.lt_or_ge j (l.length + 1) with hj | hj
      · cases j with
        | zero => rw [hF0] at h4; injection h4 with h4; injection h4 with h4; injection h4 with h4 _; omega
        | succ j =>
          rw [Dcod.F_at (by omega)] at h4
          injection h4 with h4; injection h4 with h4; injection h4 with h4 _; omega
      · obtain ⟨j, rfl⟩ : ∃ j', j = l.length + 1 + j' := ⟨j - (l.length + 1), by omega⟩
        cases hkj : ks[j]? with
        | none =>
          have : (Dcod.F l.length h ks)[l.length + 1 + j]? = none := by
            rw [List.getElem?_eq_none_iff] at hkj ⊢
            simp [Dcod.F]; omega
          rw [this] at h4; cases h4
        | some k2 =>
          rw [Dcod.F_new hkj] at h4
          injection h4 with h4; injection h4 with h4; injection h4 with h4 _
          subst h4
          have h5 := (List.getElem?_eq_some_iff.1 hk); have h6 := (List.getElem?_eq_some_iff.1 hkj)
          have hp := List.pairwise_iff_getElem.1 hnd
          rcases Nat.lt_trichotomy i' j with hlt | hlt | hlt
          · exact hp i' j h5.1 h6.1 hlt (by rw [h5.2, h6.2])
          · omega
          · exact hp j i' h6.1 h5.1 hlt (by rw [h5.2, h6.2])
  have hnm' : ∀ (i : Nat) (L : Blk), (c.S 0 l ++ N)[i]? = some L → L.pur = true ∨ ∀ v, v ∈ L.cells → Zan (inE (Dcod.F l.length h ks)) v = true := by
    intro i x hx
    rcases hcase i x hx with ⟨rfl, rfl⟩ | ⟨j, hj, rfl, rfl⟩ | ⟨j, k, rfl, hx, hk⟩
    · right
      refine List.all_eq_true.1 (Dcod.row_names c (fun x b hb => hc.nam _ x b hb) l 1 fun i hi => ?_)
      unfold inE
      rw [show 1 + i = i + 1 from by omega, Dcod.F_at hi]
    · exact .inl (hc.bp _)
    · exact .inl (hB2 j x hx).1
  have hxt : Ext w w' := hF.ext fun b r hbr => by
    obtain ⟨x, h1, _, h3, _⟩ := hemb.reg b r hbr
    rw [h3]; exact hok.ro x (List.mem_of_getElem? h1)
  have hro0 : ∀ b r, m b = some r → r.wr = false := fun b r hr => by
    obtain ⟨x, h1, _, h3, _⟩ := hH.reg b r hr
    rw [h3]; exact Dcod.S_ro hc 0 l x (List.mem_of_getElem? h1)
  have hfr : Frame ⟨m, w, []⟩ m w' := (Frame.refl [] hH).thenExt hxt
  refine ⟨v', mE m' (Dcod.F l.length h ks) (c.S 0 l ++ N), rfl, h'.embed hE' hnm', ?_, ⟨hfr.os, hfr.tape, hfr.output, hfr.size, hfr.block, ?_, ?_⟩⟩
  · unfold Zku at hres
    split at hres
    · split at hres
      · obtain ⟨ys', rfl, h2⟩ := hv
        exact ⟨ys', rfl, Znv h' hE' _ _ _ hres h2⟩
      · cases hres
    · exact Znu h' hE' hres hv
  · intro b r hr hw hlt
    rcases Zd8 hE' hr with ⟨id, sh, L, r0, B, h1, h2, h3, rfl, hB, _⟩ | ⟨L, h1, h2, rfl, hw', _⟩
    · unfold Zbn at hw hlt ⊢
      by_cases hL : L.wr = true
      · rw [if_pos hL] at hw hlt ⊢
        rcases hF.reg id r0 h3 hw hlt with h4 | h4
        · exact .inl h4
        · exfalso
          obtain ⟨b', r', g1, g2, _⟩ := h4 r0.lo (Nat.le_refl _) hlt
          obtain ⟨x, q1, _, q3, _⟩ := hemb.reg b' r' g1
          rw [q3, hok.ro x (List.mem_of_getElem? q1)] at g2; cases g2
      · rw [if_neg hL] at hw; cases hw
    · simp only [Zdu] at hw; rw [hw'] at hw; cases hw
  · intro b r hr hk
    replace hr : m b = some r := hr
    obtain ⟨x, hx, _⟩ := hH.reg b r hr
    have hlive0 : Zen (c.S h l) 0 = true := by
      unfold Zen
      have := c.pos
      show (c.n != 0) = true
      exact bne_iff_ne.2 (by omega)
    cases b with
    | zero =>
      injection hx with hx; subst hx
      have h1 : (fun b => if Zen (c.S h l) b then mE m (c.E 0 1 0 h l.length) ((c.S h l).map Zj6) b else none) 0 = some r := by
        show (if Zen (c.S h l) 0 then mE m (c.E 0 1 0 h l.length) ((c.S h l).map Zj6) 0 else none) = some r
        rw [if_pos hlive0, Zff (id := 0) (sh := 0) (L := c.B (h + 1) l) (by show some (some (0, 0 * c.n)) = _; rw [Nat.zero_mul]) (by show some (Zj6 (c.B (h + 1) l)) = _; rw [Zer (by have := c.pos; show c.n ≠ 0; omega)]), hr]
        show some (Zbn r 0 (c.B (h + 1) l)) = some r
        rw [Zj3 hH (x := c.B 1 l) (y := c.B (h + 1) l) rfl hr rfl rfl rfl rfl (by show (c.row _ l).length = (c.row _ l).length; rw [c.row_len, c.row_len])]
      have h2 := hF.keep 0 r h1 (.inl (hro0 0 r hr))
      rw [Zff (id := 0) (sh := 0) (L := c.B 1 l) rfl rfl, h2]
      show some (Zbn r 0 (c.B 1 l)) = some r
      rw [Zj3 hH (x := c.B 1 l) rfl hr rfl rfl rfl rfl rfl]
    | succ j =>
      have hj : j < l.length := by have := (List.getElem?_eq_some_iff.1 hx).1; omega
      have hxx := hgetS j hj
      rw [hxx] at hx; injection hx with hx; subst hx
      have hat : (c.S h l)[h + 1 + j]? = some (c.blk (l.getD j default)) := Dcod.S_at hj
      have hlv : Zen (c.S h l) (h + 1 + j) = true := by
        unfold Zen; rw [hat]
        have := hc.bz (l.getD j default)
        exact bne_iff_ne.2 (by omega)
      have h1 : (fun b => if Zen (c.S h l) b then mE m (c.E 0 1 0 h l.length) ((c.S h l).map Zj6) b else none) (h + 1 + j) = some r := by
        show (if Zen (c.S h l) (h + 1 + j) then mE m (c.E 0 1 0 h l.length) ((c.S h l).map Zj6) (h + 1 + j) else none) = some r
        rw [if_pos hlv, Zff (id := 1 + 0 + j) (sh := 0) (L := c.blk (l.getD j default)) (Dcod.E_at hj) (by rw [List.getElem?_map, hat]; show some (Zj6 _) = _; rw [Zer (by have := hc.bz (l.getD j default); omega)]), show 1 + 0 + j = j + 1 from by omega, hr]
        show some (Zbn r 0 (c.blk (l.getD j default))) = some r
        rw [Zj3 hH hxx hr rfl rfl rfl rfl rfl]
      have h2 := hF.keep (h + 1 + j) r h1 (.inl (hro0 _ r hr))
      rw [Zff (id := j + (h + 1)) (sh := 0) (L := c.blk (l.getD j default)) (Dcod.F_at hj) (by rw [List.getElem?_append_left (by omega)]; exact hxx), show j + (h + 1) = h + 1 + j from by omega, h2]
      show some (Zbn r 0 (c.blk (l.getD j default))) = some r
      rw [Zj3 hH hxx hr rfl rfl rfl rfl rfl]
end
end Go.Flat
end
section
/- An own row whose capacity becomes known in the middle of code, and is forgotten again. -/
namespace Go.Flat
section
variable {P : Program} {G : Glob} {nt n0 : Nat} {Q : Exit → St → Prop} {x : Code}
theorem Zz8 {b : Nat} {m : MapM} {r2 : Reg} {y : Blk} (hn : okN [b] y) (hp : y.pur = true → ∀ v, v ∈ y.cells → Zba v = true) {v v' : Value} (hv : v ∈ y.cells) (h : CR m v v') : CR (Ze3 m b r2) v v' := by
 rcases hn with hq | hq
 ·have := hp hq v hv
  rw [h.pure this]; exact CR.of_pure this
 ·refine h.congr (p := fun q => ![b].contains q) (fun q r h1 h2 => ?_) (List.all_eq_true.1 hq v hv)
  rw [Zcm _ _ (by intro e; subst e; simp at h1)]; exact h2
theorem Zsr {b : Nat} {m : MapM} {r2 : Reg} {T : Nat → Value} {l : List Value} {a : Act} {nt : Nat} (ht : Zoi [b] T 0 l) (hr : ∀ i, VR m (T i) (a.tmps.getD i undef)) (j : Nat) : VR (Ze3 m b r2) (Tl l j) (a.tmps.getD j undef) := by
 show VR _ ((l[j]?).getD dead) _
 cases hl : l[j]? with
 | none => exact VR.dead
 | some v =>
  have := Zjx ht j v hl
  rw [Nat.zero_add] at this
  rcases this with h1 | ⟨h1, h2⟩
  ·rw [h1]; exact VR.dead
  ·rw [h1]
   refine (hr j).congr (p := fun q => ![b].contains q) (fun q r h3 h4 => ?_) h2
   rw [Zcm _ _ (by intro e; subst e; simp at h3)]; exact h4
theorem Zp2 {E : Ent} {m : MapM} {w : World} {b : Nat} {r r2 : Reg} (hF : Frame E m w) (hr : m b = some r) (hw : r.wr = true) (hm : r.mv = true) (hg : r2.g = r.g) (hl : r2.lo = r.lo) (hh : r2.hi = r.hi) : Frame E (Ze3 m b r2) w := by
  refine ⟨hF.os, hF.tape, hF.output, hF.size, hF.block, ?_, ?_⟩
  · intro q s hs hsw hlt
    by_cases hq : q = b
    · subst hq; rw [Zbv] at hs; injection hs with hs; subst hs
      have := hF.reg q r hr hw (by omega)
      rw [hg, hl, hh]; exact this
    · rw [Zcm _ _ hq] at hs; exact hF.reg q s hs hsw hlt
  · intro q s hs hk
    have h1 := hF.keep q s hs hk
    by_cases hq : q = b
    · subst hq; rw [hr] at h1; injection h1 with h1; subst h1
      rw [hw, hm] at hk; rcases hk with hk | hk <;> cases hk
    · rw [Zcm _ _ hq]; exact h1
theorem HRel.recell {m : MapM} {σ : List Blk} {w : World} (h : HRel G m σ w) {b : Nat} {y z : Blk} {r r2 : Reg} (hb : σ[b]? = some y) (hr : m b = some r) (hw : y.wr = true) (hn : ∀ x, x ∈ σ → okN [b] x) (hf : 0 < z.sz ∧ r2.wr = z.wr ∧ r2.fix = z.fix ∧ r2.len = z.cells.length ∧ r2.sz = z.sz ∧ r2.mv = z.mv) (hz : z.wr = true ∧ z.sz = y.sz ∧ z.pur = false) (hg : r2.g = r.g) (hl : r2.lo = r.lo) (hh : r2.hi = r.hi) (hlen : r.lo + z.cells.length ≤ r.hi)
  (hc : ∀ (i : Nat) (v : Value), z.cells[i]? = some v → v = dead ∨ y.cells[i]? = some v) : HRel G (Ze3 m b r2) (σ.set b z) w := by
 obtain ⟨a1, a2, a3, a4, a5, a6⟩ := h.at_ hb hr
 have hrw : r.wr = true := by rw [a2]; exact hw
 obtain ⟨o1, o2⟩ := h.own b r hr hrw
 have hr2w : r2.wr = true := by rw [hf.2.1]; exact hz.1
 refine h.replace hb r2 z hf (Nat.le_refl _) (fun _ _ _ _ _ _ _ => ⟨rfl, rfl⟩) (fun _ _ _ _ h => h) ?_ (fun hq => by rw [hz.2.2] at hq; cases hq) (fun _ => ?_) (fun i s hi hs _ hgg j j1 j2 j3 j4 => ?_) (fun _ j j1 j2 => ?_) (fun i s v v' hi hx hv hcr => Zz8 (hn s (List.mem_of_getElem? hx)) (h.pur i s hx) hv hcr) (fun _ c _ _ h => ⟨c, h⟩) (fun _ hs hlt => ?_)
 ·intro i v hv
  have hi : i < z.cells.length := (List.getElem?_eq_some_iff.1 hv).1
  rw [hg, hl]
  rcases hc i v hv with rfl | h1
  ·obtain ⟨v', g1, _⟩ := o2 (r.lo + i) (by omega) (by omega)
   exact ⟨v', g1, trivial⟩
  ·obtain ⟨v', g1, g2⟩ := h.cell b y r i v hb hr h1
   exact ⟨v', g1, Zz8 (hn y (List.mem_of_getElem? hb)) (h.pur b y hb) (List.mem_of_getElem? h1) g2⟩
 ·rw [hf.2.2.2.1, hl, hh, hg]; exact ⟨hlen, o2⟩
 ·rw [hg] at hgg; rw [hl] at j1
  refine h.dis b i r s (fun e => hi e.symm) hr hs hrw hgg j j1 ?_ j3 j4
  simpa [Reg.ext, hr2w, hh] using j2
 ·rw [hg]; rw [hl] at j1; rw [hh] at j2; exact h.gwr b r j hr hrw j1 j2
 ·rw [hg]; rw [hl, hh] at hlt; exact h.clean b r hr hrw (by rw [a5, ← hz.2.1, ← hf.2.2.2.2.1]; exact hs) hlt
theorem Z1n {T : Nat → Value} {H : List Blk} {l : List Value} {b i n cc sz : Nat} {cells : List Value} (hb : H[b]? = some (mxW sz cells)) (hlen : cells.length = n * sz) (hi : T i = slv b 0 n cc) (hn : ∀ x, x ∈ H → okN [b] x) (ht : Zoi [b] T 0 l)
    (h : ∀ k, C P G nt n0 x Q ⟨upd (Tl l) i (slv b 0 n (k + n)), H.set b (exB sz (cells ++ List.replicate (k * sz) dead))⟩) : C P G nt n0 x Q ⟨T, H⟩ := by
  refine ⟨fun E m a w h0 hr => ?_⟩
  have hv : VR m (T i) (a.tmps.getD i undef) := hr.tmps i
  rw [hi] at hv
  obtain ⟨r, a', c', h1, h2, h3⟩ : ∃ r a' c', m b = some r ∧ a.tmps.getD i undef = .slice a' n c' ∧ Zhd r 0 n cc a' c' := hv
  obtain ⟨a1, a2, a3, a4, a5, a6⟩ := hr.heap.at_ hb h1
  have hw : r.wr = true := a2
  have hm : r.mv = true := a6
  have hle : n ≤ c' := Nat.le_trans h3.1 h3.2.1
  obtain ⟨o1, o2⟩ := hr.heap.own b r h1 hw
  have a1' : 0 < sz := a1
  have a5' : r.sz = sz := a5
  have hbig : r.lo + (cells ++ List.replicate ((c' - n) * sz) dead).length ≤ r.hi := by
    have e : (cells ++ List.replicate ((c' - n) * sz) dead).length = c' * sz := by
      rw [List.length_append, List.length_replicate, hlen, ← Nat.add_mul]; congr 1; omega
    rw [e]
    rcases Nat.eq_zero_or_pos c' with hz | hz
    · subst hz; rw [Nat.zero_mul]
      have : r.len = n * sz := by rw [a4]; exact hlen
      omega
    · have := (h3.2.2 hz).2.1 a3
      rw [a5'] at this; simpa using this
  refine (h (c' - n)).h E (Ze3 m b { r with len := (cells ++ List.replicate ((c' - n) * sz) dead).length, fix := true }) a w h0 ⟨hr.size, fun j => ?_, hr.defers, hr.heap.recell hb h1 rfl hn ⟨a1', hw, rfl, rfl, a5', hm⟩ ⟨rfl, rfl, rfl⟩ rfl rfl rfl hbig (fun j v hj => ?_), Zp2 hr.frame h1 hw hm rfl rfl rfl⟩
  · show VR _ (upd (Tl l) i _ j) _
    unfold upd
    split
    · rename_i hj
      subst hj
      refine ⟨_, a', c', Zbv _ _ _, h2, by omega, by omega, fun hz => ⟨(h3.2.2 hz).1, fun hq => (by cases hq), fun _ _ _ => by omega⟩⟩
    · exact Zsr (nt := nt) ht hr.tmps j
  · show v = dead ∨ cells[j]? = some v
    rw [show (exB sz (cells ++ List.replicate ((c' - n) * sz) dead)).cells = cells ++ List.replicate ((c' - n) * sz) dead from rfl, List.getElem?_append] at hj
    split at hj
    · exact .inr hj
    · exact .inl (List.eq_of_mem_replicate (List.mem_of_getElem? hj))
theorem Za7.unexact {T : Nat → Value} {H : List Blk} {l : List Value} {b i n cc sz : Nat} {X D : List Value} (hb : H[b]? = some (exB sz (X ++ D))) (hX : X.length = n * sz) (hcc : (X ++ D).length = cc * sz) (hi : T i = slv b 0 n cc) (hn : ∀ x, x ∈ H → okN [b] x) (ht : Zoi [b] T 0 l) : Za7 G nt n0 ⟨T, H⟩ ⟨upd (Tl l) i (slv b 0 n n), H.set b (mxW sz X)⟩ := by
  intro E m a w h0 hr
  have hv : VR m (T i) (a.tmps.getD i undef) := hr.tmps i
  rw [hi] at hv
  obtain ⟨r, a', c', h1, h2, h3⟩ : ∃ r a' c', m b = some r ∧ a.tmps.getD i undef = .slice a' n c' ∧ Zhd r 0 n cc a' c' := hv
  obtain ⟨a1, a2, a3, a4, a5, a6⟩ := hr.heap.at_ hb h1
  have hw : r.wr = true := a2
  have hm : r.mv = true := a6
  obtain ⟨o1, o2⟩ := hr.heap.own b r h1 hw
  have a1' : 0 < sz := a1
  have a5' : r.sz = sz := a5
  have hlen : r.len = cc * sz := by rw [a4]; exact hcc
  have hXc : X.length ≤ cc * sz := by rw [← hcc, List.length_append]; omega
  refine ⟨Ze3 m b { r with len := X.length, fix := false }, hr.size, fun j => ?_, hr.defers, hr.heap.recell hb h1 rfl hn ⟨a1', hw, rfl, rfl, a5', hm⟩ ⟨rfl, rfl, rfl⟩ rfl rfl rfl (by show r.lo + X.length ≤ r.hi; omega) (fun j v hj => .inr ?_), Zp2 hr.frame h1 hw hm rfl rfl rfl⟩
  · show VR _ (upd (Tl l) i _ j) _
    unfold upd
    split
    · rename_i hj
      subst hj
      have hle := h3.1
      have hle2 := h3.2.1
      refine ⟨_, a', c', Zbv _ _ _, h2, Nat.le_refl _, by omega, fun hz => ⟨(h3.2.2 hz).1, fun _ => ?_, fun _ hq _ => (by cases hq)⟩⟩
      have e : c' = cc := (h3.2.2 hz).2.2 hw a3 hm
      subst e
      show r.lo + 0 + c' * r.sz ≤ r.hi
      rw [a5']; omega
    · exact Zsr (nt := nt) ht hr.tmps j
  · show (X ++ D)[j]? = some v
    have hj' : X[j]? = some v := hj
    rw [List.getElem?_append_left (List.getElem?_eq_some_iff.1 hj').1]; exact hj'
def mxL (n : Nat) (l : List Value) : Blk := { cells := l, sz := n, wr := true, fix := false, mv := false, pur := false }
theorem Z5t (k sz : Nat) (v : Value) : List.replicate ((k + 1) * sz) v = List.replicate sz v ++ List.replicate (k * sz) v := by
 rw [Nat.add_mul, Nat.one_mul, Nat.add_comm, List.replicate_append_replicate]
def Zkb (m : MapM) (b j : Nat) : MapM := fun q => if q = b then m j else if q = j then none else m q
theorem Zdl {m : MapM} {b j q : Nat} {r : Reg} (h : Zkb m b j q = some r) : (q = b ∧ m j = some r) ∨ (q ≠ b ∧ q ≠ j ∧ m q = some r) := by
 unfold Zkb at h
 split at h
 ·exact .inl ⟨by assumption, h⟩
 ·split at h
  ·cases h
  ·exact .inr ⟨by assumption, by assumption, h⟩
theorem Za7.moveTo {T : Nat → Value} {H : List Blk} {l : List Value} {b j i n cc : Nat} {y z : Blk} (hbj : b ≠ j) (hb : H[b]? = some y) (hy : y.wr = true ∧ y.mv = true) (hj : H[j]? = some z) (hz : z.wr = true ∧ z.mv = true) (hi : T i = slv j 0 n cc) (hn : ∀ x, x ∈ H → okN [b, j] x) (ht : Zoi [b, j] T 0 l) :
    Za7 G nt n0 ⟨T, H⟩ ⟨upd (Tl l) i (slv b 0 n cc), (H.set b z).set j hole⟩ := by
  intro E m a w h0 hr
  have hH := hr.heap
  have hv : VR m (T i) (a.tmps.getD i undef) := hr.tmps i
  rw [hi] at hv
  obtain ⟨r, a', c', h1, h2, h3⟩ : ∃ r a' c', m j = some r ∧ a.tmps.getD i undef = .slice a' n c' ∧ Zhd r 0 n cc a' c' := hv
  have hag : ∀ q s, (![b, j].contains q) = true → m q = some s → Zkb m b j q = some s := by
    intro q s h4 h5
    unfold Zkb
    rw [if_neg (by rintro rfl; simp at h4), if_neg (by rintro rfl; simp at h4)]; exact h5
  have hget : ∀ (q : Nat) (x : Blk), ((H.set b z).set j hole)[q]? = some x → (q = b ∧ x = z) ∨ (q = j ∧ x = hole) ∨ (q ≠ b ∧ q ≠ j ∧ H[q]? = some x) := by
    intro q x hx
    rw [List.getElem?_set] at hx
    split at hx
    · rename_i e; split at hx
      · injection hx with hx; exact .inr (.inl ⟨e.symm, hx.symm⟩)
      · cases hx
    · rename_i e
      rw [List.getElem?_set] at hx
      split at hx
      · rename_i e2; split at hx
        · injection hx with hx; exact .inl ⟨e2.symm, hx.symm⟩
        · cases hx
      · rename_i e2; exact .inr (.inr ⟨fun q => e2 q.symm, fun q => e q.symm, hx⟩)
  have hbl := (List.getElem?_eq_some_iff.1 hb).1
  have hat : ∀ (q : Nat), q ≠ b → q ≠ j → ((H.set b z).set j hole)[q]? = H[q]? := fun q e1 e2 => by
    rw [List.getElem?_set, if_neg (fun e => e2 e.symm), List.getElem?_set, if_neg (fun e => e1 e.symm)]
  have hatb : ((H.set b z).set j hole)[b]? = some z := by
    rw [List.getElem?_set, if_neg (fun e => hbj e.symm), List.getElem?_set, if_pos rfl, if_pos hbl]
  have hCR : ∀ (x : Blk) (q : Nat) (v v' : Value), H[q]? = some x → v ∈ x.cells → CR m v v' → CR (Zkb m b j) v v' := by
    intro x q v v' hx hvx hc
    rcases hn x (List.mem_of_getElem? hx) with hp | hp
    · have := hH.pur q x hx hp v hvx
      rw [hc.pure this]; exact CR.of_pure this
    · exact hc.congr hag (List.all_eq_true.1 hp v hvx)
  refine ⟨Zkb m b j, hr.size, fun k => ?_, hr.defers, ⟨?_, ?_, ?_, ?_, ?_, ?_, ?_, hH.glob, ?_⟩, ⟨hr.frame.os, hr.frame.tape, hr.frame.output, hr.frame.size, hr.frame.block, ?_, ?_⟩⟩
  · show VR _ (upd (Tl l) i _ k) _
    unfold upd
    split
    · rename_i hk
      subst hk
      exact ⟨r, a', c', by unfold Zkb; rw [if_pos rfl]; exact h1, h2, h3⟩
    · show VR _ ((l[k]?).getD dead) _
      cases hl : l[k]? with
      | none => exact VR.dead
      | some v =>
        have := Zjx ht k v hl
        rw [Nat.zero_add] at this
        rcases this with h4 | ⟨h4, h5⟩
        · rw [h4]; exact VR.dead
        · rw [h4]; exact (hr.tmps k).congr hag h5
  · intro q s hs
    rcases Zdl hs with ⟨rfl, h4⟩ | ⟨h4, h5, h6⟩
    · exact ⟨z, hatb, hH.at_ hj h4⟩
    · obtain ⟨x, g1, g2⟩ := hH.reg q s h6
      exact ⟨x, by rw [hat q h4 h5]; exact g1, g2⟩
  · intro q x hx hs
    rcases hget q x hx with ⟨rfl, rfl⟩ | ⟨rfl, rfl⟩ | ⟨h4, h5, h6⟩
    · exact ⟨r, by unfold Zkb; rw [if_pos rfl]; exact h1⟩
    · exact absurd hs (by decide)
    · obtain ⟨s, g1⟩ := hH.live q x h6 hs
      exact ⟨s, by unfold Zkb; rw [if_neg h4, if_neg h5]; exact g1⟩
  · intro q x s k v hx hs hvk
    rcases Zdl hs with ⟨rfl, h4⟩ | ⟨h4, h5, h6⟩
    · rw [hatb] at hx; injection hx with hx; subst hx
      obtain ⟨v', g1, g2⟩ := hH.cell j z s k v hj h4 hvk
      exact ⟨v', g1, hCR z j v v' hj (List.mem_of_getElem? hvk) g2⟩
    · rw [hat q h4 h5] at hx
      obtain ⟨v', g1, g2⟩ := hH.cell q x s k v hx h6 hvk
      exact ⟨v', g1, hCR x q v v' hx (List.mem_of_getElem? hvk) g2⟩
  · intro q x hx hp v hvx
    rcases hget q x hx with ⟨rfl, rfl⟩ | ⟨rfl, rfl⟩ | ⟨h4, h5, h6⟩
    · exact hH.pur j x hj hp v hvx
    · cases hvx
    · exact hH.pur q x h6 hp v hvx
  · intro q s hs hw
    rcases Zdl hs with ⟨rfl, h4⟩ | ⟨h4, h5, h6⟩
    · exact hH.own j s h4 hw
    · exact hH.own q s h6 hw
  · intro q s hs hw
    rcases Zdl hs with ⟨rfl, h4⟩ | ⟨h4, h5, h6⟩
    · exact hH.clean j s h4 hw
    · exact hH.clean q s h6 hw
  · intro q q' s s' hne hs hs' hw
    rcases Zdl hs with ⟨rfl, h4⟩ | ⟨h4, h5, h6⟩
    · rcases Zdl hs' with ⟨rfl, g4⟩ | ⟨g4, g5, g6⟩
      · exact absurd rfl hne
      · exact hH.dis j q' s s' (fun e => g5 e.symm) h4 g6 hw
    · rcases Zdl hs' with ⟨rfl, g4⟩ | ⟨g4, g5, g6⟩
      · exact hH.dis q j s s' h5 h6 g4 hw
      · exact hH.dis q q' s s' hne h6 g6 hw
  · intro q s k hs hw
    rcases Zdl hs with ⟨rfl, h4⟩ | ⟨h4, h5, h6⟩
    · exact hH.gwr j s k h4 hw
    · exact hH.gwr q s k h6 hw
  · intro q s hs hw hlt
    rcases Zdl hs with ⟨rfl, h4⟩ | ⟨h4, h5, h6⟩
    · exact hr.frame.reg j s h4 hw hlt
    · exact hr.frame.reg q s h6 hw hlt
  · intro q s hs hk
    have h4 := hr.frame.keep q s hs hk
    have hno : ∀ (x : Blk), H[q]? = some x → x.wr = true ∧ x.mv = true → False := by
      intro x hx hf
      obtain ⟨_, g1, _, _, _, g5⟩ := hH.at_ hx h4
      rcases hk with hk | hk
      · rw [g1, hf.1] at hk; cases hk
      · rw [g5, hf.2] at hk; cases hk
    unfold Zkb
    rw [if_neg (by rintro rfl; exact hno y hb hy), if_neg (by rintro rfl; exact hno z hj hz)]; exact h4
end
end Go.Flat
end
