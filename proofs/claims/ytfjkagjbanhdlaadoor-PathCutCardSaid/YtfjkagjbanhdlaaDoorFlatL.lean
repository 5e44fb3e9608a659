/- Walks. -/
import Derived.Test.YtfjkagjbanhdlaaDoorFlatK
set_option linter.unusedVariables false
set_option linter.unusedSimpArgs false
section
/- Calls that only read and tell a thing without an address; walks over heaps with a part of any length. -/
namespace Go.Flat
section
variable {P : Program} {G : Glob}


def Zh9 (σ : List Blk) (b : Nat) : Bool := match σ[b]? with | some x => x.sz != 0 | none => true
def Zqx (x : Blk) : Blk := if x.sz = 0 then { x with cells := [], sz := 1, wr := false } else x
theorem Z31 {x : Blk} (h : x.wr = false) : (Zqx x).wr = false := by unfold Zqx; split <;> simp [h]
theorem Zg7 {x : Blk} (h : x.sz ≠ 0) : Zqx x = x := if_neg h
theorem HRel.undum {m : MapM} {σ : List Blk} {w : World} (h : HRel G m (σ.map Zqx) w) (hro : ∀ x, x ∈ σ → x.wr = false) (hn : ∀ x, x ∈ σ → x.pur = true ∨ ∀ v, v ∈ x.cells → Za9 (Zh9 σ) v = true) (h0 : ∀ x, x ∈ σ → x.sz = 0 → x.cells = []) :
    HRel G (fun b => if Zh9 σ b then m b else Option.none) σ w := by
  have hm : ∀ b r, (if Zh9 σ b then m b else Option.none) = some r → ∃ x : Blk, σ[b]? = some x ∧ x.sz ≠ 0 ∧ m b = some r ∧ (σ.map Zqx)[b]? = some x := by
    intro b r hr
    split at hr
    · rename_i hl
      obtain ⟨x, hx, _⟩ := h.reg b r hr
      simp only [List.getElem?_map, Option.map_eq_some_iff] at hx
      obtain ⟨y, hy, rfl⟩ := hx
      unfold Zh9 at hl
      rw [hy] at hl
      have hz : y.sz ≠ 0 := by simpa using hl
      exact ⟨y, hy, hz, hr, by simp [hy, Zg7 hz]⟩
    · cases hr
  have hw : ∀ b r, (if Zh9 σ b then m b else Option.none) = some r → r.wr = false := by
    intro b r hr
    obtain ⟨x, h1, h2, h3, h4⟩ := hm b r hr
    obtain ⟨_, g1, _⟩ := h.at_ h4 h3
    rw [g1]; exact hro x (List.mem_of_getElem? h1)
  have hag : ∀ b r, Zh9 σ b = true → m b = some r → (if Zh9 σ b then m b else Option.none) = some r := fun b r h1 h2 => by rw [if_pos h1]; exact h2
  refine ⟨?_, ?_, ?_, ?_, ?_, ?_, ?_, h.glob, ?_⟩
  · intro b r hr
    obtain ⟨x, h1, h2, h3, h4⟩ := hm b r hr
    exact ⟨x, h1, h.at_ h4 h3⟩
  · intro b x hx hz
    have hz' : x.sz ≠ 0 := by omega
    obtain ⟨r, hr⟩ := h.live b x (by simp [hx, Zg7 hz']) hz
    exact ⟨r, hag b r (by unfold Zh9; rw [hx]; simpa using hz') hr⟩
  · intro b x r i v hx hr hv
    obtain ⟨y, h1, h2, h3, h4⟩ := hm b r hr
    rw [hx] at h1; injection h1 with h1; subst h1
    obtain ⟨v', g1, g2⟩ := h.cell b x r i v h4 h3 hv
    refine ⟨v', g1, ?_⟩
    rcases hn x (List.mem_of_getElem? hx) with hp | hp
    · have := h.pur b x h4 hp v (List.mem_of_getElem? hv)
      rw [g2.pure this]; exact CR.of_pure this
    · exact g2.congr hag (hp v (List.mem_of_getElem? hv))
  · intro b x hx hp v hv
    by_cases hz : x.sz = 0
    · rw [h0 x (List.mem_of_getElem? hx) hz] at hv; cases hv
    · exact h.pur b x (by simp [hx, Zg7 hz]) hp v hv
  · intro b r hr hq; rw [hw b r hr] at hq; cases hq
  · intro b r hr hq; rw [hw b r hr] at hq; cases hq
  · intro b b' r r' _ hr _ hq; rw [hw b r hr] at hq; cases hq
  · intro b r j hr hq; rw [hw b r hr] at hq; cases hq
structure RoOK (H : List Blk) (e : Emb) (argsL argsC : List Value) (σ : List Blk) : Prop where
  args : Zjs e argsL argsC
  len : e.length = σ.length
  one : ∀ (i : Nat) (p : Option (Nat × Nat)) (L : Blk), e[i]? = some p → σ[i]? = some L → Zdp H e p (Zqx L)
  ro : ∀ x, x ∈ σ → x.wr = false
  nm : ∀ x, x ∈ σ → x.pur = true ∨ ∀ v, v ∈ x.cells → Za9 (inE e) v = true ∧ Za9 (Zh9 σ) v = true
  na : argsL.all (Zeg (Zh9 σ)) = true
  h0 : ∀ x, x ∈ σ → x.sz = 0 → x.cells = []
theorem L2.all_mem {R S : Value → Value → Prop} {xs ys : List Value} {p : Value → Bool} (h : L2 R xs ys) (hp : xs.all p = true) (hr : ∀ x y, p x = true → R x y → S x y) : L2 S xs ys :=
 h.mono fun x hx y hxy => hr x y (List.all_eq_true.1 hp x hx) hxy
theorem Zlj.callRO {nt : Nat} {ops : Array Oper} {o : Oper} {s : St} {f : Operand} {args : Array Operand} {ts : Array TypeId} {k : FuncId} {first captured : Array Value}
    (ho : o.op = .call { callee := .value f, args := args, argTypes := ts }) (hf : s.eval f = .func (.func k) first captured) (hcap : first.toList.all Zc8 = true ∧ captured.toList.all Zc8 = true) (hk : Zc6 P k = true) (hg : Zds nt s (Zdz ops o) = some true) (hd : Zb1 nt o.dst = true)
    {argsL : List Value} {σ σ' : List Blk} {res : Value} (hC : Z9 P G k argsL σ res σ') (hp : Zbl res = true) (e : Emb) {foot : List Nat}
    (hok : RoOK s.heap e argsL (first.toList ++ args.toList.map s.eval ++ captured.toList) σ) :
    Zlj P G nt ops o s (Delta.apply { val := res, foot := foot } o.dst s) := by
  intro E m a w hr K Q hK
  rw [Zfb hg hr, if_pos rfl]
  have hfv := hr.eval f
  rw [hf] at hfv
  obtain ⟨first', captured', hf', hL1, hL2⟩ := hfv
  have hex := Zns (P := P) ho hf' hk w
  have hargsC : L2 (VR m) (first.toList ++ args.toList.map s.eval ++ captured.toList) (first' ++ args.map a.eval ++ captured').toList := by
    simp only [Array.toList_append, Array.toList_map]
    refine ((Zkv hL1 hcap.1).append ?_).append (Zkv hL2 hcap.2)
    refine ⟨by simp, fun i x y hx hy => ?_⟩
    simp only [List.getElem?_map, Option.map_eq_some_iff] at hx hy
    obtain ⟨p, hp1, rfl⟩ := hx
    obtain ⟨q, hq1, rfl⟩ := hy
    rw [hp1] at hq1; injection hq1 with hq1; subst hq1
    exact hr.eval p
  have hE : EmbOK s.heap e (σ.map Zqx) := by
    refine ⟨by simp [hok.len], fun i p L h1 h2 => ?_, fun i j id sh sh' L _ h1 h2 h3 => ?_⟩
    · simp only [List.getElem?_map, Option.map_eq_some_iff] at h2
      obtain ⟨y, hy, rfl⟩ := h2
      exact Zlf (hok.one i p y h1 hy)
    · simp only [List.getElem?_map, Option.map_eq_some_iff] at h2
      obtain ⟨y, hy, rfl⟩ := h2
      rw [Z31 (hok.ro y (List.mem_of_getElem? hy))] at h3; cases h3
  have hnm : ∀ (i : Nat) (L : Blk), (σ.map Zqx)[i]? = some L → L.pur = true ∨ ∀ v, v ∈ L.cells → Za9 (inE e) v = true := by
    intro i L hL
    simp only [List.getElem?_map, Option.map_eq_some_iff] at hL
    obtain ⟨y, hy, rfl⟩ := hL
    have hy' := List.mem_of_getElem? hy
    by_cases hz : y.sz = 0
    · right; intro v hv; unfold Zqx at hv; rw [if_pos hz] at hv; cases hv
    · rw [Zg7 hz]
      rcases hok.nm y hy' with h | h
      · exact .inl h
      · exact .inr fun v hv => (h v hv).1
  have hargs := Zox hr.heap hE _ _ _ hok.args hargsC
  have hemb := (hr.heap.embed hE hnm).undum hok.ro (fun x hx => (hok.nm x hx).imp_right fun h v hv => (h v hv).2) hok.h0
  have hargs2 : L2 (VR (fun b => if Zh9 σ b then mE m e (σ.map Zqx) b else none)) argsL (first' ++ args.map a.eval ++ captured').toList :=
    hargs.all_mem hok.na fun x y hx hxy => hxy.congr (fun b r h1 h2 => by rw [if_pos h1]; exact h2) hx
  have hcall := hC _ w _ hemb hargs2
  rw [Array.toArray_toList] at hcall
  unfold Oper.wp
  rw [hex]
  show Calls P k (first' ++ args.map a.eval ++ captured') w _
  refine hcall.mono ?_
  rintro en w' ⟨v', m', rfl, h', hv, hF⟩
  have hx : Ext w w' := hF.ext fun b r hbr => by
    obtain ⟨x, h1, _, h3, _⟩ := hemb.reg b r hbr
    rw [h3]; exact hok.ro x (List.mem_of_getElem? h1)
  have hr2 := hr.ext hx
  refine hK m _ w' ?_
  have := SRel.put hr2 (d := o.dst) hd (v := res) (v' := v') (by rw [hv.pure hp]; exact VR.of_pure hp)
  simpa [Delta.apply, Zd7, St.put] using this
theorem Zxa {H H' : List Blk} {e : Emb} {argsL argsC : List Value} {σ : List Blk} (h : ∀ p, p ∈ e → ∀ q, p = some q → H'[q.1]? = H[q.1]?) (hok : RoOK H e argsL argsC σ) : RoOK H' e argsL argsC σ :=
 ⟨hok.args, hok.len, fun i p L h1 h2 => by
  have := hok.one i p L h1 h2
  cases p with
  | none => exact this
  | some q =>
   obtain ⟨id, sh⟩ := q
   unfold Zdp at this ⊢
   simp only at this ⊢
   rw [h _ (List.mem_of_getElem? h1) (id, sh) rfl]; exact this, hok.ro, hok.nm, hok.na, hok.h0⟩
theorem Z1x {nt : Nat} {ops : Array Oper} {o : Oper} {s : St} {f : Operand} {args : Array Operand} {ts : Array TypeId} {k : FuncId} {first captured : Array Value}
  (hg : Zds nt s (Zdz ops o) = some true) (hd : Zb1 nt o.dst = true) (ho : o.op = .call { callee := .value f, args := args, argTypes := ts }) (hf : s.eval f = .func (.func k) first captured) (hcap : first.toList.all Zc8 = true ∧ captured.toList.all Zc8 = true) (hk : Zc6 P k = true)
  {argsL : List Value} {σ σ' : List Blk} {res : Value} (hC : Z9 P G k argsL σ res σ') (hp : Zbl res = true) (e : Emb)
  (hok : RoOK s.heap e argsL (first.toList ++ args.toList.map s.eval ++ captured.toList) σ) : Zau P G nt ops o s { val := res, foot := Zrj e } := by
 intro s' ha
 have hev : ∀ x, x ∈ o.op.operands → s'.eval x = s.eval x := fun x hx => Zag ha hx
 have hfe : s'.eval f = s.eval f := hev f (by rw [ho]; simp [Op.operands, Call.operands])
 have hae : args.toList.map s'.eval = args.toList.map s.eval := List.map_congr_left fun x hx => hev x (by rw [ho]; simp [Op.operands, Call.operands]; right; simpa using hx)
 refine Zlj.callRO ho (hfe.trans hf) hcap hk (by rw [Zgo ha]; exact hg) hd hC hp e ?_
 rw [hae]
 refine Zxa (fun p hpm q hq => ?_) hok
 subst hq
 exact ha.heap q.1 (List.mem_filterMap.2 ⟨some q, hpm, rfl⟩)
end
section
variable {P : Program} {G : Glob} {nt : Nat} {ops l : List Oper} {K : Trace → St → Prop} {tr : Trace} {T : Nat → Value} {H : List Blk} {d : Tmp} {ty : TypeId} {ps : String} {af : Array Edge} {g : Option (Nat × Bool)}
theorem Zki {e : Emb} {f : Operand} {args : Array Operand} {ts : Array TypeId} {k : FuncId} {first captured : Array Value} {argsL vals : List Value} {σ σ' : List Blk} {res : Value} (hC : Z9 P G k argsL σ res σ') (hg : gd nt T ops g = some true) (hd : Zb1 nt (some d) = true) (hf : St.eval ⟨T, H⟩ f = .func (.func k) first captured) (hcap : (first.toList.all Zc8 && captured.toList.all Zc8) = true) (hk : Zc6 P k = true)
  (ha : first.toList ++ args.toList.map (St.eval ⟨T, H⟩) ++ captured.toList = vals) (hp : Zbl res = true) (hok : RoOK H e argsL vals σ)
  (k' : R P G nt ops K l (tr ++ [(⟨some d, .call { callee := .value f, args := args, argTypes := ts }, ty, ps, af, g⟩, { val := res, foot := Zrj e })]) (upd T d res) H) : R P G nt ops K (⟨some d, .call { callee := .value f, args := args, argTypes := ts }, ty, ps, af, g⟩ :: l) tr T H := by
 subst ha
 rw [Bool.and_eq_true] at hcap
 exact ⟨Zbv.valF (Z1x (by rw [Zc7]; exact hg) hd rfl hf hcap hk hC hp e hok) rfl k'.h⟩
end
section
variable {P : Program} {G : Glob} {nt n0 : Nat} {Q : Exit → St → Prop}
theorem Z9.ro {f : FuncId} {fn : Func} {c : Code} {nt : Nat} {args : List Value} {σ : List Blk} {res : Value} (hf : P.funcs[f]? = some fn) (hb : fn.body = some c) (hnt : fn.ntmps = nt) (hl : decide (args.length ≤ nt) = true) (hro : ∀ x, x ∈ σ → x.wr = false) (hp : Zbl res = true)
  (h : C P G nt σ.length c (Z2i P G fn fun _ v => v = res) ⟨Zht args, σ⟩) : Z9 P G f args σ res σ := by
 intro m w args' hH hA
 refine Z6v hf hb hnt (by simpa using hl) hH hA _ h ?_
 rintro s v m' w' v' rfl h' hv hF
 have hx : Ext w w' := hF.ext fun b r hbr => by
  obtain ⟨x, h1, _, h3, _⟩ := hH.reg b r hbr
  rw [h3]; exact hro x (List.mem_of_getElem? h1)
 exact ⟨v', m, rfl, hH.ext hx, by rw [hv.pure hp]; exact VR.of_pure hp, (Frame.refl [] hH).thenExt hx⟩


def bxM (n : Nat) (l : List Value) : Blk := { cells := l, sz := n, wr := true, fix := false, mv := true, pur := true }
def Z3q (σ : List Blk) (v : Value) (nid : Nat) : Option Blk :=
  if (Ziz v || Zhu v) && Zpf.storC0 v && !v.cells.toList.isEmpty && Zc5 σ nid then some (Zde (v.cells.toList.all Zgu) false v.cells.toList.length v.cells.toList) else none
theorem Zxc {o : Oper} {s : St} {t : TypeId} {x : Operand} {nid : Nat} {b : Blk} (ho : o.op = .box t x) (h : Z3q s.heap (s.eval x) nid = some b) : Zbi P G o s (Zd5 nid) [(nid, b)] := by
  unfold Z3q at h
  split at h
  · rename_i hc
    injection h with h; subst h
    simp only [Bool.and_eq_true, Bool.not_eq_true'] at hc
    obtain ⟨⟨⟨hk, hs⟩, he⟩, hf⟩ := hc
    intro nt E m a w hr
    have hL := (hr.eval x).cellsOf hk hs
    obtain ⟨m', h1, h2, h3, h4⟩ := Zfq hr.heap hr.frame hf (Zde ((s.eval x).cells.toList.all Zgu) false (s.eval x).cells.toList.length (s.eval x).cells.toList) (by
        simp only [Zde]
        cases hl : (s.eval x).cells.toList with
        | nil => rw [hl] at he; cases he
        | cons => simp) (a.eval x).cells t (0, 0) (by simp only [Zde]; rw [hL.1]; simp) (by
          simp only [Zde]; rw [hL.1, List.take_length]; exact hL) (by
          intro hq v hv
          simp only [Zde, List.all_eq_true] at hq hv
          exact Zjo (hq v hv)) (by simp)
    exact ⟨_, _, m', .inl (by simp [execOp, ho, Instr.box, newVar, newRow]), h1, h2, h3, Zhy h4 rfl⟩
  · cases h
def Zse (P : Program) (σ : List Blk) (t : TypeId) (nid : Nat) : Option Blk :=
  (Zr7 P t).bind fun z => if z.all Zbj && !z.isEmpty && Zc5 σ nid then some (Zde (z.all Zgu) false z.length z) else none
theorem Zs8 {o : Oper} {s : St} {t : TypeId} {nid : Nat} {x : Blk} (ho : o.op = .alloc t) (h : Zse P s.heap t nid = some x) : Zbi P G o s (Zd5 nid) [(nid, x)] := by
  unfold Zse Zr7 at h
  cases hi : P.info? t with
  | none => simp [hi] at h
  | some i =>
    cases hz : i.zero with
    | none => simp [hi, hz] at h
    | some z =>
      simp only [hi, hz, Option.bind_some, Option.map_some] at h
      split at h
      · rename_i hc
        injection h with h; subst h
        simp only [Bool.and_eq_true, Bool.not_eq_true'] at hc
        obtain ⟨⟨hp, he⟩, hf⟩ := hc
        intro nt E m a w hr
        obtain ⟨m', h1, h2, h3, h4⟩ := Zfq hr.heap hr.frame hf (Zde (z.cells.toList.all Zgu) false z.cells.toList.length z.cells.toList) (by
            simp only [Zde]
            cases hl : z.cells.toList with
            | nil => rw [hl] at he; cases he
            | cons => simp) z.cells t (0, 0) (by simp [Zde]) (by
              simp only [Zde, List.take_length]
              simp only [List.all_eq_true] at hp
              exact (L2.refl _).mono fun x hx y hxy => by subst hxy; exact CR.of_pure (hp _ hx)) (by
              intro hq v hv
              simp only [Zde, List.all_eq_true] at hq hv
              exact Zjo (hq v hv)) (by simp)
        exact ⟨_, _, m', .inl (by simp [execOp, ho, Instr.alloc, zeroValue, typeInfo, hi, hz, newVar, newRow]), h1, h2, h3, Zhy h4 rfl⟩
      · cases h
section
variable {ops l : List Oper} {K : Trace → St → Prop} {tr : Trace} {T : Nat → Value} {H H' : List Blk} {d : Tmp} {ty : TypeId} {ps : String} {af : Array Edge} {g : Option (Nat × Bool)} {nid : Nat}
theorem Z2m (hg : gd nt T ops g = some true) (hd : Zb1 nt (some d) = true) {t : TypeId} {x : Operand} {v : Value} {b : Blk} (hx : St.eval ⟨T, H⟩ x = v) (h : Z3q H v nid = some b) (hH : Zfn H nid b = H') (k : R P G nt ops K l (tr ++ [(⟨some d, .box t x, ty, ps, af, g⟩, { val := Zd5 nid, sets := [(nid, b)], foot := [nid] })]) (upd T d (.pointer (some ⟨nid, 0, none⟩))) H') : R P G nt ops K (⟨some d, .box t x, ty, ps, af, g⟩ :: l) tr T H := by
 subst hx
 exact ⟨Zbv.new (Zau.value (by rw [Zc7]; exact hg) hd fun s' ha => Zxc rfl (by
  unfold Z3q at h ⊢
  rw [Zag ha (x := x) (by simp [Op.operands]), show Zc5 s'.heap nid = Zc5 H nid from by unfold Zc5; rw [ha.heap nid (by simp), ha.len]]; exact h)) rfl hH k.h⟩
theorem Zu6 (hg : gd nt T ops g = some true) (hd : Zb1 nt (some d) = true) {t : TypeId} {b : Blk} (h : Zse P H t nid = some b) (hH : Zfn H nid b = H') (k : R P G nt ops K l (tr ++ [(⟨some d, .alloc t, ty, ps, af, g⟩, { val := Zd5 nid, sets := [(nid, b)], foot := [nid] })]) (upd T d (.pointer (some ⟨nid, 0, none⟩))) H') : R P G nt ops K (⟨some d, .alloc t, ty, ps, af, g⟩ :: l) tr T H :=
 ⟨Zbv.new (Zau.value (by rw [Zc7]; exact hg) hd fun s' ha => Zs8 rfl (by
  unfold Zse at h ⊢
  rw [show Zc5 s'.heap nid = Zc5 H nid from by unfold Zc5; rw [ha.heap nid (by simp), ha.len]]; exact h)) rfl hH k.h⟩
end


def Z2c (H : List Blk) (j : Nat) : Bool := match H[j]? with | some x => (x.wr && x.mv) || x.sz == 0 | none => false
def Z1p (D : List Nat) (T : Nat → Value) : Nat → List Value → Prop
  | _, [] => True
  | i, v :: l => (v = dead ∨ (v = T i ∧ Zeg (fun b => !D.contains b) (T i) = true)) ∧ Z1p D T (i + 1) l
theorem Zrk {D : List Nat} {T : Nat → Value} : ∀ {l : List Value} {i : Nat}, Z1p D T i l → ∀ (j : Nat) (v : Value), l[j]? = some v → v = dead ∨ (v = T (i + j) ∧ Zeg (fun b => !D.contains b) (T (i + j)) = true)
 | [], i, _, j, v, h => by simp at h
 | x :: l, i, hk, 0, v, h => by simp at h; subst h; exact hk.1
 | x :: l, i, hk, j + 1, v, h => by
  have := Zrk hk.2 j v (by simpa using h)
  rw [show i + (j + 1) = i + 1 + j from by omega]; exact this
def okN (D : List Nat) (x : Blk) : Prop := x.pur = true ∨ x.cells.all (Za9 fun b => !D.contains b) = true
theorem Zbo.drop {T : Nat → Value} {H H' : List Blk} {l : List Value} (D : List Nat) (hD : D.all (Z2c H) = true) (hh : ∀ b, H'[b]? = if D.contains b then (H[b]?).map (fun _ => hole) else H[b]?) (ht : Z1p D T 0 l) (hn : ∀ x, x ∈ H' → okN D x) : Zbo G nt n0 ⟨T, H⟩ ⟨Tl l, H'⟩ := by
  intro E m a w h0 hr
  have hH := hr.heap
  have hag : ∀ b r, (!D.contains b) = true → m b = some r → (if D.contains b then none else m b) = some r := fun b r h1 h2 => by
    rw [if_neg (by simpa using h1)]; exact h2
  have hm : ∀ b r, (if D.contains b then none else m b) = some r → D.contains b = false ∧ m b = some r := by
    intro b r h
    split at h
    · cases h
    · rename_i hc; exact ⟨by simpa using hc, h⟩
  have hget : ∀ b, D.contains b = false → H'[b]? = H[b]? := fun b hb => by rw [hh, hb]; rfl
  have hblk : ∀ (b : Nat) (x : Blk), H'[b]? = some x → x = hole ∨ (D.contains b = false ∧ H[b]? = some x) := by
    intro b x hx
    rw [hh] at hx
    split at hx
    · rw [Option.map_eq_some_iff] at hx; obtain ⟨_, _, rfl⟩ := hx; exact .inl rfl
    · rename_i hc; exact .inr ⟨by simpa using hc, hx⟩
  refine ⟨fun b => if D.contains b then none else m b, hr.size, fun i => ?_, hr.defers, ⟨?_, ?_, ?_, ?_, ?_, ?_, ?_, hH.glob, ?_⟩, ⟨hr.frame.os, hr.frame.tape, hr.frame.output, hr.frame.size, hr.frame.block, ?_, ?_⟩⟩
  · show VR _ ((l[i]?).getD dead) _
    cases hl : l[i]? with
    | none => exact VR.dead
    | some v =>
      have := Zrk ht i v hl
      rw [Nat.zero_add] at this
      rcases this with h1 | ⟨h1, h2⟩
      · rw [h1]; exact VR.dead
      · rw [h1]; exact (hr.tmps i).congr hag h2
  · intro b r h
    obtain ⟨h1, h2⟩ := hm b r h
    obtain ⟨x, g1, g2⟩ := hH.reg b r h2
    exact ⟨x, by rw [hget b h1]; exact g1, g2⟩
  · intro b x hx hz
    rcases hblk b x hx with rfl | ⟨h1, h2⟩
    · exact absurd hz (by decide)
    · obtain ⟨r, hr2⟩ := hH.live b x h2 hz
      exact ⟨r, hag b r (by rw [h1]; rfl) hr2⟩
  · intro b x r i v hx h hv
    obtain ⟨h1, h2⟩ := hm b r h
    have hx' := hx
    rw [hget b h1] at hx
    obtain ⟨v', g1, g2⟩ := hH.cell b x r i v hx h2 hv
    refine ⟨v', g1, ?_⟩
    rcases hn x (List.mem_of_getElem? hx') with hp | hp
    · have := hH.pur b x hx hp v (List.mem_of_getElem? hv)
      rw [g2.pure this]; exact CR.of_pure this
    · exact g2.congr hag (List.all_eq_true.1 hp v (List.mem_of_getElem? hv))
  · intro b x hx hp v hv
    rcases hblk b x hx with rfl | ⟨h1, h2⟩
    · cases hv
    · exact hH.pur b x h2 hp v hv
  · intro b r h hw; exact hH.own b r (hm b r h).2 hw
  · intro b r h hw; exact hH.clean b r (hm b r h).2 hw
  · intro b b' r r' hne h h' hw; exact hH.dis b b' r r' hne (hm b r h).2 (hm b' r' h').2 hw
  · intro b r j h hw; exact hH.gwr b r j (hm b r h).2 hw
  · intro b r h hw hlt; exact hr.frame.reg b r (hm b r h).2 hw hlt
  · intro b r h hk
    have h1 := hr.frame.keep b r h hk
    refine hag b r ?_ h1
    cases hc : D.contains b with
    | false => rfl
    | true =>
      exfalso
      have h2 := List.all_eq_true.1 hD b (by simpa using hc)
      unfold Z2c at h2
      cases hb : H[b]? with
      | none => rw [hb] at h2; cases h2
      | some x =>
        rw [hb] at h2
        simp only [Bool.or_eq_true, Bool.and_eq_true, beq_iff_eq] at h2
        obtain ⟨g0, g1, _, _, _, g5⟩ := hH.at_ hb h1
        rcases h2 with ⟨h3, h4⟩ | h3
        · rcases hk with hk | hk
          · rw [g1, h3] at hk; cases hk
          · rw [g5, h4] at hk; cases hk
        · omega
end

section
variable {α : Type}
def Zh2 (enc : α → Nat → List Value) : Nat → List α → List Value
  | _, [] => []
  | K, x :: l => enc x K ++ Zh2 enc (K + 1) l
structure Dcod (α : Type) where
  enc : α → Nat → List Value
  n : Nat
  len : ∀ x b, (enc x b).length = n
  pos : 0 < n
  blk : α → Blk
variable (c : Dcod α)
def Dcod.row (K : Nat) (l : List α) : List Value := Zh2 c.enc K l
theorem Dcod.row_len : ∀ (l : List α) (K : Nat), (c.row K l).length = l.length * c.n
 | [], K => by simp [Dcod.row, Zh2]
 | x :: l, K => by
  have := Dcod.row_len l (K + 1)
  unfold Dcod.row at this ⊢
  rw [Zh2, List.length_append, c.len, this, List.length_cons, Nat.add_mul, Nat.one_mul, Nat.add_comm]
theorem Dcod.row_drop : ∀ (l : List α) (K i : Nat), (c.row K l).drop (i * c.n) = c.row (K + i) (l.drop i)
 | [], K, i => by simp [Dcod.row, Zh2]
 | x :: l, K, 0 => by simp
 | x :: l, K, i + 1 => by
  have := Dcod.row_drop l (K + 1) i
  unfold Dcod.row at this ⊢
  rw [Zh2, show (i + 1) * c.n = (c.enc x K).length + i * c.n from by rw [c.len, Nat.add_mul, Nat.one_mul, Nat.add_comm], List.drop_length_add_append, this]
  rw [List.drop_succ_cons, show K + 1 + i = K + (i + 1) from by omega]
theorem Dcod.row_take : ∀ (l : List α) (K i : Nat), (c.row K l).take (i * c.n) = c.row K (l.take i)
 | [], K, i => by simp [Dcod.row, Zh2]
 | x :: l, K, 0 => by simp [Dcod.row, Zh2]
 | x :: l, K, i + 1 => by
  have := Dcod.row_take l (K + 1) i
  unfold Dcod.row at this ⊢
  rw [Zh2, show (i + 1) * c.n = (c.enc x K).length + i * c.n from by rw [c.len, Nat.add_mul, Nat.one_mul, Nat.add_comm], List.take_length_add_append, this]
  rw [List.take_succ_cons, Zh2]
theorem Dcod.at_ [Inhabited α] {l : List α} {K i : Nat} (h : i < l.length) : ((c.row K l).drop (i * c.n)).take c.n = c.enc (l.getD i default) (K + i) := by
 rw [c.row_drop, List.drop_eq_getElem_cons h]
 unfold Dcod.row
 rw [Zh2, List.take_append_of_le_length (by rw [c.len]; exact Nat.le_refl _), List.take_of_length_le (by rw [c.len]; exact Nat.le_refl _), List.getD_eq_getElem?_getD, List.getElem?_eq_getElem h]; rfl
theorem Dcod.row_names {p : Nat → Bool} (he : ∀ x b, p b = true → (c.enc x b).all (Za9 p) = true) : ∀ (l : List α) (K : Nat), (∀ i, i < l.length → p (K + i) = true) → (c.row K l).all (Za9 p) = true
 | [], K, _ => rfl
 | x :: l, K, h => by
  have := Dcod.row_names he l (K + 1) (fun i hi => by rw [show K + 1 + i = K + (i + 1) from by omega]; exact h (i + 1) (by simp; omega))
  unfold Dcod.row at this ⊢
  rw [Zh2, List.all_append, he x K (h 0 (by simp)), this]; rfl
def Dcod.B (K : Nat) (l : List α) : Blk := { cells := c.row K l, sz := c.n, wr := false, fix := false, mv := true, pur := false }
variable {P : Program} {G : Glob} {t : TypeId} {H : List Blk} {b K : Nat}
theorem Z4i [Inhabited α] {l : List α} {i o m : Nat} (hm : m = c.n) (hk : Zej P t = some (true, m)) (hb : H[b]? = some (c.B K l)) (hi : i < l.length) (ho : o = i * m) : Zdx P G t H (.pointer (some ⟨b, o, none⟩)) = some (mxV (c.enc (l.getD i default) (K + i))) := by
 subst hm; subst ho
 refine Zcu hk hb ?_ (c.at_ hi)
 show _ ≤ (c.row K l).length
 rw [c.row_len]
 have := Nat.mul_le_mul_right c.n (Nat.succ_le_of_lt hi)
 rw [Nat.succ_mul] at this
 exact this
theorem Dcod.part [Inhabited α] {l : List α} {i k m : Nat} {cs : List Value} (hi : i < l.length) (hk : k + m ≤ c.n) (hc : ((c.enc (l.getD i default) (K + i)).drop k).take m = cs) : ((c.row K l).drop (i * c.n + k)).take m = cs := by
 rw [← hc, ← c.at_ hi, List.drop_take, List.take_take, List.drop_drop]
 congr 1
 omega
theorem Z16 [Inhabited α] {l : List α} {i k o m n : Nat} {cs : List Value} (hn : n = c.n) (hk : Zej P t = some (true, m)) (hb : H[b]? = some (c.B K l)) (hi : i < l.length) (ho : o = i * n + k) (hkm : k + m ≤ n) (hc : ((c.enc (l.getD i default) (K + i)).drop k).take m = cs) : Zdx P G t H (.pointer (some ⟨b, o, none⟩)) = some (.agg cs.toArray) := by
 subst hn; subst ho
 refine Zcu hk hb ?_ (c.part hi hkm hc)
 show _ ≤ (c.row K l).length
 rw [c.row_len]
 have := Nat.mul_le_mul_right c.n (Nat.succ_le_of_lt hi)
 rw [Nat.succ_mul] at this
 omega
theorem Zuq [Inhabited α] {l : List α} {i k o n : Nat} {v : Value} (hn : n = c.n) (hk : Zej P t = some (false, 1)) (hb : H[b]? = some (c.B K l)) (hi : i < l.length) (ho : o = i * n + k) (hkm : k < n) (hc : (c.enc (l.getD i default) (K + i))[k]? = some v) (h1v : Ziz v = true) : Zdx P G t H (.pointer (some ⟨b, o, none⟩)) = some v := by
 subst hn; subst ho
 have h1 : (c.row K l)[i * c.n + k]? = some v := by
  have := c.at_ (K := K) hi
  rw [← hc, ← this, List.getElem?_take, if_pos hkm, List.getElem?_drop]
 unfold Zdx
 rw [hk]
 simp only [hb, Option.bind_some]
 show rdA false 1 (c.row K l) (i * c.n + k) = some v
 unfold rdA
 rw [if_neg (by decide), h1]
 simp [h1v]
theorem Zi8 {lits : List Blk} [Inhabited α] {l : List α} {i : Nat} (hK : lits.length = K) (hi : i < l.length) : (lits ++ l.map c.blk)[K + i]? = some (c.blk (l.getD i default)) := by
 rw [List.getElem?_append_right (by omega), show K + i - lits.length = i from by omega, List.getElem?_map, List.getElem?_eq_getElem hi, List.getD_eq_getElem?_getD, List.getElem?_eq_getElem hi]; rfl
end

section
variable {α : Type} [Inhabited α] (c : Dcod α)
structure Dcod.OK : Prop where
  ren : ∀ (e : Emb) x (b b' : Nat), e[b]? = some (some (b', 0)) → (c.enc x b).map (Zfv e) = c.enc x b'
  nam : ∀ (p : Nat → Bool) x b, p b = true → (c.enc x b).all (Za9 p) = true
  bw : ∀ x, (c.blk x).wr = false
  bp : ∀ x, (c.blk x).pur = true
  bz : ∀ x, 0 < (c.blk x).sz
  bf : ∀ x, (!(c.blk x).fix || !(c.blk x).mv) = true
def Dcod.S (h : Nat) (l : List α) : List Blk := c.B (h + 1) l :: (List.replicate h hole ++ l.map c.blk)
def Dcod.E (b0 K a h q : Nat) : Emb := some (b0, a * c.n) :: (List.replicate h none ++ (List.range q).map fun i => some (K + a + i, 0))
variable {c}
theorem Dcod.E_at {b0 K a h q i : Nat} (hi : i < q) : (c.E b0 K a h q)[h + 1 + i]? = some (some (K + a + i, 0)) := by
 have _ := (inferInstance : Inhabited α)
 unfold Dcod.E
 rw [show h + 1 + i = (h + i) + 1 from by omega, List.getElem?_cons_succ, List.getElem?_append_right (by simp), List.length_replicate, show h + i - h = i from by omega, List.getElem?_map, List.getElem?_range hi]; rfl
theorem Dcod.S_at {h i : Nat} {l : List α} (hi : i < l.length) : (c.S h l)[h + 1 + i]? = some (c.blk (l.getD i default)) := by
 unfold Dcod.S
 rw [show h + 1 + i = (h + i) + 1 from by omega, List.getElem?_cons_succ, List.getElem?_append_right (by simp), List.length_replicate, show h + i - h = i from by omega, List.getElem?_map, List.getElem?_eq_getElem hi, List.getD_eq_getElem?_getD, List.getElem?_eq_getElem hi]; rfl
theorem Dcod.row_ren (hc : c.OK) {e : Emb} : ∀ (l : List α) (K K' : Nat), (∀ i, i < l.length → e[K + i]? = some (some (K' + i, 0))) → (c.row K l).map (Zfv e) = c.row K' l
 | [], K, K', _ => by have _ := (inferInstance : Inhabited α); rfl
 | x :: l, K, K', h => by
  have := Dcod.row_ren hc l (K + 1) (K' + 1) (fun i hi => by rw [show K + 1 + i = K + (i + 1) from by omega, show K' + 1 + i = K' + (i + 1) from by omega]; exact h (i + 1) (by simp; omega))
  unfold Dcod.row at this ⊢
  rw [Zh2, Zh2, List.map_append, this, hc.ren e x K K' (h 0 (by simp))]
theorem Z1l {L : List α} {a q i : Nat} (hi : i < ((L.drop a).take q).length) : ((L.drop a).take q).getD i default = L.getD (a + i) default := by
 have h1 : i < q := by simp at hi; omega
 rw [List.getD_eq_getElem?_getD, List.getD_eq_getElem?_getD, List.getElem?_take, if_pos h1, List.getElem?_drop]
theorem Dcod.roOK (hc : c.OK) {H : List Blk} {b0 K a h q : Nat} {L l : List α} {argsL argsC : List Value} (hl : l = (L.drop a).take q) (hq : a + q ≤ L.length) (hB : H[b0]? = some (c.B K L)) (hD : ∀ i, i < L.length → H[K + i]? = some (c.blk (L.getD i default)))
  (ha : Zjs (c.E b0 K a h q) argsL argsC) (hn : argsL.all (Zeg (Zh9 (c.S h l))) = true) : RoOK H (c.E b0 K a h q) argsL argsC (c.S h l) := by
 have hll : l.length = q := by rw [hl]; simp; omega
 have hlive : ∀ i, i < l.length → Zh9 (c.S h l) (h + 1 + i) = true := by
  intro i hi
  unfold Zh9
  rw [Dcod.S_at hi]
  have := hc.bz (l.getD i default)
  exact bne_iff_ne.2 (by omega)
 have hinE : ∀ i, i < l.length → inE (c.E b0 K a h q) (h + 1 + i) = true := by
  intro i hi
  unfold inE
  rw [Dcod.E_at (by omega)]
 have hmem : ∀ x, x ∈ c.S h l → x = c.B (h + 1) l ∨ x = hole ∨ ∃ y, x = c.blk y := by
  intro x hx
  unfold Dcod.S at hx
  simp only [List.mem_cons, List.mem_append, List.mem_replicate, List.mem_map] at hx
  rcases hx with hx | ⟨_, hx⟩ | ⟨y, _, hx⟩
  ·exact .inl hx
  ·exact .inr (.inl hx)
  ·exact .inr (.inr ⟨y, hx.symm⟩)
 refine ⟨ha, by simp [Dcod.E, Dcod.S, hll], ?_, ?_, ?_, hn, ?_⟩
 ·intro i p L' h1 h2
  rcases Nat.lt_or_ge i (h + 1) with hi | hi
  ·cases i with
   | zero =>
    have e1 : p = some (b0, a * c.n) := by simpa [Dcod.E] using h1.symm
    have e2 : L' = c.B (h + 1) l := by simpa [Dcod.S] using h2.symm
    subst e1; subst e2
    rw [Zg7 (show (c.B (h + 1) l).sz ≠ 0 from by have := c.pos; show c.n ≠ 0; omega)]
    have hlen : (c.row (h + 1) l).length = q * c.n := by rw [c.row_len, hll]
    refine Zdh hB (by have := c.pos; simp [Dcod.B, this]) ?_ ?_
    ·show a * c.n + (c.row (h + 1) l).length ≤ (c.row K L).length
     rw [hlen, c.row_len, ← Nat.add_mul]; exact Nat.mul_le_mul_right _ hq
    ·show ((c.row K L).drop (a * c.n)).take (c.row (h + 1) l).length = (c.row (h + 1) l).map _
     rw [hlen, c.row_drop, c.row_take, ← hl]
     exact (Dcod.row_ren hc l (h + 1) (K + a) (fun i hi => Dcod.E_at (by omega))).symm
   | succ i =>
    have e1 : p = none := by
     unfold Dcod.E at h1
     rw [List.getElem?_cons_succ, List.getElem?_append_left (by simp; omega), List.getElem?_replicate, if_pos (by omega)] at h1
     injection h1 with h1; exact h1.symm
    have e2 : L' = hole := by
     unfold Dcod.S at h2
     rw [List.getElem?_cons_succ, List.getElem?_append_left (by simp; omega), List.getElem?_replicate, if_pos (by omega)] at h2
     injection h2 with h2; exact h2.symm
    subst e1; subst e2
    exact ⟨rfl, rfl, by decide⟩
  ·obtain ⟨j, rfl⟩ : ∃ j, i = h + 1 + j := ⟨i - (h + 1), by omega⟩
   have hj : j < l.length := by
    have := (List.getElem?_eq_some_iff.1 h2).1
    simp [Dcod.S] at this; omega
   rw [Dcod.E_at (by omega)] at h1
   injection h1 with h1; subst h1
   rw [Dcod.S_at hj] at h2
   injection h2 with h2; subst h2
   have hz := hc.bz (l.getD j default)
   rw [Zg7 (by omega)]
   have hg : l.getD j default = L.getD (a + j) default := by subst hl; exact Z1l hj
   refine Zdh (B := c.blk (l.getD j default)) (by rw [hg, Nat.add_assoc]; exact hD _ (by omega)) ?_ (by rw [Nat.zero_add]; exact Nat.le_refl _) ?_
   ·have h1 := hc.bw (l.getD j default); have h2 := hc.bp (l.getD j default); have h3 := hc.bf (l.getD j default)
    generalize c.blk (l.getD j default) = Y at hz h1 h2 h3 ⊢
    simp [hz, h1, h2]; simpa using h3
   ·unfold Zco; rw [if_pos (hc.bp _)]; simp
 ·intro x hx
  rcases hmem x hx with rfl | rfl | ⟨y, rfl⟩
  ·rfl
  ·rfl
  ·exact hc.bw y
 ·intro x hx
  rcases hmem x hx with rfl | rfl | ⟨y, rfl⟩
  ·right
   intro v hv
   have g1 := Dcod.row_names c (fun x b hb => hc.nam _ x b hb) l (h + 1) hinE
   have g2 := Dcod.row_names c (fun x b hb => hc.nam _ x b hb) l (h + 1) hlive
   exact ⟨List.all_eq_true.1 g1 v hv, List.all_eq_true.1 g2 v hv⟩
  ·exact .inl rfl
  ·exact .inl (hc.bp y)
 ·intro x hx hz
  rcases hmem x hx with rfl | rfl | ⟨y, rfl⟩
  ·have := c.pos; simp only [Dcod.B] at hz; omega
  ·rfl
  ·have := hc.bz y; omega
theorem Dcod.S_ro (hc : c.OK) (h : Nat) (l : List α) : ∀ x, x ∈ c.S h l → x.wr = false := by
 have _ := (inferInstance : Inhabited α)
 intro x hx
 unfold Dcod.S at hx
 simp only [List.mem_cons, List.mem_append, List.mem_replicate, List.mem_map] at hx
 rcases hx with rfl | ⟨_, rfl⟩ | ⟨y, _, rfl⟩
 ·rfl
 ·rfl
 ·exact hc.bw y
end
section
variable {P : Program} {G : Glob}
theorem Zys (x : Blk) : okN [] x := .inr (List.all_eq_true.2 fun v _ => Zgq (fun _ => rfl) v)
theorem Zms {D : List Nat} : ∀ x, x ∈ ([] : List Blk) → okN D x := fun x h => by cases h
theorem Z1 {D : List Nat} {y : Blk} {l : List Blk} (h : okN D y) (t : ∀ x, x ∈ l → okN D x) : ∀ x, x ∈ y :: l → okN D x := fun x hx => by
 rcases List.mem_cons.1 hx with rfl | hx
 ·exact h
 ·exact t x hx
theorem Zmr {D : List Nat} {l m : List Blk} (h : ∀ x, x ∈ l → okN D x) (t : ∀ x, x ∈ m → okN D x) : ∀ x, x ∈ l ++ m → okN D x := fun x hx => by
 rcases List.mem_append.1 hx with hx | hx
 ·exact h x hx
 ·exact t x hx
theorem Zmt {α : Type} [Inhabited α] (c : Dcod α) (hc : c.OK) {D : List Nat} {l : List α} : ∀ x, x ∈ l.map c.blk → okN D x := fun x hx => by
 obtain ⟨y, _, rfl⟩ := List.mem_map.1 hx
 exact .inl (hc.bp y)
theorem Zmu {α : Type} [Inhabited α] (c : Dcod α) (hc : c.OK) {D : List Nat} {K : Nat} {l : List α} (h : D.all (fun j => decide (j < K)) = true) : okN D (c.B K l) := by
 refine .inr (Dcod.row_names c (fun x b hb => hc.nam _ x b hb) l K fun i _ => ?_)
 cases hq : D.contains (K + i) with
 | false => rfl
 | true =>
  have h1 := List.all_eq_true.1 h (K + i) (by simpa using hq)
  simp at h1
  exact absurd h1 (by omega)
theorem Zmb {D : List Nat} {lits lits' tail : List Blk} (h : lits' = lits.zipIdx.map fun p => if D.contains p.2 then hole else p.1) (hD : (D.all fun j => decide (j < lits.length)) = true) (b : Nat) :
  (lits' ++ tail)[b]? = if D.contains b then ((lits ++ tail)[b]?).map (fun _ => hole) else (lits ++ tail)[b]? := by
 have hl : lits'.length = lits.length := by rw [h]; simp
 rcases Nat.lt_or_ge b lits.length with hb | hb
 ·rw [List.getElem?_append_left (by omega), List.getElem?_append_left hb, h, List.getElem?_map, List.getElem?_zipIdx, List.getElem?_eq_getElem hb]
  simp only [Option.map_some, Nat.zero_add]
  split <;> rfl
 ·rw [List.getElem?_append_right (by omega), List.getElem?_append_right hb, hl, if_neg]
  intro hq
  have := List.all_eq_true.1 hD b (by simpa using hq)
  simp at this; omega
end

section
variable {α : Type} [Inhabited α] {c : Dcod α} {G : Glob} {W : World}
def Zma (h n : Nat) (rr : Reg) (rs : Nat → Reg) : MapM := fun b => if b = 0 then some rr else if h + 1 ≤ b ∧ b < h + 1 + n then some (rs (b - (h + 1))) else none
theorem HRel.deep (hg : HRel G (fun _ => Option.none) [] W) (hc : c.OK) (h : Nat) (l : List α) (rr : Reg) (rs : Nat → Reg)
    (h1 : rr.wr = false ∧ rr.fix = false ∧ rr.len = l.length * c.n ∧ rr.sz = c.n ∧ rr.mv = true)
    (h2 : ∀ i, i < l.length → (rs i).wr = (c.blk (l.getD i default)).wr ∧ (rs i).fix = (c.blk (l.getD i default)).fix ∧ (rs i).len = (c.blk (l.getD i default)).cells.length ∧ (rs i).sz = (c.blk (l.getD i default)).sz ∧ (rs i).mv = (c.blk (l.getD i default)).mv)
    (h3 : ∀ i, i < l.length → ∀ j v, (c.blk (l.getD i default)).cells[j]? = some v → W.cell? ⟨(rs i).g, (rs i).lo + j, Option.none⟩ = some v ∧ Zbj v = true)
    (h4 : ∀ i, i < l.length → ∀ j v, (c.enc (l.getD i default) (h + 1 + i))[j]? = some v → ∃ v', W.cell? ⟨rr.g, rr.lo + (i * c.n + j), Option.none⟩ = some v' ∧ CR (Zma h l.length rr rs) v v') :
    HRel G (Zma h l.length rr rs) (c.S h l) W ∧ ∀ b r, Zma h l.length rr rs b = some r → r.wr = false := by
  have hcase : ∀ b r, Zma h l.length rr rs b = some r → (b = 0 ∧ r = rr) ∨ ∃ i, i < l.length ∧ b = h + 1 + i ∧ r = rs i := by
    intro b r hb
    unfold Zma at hb
    split at hb
    · injection hb with hb; exact .inl ⟨by assumption, hb.symm⟩
    · split at hb
      · rename_i hr
        injection hb with hb
        exact .inr ⟨b - (h + 1), by omega, by omega, hb.symm⟩
      · cases hb
  have hro : ∀ b r, Zma h l.length rr rs b = some r → r.wr = false := by
    intro b r hb
    rcases hcase b r hb with ⟨_, rfl⟩ | ⟨i, hi, _, rfl⟩
    · exact h1.1
    · rw [(h2 i hi).1]; exact hc.bw _
  have hget0 : (c.S h l)[0]? = some (c.B (h + 1) l) := rfl
  have hblk : ∀ (b : Nat) (x : Blk), (c.S h l)[b]? = some x → (b = 0 ∧ x = c.B (h + 1) l) ∨ x = Flat.hole ∨ ∃ i, i < l.length ∧ b = h + 1 + i ∧ x = c.blk (l.getD i default) := by
    intro b x hx
    rcases Nat.lt_or_ge b (h + 1) with hb | hb
    · cases b with
      | zero => rw [hget0] at hx; injection hx with hx; exact .inl ⟨rfl, hx.symm⟩
      | succ b =>
        unfold Dcod.S at hx
        rw [List.getElem?_cons_succ, List.getElem?_append_left (by simp; omega), List.getElem?_replicate, if_pos (by omega)] at hx
        injection hx with hx; exact .inr (.inl hx.symm)
    · obtain ⟨i, rfl⟩ : ∃ i, b = h + 1 + i := ⟨b - (h + 1), by omega⟩
      have hi : i < l.length := by
        have := (List.getElem?_eq_some_iff.1 hx).1
        simp [Dcod.S] at this; omega
      rw [Dcod.S_at hi] at hx
      injection hx with hx
      exact .inr (.inr ⟨i, hi, rfl, hx.symm⟩)
  refine ⟨⟨?_, ?_, ?_, ?_, ?_, ?_, ?_, hg.glob, ?_⟩, hro⟩
  · intro b r hb
    rcases hcase b r hb with ⟨rfl, rfl⟩ | ⟨i, hi, rfl, rfl⟩
    · exact ⟨c.B (h + 1) l, hget0, c.pos, h1.1, h1.2.1, by show _ = (c.row _ l).length; rw [c.row_len]; exact h1.2.2.1, h1.2.2.2.1, h1.2.2.2.2⟩
    · exact ⟨_, Dcod.S_at hi, hc.bz _, h2 i hi⟩
  · intro b x hx hz
    rcases hblk b x hx with ⟨rfl, rfl⟩ | rfl | ⟨i, hi, rfl, rfl⟩
    · exact ⟨rr, rfl⟩
    · exact absurd hz (by decide)
    · exact ⟨rs i, by unfold Zma; rw [if_neg (by omega), if_pos ⟨by omega, by omega⟩, show h + 1 + i - (h + 1) = i from by omega]⟩
  · intro b x r j v hx hb hv
    rcases hcase b r hb with ⟨rfl, rfl⟩ | ⟨i, hi, rfl, rfl⟩
    · rw [hget0] at hx; injection hx with hx; subst hx
      have hj : j < l.length * c.n := by have := (List.getElem?_eq_some_iff.1 hv).1; simp only [Dcod.B] at this; rwa [c.row_len] at this
      have hp := c.pos
      have hi : j / c.n < l.length := Nat.div_lt_of_lt_mul (by rw [Nat.mul_comm]; exact hj)
      have hm : j % c.n < c.n := Nat.mod_lt _ hp
      have hd : j / c.n * c.n + j % c.n = j := by rw [Nat.mul_comm]; exact Nat.div_add_mod j c.n
      have he : (c.enc (l.getD (j / c.n) default) (h + 1 + j / c.n))[j % c.n]? = some v := by
        rw [← c.at_ (K := h + 1) hi, List.getElem?_take, if_pos hm, List.getElem?_drop, hd]; exact hv
      obtain ⟨v', g1, g2⟩ := h4 _ hi _ v he
      rw [hd] at g1
      exact ⟨v', g1, g2⟩
    · rw [Dcod.S_at hi] at hx; injection hx with hx; subst hx
      obtain ⟨g1, g2⟩ := h3 i hi j v hv
      exact ⟨v, g1, CR.of_pure g2⟩
  · intro b x hx hp v hv
    rcases hblk b x hx with ⟨rfl, rfl⟩ | rfl | ⟨i, hi, rfl, rfl⟩
    · cases hp
    · cases hv
    · obtain ⟨j, hj⟩ := List.getElem?_of_mem hv
      exact (h3 i hi j v hj).2
  · intro b r hb hw; rw [hro b r hb] at hw; cases hw
  · intro b r hb hw; rw [hro b r hb] at hw; cases hw
  · intro b b' r r' _ hb _ hw; rw [hro b r hb] at hw; cases hw
  · intro b r j hb hw; rw [hro b r hb] at hw; cases hw
end
theorem Z2q {e : Emb} {v : Value} (h : Zbj v = true) : Zfv e v = v := by
  cases v
  case slice a n c => rcases a with _ | a <;> first | rfl | cases h
  case pointer a => rcases a with _ | a <;> first | rfl | cases h
  all_goals first | rfl | cases h
theorem Zjk {e : Emb} {l : List Value} (h : l.all Zbj = true) : l.map (Zfv e) = l := by
 conv => rhs; rw [← List.map_id l]
 exact List.map_congr_left fun v hv => Z2q (List.all_eq_true.1 h v hv)
theorem Zhd {p : Nat → Bool} {l : List Value} (h : l.all Zbj = true) : l.all (Za9 p) = true :=
 List.all_eq_true.2 fun v hv => Zke (List.all_eq_true.1 h v hv)
theorem Z4u {e : Emb} {b b' n k : Nat} (h : e[b]? = some (some (b', 0))) : Zfv e (slv b 0 n k) = slv b' 0 n k := by
 show Zdn e (slv b 0 n k) = _
 simp [Zdn, h]
open Go.ChangeShapes Go.WideShapes Go.RowKit
section
variable {α : Type} [Inhabited α] {G : Glob} {P : Program} {W : World}
def Zvy (P : Program) (te : TypeId) (c : Dcod α) (ok : α → Prop) : Prop :=
  ∀ {H : Type} {enc : TypeId × Value → H} {W : World} {fuel : Nat} {cs : List Value} {x : DataW H × List MemPlace}, DataW.trod enc P W 0 (fun _ => true) true fuel te cs = some x →
    ∃ (y : α) (r : Reg), ok y ∧ (r.wr = (c.blk y).wr ∧ r.fix = (c.blk y).fix ∧ r.len = (c.blk y).cells.length ∧ r.sz = (c.blk y).sz ∧ r.mv = (c.blk y).mv) ∧ (∀ j v, (c.blk y).cells[j]? = some v → W.cell? ⟨r.g, r.lo + j, none⟩ = some v ∧ Zbj v = true) ∧ ∀ (m : MapM) (b : Nat), m b = some r → L2 (CR m) (c.enc y b) cs
variable {H : Type} {enc : TypeId × Value → H} {c : Dcod α} {ok : α → Prop}
theorem Zp7 {te : TypeId} (ho : Zvy P te c ok) {fuel : Nat} {a : Addr} {x : DataW H × List MemPlace} (h : (W.cells? 0 a c.n).bind (DataW.trod enc P W 0 (fun _ => true) true fuel te) = some x) :
  ∃ y : α × Reg, ok y.1 ∧ (y.2.wr = (c.blk y.1).wr ∧ y.2.fix = (c.blk y.1).fix ∧ y.2.len = (c.blk y.1).cells.length ∧ y.2.sz = (c.blk y.1).sz ∧ y.2.mv = (c.blk y.1).mv) ∧ (∀ j v, (c.blk y.1).cells[j]? = some v → W.cell? ⟨y.2.g, y.2.lo + j, none⟩ = some v ∧ Zbj v = true) ∧
   ∃ cs : List Value, (∀ j, j < c.n → W.cell? (a.add j) = cs[j]?) ∧ cs.length = c.n ∧ ∀ (m : MapM) (b : Nat), m b = some y.2 → L2 (CR m) (c.enc y.1 b) cs := by
 have _ := (inferInstance : Inhabited α)
 obtain ⟨cs, h1, h2⟩ := Option.bind_eq_some_iff.1 h
 obtain ⟨_, hl, hc⟩ := World.cells?_some h1
 obtain ⟨y, r, g1, g2, g3, g4⟩ := ho h2
 exact ⟨(y, r), g1, g2, g3, cs, hc, hl, g4⟩
theorem HRel.open_deep (hg : HRel G (fun _ => Option.none) [] W) (hc : c.OK) (h : Nat) {t te : TypeId} (ho : Zvy P te c ok) {base : Nat} {v : Value} {d : DataW H} {p : List MemPlace} (ht : P.underlying t = some (.slice te)) (hce : P.cellsOf te = c.n)
    (hv : Value.okWide P W .any base t v) (htr : DataW.Trod enc P W 0 (fun _ => true) true t v d p) :
    ∃ (l : List α) (cap : Nat) (m : MapM), l.length ≤ cap ∧ cap ≤ 9223372036854775807 ∧ (∀ i, i < l.length → ok (l.getD i default)) ∧ HRel G m (c.S h l) W ∧ (∀ b r, m b = some r → r.wr = false) ∧ VR m (slv 0 0 l.length cap) v := by
  obtain ⟨a0, len0, cap0, rfl⟩ := okWide_slice ht hv
  obtain ⟨fuel, hf⟩ := htr
  have hn := c.pos
  rcases DataW.trod_slice ht hf with ⟨hcs, _⟩ | ⟨a, len, cap, elems, rest, k, _, hcs, _, _, hl, hmx, hlen, hel, hsp, _⟩
  · have hcs' : Value.slice a0 len0 cap0 = .slice Option.none 0 0 := by simpa [Value.cells] using hcs
    injection hcs' with e1 e2 e3
    subst e1; subst e2; subst e3
    obtain ⟨g1, g2⟩ := hg.deep hc h ([] : List α) ⟨0, 0, 0, 0, c.n, false, false, true⟩ (fun _ => ⟨0, 0, 0, 0, 1, false, false, false⟩) ⟨rfl, rfl, by simp, rfl, rfl⟩ (fun i hi => absurd hi (Nat.not_lt_zero _)) (fun i hi => absurd hi (Nat.not_lt_zero _)) (fun i hi => absurd hi (Nat.not_lt_zero _))
    exact ⟨[], 0, _, Nat.le_refl _, Nat.zero_le _, fun i hi => absurd hi (Nat.not_lt_zero _), g1, g2, _, Option.none, 0, rfl, rfl, Nat.le_refl _, Nat.le_refl _, fun h => by omega⟩
  · have hcs' : Value.slice a0 len0 cap0 = .slice (some a) len cap := by simpa [Value.cells] using hcs
    injection hcs' with e1 e2 e3
    subst e1; subst e2; subst e3
    obtain ⟨xs, hxl, hxs⟩ := Zs1 len0 fun i hi => by
      have e := hel i hi
      rw [hce, List.getElem?_eq_getElem (by omega)] at e
      exact Zp7 ho e
    have hlen' : (xs.map (·.1)).length = xs.length := by simp
    have hget : ∀ i (hi : i < xs.length), (xs.map (·.1)).getD i default = (xs[i]).1 := fun i hi => by
      rw [List.getD_eq_getElem?_getD, List.getElem?_map, List.getElem?_eq_getElem hi]; rfl
    let rs : Nat → Reg := fun i => match xs[i]? with | some y => y.2 | Option.none => ⟨0, 0, 0, 0, 1, false, false, false⟩
    have hrs : ∀ i (hi : i < xs.length), rs i = (xs[i]).2 := fun i hi => by simp only [rs, List.getElem?_eq_getElem hi]
    have hspot : 0 < cap0 → a.spot = Option.none := by
      intro hc0
      have key : ∀ {fuel : Nat} {x : DataW H × List MemPlace}, (W.cells? 0 (a.add (0 * c.n)) c.n).bind (DataW.trod enc P W 0 (fun _ => true) true fuel te) = some x → a.spot = Option.none := by
        intro fuel x h
        obtain ⟨y, _, _, _, cs, h1, h2, _⟩ := Zp7 ho h
        have h3 := h1 0 hn
        rw [Zow, Nat.zero_mul, List.getElem?_eq_getElem (by rw [h2]; exact hn)] at h3
        exact Zpi h3
      rcases Nat.eq_zero_or_pos len0 with h0 | h0
      · subst h0
        obtain ⟨s1, s2⟩ := hsp rfl
        have e := s2 0 (by omega)
        rw [hce, List.getElem?_eq_getElem (by omega)] at e
        exact key e
      · have e := hel 0 h0
        rw [hce, List.getElem?_eq_getElem (by omega)] at e
        exact key e
    obtain ⟨g1, g2⟩ := hg.deep hc h (xs.map (·.1)) ⟨a.block, a.off, a.off + cap0 * c.n, (xs.map (·.1)).length * c.n, c.n, false, false, true⟩ rs ⟨rfl, rfl, rfl, rfl, rfl⟩
      (fun i hi => by
        rw [hlen'] at hi
        rw [hget i hi, hrs i hi]
        exact (hxs i _ (List.getElem?_eq_getElem hi)).2.1)
      (fun i hi j v hj => by
        rw [hlen'] at hi
        rw [hget i hi] at hj
        rw [hrs i hi]
        exact (hxs i _ (List.getElem?_eq_getElem hi)).2.2.1 j v hj)
      (fun i hi j v hj => by
        rw [hlen'] at hi
        rw [hget i hi] at hj
        obtain ⟨_, _, _, cs, k1, k2, k3⟩ := hxs i _ (List.getElem?_eq_getElem hi)
        have hm : Zma h (xs.map (·.1)).length ⟨a.block, a.off, a.off + cap0 * c.n, (xs.map (·.1)).length * c.n, c.n, false, false, true⟩ rs (h + 1 + i) = some (xs[i]).2 := by
          unfold Zma
          rw [if_neg (by omega), if_pos ⟨by omega, by rw [hlen']; omega⟩, show h + 1 + i - (h + 1) = i from by omega, hrs i hi]
        obtain ⟨v', q1, q2⟩ := (k3 _ _ hm).get hj
        have hjn : j < c.n := by have := (List.getElem?_eq_some_iff.1 hj).1; rwa [c.len] at this
        have h5 := k1 j hjn
        rw [q1, Zow] at h5
        exact ⟨v', Ztt h5, q2⟩)
    refine ⟨xs.map (·.1), cap0, _, by rw [hlen']; omega, hmx, fun i hi => ?_, g1, g2, ?_⟩
    · rw [hlen'] at hi
      rw [hget i hi]; exact (hxs i _ (List.getElem?_eq_getElem hi)).1
    · rw [show (xs.map (·.1)).length = len0 from by rw [hlen', hxl]]
      refine ⟨_, some a, cap0, rfl, rfl, hl, Nat.le_refl _, fun hc0 => ⟨?_, fun _ => ?_, fun h _ _ => by cases h⟩⟩
      · have := hspot hc0
        obtain ⟨g, o, s⟩ := a
        simp only at this
        subst this
        rfl
      · show a.off + 0 + cap0 * c.n ≤ a.off + cap0 * c.n
        omega
end
section
variable {H : Type} {enc : TypeId × Value → H} {P : Program} {W : World} {α : Type} {ok : α → Prop}
theorem Z4o {t te : TypeId} (c : Cod α) (ho : Zax P te c.enc ok) (ht : P.underlying t = some (.slice te)) (hce : P.cellsOf te = c.n)
  {n off : Nat} {cs : List Value} {ys : List (DataW H × List MemPlace)} {i : Nat} {f : Go.Field} (hf : DataW.trod enc P W 0 (fun _ => true) true n f.type ((cs.drop f.offset).take (P.cellsOf f.type)) = ys[i]?) (hi : i < ys.length) (ht' : f.type = t) (hc : P.cellsOf t = 1) (hoff : f.offset = off) :
  ∃ (v : Value) (xs : List α) (cap : Nat) (r : Reg), (cs.drop off).take 1 = [v] ∧ xs.length ≤ cap ∧ cap ≤ 9223372036854775807 ∧ r.wr = false ∧ r.fix = false ∧ r.len = xs.length * c.n ∧ r.sz = c.n ∧ r.mv = true ∧ (∀ x, x ∈ xs → ok x) ∧ (∀ k v, (c.row xs)[k]? = some v → W.cell? ⟨r.g, r.lo + k, none⟩ = some v) ∧ ∀ (m : MapM) (b : Nat), m b = some r → VR m (slv b 0 xs.length cap) v := by
 subst ht'; subst hoff
 rw [List.getElem?_eq_getElem hi, hc] at hf
 exact Zzv ho ht hce hf
end
end Go.Flat
end
