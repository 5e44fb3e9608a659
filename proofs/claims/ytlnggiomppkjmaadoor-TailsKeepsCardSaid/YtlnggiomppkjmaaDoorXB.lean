/- Walks. -/
import Derived.Test.YtlnggiomppkjmaaDoorFlatG
import Derived.Laws.Strings
set_option linter.unusedVariables false
set_option linter.unusedSimpArgs false
set_option maxRecDepth 20000
section
/- Moves and joins of whole numbers; bytes. -/
namespace Go.Flat
section
variable {P : Program} {t : TypeId} {u v : Operand}
theorem Z0v {x y z : Int} {yk : IntKind} (n : Nat) (hy : y = (n : Int)) (hn : n ≤ 64) (h0 : 0 ≤ x) (hz : x / 2 ^ n = z) : Zcf P .shr t u v (.int .i64 x) (.int yk y) = some (.int .i64 z) := Zma (.inr rfl) (by
 subst hy; subst hz
 simp only [Op.shift]
 rw [if_neg (by omega)]
 have hm : min ((n : Int).toNat) IntKind.i64.bits = n := by rw [Int.toNat_natCast]; exact Nat.min_eq_left hn
 simp only [Z4, hm]
 rw [Int.fdiv_eq_ediv_of_nonneg _ (Int.le_of_lt (Int.pow_pos (by decide)))]) rfl
end
section
variable {P : Program} {t : TypeId} {H : List Blk} {b o : Nat}
theorem Z31 {n c l : Nat} {k : IntKind} {x : Int} (hx : x = (l : Int)) (h : l ≤ n) : Zdk n c (some (.int k x)) none = some (l, n) := by
 subst hx
 simp only [Zdk, Zi5, Option.bind_some]
 rw [if_pos ⟨by omega, by omega⟩]; simp
theorem Zx3 {n l h sz j m c : Nat} {e : TypeId} {i : TypeInfo} {vl vh : Option Value} (hu : P.underlying t = some (.array n e)) (hi : P.info? e = some i) (hz : i.size = sz) (hb : Zdk n n vl vh = some (l, h)) (ha : Znw H b = true) (hj : o + l * sz = j) (hm : h - l = m) (hc : n - l = c) : Zg7 P H t (.pointer (some ⟨b, o, none⟩)) vl vh = some (slv b j m c) := by
 subst hj; subst hm; subst hc; subst hz
 unfold Zg7
 rw [hu]
 simp only [hb, Option.bind_some, hi, ha, if_true]
end
end Go.Flat
end
section
/- The end of a function whose new blocks lie anywhere. -/
namespace Go.Flat
def Zi6 (ids : List Nat) : Emb := ids.map fun i => some (i, 0)
theorem Zh9 {ids : List Nat} {i k : Nat} (h : ids[i]? = some k) : (Zi6 ids)[i]? = some (some (k, 0)) := by simp [Zi6, h]
theorem Zlk {ids : List Nat} {n : Nat} (hid : ∀ i : Nat, i < n → ids[i]? = some i) {v : Value} (h : Zeg n v = true) : Zc8 (Zi6 ids) v = v ∧ Zcx (inE (Zi6 ids)) v = true := by
 cases v
 case pointer a =>
  rcases a with _ | ⟨b, o, _ | q⟩
  ·exact ⟨rfl, rfl⟩
  ·simp only [Zeg, decide_eq_true_eq] at h
   simp [Zc8, Zcx, inE, Zh9 (hid b h)]
  ·exact ⟨rfl, rfl⟩
 case slice a m c =>
  rcases a with _ | ⟨b, o, _ | q⟩
  ·exact ⟨rfl, rfl⟩
  ·simp only [Zeg, decide_eq_true_eq] at h
   simp [Zc8, Zcx, inE, Zh9 (hid b h)]
  ·cases h
 all_goals exact ⟨rfl, rfl⟩
theorem map_id {ids : List Nat} {n : Nat} (hid : ∀ i : Nat, i < n → ids[i]? = some i) {v : Value} (h : Zib n v = true) : Ze6 (Zi6 ids) v = v ∧ Zan (inE (Zi6 ids)) v = true := by
  revert h
  refine Zem (P := fun v => Zib n v = true → Ze6 (Zi6 ids) v = v ∧ Zan (inE (Zi6 ids)) v = true) ?_ ?_ v
  · intro v hf h
    have h' : Zeg n v = true := by cases v <;> first | exact h | cases hf
    rw [Zjh hf, Zia hf]; exact Zlk hid h'
  · intro f xs ys h
    simp only [Zib, Bool.and_eq_true, List.all_eq_true] at h
    refine ⟨?_, ?_⟩
    · simp only [Ze6]
      have e1 : xs.map (Zc8 (Zi6 ids)) = xs := by
        conv => rhs; rw [← Array.map_id xs]
        exact Array.map_congr_left fun x hx => (Zlk hid (h.1 x (Array.mem_toList_iff.2 hx))).1
      have e2 : ys.map (Zc8 (Zi6 ids)) = ys := by
        conv => rhs; rw [← Array.map_id ys]
        exact Array.map_congr_left fun x hx => (Zlk hid (h.2 x (Array.mem_toList_iff.2 hx))).1
      rw [e1, e2]
    · simp only [Zan, Bool.and_eq_true, List.all_eq_true]
      exact ⟨fun x hx => (Zlk hid (h.1 x hx)).2, fun x hx => (Zlk hid (h.2 x hx)).2⟩
section
variable {P : Program} {G : Glob} {s : St} {fn : Func} {σ σ' : List Blk} {res v : Value}
theorem Zbc (ids : List Nat) (hr : Zd9 P G fn s = some v) (hh : ids.map (fun i => s.heap[i]?) = σ'.map some) (hl : decide (σ.length ≤ σ'.length) = true) (hf : ids.take σ.length = List.range σ.length) (hd : ids.Nodup)
    (hn : σ'.all (Zbe σ.length) = true) (hv : Zku (Zi6 ids) res v) : ∃ v e, EndOK P G fn σ res σ' s v e := by
  have hlen : ids.length = σ'.length := by have := congrArg List.length hh; simpa using this
  have hl' : σ.length ≤ σ'.length := by simpa using hl
  have hget : ∀ (i k : Nat), ids[i]? = some k → s.heap[k]? = σ'[i]? := fun i k hk => by
    have := congrArg (fun l : List (Option Blk) => l[i]?) hh
    simp only [List.getElem?_map, hk, Option.map_some] at this
    cases h : σ'[i]? with
    | none => rw [h] at this; simp at this
    | some L => rw [h] at this; simpa using this
  have hid : ∀ (i : Nat), i < σ.length → ids[i]? = some i := fun i hi => by
    have := congrArg (fun l : List Nat => l[i]?) hf
    simpa [List.getElem?_take, hi] using this
  simp only [List.all_eq_true, Zbe, Bool.and_eq_true, decide_eq_true_eq, Bool.or_eq_true, Bool.not_eq_true'] at hn
  refine ⟨v, Zi6 ids, hr, ⟨by simp [Zi6, hlen], ?_, ?_⟩, ?_, hv, ⟨by simp [Zi6, hlen, hl'], ?_⟩⟩
  · intro i p L hp hL
    have hi : i < ids.length := by rw [hlen]; exact (List.getElem?_eq_some_iff.1 hL).1
    have hk := List.getElem?_eq_getElem hi
    rw [Zh9 hk] at hp
    injection hp with hp; subst hp
    obtain ⟨⟨h1, h3⟩, h2⟩ := hn L (List.mem_of_getElem? hL)
    refine ⟨L, by rw [hget i _ hk]; exact hL, ⟨h1, h1, fun h => by rcases h3 with h3 | h3; rw [h] at h3; cases h3; exact h3⟩, rfl, fun _ => rfl, fun h => h, by omega, fun hw => ⟨hw, rfl, rfl, fun h => h, rfl, rfl⟩, ?_⟩
    simp only [List.drop_zero, List.take_length]
    unfold Zci
    split
    · rfl
    · rename_i hp
      rcases h2 with h2 | h2
      · exact absurd h2 hp
      · conv => lhs; rw [← List.map_id L.cells]
        exact List.map_congr_left fun x hx => ((map_id hid (h2 x hx)).1).symm
  · intro i j id sh sh' L hij h1 h2 hw h3
    have hi : i < ids.length := by rw [hlen]; exact (List.getElem?_eq_some_iff.1 h2).1
    have hj : j < ids.length := by have := (List.getElem?_eq_some_iff.1 h3).1; simpa [Zi6] using this
    rw [Zh9 (List.getElem?_eq_getElem hi)] at h1
    rw [Zh9 (List.getElem?_eq_getElem hj)] at h3
    injection h1 with h1; injection h1 with h1; injection h1 with h1
    injection h3 with h3; injection h3 with h3; injection h3 with h3
    exact hij ((List.getElem_inj hd).1 (by rw [h1, h3]))
  · intro i L hL
    obtain ⟨h1, h2⟩ := hn L (List.mem_of_getElem? hL)
    rcases h2 with h2 | h2
    · exact .inl h2
    · exact .inr fun v hv => (map_id hid (h2 v hv)).2
  · intro b L hb hL
    exact ⟨L, by rw [hget b b (hid b hb)]; exact hL, Zh9 (hid b hb), rfl, rfl, rfl, rfl, rfl⟩
end
end Go.Flat
end
section
/- Regions that draw their order and hold an operation that moves a row (an append, a call). -/
namespace Go.Flat
section
variable {P : Program} {G : Glob}
def Zoj (k : Nat) (x : Blk) : Bool := x.pur || x.cells.all (Zan (· != k))
theorem Zkk {p : Nat → Bool} {v : Value} (h : Zdx p v = true) : killV p v = v := by unfold killV; rw [if_pos h]
theorem Zok {k : Nat} {x : Blk} (h : Zoj k x = true) : Zbz (· != k) x = x := by
  unfold Zoj at h
  rw [Bool.or_eq_true] at h
  unfold Zbz
  split
  · rfl
  · rename_i hp
    rcases h with h | h
    · exact absurd h hp
    · have : x.cells.map (killC (· != k)) = x.cells := by
        conv => rhs; rw [← List.map_id x.cells]
        refine List.map_congr_left fun c hc => ?_
        unfold killC
        rw [if_pos (List.all_eq_true.1 h c hc)]; rfl
      rw [this]
def Zmn (δ δ' : Delta) : Bool := match δ.kill with | none => true | some k => Zdx (· != k) δ'.val && δ'.sets.all fun q => Zoj k q.2
def Zjg (ops : Array Oper) (o : Oper) (δ : Delta) (o' : Oper) (δ' : Delta) : Bool :=
  (δ.kill.isNone || δ'.kill.isNone) && o.apart ops o' && (δ.sets.all fun p => !δ'.foot.contains p.1 && δ'.sets.all fun q => q.1 != p.1) && (δ'.sets.all fun p => !δ.foot.contains p.1) && Zmn δ δ' && Zmn δ' δ
def Zlj (ops : Array Oper) (s : St) (δ : Delta) (o' : Oper) (δ' : Delta) : Bool := match δ.kill with
  | none => true
  | some k => ((o'.looksAt ops).all fun t => Zdx (· != k) (s.tmps t)) && δ'.foot.all fun b => match s.heap[b]? with | none => true | some x => Zoj k x
def Zip (ops : Array Oper) (s : St) (o : Oper) (δ : Delta) (o' : Oper) (δ' : Delta) : Bool := Zjg ops o δ o' δ' && Zlj ops s δ o' δ' && Zlj ops s δ' o δ
theorem Zzg {ops : Array Oper} {s : St} {o o' : Oper} {δ δ' : Delta} (h : Zip ops s o δ o' δ' = true) : Zjg ops o δ o' δ' = true := by
 simp only [Zip, Bool.and_eq_true] at h; exact h.1.1
theorem Zrx {ops : Array Oper} {o o' : Oper} {δ δ' : Delta} {s : St} (h : Zjg ops o δ o' δ' = true) (hi : δ.inside s.heap.length = true) (hi' : δ'.inside s.heap.length = true) :
    δ'.apply o'.dst (δ.apply o.dst s) = δ.apply o.dst (δ'.apply o'.dst s) := by
  simp only [Zjg, Bool.and_eq_true, Bool.or_eq_true, Option.isNone_iff_eq_none, List.all_eq_true] at h
  obtain ⟨⟨⟨⟨⟨hk, hap⟩, hs⟩, hs'⟩, ho⟩, ho'⟩ := h
  obtain ⟨h1, h2, h3⟩ := Oper.apart_spec hap
  apply St.ext'
  · intro t
    rw [Zbs, Zbs, Zbs, Zbs]
    simp only [Zpn]
    by_cases e1 : o.dst = some t
    · have := h2 t e1
      rw [if_pos e1, if_neg this, if_pos e1]
      cases hq : δ'.kill with
      | none => rfl
      | some k =>
        simp only [Zmn, hq, Bool.and_eq_true] at ho'
        exact Zkk ho'.1
    · rw [if_neg e1, if_neg e1]
      by_cases e2 : o'.dst = some t
      · rw [if_pos e2, if_pos e2]
        cases hq : δ.kill with
        | none => rfl
        | some k =>
          simp only [Zmn, hq, Bool.and_eq_true] at ho
          exact (Zkk ho.1).symm
      · rw [if_neg e2, if_neg e2]
        rcases hk with hk | hk <;> simp only [hk]
  · intro b
    rw [Zb1 _ _ _ (by rw [Zay _ _ _ hi]; exact hi'), Zb1 _ _ _ hi, Zb1 _ _ _ (by rw [Zay _ _ _ hi']; exact hi), Zb1 _ _ _ hi']
    cases hb : s.heap[b]? with
    | none => rfl
    | some x =>
      simp only [Option.map_some]
      congr 1
      have key : ∀ (δ δ' : Delta) (x : Blk), Zmn δ δ' = true → δ'.kill = none → (∀ p, p ∈ δ.sets → p.1 = b → ∀ q, q ∈ δ'.sets → q.1 ≠ b) → Zmb δ' b (Zmb δ b x) = Zmb δ b (Zmb δ' b x) := by
        intro δ δ' x ho hk' hd
        simp only [Zmb, hk']
        by_cases hex : ∃ p, p ∈ δ.sets ∧ p.1 = b
        · obtain ⟨p, hp, hpb⟩ := hex
          have hno := hd p hp hpb
          rw [Zcj δ'.sets _ hno, Zcj δ'.sets _ hno]
        · have hno : ∀ q, q ∈ δ.sets → q.1 ≠ b := fun q hq e => hex ⟨q, hq, e⟩
          rw [Zcj δ.sets _ hno, Zcj δ.sets _ hno]
          cases hkk : δ.kill with
          | none => rfl
          | some k =>
            simp only [Zmn, hkk, Bool.and_eq_true, List.all_eq_true] at ho
            simp only
            have gen : ∀ (l : List (Nat × Blk)) (y : Blk), (∀ q, q ∈ l → Zoj k q.2 = true) → l.foldl (fun x p => if p.1 = b then p.2 else x) (Zbz (· != k) y) = Zbz (· != k) (l.foldl (fun x p => if p.1 = b then p.2 else x) y) := by
              intro l
              induction l with
              | nil => intro y _; rfl
              | cons q l ih =>
                intro y hy
                rw [List.foldl_cons, List.foldl_cons]
                by_cases hq : q.1 = b
                · rw [if_pos hq, if_pos hq, ← ih _ fun q' hq' => hy q' (by simp [hq']), Zok (hy q (by simp))]
                · rw [if_neg hq, if_neg hq]; exact ih _ fun q' hq' => hy q' (by simp [hq'])
            exact gen _ _ fun q hq => ho.2 q hq
      rcases hk with hk | hk
      · refine (key δ' δ x ho' hk fun p hp hpb q hq hqb => ?_).symm
        have := (hs q hq).2 p hp
        simp [hpb, hqb] at this
      · refine key δ δ' x ho hk fun p hp hpb q hq hqb => ?_
        have := (hs p hp).2 q hq
        simp [hpb, hqb] at this
def Zvk (ops : Array Oper) (s : St) (o' : Oper) (δ' : Delta) (o : Oper) (δ : Delta) : Prop := (∀ t, t ∈ o.looksAt ops → Zpn δ' o'.dst t (s.tmps t) = s.tmps t) ∧ (∀ b, b ∈ δ.foot → ∀ x, s.heap[b]? = some x → Zmb δ' b x = x)
theorem Z06 {ops : Array Oper} {s : St} {o o' : Oper} {δ δ' : Delta} (hd : ∀ t, o'.dst = some t → t ∉ o.looksAt ops) (hs : ∀ p, p ∈ δ'.sets → δ.foot.contains p.1 = false) (hl : Zlj ops s δ' o δ = true) : Zvk ops s o' δ' o δ := by
 refine ⟨fun t ht => ?_, fun b hb x hx => ?_⟩
 ·simp only [Zpn]
  rw [if_neg (fun e => hd t e ht)]
  cases hk : δ'.kill with
  | none => rfl
  | some k =>
   simp only [Zlj, hk, Bool.and_eq_true, List.all_eq_true] at hl
   exact Zkk (hl.1 t ht)
 ·simp only [Zmb]
  rw [Zcj _ _ fun p hp e => by
   have := hs p hp
   rw [e] at this
   simp [hb] at this]
  cases hk : δ'.kill with
  | none => rfl
  | some k =>
   simp only [Zlj, hk, Bool.and_eq_true, List.all_eq_true] at hl
   have := hl.2 b hb
   rw [hx] at this
   exact Zok this
theorem Z29 {ops : Array Oper} {s : St} {o o' : Oper} {δ δ' : Delta} (h : Zip ops s o' δ' o δ = true) : Zvk ops s o' δ' o δ := by
 simp only [Zip, Zjg, Bool.and_eq_true, List.all_eq_true, Bool.not_eq_true'] at h
 obtain ⟨⟨⟨⟨⟨⟨⟨hk, hap⟩, hs⟩, hs'⟩, ho⟩, ho'⟩, hl⟩, hl'⟩ := h
 obtain ⟨h1, h2, h3⟩ := Oper.apart_spec hap
 exact Z06 (fun t e => h1 t e) (fun p hp => (hs p hp).1) hl
theorem Z3a {ops : Array Oper} {s : St} {o o' : Oper} {δ δ' : Delta} (h : Zip ops s o δ o' δ' = true) : Zvk ops s o' δ' o δ := by
 simp only [Zip, Zjg, Bool.and_eq_true, List.all_eq_true, Bool.not_eq_true'] at h
 obtain ⟨⟨⟨⟨⟨⟨⟨hk, hap⟩, hs⟩, hs'⟩, ho⟩, ho'⟩, hl⟩, hl'⟩ := h
 obtain ⟨h1, h2, h3⟩ := Oper.apart_spec hap
 exact Z06 (fun t e => h3 t e) (fun p hp => hs' p hp) hl'
theorem Zqm {ops : Array Oper} {o : Oper} {δ : Delta} {S T : Nat → Bool} : ∀ (l : Trace) (k : Nat) (s s' : St), (∀ p, p ∈ l → p.2.inside s.heap.length = true) → Agree ops o δ.foot s s' →
  (∀ j p, l[j]? = some p → S (k + j) = T (k + j) ∨ Zvk ops (stS s T (l.take j) k) p.1 p.2 o δ) → Agree ops o δ.foot (stS s T l k) (stS s' S l k)
 | [], k, s, s', _, h, _ => h
 | (o', δ') :: l, k, s, s', hin, h, hd => by
  have hi : δ'.inside s.heap.length = true := hin (o', δ') (by simp)
  have hi' : δ'.inside s'.heap.length = true := by rw [h.len]; exact hi
  have h0 := hd 0 (o', δ') rfl
  simp only [Nat.add_zero, List.take_zero, stS] at h0
  have hap : Agree ops o δ.foot (δ'.apply o'.dst s) (δ'.apply o'.dst s') := by
   refine ⟨fun t ht => ?_, fun b hb => ?_, ?_⟩
   ·rw [Zbs, Zbs, h.tmps t ht]
   ·rw [Zb1 _ _ _ hi, Zb1 _ _ _ hi', h.heap b hb]
   ·rw [Zay _ _ _ hi, Zay _ _ _ hi', h.len]
  have hl : ∀ c : Bool, (if c then δ'.apply o'.dst s else s).heap.length = s.heap.length := by
   intro c
   cases c
   ·rfl
   ·exact Zay _ _ _ hi
  simp only [stS]
  refine Zqm l (k + 1) _ _ (fun p hp => by rw [hl]; exact hin p (by simp [hp])) ?_ (fun j p hj => by
   have := hd (j + 1) p (by simpa using hj)
   rw [show k + (j + 1) = k + 1 + j from by omega] at this
   simpa only [List.take_succ_cons, stS] using this)
  by_cases hST : S k = T k
  ·rw [hST]
   cases T k
   ·exact h
   ·exact hap
  ·have hv := h0.resolve_left hST
   cases hT : T k <;> cases hS : S k
   ·rw [hS, hT] at hST; exact absurd rfl hST
   ·refine ⟨fun t ht => ?_, fun b hb => ?_, ?_⟩
    ·simp only [if_true, Bool.false_eq_true, if_false]
     rw [Zbs, h.tmps t ht]; exact hv.1 t ht
    ·simp only [if_true, Bool.false_eq_true, if_false]
     rw [Zb1 _ _ _ hi', h.heap b hb]
     cases hx : s.heap[b]? with
     | none => rfl
     | some x => simp [hv.2 b hb x hx]
    ·simp only [if_true, Bool.false_eq_true, if_false]
     rw [Zay _ _ _ hi', h.len]
   ·refine ⟨fun t ht => ?_, fun b hb => ?_, ?_⟩
    ·simp only [if_true, Bool.false_eq_true, if_false]
     rw [Zbs, h.tmps t ht]; exact (hv.1 t ht).symm
    ·simp only [if_true, Bool.false_eq_true, if_false]
     rw [Zb1 _ _ _ hi, h.heap b hb]
     cases hx : s.heap[b]? with
     | none => rfl
     | some x => simp [hv.2 b hb x hx]
    ·simp only [if_true, Bool.false_eq_true, if_false]
     rw [Zay _ _ _ hi, h.len]
   ·rw [hS, hT] at hST; exact absurd rfl hST

theorem Zqk {ops : Array Oper} {o : Oper} {δ : Delta} {S : Nat → Bool} : ∀ (l : Trace) (k : Nat) (s : St), (∀ p, p ∈ l → p.2.inside s.heap.length = true) → δ.inside s.heap.length = true →
  (∀ j p, l[j]? = some p → S (k + j) = true → Zjg ops o δ p.1 p.2 = true) → stS (δ.apply o.dst s) S l k = δ.apply o.dst (stS s S l k)
 | [], k, s, _, _, _ => rfl
 | (o', δ') :: l, k, s, hin, hd, h => by
  have hi : δ'.inside s.heap.length = true := hin (o', δ') (by simp)
  simp only [stS]
  have hl : (if S k then δ'.apply o'.dst s else s).heap.length = s.heap.length := by
   split
   ·exact Zay _ _ _ hi
   ·rfl
  rw [← Zqk (ops := ops) l (k + 1) _ (fun p hp => by rw [hl]; exact hin p (by simp [hp])) (by rw [hl]; exact hd) (fun j p hj hS => h (j + 1) p (by simpa using hj) (by rwa [show k + (j + 1) = k + 1 + j from by omega]))]
  congr 1
  cases hS : S k with
  | false => rfl
  | true =>
   simp only [if_true]
   exact Zrx (h 0 (o', δ') rfl (by simpa using hS)) hd hi

theorem Zm7 {ops : Array Oper} {S : Nat → Bool} {i : Nat} {o : Oper} {δ : Delta} (hS : S i = false) : ∀ (l : Trace) (k : Nat) (s : St), k ≤ i → l[i - k]? = some (o, δ) → (∀ p, p ∈ l → p.2.inside s.heap.length = true) →
  (∀ j p, l[j]? = some p → i < k + j → S (k + j) = true → Zjg ops o δ p.1 p.2 = true) → stS s (fun j => j == i || S j) l k = δ.apply o.dst (stS s S l k)
 | [], k, s, hk, hl, _, _ => by simp at hl
 | (o', δ') :: l, k, s, hk, hl, hin, h => by
  have hi : δ'.inside s.heap.length = true := hin (o', δ') (by simp)
  by_cases he : k = i
  ·subst he
   simp only [Nat.sub_self, List.getElem?_cons_zero, Option.some.injEq, Prod.mk.injEq] at hl
   obtain ⟨rfl, rfl⟩ := hl
   simp only [stS, beq_self_eq_true, Bool.true_or, if_true, hS, Bool.false_eq_true, if_false]
   rw [← Zqk (ops := ops) l (k + 1) s (fun p hp => hin p (by simp [hp])) hi (fun j p hj hSj => h (j + 1) p (by simpa using hj) (by omega) (by rwa [show k + (j + 1) = k + 1 + j from by omega]))]
   exact Zed _ _ _ fun j _ => by simp; omega
  ·have hlt : k < i := by omega
   simp only [stS]
   have hk' : (k == i) = false := by simpa using he
   simp only [hk', Bool.false_or]
   have hlen : (if S k then δ'.apply o'.dst s else s).heap.length = s.heap.length := by
    split
    ·exact Zay _ _ _ hi
    ·rfl
   exact Zm7 hS l (k + 1) _ hlt (by rw [show i - k = (i - (k + 1)) + 1 from by omega] at hl; simpa using hl) (fun p hp => by rw [hlen]; exact hin p (by simp [hp]))
    (fun j p hj hlt hSj => h (j + 1) p (by simpa using hj) (by omega) (by rwa [show k + (j + 1) = k + 1 + j from by omega]))

def Zht (ops : Array Oper) (tr : Trace) (s0 : St) : Bool :=
  (tr.all fun p => p.2.inside s0.heap.length) &&
  (ops.toList.zipIdx.all fun p => p.1.after.all fun e => !Region.binds .any e || decide (e.on < p.2)) &&
  (tr.zipIdx.all fun p => tr.zipIdx.all fun q => decide (q.2 ≤ p.2) || ((clo ops.toList).getD q.2 []).contains p.2 || Zip ops (stS s0 (fun _ => true) (tr.take p.2) 0) p.1.1 p.1.2 q.1.1 q.1.2)
theorem Zq0 {nt : Nat} {ops : Array Oper} {tr : Trace} {s0 : St} (hm : P.follows .mixedOrders = true) (hops : tr.map (·.1) = ops.toList) (hok : Zht ops tr s0 = true)
    (hloc : ∀ (i : Nat) (o : Oper) (δ : Delta), tr[i]? = some (o, δ) → Zae P G nt ops o (stS s0 (fun _ => true) (tr.take i) 0) δ)
    {id : Nat} {Q : Exit → Act → World → Prop} {E : Ent} {m : MapM} {a : Act} {w : World} (hr : SRel G nt E m s0 a w) (hQ : ∀ m a w, SRel G nt E m (stS s0 (fun _ => true) tr 0) a w → Q .normal a w) : (Code.region id ops true).wp P Q a w := by
  simp only [Zht, Bool.and_eq_true, List.all_eq_true] at hok
  obtain ⟨⟨hin, hback⟩, hind⟩ := hok
  have hlen : tr.length = ops.size := by have := congrArg List.length hops; simpa using this
  have htr : ∀ (i : Nat) (p : Oper × Delta), tr[i]? = some p → ops[i]? = some p.1 := by
    intro i p hp
    have := congrArg (fun l => l[i]?) hops
    simp only [List.getElem?_map, hp, Option.map_some, Array.getElem?_toList] at this
    exact this.symm
  have hinp : ∀ (i j : Nat) (p q : Oper × Delta), tr[i]? = some p → tr[j]? = some q → i < j → i ∈ (clo ops.toList).getD j [] ∨ Zip ops (stS s0 (fun _ => true) (tr.take i) 0) p.1 p.2 q.1 q.2 = true := by
    intro i j p q hp hq hij
    have h1 := hind (p, i) (by rw [List.mem_iff_getElem?]; exact ⟨i, by simp [List.getElem?_zipIdx, hp]⟩)
    have h2 := h1 (q, j) (by rw [List.mem_iff_getElem?]; exact ⟨j, by simp [List.getElem?_zipIdx, hq]⟩)
    simp only [Bool.or_eq_true, decide_eq_true_eq] at h2
    rcases h2 with (h2 | h2) | h2
    · omega
    · exact .inl (by simpa using h2)
    · exact .inr h2
  have hbk : ∀ (j : Nat) (o : Oper), ops[j]? = some o → ∀ e, e ∈ o.after → Region.binds .any e = true → e.on < j := by
    intro j o ho e he hb
    have h1 := hback (o, j) (by rw [List.mem_iff_getElem?]; exact ⟨j, by simp [List.getElem?_zipIdx, ho]⟩)
    simp only [Array.all_eq_true_iff_forall_mem] at h1
    have := h1 e he
    rw [hb] at this
    simpa using this
  have key : ∀ (fuel : Nat) (listed : Array Bool) (m : MapM) (a : Act) (w : World), listed.size = ops.size → Zl4 ops.toList (fun j => listed.getD j false) → unl ops.size (fun j => listed.getD j false) ≤ fuel →
      SRel G nt E m (stS s0 (fun j => listed.getD j false) tr 0) a w → wpAny P .any ops Q fuel listed a w := by
    intro fuel
    have hdone : ∀ (listed : Array Bool) (m : MapM) (a : Act) (w : World), listed.size = ops.size → Region.ready .any ops listed = [] → SRel G nt E m (stS s0 (fun j => listed.getD j false) tr 0) a w → Q .normal a w := by
      intro listed m a w hsz hrd hr
      refine hQ m a w ?_
      have hall : ∀ j, j < ops.size → listed.getD j false = true := by
        intro j hj
        cases hl : listed.getD j false with
        | true => rfl
        | false =>
          obtain ⟨q, hq1, hq2, hq3⟩ := Zk7 (p := fun j => listed.getD j false = false) ⟨j, hj, hl⟩
          have : q ∈ Region.ready .any ops listed := by
            refine mem_ready.2 ⟨?_, ops[q], by simp [hq1], fun e he hb => ?_⟩
            · have : q < listed.size := by omega
              simpa [Array.getD_eq_getD_getElem?, Array.getElem?_eq_getElem this] using hq2
            · have hlt := hbk q ops[q] (by simp [hq1]) e he hb
              have := hq3 e.on hlt
              simpa using this
          rw [hrd] at this; cases this
      have := Zed (S := fun j => listed.getD j false) (T := fun _ => true) tr 0 s0 (fun j hj => by
        have := hall j (by omega)
        simpa using this)
      rw [this] at hr
      exact hr
    induction fuel with
    | zero =>
      intro listed m a w hsz hc hu hr
      have hall := Ztz (Nat.le_zero.1 hu)
      have hrd : Region.ready .any ops listed = [] := by
        cases hq : Region.ready .any ops listed with
        | nil => rfl
        | cons q l =>
          have hmem : q ∈ Region.ready .any ops listed := by rw [hq]; simp
          obtain ⟨h1, o, h2, _⟩ := mem_ready.1 hmem
          have hlt : q < ops.size := (Array.getElem?_eq_some_iff.1 h2).1
          have := hall q hlt
          have hlt' : q < listed.size := by omega
          simp [Array.getD_eq_getD_getElem?, Array.getElem?_eq_getElem hlt'] at this h1
          rw [this] at h1; cases h1
      exact ⟨hrd, hdone listed m a w hsz hrd hr⟩
    | succ fuel ih =>
      intro listed m a w hsz hc hu hr
      refine ⟨fun hrd => hdone listed m a w hsz hrd hr, fun i hi => ?_⟩
      obtain ⟨h1, o, ho, hed⟩ := mem_ready.1 hi
      have hlt : i < ops.size := (Array.getElem?_eq_some_iff.1 ho).1
      have hltl : i < listed.size := by omega
      have hSi : listed.getD i false = false := by
        simp [Array.getD_eq_getD_getElem?, Array.getElem?_eq_getElem hltl] at h1 ⊢; exact h1
      have hltt : i < tr.length := by omega
      obtain ⟨p, hp⟩ : ∃ p, tr[i]? = some p := ⟨tr[i], by simp [hltt]⟩
      obtain ⟨o', δ⟩ := p
      have hoo := htr i _ hp
      rw [ho] at hoo; injection hoo with hoo
      simp only at hoo
      subst hoo
      -- the state where it stands in the text
      have hag : Agree ops o δ.foot (stS s0 (fun _ => true) (tr.take i) 0) (stS s0 (fun j => listed.getD j false) tr 0) := by
        have h2 := Zlz tr 0 i s0
        simp only [Nat.zero_add] at h2
        rw [← h2]
        refine Zqm (T := fun j => decide (j < i)) tr 0 s0 s0 hin ⟨fun _ _ => rfl, fun _ _ => rfl, rfl⟩ ?_
        intro j q hq
        rw [Nat.zero_add]
        by_cases hji : j < i
        · cases hS : listed.getD j false with
          | true => left; simp [hji]
          | false =>
            right
            rcases hinp j i q (o, δ) hq hp hji with h3 | h3
            · exfalso
              have hc' : Zl4 ops.toList (fun k => k == i || listed.getD k false) := by
                intro k ok hk hSk e he hb
                by_cases hki : k = i
                · subst hki
                  have : ok = o := by rw [Array.getElem?_toList, ho] at hk; injection hk with hk; exact hk.symm
                  subst this
                  have := hed e he hb
                  simp only [this, Bool.or_true]
                · have : listed.getD k false = true := by simpa [hki] using hSk
                  have := hc k ok hk this e he hb
                  simp only at this
                  simp only [this, Bool.or_true]
              have h4 := Zgt hc' (i := j) (j := i) (by simp) h3
              have : j ≠ i := by omega
              simp only [beq_iff_eq, this, Bool.or_eq_true, false_or, hS] at h4
              cases h4
            · have e : stS s0 (fun j => decide (j < i)) (tr.take j) 0 = stS s0 (fun _ => true) (tr.take j) 0 := Zed _ _ _ fun q hq => by
                have : q < j := by simp at hq; omega
                simp; omega
              rw [e]
              exact Z29 h3
        · by_cases hje : j = i
          · subst hje; left; simp [hSi]
          · cases hS : listed.getD j false with
            | false => left; simp [hji]
            | true =>
              right
              rcases hinp i j (o, δ) q hp hq (by omega) with h3 | h3
              · exfalso
                have := Zgt hc (i := i) (j := j) hS h3
                rw [hSi] at this; cases this
              · have e := Zlz (tr.take j) 0 i s0
                simp only [Nat.zero_add, List.take_take] at e
                rw [e, Nat.min_eq_left (by omega)]
                exact Z3a h3
      have hto := hloc i o δ hp _ hag E m a w hr
      unfold wpOp
      simp only [ho]
      have hnext : ∀ m' a' w', SRel G nt E m' (δ.apply o.dst (stS s0 (fun j => listed.getD j false) tr 0)) a' w' → wpAny P .any ops Q fuel (listed.setIfInBounds i true) a' w' := by
        intro m' a' w' hr'
        have hS' : (fun j => (listed.setIfInBounds i true).getD j false) = fun j => j == i || listed.getD j false := by
          funext j
          by_cases hji : j = i
          · subst hji; simp [Array.getD_eq_getD_getElem?, Array.getElem?_setIfInBounds, hltl]
          · rw [getD_set_ne false (fun e => hji e.symm)]; simp [hji]
        refine ih _ m' a' w' (by simp [hsz]) ?_ ?_ ?_
        · rw [hS']
          intro k ok hk hSk e he hb
          by_cases hki : k = i
          · subst hki
            have : ok = o := by rw [Array.getElem?_toList, ho] at hk; injection hk with hk; exact hk.symm
            subst this
            have := hed e he hb
            simp only [this, Bool.or_true]
          · have : listed.getD k false = true := by simpa [hki] using hSk
            have := hc k ok hk this e he hb
            simp only at this
            simp only [this, Bool.or_true]
        · rw [hS']
          have := Zo9 (S := fun j => listed.getD j false) hlt hSi
          omega
        · rw [hS', Zm7 (ops := ops) (S := fun j => listed.getD j false) hSi tr 0 s0 (Nat.zero_le _) (by simpa using hp) hin (fun j q hq hlt' hSj => ?_)]
          · exact hr'
          · rw [Nat.zero_add] at hlt' hSj
            rcases hinp i j (o, δ) q hp hq hlt' with h3 | h3
            · exfalso
              have := Zgt hc (i := i) (j := j) hSj h3
              rw [hSi] at this; cases this
            · exact Zzg h3
      have h5 := hto _ Q hnext
      split
      · rename_i hw; rw [if_pos hw] at h5; exact .inl h5
      · rename_i hw; rw [if_neg hw] at h5; exact h5
  refine wp_region_any hm ?_
  refine key ops.size (Array.replicate ops.size false) m a w.drew (by simp) ?_ ?_ ?_
  · intro j o ho hS e he hb
    exfalso
    simp [Array.getD_eq_getD_getElem?, Array.getElem?_replicate] at hS
    split at hS <;> simp at hS
  · unfold unl
    have := List.length_filter_le (fun j => !(Array.replicate ops.size false).getD j false) (List.range ops.size)
    simpa using this
  · have : stS s0 (fun j => (Array.replicate ops.size false).getD j false) tr 0 = s0 := by
      rw [Zed (T := fun _ => false) tr 0 s0 (fun j hj => by simp [Array.getD_eq_getD_getElem?, Array.getElem?_replicate]; split <;> rfl)]
      exact Zly _ _ _
    rw [this]
    exact hr.drew
end
section
variable {P : Program} {G : Glob} {nt n0 : Nat} {Q : Exit → St → Prop}
theorem Zgl {i : Nat} {L : List Oper} (hm : P.follows .mixedOrders = true) {T : Nat → Value} {H : List Blk} (h : R P G nt L (fun tr s' => Zht L.toArray tr ⟨T, H⟩ = true ∧ X Q .normal s') L [] T H) : C P G nt n0 (.region i L.toArray true) Q ⟨T, H⟩ := ⟨by
 have h' : Zbg P G nt L.toArray (fun tr s' => Zht L.toArray tr ⟨T, H⟩ = true ∧ Q .normal s') L [] ⟨T, H⟩ := by
  have : ∀ (l : List Oper) (tr : Trace) (s1 : St), Zbg P G nt L.toArray (fun tr s' => Zht L.toArray tr ⟨T, H⟩ = true ∧ X Q .normal s') l tr s1 → Zbg P G nt L.toArray (fun tr s' => Zht L.toArray tr ⟨T, H⟩ = true ∧ Q .normal s') l tr s1 := by
   intro l
   induction l with
   | nil => exact fun tr s h => ⟨h.1, h.2.h⟩
   | cons o l ih => exact fun tr s ⟨δ, h1, h2⟩ => ⟨δ, h1, ih _ _ h2⟩
  exact this _ _ _ h.h
 intro E m a w h0 hr
 obtain ⟨tr, g1, ⟨g2, g4⟩, g3⟩ := Zbg.drawn (s0 := ⟨T, H⟩) h' rfl (by simp)
 exact Zq0 hm (by simpa using g1) g2 g3 hr (fun m a w hr => ⟨_, m, g4, hr⟩)⟩
theorem Zdc {ops : List Oper} {tr : Trace} {T : Nat → Value} {H : List Blk} {s0 : St} (h1 : Zht ops.toArray tr s0 = true) (h : X Q .normal ⟨T, H⟩) : R P G nt ops (fun tr s' => Zht ops.toArray tr s0 = true ∧ X Q .normal s') [] tr T H := Zrh ⟨h1, h⟩
end
end Go.Flat
end
section
/- The check of a drawn region by a table of what stands ahead. -/
namespace Go.Flat
theorem Zkf : ∀ (l : List Oper) (acc : List (List Nat)) (k : Nat), k < acc.length → (Zg1 l acc).getD k [] = acc.getD k []
 | [], acc, k, h => rfl
 | o :: l, acc, k, h => by
  rw [Zg1, Zkf l _ k (by rw [List.length_append]; omega)]
  rw [List.getD_eq_getElem?_getD, List.getElem?_append_left h, ← List.getD_eq_getElem?_getD]
theorem Zpw : ∀ (l : List Oper) (acc : List (List Nat)) (j : Nat) (o : Oper), l[j]? = some o → (Zg1 l acc).getD (acc.length + j) [] = (o.after.toList.filter (Region.binds .any)).flatMap fun e => e.on :: (if e.on < acc.length + j then (Zg1 l acc).getD e.on [] else [])
 | [], acc, j, o, h => by simp at h
 | p :: l, acc, 0, o, h => by
  obtain rfl : p = o := by simpa using h
  rw [Zg1, Nat.add_zero, Zkf l _ acc.length (by rw [List.length_append]; exact Nat.lt_succ_self _)]
  rw [List.getD_eq_getElem?_getD, List.getElem?_append_right (Nat.le_refl _), Nat.sub_self]
  show List.flatMap _ _ = _
  congr 1
  funext e
  congr 1
  by_cases he : e.on < acc.length
  ·rw [if_pos he, Zkf l _ e.on (by rw [List.length_append]; omega)]
   rw [List.getD_eq_getElem?_getD, List.getD_eq_getElem?_getD, List.getElem?_append_left he]
  ·rw [if_neg he, List.getD_eq_getElem?_getD, List.getElem?_eq_none (by omega)]; rfl
 | p :: l, acc, j + 1, o, h => by
  have ih := Zpw l (acc ++ [(p.after.toList.filter (Region.binds .any)).flatMap fun e => e.on :: acc.getD e.on []]) j o (by simpa using h)
  rw [List.length_append, show acc.length + [(p.after.toList.filter (Region.binds .any)).flatMap fun e => e.on :: acc.getD e.on []].length + j = acc.length + (j + 1) from by simp; omega] at ih
  rw [Zg1]; exact ih
def Ztw (ops : List Oper) (tab : List (List Nat)) : Bool :=
  ops.zipIdx.all fun p => (tab.getD p.2 []).all fun i => p.1.after.toList.any fun e => Region.binds .any e && (Nat.beq e.on i || (Nat.blt e.on p.2 && (tab.getD e.on []).any fun k => Nat.beq k i))
theorem Z25 {ops : List Oper} {tab : List (List Nat)} (h : Ztw ops tab = true) (hl : tab.length ≤ ops.length) : ∀ (j i : Nat), i ∈ tab.getD j [] → i ∈ (clo ops).getD j [] := by
 intro j
 induction j using Nat.strongRecOn with
 | _ j ih =>
  intro i hi
  have hj : j < ops.length := by
   rcases Nat.lt_or_ge j tab.length with q | q
   ·omega
   ·rw [List.getD_eq_getElem?_getD, List.getElem?_eq_none (by omega)] at hi; simp at hi
  unfold Ztw at h
  rw [List.all_eq_true] at h
  have h1 := h (ops[j], j) (by rw [List.mem_iff_getElem?]; exact ⟨j, by simp [List.getElem?_zipIdx, hj]⟩)
  rw [List.all_eq_true] at h1
  have h2 := h1 i hi
  rw [List.any_eq_true] at h2
  obtain ⟨e, he, h3⟩ := h2
  rw [Bool.and_eq_true, Bool.or_eq_true, Bool.and_eq_true] at h3
  have h4 := Zpw ops [] j ops[j] (List.getElem?_eq_getElem hj)
  rw [List.length_nil, Nat.zero_add] at h4
  unfold clo
  rw [h4, List.mem_flatMap]
  refine ⟨e, List.mem_filter.2 ⟨he, h3.1⟩, ?_⟩
  rcases h3.2 with q | ⟨q, q2⟩
  ·rw [Nat.eq_of_beq_eq_true q]; exact List.mem_cons_self
  ·have hlt : e.on < j := Nat.le_of_ble_eq_true q
   rw [List.any_eq_true] at q2
   obtain ⟨k, hk, hki⟩ := q2
   rw [if_pos hlt]
   have : k = i := Nat.eq_of_beq_eq_true hki
   subst this
   exact List.mem_cons_of_mem _ (ih e.on hlt k hk)
def Zy2 (ops : Array Oper) (tr : Trace) (n : Nat) (tab : List (List Nat)) : Bool :=
  (tr.all fun p => p.2.inside n) &&
  (ops.toList.zipIdx.all fun p => p.1.after.all fun e => !Region.binds .any e || decide (e.on < p.2)) &&
  (tr.zipIdx.all fun p => tr.zipIdx.all fun q => Nat.ble q.2 p.2 || (tab.getD q.2 []).any (fun k => Nat.beq k p.2) || Zh7 ops p.1.1 p.1.2 q.1.1 q.1.2)
def Zv7 (ops : Array Oper) (tr : Trace) (s0 : St) (tab : List (List Nat)) : Bool :=
  (tr.all fun p => p.2.inside s0.heap.length) &&
  (ops.toList.zipIdx.all fun p => p.1.after.all fun e => !Region.binds .any e || decide (e.on < p.2)) &&
  (tr.zipIdx.all fun p => tr.zipIdx.all fun q => Nat.ble q.2 p.2 || (tab.getD q.2 []).any (fun k => Nat.beq k p.2) || Zip ops (stS s0 (fun _ => true) (tr.take p.2) 0) p.1.1 p.1.2 q.1.1 q.1.2)
theorem Z02 {ops : List Oper} {tab : List (List Nat)} (h : (Ztw ops tab && Nat.ble tab.length ops.length) = true) {p q : Nat} {b : Bool} (h1 : (Nat.ble q p || (tab.getD q []).any (fun k => Nat.beq k p) || b) = true) : (decide (q ≤ p) || ((clo ops).getD q []).contains p || b) = true := by
 rw [Bool.and_eq_true] at h
 rw [Bool.or_eq_true, Bool.or_eq_true] at h1 ⊢
 rcases h1 with (h1 | h1) | h1
 ·exact .inl (.inl (decide_eq_true (Nat.le_of_ble_eq_true h1)))
 ·rw [List.any_eq_true] at h1
  obtain ⟨k, hk, hkp⟩ := h1
  have : k = p := Nat.eq_of_beq_eq_true hkp
  subst this
  exact .inl (.inr (by simpa using Z25 h.1 (Nat.le_of_ble_eq_true h.2) q k hk))
 ·exact .inr h1
theorem Zc4 {ops : List Oper} {tr : Trace} {n : Nat} (tab : List (List Nat)) (h : (Ztw ops tab && Nat.ble tab.length ops.length) = true) (h1 : Zy2 ops.toArray tr n tab = true) : Zf5 ops.toArray tr n = true := by
 unfold Zy2 at h1
 unfold Zf5
 rw [Bool.and_eq_true] at h1 ⊢
 refine ⟨h1.1, ?_⟩
 have h2 := h1.2
 rw [List.all_eq_true] at h2 ⊢
 intro p hp
 have h3 := h2 p hp
 rw [List.all_eq_true] at h3 ⊢
 intro q hq
 have h4 := h3 q hq
 rw [List.toList_toArray]
 exact Z02 h h4
theorem Zb2 {ops : List Oper} {tr : Trace} {s0 : St} (tab : List (List Nat)) (h : (Ztw ops tab && Nat.ble tab.length ops.length) = true) (h1 : Zv7 ops.toArray tr s0 tab = true) : Zht ops.toArray tr s0 = true := by
 unfold Zv7 at h1
 unfold Zht
 rw [Bool.and_eq_true] at h1 ⊢
 refine ⟨h1.1, ?_⟩
 have h2 := h1.2
 rw [List.all_eq_true] at h2 ⊢
 intro p hp
 have h3 := h2 p hp
 rw [List.all_eq_true] at h3 ⊢
 intro q hq
 have h4 := h3 q hq
 rw [List.toList_toArray]
 exact Z02 h h4
end Go.Flat
end
section
/- Equality of structs. -/
namespace Go.Flat
section
variable {P : Program}
theorem Zwa {α : Type} (body : α → Option Bool × Unit → Sem (ForInStep (Option Bool × Unit))) (g : α → Bool) : ∀ (l : List α), (∀ i, i ∈ l → Z0 P (body i (none, ())) = some (if g i then .yield (none, ()) else .done (some false, ()))) →
  Z0 P (forIn (m := Sem) l ((none, ()) : Option Bool × Unit) body) = some (if l.all g then (none, ()) else (some false, ()))
 | [], _ => by simp [Z4]
 | i :: l, h => by
  rw [List.forIn_cons, Zaa, h i (by simp), Option.bind_some]
  cases hg : g i with
  | false => simp [Z4, hg]
  | true =>
   simp only [if_true]
   rw [Zwa body g l (fun j hj => h j (by simp [hj]))]
   simp [hg]
theorem eqS (d : Nat) (t : TypeId) (fs : Array Go.Field) (xs ys : Array Value) (g : Go.Field → Bool) (ht : P.underlying t = some (.struct fs)) (hh : P.stoodInHeld t = false)
    (hg : ∀ f, f ∈ fs.toList → f.name ≠ "_" ∧ ∃ a b, Z0 P (part f.type xs f.offset) = some a ∧ Z0 P (part f.type ys f.offset) = some b ∧ Z0 P (Op.equalIn d f.type a b) = some (g f)) :
    Z0 P (Op.equalIn (d + 1) t (.agg xs) (.agg ys)) = some (fs.toList.all g) := by
  have hprog : Z0 P program = some P := rfl
  simp only [Op.equalIn, Zaa, Zbk ht, Option.bind_some, hprog, hh, Bool.false_eq_true, if_false]
  rw [← Array.forIn_toList, Zwa _ g]
  · cases h : fs.toList.all g <;> simp [h, Z4]
  · intro f hf
    obtain ⟨hn, a, b, h1, h2, h3⟩ := hg f hf
    rw [if_pos hn]
    rw [Zaa, h1, Option.bind_some, Zaa, h2, Option.bind_some, Zaa, h3, Option.bind_some, Zk6]
    cases g f <;> simp [Z4]
theorem Zw5 {t : TypeId} {d : Nat} {a b : ByteArray} (hu : P.underlying t = some .string) : Z0 P (Op.equalIn (d + 1) t (.string a) (.string b)) = some (a == b) := by
 simp only [Op.equalIn, Zaa, Zbk hu, Option.bind_some]
 rfl
theorem Zcl {e : TypeId} {l m : List Value} {off n : Nat} {dsc : TypeDesc} {i : TypeInfo} (hu : P.underlying e = some dsc) (ha : Zmh dsc = true) (hi : P.info? e = some i) (hn : i.size = n) (hm : (l.drop off).take n = m) : Z0 P (part e l.toArray off) = some (.agg m.toArray) := by
 rw [Z0b hu ha hi hn]
 subst hm
 congr 2
 apply Array.ext'
 simp [List.extract_eq_take_drop]
theorem Zq3 {t : TypeId} {x y : Operand} {xs ys : Array Value} {r : Bool} (hgd : P.eqGuardType P.depth t = false) (hp : (Za2 (.agg xs) && Za2 (.agg ys)) = true) (h : Z0 P (Op.equal t (.agg xs) (.agg ys)) = some r) : Zcf P .eql t x y (.agg xs) (.agg ys) = some (.bool r) := by
 unfold Zcf
 rw [if_pos hp, Zaa, Zp4 hgd, Option.bind_some]
 have : binOp .eql t (.agg xs) (.agg ys) = (do pure (.bool (← Op.equal t (.agg xs) (.agg ys)))) := rfl
 rw [this, Zaa, h]
 rfl
theorem Z2m {t : TypeId} {x y : Operand} {xs ys : Array Value} {r : Bool} (hgd : P.eqGuardType P.depth t = false) (hp : (Za2 (.agg xs) && Za2 (.agg ys)) = true) (h : Z0 P (Op.equal t (.agg xs) (.agg ys)) = some r) : Zcf P .neq t x y (.agg xs) (.agg ys) = some (.bool (!r)) := by
 unfold Zcf
 rw [if_pos hp, Zaa, Zp4 hgd, Option.bind_some]
 have : binOp .neq t (.agg xs) (.agg ys) = (do pure (.bool (!(← Op.equal t (.agg xs) (.agg ys))))) := rfl
 rw [this, Zaa, h]
 rfl
end
end Go.Flat
end
section
/- A place inside an array that is a part of a block. -/
namespace Go.Flat
section
variable {P : Program} {G : Glob} {t : TypeId} {H : List Blk} {b o i m n : Nat} {blk : Blk} {α : Type} {enc : α → Value} {w : Nat → α} {pre rest : List Value}
end
end Go.Flat
end
section
/- What an append takes out of a row of things. -/
namespace Go.Flat
theorem Z00 {α : Type} (cd : Cod α) {H : List Blk} {blk : Blk} {b n c : Nat} {l : List α} (hb : H[b]? = some blk) (hc : blk.cells = cd.row l) (hl : l.length = n) : Zg8 H cd.n (slv b 0 n c) = some (n, cd.row l) := by
 have hlen : (cd.row l).length = n * cd.n := by rw [cd.row_len, hl]
 show (H[b]?).bind (fun blk => if 0 + n * cd.n ≤ blk.cells.length then some (n, (blk.cells.drop 0).take (n * cd.n)) else none) = _
 rw [hb, Option.bind_some, hc, if_pos (by omega), List.drop_zero, List.take_of_length_le (by omega)]
def wI (z : Int) : Value := .int .i64 z
end Go.Flat
end
namespace Go.Flat
open Go.Proofs
def rdB (l : Bs) : Blk := { cells := l.map w8, sz := 1, wr := false, fix := false, mv := true, pur := true }
def Zmt (n : Nat) (d : D) : Bs := (List.range n).map d
theorem Zlt (n : Nat) (d : D) : (Zmt n d).length = n := by simp [Zmt]
theorem Zx0 (n : Nat) (d : D) : Zah w8 n d = (Zmt n d).map w8 := by unfold Zah Zmt; rw [List.map_map]; rfl
theorem Zt5 {e : Emb} {res v : Value} (hp : Za2 res = true) (h : v = res) : Zii e res v := by unfold Zii; rw [if_pos hp]; exact h
section
variable {P : Program} {G : Glob} {t : TypeId} {H : List Blk} {b o n c : Nat} {blk : Blk} {l : Bs}
theorem Zwk {src dst e : TypeId} {x : ByteArray} (h1 : P.underlying src = some (.slice e)) (h2 : P.underlying dst = some .string) (h3 : Zho P e = true) (hb : H[b]? = some blk) (hc : blk.cells = l.map w8) (hl : o + n ≤ l.length) (hx : Zo ((l.drop o).take n) = x) : Zrp P H src dst (slv b o n c) = some (.string x) := by
 subst hx
 exact Zha h1 h2 h3 hb (by rw [hc]; simpa using hl) (by rw [hc, List.map_take, List.map_drop])
theorem Zie {src dst e : TypeId} (h1 : P.underlying src = some (.slice e)) (h2 : P.underlying dst = some .string) (h3 : Zho P e = true) (hb : H[b]? = some blk) (hc : blk.cells = l.map w8) (hl : n = l.length) : Zrp P H src dst (slv b 0 n c) = some (.string (Zo l)) :=
 Zwk h1 h2 h3 hb hc (by omega) (by rw [List.drop_zero, List.take_of_length_le (by omega)])
end


section
variable {P : Program} {G : Glob} {t : TypeId} {H : List Blk} {b o n c k n' by_ : Nat} {blk : Blk} {zc : List Value}
theorem Z2l {l : List ByteArray} (hk : Zdw P t = some (false, 1)) (hb : H[b]? = some blk) (hc : blk.cells = l.map Value.string) (hi : o < l.length) : Zde P G t H (.pointer (some ⟨b, o, none⟩)) = some (.string (l.getD o ⟨#[]⟩)) :=
 Zlh hk hb (by rw [hc]; simp [hi]) rfl
theorem Z27 (l : List ByteArray) : (l.map Value.string).all Zba = true := by simp only [List.all_map, List.all_eq_true]; intros; rfl
theorem Zvn {q : Value} {ls ms : List ByteArray} (ht : Zda P t = some (1, zc, by_)) (hz : zc.length = 1) (hs : Zg8 H 1 q = some (k, ms.map Value.string)) (hb : H[b]? = some (txB ls)) (hn : ls.length = n) (hk : n + k = n') (hby : 0 < by_) (hm : n' * by_ ≤ 140737488355328) :
  Znt P H t (slv b 0 n c) q = some (slv b 0 n' n', b, txB (ls ++ ms)) := by
 have hc : (txB ls).cells.length = n := by show (ls.map Value.string).length = _; simp [hn]
 rw [Zfy (n' := n') (p := (k, ms.map Value.string)) ht hs hb rfl rfl hz (Z27 ms) (by rw [hc]; omega) hby hk hm]
 have : List.take (n * 1) (List.drop 0 (txB ls).cells) ++ ms.map Value.string = (ls ++ ms).map Value.string := by
  rw [List.drop_zero, List.take_of_length_le (by rw [hc]; omega), List.map_append]; rfl
 simp only [this]
 rfl
theorem Zig {α : Type} (cd : Cod α) {q : Value} {ls ms : List α} {cs : List Value} (hp : ∀ x, (cd.enc x).all Zba = true) (ht : Zda P t = some (cd.n, zc, by_)) (hz : zc.length = cd.n) (hs : Zg8 H cd.n q = some (k, cs)) (hcs : cs = cd.row ms) (hb : H[b]? = some (rwB cd ls)) (hn : ls.length = n) (hk : n + k = n') (hby : 0 < by_) (hm : n' * by_ ≤ 140737488355328) :
  Znt P H t (slv b 0 n c) q = some (slv b 0 n' n', b, rwB cd (ls ++ ms)) := by
 subst hcs
 have hc : (rwB cd ls).cells.length = n * cd.n := by show (cd.row ls).length = _; rw [cd.row_len, hn]
 have hpp : (cd.row ms).all Zba = true := by
  unfold Cod.row
  rw [List.all_eq_true]
  intro v hv
  obtain ⟨l, hl, hv⟩ := List.mem_flatten.1 hv
  obtain ⟨x, hx, rfl⟩ := List.mem_map.1 hl
  exact List.all_eq_true.1 (hp x) v hv
 rw [Zfy (n' := n') (p := (k, cd.row ms)) ht hs hb rfl rfl hz hpp (by rw [hc]; omega) hby hk hm]
 have : List.take (n * cd.n) (List.drop 0 (rwB cd ls).cells) ++ cd.row ms = cd.row (ls ++ ms) := by
  rw [List.drop_zero, List.take_of_length_le (by rw [hc]; exact Nat.le_refl _), cd.row_app]; rfl
 simp only [this]
 rfl
theorem Z23 {l : Bs} (hb : H[b]? = some blk) (hc : blk.cells = l.map w8) (hl : o + n ≤ l.length) : Zg8 H 1 (slv b o n c) = some (n, ((l.drop o).take n).map w8) :=
 Z0z (sz := 1) hb (by rw [hc, Nat.mul_one]; simpa using hl) (by rw [hc, Nat.mul_one, List.map_take, List.map_drop])
theorem Z0y {l : Bs} (hb : H[b]? = some blk) (hc : blk.cells = l.map w8) (hl : n = l.length) : Zg8 H 1 (slv b 0 n c) = some (n, l.map w8) := by
 rw [Z23 hb hc (by omega), List.drop_zero, List.take_of_length_le (by omega)]
end
def Z7o : Cod ByteArray := ⟨fun s => [.string s], 1, fun _ => rfl, by decide⟩
end Go.Flat
