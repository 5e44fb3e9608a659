/- Walks and plain laws: what each theorem says, within the bounds that it names. -/
import Derived.Test.YtgmnjggeffdjhaaDoorH8
import Derived.Test.YtgmnjggeffdjhaaDoorH9
import Derived.Test.YtgmnjggeffdjhaaDoorFlatG
set_option linter.unusedVariables false
set_option linter.unusedSimpArgs false
set_option maxRecDepth 20000
namespace Go.Flat
open Go.Proofs
variable {G : Glob}
instance : LawfulBEq ByteArray where
  eq_of_beq := by
    intro a b h
    obtain ⟨x⟩ := a; obtain ⟨y⟩ := b
    exact congrArg ByteArray.mk (eq_of_beq (show (x == y) = true from h))
  rfl := by
    intro a
    obtain ⟨x⟩ := a
    exact (BEq.rfl : (x == x) = true)
structure Claim where
  region : Int
  epoch : Int
  node : Int
  size : Int
  root : D
instance : Inhabited Claim := ⟨⟨0, 0, 0, 0, dz⟩⟩
def claimC (c : Claim) : List Value := [.int .i64 c.region, .int .i64 c.epoch, .int .i64 c.node, .int .i64 c.size] ++ rowE w8 32 c.root
def claimV (c : Claim) : Value := .agg (claimC c).toArray
def cClaim : Cod Claim := ⟨claimC, 36, fun _ => rfl, by decide⟩
structure Entry where
  kind : Int
  client : Int
  seq : Int
  text : ByteArray
  head : Signed
  claim : Claim
def zeroC : Claim := ⟨0, 0, 0, 0, dz⟩
def zeroE : Entry := ⟨0, 0, 0, ⟨#[]⟩, zeroS, zeroC⟩
instance : Inhabited Entry := ⟨zeroE⟩
def entC (e : Entry) : List Value := [.int .i64 e.kind, .int .i64 e.client, .int .i64 e.seq, .string e.text] ++ (signedC e.head ++ claimC e.claim)
def entV (e : Entry) : Value := .agg (entC e).toArray
def cEnt : Cod Entry := ⟨entC, 109, fun _ => rfl, by decide⟩
structure Item where
  epoch : Int
  entry : Entry
instance : Inhabited Item := ⟨⟨0, zeroE⟩⟩
def itemC (x : Item) : List Value := .int .i64 x.epoch :: entC x.entry
def itemV (x : Item) : Value := .agg (itemC x).toArray
def cItem : Cod Item := ⟨itemC, 110, fun _ => rfl, by decide⟩
def rightC (c : Claim) : Prop := (1 ≤ c.region ∧ c.region ≤ 5) ∧ (1 ≤ c.epoch ∧ c.epoch ≤ 900000000) ∧ (1 ≤ c.node ∧ c.node ≤ 3) ∧ (0 ≤ c.size ∧ c.size ≤ 100000)
instance (c : Claim) : Decidable (rightC c) := inferInstanceAs (Decidable (_ ∧ _))
def chkC (c : Claim) : Int := if rightC c then 0 else 60
theorem chkC_pos {c : Claim} (h : chkC c = 0) : rightC c := by
  unfold chkC at h
  split at h
  · assumption
  · omega
theorem chkC_neg {c : Claim} (h : ¬ chkC c = 0) : ¬ rightC c := fun q => h (if_pos q)
section
open Go.ChangeShapes Go.WideShapes Go.RowKit
def eqClaim (a b : Claim) : Bool := ((a.region == b.region) && ((a.epoch == b.epoch) && ((a.node == b.node) && ((a.size == b.size) && ((sameB 32 a.root b.root) && true)))))
theorem eq_Claim (a b : Claim) {d : Nat} : evalPure Tryd.prog (Op.equalIn (d + 3) 48 (claimV a) (claimV b)) = some (eqClaim a b) :=
  eqS (P := Tryd.prog) (d + 2) 48 _ (claimC a).toArray (claimC b).toArray (fun f => if f.offset = 0 then (a.region == b.region) else if f.offset = 1 then (a.epoch == b.epoch) else if f.offset = 2 then (a.node == b.node) else if f.offset = 3 then (a.size == b.size) else if f.offset = 4 then (sameB 32 a.root b.root) else true) rfl (by kernel_rfl) (List.forall_mem_cons.2 ⟨⟨by decide, .int .i64 a.region, .int .i64 b.region, part_one rfl rfl rfl, part_one rfl rfl rfl, eq_int rfl⟩, List.forall_mem_cons.2 ⟨⟨by decide, .int .i64 a.epoch, .int .i64 b.epoch, part_one rfl rfl rfl, part_one rfl rfl rfl, eq_int rfl⟩, List.forall_mem_cons.2 ⟨⟨by decide, .int .i64 a.node, .int .i64 b.node, part_one rfl rfl rfl, part_one rfl rfl rfl, eq_int rfl⟩, List.forall_mem_cons.2 ⟨⟨by decide, .int .i64 a.size, .int .i64 b.size, part_one rfl rfl rfl, part_one rfl rfl rfl, eq_int rfl⟩, List.forall_mem_cons.2 ⟨⟨by decide, .agg (rowE w8 32 a.root).toArray, .agg (rowE w8 32 b.root).toArray, part_cells (n := 32) rfl rfl rfl rfl rfl, part_cells (n := 32) rfl rfl rfl rfl rfl, eq_bytes rfl rfl rfl⟩, fun _ h => absurd h (by simp)⟩⟩⟩⟩⟩)
theorem eqClaim_refl (a : Claim) : eqClaim a a = true := by simp [eqClaim, sameB]
def okClaim (a : Claim) : Prop := (-9223372036854775808 ≤ a.region ∧ a.region ≤ 9223372036854775807) ∧ (-9223372036854775808 ≤ a.epoch ∧ a.epoch ≤ 9223372036854775807) ∧ (-9223372036854775808 ≤ a.node ∧ a.node ≤ 9223372036854775807) ∧ (-9223372036854775808 ≤ a.size ∧ a.size ≤ 9223372036854775807) ∧ True ∧ True
theorem opens_Claim : Opens Tryd.prog 48 claimC okClaim := by
  intro H encH W fuel cs x h
  obtain ⟨xs, n, _, _, hl, hxl, hel⟩ := DataW.trod_struct (P := Tryd.prog) (t := 48) (fs := _) rfl h
  have hl' : cs.length = 36 := hl.trans (by kernel_rfl)
  obtain ⟨a0, e0, k0⟩ := Opens.at_ (t := 3) (off := 0) (k := 1) (Opens.int (by kernel_rfl)) (hel 0 _ rfl) (by rw [hxl]; decide) rfl (by kernel_rfl) rfl
  have q0 : cs.drop 0 = [.int .i64 a0] ++ cs.drop 1 := by rw [cut_cells 0 1, e0]
  obtain ⟨a1, e1, k1⟩ := Opens.at_ (t := 3) (off := 1) (k := 1) (Opens.int (by kernel_rfl)) (hel 1 _ rfl) (by rw [hxl]; decide) rfl (by kernel_rfl) rfl
  have q1 : cs.drop 1 = [.int .i64 a1] ++ cs.drop 2 := by rw [cut_cells 1 1, e1]
  obtain ⟨a2, e2, k2⟩ := Opens.at_ (t := 3) (off := 2) (k := 1) (Opens.int (by kernel_rfl)) (hel 2 _ rfl) (by rw [hxl]; decide) rfl (by kernel_rfl) rfl
  have q2 : cs.drop 2 = [.int .i64 a2] ++ cs.drop 3 := by rw [cut_cells 2 1, e2]
  obtain ⟨a3, e3, k3⟩ := Opens.at_ (t := 3) (off := 3) (k := 1) (Opens.int (by kernel_rfl)) (hel 3 _ rfl) (by rw [hxl]; decide) rfl (by kernel_rfl) rfl
  have q3 : cs.drop 3 = [.int .i64 a3] ++ cs.drop 4 := by rw [cut_cells 3 1, e3]
  obtain ⟨a4, e4, k4⟩ := Opens.at_ (t := 26) (off := 4) (k := 32) (Opens.bytes (n := 32) (tb := 5) (by kernel_rfl) (by kernel_rfl) (by kernel_rfl) (by kernel_rfl)) (hel 4 _ rfl) (by rw [hxl]; decide) rfl (by kernel_rfl) rfl
  have q4 : cs.drop 4 = rowE w8 32 a4 ++ cs.drop 36 := by rw [cut_cells 4 32, e4]
  have qe : cs.drop 36 = [] := List.drop_of_length_le (by omega)
  refine ⟨⟨a0, a1, a2, a3, a4⟩, ?_, k0, k1, k2, k3, k4, trivial⟩
  rw [List.drop_zero] at q0
  rw [q0, q1, q2, q3, q4, qe]
  simp [claimC]
def eqEnt (a b : Entry) : Bool := ((a.kind == b.kind) && ((a.client == b.client) && ((a.seq == b.seq) && ((a.text == b.text) && ((eqSigned a.head b.head) && ((eqClaim a.claim b.claim) && true))))))
theorem eq_Entry (a b : Entry) {d : Nat} : evalPure Tryd.prog (Op.equalIn (d + 5) 50 (entV a) (entV b)) = some (eqEnt a b) :=
  eqS (P := Tryd.prog) (d + 4) 50 _ (entC a).toArray (entC b).toArray (fun f => if f.offset = 0 then (a.kind == b.kind) else if f.offset = 1 then (a.client == b.client) else if f.offset = 2 then (a.seq == b.seq) else if f.offset = 3 then (a.text == b.text) else if f.offset = 4 then (eqSigned a.head b.head) else if f.offset = 73 then (eqClaim a.claim b.claim) else true) rfl (by kernel_rfl) (List.forall_mem_cons.2 ⟨⟨by decide, .int .i64 a.kind, .int .i64 b.kind, part_one rfl rfl rfl, part_one rfl rfl rfl, eq_int rfl⟩, List.forall_mem_cons.2 ⟨⟨by decide, .int .i64 a.client, .int .i64 b.client, part_one rfl rfl rfl, part_one rfl rfl rfl, eq_int rfl⟩, List.forall_mem_cons.2 ⟨⟨by decide, .int .i64 a.seq, .int .i64 b.seq, part_one rfl rfl rfl, part_one rfl rfl rfl, eq_int rfl⟩, List.forall_mem_cons.2 ⟨⟨by decide, .string a.text, .string b.text, part_one rfl rfl rfl, part_one rfl rfl rfl, eq_string rfl⟩, List.forall_mem_cons.2 ⟨⟨by decide, signedV a.head, signedV b.head, part_cells (n := 69) rfl rfl rfl rfl rfl, part_cells (n := 69) rfl rfl rfl rfl rfl, eq_Signed a.head b.head⟩, List.forall_mem_cons.2 ⟨⟨by decide, claimV a.claim, claimV b.claim, part_cells (n := 36) rfl rfl rfl rfl rfl, part_cells (n := 36) rfl rfl rfl rfl rfl, eq_Claim a.claim b.claim⟩, fun _ h => absurd h (by simp)⟩⟩⟩⟩⟩⟩)
theorem eql_Entry {x y : Operand} (a b : Entry) : binD Tryd.prog .eql 50 x y (entV a) (entV b) = some (.bool (eqEnt a b)) := eql_agg (by kernel_rfl) (by kernel_rfl) (eq_Entry a b (d := 9995))
def okEntry (a : Entry) : Prop := (-9223372036854775808 ≤ a.kind ∧ a.kind ≤ 9223372036854775807) ∧ (-9223372036854775808 ≤ a.client ∧ a.client ≤ 9223372036854775807) ∧ (-9223372036854775808 ≤ a.seq ∧ a.seq ≤ 9223372036854775807) ∧ (a.text.size ≤ maxLen) ∧ okSigned a.head ∧ okClaim a.claim ∧ True
theorem opens_Entry : Opens Tryd.prog 50 entC okEntry := by
  intro H encH W fuel cs x h
  obtain ⟨xs, n, _, _, hl, hxl, hel⟩ := DataW.trod_struct (P := Tryd.prog) (t := 50) (fs := _) rfl h
  have hl' : cs.length = 109 := hl.trans (by kernel_rfl)
  obtain ⟨a0, e0, k0⟩ := Opens.at_ (t := 46) (off := 0) (k := 1) (Opens.int (by kernel_rfl)) (hel 0 _ rfl) (by rw [hxl]; decide) rfl (by kernel_rfl) rfl
  have q0 : cs.drop 0 = [.int .i64 a0] ++ cs.drop 1 := by rw [cut_cells 0 1, e0]
  obtain ⟨a1, e1, k1⟩ := Opens.at_ (t := 3) (off := 1) (k := 1) (Opens.int (by kernel_rfl)) (hel 1 _ rfl) (by rw [hxl]; decide) rfl (by kernel_rfl) rfl
  have q1 : cs.drop 1 = [.int .i64 a1] ++ cs.drop 2 := by rw [cut_cells 1 1, e1]
  obtain ⟨a2, e2, k2⟩ := Opens.at_ (t := 3) (off := 2) (k := 1) (Opens.int (by kernel_rfl)) (hel 2 _ rfl) (by rw [hxl]; decide) rfl (by kernel_rfl) rfl
  have q2 : cs.drop 2 = [.int .i64 a2] ++ cs.drop 3 := by rw [cut_cells 2 1, e2]
  obtain ⟨a3, e3, k3⟩ := Opens.at_ (t := 9) (off := 3) (k := 1) (Opens.str (by kernel_rfl)) (hel 3 _ rfl) (by rw [hxl]; decide) rfl (by kernel_rfl) rfl
  have q3 : cs.drop 3 = [.string a3] ++ cs.drop 4 := by rw [cut_cells 3 1, e3]
  obtain ⟨a4, e4, k4⟩ := Opens.at_ (t := 30) (off := 4) (k := 69) (opens_Signed) (hel 4 _ rfl) (by rw [hxl]; decide) rfl (by kernel_rfl) rfl
  have q4 : cs.drop 4 = signedC a4 ++ cs.drop 73 := by rw [cut_cells 4 69, e4]
  obtain ⟨a5, e5, k5⟩ := Opens.at_ (t := 48) (off := 73) (k := 36) (opens_Claim) (hel 5 _ rfl) (by rw [hxl]; decide) rfl (by kernel_rfl) rfl
  have q5 : cs.drop 73 = claimC a5 ++ cs.drop 109 := by rw [cut_cells 73 36, e5]
  have qe : cs.drop 109 = [] := List.drop_of_length_le (by omega)
  refine ⟨⟨a0, a1, a2, a3, a4, a5⟩, ?_, k0, k1, k2, k3, k4, k5, trivial⟩
  rw [List.drop_zero] at q0
  rw [q0, q1, q2, q3, q4, q5, qe]
  simp [entC]
def eqItem (a b : Item) : Bool := ((a.epoch == b.epoch) && ((eqEnt a.entry b.entry) && true))
def okItem (a : Item) : Prop := (-9223372036854775808 ≤ a.epoch ∧ a.epoch ≤ 9223372036854775807) ∧ okEntry a.entry ∧ True
theorem opens_Item : Opens Tryd.prog 52 itemC okItem := by
  intro H encH W fuel cs x h
  obtain ⟨xs, n, _, _, hl, hxl, hel⟩ := DataW.trod_struct (P := Tryd.prog) (t := 52) (fs := _) rfl h
  have hl' : cs.length = 110 := hl.trans (by kernel_rfl)
  obtain ⟨a0, e0, k0⟩ := Opens.at_ (t := 3) (off := 0) (k := 1) (Opens.int (by kernel_rfl)) (hel 0 _ rfl) (by rw [hxl]; decide) rfl (by kernel_rfl) rfl
  have q0 : cs.drop 0 = [.int .i64 a0] ++ cs.drop 1 := by rw [cut_cells 0 1, e0]
  obtain ⟨a1, e1, k1⟩ := Opens.at_ (t := 50) (off := 1) (k := 109) (opens_Entry) (hel 1 _ rfl) (by rw [hxl]; decide) rfl (by kernel_rfl) rfl
  have q1 : cs.drop 1 = entC a1 ++ cs.drop 110 := by rw [cut_cells 1 109, e1]
  have qe : cs.drop 110 = [] := List.drop_of_length_le (by omega)
  refine ⟨⟨a0, a1⟩, ?_, k0, k1, trivial⟩
  rw [List.drop_zero] at q0
  rw [q0, q1, qe]
  simp [itemC]
end
theorem ewithin_ok (n low high : Int) : CallL Tryd.prog G 92 [.int .i64 n, .int .i64 low, .int .i64 high] [] (.bool (withinB n low high)) [] := by
  refine walk (fn := Tryd.f92) (nt := 15) rfl rfl rfl rfl ?_
  refine c_seq (c_reg ?_)
  refine r_assign (v := .bool false) rfl rfl rfl ?_
  refine r_doneN (x_then (c_seq (c_reg ?_)))
  refine r_move (v := .int .i64 n) rfl rfl rfl ?_
  refine r_move (v := .int .i64 low) rfl rfl rfl ?_
  by_cases h1 : low ≤ n
  refine r_bin (v := .bool true) (vx := .int .i64 n) (vy := .int .i64 low) rfl rfl rfl rfl (geq_t (by omega)) ?_
  refine r_move (v := .bool true) rfl rfl rfl ?_
  refine r_move (v := .int .i64 n) rfl rfl rfl ?_
  refine r_move (v := .int .i64 high) rfl rfl rfl ?_
  by_cases h2 : n ≤ high
  refine r_bin (v := .bool true) (vx := .int .i64 n) (vy := .int .i64 high) rfl rfl rfl rfl (leq_t (by omega)) ?_
  refine r_pick (v := .bool true) rfl rfl rfl ?_
  refine r_assign (v := .bool true) rfl rfl rfl ?_
  refine r_doneN (x_then (c_ret (x_end ?_)))
  rw [show withinB n low high = true from withinB_t (by omega) (by omega)]
  exact end_same (v := .bool true) rfl rfl rfl (by kernel_rfl) rfl
  refine r_bin (v := .bool false) (vx := .int .i64 n) (vy := .int .i64 high) rfl rfl rfl rfl (leq_f (by omega)) ?_
  refine r_pick (v := .bool false) rfl rfl rfl ?_
  refine r_assign (v := .bool false) rfl rfl rfl ?_
  refine r_doneN (x_then (c_ret (x_end ?_)))
  rw [show withinB n low high = false from withinB_f (by omega)]
  exact end_same (v := .bool false) rfl rfl rfl (by kernel_rfl) rfl
  refine r_bin (v := .bool false) (vx := .int .i64 n) (vy := .int .i64 low) rfl rfl rfl rfl (geq_f (by omega)) ?_
  refine r_move (v := .bool false) rfl rfl rfl ?_
  refine r_skip rfl rfl (r_skip rfl rfl (r_skip rfl rfl ?_))
  refine r_pick (v := .bool false) rfl rfl rfl ?_
  refine r_assign (v := .bool false) rfl rfl rfl ?_
  refine r_doneN (x_then (c_ret (x_end ?_)))
  rw [show withinB n low high = false from withinB_f (by omega)]
  exact end_same (v := .bool false) rfl rfl rfl (by kernel_rfl) rfl
theorem told_ok (b : Bool) : CallL Tryd.prog G 94 [.bool b] [] (.int .i64 (if b then 0 else 60)) [] := by
  refine walk (fn := Tryd.f94) (nt := 4) rfl rfl rfl rfl ?_
  refine c_seq (c_reg ?_)
  refine r_assign (v := .int .i64 0) rfl rfl rfl ?_
  refine r_doneN (x_then (c_seq (c_seq (c_reg ?_))))
  refine r_move (v := .bool b) rfl rfl rfl ?_
  refine r_doneN (x_then ?_)
  rcases Bool.eq_false_or_eq_true b with h1 | h1
  refine c_true (congrArg Value.bool h1) ?_
  refine c_seq (c_reg ?_)
  refine r_assign (v := .int .i64 0) rfl rfl rfl ?_
  refine r_doneN (x_then (c_ret (x_thenR (x_end ?_))))
  rw [show (if b = true then (0 : Int) else 60) = 0 from by simp [*]]
  exact end_same (v := .int .i64 0) rfl rfl rfl (by kernel_rfl) rfl
  refine c_false (congrArg Value.bool h1) ?_
  refine c_skip (x_then (c_seq (c_reg ?_)))
  refine r_assign (v := .int .i64 60) rfl rfl rfl ?_
  refine r_doneN (x_then (c_ret (x_end ?_)))
  rw [show (if b = true then (0 : Int) else 60) = 60 from by simp [*]]
  exact end_same (v := .int .i64 60) rfl rfl rfl (by kernel_rfl) rfl
theorem CheckClaim_ok (c : Claim) : CallL Tryd.prog G 93 [claimV c] [] (.int .i64 (chkC c)) [] := by
  refine walk (fn := Tryd.f93) (nt := 22) rfl rfl rfl rfl ?_
  refine c_hole 1 (H' := [hole]) rfl ?_
  refine c_seq (c_reg ?_)
  refine r_box (v := claimV c) (b := bxB 36 (claimC c)) (nid := 0) (H' := [bxB 36 (claimC c)]) rfl rfl rfl (by kernel_rfl) (by kernel_rfl) ?_
  refine r_assign (v := .int .i64 0) rfl rfl rfl ?_
  refine r_doneN (x_then (c_seq (c_reg ?_)))
  refine r_fieldAddr (b := 0) (o := 0) (n := 0) (o' := 0) rfl rfl rfl rfl rfl ?_
  refine r_load (p := pt 0 0) (v := .int .i64 c.region) rfl rfl rfl (by kernel_rfl) ?_
  by_cases h1 : 1 ≤ c.region
  by_cases h2 : c.region ≤ 5
  refine r_callP ((ewithin_ok (G := G) c.region 1 5).res (congrArg Value.bool (withinB_t (by omega) (by omega)))) (vals := [.int .i64 c.region, .int .i64 1, .int .i64 5]) (res' := .bool true) rfl rfl rfl rfl rfl rfl ?_
  refine r_move (v := .bool true) rfl rfl rfl ?_
  refine r_fieldAddr (b := 0) (o := 0) (n := 1) (o' := 1) rfl rfl rfl rfl rfl ?_
  refine r_load (p := pt 0 1) (v := .int .i64 c.epoch) rfl rfl rfl (by kernel_rfl) ?_
  by_cases h3 : 1 ≤ c.epoch
  by_cases h4 : c.epoch ≤ 900000000
  refine r_callP ((ewithin_ok (G := G) c.epoch 1 900000000).res (congrArg Value.bool (withinB_t (by omega) (by omega)))) (vals := [.int .i64 c.epoch, .int .i64 1, .int .i64 900000000]) (res' := .bool true) rfl rfl rfl rfl rfl rfl ?_
  refine r_pick (v := .bool true) rfl rfl rfl ?_
  refine r_move (v := .bool true) rfl rfl rfl ?_
  refine r_fieldAddr (b := 0) (o := 0) (n := 2) (o' := 2) rfl rfl rfl rfl rfl ?_
  refine r_load (p := pt 0 2) (v := .int .i64 c.node) rfl rfl rfl (by kernel_rfl) ?_
  by_cases h5 : 1 ≤ c.node
  by_cases h6 : c.node ≤ 3
  refine r_callP ((ewithin_ok (G := G) c.node 1 3).res (congrArg Value.bool (withinB_t (by omega) (by omega)))) (vals := [.int .i64 c.node, .int .i64 1, .int .i64 3]) (res' := .bool true) rfl rfl rfl rfl rfl rfl ?_
  refine r_pick (v := .bool true) rfl rfl rfl ?_
  refine r_move (v := .bool true) rfl rfl rfl ?_
  refine r_fieldAddr (b := 0) (o := 0) (n := 3) (o' := 3) rfl rfl rfl rfl rfl ?_
  refine r_load (p := pt 0 3) (v := .int .i64 c.size) rfl rfl rfl (by kernel_rfl) ?_
  by_cases h7 : 0 ≤ c.size
  by_cases h8 : c.size ≤ 100000
  refine r_callP ((ewithin_ok (G := G) c.size 0 100000).res (congrArg Value.bool (withinB_t (by omega) (by omega)))) (vals := [.int .i64 c.size, .int .i64 0, .int .i64 100000]) (res' := .bool true) rfl rfl rfl rfl rfl rfl ?_
  refine r_pick (v := .bool true) rfl rfl rfl ?_
  refine r_callP (told_ok (G := G) true) (vals := [.bool true]) (res' := .int .i64 0) rfl rfl rfl rfl rfl rfl ?_
  refine r_assign (v := .int .i64 0) rfl rfl rfl ?_
  refine r_doneN (x_then (c_ret (x_end ?_)))
  rw [show chkC c = 0 from if_pos (by unfold rightC; omega)]
  exact end_same (v := .int .i64 0) rfl rfl rfl (by kernel_rfl) rfl
  refine r_callP ((ewithin_ok (G := G) c.size 0 100000).res (congrArg Value.bool (withinB_f (by omega)))) (vals := [.int .i64 c.size, .int .i64 0, .int .i64 100000]) (res' := .bool false) rfl rfl rfl rfl rfl rfl ?_
  refine r_pick (v := .bool false) rfl rfl rfl ?_
  refine r_callP (told_ok (G := G) false) (vals := [.bool false]) (res' := .int .i64 60) rfl rfl rfl rfl rfl rfl ?_
  refine r_assign (v := .int .i64 60) rfl rfl rfl ?_
  refine r_doneN (x_then (c_ret (x_end ?_)))
  rw [show chkC c = 60 from if_neg (by unfold rightC; omega)]
  exact end_same (v := .int .i64 60) rfl rfl rfl (by kernel_rfl) rfl
  refine r_callP ((ewithin_ok (G := G) c.size 0 100000).res (congrArg Value.bool (withinB_f (by omega)))) (vals := [.int .i64 c.size, .int .i64 0, .int .i64 100000]) (res' := .bool false) rfl rfl rfl rfl rfl rfl ?_
  refine r_pick (v := .bool false) rfl rfl rfl ?_
  refine r_callP (told_ok (G := G) false) (vals := [.bool false]) (res' := .int .i64 60) rfl rfl rfl rfl rfl rfl ?_
  refine r_assign (v := .int .i64 60) rfl rfl rfl ?_
  refine r_doneN (x_then (c_ret (x_end ?_)))
  rw [show chkC c = 60 from if_neg (by unfold rightC; omega)]
  exact end_same (v := .int .i64 60) rfl rfl rfl (by kernel_rfl) rfl
  refine r_callP ((ewithin_ok (G := G) c.node 1 3).res (congrArg Value.bool (withinB_f (by omega)))) (vals := [.int .i64 c.node, .int .i64 1, .int .i64 3]) (res' := .bool false) rfl rfl rfl rfl rfl rfl ?_
  refine r_pick (v := .bool false) rfl rfl rfl ?_
  refine r_move (v := .bool false) rfl rfl rfl ?_
  refine r_skip rfl rfl (r_skip rfl rfl (r_skip rfl rfl ?_))
  refine r_pick (v := .bool false) rfl rfl rfl ?_
  refine r_callP (told_ok (G := G) false) (vals := [.bool false]) (res' := .int .i64 60) rfl rfl rfl rfl rfl rfl ?_
  refine r_assign (v := .int .i64 60) rfl rfl rfl ?_
  refine r_doneN (x_then (c_ret (x_end ?_)))
  rw [show chkC c = 60 from if_neg (by unfold rightC; omega)]
  exact end_same (v := .int .i64 60) rfl rfl rfl (by kernel_rfl) rfl
  refine r_callP ((ewithin_ok (G := G) c.node 1 3).res (congrArg Value.bool (withinB_f (by omega)))) (vals := [.int .i64 c.node, .int .i64 1, .int .i64 3]) (res' := .bool false) rfl rfl rfl rfl rfl rfl ?_
  refine r_pick (v := .bool false) rfl rfl rfl ?_
  refine r_move (v := .bool false) rfl rfl rfl ?_
  refine r_skip rfl rfl (r_skip rfl rfl (r_skip rfl rfl ?_))
  refine r_pick (v := .bool false) rfl rfl rfl ?_
  refine r_callP (told_ok (G := G) false) (vals := [.bool false]) (res' := .int .i64 60) rfl rfl rfl rfl rfl rfl ?_
  refine r_assign (v := .int .i64 60) rfl rfl rfl ?_
  refine r_doneN (x_then (c_ret (x_end ?_)))
  rw [show chkC c = 60 from if_neg (by unfold rightC; omega)]
  exact end_same (v := .int .i64 60) rfl rfl rfl (by kernel_rfl) rfl
  refine r_callP ((ewithin_ok (G := G) c.epoch 1 900000000).res (congrArg Value.bool (withinB_f (by omega)))) (vals := [.int .i64 c.epoch, .int .i64 1, .int .i64 900000000]) (res' := .bool false) rfl rfl rfl rfl rfl rfl ?_
  refine r_pick (v := .bool false) rfl rfl rfl ?_
  refine r_move (v := .bool false) rfl rfl rfl ?_
  refine r_skip rfl rfl (r_skip rfl rfl (r_skip rfl rfl ?_))
  refine r_pick (v := .bool false) rfl rfl rfl ?_
  refine r_move (v := .bool false) rfl rfl rfl ?_
  refine r_skip rfl rfl (r_skip rfl rfl (r_skip rfl rfl ?_))
  refine r_pick (v := .bool false) rfl rfl rfl ?_
  refine r_callP (told_ok (G := G) false) (vals := [.bool false]) (res' := .int .i64 60) rfl rfl rfl rfl rfl rfl ?_
  refine r_assign (v := .int .i64 60) rfl rfl rfl ?_
  refine r_doneN (x_then (c_ret (x_end ?_)))
  rw [show chkC c = 60 from if_neg (by unfold rightC; omega)]
  exact end_same (v := .int .i64 60) rfl rfl rfl (by kernel_rfl) rfl
  refine r_callP ((ewithin_ok (G := G) c.epoch 1 900000000).res (congrArg Value.bool (withinB_f (by omega)))) (vals := [.int .i64 c.epoch, .int .i64 1, .int .i64 900000000]) (res' := .bool false) rfl rfl rfl rfl rfl rfl ?_
  refine r_pick (v := .bool false) rfl rfl rfl ?_
  refine r_move (v := .bool false) rfl rfl rfl ?_
  refine r_skip rfl rfl (r_skip rfl rfl (r_skip rfl rfl ?_))
  refine r_pick (v := .bool false) rfl rfl rfl ?_
  refine r_move (v := .bool false) rfl rfl rfl ?_
  refine r_skip rfl rfl (r_skip rfl rfl (r_skip rfl rfl ?_))
  refine r_pick (v := .bool false) rfl rfl rfl ?_
  refine r_callP (told_ok (G := G) false) (vals := [.bool false]) (res' := .int .i64 60) rfl rfl rfl rfl rfl rfl ?_
  refine r_assign (v := .int .i64 60) rfl rfl rfl ?_
  refine r_doneN (x_then (c_ret (x_end ?_)))
  rw [show chkC c = 60 from if_neg (by unfold rightC; omega)]
  exact end_same (v := .int .i64 60) rfl rfl rfl (by kernel_rfl) rfl
  refine r_callP ((ewithin_ok (G := G) c.region 1 5).res (congrArg Value.bool (withinB_f (by omega)))) (vals := [.int .i64 c.region, .int .i64 1, .int .i64 5]) (res' := .bool false) rfl rfl rfl rfl rfl rfl ?_
  refine r_move (v := .bool false) rfl rfl rfl ?_
  refine r_skip rfl rfl (r_skip rfl rfl (r_skip rfl rfl ?_))
  refine r_pick (v := .bool false) rfl rfl rfl ?_
  refine r_move (v := .bool false) rfl rfl rfl ?_
  refine r_skip rfl rfl (r_skip rfl rfl (r_skip rfl rfl ?_))
  refine r_pick (v := .bool false) rfl rfl rfl ?_
  refine r_move (v := .bool false) rfl rfl rfl ?_
  refine r_skip rfl rfl (r_skip rfl rfl (r_skip rfl rfl ?_))
  refine r_pick (v := .bool false) rfl rfl rfl ?_
  refine r_callP (told_ok (G := G) false) (vals := [.bool false]) (res' := .int .i64 60) rfl rfl rfl rfl rfl rfl ?_
  refine r_assign (v := .int .i64 60) rfl rfl rfl ?_
  refine r_doneN (x_then (c_ret (x_end ?_)))
  rw [show chkC c = 60 from if_neg (by unfold rightC; omega)]
  exact end_same (v := .int .i64 60) rfl rfl rfl (by kernel_rfl) rfl
  refine r_callP ((ewithin_ok (G := G) c.region 1 5).res (congrArg Value.bool (withinB_f (by omega)))) (vals := [.int .i64 c.region, .int .i64 1, .int .i64 5]) (res' := .bool false) rfl rfl rfl rfl rfl rfl ?_
  refine r_move (v := .bool false) rfl rfl rfl ?_
  refine r_skip rfl rfl (r_skip rfl rfl (r_skip rfl rfl ?_))
  refine r_pick (v := .bool false) rfl rfl rfl ?_
  refine r_move (v := .bool false) rfl rfl rfl ?_
  refine r_skip rfl rfl (r_skip rfl rfl (r_skip rfl rfl ?_))
  refine r_pick (v := .bool false) rfl rfl rfl ?_
  refine r_move (v := .bool false) rfl rfl rfl ?_
  refine r_skip rfl rfl (r_skip rfl rfl (r_skip rfl rfl ?_))
  refine r_pick (v := .bool false) rfl rfl rfl ?_
  refine r_callP (told_ok (G := G) false) (vals := [.bool false]) (res' := .int .i64 60) rfl rfl rfl rfl rfl rfl ?_
  refine r_assign (v := .int .i64 60) rfl rfl rfl ?_
  refine r_doneN (x_then (c_ret (x_end ?_)))
  rw [show chkC c = 60 from if_neg (by unfold rightC; omega)]
  exact end_same (v := .int .i64 60) rfl rfl rfl (by kernel_rfl) rfl
end Go.Flat
