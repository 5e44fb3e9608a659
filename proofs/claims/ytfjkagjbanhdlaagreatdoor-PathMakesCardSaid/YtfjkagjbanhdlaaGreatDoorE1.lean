/- Walks. -/
import Derived.Test.YtfjkagjbanhdlaaGreatDoorH9
import Derived.Test.YtfjkagjbanhdlaaGreatDoorFlatG
set_option linter.unusedVariables false
set_option linter.unusedSimpArgs false
set_option maxRecDepth 20000
namespace Go.Flat
open Go.Proofs
variable {G : Glob}
instance : LawfulBEq ByteArray where
  eq_of_beq := by
    intro a b h
    obtain ⟨x⟩ := a; obtain ⟨y⟩ := b
    exact congrArg ByteArray.mk (eq_of_beq (show (x == y) = true from h))
  rfl := by
    intro a
    obtain ⟨x⟩ := a
    exact (BEq.rfl : (x == x) = true)
structure Claim where
  region : Int
  epoch : Int
  node : Int
  size : Int
  root : D
instance : Inhabited Claim := ⟨⟨0, 0, 0, 0, dz⟩⟩
def Zdx (c : Claim) : List Value := [.int .i64 c.region, .int .i64 c.epoch, .int .i64 c.node, .int .i64 c.size] ++ Zag w8 32 c.root
def Zcb (c : Claim) : Value := .agg (Zdx c).toArray
def cClaim : Cod Claim := ⟨Zdx, 36, fun _ => rfl, by decide⟩
structure Entry where
  kind : Int
  client : Int
  seq : Int
  text : ByteArray
  head : Signed
  claim : Claim
def zeroC : Claim := ⟨0, 0, 0, 0, dz⟩
def Z67 : Entry := ⟨0, 0, 0, ⟨#[]⟩, Z7a, zeroC⟩
instance : Inhabited Entry := ⟨Z67⟩
def Zcs (e : Entry) : List Value := [.int .i64 e.kind, .int .i64 e.client, .int .i64 e.seq, .string e.text] ++ (Zj e.head ++ Zdx e.claim)
def Zdf (e : Entry) : Value := .agg (Zcs e).toArray
def cEnt : Cod Entry := ⟨Zcs, 109, fun _ => rfl, by decide⟩
structure Item where
  epoch : Int
  entry : Entry
instance : Inhabited Item := ⟨⟨0, Z67⟩⟩
def Zs (x : Item) : List Value := .int .i64 x.epoch :: Zcs x.entry
def Za9 (x : Item) : Value := .agg (Zs x).toArray
def Zt : Cod Item := ⟨Zs, 110, fun _ => rfl, by decide⟩
def Zb0 (c : Claim) : Prop := (1 ≤ c.region ∧ c.region ≤ 5) ∧ (1 ≤ c.epoch ∧ c.epoch ≤ 900000000) ∧ (1 ≤ c.node ∧ c.node ≤ 3) ∧ (0 ≤ c.size ∧ c.size ≤ 100000)
instance (c : Claim) : Decidable (Zb0 c) := inferInstanceAs (Decidable (_ ∧ _))
def Zf0 (c : Claim) : Int := if Zb0 c then 0 else 60
theorem Zvp {c : Claim} (h : Zf0 c = 0) : Zb0 c := by
 unfold Zf0 at h
 split at h
 ·assumption
 ·omega
theorem Zv5 {c : Claim} (h : ¬ Zf0 c = 0) : ¬ Zb0 c := fun q => h (if_pos q)
section
open Go.ChangeShapes Go.WideShapes Go.RowKit
def Zf1 (a b : Claim) : Bool := ((a.region == b.region) && ((a.epoch == b.epoch) && ((a.node == b.node) && ((a.size == b.size) && ((Zcv 32 a.root b.root) && true)))))
theorem Zvn (a b : Claim) {d : Nat} : Zae Tryz.prog (Op.equalIn (d + 3) 33 (Zcb a) (Zcb b)) = some (Zf1 a b) :=
 eqS (P := Tryz.prog) (d + 2) 33 _ (Zdx a).toArray (Zdx b).toArray (fun f => if f.offset = 0 then (a.region == b.region) else if f.offset = 1 then (a.epoch == b.epoch) else if f.offset = 2 then (a.node == b.node) else if f.offset = 3 then (a.size == b.size) else if f.offset = 4 then (Zcv 32 a.root b.root) else true) rfl (by kernel_rfl) (List.forall_mem_cons.2 ⟨⟨by decide, Iv a.region, Iv b.region, Zbv rfl rfl rfl, Zbv rfl rfl rfl, Zgv rfl⟩, List.forall_mem_cons.2 ⟨⟨by decide, Iv a.epoch, Iv b.epoch, Zbv rfl rfl rfl, Zbv rfl rfl rfl, Zgv rfl⟩, List.forall_mem_cons.2 ⟨⟨by decide, Iv a.node, Iv b.node, Zbv rfl rfl rfl, Zbv rfl rfl rfl, Zgv rfl⟩, List.forall_mem_cons.2 ⟨⟨by decide, Iv a.size, Iv b.size, Zbv rfl rfl rfl, Zbv rfl rfl rfl, Zgv rfl⟩, List.forall_mem_cons.2 ⟨⟨by decide, .agg (Zag w8 32 a.root).toArray, .agg (Zag w8 32 b.root).toArray, Zdk (n := 32) rfl rfl rfl rfl rfl, Zdk (n := 32) rfl rfl rfl rfl rfl, Zn0 rfl rfl rfl⟩, fun _ h => absurd h (by simp)⟩⟩⟩⟩⟩)
theorem Zlt {x y : Operand} (a b : Claim) : Zcl Tryz.prog .eql 33 x y (Zcb a) (Zcb b) = some (.bool (Zf1 a b)) := Zp0 (by kernel_rfl) (by kernel_rfl) (Zvn a b (d := 9997))
theorem Znj (a : Claim) : Zf1 a a = true := by simp [Zf1, Zcv]
def okClaim (a : Claim) : Prop := (-9223372036854775808 ≤ a.region ∧ a.region ≤ 9223372036854775807) ∧ (-9223372036854775808 ≤ a.epoch ∧ a.epoch ≤ 9223372036854775807) ∧ (-9223372036854775808 ≤ a.node ∧ a.node ≤ 9223372036854775807) ∧ (-9223372036854775808 ≤ a.size ∧ a.size ≤ 9223372036854775807) ∧ True ∧ True
theorem Zwd : Zbi Tryz.prog 33 Zdx okClaim := by
 intro H encH W fuel cs x h
 obtain ⟨xs, n, _, _, hl, hxl, hel⟩ := DataW.trod_struct (P := Tryz.prog) (t := 33) (fs := _) rfl h
 have hl' : cs.length = 36 := hl.trans (by kernel_rfl)
 obtain ⟨a0, e0, k0⟩ := Zbi.at_ (t := 3) (off := 0) (k := 1) (Zbi.int (by kernel_rfl)) (hel 0 _ rfl) (by rw [hxl]; decide) rfl (by kernel_rfl) rfl
 have q0 : cs.drop 0 = [Iv a0] ++ cs.drop 1 := by rw [Zck 0 1, e0]
 obtain ⟨a1, e1, k1⟩ := Zbi.at_ (t := 3) (off := 1) (k := 1) (Zbi.int (by kernel_rfl)) (hel 1 _ rfl) (by rw [hxl]; decide) rfl (by kernel_rfl) rfl
 have q1 : cs.drop 1 = [Iv a1] ++ cs.drop 2 := by rw [Zck 1 1, e1]
 obtain ⟨a2, e2, k2⟩ := Zbi.at_ (t := 3) (off := 2) (k := 1) (Zbi.int (by kernel_rfl)) (hel 2 _ rfl) (by rw [hxl]; decide) rfl (by kernel_rfl) rfl
 have q2 : cs.drop 2 = [Iv a2] ++ cs.drop 3 := by rw [Zck 2 1, e2]
 obtain ⟨a3, e3, k3⟩ := Zbi.at_ (t := 3) (off := 3) (k := 1) (Zbi.int (by kernel_rfl)) (hel 3 _ rfl) (by rw [hxl]; decide) rfl (by kernel_rfl) rfl
 have q3 : cs.drop 3 = [Iv a3] ++ cs.drop 4 := by rw [Zck 3 1, e3]
 obtain ⟨a4, e4, k4⟩ := Zbi.at_ (t := 24) (off := 4) (k := 32) (Zbi.bytes (n := 32) (tb := 5) (by kernel_rfl) (by kernel_rfl) (by kernel_rfl) (by kernel_rfl)) (hel 4 _ rfl) (by rw [hxl]; decide) rfl (by kernel_rfl) rfl
 have q4 : cs.drop 4 = Zag w8 32 a4 ++ cs.drop 36 := by rw [Zck 4 32, e4]
 have qe : cs.drop 36 = [] := List.drop_of_length_le (by omega)
 refine ⟨⟨a0, a1, a2, a3, a4⟩, ?_, k0, k1, k2, k3, k4, trivial⟩
 rw [List.drop_zero] at q0
 rw [q0, q1, q2, q3, q4, qe]
 simp [Zdx]
def Ze3 (a b : Entry) : Bool := ((a.kind == b.kind) && ((a.client == b.client) && ((a.seq == b.seq) && ((a.text == b.text) && ((Zex a.head b.head) && ((Zf1 a.claim b.claim) && true))))))
theorem Zq5 (a b : Entry) {d : Nat} : Zae Tryz.prog (Op.equalIn (d + 5) 35 (Zdf a) (Zdf b)) = some (Ze3 a b) :=
 eqS (P := Tryz.prog) (d + 4) 35 _ (Zcs a).toArray (Zcs b).toArray (fun f => if f.offset = 0 then (a.kind == b.kind) else if f.offset = 1 then (a.client == b.client) else if f.offset = 2 then (a.seq == b.seq) else if f.offset = 3 then (a.text == b.text) else if f.offset = 4 then (Zex a.head b.head) else if f.offset = 73 then (Zf1 a.claim b.claim) else true) rfl (by kernel_rfl) (List.forall_mem_cons.2 ⟨⟨by decide, Iv a.kind, Iv b.kind, Zbv rfl rfl rfl, Zbv rfl rfl rfl, Zgv rfl⟩, List.forall_mem_cons.2 ⟨⟨by decide, Iv a.client, Iv b.client, Zbv rfl rfl rfl, Zbv rfl rfl rfl, Zgv rfl⟩, List.forall_mem_cons.2 ⟨⟨by decide, Iv a.seq, Iv b.seq, Zbv rfl rfl rfl, Zbv rfl rfl rfl, Zgv rfl⟩, List.forall_mem_cons.2 ⟨⟨by decide, .string a.text, .string b.text, Zbv rfl rfl rfl, Zbv rfl rfl rfl, Z1b rfl⟩, List.forall_mem_cons.2 ⟨⟨by decide, Zy a.head, Zy b.head, Zdk (n := 69) rfl rfl rfl rfl rfl, Zdk (n := 69) rfl rfl rfl rfl rfl, Zs7 a.head b.head⟩, List.forall_mem_cons.2 ⟨⟨by decide, Zcb a.claim, Zcb b.claim, Zdk (n := 36) rfl rfl rfl rfl rfl, Zdk (n := 36) rfl rfl rfl rfl rfl, Zvn a.claim b.claim⟩, fun _ h => absurd h (by simp)⟩⟩⟩⟩⟩⟩)
theorem Zh5 {x y : Operand} (a b : Entry) : Zcl Tryz.prog .eql 35 x y (Zdf a) (Zdf b) = some (.bool (Ze3 a b)) := Zp0 (by kernel_rfl) (by kernel_rfl) (Zq5 a b (d := 9995))
theorem Zsn {x y : Operand} (a b : Entry) : Zcl Tryz.prog .neq 35 x y (Zdf a) (Zdf b) = some (.bool (!Ze3 a b)) := Z0n (by kernel_rfl) (by kernel_rfl) (Zq5 a b (d := 9995))
theorem Zyg (a : Entry) : Ze3 a a = true := by simp [Ze3, Zcv, Zhe, Znj]
def okEntry (a : Entry) : Prop := (-9223372036854775808 ≤ a.kind ∧ a.kind ≤ 9223372036854775807) ∧ (-9223372036854775808 ≤ a.client ∧ a.client ≤ 9223372036854775807) ∧ (-9223372036854775808 ≤ a.seq ∧ a.seq ≤ 9223372036854775807) ∧ (a.text.size ≤ maxLen) ∧ okSigned a.head ∧ okClaim a.claim ∧ True
theorem Zw7 : Zbi Tryz.prog 35 Zcs okEntry := by
 intro H encH W fuel cs x h
 obtain ⟨xs, n, _, _, hl, hxl, hel⟩ := DataW.trod_struct (P := Tryz.prog) (t := 35) (fs := _) rfl h
 have hl' : cs.length = 109 := hl.trans (by kernel_rfl)
 obtain ⟨a0, e0, k0⟩ := Zbi.at_ (t := 31) (off := 0) (k := 1) (Zbi.int (by kernel_rfl)) (hel 0 _ rfl) (by rw [hxl]; decide) rfl (by kernel_rfl) rfl
 have q0 : cs.drop 0 = [Iv a0] ++ cs.drop 1 := by rw [Zck 0 1, e0]
 obtain ⟨a1, e1, k1⟩ := Zbi.at_ (t := 3) (off := 1) (k := 1) (Zbi.int (by kernel_rfl)) (hel 1 _ rfl) (by rw [hxl]; decide) rfl (by kernel_rfl) rfl
 have q1 : cs.drop 1 = [Iv a1] ++ cs.drop 2 := by rw [Zck 1 1, e1]
 obtain ⟨a2, e2, k2⟩ := Zbi.at_ (t := 3) (off := 2) (k := 1) (Zbi.int (by kernel_rfl)) (hel 2 _ rfl) (by rw [hxl]; decide) rfl (by kernel_rfl) rfl
 have q2 : cs.drop 2 = [Iv a2] ++ cs.drop 3 := by rw [Zck 2 1, e2]
 obtain ⟨a3, e3, k3⟩ := Zbi.at_ (t := 9) (off := 3) (k := 1) (Zbi.str (by kernel_rfl)) (hel 3 _ rfl) (by rw [hxl]; decide) rfl (by kernel_rfl) rfl
 have q3 : cs.drop 3 = [.string a3] ++ cs.drop 4 := by rw [Zck 3 1, e3]
 obtain ⟨a4, e4, k4⟩ := Zbi.at_ (t := 28) (off := 4) (k := 69) (Zne) (hel 4 _ rfl) (by rw [hxl]; decide) rfl (by kernel_rfl) rfl
 have q4 : cs.drop 4 = Zj a4 ++ cs.drop 73 := by rw [Zck 4 69, e4]
 obtain ⟨a5, e5, k5⟩ := Zbi.at_ (t := 33) (off := 73) (k := 36) (Zwd) (hel 5 _ rfl) (by rw [hxl]; decide) rfl (by kernel_rfl) rfl
 have q5 : cs.drop 73 = Zdx a5 ++ cs.drop 109 := by rw [Zck 73 36, e5]
 have qe : cs.drop 109 = [] := List.drop_of_length_le (by omega)
 refine ⟨⟨a0, a1, a2, a3, a4, a5⟩, ?_, k0, k1, k2, k3, k4, k5, trivial⟩
 rw [List.drop_zero] at q0
 rw [q0, q1, q2, q3, q4, q5, qe]
 simp [Zcs]
def Zim (a b : Item) : Bool := ((a.epoch == b.epoch) && ((Ze3 a.entry b.entry) && true))
theorem Z0d (a b : Item) {d : Nat} : Zae Tryz.prog (Op.equalIn (d + 6) 37 (Za9 a) (Za9 b)) = some (Zim a b) :=
 eqS (P := Tryz.prog) (d + 5) 37 _ (Zs a).toArray (Zs b).toArray (fun f => if f.offset = 0 then (a.epoch == b.epoch) else if f.offset = 1 then (Ze3 a.entry b.entry) else true) rfl (by kernel_rfl) (List.forall_mem_cons.2 ⟨⟨by decide, Iv a.epoch, Iv b.epoch, Zbv rfl rfl rfl, Zbv rfl rfl rfl, Zgv rfl⟩, List.forall_mem_cons.2 ⟨⟨by decide, Zdf a.entry, Zdf b.entry, Zdk (n := 109) rfl rfl rfl rfl rfl, Zdk (n := 109) rfl rfl rfl rfl rfl, Zq5 a.entry b.entry⟩, fun _ h => absurd h (by simp)⟩⟩)
theorem Zvd {x y : Operand} (a b : Item) : Zcl Tryz.prog .eql 37 x y (Za9 a) (Za9 b) = some (.bool (Zim a b)) := Zp0 (by kernel_rfl) (by kernel_rfl) (Z0d a b (d := 9994))
theorem Zww {x y : Operand} (a b : Item) : Zcl Tryz.prog .neq 37 x y (Za9 a) (Za9 b) = some (.bool (!Zim a b)) := Z0n (by kernel_rfl) (by kernel_rfl) (Z0d a b (d := 9994))
theorem Zk7 (a : Item) : Zim a a = true := by simp [Zim, Zcv, Zyg]
def okItem (a : Item) : Prop := (-9223372036854775808 ≤ a.epoch ∧ a.epoch ≤ 9223372036854775807) ∧ okEntry a.entry ∧ True
theorem Zyr : Zbi Tryz.prog 37 Zs okItem := by
 intro H encH W fuel cs x h
 obtain ⟨xs, n, _, _, hl, hxl, hel⟩ := DataW.trod_struct (P := Tryz.prog) (t := 37) (fs := _) rfl h
 have hl' : cs.length = 110 := hl.trans (by kernel_rfl)
 obtain ⟨a0, e0, k0⟩ := Zbi.at_ (t := 3) (off := 0) (k := 1) (Zbi.int (by kernel_rfl)) (hel 0 _ rfl) (by rw [hxl]; decide) rfl (by kernel_rfl) rfl
 have q0 : cs.drop 0 = [Iv a0] ++ cs.drop 1 := by rw [Zck 0 1, e0]
 obtain ⟨a1, e1, k1⟩ := Zbi.at_ (t := 35) (off := 1) (k := 109) (Zw7) (hel 1 _ rfl) (by rw [hxl]; decide) rfl (by kernel_rfl) rfl
 have q1 : cs.drop 1 = Zcs a1 ++ cs.drop 110 := by rw [Zck 1 109, e1]
 have qe : cs.drop 110 = [] := List.drop_of_length_le (by omega)
 refine ⟨⟨a0, a1⟩, ?_, k0, k1, trivial⟩
 rw [List.drop_zero] at q0
 rw [q0, q1, qe]
 simp [Zs]
end
theorem Zbk (n low high : Int) : Z6 Tryz.prog G 100 [Iv n, Iv low, Iv high] [] (.bool (Zcx n low high)) [] := by
 refine Za8 (fn := Tryz.f100) (nt := 15) rfl rfl rfl rfl ?_
 refine Zf (Zg (Zb (.bool false) (Za (Zc (Zf (Zg (Zd (Iv n) (Zd (Iv low) ?_))))))))
 by_cases h1 : low ≤ n
 refine Zl (vx := Iv n) (vy := Iv low) rfl rfl (.bool true) rfl rfl (Zgm (by omega)) ?_
 refine Zd (.bool true) (Zd (Iv n) (Zd (Iv high) ?_))
 by_cases h2 : n ≤ high
 refine Zl (vx := Iv n) (vy := Iv high) rfl rfl (.bool true) rfl rfl (Zo5 (by omega)) ?_
 refine Zi (.bool true) (Zb (.bool true) (Za (Zc (Zq (Zr ?_)))))
 rw [show Zcx n low high = true from Zbc (by omega) (by omega)]
 exact Zk (v := .bool true) rfl rfl rfl (by kernel_rfl) rfl
 refine Zl (vx := Iv n) (vy := Iv high) rfl rfl (.bool false) rfl rfl (Znp (by omega)) ?_
 refine Zi (.bool false) (Zb (.bool false) (Za (Zc (Zq (Zr ?_)))))
 rw [show Zcx n low high = false from Z8 (by omega)]
 exact Zk (v := .bool false) rfl rfl rfl (by kernel_rfl) rfl
 refine Zl (vx := Iv n) (vy := Iv low) rfl rfl (.bool false) rfl rfl (Zg1 (by omega)) ?_
 refine Zd (.bool false) (Ze (Ze (Ze (Zi (.bool false) (Zb (.bool false) (Za (Zc (Zq (Zr ?_)))))))))
 rw [show Zcx n low high = false from Z8 (by omega)]
 exact Zk (v := .bool false) rfl rfl rfl (by kernel_rfl) rfl
theorem Zbl (n low high : Int) : Z6 Tryz.prog G 80 [Iv n, Iv low, Iv high] [] (.bool (Zcx n low high)) [] := by
 refine Za8 (fn := Tryz.f80) (nt := 15) rfl rfl rfl rfl ?_
 refine Zf (Zg (Zb (.bool false) (Za (Zc (Zf (Zg (Zd (Iv n) (Zd (Iv low) ?_))))))))
 by_cases h1 : low ≤ n
 refine Zl (vx := Iv n) (vy := Iv low) rfl rfl (.bool true) rfl rfl (Zgm (by omega)) ?_
 refine Zd (.bool true) (Zd (Iv n) (Zd (Iv high) ?_))
 by_cases h2 : n ≤ high
 refine Zl (vx := Iv n) (vy := Iv high) rfl rfl (.bool true) rfl rfl (Zo5 (by omega)) ?_
 refine Zi (.bool true) (Zb (.bool true) (Za (Zc (Zq (Zr ?_)))))
 rw [show Zcx n low high = true from Zbc (by omega) (by omega)]
 exact Zk (v := .bool true) rfl rfl rfl (by kernel_rfl) rfl
 refine Zl (vx := Iv n) (vy := Iv high) rfl rfl (.bool false) rfl rfl (Znp (by omega)) ?_
 refine Zi (.bool false) (Zb (.bool false) (Za (Zc (Zq (Zr ?_)))))
 rw [show Zcx n low high = false from Z8 (by omega)]
 exact Zk (v := .bool false) rfl rfl rfl (by kernel_rfl) rfl
 refine Zl (vx := Iv n) (vy := Iv low) rfl rfl (.bool false) rfl rfl (Zg1 (by omega)) ?_
 refine Zd (.bool false) (Ze (Ze (Ze (Zi (.bool false) (Zb (.bool false) (Za (Zc (Zq (Zr ?_)))))))))
 rw [show Zcx n low high = false from Z8 (by omega)]
 exact Zk (v := .bool false) rfl rfl rfl (by kernel_rfl) rfl
theorem Zc8 (b : Bool) : Z6 Tryz.prog G 126 [.bool b] [] (Iv (if b then 0 else 60)) [] := by
 refine Za8 (fn := Tryz.f126) (nt := 4) rfl rfl rfl rfl ?_
 refine Zf (Zg (Zb (Iv 0) (Za (Zc (Zf (Zf (Zg (Zd (.bool b) (Za (Zc ?_))))))))))
 rcases Bool.eq_false_or_eq_true b with h1 | h1
 refine Zx (congrArg Value.bool h1) (Zf (Zg (Zb (Iv 0) (Za (Zc (Zq (Zz (Zr ?_))))))))
 rw [show (if b = true then (0 : Int) else 60) = 0 from by simp [*]]
 exact Zk (v := Iv 0) rfl rfl rfl (by kernel_rfl) rfl
 refine Zu (congrArg Value.bool h1) (Z0 (Zc (Zf (Zg (Zb (Iv 60) (Za (Zc (Zq (Zr ?_)))))))))
 rw [show (if b = true then (0 : Int) else 60) = 60 from by simp [*]]
 exact Zk (v := Iv 60) rfl rfl rfl (by kernel_rfl) rfl
theorem Zl7 (c : Claim) : Z6 Tryz.prog G 125 [Zcb c] [] (Iv (Zf0 c)) [] := by
 refine Za8 (fn := Tryz.f125) (nt := 22) rfl rfl rfl rfl ?_
 refine Zaa 1 (H' := [hole]) rfl ?_
 refine Zf (Zg (Zbq (v := Zcb c) (b := bxB 36 (Zdx c)) (nid := 0) (H' := [bxB 36 (Zdx c)]) (Zb (Iv 0) (Za (Zc (Zf (Zg (Zh (b := 0) (o := 0) (n := 0) (o' := 0) (Zp (p := pt 0 0) (v := Iv c.region) ?_)))))))))
 by_cases h1 : 1 ≤ c.region
 by_cases h2 : c.region ≤ 5
 refine Zo ((Zbk (G := G) c.region 1 5).res (congrArg Value.bool (Zbc (by omega) (by omega)))) (vals := [Iv c.region, Iv 1, Iv 5]) (res' := .bool true) rfl rfl rfl rfl rfl rfl ?_
 refine Zd (.bool true) (Zh (b := 0) (o := 0) (n := 1) (o' := 1) (Zp (p := pt 0 1) (v := Iv c.epoch) ?_))
 by_cases h3 : 1 ≤ c.epoch
 by_cases h4 : c.epoch ≤ 900000000
 refine Zo ((Zbk (G := G) c.epoch 1 900000000).res (congrArg Value.bool (Zbc (by omega) (by omega)))) (vals := [Iv c.epoch, Iv 1, Iv 900000000]) (res' := .bool true) rfl rfl rfl rfl rfl rfl ?_
 refine Zi (.bool true) (Zd (.bool true) (Zh (b := 0) (o := 0) (n := 2) (o' := 2) (Zp (p := pt 0 2) (v := Iv c.node) ?_)))
 by_cases h5 : 1 ≤ c.node
 by_cases h6 : c.node ≤ 3
 refine Zo ((Zbk (G := G) c.node 1 3).res (congrArg Value.bool (Zbc (by omega) (by omega)))) (vals := [Iv c.node, Iv 1, Iv 3]) (res' := .bool true) rfl rfl rfl rfl rfl rfl ?_
 refine Zi (.bool true) (Zd (.bool true) (Zh (b := 0) (o := 0) (n := 3) (o' := 3) (Zp (p := pt 0 3) (v := Iv c.size) ?_)))
 by_cases h7 : 0 ≤ c.size
 by_cases h8 : c.size ≤ 100000
 refine Zo ((Zbk (G := G) c.size 0 100000).res (congrArg Value.bool (Zbc (by omega) (by omega)))) (vals := [Iv c.size, Iv 0, Iv 100000]) (res' := .bool true) rfl rfl rfl rfl rfl rfl ?_
 refine Zi (.bool true) ?_
 refine Zo (Zc8 (G := G) true) (vals := [.bool true]) (res' := Iv 0) rfl rfl rfl rfl rfl rfl ?_
 refine Zb (Iv 0) (Za (Zc (Zq (Zr ?_))))
 rw [show Zf0 c = 0 from if_pos (by unfold Zb0; omega)]
 exact Zk (v := Iv 0) rfl rfl rfl (by kernel_rfl) rfl
 refine Zo ((Zbk (G := G) c.size 0 100000).res (congrArg Value.bool (Z8 (by omega)))) (vals := [Iv c.size, Iv 0, Iv 100000]) (res' := .bool false) rfl rfl rfl rfl rfl rfl ?_
 refine Zi (.bool false) ?_
 refine Zo (Zc8 (G := G) false) (vals := [.bool false]) (res' := Iv 60) rfl rfl rfl rfl rfl rfl ?_
 refine Zb (Iv 60) (Za (Zc (Zq (Zr ?_))))
 rw [show Zf0 c = 60 from if_neg (by unfold Zb0; omega)]
 exact Zk (v := Iv 60) rfl rfl rfl (by kernel_rfl) rfl
 refine Zo ((Zbk (G := G) c.size 0 100000).res (congrArg Value.bool (Z8 (by omega)))) (vals := [Iv c.size, Iv 0, Iv 100000]) (res' := .bool false) rfl rfl rfl rfl rfl rfl ?_
 refine Zi (.bool false) ?_
 refine Zo (Zc8 (G := G) false) (vals := [.bool false]) (res' := Iv 60) rfl rfl rfl rfl rfl rfl ?_
 refine Zb (Iv 60) (Za (Zc (Zq (Zr ?_))))
 rw [show Zf0 c = 60 from if_neg (by unfold Zb0; omega)]
 exact Zk (v := Iv 60) rfl rfl rfl (by kernel_rfl) rfl
 refine Zo ((Zbk (G := G) c.node 1 3).res (congrArg Value.bool (Z8 (by omega)))) (vals := [Iv c.node, Iv 1, Iv 3]) (res' := .bool false) rfl rfl rfl rfl rfl rfl ?_
 refine Zi (.bool false) (Zd (.bool false) (Ze (Ze (Ze (Zi (.bool false) ?_)))))
 refine Zo (Zc8 (G := G) false) (vals := [.bool false]) (res' := Iv 60) rfl rfl rfl rfl rfl rfl ?_
 refine Zb (Iv 60) (Za (Zc (Zq (Zr ?_))))
 rw [show Zf0 c = 60 from if_neg (by unfold Zb0; omega)]
 exact Zk (v := Iv 60) rfl rfl rfl (by kernel_rfl) rfl
 refine Zo ((Zbk (G := G) c.node 1 3).res (congrArg Value.bool (Z8 (by omega)))) (vals := [Iv c.node, Iv 1, Iv 3]) (res' := .bool false) rfl rfl rfl rfl rfl rfl ?_
 refine Zi (.bool false) (Zd (.bool false) (Ze (Ze (Ze (Zi (.bool false) ?_)))))
 refine Zo (Zc8 (G := G) false) (vals := [.bool false]) (res' := Iv 60) rfl rfl rfl rfl rfl rfl ?_
 refine Zb (Iv 60) (Za (Zc (Zq (Zr ?_))))
 rw [show Zf0 c = 60 from if_neg (by unfold Zb0; omega)]
 exact Zk (v := Iv 60) rfl rfl rfl (by kernel_rfl) rfl
 refine Zo ((Zbk (G := G) c.epoch 1 900000000).res (congrArg Value.bool (Z8 (by omega)))) (vals := [Iv c.epoch, Iv 1, Iv 900000000]) (res' := .bool false) rfl rfl rfl rfl rfl rfl ?_
 refine Zi (.bool false) (Zd (.bool false) (Ze (Ze (Ze (Zi (.bool false) (Zd (.bool false) (Ze (Ze (Ze (Zi (.bool false) ?_))))))))))
 refine Zo (Zc8 (G := G) false) (vals := [.bool false]) (res' := Iv 60) rfl rfl rfl rfl rfl rfl ?_
 refine Zb (Iv 60) (Za (Zc (Zq (Zr ?_))))
 rw [show Zf0 c = 60 from if_neg (by unfold Zb0; omega)]
 exact Zk (v := Iv 60) rfl rfl rfl (by kernel_rfl) rfl
 refine Zo ((Zbk (G := G) c.epoch 1 900000000).res (congrArg Value.bool (Z8 (by omega)))) (vals := [Iv c.epoch, Iv 1, Iv 900000000]) (res' := .bool false) rfl rfl rfl rfl rfl rfl ?_
 refine Zi (.bool false) (Zd (.bool false) (Ze (Ze (Ze (Zi (.bool false) (Zd (.bool false) (Ze (Ze (Ze (Zi (.bool false) ?_))))))))))
 refine Zo (Zc8 (G := G) false) (vals := [.bool false]) (res' := Iv 60) rfl rfl rfl rfl rfl rfl ?_
 refine Zb (Iv 60) (Za (Zc (Zq (Zr ?_))))
 rw [show Zf0 c = 60 from if_neg (by unfold Zb0; omega)]
 exact Zk (v := Iv 60) rfl rfl rfl (by kernel_rfl) rfl
 refine Zo ((Zbk (G := G) c.region 1 5).res (congrArg Value.bool (Z8 (by omega)))) (vals := [Iv c.region, Iv 1, Iv 5]) (res' := .bool false) rfl rfl rfl rfl rfl rfl ?_
 refine Zd (.bool false) (Ze (Ze (Ze (Zi (.bool false) (Zd (.bool false) (Ze (Ze (Ze (Zi (.bool false) (Zd (.bool false) (Ze (Ze (Ze (Zi (.bool false) ?_))))))))))))))
 refine Zo (Zc8 (G := G) false) (vals := [.bool false]) (res' := Iv 60) rfl rfl rfl rfl rfl rfl ?_
 refine Zb (Iv 60) (Za (Zc (Zq (Zr ?_))))
 rw [show Zf0 c = 60 from if_neg (by unfold Zb0; omega)]
 exact Zk (v := Iv 60) rfl rfl rfl (by kernel_rfl) rfl
 refine Zo ((Zbk (G := G) c.region 1 5).res (congrArg Value.bool (Z8 (by omega)))) (vals := [Iv c.region, Iv 1, Iv 5]) (res' := .bool false) rfl rfl rfl rfl rfl rfl ?_
 refine Zd (.bool false) (Ze (Ze (Ze (Zi (.bool false) (Zd (.bool false) (Ze (Ze (Ze (Zi (.bool false) (Zd (.bool false) (Ze (Ze (Ze (Zi (.bool false) ?_))))))))))))))
 refine Zo (Zc8 (G := G) false) (vals := [.bool false]) (res' := Iv 60) rfl rfl rfl rfl rfl rfl ?_
 refine Zb (Iv 60) (Za (Zc (Zq (Zr ?_))))
 rw [show Zf0 c = 60 from if_neg (by unfold Zb0; omega)]
 exact Zk (v := Iv 60) rfl rfl rfl (by kernel_rfl) rfl
theorem Zuh (c : Claim) : Z6 Tryz.prog G 108 [Zcb c] [] (.bool (decide (Zb0 c))) [] := by
 refine Za8 (fn := Tryz.f108) (nt := 21) rfl rfl rfl rfl ?_
 refine Zaa 1 (H' := [hole]) rfl ?_
 refine Zf (Zg (Zbq (v := Zcb c) (b := bxB 36 (Zdx c)) (nid := 0) (H' := [bxB 36 (Zdx c)]) (Zb (.bool false) (Za (Zc (Zf (Zg (Zh (b := 0) (o := 0) (n := 0) (o' := 0) (Zp (p := pt 0 0) (v := Iv c.region) ?_)))))))))
 by_cases h1 : 1 ≤ c.region
 by_cases h2 : c.region ≤ 5
 refine Zo ((Zbl (G := G) c.region 1 5).res (congrArg Value.bool (Zbc (by omega) (by omega)))) (vals := [Iv c.region, Iv 1, Iv 5]) (res' := .bool true) rfl rfl rfl rfl rfl rfl ?_
 refine Zd (.bool true) (Zh (b := 0) (o := 0) (n := 1) (o' := 1) (Zp (p := pt 0 1) (v := Iv c.epoch) ?_))
 by_cases h3 : 1 ≤ c.epoch
 by_cases h4 : c.epoch ≤ 900000000
 refine Zo ((Zbl (G := G) c.epoch 1 900000000).res (congrArg Value.bool (Zbc (by omega) (by omega)))) (vals := [Iv c.epoch, Iv 1, Iv 900000000]) (res' := .bool true) rfl rfl rfl rfl rfl rfl ?_
 refine Zi (.bool true) (Zd (.bool true) (Zh (b := 0) (o := 0) (n := 2) (o' := 2) (Zp (p := pt 0 2) (v := Iv c.node) ?_)))
 by_cases h5 : 1 ≤ c.node
 by_cases h6 : c.node ≤ 3
 refine Zo ((Zbl (G := G) c.node 1 3).res (congrArg Value.bool (Zbc (by omega) (by omega)))) (vals := [Iv c.node, Iv 1, Iv 3]) (res' := .bool true) rfl rfl rfl rfl rfl rfl ?_
 refine Zi (.bool true) (Zd (.bool true) (Zh (b := 0) (o := 0) (n := 3) (o' := 3) (Zp (p := pt 0 3) (v := Iv c.size) ?_)))
 by_cases h7 : 0 ≤ c.size
 by_cases h8 : c.size ≤ 100000
 refine Zo ((Zbl (G := G) c.size 0 100000).res (congrArg Value.bool (Zbc (by omega) (by omega)))) (vals := [Iv c.size, Iv 0, Iv 100000]) (res' := .bool true) rfl rfl rfl rfl rfl rfl ?_
 refine Zi (.bool true) (Zb (.bool true) (Za (Zc (Zq (Zr ?_)))))
 rw [show decide (Zb0 c) = true from decide_eq_true (by unfold Zb0; omega)]
 exact Zk (v := .bool true) rfl rfl rfl (by kernel_rfl) rfl
 refine Zo ((Zbl (G := G) c.size 0 100000).res (congrArg Value.bool (Z8 (by omega)))) (vals := [Iv c.size, Iv 0, Iv 100000]) (res' := .bool false) rfl rfl rfl rfl rfl rfl ?_
 refine Zi (.bool false) (Zb (.bool false) (Za (Zc (Zq (Zr ?_)))))
 rw [show decide (Zb0 c) = false from decide_eq_false (by unfold Zb0; omega)]
 exact Zk (v := .bool false) rfl rfl rfl (by kernel_rfl) rfl
 refine Zo ((Zbl (G := G) c.size 0 100000).res (congrArg Value.bool (Z8 (by omega)))) (vals := [Iv c.size, Iv 0, Iv 100000]) (res' := .bool false) rfl rfl rfl rfl rfl rfl ?_
 refine Zi (.bool false) (Zb (.bool false) (Za (Zc (Zq (Zr ?_)))))
 rw [show decide (Zb0 c) = false from decide_eq_false (by unfold Zb0; omega)]
 exact Zk (v := .bool false) rfl rfl rfl (by kernel_rfl) rfl
 refine Zo ((Zbl (G := G) c.node 1 3).res (congrArg Value.bool (Z8 (by omega)))) (vals := [Iv c.node, Iv 1, Iv 3]) (res' := .bool false) rfl rfl rfl rfl rfl rfl ?_
 refine Zi (.bool false) (Zd (.bool false) (Ze (Ze (Ze (Zi (.bool false) (Zb (.bool false) (Za (Zc (Zq (Zr ?_))))))))))
 rw [show decide (Zb0 c) = false from decide_eq_false (by unfold Zb0; omega)]
 exact Zk (v := .bool false) rfl rfl rfl (by kernel_rfl) rfl
 refine Zo ((Zbl (G := G) c.node 1 3).res (congrArg Value.bool (Z8 (by omega)))) (vals := [Iv c.node, Iv 1, Iv 3]) (res' := .bool false) rfl rfl rfl rfl rfl rfl ?_
 refine Zi (.bool false) (Zd (.bool false) (Ze (Ze (Ze (Zi (.bool false) (Zb (.bool false) (Za (Zc (Zq (Zr ?_))))))))))
 rw [show decide (Zb0 c) = false from decide_eq_false (by unfold Zb0; omega)]
 exact Zk (v := .bool false) rfl rfl rfl (by kernel_rfl) rfl
 refine Zo ((Zbl (G := G) c.epoch 1 900000000).res (congrArg Value.bool (Z8 (by omega)))) (vals := [Iv c.epoch, Iv 1, Iv 900000000]) (res' := .bool false) rfl rfl rfl rfl rfl rfl ?_
 refine Zi (.bool false) (Zd (.bool false) (Ze (Ze (Ze (Zi (.bool false) (Zd (.bool false) (Ze (Ze (Ze (Zi (.bool false) (Zb (.bool false) (Za (Zc (Zq (Zr ?_)))))))))))))))
 rw [show decide (Zb0 c) = false from decide_eq_false (by unfold Zb0; omega)]
 exact Zk (v := .bool false) rfl rfl rfl (by kernel_rfl) rfl
 refine Zo ((Zbl (G := G) c.epoch 1 900000000).res (congrArg Value.bool (Z8 (by omega)))) (vals := [Iv c.epoch, Iv 1, Iv 900000000]) (res' := .bool false) rfl rfl rfl rfl rfl rfl ?_
 refine Zi (.bool false) (Zd (.bool false) (Ze (Ze (Ze (Zi (.bool false) (Zd (.bool false) (Ze (Ze (Ze (Zi (.bool false) (Zb (.bool false) (Za (Zc (Zq (Zr ?_)))))))))))))))
 rw [show decide (Zb0 c) = false from decide_eq_false (by unfold Zb0; omega)]
 exact Zk (v := .bool false) rfl rfl rfl (by kernel_rfl) rfl
 refine Zo ((Zbl (G := G) c.region 1 5).res (congrArg Value.bool (Z8 (by omega)))) (vals := [Iv c.region, Iv 1, Iv 5]) (res' := .bool false) rfl rfl rfl rfl rfl rfl ?_
 refine Zd (.bool false) (Ze (Ze (Ze (Zi (.bool false) (Zd (.bool false) (Ze (Ze (Ze (Zi (.bool false) (Zd (.bool false) (Ze (Ze (Ze (Zi (.bool false) (Zb (.bool false) (Za (Zc (Zq (Zr ?_)))))))))))))))))))
 rw [show decide (Zb0 c) = false from decide_eq_false (by unfold Zb0; omega)]
 exact Zk (v := .bool false) rfl rfl rfl (by kernel_rfl) rfl
 refine Zo ((Zbl (G := G) c.region 1 5).res (congrArg Value.bool (Z8 (by omega)))) (vals := [Iv c.region, Iv 1, Iv 5]) (res' := .bool false) rfl rfl rfl rfl rfl rfl ?_
 refine Zd (.bool false) (Ze (Ze (Ze (Zi (.bool false) (Zd (.bool false) (Ze (Ze (Ze (Zi (.bool false) (Zd (.bool false) (Ze (Ze (Ze (Zi (.bool false) (Zb (.bool false) (Za (Zc (Zq (Zr ?_)))))))))))))))))))
 rw [show decide (Zb0 c) = false from decide_eq_false (by unfold Zb0; omega)]
 exact Zk (v := .bool false) rfl rfl rfl (by kernel_rfl) rfl
end Go.Flat
