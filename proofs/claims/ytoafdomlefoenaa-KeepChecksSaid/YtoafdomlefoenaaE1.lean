/- Walks. -/
import Derived.Test.YtoafdomlefoenaaH9
import Derived.Test.YtoafdomlefoenaaFlatG
set_option linter.unusedVariables false
set_option linter.unusedSimpArgs false
set_option maxRecDepth 20000
namespace Go.Flat
open Go.Proofs
variable {G : Glob}
instance : LawfulBEq ByteArray where
  eq_of_beq := by
    intro a b h
    obtain ⟨x⟩ := a; obtain ⟨y⟩ := b
    exact congrArg ByteArray.mk (eq_of_beq (show (x == y) = true from h))
  rfl := by
    intro a
    obtain ⟨x⟩ := a
    exact (BEq.rfl : (x == x) = true)
structure Claim where
  region : Int
  epoch : Int
  node : Int
  size : Int
  root : D
instance : Inhabited Claim := ⟨⟨0, 0, 0, 0, dz⟩⟩
def Zs (c : Claim) : List Value := [.int .i64 c.region, .int .i64 c.epoch, .int .i64 c.node, .int .i64 c.size] ++ Zdp w8 32 c.root
def Z3 (c : Claim) : Value := .agg (Zs c).toArray
def Zj : Cod Claim := ⟨Zs, 36, fun _ => rfl, by decide⟩
structure Entry where
  kind : Int
  client : Int
  seq : Int
  text : ByteArray
  head : Signed
  claim : Claim
def Zw6 : Claim := ⟨0, 0, 0, 0, dz⟩
def Zvw : Entry := ⟨0, 0, 0, ⟨#[]⟩, Zv4, Zw6⟩
instance : Inhabited Entry := ⟨Zvw⟩
def Zcp (e : Entry) : List Value := [.int .i64 e.kind, .int .i64 e.client, .int .i64 e.seq, .string e.text] ++ (Zff e.head ++ Zs e.claim)
def Zcn (e : Entry) : Value := .agg (Zcp e).toArray
def Zzc : Cod Entry := ⟨Zcp, 109, fun _ => rfl, by decide⟩
structure Item where
  epoch : Int
  entry : Entry
instance : Inhabited Item := ⟨⟨0, Zvw⟩⟩
def Zr (x : Item) : List Value := .int .i64 x.epoch :: Zcp x.entry
def Zai (x : Item) : Value := .agg (Zr x).toArray
def Zh : Cod Item := ⟨Zr, 110, fun _ => rfl, by decide⟩
def Zaw (c : Claim) : Prop := (1 ≤ c.region ∧ c.region ≤ 5) ∧ (1 ≤ c.epoch ∧ c.epoch ≤ 900000000) ∧ (1 ≤ c.node ∧ c.node ≤ 3) ∧ (0 ≤ c.size ∧ c.size ≤ 100000)
instance (c : Claim) : Decidable (Zaw c) := inferInstanceAs (Decidable (_ ∧ _))
def Zfi (c : Claim) : Int := if Zaw c then 0 else 60
theorem Zoi {c : Claim} (h : Zfi c = 0) : Zaw c := by
 unfold Zfi at h
 split at h
 ·assumption
 ·omega
theorem Zof {c : Claim} (h : ¬ Zfi c = 0) : ¬ Zaw c := fun q => h (if_pos q)
section
open Go.ChangeShapes Go.WideShapes Go.RowKit
def Zw (a b : Claim) : Bool := ((a.region == b.region) && ((a.epoch == b.epoch) && ((a.node == b.node) && ((a.size == b.size) && ((Zee 32 a.root b.root) && true)))))
theorem Zlm (a b : Claim) {d : Nat} : Z1 Try.prog (Op.equalIn (d + 3) 36 (Z3 a) (Z3 b)) = some (Zw a b) :=
 eqS (P := Try.prog) (d + 2) 36 _ (Zs a).toArray (Zs b).toArray (fun f => if f.offset = 0 then (a.region == b.region) else if f.offset = 1 then (a.epoch == b.epoch) else if f.offset = 2 then (a.node == b.node) else if f.offset = 3 then (a.size == b.size) else if f.offset = 4 then (Zee 32 a.root b.root) else true) rfl (by kernel_rfl) (List.forall_mem_cons.2 ⟨⟨by decide, Iv a.region, Iv b.region, Za0 rfl rfl rfl, Za0 rfl rfl rfl, Zej rfl⟩, List.forall_mem_cons.2 ⟨⟨by decide, Iv a.epoch, Iv b.epoch, Za0 rfl rfl rfl, Za0 rfl rfl rfl, Zej rfl⟩, List.forall_mem_cons.2 ⟨⟨by decide, Iv a.node, Iv b.node, Za0 rfl rfl rfl, Za0 rfl rfl rfl, Zej rfl⟩, List.forall_mem_cons.2 ⟨⟨by decide, Iv a.size, Iv b.size, Za0 rfl rfl rfl, Za0 rfl rfl rfl, Zej rfl⟩, List.forall_mem_cons.2 ⟨⟨by decide, .agg (Zdp w8 32 a.root).toArray, .agg (Zdp w8 32 b.root).toArray, Zb6 (n := 32) rfl rfl rfl rfl rfl, Zb6 (n := 32) rfl rfl rfl rfl rfl, Zlc rfl rfl rfl⟩, fun _ h => absurd h (by simp)⟩⟩⟩⟩⟩)
theorem Zcm {x y : Operand} (a b : Claim) : Zc1 Try.prog .eql 36 x y (Z3 a) (Z3 b) = some (.bool (Zw a b)) := Zkt (by kernel_rfl) (by kernel_rfl) (Zlm a b (d := 9997))
theorem Zmi {x y : Operand} (a b : Claim) : Zc1 Try.prog .neq 36 x y (Z3 a) (Z3 b) = some (.bool (!Zw a b)) := Zri (by kernel_rfl) (by kernel_rfl) (Zlm a b (d := 9997))
theorem Zaq (a : Claim) : Zw a a = true := by simp [Zw, Zee]
def okClaim (a : Claim) : Prop := (-9223372036854775808 ≤ a.region ∧ a.region ≤ 9223372036854775807) ∧ (-9223372036854775808 ≤ a.epoch ∧ a.epoch ≤ 9223372036854775807) ∧ (-9223372036854775808 ≤ a.node ∧ a.node ≤ 9223372036854775807) ∧ (-9223372036854775808 ≤ a.size ∧ a.size ≤ 9223372036854775807) ∧ True ∧ True
theorem Zhg : Zal Try.prog 36 Zs okClaim := by
 intro H encH W fuel cs x h
 obtain ⟨xs, n, _, _, hl, hxl, hel⟩ := DataW.trod_struct (P := Try.prog) (t := 36) (fs := _) rfl h
 have hl' : cs.length = 36 := hl.trans (by kernel_rfl)
 obtain ⟨a0, e0, k0⟩ := Zal.at_ (t := 3) (off := 0) (k := 1) (Zal.int (by kernel_rfl)) (hel 0 _ rfl) (by rw [hxl]; decide) rfl (by kernel_rfl) rfl
 have q0 : cs.drop 0 = [Iv a0] ++ cs.drop 1 := by rw [Zar 0 1, e0]
 obtain ⟨a1, e1, k1⟩ := Zal.at_ (t := 3) (off := 1) (k := 1) (Zal.int (by kernel_rfl)) (hel 1 _ rfl) (by rw [hxl]; decide) rfl (by kernel_rfl) rfl
 have q1 : cs.drop 1 = [Iv a1] ++ cs.drop 2 := by rw [Zar 1 1, e1]
 obtain ⟨a2, e2, k2⟩ := Zal.at_ (t := 3) (off := 2) (k := 1) (Zal.int (by kernel_rfl)) (hel 2 _ rfl) (by rw [hxl]; decide) rfl (by kernel_rfl) rfl
 have q2 : cs.drop 2 = [Iv a2] ++ cs.drop 3 := by rw [Zar 2 1, e2]
 obtain ⟨a3, e3, k3⟩ := Zal.at_ (t := 3) (off := 3) (k := 1) (Zal.int (by kernel_rfl)) (hel 3 _ rfl) (by rw [hxl]; decide) rfl (by kernel_rfl) rfl
 have q3 : cs.drop 3 = [Iv a3] ++ cs.drop 4 := by rw [Zar 3 1, e3]
 obtain ⟨a4, e4, k4⟩ := Zal.at_ (t := 30) (off := 4) (k := 32) (Zal.bytes (n := 32) (tb := 5) (by kernel_rfl) (by kernel_rfl) (by kernel_rfl) (by kernel_rfl)) (hel 4 _ rfl) (by rw [hxl]; decide) rfl (by kernel_rfl) rfl
 have q4 : cs.drop 4 = Zdp w8 32 a4 ++ cs.drop 36 := by rw [Zar 4 32, e4]
 have qe : cs.drop 36 = [] := List.drop_of_length_le (by omega)
 refine ⟨⟨a0, a1, a2, a3, a4⟩, ?_, k0, k1, k2, k3, k4, trivial⟩
 rw [List.drop_zero] at q0
 rw [q0, q1, q2, q3, q4, qe]
 simp [Zs]
def Zfa (a b : Entry) : Bool := ((a.kind == b.kind) && ((a.client == b.client) && ((a.seq == b.seq) && ((a.text == b.text) && ((Zc4 a.head b.head) && ((Zw a.claim b.claim) && true))))))
theorem Zop (a b : Entry) {d : Nat} : Z1 Try.prog (Op.equalIn (d + 5) 38 (Zcn a) (Zcn b)) = some (Zfa a b) :=
 eqS (P := Try.prog) (d + 4) 38 _ (Zcp a).toArray (Zcp b).toArray (fun f => if f.offset = 0 then (a.kind == b.kind) else if f.offset = 1 then (a.client == b.client) else if f.offset = 2 then (a.seq == b.seq) else if f.offset = 3 then (a.text == b.text) else if f.offset = 4 then (Zc4 a.head b.head) else if f.offset = 73 then (Zw a.claim b.claim) else true) rfl (by kernel_rfl) (List.forall_mem_cons.2 ⟨⟨by decide, Iv a.kind, Iv b.kind, Za0 rfl rfl rfl, Za0 rfl rfl rfl, Zej rfl⟩, List.forall_mem_cons.2 ⟨⟨by decide, Iv a.client, Iv b.client, Za0 rfl rfl rfl, Za0 rfl rfl rfl, Zej rfl⟩, List.forall_mem_cons.2 ⟨⟨by decide, Iv a.seq, Iv b.seq, Za0 rfl rfl rfl, Za0 rfl rfl rfl, Zej rfl⟩, List.forall_mem_cons.2 ⟨⟨by decide, .string a.text, .string b.text, Za0 rfl rfl rfl, Za0 rfl rfl rfl, Zru rfl⟩, List.forall_mem_cons.2 ⟨⟨by decide, Zb3 a.head, Zb3 b.head, Zb6 (n := 69) rfl rfl rfl rfl rfl, Zb6 (n := 69) rfl rfl rfl rfl rfl, Zm4 a.head b.head⟩, List.forall_mem_cons.2 ⟨⟨by decide, Z3 a.claim, Z3 b.claim, Zb6 (n := 36) rfl rfl rfl rfl rfl, Zb6 (n := 36) rfl rfl rfl rfl rfl, Zlm a.claim b.claim⟩, fun _ h => absurd h (by simp)⟩⟩⟩⟩⟩⟩)
theorem Zfk {x y : Operand} (a b : Entry) : Zc1 Try.prog .eql 38 x y (Zcn a) (Zcn b) = some (.bool (Zfa a b)) := Zkt (by kernel_rfl) (by kernel_rfl) (Zop a b (d := 9995))
theorem Zqf (a : Entry) : Zfa a a = true := by simp [Zfa, Zee, Zib, Zaq]
def okEntry (a : Entry) : Prop := (-9223372036854775808 ≤ a.kind ∧ a.kind ≤ 9223372036854775807) ∧ (-9223372036854775808 ≤ a.client ∧ a.client ≤ 9223372036854775807) ∧ (-9223372036854775808 ≤ a.seq ∧ a.seq ≤ 9223372036854775807) ∧ (a.text.size ≤ maxLen) ∧ okSigned a.head ∧ okClaim a.claim ∧ True
theorem Zoj : Zal Try.prog 38 Zcp okEntry := by
 intro H encH W fuel cs x h
 obtain ⟨xs, n, _, _, hl, hxl, hel⟩ := DataW.trod_struct (P := Try.prog) (t := 38) (fs := _) rfl h
 have hl' : cs.length = 109 := hl.trans (by kernel_rfl)
 obtain ⟨a0, e0, k0⟩ := Zal.at_ (t := 28) (off := 0) (k := 1) (Zal.int (by kernel_rfl)) (hel 0 _ rfl) (by rw [hxl]; decide) rfl (by kernel_rfl) rfl
 have q0 : cs.drop 0 = [Iv a0] ++ cs.drop 1 := by rw [Zar 0 1, e0]
 obtain ⟨a1, e1, k1⟩ := Zal.at_ (t := 3) (off := 1) (k := 1) (Zal.int (by kernel_rfl)) (hel 1 _ rfl) (by rw [hxl]; decide) rfl (by kernel_rfl) rfl
 have q1 : cs.drop 1 = [Iv a1] ++ cs.drop 2 := by rw [Zar 1 1, e1]
 obtain ⟨a2, e2, k2⟩ := Zal.at_ (t := 3) (off := 2) (k := 1) (Zal.int (by kernel_rfl)) (hel 2 _ rfl) (by rw [hxl]; decide) rfl (by kernel_rfl) rfl
 have q2 : cs.drop 2 = [Iv a2] ++ cs.drop 3 := by rw [Zar 2 1, e2]
 obtain ⟨a3, e3, k3⟩ := Zal.at_ (t := 9) (off := 3) (k := 1) (Zal.str (by kernel_rfl)) (hel 3 _ rfl) (by rw [hxl]; decide) rfl (by kernel_rfl) rfl
 have q3 : cs.drop 3 = [.string a3] ++ cs.drop 4 := by rw [Zar 3 1, e3]
 obtain ⟨a4, e4, k4⟩ := Zal.at_ (t := 34) (off := 4) (k := 69) (Znk) (hel 4 _ rfl) (by rw [hxl]; decide) rfl (by kernel_rfl) rfl
 have q4 : cs.drop 4 = Zff a4 ++ cs.drop 73 := by rw [Zar 4 69, e4]
 obtain ⟨a5, e5, k5⟩ := Zal.at_ (t := 36) (off := 73) (k := 36) (Zhg) (hel 5 _ rfl) (by rw [hxl]; decide) rfl (by kernel_rfl) rfl
 have q5 : cs.drop 73 = Zs a5 ++ cs.drop 109 := by rw [Zar 73 36, e5]
 have qe : cs.drop 109 = [] := List.drop_of_length_le (by omega)
 refine ⟨⟨a0, a1, a2, a3, a4, a5⟩, ?_, k0, k1, k2, k3, k4, k5, trivial⟩
 rw [List.drop_zero] at q0
 rw [q0, q1, q2, q3, q4, q5, qe]
 simp [Zcp]
def Z5 (a b : Item) : Bool := ((a.epoch == b.epoch) && ((Zfa a.entry b.entry) && true))
theorem Zrh (a b : Item) {d : Nat} : Z1 Try.prog (Op.equalIn (d + 6) 40 (Zai a) (Zai b)) = some (Z5 a b) :=
 eqS (P := Try.prog) (d + 5) 40 _ (Zr a).toArray (Zr b).toArray (fun f => if f.offset = 0 then (a.epoch == b.epoch) else if f.offset = 1 then (Zfa a.entry b.entry) else true) rfl (by kernel_rfl) (List.forall_mem_cons.2 ⟨⟨by decide, Iv a.epoch, Iv b.epoch, Za0 rfl rfl rfl, Za0 rfl rfl rfl, Zej rfl⟩, List.forall_mem_cons.2 ⟨⟨by decide, Zcn a.entry, Zcn b.entry, Zb6 (n := 109) rfl rfl rfl rfl rfl, Zb6 (n := 109) rfl rfl rfl rfl rfl, Zop a.entry b.entry⟩, fun _ h => absurd h (by simp)⟩⟩)
theorem Zes {x y : Operand} (a b : Item) : Zc1 Try.prog .eql 40 x y (Zai a) (Zai b) = some (.bool (Z5 a b)) := Zkt (by kernel_rfl) (by kernel_rfl) (Zrh a b (d := 9994))
theorem Zph {x y : Operand} (a b : Item) : Zc1 Try.prog .neq 40 x y (Zai a) (Zai b) = some (.bool (!Z5 a b)) := Zri (by kernel_rfl) (by kernel_rfl) (Zrh a b (d := 9994))
theorem Za9 (a : Item) : Z5 a a = true := by simp [Z5, Zee, Zqf]
def okItem (a : Item) : Prop := (-9223372036854775808 ≤ a.epoch ∧ a.epoch ≤ 9223372036854775807) ∧ okEntry a.entry ∧ True
theorem Zip : Zal Try.prog 40 Zr okItem := by
 intro H encH W fuel cs x h
 obtain ⟨xs, n, _, _, hl, hxl, hel⟩ := DataW.trod_struct (P := Try.prog) (t := 40) (fs := _) rfl h
 have hl' : cs.length = 110 := hl.trans (by kernel_rfl)
 obtain ⟨a0, e0, k0⟩ := Zal.at_ (t := 3) (off := 0) (k := 1) (Zal.int (by kernel_rfl)) (hel 0 _ rfl) (by rw [hxl]; decide) rfl (by kernel_rfl) rfl
 have q0 : cs.drop 0 = [Iv a0] ++ cs.drop 1 := by rw [Zar 0 1, e0]
 obtain ⟨a1, e1, k1⟩ := Zal.at_ (t := 38) (off := 1) (k := 109) (Zoj) (hel 1 _ rfl) (by rw [hxl]; decide) rfl (by kernel_rfl) rfl
 have q1 : cs.drop 1 = Zcp a1 ++ cs.drop 110 := by rw [Zar 1 109, e1]
 have qe : cs.drop 110 = [] := List.drop_of_length_le (by omega)
 refine ⟨⟨a0, a1⟩, ?_, k0, k1, trivial⟩
 rw [List.drop_zero] at q0
 rw [q0, q1, qe]
 simp [Zr]
theorem Zr9 (a : Item) : Zbn (Zai a) = true := by kernel_rfl
end
theorem Za6 (n low high : Int) : Zak Try.prog G 59 [Iv n, Iv low, Iv high] [] (.bool (Za4 n low high)) [] := by
 refine Zb5 (fn := Try.f59) (nt := 15) rfl rfl rfl rfl ?_
 refine Zk (Zm (Zd rfl rfl (.bool false) rfl (Zb (Zc (Zk (Zm (Zf rfl rfl (Iv n) rfl (Zf rfl rfl (Iv low) rfl ?_))))))))
 by_cases h1 : low ≤ n
 refine Zn (vx := Iv n) (vy := Iv low) rfl rfl (.bool true) rfl rfl (Zhr (by omega)) ?_
 refine Zf rfl rfl (.bool true) rfl (Zf rfl rfl (Iv n) rfl (Zf rfl rfl (Iv high) rfl ?_))
 by_cases h2 : n ≤ high
 refine Zn (vx := Iv n) (vy := Iv high) rfl rfl (.bool true) rfl rfl (Zh8 (by omega)) ?_
 refine Zg rfl rfl (.bool true) rfl (Zd rfl rfl (.bool true) rfl (Zb (Zc (Zq (Zo ?_)))))
 rw [show Za4 n low high = true from Zaf (by omega) (by omega)]
 exact Zi (v := .bool true) rfl rfl rfl (by kernel_rfl) rfl
 refine Zn (vx := Iv n) (vy := Iv high) rfl rfl (.bool false) rfl rfl (Zh7 (by omega)) ?_
 refine Zg rfl rfl (.bool false) rfl (Zd rfl rfl (.bool false) rfl (Zb (Zc (Zq (Zo ?_)))))
 rw [show Za4 n low high = false from Zt (by omega)]
 exact Zi (v := .bool false) rfl rfl rfl (by kernel_rfl) rfl
 refine Zn (vx := Iv n) (vy := Iv low) rfl rfl (.bool false) rfl rfl (Zg4 (by omega)) ?_
 refine Zf rfl rfl (.bool false) rfl (Za rfl rfl (Za rfl rfl (Za rfl rfl (Zg rfl rfl (.bool false) rfl (Zd rfl rfl (.bool false) rfl (Zb (Zc (Zq (Zo ?_)))))))))
 rw [show Za4 n low high = false from Zt (by omega)]
 exact Zi (v := .bool false) rfl rfl rfl (by kernel_rfl) rfl
theorem Zav (n low high : Int) : Zak Try.prog G 62 [Iv n, Iv low, Iv high] [] (.bool (Za4 n low high)) [] := by
 refine Zb5 (fn := Try.f62) (nt := 15) rfl rfl rfl rfl ?_
 refine Zk (Zm (Zd rfl rfl (.bool false) rfl (Zb (Zc (Zk (Zm (Zf rfl rfl (Iv n) rfl (Zf rfl rfl (Iv low) rfl ?_))))))))
 by_cases h1 : low ≤ n
 refine Zn (vx := Iv n) (vy := Iv low) rfl rfl (.bool true) rfl rfl (Zhr (by omega)) ?_
 refine Zf rfl rfl (.bool true) rfl (Zf rfl rfl (Iv n) rfl (Zf rfl rfl (Iv high) rfl ?_))
 by_cases h2 : n ≤ high
 refine Zn (vx := Iv n) (vy := Iv high) rfl rfl (.bool true) rfl rfl (Zh8 (by omega)) ?_
 refine Zg rfl rfl (.bool true) rfl (Zd rfl rfl (.bool true) rfl (Zb (Zc (Zq (Zo ?_)))))
 rw [show Za4 n low high = true from Zaf (by omega) (by omega)]
 exact Zi (v := .bool true) rfl rfl rfl (by kernel_rfl) rfl
 refine Zn (vx := Iv n) (vy := Iv high) rfl rfl (.bool false) rfl rfl (Zh7 (by omega)) ?_
 refine Zg rfl rfl (.bool false) rfl (Zd rfl rfl (.bool false) rfl (Zb (Zc (Zq (Zo ?_)))))
 rw [show Za4 n low high = false from Zt (by omega)]
 exact Zi (v := .bool false) rfl rfl rfl (by kernel_rfl) rfl
 refine Zn (vx := Iv n) (vy := Iv low) rfl rfl (.bool false) rfl rfl (Zg4 (by omega)) ?_
 refine Zf rfl rfl (.bool false) rfl (Za rfl rfl (Za rfl rfl (Za rfl rfl (Zg rfl rfl (.bool false) rfl (Zd rfl rfl (.bool false) rfl (Zb (Zc (Zq (Zo ?_)))))))))
 rw [show Za4 n low high = false from Zt (by omega)]
 exact Zi (v := .bool false) rfl rfl rfl (by kernel_rfl) rfl
theorem Zbz (b : Bool) : Zak Try.prog G 58 [.bool b] [] (Iv (if b then 0 else 60)) [] := by
 refine Zb5 (fn := Try.f58) (nt := 4) rfl rfl rfl rfl ?_
 refine Zk (Zm (Zd rfl rfl (Iv 0) rfl (Zb (Zc (Zk (Zk (Zm (Zf rfl rfl (.bool b) rfl (Zb (Zc ?_))))))))))
 rcases Bool.eq_false_or_eq_true b with h1 | h1
 refine Z4 (congrArg Value.bool h1) (Zk (Zm (Zd rfl rfl (Iv 0) rfl (Zb (Zc (Zq (Zv (Zo ?_))))))))
 rw [show (if b = true then (0 : Int) else 60) = 0 from by simp [*]]
 exact Zi (v := Iv 0) rfl rfl rfl (by kernel_rfl) rfl
 refine Zx (congrArg Value.bool h1) (Z8 (Zc (Zk (Zm (Zd rfl rfl (Iv 60) rfl (Zb (Zc (Zq (Zo ?_)))))))))
 rw [show (if b = true then (0 : Int) else 60) = 60 from by simp [*]]
 exact Zi (v := Iv 60) rfl rfl rfl (by kernel_rfl) rfl
theorem Zh9 (c : Claim) : Zak Try.prog G 44 [Z3 c] [] (Iv (Zfi c)) [] := by
 refine Zb5 (fn := Try.f44) (nt := 22) rfl rfl rfl rfl ?_
 refine Za5 1 (H' := [hole]) rfl ?_
 refine Zk (Zm ?_)
 refine Zch (v := Z3 c) (b := bxB 36 (Zs c)) (nid := 0) (H' := [bxB 36 (Zs c)]) rfl rfl rfl (by kernel_rfl) (by kernel_rfl) ?_
 refine Zd rfl rfl (Iv 0) rfl (Zb (Zc (Zk (Zm ?_))))
 refine Ze (b := 0) (o := 0) (n := 0) (o' := 0) rfl rfl rfl rfl rfl ?_
 refine Zl (p := pt 0 0) (v := Iv c.region) rfl rfl rfl (by kernel_rfl) ?_
 by_cases h1 : 1 ≤ c.region
 by_cases h2 : c.region ≤ 5
 refine Zp ((Za6 (G := G) c.region 1 5).res (congrArg Value.bool (Zaf (by omega) (by omega)))) (vals := [Iv c.region, Iv 1, Iv 5]) (res' := .bool true) rfl rfl rfl rfl rfl rfl ?_
 refine Zf rfl rfl (.bool true) rfl ?_
 refine Ze (b := 0) (o := 0) (n := 1) (o' := 1) rfl rfl rfl rfl rfl ?_
 refine Zl (p := pt 0 1) (v := Iv c.epoch) rfl rfl rfl (by kernel_rfl) ?_
 by_cases h3 : 1 ≤ c.epoch
 by_cases h4 : c.epoch ≤ 900000000
 refine Zp ((Za6 (G := G) c.epoch 1 900000000).res (congrArg Value.bool (Zaf (by omega) (by omega)))) (vals := [Iv c.epoch, Iv 1, Iv 900000000]) (res' := .bool true) rfl rfl rfl rfl rfl rfl ?_
 refine Zg rfl rfl (.bool true) rfl (Zf rfl rfl (.bool true) rfl ?_)
 refine Ze (b := 0) (o := 0) (n := 2) (o' := 2) rfl rfl rfl rfl rfl ?_
 refine Zl (p := pt 0 2) (v := Iv c.node) rfl rfl rfl (by kernel_rfl) ?_
 by_cases h5 : 1 ≤ c.node
 by_cases h6 : c.node ≤ 3
 refine Zp ((Za6 (G := G) c.node 1 3).res (congrArg Value.bool (Zaf (by omega) (by omega)))) (vals := [Iv c.node, Iv 1, Iv 3]) (res' := .bool true) rfl rfl rfl rfl rfl rfl ?_
 refine Zg rfl rfl (.bool true) rfl (Zf rfl rfl (.bool true) rfl ?_)
 refine Ze (b := 0) (o := 0) (n := 3) (o' := 3) rfl rfl rfl rfl rfl ?_
 refine Zl (p := pt 0 3) (v := Iv c.size) rfl rfl rfl (by kernel_rfl) ?_
 by_cases h7 : 0 ≤ c.size
 by_cases h8 : c.size ≤ 100000
 refine Zp ((Za6 (G := G) c.size 0 100000).res (congrArg Value.bool (Zaf (by omega) (by omega)))) (vals := [Iv c.size, Iv 0, Iv 100000]) (res' := .bool true) rfl rfl rfl rfl rfl rfl ?_
 refine Zg rfl rfl (.bool true) rfl ?_
 refine Zp (Zbz (G := G) true) (vals := [.bool true]) (res' := Iv 0) rfl rfl rfl rfl rfl rfl ?_
 refine Zd rfl rfl (Iv 0) rfl (Zb (Zc (Zq (Zo ?_))))
 rw [show Zfi c = 0 from if_pos (by unfold Zaw; omega)]
 exact Zi (v := Iv 0) rfl rfl rfl (by kernel_rfl) rfl
 refine Zp ((Za6 (G := G) c.size 0 100000).res (congrArg Value.bool (Zt (by omega)))) (vals := [Iv c.size, Iv 0, Iv 100000]) (res' := .bool false) rfl rfl rfl rfl rfl rfl ?_
 refine Zg rfl rfl (.bool false) rfl ?_
 refine Zp (Zbz (G := G) false) (vals := [.bool false]) (res' := Iv 60) rfl rfl rfl rfl rfl rfl ?_
 refine Zd rfl rfl (Iv 60) rfl (Zb (Zc (Zq (Zo ?_))))
 rw [show Zfi c = 60 from if_neg (by unfold Zaw; omega)]
 exact Zi (v := Iv 60) rfl rfl rfl (by kernel_rfl) rfl
 refine Zp ((Za6 (G := G) c.size 0 100000).res (congrArg Value.bool (Zt (by omega)))) (vals := [Iv c.size, Iv 0, Iv 100000]) (res' := .bool false) rfl rfl rfl rfl rfl rfl ?_
 refine Zg rfl rfl (.bool false) rfl ?_
 refine Zp (Zbz (G := G) false) (vals := [.bool false]) (res' := Iv 60) rfl rfl rfl rfl rfl rfl ?_
 refine Zd rfl rfl (Iv 60) rfl (Zb (Zc (Zq (Zo ?_))))
 rw [show Zfi c = 60 from if_neg (by unfold Zaw; omega)]
 exact Zi (v := Iv 60) rfl rfl rfl (by kernel_rfl) rfl
 refine Zp ((Za6 (G := G) c.node 1 3).res (congrArg Value.bool (Zt (by omega)))) (vals := [Iv c.node, Iv 1, Iv 3]) (res' := .bool false) rfl rfl rfl rfl rfl rfl ?_
 refine Zg rfl rfl (.bool false) rfl (Zf rfl rfl (.bool false) rfl (Za rfl rfl (Za rfl rfl (Za rfl rfl (Zg rfl rfl (.bool false) rfl ?_)))))
 refine Zp (Zbz (G := G) false) (vals := [.bool false]) (res' := Iv 60) rfl rfl rfl rfl rfl rfl ?_
 refine Zd rfl rfl (Iv 60) rfl (Zb (Zc (Zq (Zo ?_))))
 rw [show Zfi c = 60 from if_neg (by unfold Zaw; omega)]
 exact Zi (v := Iv 60) rfl rfl rfl (by kernel_rfl) rfl
 refine Zp ((Za6 (G := G) c.node 1 3).res (congrArg Value.bool (Zt (by omega)))) (vals := [Iv c.node, Iv 1, Iv 3]) (res' := .bool false) rfl rfl rfl rfl rfl rfl ?_
 refine Zg rfl rfl (.bool false) rfl (Zf rfl rfl (.bool false) rfl (Za rfl rfl (Za rfl rfl (Za rfl rfl (Zg rfl rfl (.bool false) rfl ?_)))))
 refine Zp (Zbz (G := G) false) (vals := [.bool false]) (res' := Iv 60) rfl rfl rfl rfl rfl rfl ?_
 refine Zd rfl rfl (Iv 60) rfl (Zb (Zc (Zq (Zo ?_))))
 rw [show Zfi c = 60 from if_neg (by unfold Zaw; omega)]
 exact Zi (v := Iv 60) rfl rfl rfl (by kernel_rfl) rfl
 refine Zp ((Za6 (G := G) c.epoch 1 900000000).res (congrArg Value.bool (Zt (by omega)))) (vals := [Iv c.epoch, Iv 1, Iv 900000000]) (res' := .bool false) rfl rfl rfl rfl rfl rfl ?_
 refine Zg rfl rfl (.bool false) rfl (Zf rfl rfl (.bool false) rfl (Za rfl rfl (Za rfl rfl (Za rfl rfl (Zg rfl rfl (.bool false) rfl (Zf rfl rfl (.bool false) rfl (Za rfl rfl (Za rfl rfl (Za rfl rfl (Zg rfl rfl (.bool false) rfl ?_))))))))))
 refine Zp (Zbz (G := G) false) (vals := [.bool false]) (res' := Iv 60) rfl rfl rfl rfl rfl rfl ?_
 refine Zd rfl rfl (Iv 60) rfl (Zb (Zc (Zq (Zo ?_))))
 rw [show Zfi c = 60 from if_neg (by unfold Zaw; omega)]
 exact Zi (v := Iv 60) rfl rfl rfl (by kernel_rfl) rfl
 refine Zp ((Za6 (G := G) c.epoch 1 900000000).res (congrArg Value.bool (Zt (by omega)))) (vals := [Iv c.epoch, Iv 1, Iv 900000000]) (res' := .bool false) rfl rfl rfl rfl rfl rfl ?_
 refine Zg rfl rfl (.bool false) rfl (Zf rfl rfl (.bool false) rfl (Za rfl rfl (Za rfl rfl (Za rfl rfl (Zg rfl rfl (.bool false) rfl (Zf rfl rfl (.bool false) rfl (Za rfl rfl (Za rfl rfl (Za rfl rfl (Zg rfl rfl (.bool false) rfl ?_))))))))))
 refine Zp (Zbz (G := G) false) (vals := [.bool false]) (res' := Iv 60) rfl rfl rfl rfl rfl rfl ?_
 refine Zd rfl rfl (Iv 60) rfl (Zb (Zc (Zq (Zo ?_))))
 rw [show Zfi c = 60 from if_neg (by unfold Zaw; omega)]
 exact Zi (v := Iv 60) rfl rfl rfl (by kernel_rfl) rfl
 refine Zp ((Za6 (G := G) c.region 1 5).res (congrArg Value.bool (Zt (by omega)))) (vals := [Iv c.region, Iv 1, Iv 5]) (res' := .bool false) rfl rfl rfl rfl rfl rfl ?_
 refine Zf rfl rfl (.bool false) rfl (Za rfl rfl (Za rfl rfl (Za rfl rfl (Zg rfl rfl (.bool false) rfl (Zf rfl rfl (.bool false) rfl (Za rfl rfl (Za rfl rfl (Za rfl rfl (Zg rfl rfl (.bool false) rfl (Zf rfl rfl (.bool false) rfl (Za rfl rfl (Za rfl rfl (Za rfl rfl (Zg rfl rfl (.bool false) rfl ?_))))))))))))))
 refine Zp (Zbz (G := G) false) (vals := [.bool false]) (res' := Iv 60) rfl rfl rfl rfl rfl rfl ?_
 refine Zd rfl rfl (Iv 60) rfl (Zb (Zc (Zq (Zo ?_))))
 rw [show Zfi c = 60 from if_neg (by unfold Zaw; omega)]
 exact Zi (v := Iv 60) rfl rfl rfl (by kernel_rfl) rfl
 refine Zp ((Za6 (G := G) c.region 1 5).res (congrArg Value.bool (Zt (by omega)))) (vals := [Iv c.region, Iv 1, Iv 5]) (res' := .bool false) rfl rfl rfl rfl rfl rfl ?_
 refine Zf rfl rfl (.bool false) rfl (Za rfl rfl (Za rfl rfl (Za rfl rfl (Zg rfl rfl (.bool false) rfl (Zf rfl rfl (.bool false) rfl (Za rfl rfl (Za rfl rfl (Za rfl rfl (Zg rfl rfl (.bool false) rfl (Zf rfl rfl (.bool false) rfl (Za rfl rfl (Za rfl rfl (Za rfl rfl (Zg rfl rfl (.bool false) rfl ?_))))))))))))))
 refine Zp (Zbz (G := G) false) (vals := [.bool false]) (res' := Iv 60) rfl rfl rfl rfl rfl rfl ?_
 refine Zd rfl rfl (Iv 60) rfl (Zb (Zc (Zq (Zo ?_))))
 rw [show Zfi c = 60 from if_neg (by unfold Zaw; omega)]
 exact Zi (v := Iv 60) rfl rfl rfl (by kernel_rfl) rfl
theorem Zjb (c : Claim) : Zak Try.prog G 50 [Z3 c] [] (.bool (decide (Zaw c))) [] := by
 refine Zb5 (fn := Try.f50) (nt := 21) rfl rfl rfl rfl ?_
 refine Za5 1 (H' := [hole]) rfl ?_
 refine Zk (Zm ?_)
 refine Zch (v := Z3 c) (b := bxB 36 (Zs c)) (nid := 0) (H' := [bxB 36 (Zs c)]) rfl rfl rfl (by kernel_rfl) (by kernel_rfl) ?_
 refine Zd rfl rfl (.bool false) rfl (Zb (Zc (Zk (Zm ?_))))
 refine Ze (b := 0) (o := 0) (n := 0) (o' := 0) rfl rfl rfl rfl rfl ?_
 refine Zl (p := pt 0 0) (v := Iv c.region) rfl rfl rfl (by kernel_rfl) ?_
 by_cases h1 : 1 ≤ c.region
 by_cases h2 : c.region ≤ 5
 refine Zp ((Zav (G := G) c.region 1 5).res (congrArg Value.bool (Zaf (by omega) (by omega)))) (vals := [Iv c.region, Iv 1, Iv 5]) (res' := .bool true) rfl rfl rfl rfl rfl rfl ?_
 refine Zf rfl rfl (.bool true) rfl ?_
 refine Ze (b := 0) (o := 0) (n := 1) (o' := 1) rfl rfl rfl rfl rfl ?_
 refine Zl (p := pt 0 1) (v := Iv c.epoch) rfl rfl rfl (by kernel_rfl) ?_
 by_cases h3 : 1 ≤ c.epoch
 by_cases h4 : c.epoch ≤ 900000000
 refine Zp ((Zav (G := G) c.epoch 1 900000000).res (congrArg Value.bool (Zaf (by omega) (by omega)))) (vals := [Iv c.epoch, Iv 1, Iv 900000000]) (res' := .bool true) rfl rfl rfl rfl rfl rfl ?_
 refine Zg rfl rfl (.bool true) rfl (Zf rfl rfl (.bool true) rfl ?_)
 refine Ze (b := 0) (o := 0) (n := 2) (o' := 2) rfl rfl rfl rfl rfl ?_
 refine Zl (p := pt 0 2) (v := Iv c.node) rfl rfl rfl (by kernel_rfl) ?_
 by_cases h5 : 1 ≤ c.node
 by_cases h6 : c.node ≤ 3
 refine Zp ((Zav (G := G) c.node 1 3).res (congrArg Value.bool (Zaf (by omega) (by omega)))) (vals := [Iv c.node, Iv 1, Iv 3]) (res' := .bool true) rfl rfl rfl rfl rfl rfl ?_
 refine Zg rfl rfl (.bool true) rfl (Zf rfl rfl (.bool true) rfl ?_)
 refine Ze (b := 0) (o := 0) (n := 3) (o' := 3) rfl rfl rfl rfl rfl ?_
 refine Zl (p := pt 0 3) (v := Iv c.size) rfl rfl rfl (by kernel_rfl) ?_
 by_cases h7 : 0 ≤ c.size
 by_cases h8 : c.size ≤ 100000
 refine Zp ((Zav (G := G) c.size 0 100000).res (congrArg Value.bool (Zaf (by omega) (by omega)))) (vals := [Iv c.size, Iv 0, Iv 100000]) (res' := .bool true) rfl rfl rfl rfl rfl rfl ?_
 refine Zg rfl rfl (.bool true) rfl (Zd rfl rfl (.bool true) rfl (Zb (Zc (Zq (Zo ?_)))))
 rw [show decide (Zaw c) = true from decide_eq_true (by unfold Zaw; omega)]
 exact Zi (v := .bool true) rfl rfl rfl (by kernel_rfl) rfl
 refine Zp ((Zav (G := G) c.size 0 100000).res (congrArg Value.bool (Zt (by omega)))) (vals := [Iv c.size, Iv 0, Iv 100000]) (res' := .bool false) rfl rfl rfl rfl rfl rfl ?_
 refine Zg rfl rfl (.bool false) rfl (Zd rfl rfl (.bool false) rfl (Zb (Zc (Zq (Zo ?_)))))
 rw [show decide (Zaw c) = false from decide_eq_false (by unfold Zaw; omega)]
 exact Zi (v := .bool false) rfl rfl rfl (by kernel_rfl) rfl
 refine Zp ((Zav (G := G) c.size 0 100000).res (congrArg Value.bool (Zt (by omega)))) (vals := [Iv c.size, Iv 0, Iv 100000]) (res' := .bool false) rfl rfl rfl rfl rfl rfl ?_
 refine Zg rfl rfl (.bool false) rfl (Zd rfl rfl (.bool false) rfl (Zb (Zc (Zq (Zo ?_)))))
 rw [show decide (Zaw c) = false from decide_eq_false (by unfold Zaw; omega)]
 exact Zi (v := .bool false) rfl rfl rfl (by kernel_rfl) rfl
 refine Zp ((Zav (G := G) c.node 1 3).res (congrArg Value.bool (Zt (by omega)))) (vals := [Iv c.node, Iv 1, Iv 3]) (res' := .bool false) rfl rfl rfl rfl rfl rfl ?_
 refine Zg rfl rfl (.bool false) rfl (Zf rfl rfl (.bool false) rfl (Za rfl rfl (Za rfl rfl (Za rfl rfl (Zg rfl rfl (.bool false) rfl (Zd rfl rfl (.bool false) rfl (Zb (Zc (Zq (Zo ?_))))))))))
 rw [show decide (Zaw c) = false from decide_eq_false (by unfold Zaw; omega)]
 exact Zi (v := .bool false) rfl rfl rfl (by kernel_rfl) rfl
 refine Zp ((Zav (G := G) c.node 1 3).res (congrArg Value.bool (Zt (by omega)))) (vals := [Iv c.node, Iv 1, Iv 3]) (res' := .bool false) rfl rfl rfl rfl rfl rfl ?_
 refine Zg rfl rfl (.bool false) rfl (Zf rfl rfl (.bool false) rfl (Za rfl rfl (Za rfl rfl (Za rfl rfl (Zg rfl rfl (.bool false) rfl (Zd rfl rfl (.bool false) rfl (Zb (Zc (Zq (Zo ?_))))))))))
 rw [show decide (Zaw c) = false from decide_eq_false (by unfold Zaw; omega)]
 exact Zi (v := .bool false) rfl rfl rfl (by kernel_rfl) rfl
 refine Zp ((Zav (G := G) c.epoch 1 900000000).res (congrArg Value.bool (Zt (by omega)))) (vals := [Iv c.epoch, Iv 1, Iv 900000000]) (res' := .bool false) rfl rfl rfl rfl rfl rfl ?_
 refine Zg rfl rfl (.bool false) rfl (Zf rfl rfl (.bool false) rfl (Za rfl rfl (Za rfl rfl (Za rfl rfl (Zg rfl rfl (.bool false) rfl (Zf rfl rfl (.bool false) rfl (Za rfl rfl (Za rfl rfl (Za rfl rfl (Zg rfl rfl (.bool false) rfl (Zd rfl rfl (.bool false) rfl (Zb (Zc (Zq (Zo ?_)))))))))))))))
 rw [show decide (Zaw c) = false from decide_eq_false (by unfold Zaw; omega)]
 exact Zi (v := .bool false) rfl rfl rfl (by kernel_rfl) rfl
 refine Zp ((Zav (G := G) c.epoch 1 900000000).res (congrArg Value.bool (Zt (by omega)))) (vals := [Iv c.epoch, Iv 1, Iv 900000000]) (res' := .bool false) rfl rfl rfl rfl rfl rfl ?_
 refine Zg rfl rfl (.bool false) rfl (Zf rfl rfl (.bool false) rfl (Za rfl rfl (Za rfl rfl (Za rfl rfl (Zg rfl rfl (.bool false) rfl (Zf rfl rfl (.bool false) rfl (Za rfl rfl (Za rfl rfl (Za rfl rfl (Zg rfl rfl (.bool false) rfl (Zd rfl rfl (.bool false) rfl (Zb (Zc (Zq (Zo ?_)))))))))))))))
 rw [show decide (Zaw c) = false from decide_eq_false (by unfold Zaw; omega)]
 exact Zi (v := .bool false) rfl rfl rfl (by kernel_rfl) rfl
 refine Zp ((Zav (G := G) c.region 1 5).res (congrArg Value.bool (Zt (by omega)))) (vals := [Iv c.region, Iv 1, Iv 5]) (res' := .bool false) rfl rfl rfl rfl rfl rfl ?_
 refine Zf rfl rfl (.bool false) rfl (Za rfl rfl (Za rfl rfl (Za rfl rfl (Zg rfl rfl (.bool false) rfl (Zf rfl rfl (.bool false) rfl (Za rfl rfl (Za rfl rfl (Za rfl rfl (Zg rfl rfl (.bool false) rfl (Zf rfl rfl (.bool false) rfl (Za rfl rfl (Za rfl rfl (Za rfl rfl (Zg rfl rfl (.bool false) rfl (Zd rfl rfl (.bool false) rfl (Zb (Zc (Zq (Zo ?_)))))))))))))))))))
 rw [show decide (Zaw c) = false from decide_eq_false (by unfold Zaw; omega)]
 exact Zi (v := .bool false) rfl rfl rfl (by kernel_rfl) rfl
 refine Zp ((Zav (G := G) c.region 1 5).res (congrArg Value.bool (Zt (by omega)))) (vals := [Iv c.region, Iv 1, Iv 5]) (res' := .bool false) rfl rfl rfl rfl rfl rfl ?_
 refine Zf rfl rfl (.bool false) rfl (Za rfl rfl (Za rfl rfl (Za rfl rfl (Zg rfl rfl (.bool false) rfl (Zf rfl rfl (.bool false) rfl (Za rfl rfl (Za rfl rfl (Za rfl rfl (Zg rfl rfl (.bool false) rfl (Zf rfl rfl (.bool false) rfl (Za rfl rfl (Za rfl rfl (Za rfl rfl (Zg rfl rfl (.bool false) rfl (Zd rfl rfl (.bool false) rfl (Zb (Zc (Zq (Zo ?_)))))))))))))))))))
 rw [show decide (Zaw c) = false from decide_eq_false (by unfold Zaw; omega)]
 exact Zi (v := .bool false) rfl rfl rfl (by kernel_rfl) rfl
end Go.Flat
