/- Walks. -/
import Derived.Test.YtoafdomlefoenaaH9
import Derived.Test.YtoafdomlefoenaaFlatG
set_option linter.unusedVariables false
set_option linter.unusedSimpArgs false
set_option maxRecDepth 20000
namespace Go.Flat
open Go.Proofs
variable {G : Glob}
instance : LawfulBEq ByteArray where
  eq_of_beq := by
    intro a b h
    obtain ⟨x⟩ := a; obtain ⟨y⟩ := b
    exact congrArg ByteArray.mk (eq_of_beq (show (x == y) = true from h))
  rfl := by
    intro a
    obtain ⟨x⟩ := a
    exact (BEq.rfl : (x == x) = true)
structure Claim where
  region : Int
  epoch : Int
  node : Int
  size : Int
  root : D
instance : Inhabited Claim := ⟨⟨0, 0, 0, 0, dz⟩⟩
def Zr (c : Claim) : List Value := [.int .i64 c.region, .int .i64 c.epoch, .int .i64 c.node, .int .i64 c.size] ++ Ze2 w8 32 c.root
def Zx (c : Claim) : Value := .agg (Zr c).toArray
def Zh : Cod Claim := ⟨Zr, 36, fun _ => rfl, by decide⟩
structure Entry where
  kind : Int
  client : Int
  seq : Int
  text : ByteArray
  head : Signed
  claim : Claim
def Z1l : Claim := ⟨0, 0, 0, 0, dz⟩
def Zzc : Entry := ⟨0, 0, 0, ⟨#[]⟩, Zzd, Z1l⟩
instance : Inhabited Entry := ⟨Zzc⟩
def Zdd (e : Entry) : List Value := [.int .i64 e.kind, .int .i64 e.client, .int .i64 e.seq, .string e.text] ++ (Zgq e.head ++ Zr e.claim)
def Zdg (e : Entry) : Value := .agg (Zdd e).toArray
def Z2v : Cod Entry := ⟨Zdd, 109, fun _ => rfl, by decide⟩
structure Item where
  epoch : Int
  entry : Entry
instance : Inhabited Item := ⟨⟨0, Zzc⟩⟩
def Z1 (x : Item) : List Value := .int .i64 x.epoch :: Zdd x.entry
def Zal (x : Item) : Value := .agg (Z1 x).toArray
def Zj : Cod Item := ⟨Z1, 110, fun _ => rfl, by decide⟩
def Zaz (c : Claim) : Prop := (1 ≤ c.region ∧ c.region ≤ 5) ∧ (1 ≤ c.epoch ∧ c.epoch ≤ 900000000) ∧ (1 ≤ c.node ∧ c.node ≤ 3) ∧ (0 ≤ c.size ∧ c.size ≤ 100000)
instance (c : Claim) : Decidable (Zaz c) := inferInstanceAs (Decidable (_ ∧ _))
def Ze6 (c : Claim) : Int := if Zaz c then 0 else 60
theorem Zj9 {c : Claim} (h : Ze6 c = 0) : Zaz c := by
 unfold Ze6 at h
 split at h
 ·assumption
 ·omega
theorem Zqe {c : Claim} (h : ¬ Ze6 c = 0) : ¬ Zaz c := fun q => h (if_pos q)
section
open Go.ChangeShapes Go.WideShapes Go.RowKit
def Zu (a b : Claim) : Bool := ((a.region == b.region) && ((a.epoch == b.epoch) && ((a.node == b.node) && ((a.size == b.size) && ((Zfm 32 a.root b.root) && true)))))
theorem Zmr (a b : Claim) {d : Nat} : Zai Try.prog (Op.equalIn (d + 3) 36 (Zx a) (Zx b)) = some (Zu a b) :=
 eqS (P := Try.prog) (d + 2) 36 _ (Zr a).toArray (Zr b).toArray (fun f => if f.offset = 0 then (a.region == b.region) else if f.offset = 1 then (a.epoch == b.epoch) else if f.offset = 2 then (a.node == b.node) else if f.offset = 3 then (a.size == b.size) else if f.offset = 4 then (Zfm 32 a.root b.root) else true) rfl (by kernel_rfl) (List.forall_mem_cons.2 ⟨⟨by decide, Iv a.region, Iv b.region, Zbp rfl rfl rfl, Zbp rfl rfl rfl, Zfq rfl⟩, List.forall_mem_cons.2 ⟨⟨by decide, Iv a.epoch, Iv b.epoch, Zbp rfl rfl rfl, Zbp rfl rfl rfl, Zfq rfl⟩, List.forall_mem_cons.2 ⟨⟨by decide, Iv a.node, Iv b.node, Zbp rfl rfl rfl, Zbp rfl rfl rfl, Zfq rfl⟩, List.forall_mem_cons.2 ⟨⟨by decide, Iv a.size, Iv b.size, Zbp rfl rfl rfl, Zbp rfl rfl rfl, Zfq rfl⟩, List.forall_mem_cons.2 ⟨⟨by decide, .agg (Ze2 w8 32 a.root).toArray, .agg (Ze2 w8 32 b.root).toArray, Zc0 (n := 32) rfl rfl rfl rfl rfl, Zc0 (n := 32) rfl rfl rfl rfl rfl, Zms rfl rfl rfl⟩, fun _ h => absurd h (by simp)⟩⟩⟩⟩⟩)
theorem Zb8 {x y : Operand} (a b : Claim) : Zd7 Try.prog .eql 36 x y (Zx a) (Zx b) = some (.bool (Zu a b)) := Zl9 (by kernel_rfl) (by kernel_rfl) (Zmr a b (d := 9997))
theorem Zgt {x y : Operand} (a b : Claim) : Zd7 Try.prog .neq 36 x y (Zx a) (Zx b) = some (.bool (!Zu a b)) := Zt7 (by kernel_rfl) (by kernel_rfl) (Zmr a b (d := 9997))
theorem Zag (a : Claim) : Zu a a = true := by simp [Zu, Zfm]
def okClaim (a : Claim) : Prop := (-9223372036854775808 ≤ a.region ∧ a.region ≤ 9223372036854775807) ∧ (-9223372036854775808 ≤ a.epoch ∧ a.epoch ≤ 9223372036854775807) ∧ (-9223372036854775808 ≤ a.node ∧ a.node ≤ 9223372036854775807) ∧ (-9223372036854775808 ≤ a.size ∧ a.size ≤ 9223372036854775807) ∧ True ∧ True
theorem Ziu : Za7 Try.prog 36 Zr okClaim := by
 intro H encH W fuel cs x h
 obtain ⟨xs, n, _, _, hl, hxl, hel⟩ := DataW.trod_struct (P := Try.prog) (t := 36) (fs := _) rfl h
 have hl' : cs.length = 36 := hl.trans (by kernel_rfl)
 obtain ⟨a0, e0, k0⟩ := Za7.at_ (t := 3) (off := 0) (k := 1) (Za7.int (by kernel_rfl)) (hel 0 _ rfl) (by rw [hxl]; decide) rfl (by kernel_rfl) rfl
 have q0 : cs.drop 0 = [Iv a0] ++ cs.drop 1 := by rw [Za9 0 1, e0]
 obtain ⟨a1, e1, k1⟩ := Za7.at_ (t := 3) (off := 1) (k := 1) (Za7.int (by kernel_rfl)) (hel 1 _ rfl) (by rw [hxl]; decide) rfl (by kernel_rfl) rfl
 have q1 : cs.drop 1 = [Iv a1] ++ cs.drop 2 := by rw [Za9 1 1, e1]
 obtain ⟨a2, e2, k2⟩ := Za7.at_ (t := 3) (off := 2) (k := 1) (Za7.int (by kernel_rfl)) (hel 2 _ rfl) (by rw [hxl]; decide) rfl (by kernel_rfl) rfl
 have q2 : cs.drop 2 = [Iv a2] ++ cs.drop 3 := by rw [Za9 2 1, e2]
 obtain ⟨a3, e3, k3⟩ := Za7.at_ (t := 3) (off := 3) (k := 1) (Za7.int (by kernel_rfl)) (hel 3 _ rfl) (by rw [hxl]; decide) rfl (by kernel_rfl) rfl
 have q3 : cs.drop 3 = [Iv a3] ++ cs.drop 4 := by rw [Za9 3 1, e3]
 obtain ⟨a4, e4, k4⟩ := Za7.at_ (t := 30) (off := 4) (k := 32) (Za7.bytes (n := 32) (tb := 5) (by kernel_rfl) (by kernel_rfl) (by kernel_rfl) (by kernel_rfl)) (hel 4 _ rfl) (by rw [hxl]; decide) rfl (by kernel_rfl) rfl
 have q4 : cs.drop 4 = Ze2 w8 32 a4 ++ cs.drop 36 := by rw [Za9 4 32, e4]
 have qe : cs.drop 36 = [] := List.drop_of_length_le (by omega)
 refine ⟨⟨a0, a1, a2, a3, a4⟩, ?_, k0, k1, k2, k3, k4, trivial⟩
 rw [List.drop_zero] at q0
 rw [q0, q1, q2, q3, q4, qe]
 simp [Zr]
def Zgi (a b : Entry) : Bool := ((a.kind == b.kind) && ((a.client == b.client) && ((a.seq == b.seq) && ((a.text == b.text) && ((Zee a.head b.head) && ((Zu a.claim b.claim) && true))))))
theorem Zqp (a b : Entry) {d : Nat} : Zai Try.prog (Op.equalIn (d + 5) 38 (Zdg a) (Zdg b)) = some (Zgi a b) :=
 eqS (P := Try.prog) (d + 4) 38 _ (Zdd a).toArray (Zdd b).toArray (fun f => if f.offset = 0 then (a.kind == b.kind) else if f.offset = 1 then (a.client == b.client) else if f.offset = 2 then (a.seq == b.seq) else if f.offset = 3 then (a.text == b.text) else if f.offset = 4 then (Zee a.head b.head) else if f.offset = 73 then (Zu a.claim b.claim) else true) rfl (by kernel_rfl) (List.forall_mem_cons.2 ⟨⟨by decide, Iv a.kind, Iv b.kind, Zbp rfl rfl rfl, Zbp rfl rfl rfl, Zfq rfl⟩, List.forall_mem_cons.2 ⟨⟨by decide, Iv a.client, Iv b.client, Zbp rfl rfl rfl, Zbp rfl rfl rfl, Zfq rfl⟩, List.forall_mem_cons.2 ⟨⟨by decide, Iv a.seq, Iv b.seq, Zbp rfl rfl rfl, Zbp rfl rfl rfl, Zfq rfl⟩, List.forall_mem_cons.2 ⟨⟨by decide, .string a.text, .string b.text, Zbp rfl rfl rfl, Zbp rfl rfl rfl, Zur rfl⟩, List.forall_mem_cons.2 ⟨⟨by decide, Zcu a.head, Zcu b.head, Zc0 (n := 69) rfl rfl rfl rfl rfl, Zc0 (n := 69) rfl rfl rfl rfl rfl, Zob a.head b.head⟩, List.forall_mem_cons.2 ⟨⟨by decide, Zx a.claim, Zx b.claim, Zc0 (n := 36) rfl rfl rfl rfl rfl, Zc0 (n := 36) rfl rfl rfl rfl rfl, Zmr a.claim b.claim⟩, fun _ h => absurd h (by simp)⟩⟩⟩⟩⟩⟩)
theorem Zgs {x y : Operand} (a b : Entry) : Zd7 Try.prog .eql 38 x y (Zdg a) (Zdg b) = some (.bool (Zgi a b)) := Zl9 (by kernel_rfl) (by kernel_rfl) (Zqp a b (d := 9995))
theorem Zsc (a : Entry) : Zgi a a = true := by simp [Zgi, Zfm, Zjl, Zag]
def okEntry (a : Entry) : Prop := (-9223372036854775808 ≤ a.kind ∧ a.kind ≤ 9223372036854775807) ∧ (-9223372036854775808 ≤ a.client ∧ a.client ≤ 9223372036854775807) ∧ (-9223372036854775808 ≤ a.seq ∧ a.seq ≤ 9223372036854775807) ∧ (a.text.size ≤ maxLen) ∧ okSigned a.head ∧ okClaim a.claim ∧ True
theorem Zq7 : Za7 Try.prog 38 Zdd okEntry := by
 intro H encH W fuel cs x h
 obtain ⟨xs, n, _, _, hl, hxl, hel⟩ := DataW.trod_struct (P := Try.prog) (t := 38) (fs := _) rfl h
 have hl' : cs.length = 109 := hl.trans (by kernel_rfl)
 obtain ⟨a0, e0, k0⟩ := Za7.at_ (t := 28) (off := 0) (k := 1) (Za7.int (by kernel_rfl)) (hel 0 _ rfl) (by rw [hxl]; decide) rfl (by kernel_rfl) rfl
 have q0 : cs.drop 0 = [Iv a0] ++ cs.drop 1 := by rw [Za9 0 1, e0]
 obtain ⟨a1, e1, k1⟩ := Za7.at_ (t := 3) (off := 1) (k := 1) (Za7.int (by kernel_rfl)) (hel 1 _ rfl) (by rw [hxl]; decide) rfl (by kernel_rfl) rfl
 have q1 : cs.drop 1 = [Iv a1] ++ cs.drop 2 := by rw [Za9 1 1, e1]
 obtain ⟨a2, e2, k2⟩ := Za7.at_ (t := 3) (off := 2) (k := 1) (Za7.int (by kernel_rfl)) (hel 2 _ rfl) (by rw [hxl]; decide) rfl (by kernel_rfl) rfl
 have q2 : cs.drop 2 = [Iv a2] ++ cs.drop 3 := by rw [Za9 2 1, e2]
 obtain ⟨a3, e3, k3⟩ := Za7.at_ (t := 9) (off := 3) (k := 1) (Za7.str (by kernel_rfl)) (hel 3 _ rfl) (by rw [hxl]; decide) rfl (by kernel_rfl) rfl
 have q3 : cs.drop 3 = [.string a3] ++ cs.drop 4 := by rw [Za9 3 1, e3]
 obtain ⟨a4, e4, k4⟩ := Za7.at_ (t := 34) (off := 4) (k := 69) (Zpt) (hel 4 _ rfl) (by rw [hxl]; decide) rfl (by kernel_rfl) rfl
 have q4 : cs.drop 4 = Zgq a4 ++ cs.drop 73 := by rw [Za9 4 69, e4]
 obtain ⟨a5, e5, k5⟩ := Za7.at_ (t := 36) (off := 73) (k := 36) (Ziu) (hel 5 _ rfl) (by rw [hxl]; decide) rfl (by kernel_rfl) rfl
 have q5 : cs.drop 73 = Zr a5 ++ cs.drop 109 := by rw [Za9 73 36, e5]
 have qe : cs.drop 109 = [] := List.drop_of_length_le (by omega)
 refine ⟨⟨a0, a1, a2, a3, a4, a5⟩, ?_, k0, k1, k2, k3, k4, k5, trivial⟩
 rw [List.drop_zero] at q0
 rw [q0, q1, q2, q3, q4, q5, qe]
 simp [Zdd]
def Z0 (a b : Item) : Bool := ((a.epoch == b.epoch) && ((Zgi a.entry b.entry) && true))
theorem Ztw (a b : Item) {d : Nat} : Zai Try.prog (Op.equalIn (d + 6) 40 (Zal a) (Zal b)) = some (Z0 a b) :=
 eqS (P := Try.prog) (d + 5) 40 _ (Z1 a).toArray (Z1 b).toArray (fun f => if f.offset = 0 then (a.epoch == b.epoch) else if f.offset = 1 then (Zgi a.entry b.entry) else true) rfl (by kernel_rfl) (List.forall_mem_cons.2 ⟨⟨by decide, Iv a.epoch, Iv b.epoch, Zbp rfl rfl rfl, Zbp rfl rfl rfl, Zfq rfl⟩, List.forall_mem_cons.2 ⟨⟨by decide, Zdg a.entry, Zdg b.entry, Zc0 (n := 109) rfl rfl rfl rfl rfl, Zc0 (n := 109) rfl rfl rfl rfl rfl, Zqp a.entry b.entry⟩, fun _ h => absurd h (by simp)⟩⟩)
theorem Zde {x y : Operand} (a b : Item) : Zd7 Try.prog .eql 40 x y (Zal a) (Zal b) = some (.bool (Z0 a b)) := Zl9 (by kernel_rfl) (by kernel_rfl) (Ztw a b (d := 9994))
theorem Zq5 {x y : Operand} (a b : Item) : Zd7 Try.prog .neq 40 x y (Zal a) (Zal b) = some (.bool (!Z0 a b)) := Zt7 (by kernel_rfl) (by kernel_rfl) (Ztw a b (d := 9994))
theorem Zan (a : Item) : Z0 a a = true := by simp [Z0, Zfm, Zsc]
def okItem (a : Item) : Prop := (-9223372036854775808 ≤ a.epoch ∧ a.epoch ≤ 9223372036854775807) ∧ okEntry a.entry ∧ True
theorem Zj1 : Za7 Try.prog 40 Z1 okItem := by
 intro H encH W fuel cs x h
 obtain ⟨xs, n, _, _, hl, hxl, hel⟩ := DataW.trod_struct (P := Try.prog) (t := 40) (fs := _) rfl h
 have hl' : cs.length = 110 := hl.trans (by kernel_rfl)
 obtain ⟨a0, e0, k0⟩ := Za7.at_ (t := 3) (off := 0) (k := 1) (Za7.int (by kernel_rfl)) (hel 0 _ rfl) (by rw [hxl]; decide) rfl (by kernel_rfl) rfl
 have q0 : cs.drop 0 = [Iv a0] ++ cs.drop 1 := by rw [Za9 0 1, e0]
 obtain ⟨a1, e1, k1⟩ := Za7.at_ (t := 38) (off := 1) (k := 109) (Zq7) (hel 1 _ rfl) (by rw [hxl]; decide) rfl (by kernel_rfl) rfl
 have q1 : cs.drop 1 = Zdd a1 ++ cs.drop 110 := by rw [Za9 1 109, e1]
 have qe : cs.drop 110 = [] := List.drop_of_length_le (by omega)
 refine ⟨⟨a0, a1⟩, ?_, k0, k1, trivial⟩
 rw [List.drop_zero] at q0
 rw [q0, q1, qe]
 simp [Z1]
end
theorem Zbu (n low high : Int) : Zat Try.prog G 59 [Iv n, Iv low, Iv high] [] (.bool (Zbs n low high)) [] := by
 refine Zcg (fn := Try.f59) (nt := 15) rfl rfl rfl rfl ?_
 refine Zi (Zm (Zc (.bool false) (Zd (Ze (Zi (Zm (Zb (Iv n) (Zb (Iv low) ?_))))))))
 by_cases h1 : low ≤ n
 refine Zn (vx := Iv n) (vy := Iv low) rfl rfl (.bool true) rfl rfl (Zic (by omega)) ?_
 refine Zb (.bool true) (Zb (Iv n) (Zb (Iv high) ?_))
 by_cases h2 : n ≤ high
 refine Zn (vx := Iv n) (vy := Iv high) rfl rfl (.bool true) rfl rfl (Zjn (by omega)) ?_
 refine Zg (.bool true) (Zc (.bool true) (Zd (Ze (Zs (Zq ?_)))))
 rw [show Zbs n low high = true from Zak (by omega) (by omega)]
 exact Zk (v := .bool true) rfl rfl rfl (by kernel_rfl) rfl
 refine Zn (vx := Iv n) (vy := Iv high) rfl rfl (.bool false) rfl rfl (Zjm (by omega)) ?_
 refine Zg (.bool false) (Zc (.bool false) (Zd (Ze (Zs (Zq ?_)))))
 rw [show Zbs n low high = false from Z2 (by omega)]
 exact Zk (v := .bool false) rfl rfl rfl (by kernel_rfl) rfl
 refine Zn (vx := Iv n) (vy := Iv low) rfl rfl (.bool false) rfl rfl (Zho (by omega)) ?_
 refine Zb (.bool false) (Za (Za (Za (Zg (.bool false) (Zc (.bool false) (Zd (Ze (Zs (Zq ?_)))))))))
 rw [show Zbs n low high = false from Z2 (by omega)]
 exact Zk (v := .bool false) rfl rfl rfl (by kernel_rfl) rfl
theorem Zbk (n low high : Int) : Zat Try.prog G 62 [Iv n, Iv low, Iv high] [] (.bool (Zbs n low high)) [] := by
 refine Zcg (fn := Try.f62) (nt := 15) rfl rfl rfl rfl ?_
 refine Zi (Zm (Zc (.bool false) (Zd (Ze (Zi (Zm (Zb (Iv n) (Zb (Iv low) ?_))))))))
 by_cases h1 : low ≤ n
 refine Zn (vx := Iv n) (vy := Iv low) rfl rfl (.bool true) rfl rfl (Zic (by omega)) ?_
 refine Zb (.bool true) (Zb (Iv n) (Zb (Iv high) ?_))
 by_cases h2 : n ≤ high
 refine Zn (vx := Iv n) (vy := Iv high) rfl rfl (.bool true) rfl rfl (Zjn (by omega)) ?_
 refine Zg (.bool true) (Zc (.bool true) (Zd (Ze (Zs (Zq ?_)))))
 rw [show Zbs n low high = true from Zak (by omega) (by omega)]
 exact Zk (v := .bool true) rfl rfl rfl (by kernel_rfl) rfl
 refine Zn (vx := Iv n) (vy := Iv high) rfl rfl (.bool false) rfl rfl (Zjm (by omega)) ?_
 refine Zg (.bool false) (Zc (.bool false) (Zd (Ze (Zs (Zq ?_)))))
 rw [show Zbs n low high = false from Z2 (by omega)]
 exact Zk (v := .bool false) rfl rfl rfl (by kernel_rfl) rfl
 refine Zn (vx := Iv n) (vy := Iv low) rfl rfl (.bool false) rfl rfl (Zho (by omega)) ?_
 refine Zb (.bool false) (Za (Za (Za (Zg (.bool false) (Zc (.bool false) (Zd (Ze (Zs (Zq ?_)))))))))
 rw [show Zbs n low high = false from Z2 (by omega)]
 exact Zk (v := .bool false) rfl rfl rfl (by kernel_rfl) rfl
theorem Zcn (b : Bool) : Zat Try.prog G 58 [.bool b] [] (Iv (if b then 0 else 60)) [] := by
 refine Zcg (fn := Try.f58) (nt := 4) rfl rfl rfl rfl ?_
 refine Zi (Zm (Zc (Iv 0) (Zd (Ze (Zi (Zi (Zm (Zb (.bool b) (Zd (Ze ?_))))))))))
 rcases Bool.eq_false_or_eq_true b with h1 | h1
 refine Z4 (congrArg Value.bool h1) (Zi (Zm (Zc (Iv 0) (Zd (Ze (Zs (Zv (Zq ?_))))))))
 rw [show (if b = true then (0 : Int) else 60) = 0 from by simp [*]]
 exact Zk (v := Iv 0) rfl rfl rfl (by kernel_rfl) rfl
 refine Zz (congrArg Value.bool h1) (Z9 (Ze (Zi (Zm (Zc (Iv 60) (Zd (Ze (Zs (Zq ?_)))))))))
 rw [show (if b = true then (0 : Int) else 60) = 60 from by simp [*]]
 exact Zk (v := Iv 60) rfl rfl rfl (by kernel_rfl) rfl
theorem Zhd (c : Claim) : Zat Try.prog G 44 [Zx c] [] (Iv (Ze6 c)) [] := by
 refine Zcg (fn := Try.f44) (nt := 22) rfl rfl rfl rfl ?_
 refine Za8 1 (H' := [hole]) rfl ?_
 refine Zi (Zm (Zbn (v := Zx c) (b := bxB 36 (Zr c)) (nid := 0) (H' := [bxB 36 (Zr c)]) (Zc (Iv 0) (Zd (Ze (Zi (Zm (Zf (b := 0) (o := 0) (n := 0) (o' := 0) (Zl (p := pt 0 0) (v := Iv c.region) ?_)))))))))
 by_cases h1 : 1 ≤ c.region
 by_cases h2 : c.region ≤ 5
 refine Zw ((Zbu (G := G) c.region 1 5).res (congrArg Value.bool (Zak (by omega) (by omega)))) (vals := [Iv c.region, Iv 1, Iv 5]) (res' := .bool true) rfl rfl rfl rfl rfl rfl ?_
 refine Zb (.bool true) (Zf (b := 0) (o := 0) (n := 1) (o' := 1) (Zl (p := pt 0 1) (v := Iv c.epoch) ?_))
 by_cases h3 : 1 ≤ c.epoch
 by_cases h4 : c.epoch ≤ 900000000
 refine Zw ((Zbu (G := G) c.epoch 1 900000000).res (congrArg Value.bool (Zak (by omega) (by omega)))) (vals := [Iv c.epoch, Iv 1, Iv 900000000]) (res' := .bool true) rfl rfl rfl rfl rfl rfl ?_
 refine Zg (.bool true) (Zb (.bool true) (Zf (b := 0) (o := 0) (n := 2) (o' := 2) (Zl (p := pt 0 2) (v := Iv c.node) ?_)))
 by_cases h5 : 1 ≤ c.node
 by_cases h6 : c.node ≤ 3
 refine Zw ((Zbu (G := G) c.node 1 3).res (congrArg Value.bool (Zak (by omega) (by omega)))) (vals := [Iv c.node, Iv 1, Iv 3]) (res' := .bool true) rfl rfl rfl rfl rfl rfl ?_
 refine Zg (.bool true) (Zb (.bool true) (Zf (b := 0) (o := 0) (n := 3) (o' := 3) (Zl (p := pt 0 3) (v := Iv c.size) ?_)))
 by_cases h7 : 0 ≤ c.size
 by_cases h8 : c.size ≤ 100000
 refine Zw ((Zbu (G := G) c.size 0 100000).res (congrArg Value.bool (Zak (by omega) (by omega)))) (vals := [Iv c.size, Iv 0, Iv 100000]) (res' := .bool true) rfl rfl rfl rfl rfl rfl ?_
 refine Zg (.bool true) ?_
 refine Zw (Zcn (G := G) true) (vals := [.bool true]) (res' := Iv 0) rfl rfl rfl rfl rfl rfl ?_
 refine Zc (Iv 0) (Zd (Ze (Zs (Zq ?_))))
 rw [show Ze6 c = 0 from if_pos (by unfold Zaz; omega)]
 exact Zk (v := Iv 0) rfl rfl rfl (by kernel_rfl) rfl
 refine Zw ((Zbu (G := G) c.size 0 100000).res (congrArg Value.bool (Z2 (by omega)))) (vals := [Iv c.size, Iv 0, Iv 100000]) (res' := .bool false) rfl rfl rfl rfl rfl rfl ?_
 refine Zg (.bool false) ?_
 refine Zw (Zcn (G := G) false) (vals := [.bool false]) (res' := Iv 60) rfl rfl rfl rfl rfl rfl ?_
 refine Zc (Iv 60) (Zd (Ze (Zs (Zq ?_))))
 rw [show Ze6 c = 60 from if_neg (by unfold Zaz; omega)]
 exact Zk (v := Iv 60) rfl rfl rfl (by kernel_rfl) rfl
 refine Zw ((Zbu (G := G) c.size 0 100000).res (congrArg Value.bool (Z2 (by omega)))) (vals := [Iv c.size, Iv 0, Iv 100000]) (res' := .bool false) rfl rfl rfl rfl rfl rfl ?_
 refine Zg (.bool false) ?_
 refine Zw (Zcn (G := G) false) (vals := [.bool false]) (res' := Iv 60) rfl rfl rfl rfl rfl rfl ?_
 refine Zc (Iv 60) (Zd (Ze (Zs (Zq ?_))))
 rw [show Ze6 c = 60 from if_neg (by unfold Zaz; omega)]
 exact Zk (v := Iv 60) rfl rfl rfl (by kernel_rfl) rfl
 refine Zw ((Zbu (G := G) c.node 1 3).res (congrArg Value.bool (Z2 (by omega)))) (vals := [Iv c.node, Iv 1, Iv 3]) (res' := .bool false) rfl rfl rfl rfl rfl rfl ?_
 refine Zg (.bool false) (Zb (.bool false) (Za (Za (Za (Zg (.bool false) ?_)))))
 refine Zw (Zcn (G := G) false) (vals := [.bool false]) (res' := Iv 60) rfl rfl rfl rfl rfl rfl ?_
 refine Zc (Iv 60) (Zd (Ze (Zs (Zq ?_))))
 rw [show Ze6 c = 60 from if_neg (by unfold Zaz; omega)]
 exact Zk (v := Iv 60) rfl rfl rfl (by kernel_rfl) rfl
 refine Zw ((Zbu (G := G) c.node 1 3).res (congrArg Value.bool (Z2 (by omega)))) (vals := [Iv c.node, Iv 1, Iv 3]) (res' := .bool false) rfl rfl rfl rfl rfl rfl ?_
 refine Zg (.bool false) (Zb (.bool false) (Za (Za (Za (Zg (.bool false) ?_)))))
 refine Zw (Zcn (G := G) false) (vals := [.bool false]) (res' := Iv 60) rfl rfl rfl rfl rfl rfl ?_
 refine Zc (Iv 60) (Zd (Ze (Zs (Zq ?_))))
 rw [show Ze6 c = 60 from if_neg (by unfold Zaz; omega)]
 exact Zk (v := Iv 60) rfl rfl rfl (by kernel_rfl) rfl
 refine Zw ((Zbu (G := G) c.epoch 1 900000000).res (congrArg Value.bool (Z2 (by omega)))) (vals := [Iv c.epoch, Iv 1, Iv 900000000]) (res' := .bool false) rfl rfl rfl rfl rfl rfl ?_
 refine Zg (.bool false) (Zb (.bool false) (Za (Za (Za (Zg (.bool false) (Zb (.bool false) (Za (Za (Za (Zg (.bool false) ?_))))))))))
 refine Zw (Zcn (G := G) false) (vals := [.bool false]) (res' := Iv 60) rfl rfl rfl rfl rfl rfl ?_
 refine Zc (Iv 60) (Zd (Ze (Zs (Zq ?_))))
 rw [show Ze6 c = 60 from if_neg (by unfold Zaz; omega)]
 exact Zk (v := Iv 60) rfl rfl rfl (by kernel_rfl) rfl
 refine Zw ((Zbu (G := G) c.epoch 1 900000000).res (congrArg Value.bool (Z2 (by omega)))) (vals := [Iv c.epoch, Iv 1, Iv 900000000]) (res' := .bool false) rfl rfl rfl rfl rfl rfl ?_
 refine Zg (.bool false) (Zb (.bool false) (Za (Za (Za (Zg (.bool false) (Zb (.bool false) (Za (Za (Za (Zg (.bool false) ?_))))))))))
 refine Zw (Zcn (G := G) false) (vals := [.bool false]) (res' := Iv 60) rfl rfl rfl rfl rfl rfl ?_
 refine Zc (Iv 60) (Zd (Ze (Zs (Zq ?_))))
 rw [show Ze6 c = 60 from if_neg (by unfold Zaz; omega)]
 exact Zk (v := Iv 60) rfl rfl rfl (by kernel_rfl) rfl
 refine Zw ((Zbu (G := G) c.region 1 5).res (congrArg Value.bool (Z2 (by omega)))) (vals := [Iv c.region, Iv 1, Iv 5]) (res' := .bool false) rfl rfl rfl rfl rfl rfl ?_
 refine Zb (.bool false) (Za (Za (Za (Zg (.bool false) (Zb (.bool false) (Za (Za (Za (Zg (.bool false) (Zb (.bool false) (Za (Za (Za (Zg (.bool false) ?_))))))))))))))
 refine Zw (Zcn (G := G) false) (vals := [.bool false]) (res' := Iv 60) rfl rfl rfl rfl rfl rfl ?_
 refine Zc (Iv 60) (Zd (Ze (Zs (Zq ?_))))
 rw [show Ze6 c = 60 from if_neg (by unfold Zaz; omega)]
 exact Zk (v := Iv 60) rfl rfl rfl (by kernel_rfl) rfl
 refine Zw ((Zbu (G := G) c.region 1 5).res (congrArg Value.bool (Z2 (by omega)))) (vals := [Iv c.region, Iv 1, Iv 5]) (res' := .bool false) rfl rfl rfl rfl rfl rfl ?_
 refine Zb (.bool false) (Za (Za (Za (Zg (.bool false) (Zb (.bool false) (Za (Za (Za (Zg (.bool false) (Zb (.bool false) (Za (Za (Za (Zg (.bool false) ?_))))))))))))))
 refine Zw (Zcn (G := G) false) (vals := [.bool false]) (res' := Iv 60) rfl rfl rfl rfl rfl rfl ?_
 refine Zc (Iv 60) (Zd (Ze (Zs (Zq ?_))))
 rw [show Ze6 c = 60 from if_neg (by unfold Zaz; omega)]
 exact Zk (v := Iv 60) rfl rfl rfl (by kernel_rfl) rfl
theorem Zfw (c : Claim) : Zat Try.prog G 50 [Zx c] [] (.bool (decide (Zaz c))) [] := by
 refine Zcg (fn := Try.f50) (nt := 21) rfl rfl rfl rfl ?_
 refine Za8 1 (H' := [hole]) rfl ?_
 refine Zi (Zm (Zbn (v := Zx c) (b := bxB 36 (Zr c)) (nid := 0) (H' := [bxB 36 (Zr c)]) (Zc (.bool false) (Zd (Ze (Zi (Zm (Zf (b := 0) (o := 0) (n := 0) (o' := 0) (Zl (p := pt 0 0) (v := Iv c.region) ?_)))))))))
 by_cases h1 : 1 ≤ c.region
 by_cases h2 : c.region ≤ 5
 refine Zw ((Zbk (G := G) c.region 1 5).res (congrArg Value.bool (Zak (by omega) (by omega)))) (vals := [Iv c.region, Iv 1, Iv 5]) (res' := .bool true) rfl rfl rfl rfl rfl rfl ?_
 refine Zb (.bool true) (Zf (b := 0) (o := 0) (n := 1) (o' := 1) (Zl (p := pt 0 1) (v := Iv c.epoch) ?_))
 by_cases h3 : 1 ≤ c.epoch
 by_cases h4 : c.epoch ≤ 900000000
 refine Zw ((Zbk (G := G) c.epoch 1 900000000).res (congrArg Value.bool (Zak (by omega) (by omega)))) (vals := [Iv c.epoch, Iv 1, Iv 900000000]) (res' := .bool true) rfl rfl rfl rfl rfl rfl ?_
 refine Zg (.bool true) (Zb (.bool true) (Zf (b := 0) (o := 0) (n := 2) (o' := 2) (Zl (p := pt 0 2) (v := Iv c.node) ?_)))
 by_cases h5 : 1 ≤ c.node
 by_cases h6 : c.node ≤ 3
 refine Zw ((Zbk (G := G) c.node 1 3).res (congrArg Value.bool (Zak (by omega) (by omega)))) (vals := [Iv c.node, Iv 1, Iv 3]) (res' := .bool true) rfl rfl rfl rfl rfl rfl ?_
 refine Zg (.bool true) (Zb (.bool true) (Zf (b := 0) (o := 0) (n := 3) (o' := 3) (Zl (p := pt 0 3) (v := Iv c.size) ?_)))
 by_cases h7 : 0 ≤ c.size
 by_cases h8 : c.size ≤ 100000
 refine Zw ((Zbk (G := G) c.size 0 100000).res (congrArg Value.bool (Zak (by omega) (by omega)))) (vals := [Iv c.size, Iv 0, Iv 100000]) (res' := .bool true) rfl rfl rfl rfl rfl rfl ?_
 refine Zg (.bool true) (Zc (.bool true) (Zd (Ze (Zs (Zq ?_)))))
 rw [show decide (Zaz c) = true from decide_eq_true (by unfold Zaz; omega)]
 exact Zk (v := .bool true) rfl rfl rfl (by kernel_rfl) rfl
 refine Zw ((Zbk (G := G) c.size 0 100000).res (congrArg Value.bool (Z2 (by omega)))) (vals := [Iv c.size, Iv 0, Iv 100000]) (res' := .bool false) rfl rfl rfl rfl rfl rfl ?_
 refine Zg (.bool false) (Zc (.bool false) (Zd (Ze (Zs (Zq ?_)))))
 rw [show decide (Zaz c) = false from decide_eq_false (by unfold Zaz; omega)]
 exact Zk (v := .bool false) rfl rfl rfl (by kernel_rfl) rfl
 refine Zw ((Zbk (G := G) c.size 0 100000).res (congrArg Value.bool (Z2 (by omega)))) (vals := [Iv c.size, Iv 0, Iv 100000]) (res' := .bool false) rfl rfl rfl rfl rfl rfl ?_
 refine Zg (.bool false) (Zc (.bool false) (Zd (Ze (Zs (Zq ?_)))))
 rw [show decide (Zaz c) = false from decide_eq_false (by unfold Zaz; omega)]
 exact Zk (v := .bool false) rfl rfl rfl (by kernel_rfl) rfl
 refine Zw ((Zbk (G := G) c.node 1 3).res (congrArg Value.bool (Z2 (by omega)))) (vals := [Iv c.node, Iv 1, Iv 3]) (res' := .bool false) rfl rfl rfl rfl rfl rfl ?_
 refine Zg (.bool false) (Zb (.bool false) (Za (Za (Za (Zg (.bool false) (Zc (.bool false) (Zd (Ze (Zs (Zq ?_))))))))))
 rw [show decide (Zaz c) = false from decide_eq_false (by unfold Zaz; omega)]
 exact Zk (v := .bool false) rfl rfl rfl (by kernel_rfl) rfl
 refine Zw ((Zbk (G := G) c.node 1 3).res (congrArg Value.bool (Z2 (by omega)))) (vals := [Iv c.node, Iv 1, Iv 3]) (res' := .bool false) rfl rfl rfl rfl rfl rfl ?_
 refine Zg (.bool false) (Zb (.bool false) (Za (Za (Za (Zg (.bool false) (Zc (.bool false) (Zd (Ze (Zs (Zq ?_))))))))))
 rw [show decide (Zaz c) = false from decide_eq_false (by unfold Zaz; omega)]
 exact Zk (v := .bool false) rfl rfl rfl (by kernel_rfl) rfl
 refine Zw ((Zbk (G := G) c.epoch 1 900000000).res (congrArg Value.bool (Z2 (by omega)))) (vals := [Iv c.epoch, Iv 1, Iv 900000000]) (res' := .bool false) rfl rfl rfl rfl rfl rfl ?_
 refine Zg (.bool false) (Zb (.bool false) (Za (Za (Za (Zg (.bool false) (Zb (.bool false) (Za (Za (Za (Zg (.bool false) (Zc (.bool false) (Zd (Ze (Zs (Zq ?_)))))))))))))))
 rw [show decide (Zaz c) = false from decide_eq_false (by unfold Zaz; omega)]
 exact Zk (v := .bool false) rfl rfl rfl (by kernel_rfl) rfl
 refine Zw ((Zbk (G := G) c.epoch 1 900000000).res (congrArg Value.bool (Z2 (by omega)))) (vals := [Iv c.epoch, Iv 1, Iv 900000000]) (res' := .bool false) rfl rfl rfl rfl rfl rfl ?_
 refine Zg (.bool false) (Zb (.bool false) (Za (Za (Za (Zg (.bool false) (Zb (.bool false) (Za (Za (Za (Zg (.bool false) (Zc (.bool false) (Zd (Ze (Zs (Zq ?_)))))))))))))))
 rw [show decide (Zaz c) = false from decide_eq_false (by unfold Zaz; omega)]
 exact Zk (v := .bool false) rfl rfl rfl (by kernel_rfl) rfl
 refine Zw ((Zbk (G := G) c.region 1 5).res (congrArg Value.bool (Z2 (by omega)))) (vals := [Iv c.region, Iv 1, Iv 5]) (res' := .bool false) rfl rfl rfl rfl rfl rfl ?_
 refine Zb (.bool false) (Za (Za (Za (Zg (.bool false) (Zb (.bool false) (Za (Za (Za (Zg (.bool false) (Zb (.bool false) (Za (Za (Za (Zg (.bool false) (Zc (.bool false) (Zd (Ze (Zs (Zq ?_)))))))))))))))))))
 rw [show decide (Zaz c) = false from decide_eq_false (by unfold Zaz; omega)]
 exact Zk (v := .bool false) rfl rfl rfl (by kernel_rfl) rfl
 refine Zw ((Zbk (G := G) c.region 1 5).res (congrArg Value.bool (Z2 (by omega)))) (vals := [Iv c.region, Iv 1, Iv 5]) (res' := .bool false) rfl rfl rfl rfl rfl rfl ?_
 refine Zb (.bool false) (Za (Za (Za (Zg (.bool false) (Zb (.bool false) (Za (Za (Za (Zg (.bool false) (Zb (.bool false) (Za (Za (Za (Zg (.bool false) (Zc (.bool false) (Zd (Ze (Zs (Zq ?_)))))))))))))))))))
 rw [show decide (Zaz c) = false from decide_eq_false (by unfold Zaz; omega)]
 exact Zk (v := .bool false) rfl rfl rfl (by kernel_rfl) rfl
end Go.Flat
