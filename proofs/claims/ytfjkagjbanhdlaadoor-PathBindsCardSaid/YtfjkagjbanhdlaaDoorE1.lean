/- Walks. -/
import Derived.Test.YtfjkagjbanhdlaaDoorH9
import Derived.Test.YtfjkagjbanhdlaaDoorFlatG
set_option linter.unusedVariables false
set_option linter.unusedSimpArgs false
set_option maxRecDepth 20000
namespace Go.Flat
open Go.Proofs
variable {G : Glob}
instance : LawfulBEq ByteArray where
  eq_of_beq := by
    intro a b h
    obtain ⟨x⟩ := a; obtain ⟨y⟩ := b
    exact congrArg ByteArray.mk (eq_of_beq (show (x == y) = true from h))
  rfl := by
    intro a
    obtain ⟨x⟩ := a
    exact (BEq.rfl : (x == x) = true)
structure Claim where
  region : Int
  epoch : Int
  node : Int
  size : Int
  root : D
instance : Inhabited Claim := ⟨⟨0, 0, 0, 0, dz⟩⟩
def Zee (c : Claim) : List Value := [.int .i64 c.region, .int .i64 c.epoch, .int .i64 c.node, .int .i64 c.size] ++ Zac w8 32 c.root
def Zeo (c : Claim) : Value := .agg (Zee c).toArray
def Z6d : Cod Claim := ⟨Zee, 36, fun _ => rfl, by decide⟩
structure Entry where
  kind : Int
  client : Int
  seq : Int
  text : ByteArray
  head : Signed
  claim : Claim
def Z5i : Claim := ⟨0, 0, 0, 0, dz⟩
def Z4c : Entry := ⟨0, 0, 0, ⟨#[]⟩, Z35, Z5i⟩
instance : Inhabited Entry := ⟨Z4c⟩
def Zc2 (e : Entry) : List Value := [.int .i64 e.kind, .int .i64 e.client, .int .i64 e.seq, .string e.text] ++ (Zd e.head ++ Zee e.claim)
def Zc7 (e : Entry) : Value := .agg (Zc2 e).toArray
def Z68 : Cod Entry := ⟨Zc2, 109, fun _ => rfl, by decide⟩
structure Item where
  epoch : Int
  entry : Entry
instance : Inhabited Item := ⟨⟨0, Z4c⟩⟩
def Zh (x : Item) : List Value := .int .i64 x.epoch :: Zc2 x.entry
def Za1 (x : Item) : Value := .agg (Zh x).toArray
def Zy : Cod Item := ⟨Zh, 110, fun _ => rfl, by decide⟩
def Ze3 (c : Claim) : Prop := (1 ≤ c.region ∧ c.region ≤ 5) ∧ (1 ≤ c.epoch ∧ c.epoch ≤ 900000000) ∧ (1 ≤ c.node ∧ c.node ≤ 3) ∧ (0 ≤ c.size ∧ c.size ≤ 100000)
instance (c : Claim) : Decidable (Ze3 c) := inferInstanceAs (Decidable (_ ∧ _))
def Ze4 (c : Claim) : Int := if Ze3 c then 0 else 60
theorem Zuc {c : Claim} (h : Ze4 c = 0) : Ze3 c := by
 unfold Ze4 at h
 split at h
 ·assumption
 ·omega
theorem Zus {c : Claim} (h : ¬ Ze4 c = 0) : ¬ Ze3 c := fun q => h (if_pos q)
section
open Go.ChangeShapes Go.WideShapes Go.RowKit
def Zf8 (a b : Claim) : Bool := ((a.region == b.region) && ((a.epoch == b.epoch) && ((a.node == b.node) && ((a.size == b.size) && ((Za6 32 a.root b.root) && true)))))
theorem Zz5 (a b : Claim) {d : Nat} : Z6 Tryd.prog (Op.equalIn (d + 3) 39 (Zeo a) (Zeo b)) = some (Zf8 a b) :=
 eqS (P := Tryd.prog) (d + 2) 39 _ (Zee a).toArray (Zee b).toArray (fun f => if f.offset = 0 then (a.region == b.region) else if f.offset = 1 then (a.epoch == b.epoch) else if f.offset = 2 then (a.node == b.node) else if f.offset = 3 then (a.size == b.size) else if f.offset = 4 then (Za6 32 a.root b.root) else true) rfl (by kernel_rfl) (List.forall_mem_cons.2 ⟨⟨by decide, Iv a.region, Iv b.region, Zba rfl rfl rfl, Zba rfl rfl rfl, Zfw rfl⟩, List.forall_mem_cons.2 ⟨⟨by decide, Iv a.epoch, Iv b.epoch, Zba rfl rfl rfl, Zba rfl rfl rfl, Zfw rfl⟩, List.forall_mem_cons.2 ⟨⟨by decide, Iv a.node, Iv b.node, Zba rfl rfl rfl, Zba rfl rfl rfl, Zfw rfl⟩, List.forall_mem_cons.2 ⟨⟨by decide, Iv a.size, Iv b.size, Zba rfl rfl rfl, Zba rfl rfl rfl, Zfw rfl⟩, List.forall_mem_cons.2 ⟨⟨by decide, .agg (Zac w8 32 a.root).toArray, .agg (Zac w8 32 b.root).toArray, Zcm (n := 32) rfl rfl rfl rfl rfl, Zcm (n := 32) rfl rfl rfl rfl rfl, Zkc rfl rfl rfl⟩, fun _ h => absurd h (by simp)⟩⟩⟩⟩⟩)
theorem Zmw (a : Claim) : Zf8 a a = true := by simp [Zf8, Za6]
def okClaim (a : Claim) : Prop := (-9223372036854775808 ≤ a.region ∧ a.region ≤ 9223372036854775807) ∧ (-9223372036854775808 ≤ a.epoch ∧ a.epoch ≤ 9223372036854775807) ∧ (-9223372036854775808 ≤ a.node ∧ a.node ≤ 9223372036854775807) ∧ (-9223372036854775808 ≤ a.size ∧ a.size ≤ 9223372036854775807) ∧ True ∧ True
theorem Zs2 : Zao Tryd.prog 39 Zee okClaim := by
 intro H encH W fuel cs x h
 obtain ⟨xs, n, _, _, hl, hxl, hel⟩ := DataW.trod_struct (P := Tryd.prog) (t := 39) (fs := _) rfl h
 have hl' : cs.length = 36 := hl.trans (by kernel_rfl)
 obtain ⟨a0, e0, k0⟩ := Zao.at_ (t := 3) (off := 0) (k := 1) (Zao.int (by kernel_rfl)) (hel 0 _ rfl) (by rw [hxl]; decide) rfl (by kernel_rfl) rfl
 have q0 : cs.drop 0 = [Iv a0] ++ cs.drop 1 := by rw [Zax 0 1, e0]
 obtain ⟨a1, e1, k1⟩ := Zao.at_ (t := 3) (off := 1) (k := 1) (Zao.int (by kernel_rfl)) (hel 1 _ rfl) (by rw [hxl]; decide) rfl (by kernel_rfl) rfl
 have q1 : cs.drop 1 = [Iv a1] ++ cs.drop 2 := by rw [Zax 1 1, e1]
 obtain ⟨a2, e2, k2⟩ := Zao.at_ (t := 3) (off := 2) (k := 1) (Zao.int (by kernel_rfl)) (hel 2 _ rfl) (by rw [hxl]; decide) rfl (by kernel_rfl) rfl
 have q2 : cs.drop 2 = [Iv a2] ++ cs.drop 3 := by rw [Zax 2 1, e2]
 obtain ⟨a3, e3, k3⟩ := Zao.at_ (t := 3) (off := 3) (k := 1) (Zao.int (by kernel_rfl)) (hel 3 _ rfl) (by rw [hxl]; decide) rfl (by kernel_rfl) rfl
 have q3 : cs.drop 3 = [Iv a3] ++ cs.drop 4 := by rw [Zax 3 1, e3]
 obtain ⟨a4, e4, k4⟩ := Zao.at_ (t := 26) (off := 4) (k := 32) (Zao.bytes (n := 32) (tb := 5) (by kernel_rfl) (by kernel_rfl) (by kernel_rfl) (by kernel_rfl)) (hel 4 _ rfl) (by rw [hxl]; decide) rfl (by kernel_rfl) rfl
 have q4 : cs.drop 4 = Zac w8 32 a4 ++ cs.drop 36 := by rw [Zax 4 32, e4]
 have qe : cs.drop 36 = [] := List.drop_of_length_le (by omega)
 refine ⟨⟨a0, a1, a2, a3, a4⟩, ?_, k0, k1, k2, k3, k4, trivial⟩
 rw [List.drop_zero] at q0
 rw [q0, q1, q2, q3, q4, qe]
 simp [Zee]
def Zec (a b : Entry) : Bool := ((a.kind == b.kind) && ((a.client == b.client) && ((a.seq == b.seq) && ((a.text == b.text) && ((Zc9 a.head b.head) && ((Zf8 a.claim b.claim) && true))))))
theorem Zpz (a b : Entry) {d : Nat} : Z6 Tryd.prog (Op.equalIn (d + 5) 41 (Zc7 a) (Zc7 b)) = some (Zec a b) :=
 eqS (P := Tryd.prog) (d + 4) 41 _ (Zc2 a).toArray (Zc2 b).toArray (fun f => if f.offset = 0 then (a.kind == b.kind) else if f.offset = 1 then (a.client == b.client) else if f.offset = 2 then (a.seq == b.seq) else if f.offset = 3 then (a.text == b.text) else if f.offset = 4 then (Zc9 a.head b.head) else if f.offset = 73 then (Zf8 a.claim b.claim) else true) rfl (by kernel_rfl) (List.forall_mem_cons.2 ⟨⟨by decide, Iv a.kind, Iv b.kind, Zba rfl rfl rfl, Zba rfl rfl rfl, Zfw rfl⟩, List.forall_mem_cons.2 ⟨⟨by decide, Iv a.client, Iv b.client, Zba rfl rfl rfl, Zba rfl rfl rfl, Zfw rfl⟩, List.forall_mem_cons.2 ⟨⟨by decide, Iv a.seq, Iv b.seq, Zba rfl rfl rfl, Zba rfl rfl rfl, Zfw rfl⟩, List.forall_mem_cons.2 ⟨⟨by decide, .string a.text, .string b.text, Zba rfl rfl rfl, Zba rfl rfl rfl, Zy1 rfl⟩, List.forall_mem_cons.2 ⟨⟨by decide, Z0 a.head, Z0 b.head, Zcm (n := 69) rfl rfl rfl rfl rfl, Zcm (n := 69) rfl rfl rfl rfl rfl, Zm1 a.head b.head⟩, List.forall_mem_cons.2 ⟨⟨by decide, Zeo a.claim, Zeo b.claim, Zcm (n := 36) rfl rfl rfl rfl rfl, Zcm (n := 36) rfl rfl rfl rfl rfl, Zz5 a.claim b.claim⟩, fun _ h => absurd h (by simp)⟩⟩⟩⟩⟩⟩)
theorem Zgx {x y : Operand} (a b : Entry) : Zbx Tryd.prog .eql 41 x y (Zc7 a) (Zc7 b) = some (.bool (Zec a b)) := Zso (by kernel_rfl) (by kernel_rfl) (Zpz a b (d := 9995))
theorem Zri {x y : Operand} (a b : Entry) : Zbx Tryd.prog .neq 41 x y (Zc7 a) (Zc7 b) = some (.bool (!Zec a b)) := Zxh (by kernel_rfl) (by kernel_rfl) (Zpz a b (d := 9995))
theorem Zwd (a : Entry) : Zec a a = true := by simp [Zec, Za6, Zh1, Zmw]
def okEntry (a : Entry) : Prop := (-9223372036854775808 ≤ a.kind ∧ a.kind ≤ 9223372036854775807) ∧ (-9223372036854775808 ≤ a.client ∧ a.client ≤ 9223372036854775807) ∧ (-9223372036854775808 ≤ a.seq ∧ a.seq ≤ 9223372036854775807) ∧ (a.text.size ≤ maxLen) ∧ okSigned a.head ∧ okClaim a.claim ∧ True
theorem Zu7 : Zao Tryd.prog 41 Zc2 okEntry := by
 intro H encH W fuel cs x h
 obtain ⟨xs, n, _, _, hl, hxl, hel⟩ := DataW.trod_struct (P := Tryd.prog) (t := 41) (fs := _) rfl h
 have hl' : cs.length = 109 := hl.trans (by kernel_rfl)
 obtain ⟨a0, e0, k0⟩ := Zao.at_ (t := 37) (off := 0) (k := 1) (Zao.int (by kernel_rfl)) (hel 0 _ rfl) (by rw [hxl]; decide) rfl (by kernel_rfl) rfl
 have q0 : cs.drop 0 = [Iv a0] ++ cs.drop 1 := by rw [Zax 0 1, e0]
 obtain ⟨a1, e1, k1⟩ := Zao.at_ (t := 3) (off := 1) (k := 1) (Zao.int (by kernel_rfl)) (hel 1 _ rfl) (by rw [hxl]; decide) rfl (by kernel_rfl) rfl
 have q1 : cs.drop 1 = [Iv a1] ++ cs.drop 2 := by rw [Zax 1 1, e1]
 obtain ⟨a2, e2, k2⟩ := Zao.at_ (t := 3) (off := 2) (k := 1) (Zao.int (by kernel_rfl)) (hel 2 _ rfl) (by rw [hxl]; decide) rfl (by kernel_rfl) rfl
 have q2 : cs.drop 2 = [Iv a2] ++ cs.drop 3 := by rw [Zax 2 1, e2]
 obtain ⟨a3, e3, k3⟩ := Zao.at_ (t := 9) (off := 3) (k := 1) (Zao.str (by kernel_rfl)) (hel 3 _ rfl) (by rw [hxl]; decide) rfl (by kernel_rfl) rfl
 have q3 : cs.drop 3 = [.string a3] ++ cs.drop 4 := by rw [Zax 3 1, e3]
 obtain ⟨a4, e4, k4⟩ := Zao.at_ (t := 33) (off := 4) (k := 69) (Zje) (hel 4 _ rfl) (by rw [hxl]; decide) rfl (by kernel_rfl) rfl
 have q4 : cs.drop 4 = Zd a4 ++ cs.drop 73 := by rw [Zax 4 69, e4]
 obtain ⟨a5, e5, k5⟩ := Zao.at_ (t := 39) (off := 73) (k := 36) (Zs2) (hel 5 _ rfl) (by rw [hxl]; decide) rfl (by kernel_rfl) rfl
 have q5 : cs.drop 73 = Zee a5 ++ cs.drop 109 := by rw [Zax 73 36, e5]
 have qe : cs.drop 109 = [] := List.drop_of_length_le (by omega)
 refine ⟨⟨a0, a1, a2, a3, a4, a5⟩, ?_, k0, k1, k2, k3, k4, k5, trivial⟩
 rw [List.drop_zero] at q0
 rw [q0, q1, q2, q3, q4, q5, qe]
 simp [Zc2]
def Zk7 (a b : Item) : Bool := ((a.epoch == b.epoch) && ((Zec a.entry b.entry) && true))
theorem Z19 (a b : Item) {d : Nat} : Z6 Tryd.prog (Op.equalIn (d + 6) 43 (Za1 a) (Za1 b)) = some (Zk7 a b) :=
 eqS (P := Tryd.prog) (d + 5) 43 _ (Zh a).toArray (Zh b).toArray (fun f => if f.offset = 0 then (a.epoch == b.epoch) else if f.offset = 1 then (Zec a.entry b.entry) else true) rfl (by kernel_rfl) (List.forall_mem_cons.2 ⟨⟨by decide, Iv a.epoch, Iv b.epoch, Zba rfl rfl rfl, Zba rfl rfl rfl, Zfw rfl⟩, List.forall_mem_cons.2 ⟨⟨by decide, Zc7 a.entry, Zc7 b.entry, Zcm (n := 109) rfl rfl rfl rfl rfl, Zcm (n := 109) rfl rfl rfl rfl rfl, Zpz a.entry b.entry⟩, fun _ h => absurd h (by simp)⟩⟩)
theorem Zl5 {x y : Operand} (a b : Item) : Zbx Tryd.prog .eql 43 x y (Za1 a) (Za1 b) = some (.bool (Zk7 a b)) := Zso (by kernel_rfl) (by kernel_rfl) (Z19 a b (d := 9994))
theorem Znt (a : Item) : Zk7 a a = true := by simp [Zk7, Za6, Zwd]
def okItem (a : Item) : Prop := (-9223372036854775808 ≤ a.epoch ∧ a.epoch ≤ 9223372036854775807) ∧ okEntry a.entry ∧ True
theorem Zln : Zao Tryd.prog 43 Zh okItem := by
 intro H encH W fuel cs x h
 obtain ⟨xs, n, _, _, hl, hxl, hel⟩ := DataW.trod_struct (P := Tryd.prog) (t := 43) (fs := _) rfl h
 have hl' : cs.length = 110 := hl.trans (by kernel_rfl)
 obtain ⟨a0, e0, k0⟩ := Zao.at_ (t := 3) (off := 0) (k := 1) (Zao.int (by kernel_rfl)) (hel 0 _ rfl) (by rw [hxl]; decide) rfl (by kernel_rfl) rfl
 have q0 : cs.drop 0 = [Iv a0] ++ cs.drop 1 := by rw [Zax 0 1, e0]
 obtain ⟨a1, e1, k1⟩ := Zao.at_ (t := 41) (off := 1) (k := 109) (Zu7) (hel 1 _ rfl) (by rw [hxl]; decide) rfl (by kernel_rfl) rfl
 have q1 : cs.drop 1 = Zc2 a1 ++ cs.drop 110 := by rw [Zax 1 109, e1]
 have qe : cs.drop 110 = [] := List.drop_of_length_le (by omega)
 refine ⟨⟨a0, a1⟩, ?_, k0, k1, trivial⟩
 rw [List.drop_zero] at q0
 rw [q0, q1, qe]
 simp [Zh]
end
theorem Za3 (n low high : Int) : Zae Tryd.prog G 51 [Iv n, Iv low, Iv high] [] (.bool (Zc4 n low high)) [] := by
 refine Zbj (fn := Tryd.f51) (nt := 15) rfl rfl rfl rfl ?_
 refine Zf (Zg (Zc rfl rfl (.bool false) rfl (Za (Zb (Zf (Zg (Ze rfl rfl (Iv n) rfl (Ze rfl rfl (Iv low) rfl ?_))))))))
 by_cases h1 : low ≤ n
 refine Zk (vx := Iv n) (vy := Iv low) rfl rfl (.bool true) rfl rfl (Zgm (by omega)) ?_
 refine Ze rfl rfl (.bool true) rfl (Ze rfl rfl (Iv n) rfl (Ze rfl rfl (Iv high) rfl ?_))
 by_cases h2 : n ≤ high
 refine Zk (vx := Iv n) (vy := Iv high) rfl rfl (.bool true) rfl rfl (Zt2 (by omega)) ?_
 refine Zo rfl rfl (.bool true) rfl (Zc rfl rfl (.bool true) rfl (Za (Zb (Zt (Zu ?_)))))
 rw [show Zc4 n low high = true from Zb9 (by omega) (by omega)]
 exact Zm (v := .bool true) rfl rfl rfl (by kernel_rfl) rfl
 refine Zk (vx := Iv n) (vy := Iv high) rfl rfl (.bool false) rfl rfl (Zva (by omega)) ?_
 refine Zo rfl rfl (.bool false) rfl (Zc rfl rfl (.bool false) rfl (Za (Zb (Zt (Zu ?_)))))
 rw [show Zc4 n low high = false from Zap (by omega)]
 exact Zm (v := .bool false) rfl rfl rfl (by kernel_rfl) rfl
 refine Zk (vx := Iv n) (vy := Iv low) rfl rfl (.bool false) rfl rfl (Zgl (by omega)) ?_
 refine Ze rfl rfl (.bool false) rfl (Zj rfl rfl (Zj rfl rfl (Zj rfl rfl (Zo rfl rfl (.bool false) rfl (Zc rfl rfl (.bool false) rfl (Za (Zb (Zt (Zu ?_)))))))))
 rw [show Zc4 n low high = false from Zap (by omega)]
 exact Zm (v := .bool false) rfl rfl rfl (by kernel_rfl) rfl
theorem Zcb (b : Bool) : Zae Tryd.prog G 70 [.bool b] [] (Iv (if b then 0 else 60)) [] := by
 refine Zbj (fn := Tryd.f70) (nt := 4) rfl rfl rfl rfl ?_
 refine Zf (Zg (Zc rfl rfl (Iv 0) rfl (Za (Zb (Zf (Zf (Zg (Ze rfl rfl (.bool b) rfl (Za (Zb ?_))))))))))
 rcases Bool.eq_false_or_eq_true b with h1 | h1
 refine Zz (congrArg Value.bool h1) (Zf (Zg (Zc rfl rfl (Iv 0) rfl (Za (Zb (Zt (Z3 (Zu ?_))))))))
 rw [show (if b = true then (0 : Int) else 60) = 0 from by simp [*]]
 exact Zm (v := Iv 0) rfl rfl rfl (by kernel_rfl) rfl
 refine Zv (congrArg Value.bool h1) (Z2 (Zb (Zf (Zg (Zc rfl rfl (Iv 60) rfl (Za (Zb (Zt (Zu ?_)))))))))
 rw [show (if b = true then (0 : Int) else 60) = 60 from by simp [*]]
 exact Zm (v := Iv 60) rfl rfl rfl (by kernel_rfl) rfl
theorem Zkz (c : Claim) : Zae Tryd.prog G 69 [Zeo c] [] (Iv (Ze4 c)) [] := by
 refine Zbj (fn := Tryd.f69) (nt := 22) rfl rfl rfl rfl ?_
 refine Zaj 1 (H' := [hole]) rfl ?_
 refine Zf (Zg ?_)
 refine Zbr (v := Zeo c) (b := bxB 36 (Zee c)) (nid := 0) (H' := [bxB 36 (Zee c)]) rfl rfl rfl (by kernel_rfl) (by kernel_rfl) ?_
 refine Zc rfl rfl (Iv 0) rfl (Za (Zb (Zf (Zg ?_))))
 refine Zi (b := 0) (o := 0) (n := 0) (o' := 0) rfl rfl rfl rfl rfl ?_
 refine Zl (p := pt 0 0) (v := Iv c.region) rfl rfl rfl (by kernel_rfl) ?_
 by_cases h1 : 1 ≤ c.region
 by_cases h2 : c.region ≤ 5
 refine Zq ((Za3 (G := G) c.region 1 5).res (congrArg Value.bool (Zb9 (by omega) (by omega)))) (vals := [Iv c.region, Iv 1, Iv 5]) (res' := .bool true) rfl rfl rfl rfl rfl rfl ?_
 refine Ze rfl rfl (.bool true) rfl ?_
 refine Zi (b := 0) (o := 0) (n := 1) (o' := 1) rfl rfl rfl rfl rfl ?_
 refine Zl (p := pt 0 1) (v := Iv c.epoch) rfl rfl rfl (by kernel_rfl) ?_
 by_cases h3 : 1 ≤ c.epoch
 by_cases h4 : c.epoch ≤ 900000000
 refine Zq ((Za3 (G := G) c.epoch 1 900000000).res (congrArg Value.bool (Zb9 (by omega) (by omega)))) (vals := [Iv c.epoch, Iv 1, Iv 900000000]) (res' := .bool true) rfl rfl rfl rfl rfl rfl ?_
 refine Zo rfl rfl (.bool true) rfl (Ze rfl rfl (.bool true) rfl ?_)
 refine Zi (b := 0) (o := 0) (n := 2) (o' := 2) rfl rfl rfl rfl rfl ?_
 refine Zl (p := pt 0 2) (v := Iv c.node) rfl rfl rfl (by kernel_rfl) ?_
 by_cases h5 : 1 ≤ c.node
 by_cases h6 : c.node ≤ 3
 refine Zq ((Za3 (G := G) c.node 1 3).res (congrArg Value.bool (Zb9 (by omega) (by omega)))) (vals := [Iv c.node, Iv 1, Iv 3]) (res' := .bool true) rfl rfl rfl rfl rfl rfl ?_
 refine Zo rfl rfl (.bool true) rfl (Ze rfl rfl (.bool true) rfl ?_)
 refine Zi (b := 0) (o := 0) (n := 3) (o' := 3) rfl rfl rfl rfl rfl ?_
 refine Zl (p := pt 0 3) (v := Iv c.size) rfl rfl rfl (by kernel_rfl) ?_
 by_cases h7 : 0 ≤ c.size
 by_cases h8 : c.size ≤ 100000
 refine Zq ((Za3 (G := G) c.size 0 100000).res (congrArg Value.bool (Zb9 (by omega) (by omega)))) (vals := [Iv c.size, Iv 0, Iv 100000]) (res' := .bool true) rfl rfl rfl rfl rfl rfl ?_
 refine Zo rfl rfl (.bool true) rfl ?_
 refine Zq (Zcb (G := G) true) (vals := [.bool true]) (res' := Iv 0) rfl rfl rfl rfl rfl rfl ?_
 refine Zc rfl rfl (Iv 0) rfl (Za (Zb (Zt (Zu ?_))))
 rw [show Ze4 c = 0 from if_pos (by unfold Ze3; omega)]
 exact Zm (v := Iv 0) rfl rfl rfl (by kernel_rfl) rfl
 refine Zq ((Za3 (G := G) c.size 0 100000).res (congrArg Value.bool (Zap (by omega)))) (vals := [Iv c.size, Iv 0, Iv 100000]) (res' := .bool false) rfl rfl rfl rfl rfl rfl ?_
 refine Zo rfl rfl (.bool false) rfl ?_
 refine Zq (Zcb (G := G) false) (vals := [.bool false]) (res' := Iv 60) rfl rfl rfl rfl rfl rfl ?_
 refine Zc rfl rfl (Iv 60) rfl (Za (Zb (Zt (Zu ?_))))
 rw [show Ze4 c = 60 from if_neg (by unfold Ze3; omega)]
 exact Zm (v := Iv 60) rfl rfl rfl (by kernel_rfl) rfl
 refine Zq ((Za3 (G := G) c.size 0 100000).res (congrArg Value.bool (Zap (by omega)))) (vals := [Iv c.size, Iv 0, Iv 100000]) (res' := .bool false) rfl rfl rfl rfl rfl rfl ?_
 refine Zo rfl rfl (.bool false) rfl ?_
 refine Zq (Zcb (G := G) false) (vals := [.bool false]) (res' := Iv 60) rfl rfl rfl rfl rfl rfl ?_
 refine Zc rfl rfl (Iv 60) rfl (Za (Zb (Zt (Zu ?_))))
 rw [show Ze4 c = 60 from if_neg (by unfold Ze3; omega)]
 exact Zm (v := Iv 60) rfl rfl rfl (by kernel_rfl) rfl
 refine Zq ((Za3 (G := G) c.node 1 3).res (congrArg Value.bool (Zap (by omega)))) (vals := [Iv c.node, Iv 1, Iv 3]) (res' := .bool false) rfl rfl rfl rfl rfl rfl ?_
 refine Zo rfl rfl (.bool false) rfl (Ze rfl rfl (.bool false) rfl (Zj rfl rfl (Zj rfl rfl (Zj rfl rfl (Zo rfl rfl (.bool false) rfl ?_)))))
 refine Zq (Zcb (G := G) false) (vals := [.bool false]) (res' := Iv 60) rfl rfl rfl rfl rfl rfl ?_
 refine Zc rfl rfl (Iv 60) rfl (Za (Zb (Zt (Zu ?_))))
 rw [show Ze4 c = 60 from if_neg (by unfold Ze3; omega)]
 exact Zm (v := Iv 60) rfl rfl rfl (by kernel_rfl) rfl
 refine Zq ((Za3 (G := G) c.node 1 3).res (congrArg Value.bool (Zap (by omega)))) (vals := [Iv c.node, Iv 1, Iv 3]) (res' := .bool false) rfl rfl rfl rfl rfl rfl ?_
 refine Zo rfl rfl (.bool false) rfl (Ze rfl rfl (.bool false) rfl (Zj rfl rfl (Zj rfl rfl (Zj rfl rfl (Zo rfl rfl (.bool false) rfl ?_)))))
 refine Zq (Zcb (G := G) false) (vals := [.bool false]) (res' := Iv 60) rfl rfl rfl rfl rfl rfl ?_
 refine Zc rfl rfl (Iv 60) rfl (Za (Zb (Zt (Zu ?_))))
 rw [show Ze4 c = 60 from if_neg (by unfold Ze3; omega)]
 exact Zm (v := Iv 60) rfl rfl rfl (by kernel_rfl) rfl
 refine Zq ((Za3 (G := G) c.epoch 1 900000000).res (congrArg Value.bool (Zap (by omega)))) (vals := [Iv c.epoch, Iv 1, Iv 900000000]) (res' := .bool false) rfl rfl rfl rfl rfl rfl ?_
 refine Zo rfl rfl (.bool false) rfl (Ze rfl rfl (.bool false) rfl (Zj rfl rfl (Zj rfl rfl (Zj rfl rfl (Zo rfl rfl (.bool false) rfl (Ze rfl rfl (.bool false) rfl (Zj rfl rfl (Zj rfl rfl (Zj rfl rfl (Zo rfl rfl (.bool false) rfl ?_))))))))))
 refine Zq (Zcb (G := G) false) (vals := [.bool false]) (res' := Iv 60) rfl rfl rfl rfl rfl rfl ?_
 refine Zc rfl rfl (Iv 60) rfl (Za (Zb (Zt (Zu ?_))))
 rw [show Ze4 c = 60 from if_neg (by unfold Ze3; omega)]
 exact Zm (v := Iv 60) rfl rfl rfl (by kernel_rfl) rfl
 refine Zq ((Za3 (G := G) c.epoch 1 900000000).res (congrArg Value.bool (Zap (by omega)))) (vals := [Iv c.epoch, Iv 1, Iv 900000000]) (res' := .bool false) rfl rfl rfl rfl rfl rfl ?_
 refine Zo rfl rfl (.bool false) rfl (Ze rfl rfl (.bool false) rfl (Zj rfl rfl (Zj rfl rfl (Zj rfl rfl (Zo rfl rfl (.bool false) rfl (Ze rfl rfl (.bool false) rfl (Zj rfl rfl (Zj rfl rfl (Zj rfl rfl (Zo rfl rfl (.bool false) rfl ?_))))))))))
 refine Zq (Zcb (G := G) false) (vals := [.bool false]) (res' := Iv 60) rfl rfl rfl rfl rfl rfl ?_
 refine Zc rfl rfl (Iv 60) rfl (Za (Zb (Zt (Zu ?_))))
 rw [show Ze4 c = 60 from if_neg (by unfold Ze3; omega)]
 exact Zm (v := Iv 60) rfl rfl rfl (by kernel_rfl) rfl
 refine Zq ((Za3 (G := G) c.region 1 5).res (congrArg Value.bool (Zap (by omega)))) (vals := [Iv c.region, Iv 1, Iv 5]) (res' := .bool false) rfl rfl rfl rfl rfl rfl ?_
 refine Ze rfl rfl (.bool false) rfl (Zj rfl rfl (Zj rfl rfl (Zj rfl rfl (Zo rfl rfl (.bool false) rfl (Ze rfl rfl (.bool false) rfl (Zj rfl rfl (Zj rfl rfl (Zj rfl rfl (Zo rfl rfl (.bool false) rfl (Ze rfl rfl (.bool false) rfl (Zj rfl rfl (Zj rfl rfl (Zj rfl rfl (Zo rfl rfl (.bool false) rfl ?_))))))))))))))
 refine Zq (Zcb (G := G) false) (vals := [.bool false]) (res' := Iv 60) rfl rfl rfl rfl rfl rfl ?_
 refine Zc rfl rfl (Iv 60) rfl (Za (Zb (Zt (Zu ?_))))
 rw [show Ze4 c = 60 from if_neg (by unfold Ze3; omega)]
 exact Zm (v := Iv 60) rfl rfl rfl (by kernel_rfl) rfl
 refine Zq ((Za3 (G := G) c.region 1 5).res (congrArg Value.bool (Zap (by omega)))) (vals := [Iv c.region, Iv 1, Iv 5]) (res' := .bool false) rfl rfl rfl rfl rfl rfl ?_
 refine Ze rfl rfl (.bool false) rfl (Zj rfl rfl (Zj rfl rfl (Zj rfl rfl (Zo rfl rfl (.bool false) rfl (Ze rfl rfl (.bool false) rfl (Zj rfl rfl (Zj rfl rfl (Zj rfl rfl (Zo rfl rfl (.bool false) rfl (Ze rfl rfl (.bool false) rfl (Zj rfl rfl (Zj rfl rfl (Zj rfl rfl (Zo rfl rfl (.bool false) rfl ?_))))))))))))))
 refine Zq (Zcb (G := G) false) (vals := [.bool false]) (res' := Iv 60) rfl rfl rfl rfl rfl rfl ?_
 refine Zc rfl rfl (Iv 60) rfl (Za (Zb (Zt (Zu ?_))))
 rw [show Ze4 c = 60 from if_neg (by unfold Ze3; omega)]
 exact Zm (v := Iv 60) rfl rfl rfl (by kernel_rfl) rfl
end Go.Flat
