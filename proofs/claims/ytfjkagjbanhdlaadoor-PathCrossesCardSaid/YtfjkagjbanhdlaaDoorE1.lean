/- Walks. -/
import Derived.Test.YtfjkagjbanhdlaaDoorH9
import Derived.Test.YtfjkagjbanhdlaaDoorFlatG
set_option linter.unusedVariables false
set_option linter.unusedSimpArgs false
set_option maxRecDepth 20000
namespace Go.Flat
open Go.Proofs
variable {G : Glob}
instance : LawfulBEq ByteArray where
  eq_of_beq := by
    intro a b h
    obtain ⟨x⟩ := a; obtain ⟨y⟩ := b
    exact congrArg ByteArray.mk (eq_of_beq (show (x == y) = true from h))
  rfl := by
    intro a
    obtain ⟨x⟩ := a
    exact (BEq.rfl : (x == x) = true)
structure Claim where
  region : Int
  epoch : Int
  node : Int
  size : Int
  root : D
instance : Inhabited Claim := ⟨⟨0, 0, 0, 0, dz⟩⟩
def Zeg (c : Claim) : List Value := [.int .i64 c.region, .int .i64 c.epoch, .int .i64 c.node, .int .i64 c.size] ++ Zad w8 32 c.root
def Zet (c : Claim) : Value := .agg (Zeg c).toArray
def Z6r : Cod Claim := ⟨Zeg, 36, fun _ => rfl, by decide⟩
structure Entry where
  kind : Int
  client : Int
  seq : Int
  text : ByteArray
  head : Signed
  claim : Claim
def Z52 : Claim := ⟨0, 0, 0, 0, dz⟩
def Z3r : Entry := ⟨0, 0, 0, ⟨#[]⟩, Z3z, Z52⟩
instance : Inhabited Entry := ⟨Z3r⟩
def Zb2 (e : Entry) : List Value := [.int .i64 e.kind, .int .i64 e.client, .int .i64 e.seq, .string e.text] ++ (Za e.head ++ Zeg e.claim)
def Zb0 (e : Entry) : Value := .agg (Zb2 e).toArray
def Z60 : Cod Entry := ⟨Zb2, 109, fun _ => rfl, by decide⟩
structure Item where
  epoch : Int
  entry : Entry
instance : Inhabited Item := ⟨⟨0, Z3r⟩⟩
def Zh (x : Item) : List Value := .int .i64 x.epoch :: Zb2 x.entry
def Zay (x : Item) : Value := .agg (Zh x).toArray
def Zk : Cod Item := ⟨Zh, 110, fun _ => rfl, by decide⟩
def Ze1 (c : Claim) : Prop := (1 ≤ c.region ∧ c.region ≤ 5) ∧ (1 ≤ c.epoch ∧ c.epoch ≤ 900000000) ∧ (1 ≤ c.node ∧ c.node ≤ 3) ∧ (0 ≤ c.size ∧ c.size ≤ 100000)
instance (c : Claim) : Decidable (Ze1 c) := inferInstanceAs (Decidable (_ ∧ _))
def Ze8 (c : Claim) : Int := if Ze1 c then 0 else 60
theorem Zu4 {c : Claim} (h : Ze8 c = 0) : Ze1 c := by
 unfold Ze8 at h
 split at h
 ·assumption
 ·omega
theorem Zsu {c : Claim} (h : ¬ Ze8 c = 0) : ¬ Ze1 c := fun q => h (if_pos q)
section
open Go.ChangeShapes Go.WideShapes Go.RowKit
def Zgr (a b : Claim) : Bool := ((a.region == b.region) && ((a.epoch == b.epoch) && ((a.node == b.node) && ((a.size == b.size) && ((Zcc 32 a.root b.root) && true)))))
theorem Zz8 (a b : Claim) {d : Nat} : Z6 Tryd.prog (Op.equalIn (d + 3) 39 (Zet a) (Zet b)) = some (Zgr a b) :=
 eqS (P := Tryd.prog) (d + 2) 39 _ (Zeg a).toArray (Zeg b).toArray (fun f => if f.offset = 0 then (a.region == b.region) else if f.offset = 1 then (a.epoch == b.epoch) else if f.offset = 2 then (a.node == b.node) else if f.offset = 3 then (a.size == b.size) else if f.offset = 4 then (Zcc 32 a.root b.root) else true) rfl (by kernel_rfl) (List.forall_mem_cons.2 ⟨⟨by decide, Iv a.region, Iv b.region, Zbd rfl rfl rfl, Zbd rfl rfl rfl, Zf4 rfl⟩, List.forall_mem_cons.2 ⟨⟨by decide, Iv a.epoch, Iv b.epoch, Zbd rfl rfl rfl, Zbd rfl rfl rfl, Zf4 rfl⟩, List.forall_mem_cons.2 ⟨⟨by decide, Iv a.node, Iv b.node, Zbd rfl rfl rfl, Zbd rfl rfl rfl, Zf4 rfl⟩, List.forall_mem_cons.2 ⟨⟨by decide, Iv a.size, Iv b.size, Zbd rfl rfl rfl, Zbd rfl rfl rfl, Zf4 rfl⟩, List.forall_mem_cons.2 ⟨⟨by decide, .agg (Zad w8 32 a.root).toArray, .agg (Zad w8 32 b.root).toArray, Zcn (n := 32) rfl rfl rfl rfl rfl, Zcn (n := 32) rfl rfl rfl rfl rfl, Zlw rfl rfl rfl⟩, fun _ h => absurd h (by simp)⟩⟩⟩⟩⟩)
theorem Zjk (a : Claim) : Zgr a a = true := by simp [Zgr, Zcc]
def okClaim (a : Claim) : Prop := (-9223372036854775808 ≤ a.region ∧ a.region ≤ 9223372036854775807) ∧ (-9223372036854775808 ≤ a.epoch ∧ a.epoch ≤ 9223372036854775807) ∧ (-9223372036854775808 ≤ a.node ∧ a.node ≤ 9223372036854775807) ∧ (-9223372036854775808 ≤ a.size ∧ a.size ≤ 9223372036854775807) ∧ True ∧ True
theorem Zt9 : Za0 Tryd.prog 39 Zeg okClaim := by
 intro H encH W fuel cs x h
 obtain ⟨xs, n, _, _, hl, hxl, hel⟩ := DataW.trod_struct (P := Tryd.prog) (t := 39) (fs := _) rfl h
 have hl' : cs.length = 36 := hl.trans (by kernel_rfl)
 obtain ⟨a0, e0, k0⟩ := Za0.at_ (t := 3) (off := 0) (k := 1) (Za0.int (by kernel_rfl)) (hel 0 _ rfl) (by rw [hxl]; decide) rfl (by kernel_rfl) rfl
 have q0 : cs.drop 0 = [Iv a0] ++ cs.drop 1 := by rw [Zbu 0 1, e0]
 obtain ⟨a1, e1, k1⟩ := Za0.at_ (t := 3) (off := 1) (k := 1) (Za0.int (by kernel_rfl)) (hel 1 _ rfl) (by rw [hxl]; decide) rfl (by kernel_rfl) rfl
 have q1 : cs.drop 1 = [Iv a1] ++ cs.drop 2 := by rw [Zbu 1 1, e1]
 obtain ⟨a2, e2, k2⟩ := Za0.at_ (t := 3) (off := 2) (k := 1) (Za0.int (by kernel_rfl)) (hel 2 _ rfl) (by rw [hxl]; decide) rfl (by kernel_rfl) rfl
 have q2 : cs.drop 2 = [Iv a2] ++ cs.drop 3 := by rw [Zbu 2 1, e2]
 obtain ⟨a3, e3, k3⟩ := Za0.at_ (t := 3) (off := 3) (k := 1) (Za0.int (by kernel_rfl)) (hel 3 _ rfl) (by rw [hxl]; decide) rfl (by kernel_rfl) rfl
 have q3 : cs.drop 3 = [Iv a3] ++ cs.drop 4 := by rw [Zbu 3 1, e3]
 obtain ⟨a4, e4, k4⟩ := Za0.at_ (t := 26) (off := 4) (k := 32) (Za0.bytes (n := 32) (tb := 5) (by kernel_rfl) (by kernel_rfl) (by kernel_rfl) (by kernel_rfl)) (hel 4 _ rfl) (by rw [hxl]; decide) rfl (by kernel_rfl) rfl
 have q4 : cs.drop 4 = Zad w8 32 a4 ++ cs.drop 36 := by rw [Zbu 4 32, e4]
 have qe : cs.drop 36 = [] := List.drop_of_length_le (by omega)
 refine ⟨⟨a0, a1, a2, a3, a4⟩, ?_, k0, k1, k2, k3, k4, trivial⟩
 rw [List.drop_zero] at q0
 rw [q0, q1, q2, q3, q4, qe]
 simp [Zeg]
def Zcw (a b : Entry) : Bool := ((a.kind == b.kind) && ((a.client == b.client) && ((a.seq == b.seq) && ((a.text == b.text) && ((Zd4 a.head b.head) && ((Zgr a.claim b.claim) && true))))))
theorem Zot (a b : Entry) {d : Nat} : Z6 Tryd.prog (Op.equalIn (d + 5) 41 (Zb0 a) (Zb0 b)) = some (Zcw a b) :=
 eqS (P := Tryd.prog) (d + 4) 41 _ (Zb2 a).toArray (Zb2 b).toArray (fun f => if f.offset = 0 then (a.kind == b.kind) else if f.offset = 1 then (a.client == b.client) else if f.offset = 2 then (a.seq == b.seq) else if f.offset = 3 then (a.text == b.text) else if f.offset = 4 then (Zd4 a.head b.head) else if f.offset = 73 then (Zgr a.claim b.claim) else true) rfl (by kernel_rfl) (List.forall_mem_cons.2 ⟨⟨by decide, Iv a.kind, Iv b.kind, Zbd rfl rfl rfl, Zbd rfl rfl rfl, Zf4 rfl⟩, List.forall_mem_cons.2 ⟨⟨by decide, Iv a.client, Iv b.client, Zbd rfl rfl rfl, Zbd rfl rfl rfl, Zf4 rfl⟩, List.forall_mem_cons.2 ⟨⟨by decide, Iv a.seq, Iv b.seq, Zbd rfl rfl rfl, Zbd rfl rfl rfl, Zf4 rfl⟩, List.forall_mem_cons.2 ⟨⟨by decide, .string a.text, .string b.text, Zbd rfl rfl rfl, Zbd rfl rfl rfl, Zys rfl⟩, List.forall_mem_cons.2 ⟨⟨by decide, Zs a.head, Zs b.head, Zcn (n := 69) rfl rfl rfl rfl rfl, Zcn (n := 69) rfl rfl rfl rfl rfl, Zq1 a.head b.head⟩, List.forall_mem_cons.2 ⟨⟨by decide, Zet a.claim, Zet b.claim, Zcn (n := 36) rfl rfl rfl rfl rfl, Zcn (n := 36) rfl rfl rfl rfl rfl, Zz8 a.claim b.claim⟩, fun _ h => absurd h (by simp)⟩⟩⟩⟩⟩⟩)
theorem Zhe {x y : Operand} (a b : Entry) : Zb1 Tryd.prog .eql 41 x y (Zb0 a) (Zb0 b) = some (.bool (Zcw a b)) := Zsc (by kernel_rfl) (by kernel_rfl) (Zot a b (d := 9995))
theorem Zhg {x y : Operand} (a b : Entry) : Zb1 Tryd.prog .neq 41 x y (Zb0 a) (Zb0 b) = some (.bool (!Zcw a b)) := Z2t (by kernel_rfl) (by kernel_rfl) (Zot a b (d := 9995))
theorem Zli (a : Entry) : Zcw a a = true := by simp [Zcw, Zcc, Zgs, Zjk]
def okEntry (a : Entry) : Prop := (-9223372036854775808 ≤ a.kind ∧ a.kind ≤ 9223372036854775807) ∧ (-9223372036854775808 ≤ a.client ∧ a.client ≤ 9223372036854775807) ∧ (-9223372036854775808 ≤ a.seq ∧ a.seq ≤ 9223372036854775807) ∧ (a.text.size ≤ maxLen) ∧ okSigned a.head ∧ okClaim a.claim ∧ True
theorem Zun : Za0 Tryd.prog 41 Zb2 okEntry := by
 intro H encH W fuel cs x h
 obtain ⟨xs, n, _, _, hl, hxl, hel⟩ := DataW.trod_struct (P := Tryd.prog) (t := 41) (fs := _) rfl h
 have hl' : cs.length = 109 := hl.trans (by kernel_rfl)
 obtain ⟨a0, e0, k0⟩ := Za0.at_ (t := 37) (off := 0) (k := 1) (Za0.int (by kernel_rfl)) (hel 0 _ rfl) (by rw [hxl]; decide) rfl (by kernel_rfl) rfl
 have q0 : cs.drop 0 = [Iv a0] ++ cs.drop 1 := by rw [Zbu 0 1, e0]
 obtain ⟨a1, e1, k1⟩ := Za0.at_ (t := 3) (off := 1) (k := 1) (Za0.int (by kernel_rfl)) (hel 1 _ rfl) (by rw [hxl]; decide) rfl (by kernel_rfl) rfl
 have q1 : cs.drop 1 = [Iv a1] ++ cs.drop 2 := by rw [Zbu 1 1, e1]
 obtain ⟨a2, e2, k2⟩ := Za0.at_ (t := 3) (off := 2) (k := 1) (Za0.int (by kernel_rfl)) (hel 2 _ rfl) (by rw [hxl]; decide) rfl (by kernel_rfl) rfl
 have q2 : cs.drop 2 = [Iv a2] ++ cs.drop 3 := by rw [Zbu 2 1, e2]
 obtain ⟨a3, e3, k3⟩ := Za0.at_ (t := 9) (off := 3) (k := 1) (Za0.str (by kernel_rfl)) (hel 3 _ rfl) (by rw [hxl]; decide) rfl (by kernel_rfl) rfl
 have q3 : cs.drop 3 = [.string a3] ++ cs.drop 4 := by rw [Zbu 3 1, e3]
 obtain ⟨a4, e4, k4⟩ := Za0.at_ (t := 33) (off := 4) (k := 69) (Zsd) (hel 4 _ rfl) (by rw [hxl]; decide) rfl (by kernel_rfl) rfl
 have q4 : cs.drop 4 = Za a4 ++ cs.drop 73 := by rw [Zbu 4 69, e4]
 obtain ⟨a5, e5, k5⟩ := Za0.at_ (t := 39) (off := 73) (k := 36) (Zt9) (hel 5 _ rfl) (by rw [hxl]; decide) rfl (by kernel_rfl) rfl
 have q5 : cs.drop 73 = Zeg a5 ++ cs.drop 109 := by rw [Zbu 73 36, e5]
 have qe : cs.drop 109 = [] := List.drop_of_length_le (by omega)
 refine ⟨⟨a0, a1, a2, a3, a4, a5⟩, ?_, k0, k1, k2, k3, k4, k5, trivial⟩
 rw [List.drop_zero] at q0
 rw [q0, q1, q2, q3, q4, q5, qe]
 simp [Zb2]
def Znk (a b : Item) : Bool := ((a.epoch == b.epoch) && ((Zcw a.entry b.entry) && true))
theorem Z3e (a b : Item) {d : Nat} : Z6 Tryd.prog (Op.equalIn (d + 6) 43 (Zay a) (Zay b)) = some (Znk a b) :=
 eqS (P := Tryd.prog) (d + 5) 43 _ (Zh a).toArray (Zh b).toArray (fun f => if f.offset = 0 then (a.epoch == b.epoch) else if f.offset = 1 then (Zcw a.entry b.entry) else true) rfl (by kernel_rfl) (List.forall_mem_cons.2 ⟨⟨by decide, Iv a.epoch, Iv b.epoch, Zbd rfl rfl rfl, Zbd rfl rfl rfl, Zf4 rfl⟩, List.forall_mem_cons.2 ⟨⟨by decide, Zb0 a.entry, Zb0 b.entry, Zcn (n := 109) rfl rfl rfl rfl rfl, Zcn (n := 109) rfl rfl rfl rfl rfl, Zot a.entry b.entry⟩, fun _ h => absurd h (by simp)⟩⟩)
theorem Zul {x y : Operand} (a b : Item) : Zb1 Tryd.prog .eql 43 x y (Zay a) (Zay b) = some (.bool (Znk a b)) := Zsc (by kernel_rfl) (by kernel_rfl) (Z3e a b (d := 9994))
theorem Znw (a : Item) : Znk a a = true := by simp [Znk, Zcc, Zli]
def okItem (a : Item) : Prop := (-9223372036854775808 ≤ a.epoch ∧ a.epoch ≤ 9223372036854775807) ∧ okEntry a.entry ∧ True
theorem Zld : Za0 Tryd.prog 43 Zh okItem := by
 intro H encH W fuel cs x h
 obtain ⟨xs, n, _, _, hl, hxl, hel⟩ := DataW.trod_struct (P := Tryd.prog) (t := 43) (fs := _) rfl h
 have hl' : cs.length = 110 := hl.trans (by kernel_rfl)
 obtain ⟨a0, e0, k0⟩ := Za0.at_ (t := 3) (off := 0) (k := 1) (Za0.int (by kernel_rfl)) (hel 0 _ rfl) (by rw [hxl]; decide) rfl (by kernel_rfl) rfl
 have q0 : cs.drop 0 = [Iv a0] ++ cs.drop 1 := by rw [Zbu 0 1, e0]
 obtain ⟨a1, e1, k1⟩ := Za0.at_ (t := 41) (off := 1) (k := 109) (Zun) (hel 1 _ rfl) (by rw [hxl]; decide) rfl (by kernel_rfl) rfl
 have q1 : cs.drop 1 = Zb2 a1 ++ cs.drop 110 := by rw [Zbu 1 109, e1]
 have qe : cs.drop 110 = [] := List.drop_of_length_le (by omega)
 refine ⟨⟨a0, a1⟩, ?_, k0, k1, trivial⟩
 rw [List.drop_zero] at q0
 rw [q0, q1, qe]
 simp [Zh]
end
theorem Za5 (n low high : Int) : Zaf Tryd.prog G 51 [Iv n, Iv low, Iv high] [] (.bool (Zda n low high)) [] := by
 refine Zbj (fn := Tryd.f51) (nt := 15) rfl rfl rfl rfl ?_
 refine Zg (Zj (Zd rfl rfl (.bool false) rfl (Zb (Zc (Zg (Zj (Zf rfl rfl (Iv n) rfl (Zf rfl rfl (Iv low) rfl ?_))))))))
 by_cases h1 : low ≤ n
 refine Zo (vx := Iv n) (vy := Iv low) rfl rfl (.bool true) rfl rfl (Zg5 (by omega)) ?_
 refine Zf rfl rfl (.bool true) rfl (Zf rfl rfl (Iv n) rfl (Zf rfl rfl (Iv high) rfl ?_))
 by_cases h2 : n ≤ high
 refine Zo (vx := Iv n) (vy := Iv high) rfl rfl (.bool true) rfl rfl (Zuv (by omega)) ?_
 refine Zm rfl rfl (.bool true) rfl (Zd rfl rfl (.bool true) rfl (Zb (Zc (Zx (Zy ?_)))))
 rw [show Zda n low high = true from Zb7 (by omega) (by omega)]
 exact Zq (v := .bool true) rfl rfl rfl (by kernel_rfl) rfl
 refine Zo (vx := Iv n) (vy := Iv high) rfl rfl (.bool false) rfl rfl (Ztv (by omega)) ?_
 refine Zm rfl rfl (.bool false) rfl (Zd rfl rfl (.bool false) rfl (Zb (Zc (Zx (Zy ?_)))))
 rw [show Zda n low high = false from Zan (by omega)]
 exact Zq (v := .bool false) rfl rfl rfl (by kernel_rfl) rfl
 refine Zo (vx := Iv n) (vy := Iv low) rfl rfl (.bool false) rfl rfl (Zhv (by omega)) ?_
 refine Zf rfl rfl (.bool false) rfl (Zi rfl rfl (Zi rfl rfl (Zi rfl rfl (Zm rfl rfl (.bool false) rfl (Zd rfl rfl (.bool false) rfl (Zb (Zc (Zx (Zy ?_)))))))))
 rw [show Zda n low high = false from Zan (by omega)]
 exact Zq (v := .bool false) rfl rfl rfl (by kernel_rfl) rfl
theorem Zb9 (b : Bool) : Zaf Tryd.prog G 70 [.bool b] [] (Iv (if b then 0 else 60)) [] := by
 refine Zbj (fn := Tryd.f70) (nt := 4) rfl rfl rfl rfl ?_
 refine Zg (Zj (Zd rfl rfl (Iv 0) rfl (Zb (Zc (Zg (Zg (Zj (Zf rfl rfl (.bool b) rfl (Zb (Zc ?_))))))))))
 rcases Bool.eq_false_or_eq_true b with h1 | h1
 refine Z0 (congrArg Value.bool h1) (Zg (Zj (Zd rfl rfl (Iv 0) rfl (Zb (Zc (Zx (Zaa (Zy ?_))))))))
 rw [show (if b = true then (0 : Int) else 60) = 0 from by simp [*]]
 exact Zq (v := Iv 0) rfl rfl rfl (by kernel_rfl) rfl
 refine Zz (congrArg Value.bool h1) (Z5 (Zc (Zg (Zj (Zd rfl rfl (Iv 60) rfl (Zb (Zc (Zx (Zy ?_)))))))))
 rw [show (if b = true then (0 : Int) else 60) = 60 from by simp [*]]
 exact Zq (v := Iv 60) rfl rfl rfl (by kernel_rfl) rfl
theorem Zk7 (c : Claim) : Zaf Tryd.prog G 69 [Zet c] [] (Iv (Ze8 c)) [] := by
 refine Zbj (fn := Tryd.f69) (nt := 22) rfl rfl rfl rfl ?_
 refine Zai 1 (H' := [hole]) rfl ?_
 refine Zg (Zj ?_)
 refine Zcj (v := Zet c) (b := bxB 36 (Zeg c)) (nid := 0) (H' := [bxB 36 (Zeg c)]) rfl rfl rfl (by kernel_rfl) (by kernel_rfl) ?_
 refine Zd rfl rfl (Iv 0) rfl (Zb (Zc (Zg (Zj ?_))))
 refine Zn (b := 0) (o := 0) (n := 0) (o' := 0) rfl rfl rfl rfl rfl ?_
 refine Zp (p := pt 0 0) (v := Iv c.region) rfl rfl rfl (by kernel_rfl) ?_
 by_cases h1 : 1 ≤ c.region
 by_cases h2 : c.region ≤ 5
 refine Zt ((Za5 (G := G) c.region 1 5).res (congrArg Value.bool (Zb7 (by omega) (by omega)))) (vals := [Iv c.region, Iv 1, Iv 5]) (res' := .bool true) rfl rfl rfl rfl rfl rfl ?_
 refine Zf rfl rfl (.bool true) rfl ?_
 refine Zn (b := 0) (o := 0) (n := 1) (o' := 1) rfl rfl rfl rfl rfl ?_
 refine Zp (p := pt 0 1) (v := Iv c.epoch) rfl rfl rfl (by kernel_rfl) ?_
 by_cases h3 : 1 ≤ c.epoch
 by_cases h4 : c.epoch ≤ 900000000
 refine Zt ((Za5 (G := G) c.epoch 1 900000000).res (congrArg Value.bool (Zb7 (by omega) (by omega)))) (vals := [Iv c.epoch, Iv 1, Iv 900000000]) (res' := .bool true) rfl rfl rfl rfl rfl rfl ?_
 refine Zm rfl rfl (.bool true) rfl (Zf rfl rfl (.bool true) rfl ?_)
 refine Zn (b := 0) (o := 0) (n := 2) (o' := 2) rfl rfl rfl rfl rfl ?_
 refine Zp (p := pt 0 2) (v := Iv c.node) rfl rfl rfl (by kernel_rfl) ?_
 by_cases h5 : 1 ≤ c.node
 by_cases h6 : c.node ≤ 3
 refine Zt ((Za5 (G := G) c.node 1 3).res (congrArg Value.bool (Zb7 (by omega) (by omega)))) (vals := [Iv c.node, Iv 1, Iv 3]) (res' := .bool true) rfl rfl rfl rfl rfl rfl ?_
 refine Zm rfl rfl (.bool true) rfl (Zf rfl rfl (.bool true) rfl ?_)
 refine Zn (b := 0) (o := 0) (n := 3) (o' := 3) rfl rfl rfl rfl rfl ?_
 refine Zp (p := pt 0 3) (v := Iv c.size) rfl rfl rfl (by kernel_rfl) ?_
 by_cases h7 : 0 ≤ c.size
 by_cases h8 : c.size ≤ 100000
 refine Zt ((Za5 (G := G) c.size 0 100000).res (congrArg Value.bool (Zb7 (by omega) (by omega)))) (vals := [Iv c.size, Iv 0, Iv 100000]) (res' := .bool true) rfl rfl rfl rfl rfl rfl ?_
 refine Zm rfl rfl (.bool true) rfl ?_
 refine Zt (Zb9 (G := G) true) (vals := [.bool true]) (res' := Iv 0) rfl rfl rfl rfl rfl rfl ?_
 refine Zd rfl rfl (Iv 0) rfl (Zb (Zc (Zx (Zy ?_))))
 rw [show Ze8 c = 0 from if_pos (by unfold Ze1; omega)]
 exact Zq (v := Iv 0) rfl rfl rfl (by kernel_rfl) rfl
 refine Zt ((Za5 (G := G) c.size 0 100000).res (congrArg Value.bool (Zan (by omega)))) (vals := [Iv c.size, Iv 0, Iv 100000]) (res' := .bool false) rfl rfl rfl rfl rfl rfl ?_
 refine Zm rfl rfl (.bool false) rfl ?_
 refine Zt (Zb9 (G := G) false) (vals := [.bool false]) (res' := Iv 60) rfl rfl rfl rfl rfl rfl ?_
 refine Zd rfl rfl (Iv 60) rfl (Zb (Zc (Zx (Zy ?_))))
 rw [show Ze8 c = 60 from if_neg (by unfold Ze1; omega)]
 exact Zq (v := Iv 60) rfl rfl rfl (by kernel_rfl) rfl
 refine Zt ((Za5 (G := G) c.size 0 100000).res (congrArg Value.bool (Zan (by omega)))) (vals := [Iv c.size, Iv 0, Iv 100000]) (res' := .bool false) rfl rfl rfl rfl rfl rfl ?_
 refine Zm rfl rfl (.bool false) rfl ?_
 refine Zt (Zb9 (G := G) false) (vals := [.bool false]) (res' := Iv 60) rfl rfl rfl rfl rfl rfl ?_
 refine Zd rfl rfl (Iv 60) rfl (Zb (Zc (Zx (Zy ?_))))
 rw [show Ze8 c = 60 from if_neg (by unfold Ze1; omega)]
 exact Zq (v := Iv 60) rfl rfl rfl (by kernel_rfl) rfl
 refine Zt ((Za5 (G := G) c.node 1 3).res (congrArg Value.bool (Zan (by omega)))) (vals := [Iv c.node, Iv 1, Iv 3]) (res' := .bool false) rfl rfl rfl rfl rfl rfl ?_
 refine Zm rfl rfl (.bool false) rfl (Zf rfl rfl (.bool false) rfl (Zi rfl rfl (Zi rfl rfl (Zi rfl rfl (Zm rfl rfl (.bool false) rfl ?_)))))
 refine Zt (Zb9 (G := G) false) (vals := [.bool false]) (res' := Iv 60) rfl rfl rfl rfl rfl rfl ?_
 refine Zd rfl rfl (Iv 60) rfl (Zb (Zc (Zx (Zy ?_))))
 rw [show Ze8 c = 60 from if_neg (by unfold Ze1; omega)]
 exact Zq (v := Iv 60) rfl rfl rfl (by kernel_rfl) rfl
 refine Zt ((Za5 (G := G) c.node 1 3).res (congrArg Value.bool (Zan (by omega)))) (vals := [Iv c.node, Iv 1, Iv 3]) (res' := .bool false) rfl rfl rfl rfl rfl rfl ?_
 refine Zm rfl rfl (.bool false) rfl (Zf rfl rfl (.bool false) rfl (Zi rfl rfl (Zi rfl rfl (Zi rfl rfl (Zm rfl rfl (.bool false) rfl ?_)))))
 refine Zt (Zb9 (G := G) false) (vals := [.bool false]) (res' := Iv 60) rfl rfl rfl rfl rfl rfl ?_
 refine Zd rfl rfl (Iv 60) rfl (Zb (Zc (Zx (Zy ?_))))
 rw [show Ze8 c = 60 from if_neg (by unfold Ze1; omega)]
 exact Zq (v := Iv 60) rfl rfl rfl (by kernel_rfl) rfl
 refine Zt ((Za5 (G := G) c.epoch 1 900000000).res (congrArg Value.bool (Zan (by omega)))) (vals := [Iv c.epoch, Iv 1, Iv 900000000]) (res' := .bool false) rfl rfl rfl rfl rfl rfl ?_
 refine Zm rfl rfl (.bool false) rfl (Zf rfl rfl (.bool false) rfl (Zi rfl rfl (Zi rfl rfl (Zi rfl rfl (Zm rfl rfl (.bool false) rfl (Zf rfl rfl (.bool false) rfl (Zi rfl rfl (Zi rfl rfl (Zi rfl rfl (Zm rfl rfl (.bool false) rfl ?_))))))))))
 refine Zt (Zb9 (G := G) false) (vals := [.bool false]) (res' := Iv 60) rfl rfl rfl rfl rfl rfl ?_
 refine Zd rfl rfl (Iv 60) rfl (Zb (Zc (Zx (Zy ?_))))
 rw [show Ze8 c = 60 from if_neg (by unfold Ze1; omega)]
 exact Zq (v := Iv 60) rfl rfl rfl (by kernel_rfl) rfl
 refine Zt ((Za5 (G := G) c.epoch 1 900000000).res (congrArg Value.bool (Zan (by omega)))) (vals := [Iv c.epoch, Iv 1, Iv 900000000]) (res' := .bool false) rfl rfl rfl rfl rfl rfl ?_
 refine Zm rfl rfl (.bool false) rfl (Zf rfl rfl (.bool false) rfl (Zi rfl rfl (Zi rfl rfl (Zi rfl rfl (Zm rfl rfl (.bool false) rfl (Zf rfl rfl (.bool false) rfl (Zi rfl rfl (Zi rfl rfl (Zi rfl rfl (Zm rfl rfl (.bool false) rfl ?_))))))))))
 refine Zt (Zb9 (G := G) false) (vals := [.bool false]) (res' := Iv 60) rfl rfl rfl rfl rfl rfl ?_
 refine Zd rfl rfl (Iv 60) rfl (Zb (Zc (Zx (Zy ?_))))
 rw [show Ze8 c = 60 from if_neg (by unfold Ze1; omega)]
 exact Zq (v := Iv 60) rfl rfl rfl (by kernel_rfl) rfl
 refine Zt ((Za5 (G := G) c.region 1 5).res (congrArg Value.bool (Zan (by omega)))) (vals := [Iv c.region, Iv 1, Iv 5]) (res' := .bool false) rfl rfl rfl rfl rfl rfl ?_
 refine Zf rfl rfl (.bool false) rfl (Zi rfl rfl (Zi rfl rfl (Zi rfl rfl (Zm rfl rfl (.bool false) rfl (Zf rfl rfl (.bool false) rfl (Zi rfl rfl (Zi rfl rfl (Zi rfl rfl (Zm rfl rfl (.bool false) rfl (Zf rfl rfl (.bool false) rfl (Zi rfl rfl (Zi rfl rfl (Zi rfl rfl (Zm rfl rfl (.bool false) rfl ?_))))))))))))))
 refine Zt (Zb9 (G := G) false) (vals := [.bool false]) (res' := Iv 60) rfl rfl rfl rfl rfl rfl ?_
 refine Zd rfl rfl (Iv 60) rfl (Zb (Zc (Zx (Zy ?_))))
 rw [show Ze8 c = 60 from if_neg (by unfold Ze1; omega)]
 exact Zq (v := Iv 60) rfl rfl rfl (by kernel_rfl) rfl
 refine Zt ((Za5 (G := G) c.region 1 5).res (congrArg Value.bool (Zan (by omega)))) (vals := [Iv c.region, Iv 1, Iv 5]) (res' := .bool false) rfl rfl rfl rfl rfl rfl ?_
 refine Zf rfl rfl (.bool false) rfl (Zi rfl rfl (Zi rfl rfl (Zi rfl rfl (Zm rfl rfl (.bool false) rfl (Zf rfl rfl (.bool false) rfl (Zi rfl rfl (Zi rfl rfl (Zi rfl rfl (Zm rfl rfl (.bool false) rfl (Zf rfl rfl (.bool false) rfl (Zi rfl rfl (Zi rfl rfl (Zi rfl rfl (Zm rfl rfl (.bool false) rfl ?_))))))))))))))
 refine Zt (Zb9 (G := G) false) (vals := [.bool false]) (res' := Iv 60) rfl rfl rfl rfl rfl rfl ?_
 refine Zd rfl rfl (Iv 60) rfl (Zb (Zc (Zx (Zy ?_))))
 rw [show Ze8 c = 60 from if_neg (by unfold Ze1; omega)]
 exact Zq (v := Iv 60) rfl rfl rfl (by kernel_rfl) rfl
end Go.Flat
