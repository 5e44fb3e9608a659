/- Walks. -/
import Derived.Test.YtfjkagjbanhdlaaDoorH9
import Derived.Test.YtfjkagjbanhdlaaDoorFlatG
set_option linter.unusedVariables false
set_option linter.unusedSimpArgs false
set_option maxRecDepth 20000
namespace Go.Flat
open Go.Proofs
variable {G : Glob}
instance : LawfulBEq ByteArray where
  eq_of_beq := by
    intro a b h
    obtain ⟨x⟩ := a; obtain ⟨y⟩ := b
    exact congrArg ByteArray.mk (eq_of_beq (show (x == y) = true from h))
  rfl := by
    intro a
    obtain ⟨x⟩ := a
    exact (BEq.rfl : (x == x) = true)
structure Claim where
  region : Int
  epoch : Int
  node : Int
  size : Int
  root : D
instance : Inhabited Claim := ⟨⟨0, 0, 0, 0, dz⟩⟩
def Zee (c : Claim) : List Value := [.int .i64 c.region, .int .i64 c.epoch, .int .i64 c.node, .int .i64 c.size] ++ Z6 w8 32 c.root
def Zes (c : Claim) : Value := .agg (Zee c).toArray
def Z7w : Cod Claim := ⟨Zee, 36, fun _ => rfl, by decide⟩
structure Entry where
  kind : Int
  client : Int
  seq : Int
  text : ByteArray
  head : Signed
  claim : Claim
def Z7p : Claim := ⟨0, 0, 0, 0, dz⟩
def Z5q : Entry := ⟨0, 0, 0, ⟨#[]⟩, Z5r, Z7p⟩
instance : Inhabited Entry := ⟨Z5q⟩
def Zc1 (e : Entry) : List Value := [.int .i64 e.kind, .int .i64 e.client, .int .i64 e.seq, .string e.text] ++ (Zh e.head ++ Zee e.claim)
def Zcy (e : Entry) : Value := .agg (Zc1 e).toArray
def cEnt : Cod Entry := ⟨Zc1, 109, fun _ => rfl, by decide⟩
structure Item where
  epoch : Int
  entry : Entry
instance : Inhabited Item := ⟨⟨0, Z5q⟩⟩
def Zr (x : Item) : List Value := .int .i64 x.epoch :: Zc1 x.entry
def Zbq (x : Item) : Value := .agg (Zr x).toArray
def Zx : Cod Item := ⟨Zr, 110, fun _ => rfl, by decide⟩
def Ze8 (c : Claim) : Prop := (1 ≤ c.region ∧ c.region ≤ 5) ∧ (1 ≤ c.epoch ∧ c.epoch ≤ 900000000) ∧ (1 ≤ c.node ∧ c.node ≤ 3) ∧ (0 ≤ c.size ∧ c.size ≤ 100000)
instance (c : Claim) : Decidable (Ze8 c) := inferInstanceAs (Decidable (_ ∧ _))
def Zfa (c : Claim) : Int := if Ze8 c then 0 else 60
theorem Ztw {c : Claim} (h : Zfa c = 0) : Ze8 c := by
 unfold Zfa at h
 split at h
 ·assumption
 ·omega
theorem Ztv {c : Claim} (h : ¬ Zfa c = 0) : ¬ Ze8 c := fun q => h (if_pos q)
section
open Go.ChangeShapes Go.WideShapes Go.RowKit
def Zgh (a b : Claim) : Bool := ((a.region == b.region) && ((a.epoch == b.epoch) && ((a.node == b.node) && ((a.size == b.size) && ((Zcg 32 a.root b.root) && true)))))
theorem Z1d (a b : Claim) {d : Nat} : Z3 Tryd.prog (Op.equalIn (d + 3) 39 (Zes a) (Zes b)) = some (Zgh a b) :=
 eqS (P := Tryd.prog) (d + 2) 39 _ (Zee a).toArray (Zee b).toArray (fun f => if f.offset = 0 then (a.region == b.region) else if f.offset = 1 then (a.epoch == b.epoch) else if f.offset = 2 then (a.node == b.node) else if f.offset = 3 then (a.size == b.size) else if f.offset = 4 then (Zcg 32 a.root b.root) else true) rfl (by kernel_rfl) (List.forall_mem_cons.2 ⟨⟨by decide, Iv a.region, Iv b.region, Zbc rfl rfl rfl, Zbc rfl rfl rfl, Zfx rfl⟩, List.forall_mem_cons.2 ⟨⟨by decide, Iv a.epoch, Iv b.epoch, Zbc rfl rfl rfl, Zbc rfl rfl rfl, Zfx rfl⟩, List.forall_mem_cons.2 ⟨⟨by decide, Iv a.node, Iv b.node, Zbc rfl rfl rfl, Zbc rfl rfl rfl, Zfx rfl⟩, List.forall_mem_cons.2 ⟨⟨by decide, Iv a.size, Iv b.size, Zbc rfl rfl rfl, Zbc rfl rfl rfl, Zfx rfl⟩, List.forall_mem_cons.2 ⟨⟨by decide, .agg (Z6 w8 32 a.root).toArray, .agg (Z6 w8 32 b.root).toArray, Zcr (n := 32) rfl rfl rfl rfl rfl, Zcr (n := 32) rfl rfl rfl rfl rfl, Zme rfl rfl rfl⟩, fun _ h => absurd h (by simp)⟩⟩⟩⟩⟩)
theorem Zmd (a : Claim) : Zgh a a = true := by simp [Zgh, Zcg]
def okClaim (a : Claim) : Prop := (-9223372036854775808 ≤ a.region ∧ a.region ≤ 9223372036854775807) ∧ (-9223372036854775808 ≤ a.epoch ∧ a.epoch ≤ 9223372036854775807) ∧ (-9223372036854775808 ≤ a.node ∧ a.node ≤ 9223372036854775807) ∧ (-9223372036854775808 ≤ a.size ∧ a.size ≤ 9223372036854775807) ∧ True ∧ True
theorem Zuu : Zax Tryd.prog 39 Zee okClaim := by
 intro H encH W fuel cs x h
 obtain ⟨xs, n, _, _, hl, hxl, hel⟩ := DataW.trod_struct (P := Tryd.prog) (t := 39) (fs := _) rfl h
 have hl' : cs.length = 36 := hl.trans (by kernel_rfl)
 obtain ⟨a0, e0, k0⟩ := Zax.at_ (t := 3) (off := 0) (k := 1) (Zax.int (by kernel_rfl)) (hel 0 _ rfl) (by rw [hxl]; decide) rfl (by kernel_rfl) rfl
 have q0 : cs.drop 0 = [Iv a0] ++ cs.drop 1 := by rw [Zbf 0 1, e0]
 obtain ⟨a1, e1, k1⟩ := Zax.at_ (t := 3) (off := 1) (k := 1) (Zax.int (by kernel_rfl)) (hel 1 _ rfl) (by rw [hxl]; decide) rfl (by kernel_rfl) rfl
 have q1 : cs.drop 1 = [Iv a1] ++ cs.drop 2 := by rw [Zbf 1 1, e1]
 obtain ⟨a2, e2, k2⟩ := Zax.at_ (t := 3) (off := 2) (k := 1) (Zax.int (by kernel_rfl)) (hel 2 _ rfl) (by rw [hxl]; decide) rfl (by kernel_rfl) rfl
 have q2 : cs.drop 2 = [Iv a2] ++ cs.drop 3 := by rw [Zbf 2 1, e2]
 obtain ⟨a3, e3, k3⟩ := Zax.at_ (t := 3) (off := 3) (k := 1) (Zax.int (by kernel_rfl)) (hel 3 _ rfl) (by rw [hxl]; decide) rfl (by kernel_rfl) rfl
 have q3 : cs.drop 3 = [Iv a3] ++ cs.drop 4 := by rw [Zbf 3 1, e3]
 obtain ⟨a4, e4, k4⟩ := Zax.at_ (t := 26) (off := 4) (k := 32) (Zax.bytes (n := 32) (tb := 5) (by kernel_rfl) (by kernel_rfl) (by kernel_rfl) (by kernel_rfl)) (hel 4 _ rfl) (by rw [hxl]; decide) rfl (by kernel_rfl) rfl
 have q4 : cs.drop 4 = Z6 w8 32 a4 ++ cs.drop 36 := by rw [Zbf 4 32, e4]
 have qe : cs.drop 36 = [] := List.drop_of_length_le (by omega)
 refine ⟨⟨a0, a1, a2, a3, a4⟩, ?_, k0, k1, k2, k3, k4, trivial⟩
 rw [List.drop_zero] at q0
 rw [q0, q1, q2, q3, q4, qe]
 simp [Zee]
def Zdk (a b : Entry) : Bool := ((a.kind == b.kind) && ((a.client == b.client) && ((a.seq == b.seq) && ((a.text == b.text) && ((Ze1 a.head b.head) && ((Zgh a.claim b.claim) && true))))))
theorem Zpp (a b : Entry) {d : Nat} : Z3 Tryd.prog (Op.equalIn (d + 5) 41 (Zcy a) (Zcy b)) = some (Zdk a b) :=
 eqS (P := Tryd.prog) (d + 4) 41 _ (Zc1 a).toArray (Zc1 b).toArray (fun f => if f.offset = 0 then (a.kind == b.kind) else if f.offset = 1 then (a.client == b.client) else if f.offset = 2 then (a.seq == b.seq) else if f.offset = 3 then (a.text == b.text) else if f.offset = 4 then (Ze1 a.head b.head) else if f.offset = 73 then (Zgh a.claim b.claim) else true) rfl (by kernel_rfl) (List.forall_mem_cons.2 ⟨⟨by decide, Iv a.kind, Iv b.kind, Zbc rfl rfl rfl, Zbc rfl rfl rfl, Zfx rfl⟩, List.forall_mem_cons.2 ⟨⟨by decide, Iv a.client, Iv b.client, Zbc rfl rfl rfl, Zbc rfl rfl rfl, Zfx rfl⟩, List.forall_mem_cons.2 ⟨⟨by decide, Iv a.seq, Iv b.seq, Zbc rfl rfl rfl, Zbc rfl rfl rfl, Zfx rfl⟩, List.forall_mem_cons.2 ⟨⟨by decide, .string a.text, .string b.text, Zbc rfl rfl rfl, Zbc rfl rfl rfl, Zzg rfl⟩, List.forall_mem_cons.2 ⟨⟨by decide, Zw a.head, Zw b.head, Zcr (n := 69) rfl rfl rfl rfl rfl, Zcr (n := 69) rfl rfl rfl rfl rfl, Zrf a.head b.head⟩, List.forall_mem_cons.2 ⟨⟨by decide, Zes a.claim, Zes b.claim, Zcr (n := 36) rfl rfl rfl rfl rfl, Zcr (n := 36) rfl rfl rfl rfl rfl, Z1d a.claim b.claim⟩, fun _ h => absurd h (by simp)⟩⟩⟩⟩⟩⟩)
theorem Zg8 {x y : Operand} (a b : Entry) : Zb0 Tryd.prog .eql 41 x y (Zcy a) (Zcy b) = some (.bool (Zdk a b)) := Zss (by kernel_rfl) (by kernel_rfl) (Zpp a b (d := 9995))
theorem Zk2 {x y : Operand} (a b : Entry) : Zb0 Tryd.prog .neq 41 x y (Zcy a) (Zcy b) = some (.bool (!Zdk a b)) := Z4l (by kernel_rfl) (by kernel_rfl) (Zpp a b (d := 9995))
theorem Zwl (a : Entry) : Zdk a a = true := by simp [Zdk, Zcg, Zij, Zmd]
def okEntry (a : Entry) : Prop := (-9223372036854775808 ≤ a.kind ∧ a.kind ≤ 9223372036854775807) ∧ (-9223372036854775808 ≤ a.client ∧ a.client ≤ 9223372036854775807) ∧ (-9223372036854775808 ≤ a.seq ∧ a.seq ≤ 9223372036854775807) ∧ (a.text.size ≤ maxLen) ∧ okSigned a.head ∧ okClaim a.claim ∧ True
theorem Zuv : Zax Tryd.prog 41 Zc1 okEntry := by
 intro H encH W fuel cs x h
 obtain ⟨xs, n, _, _, hl, hxl, hel⟩ := DataW.trod_struct (P := Tryd.prog) (t := 41) (fs := _) rfl h
 have hl' : cs.length = 109 := hl.trans (by kernel_rfl)
 obtain ⟨a0, e0, k0⟩ := Zax.at_ (t := 37) (off := 0) (k := 1) (Zax.int (by kernel_rfl)) (hel 0 _ rfl) (by rw [hxl]; decide) rfl (by kernel_rfl) rfl
 have q0 : cs.drop 0 = [Iv a0] ++ cs.drop 1 := by rw [Zbf 0 1, e0]
 obtain ⟨a1, e1, k1⟩ := Zax.at_ (t := 3) (off := 1) (k := 1) (Zax.int (by kernel_rfl)) (hel 1 _ rfl) (by rw [hxl]; decide) rfl (by kernel_rfl) rfl
 have q1 : cs.drop 1 = [Iv a1] ++ cs.drop 2 := by rw [Zbf 1 1, e1]
 obtain ⟨a2, e2, k2⟩ := Zax.at_ (t := 3) (off := 2) (k := 1) (Zax.int (by kernel_rfl)) (hel 2 _ rfl) (by rw [hxl]; decide) rfl (by kernel_rfl) rfl
 have q2 : cs.drop 2 = [Iv a2] ++ cs.drop 3 := by rw [Zbf 2 1, e2]
 obtain ⟨a3, e3, k3⟩ := Zax.at_ (t := 9) (off := 3) (k := 1) (Zax.str (by kernel_rfl)) (hel 3 _ rfl) (by rw [hxl]; decide) rfl (by kernel_rfl) rfl
 have q3 : cs.drop 3 = [.string a3] ++ cs.drop 4 := by rw [Zbf 3 1, e3]
 obtain ⟨a4, e4, k4⟩ := Zax.at_ (t := 33) (off := 4) (k := 69) (Zmv) (hel 4 _ rfl) (by rw [hxl]; decide) rfl (by kernel_rfl) rfl
 have q4 : cs.drop 4 = Zh a4 ++ cs.drop 73 := by rw [Zbf 4 69, e4]
 obtain ⟨a5, e5, k5⟩ := Zax.at_ (t := 39) (off := 73) (k := 36) (Zuu) (hel 5 _ rfl) (by rw [hxl]; decide) rfl (by kernel_rfl) rfl
 have q5 : cs.drop 73 = Zee a5 ++ cs.drop 109 := by rw [Zbf 73 36, e5]
 have qe : cs.drop 109 = [] := List.drop_of_length_le (by omega)
 refine ⟨⟨a0, a1, a2, a3, a4, a5⟩, ?_, k0, k1, k2, k3, k4, k5, trivial⟩
 rw [List.drop_zero] at q0
 rw [q0, q1, q2, q3, q4, q5, qe]
 simp [Zc1]
def Znr (a b : Item) : Bool := ((a.epoch == b.epoch) && ((Zdk a.entry b.entry) && true))
theorem Z34 (a b : Item) {d : Nat} : Z3 Tryd.prog (Op.equalIn (d + 6) 43 (Zbq a) (Zbq b)) = some (Znr a b) :=
 eqS (P := Tryd.prog) (d + 5) 43 _ (Zr a).toArray (Zr b).toArray (fun f => if f.offset = 0 then (a.epoch == b.epoch) else if f.offset = 1 then (Zdk a.entry b.entry) else true) rfl (by kernel_rfl) (List.forall_mem_cons.2 ⟨⟨by decide, Iv a.epoch, Iv b.epoch, Zbc rfl rfl rfl, Zbc rfl rfl rfl, Zfx rfl⟩, List.forall_mem_cons.2 ⟨⟨by decide, Zcy a.entry, Zcy b.entry, Zcr (n := 109) rfl rfl rfl rfl rfl, Zcr (n := 109) rfl rfl rfl rfl rfl, Zpp a.entry b.entry⟩, fun _ h => absurd h (by simp)⟩⟩)
theorem Z1e {x y : Operand} (a b : Item) : Zb0 Tryd.prog .eql 43 x y (Zbq a) (Zbq b) = some (.bool (Znr a b)) := Zss (by kernel_rfl) (by kernel_rfl) (Z34 a b (d := 9994))
theorem Zt7 (a : Item) : Znr a a = true := by simp [Znr, Zcg, Zwl]
def okItem (a : Item) : Prop := (-9223372036854775808 ≤ a.epoch ∧ a.epoch ≤ 9223372036854775807) ∧ okEntry a.entry ∧ True
theorem Zw2 : Zax Tryd.prog 43 Zr okItem := by
 intro H encH W fuel cs x h
 obtain ⟨xs, n, _, _, hl, hxl, hel⟩ := DataW.trod_struct (P := Tryd.prog) (t := 43) (fs := _) rfl h
 have hl' : cs.length = 110 := hl.trans (by kernel_rfl)
 obtain ⟨a0, e0, k0⟩ := Zax.at_ (t := 3) (off := 0) (k := 1) (Zax.int (by kernel_rfl)) (hel 0 _ rfl) (by rw [hxl]; decide) rfl (by kernel_rfl) rfl
 have q0 : cs.drop 0 = [Iv a0] ++ cs.drop 1 := by rw [Zbf 0 1, e0]
 obtain ⟨a1, e1, k1⟩ := Zax.at_ (t := 41) (off := 1) (k := 109) (Zuv) (hel 1 _ rfl) (by rw [hxl]; decide) rfl (by kernel_rfl) rfl
 have q1 : cs.drop 1 = Zc1 a1 ++ cs.drop 110 := by rw [Zbf 1 109, e1]
 have qe : cs.drop 110 = [] := List.drop_of_length_le (by omega)
 refine ⟨⟨a0, a1⟩, ?_, k0, k1, trivial⟩
 rw [List.drop_zero] at q0
 rw [q0, q1, qe]
 simp [Zr]
end
theorem Za5 (n low high : Int) : Z9 Tryd.prog G 51 [Iv n, Iv low, Iv high] [] (.bool (Zdj n low high)) [] := by
 refine Zbu (fn := Tryd.f51) (nt := 15) rfl rfl rfl rfl ?_
 refine Ze (Zf (Zb (.bool false) (Za (Zc (Ze (Zf (Zd (Iv n) (Zd (Iv low) ?_))))))))
 by_cases h1 : low ≤ n
 refine Zj (vx := Iv n) (vy := Iv low) rfl rfl (.bool true) rfl rfl (Zgy (by omega)) ?_
 refine Zd (.bool true) (Zd (Iv n) (Zd (Iv high) ?_))
 by_cases h2 : n ≤ high
 refine Zj (vx := Iv n) (vy := Iv high) rfl rfl (.bool true) rfl rfl (Zup (by omega)) ?_
 refine Zl (.bool true) (Zb (.bool true) (Za (Zc (Zs (Zu ?_)))))
 rw [show Zdj n low high = true from Zb8 (by omega) (by omega)]
 exact Zm (v := .bool true) rfl rfl rfl (by kernel_rfl) rfl
 refine Zj (vx := Iv n) (vy := Iv high) rfl rfl (.bool false) rfl rfl (Zuo (by omega)) ?_
 refine Zl (.bool false) (Zb (.bool false) (Za (Zc (Zs (Zu ?_)))))
 rw [show Zdj n low high = false from Zao (by omega)]
 exact Zm (v := .bool false) rfl rfl rfl (by kernel_rfl) rfl
 refine Zj (vx := Iv n) (vy := Iv low) rfl rfl (.bool false) rfl rfl (Zhi (by omega)) ?_
 refine Zd (.bool false) (Zg (Zg (Zg (Zl (.bool false) (Zb (.bool false) (Za (Zc (Zs (Zu ?_)))))))))
 rw [show Zdj n low high = false from Zao (by omega)]
 exact Zm (v := .bool false) rfl rfl rfl (by kernel_rfl) rfl
theorem Zcc (b : Bool) : Z9 Tryd.prog G 70 [.bool b] [] (Iv (if b then 0 else 60)) [] := by
 refine Zbu (fn := Tryd.f70) (nt := 4) rfl rfl rfl rfl ?_
 refine Ze (Zf (Zb (Iv 0) (Za (Zc (Ze (Ze (Zf (Zd (.bool b) (Za (Zc ?_))))))))))
 rcases Bool.eq_false_or_eq_true b with h1 | h1
 refine Zv (congrArg Value.bool h1) (Ze (Zf (Zb (Iv 0) (Za (Zc (Zs (Zaa (Zu ?_))))))))
 rw [show (if b = true then (0 : Int) else 60) = 0 from by simp [*]]
 exact Zm (v := Iv 0) rfl rfl rfl (by kernel_rfl) rfl
 refine Zt (congrArg Value.bool h1) (Z0 (Zc (Ze (Zf (Zb (Iv 60) (Za (Zc (Zs (Zu ?_)))))))))
 rw [show (if b = true then (0 : Int) else 60) = 60 from by simp [*]]
 exact Zm (v := Iv 60) rfl rfl rfl (by kernel_rfl) rfl
theorem Zld (c : Claim) : Z9 Tryd.prog G 69 [Zes c] [] (Iv (Zfa c)) [] := by
 refine Zbu (fn := Tryd.f69) (nt := 22) rfl rfl rfl rfl ?_
 refine Zaj 1 (H' := [hole]) rfl ?_
 refine Ze (Zf (Zci (v := Zes c) (b := bxB 36 (Zee c)) (nid := 0) (H' := [bxB 36 (Zee c)]) (Zb (Iv 0) (Za (Zc (Ze (Zf (Zi (b := 0) (o := 0) (n := 0) (o' := 0) (Zn (p := pt 0 0) (v := Iv c.region) ?_)))))))))
 by_cases h1 : 1 ≤ c.region
 by_cases h2 : c.region ≤ 5
 refine Zp ((Za5 (G := G) c.region 1 5).res (congrArg Value.bool (Zb8 (by omega) (by omega)))) (vals := [Iv c.region, Iv 1, Iv 5]) (res' := .bool true) rfl rfl rfl rfl rfl rfl ?_
 refine Zd (.bool true) (Zi (b := 0) (o := 0) (n := 1) (o' := 1) (Zn (p := pt 0 1) (v := Iv c.epoch) ?_))
 by_cases h3 : 1 ≤ c.epoch
 by_cases h4 : c.epoch ≤ 900000000
 refine Zp ((Za5 (G := G) c.epoch 1 900000000).res (congrArg Value.bool (Zb8 (by omega) (by omega)))) (vals := [Iv c.epoch, Iv 1, Iv 900000000]) (res' := .bool true) rfl rfl rfl rfl rfl rfl ?_
 refine Zl (.bool true) (Zd (.bool true) (Zi (b := 0) (o := 0) (n := 2) (o' := 2) (Zn (p := pt 0 2) (v := Iv c.node) ?_)))
 by_cases h5 : 1 ≤ c.node
 by_cases h6 : c.node ≤ 3
 refine Zp ((Za5 (G := G) c.node 1 3).res (congrArg Value.bool (Zb8 (by omega) (by omega)))) (vals := [Iv c.node, Iv 1, Iv 3]) (res' := .bool true) rfl rfl rfl rfl rfl rfl ?_
 refine Zl (.bool true) (Zd (.bool true) (Zi (b := 0) (o := 0) (n := 3) (o' := 3) (Zn (p := pt 0 3) (v := Iv c.size) ?_)))
 by_cases h7 : 0 ≤ c.size
 by_cases h8 : c.size ≤ 100000
 refine Zp ((Za5 (G := G) c.size 0 100000).res (congrArg Value.bool (Zb8 (by omega) (by omega)))) (vals := [Iv c.size, Iv 0, Iv 100000]) (res' := .bool true) rfl rfl rfl rfl rfl rfl ?_
 refine Zl (.bool true) ?_
 refine Zp (Zcc (G := G) true) (vals := [.bool true]) (res' := Iv 0) rfl rfl rfl rfl rfl rfl ?_
 refine Zb (Iv 0) (Za (Zc (Zs (Zu ?_))))
 rw [show Zfa c = 0 from if_pos (by unfold Ze8; omega)]
 exact Zm (v := Iv 0) rfl rfl rfl (by kernel_rfl) rfl
 refine Zp ((Za5 (G := G) c.size 0 100000).res (congrArg Value.bool (Zao (by omega)))) (vals := [Iv c.size, Iv 0, Iv 100000]) (res' := .bool false) rfl rfl rfl rfl rfl rfl ?_
 refine Zl (.bool false) ?_
 refine Zp (Zcc (G := G) false) (vals := [.bool false]) (res' := Iv 60) rfl rfl rfl rfl rfl rfl ?_
 refine Zb (Iv 60) (Za (Zc (Zs (Zu ?_))))
 rw [show Zfa c = 60 from if_neg (by unfold Ze8; omega)]
 exact Zm (v := Iv 60) rfl rfl rfl (by kernel_rfl) rfl
 refine Zp ((Za5 (G := G) c.size 0 100000).res (congrArg Value.bool (Zao (by omega)))) (vals := [Iv c.size, Iv 0, Iv 100000]) (res' := .bool false) rfl rfl rfl rfl rfl rfl ?_
 refine Zl (.bool false) ?_
 refine Zp (Zcc (G := G) false) (vals := [.bool false]) (res' := Iv 60) rfl rfl rfl rfl rfl rfl ?_
 refine Zb (Iv 60) (Za (Zc (Zs (Zu ?_))))
 rw [show Zfa c = 60 from if_neg (by unfold Ze8; omega)]
 exact Zm (v := Iv 60) rfl rfl rfl (by kernel_rfl) rfl
 refine Zp ((Za5 (G := G) c.node 1 3).res (congrArg Value.bool (Zao (by omega)))) (vals := [Iv c.node, Iv 1, Iv 3]) (res' := .bool false) rfl rfl rfl rfl rfl rfl ?_
 refine Zl (.bool false) (Zd (.bool false) (Zg (Zg (Zg (Zl (.bool false) ?_)))))
 refine Zp (Zcc (G := G) false) (vals := [.bool false]) (res' := Iv 60) rfl rfl rfl rfl rfl rfl ?_
 refine Zb (Iv 60) (Za (Zc (Zs (Zu ?_))))
 rw [show Zfa c = 60 from if_neg (by unfold Ze8; omega)]
 exact Zm (v := Iv 60) rfl rfl rfl (by kernel_rfl) rfl
 refine Zp ((Za5 (G := G) c.node 1 3).res (congrArg Value.bool (Zao (by omega)))) (vals := [Iv c.node, Iv 1, Iv 3]) (res' := .bool false) rfl rfl rfl rfl rfl rfl ?_
 refine Zl (.bool false) (Zd (.bool false) (Zg (Zg (Zg (Zl (.bool false) ?_)))))
 refine Zp (Zcc (G := G) false) (vals := [.bool false]) (res' := Iv 60) rfl rfl rfl rfl rfl rfl ?_
 refine Zb (Iv 60) (Za (Zc (Zs (Zu ?_))))
 rw [show Zfa c = 60 from if_neg (by unfold Ze8; omega)]
 exact Zm (v := Iv 60) rfl rfl rfl (by kernel_rfl) rfl
 refine Zp ((Za5 (G := G) c.epoch 1 900000000).res (congrArg Value.bool (Zao (by omega)))) (vals := [Iv c.epoch, Iv 1, Iv 900000000]) (res' := .bool false) rfl rfl rfl rfl rfl rfl ?_
 refine Zl (.bool false) (Zd (.bool false) (Zg (Zg (Zg (Zl (.bool false) (Zd (.bool false) (Zg (Zg (Zg (Zl (.bool false) ?_))))))))))
 refine Zp (Zcc (G := G) false) (vals := [.bool false]) (res' := Iv 60) rfl rfl rfl rfl rfl rfl ?_
 refine Zb (Iv 60) (Za (Zc (Zs (Zu ?_))))
 rw [show Zfa c = 60 from if_neg (by unfold Ze8; omega)]
 exact Zm (v := Iv 60) rfl rfl rfl (by kernel_rfl) rfl
 refine Zp ((Za5 (G := G) c.epoch 1 900000000).res (congrArg Value.bool (Zao (by omega)))) (vals := [Iv c.epoch, Iv 1, Iv 900000000]) (res' := .bool false) rfl rfl rfl rfl rfl rfl ?_
 refine Zl (.bool false) (Zd (.bool false) (Zg (Zg (Zg (Zl (.bool false) (Zd (.bool false) (Zg (Zg (Zg (Zl (.bool false) ?_))))))))))
 refine Zp (Zcc (G := G) false) (vals := [.bool false]) (res' := Iv 60) rfl rfl rfl rfl rfl rfl ?_
 refine Zb (Iv 60) (Za (Zc (Zs (Zu ?_))))
 rw [show Zfa c = 60 from if_neg (by unfold Ze8; omega)]
 exact Zm (v := Iv 60) rfl rfl rfl (by kernel_rfl) rfl
 refine Zp ((Za5 (G := G) c.region 1 5).res (congrArg Value.bool (Zao (by omega)))) (vals := [Iv c.region, Iv 1, Iv 5]) (res' := .bool false) rfl rfl rfl rfl rfl rfl ?_
 refine Zd (.bool false) (Zg (Zg (Zg (Zl (.bool false) (Zd (.bool false) (Zg (Zg (Zg (Zl (.bool false) (Zd (.bool false) (Zg (Zg (Zg (Zl (.bool false) ?_))))))))))))))
 refine Zp (Zcc (G := G) false) (vals := [.bool false]) (res' := Iv 60) rfl rfl rfl rfl rfl rfl ?_
 refine Zb (Iv 60) (Za (Zc (Zs (Zu ?_))))
 rw [show Zfa c = 60 from if_neg (by unfold Ze8; omega)]
 exact Zm (v := Iv 60) rfl rfl rfl (by kernel_rfl) rfl
 refine Zp ((Za5 (G := G) c.region 1 5).res (congrArg Value.bool (Zao (by omega)))) (vals := [Iv c.region, Iv 1, Iv 5]) (res' := .bool false) rfl rfl rfl rfl rfl rfl ?_
 refine Zd (.bool false) (Zg (Zg (Zg (Zl (.bool false) (Zd (.bool false) (Zg (Zg (Zg (Zl (.bool false) (Zd (.bool false) (Zg (Zg (Zg (Zl (.bool false) ?_))))))))))))))
 refine Zp (Zcc (G := G) false) (vals := [.bool false]) (res' := Iv 60) rfl rfl rfl rfl rfl rfl ?_
 refine Zb (Iv 60) (Za (Zc (Zs (Zu ?_))))
 rw [show Zfa c = 60 from if_neg (by unfold Ze8; omega)]
 exact Zm (v := Iv 60) rfl rfl rfl (by kernel_rfl) rfl
end Go.Flat
namespace Go.Flat
open Go.Proofs
variable {G : Glob}
theorem Zly (n : Nat) (a b : D) : Zcg n a b = Zcg n b a := by
  cases h : Zcg n a b with
  | true => rw [Zk8] at h; exact (Zk8.2 h.symm).symm
  | false =>
    cases h' : Zcg n b a with
    | true => rw [Zk8] at h'; rw [Zk8.2 h'.symm] at h; cases h
    | false => rfl
theorem Zt5 (a b : Head) : Zj7 a b = Zj7 b a := by
 unfold Zj7; rw [BEq.comm (a := a.region), BEq.comm (a := a.epoch), BEq.comm (a := a.size), BEq.comm (a := a.tick), Zly]
theorem Zqy (a b : Signed) : Ze1 a b = Ze1 b a := by
 unfold Ze1; rw [Zt5, BEq.comm (a := a.node), Zly]
theorem Zsr (a b : Claim) : Zgh a b = Zgh b a := by
 unfold Zgh; rw [BEq.comm (a := a.region), BEq.comm (a := a.epoch), BEq.comm (a := a.node), BEq.comm (a := a.size), Zly]
def Zf1 (e : Entry) : Prop :=
  (e.kind = 1 ∧ 1 ≤ e.client ∧ e.client ≤ 3 ∧ 1 ≤ e.seq ∧ e.seq ≤ 1000000 ∧ e.text.size ≤ 200 ∧ Ze1 e.head ⟨⟨0, 0, 0, dz, 0⟩, 0, dz⟩ = true ∧ Zgh e.claim ⟨0, 0, 0, 0, dz⟩ = true) ∨
  (e.kind = 2 ∧ e.client = 0 ∧ e.seq = 0 ∧ e.text = ⟨#[]⟩ ∧ Zkd e.head ∧ Zgh e.claim ⟨0, 0, 0, 0, dz⟩ = true) ∨
  (e.kind = 3 ∧ e.client = 0 ∧ e.seq = 0 ∧ e.text = ⟨#[]⟩ ∧ Ze1 e.head ⟨⟨0, 0, 0, dz, 0⟩, 0, dz⟩ = true ∧ Ze8 e.claim)
instance (e : Entry) : Decidable (Zf1 e) := inferInstanceAs (Decidable (_ ∨ _))
def Ze0 (e : Entry) : Int := if Zf1 e then 0 else 60
theorem Ztx {e : Entry} (h : Ze0 e = 0) : Zf1 e := by
 unfold Ze0 at h
 split at h
 ·assumption
 ·omega
theorem Zj4 {e : Entry} (h : ¬ Ze0 e = 0) : ¬ Zf1 e := fun q => h (if_pos q)
def Zd1 (x : Item) : Prop := 1 ≤ x.epoch ∧ x.epoch ≤ 900000000 ∧ Zf1 x.entry
instance (x : Item) : Decidable (Zd1 x) := inferInstanceAs (Decidable (_ ∧ _))
theorem Ztu {h : Head} : Za7 h = 0 ↔ Zgd h := by
 rw [Zf7]; split <;> simp [*]
theorem Zb6 (e : Entry) : Zf1 e ↔ (
 (e.kind = 1 ∧ 1 ≤ e.client ∧ e.client ≤ 3 ∧ 1 ≤ e.seq ∧ e.seq ≤ 1000000 ∧ e.text.size ≤ 200 ∧ Zdk ⟨e.kind, e.client, e.seq, e.text, ⟨⟨0, 0, 0, dz, 0⟩, 0, dz⟩, ⟨0, 0, 0, 0, dz⟩⟩ e = true) ∨
 (e.kind = 2 ∧ Za7 e.head.head = 0 ∧ 1 ≤ e.head.node ∧ e.head.node ≤ 3 ∧ Zdk ⟨e.kind, 0, 0, ⟨#[]⟩, e.head, ⟨0, 0, 0, 0, dz⟩⟩ e = true) ∨
 (e.kind = 3 ∧ Zfa e.claim = 0 ∧ Zdk ⟨e.kind, 0, 0, ⟨#[]⟩, ⟨⟨0, 0, 0, dz, 0⟩, 0, dz⟩, e.claim⟩ e = true)) := by
 have hc : Zfa e.claim = 0 ↔ Ze8 e.claim := by unfold Zfa; split <;> simp [*]
 have hz : (⟨#[]⟩ : ByteArray) = e.text ↔ e.text = ⟨#[]⟩ := eq_comm
 have h1 : (0 : Int) = e.client ↔ e.client = 0 := eq_comm
 have h2 : (0 : Int) = e.seq ↔ e.seq = 0 := eq_comm
 have h3 : (1 : Int) = e.kind ↔ e.kind = 1 := eq_comm
 have h4 : (2 : Int) = e.kind ↔ e.kind = 2 := eq_comm
 have h5 : (3 : Int) = e.kind ↔ e.kind = 3 := eq_comm
 simp only [Zf1, Zdk, hc, Ztu, Zkd, Zij, Zmd, BEq.rfl, Bool.true_and, Bool.and_true, Bool.and_eq_true, beq_iff_eq, Zqy ⟨⟨0, 0, 0, dz, 0⟩, 0, dz⟩, Zsr ⟨0, 0, 0, 0, dz⟩, hz, h1, h2, h3, h4, h5, and_assoc, and_left_comm, and_comm]
theorem Zod (e : Entry) : Z9 Tryd.prog G 49 [Zcy e] [] (Iv (Ze0 e)) [] := by
  refine Zbu (fn := Tryd.f49) (nt := 67) rfl rfl rfl rfl ?_
  refine Zaj 2 (H' := [hole, hole]) rfl ?_
  refine Ze (Zf (Zci (v := Zcy e) (b := bxB 109 (Zc1 e)) (nid := 0) (H' := [bxB 109 (Zc1 e), hole]) (Zb (Iv 0) (Za (Zc (Ze (Zf (Zi (b := 0) (o := 0) (n := 0) (o' := 0) (Zn (p := pt 0 0) (v := Iv e.kind) ?_)))))))))
  refine Zbm (vs := [(0, Iv e.kind)]) (v := Zcy (⟨e.kind, 0, 0, ⟨#[]⟩, (⟨(⟨0, 0, 0, dz, 0⟩ : Head), 0, dz⟩ : Signed), (⟨0, 0, 0, 0, dz⟩ : Claim)⟩ : Entry)) rfl rfl rfl (by kernel_rfl) ?_
  refine Zai (b := bxB 109 (Zc1 (⟨0, 0, 0, ⟨#[]⟩, (⟨(⟨0, 0, 0, dz, 0⟩ : Head), 0, dz⟩ : Signed), (⟨0, 0, 0, 0, dz⟩ : Claim)⟩ : Entry))) (nid := 1) (H' := [bxB 109 (Zc1 e), bxB 109 (Zc1 (⟨0, 0, 0, ⟨#[]⟩, (⟨(⟨0, 0, 0, dz, 0⟩ : Head), 0, dz⟩ : Signed), (⟨0, 0, 0, 0, dz⟩ : Claim)⟩ : Entry))]) (Z2 (p := pt 1 0) (v := Zcy (⟨e.kind, 0, 0, ⟨#[]⟩, (⟨(⟨0, 0, 0, dz, 0⟩ : Head), 0, dz⟩ : Signed), (⟨0, 0, 0, 0, dz⟩ : Claim)⟩ : Entry)) (b := 1) (blk := bxB 109 (Zc1 (⟨e.kind, 0, 0, ⟨#[]⟩, (⟨(⟨0, 0, 0, dz, 0⟩ : Head), 0, dz⟩ : Signed), (⟨0, 0, 0, 0, dz⟩ : Claim)⟩ : Entry))) (H' := [bxB 109 (Zc1 e), bxB 109 (Zc1 (⟨e.kind, 0, 0, ⟨#[]⟩, (⟨(⟨0, 0, 0, dz, 0⟩ : Head), 0, dz⟩ : Signed), (⟨0, 0, 0, 0, dz⟩ : Claim)⟩ : Entry))]) (Za (Zc (Ze (Zf (Zb (.bool false) (Za (Zc (Ze (Ze (Zf (Zi (b := 0) (o := 0) (n := 0) (o' := 0) (Zn (p := pt 0 0) (v := Iv e.kind) (Za (Zc (Z5 (Ze (Zf ?_))))))))))))))))))
  by_cases h1 : e.kind = 1
  refine Zj (vx := Iv e.kind) (vy := Iv 1) rfl rfl (.bool true) rfl rfl (Zeb (by omega)) ?_
  refine Zb (.bool true) (Za (Zc (Zv rfl (Ze ?_))))
  refine Zer (by kernel_rfl) ?_
  refine Zi (b := 0) (o := 0) (n := 1) (o' := 1) (Zn (p := pt 0 1) (v := Iv e.client) (Zi (b := 0) (o := 0) (n := 2) (o' := 2) (Zn (p := pt 0 2) (v := Iv e.seq) (Zi (b := 0) (o := 0) (n := 3) (o' := 3) (Zn (p := pt 0 3) (v := .string e.text) (Zi (b := 1) (o := 0) (n := 1) (o' := 1) (Z2 (p := pt 1 1) (v := Iv e.client) (b := 1) (blk := bxB 109 (Zc1 (⟨e.kind, e.client, 0, ⟨#[]⟩, (⟨(⟨0, 0, 0, dz, 0⟩ : Head), 0, dz⟩ : Signed), (⟨0, 0, 0, 0, dz⟩ : Claim)⟩ : Entry))) (H' := [bxB 109 (Zc1 e), bxB 109 (Zc1 (⟨e.kind, e.client, 0, ⟨#[]⟩, (⟨(⟨0, 0, 0, dz, 0⟩ : Head), 0, dz⟩ : Signed), (⟨0, 0, 0, 0, dz⟩ : Claim)⟩ : Entry))]) (Zi (b := 1) (o := 0) (n := 2) (o' := 2) (Z2 (p := pt 1 2) (v := Iv e.seq) (b := 1) (blk := bxB 109 (Zc1 (⟨e.kind, e.client, e.seq, ⟨#[]⟩, (⟨(⟨0, 0, 0, dz, 0⟩ : Head), 0, dz⟩ : Signed), (⟨0, 0, 0, 0, dz⟩ : Claim)⟩ : Entry))) (H' := [bxB 109 (Zc1 e), bxB 109 (Zc1 (⟨e.kind, e.client, e.seq, ⟨#[]⟩, (⟨(⟨0, 0, 0, dz, 0⟩ : Head), 0, dz⟩ : Signed), (⟨0, 0, 0, 0, dz⟩ : Claim)⟩ : Entry))]) (Zi (b := 1) (o := 0) (n := 3) (o' := 3) (Z2 (p := pt 1 3) (v := .string e.text) (b := 1) (blk := bxB 109 (Zc1 (⟨e.kind, e.client, e.seq, e.text, (⟨(⟨0, 0, 0, dz, 0⟩ : Head), 0, dz⟩ : Signed), (⟨0, 0, 0, 0, dz⟩ : Claim)⟩ : Entry))) (H' := [bxB 109 (Zc1 e), bxB 109 (Zc1 (⟨e.kind, e.client, e.seq, e.text, (⟨(⟨0, 0, 0, dz, 0⟩ : Head), 0, dz⟩ : Signed), (⟨0, 0, 0, 0, dz⟩ : Claim)⟩ : Entry))]) ?_)))))))))))
  refine Zdq (Zis [[], [0], [], [2], [], [4], [0, 1], [0, 1, 6], [0, 1, 2, 3, 6, 7], [0, 1, 2, 3, 6, 7, 8], [0, 1, 2, 3, 4, 5, 6, 7, 8, 9], [0, 1, 2, 3, 4, 5, 6, 7, 8, 9, 10]] (by kernel_rfl) (by kernel_rfl)) ?_
  refine Zc (Zf (Zi (b := 1) (o := 0) (n := 1) (o' := 1) (Zn (p := pt 1 1) (v := Iv e.client) ?_)))
  by_cases h2 : 1 ≤ e.client
  by_cases h3 : e.client ≤ 3
  refine Zp ((Za5 (G := G) e.client 1 3).res (congrArg Value.bool (Zb8 (by omega) (by omega)))) (vals := [Iv e.client, Iv 1, Iv 3]) (res' := .bool true) rfl rfl rfl rfl rfl rfl ?_
  refine Zd (.bool true) (Zi (b := 1) (o := 0) (n := 2) (o' := 2) (Zn (p := pt 1 2) (v := Iv e.seq) ?_))
  by_cases h4 : 1 ≤ e.seq
  by_cases h5 : e.seq ≤ 1000000
  refine Zp ((Za5 (G := G) e.seq 1 1000000).res (congrArg Value.bool (Zb8 (by omega) (by omega)))) (vals := [Iv e.seq, Iv 1, Iv 1000000]) (res' := .bool true) rfl rfl rfl rfl rfl rfl ?_
  refine Zl (.bool true) (Zd (.bool true) (Zi (b := 1) (o := 0) (n := 3) (o' := 3) (Zn (p := pt 1 3) (v := .string e.text) (Zc3 (p := .string e.text) (v := Iv (e.text.size : Nat)) ?_))))
  by_cases h6 : (e.text.size : Nat) ≤ 200
  refine Zj (vx := Iv (e.text.size : Nat)) (vy := Iv 200) rfl rfl (.bool true) rfl rfl (Zup (by omega)) ?_
  refine Zl (.bool true) (Zb (.bool true) (Za (Zz (Zc (Ze (Zf (Zd (.bool true) (Zd (.bool true) (Zn (p := pt 1 0) (v := Zcy (⟨e.kind, e.client, e.seq, e.text, (⟨(⟨0, 0, 0, dz, 0⟩ : Head), 0, dz⟩ : Signed), (⟨0, 0, 0, 0, dz⟩ : Claim)⟩ : Entry)) (Zn (p := pt 0 0) (v := Zcy e) ?_))))))))))
  rcases Bool.eq_false_or_eq_true (Zdk (⟨e.kind, e.client, e.seq, e.text, (⟨(⟨0, 0, 0, dz, 0⟩ : Head), 0, dz⟩ : Signed), (⟨0, 0, 0, 0, dz⟩ : Claim)⟩ : Entry) e) with h7 | h7
  refine Zj (vx := Zcy (⟨e.kind, e.client, e.seq, e.text, (⟨(⟨0, 0, 0, dz, 0⟩ : Head), 0, dz⟩ : Signed), (⟨0, 0, 0, 0, dz⟩ : Claim)⟩ : Entry)) (vy := Zcy e) rfl rfl (.bool true) rfl rfl (Eq.trans (Zg8 (⟨e.kind, e.client, e.seq, e.text, (⟨(⟨0, 0, 0, dz, 0⟩ : Head), 0, dz⟩ : Signed), (⟨0, 0, 0, 0, dz⟩ : Claim)⟩ : Entry) e) (by rw [h7] <;> rfl)) ?_
  refine Zl (.bool true) ?_
  refine Zp (Zcc (G := G) true) (vals := [.bool true]) (res' := Iv 0) rfl rfl rfl rfl rfl rfl ?_
  refine Zb (Iv 0) (Za (Zc (Zs (Zu ?_))))
  rw [show Ze0 e = 0 from if_pos ((Zb6 e).2 (by first | exact .inl ⟨by omega, by omega, by omega, by omega, by omega, by omega, by assumption⟩ | exact .inr (.inl ⟨by omega, by omega, by omega, by omega, by assumption⟩) | exact .inr (.inr ⟨by omega, by omega, by assumption⟩)))]
  exact Zm (v := Iv 0) rfl rfl rfl (by kernel_rfl) rfl
  refine Zj (vx := Zcy (⟨e.kind, e.client, e.seq, e.text, (⟨(⟨0, 0, 0, dz, 0⟩ : Head), 0, dz⟩ : Signed), (⟨0, 0, 0, 0, dz⟩ : Claim)⟩ : Entry)) (vy := Zcy e) rfl rfl (.bool false) rfl rfl (Eq.trans (Zg8 (⟨e.kind, e.client, e.seq, e.text, (⟨(⟨0, 0, 0, dz, 0⟩ : Head), 0, dz⟩ : Signed), (⟨0, 0, 0, 0, dz⟩ : Claim)⟩ : Entry) e) (by rw [h7] <;> rfl)) ?_
  refine Zl (.bool false) ?_
  refine Zp (Zcc (G := G) false) (vals := [.bool false]) (res' := Iv 60) rfl rfl rfl rfl rfl rfl ?_
  refine Zb (Iv 60) (Za (Zc (Zs (Zu ?_))))
  rw [show Ze0 e = 60 from if_neg (fun q => by rcases (Zb6 e).1 q with q | q | q <;> first | omega | (exact absurd (by first | exact q.2.2.2.2.2.2 | exact q.2.2.2.2 | exact q.2.2) (Bool.eq_false_iff.1 (by assumption))))]
  exact Zm (v := Iv 60) rfl rfl rfl (by kernel_rfl) rfl
  refine Zj (vx := Iv (e.text.size : Nat)) (vy := Iv 200) rfl rfl (.bool false) rfl rfl (Zuo (by omega)) ?_
  refine Zl (.bool false) (Zb (.bool false) (Za (Zz (Zc (Ze (Zf (Zd (.bool false) (Zd (.bool false) (Zg (Zg (Zg (Zl (.bool false) ?_))))))))))))
  refine Zp (Zcc (G := G) false) (vals := [.bool false]) (res' := Iv 60) rfl rfl rfl rfl rfl rfl ?_
  refine Zb (Iv 60) (Za (Zc (Zs (Zu ?_))))
  rw [show Ze0 e = 60 from if_neg (fun q => by rcases (Zb6 e).1 q with q | q | q <;> first | omega | (exact absurd (by first | exact q.2.2.2.2.2.2 | exact q.2.2.2.2 | exact q.2.2) (Bool.eq_false_iff.1 (by assumption))))]
  exact Zm (v := Iv 60) rfl rfl rfl (by kernel_rfl) rfl
  refine Zp ((Za5 (G := G) e.seq 1 1000000).res (congrArg Value.bool (Zao (by omega)))) (vals := [Iv e.seq, Iv 1, Iv 1000000]) (res' := .bool false) rfl rfl rfl rfl rfl rfl ?_
  refine Zl (.bool false) (Zd (.bool false) (Zg (Zg (Zg (Zg (Zl (.bool false) (Zb (.bool false) (Za (Zz (Zc (Ze (Zf (Zd (.bool false) (Zd (.bool false) (Zg (Zg (Zg (Zl (.bool false) ?_))))))))))))))))))
  refine Zp (Zcc (G := G) false) (vals := [.bool false]) (res' := Iv 60) rfl rfl rfl rfl rfl rfl ?_
  refine Zb (Iv 60) (Za (Zc (Zs (Zu ?_))))
  rw [show Ze0 e = 60 from if_neg (fun q => by rcases (Zb6 e).1 q with q | q | q <;> first | omega | (exact absurd (by first | exact q.2.2.2.2.2.2 | exact q.2.2.2.2 | exact q.2.2) (Bool.eq_false_iff.1 (by assumption))))]
  exact Zm (v := Iv 60) rfl rfl rfl (by kernel_rfl) rfl
  refine Zp ((Za5 (G := G) e.seq 1 1000000).res (congrArg Value.bool (Zao (by omega)))) (vals := [Iv e.seq, Iv 1, Iv 1000000]) (res' := .bool false) rfl rfl rfl rfl rfl rfl ?_
  refine Zl (.bool false) (Zd (.bool false) (Zg (Zg (Zg (Zg (Zl (.bool false) (Zb (.bool false) (Za (Zz (Zc (Ze (Zf (Zd (.bool false) (Zd (.bool false) (Zg (Zg (Zg (Zl (.bool false) ?_))))))))))))))))))
  refine Zp (Zcc (G := G) false) (vals := [.bool false]) (res' := Iv 60) rfl rfl rfl rfl rfl rfl ?_
  refine Zb (Iv 60) (Za (Zc (Zs (Zu ?_))))
  rw [show Ze0 e = 60 from if_neg (fun q => by rcases (Zb6 e).1 q with q | q | q <;> first | omega | (exact absurd (by first | exact q.2.2.2.2.2.2 | exact q.2.2.2.2 | exact q.2.2) (Bool.eq_false_iff.1 (by assumption))))]
  exact Zm (v := Iv 60) rfl rfl rfl (by kernel_rfl) rfl
  refine Zp ((Za5 (G := G) e.client 1 3).res (congrArg Value.bool (Zao (by omega)))) (vals := [Iv e.client, Iv 1, Iv 3]) (res' := .bool false) rfl rfl rfl rfl rfl rfl ?_
  refine Zd (.bool false) (Zg (Zg (Zg (Zl (.bool false) (Zd (.bool false) (Zg (Zg (Zg (Zg (Zl (.bool false) (Zb (.bool false) (Za (Zz (Zc (Ze (Zf (Zd (.bool false) (Zd (.bool false) (Zg (Zg (Zg (Zl (.bool false) ?_))))))))))))))))))))))
  refine Zp (Zcc (G := G) false) (vals := [.bool false]) (res' := Iv 60) rfl rfl rfl rfl rfl rfl ?_
  refine Zb (Iv 60) (Za (Zc (Zs (Zu ?_))))
  rw [show Ze0 e = 60 from if_neg (fun q => by rcases (Zb6 e).1 q with q | q | q <;> first | omega | (exact absurd (by first | exact q.2.2.2.2.2.2 | exact q.2.2.2.2 | exact q.2.2) (Bool.eq_false_iff.1 (by assumption))))]
  exact Zm (v := Iv 60) rfl rfl rfl (by kernel_rfl) rfl
  refine Zp ((Za5 (G := G) e.client 1 3).res (congrArg Value.bool (Zao (by omega)))) (vals := [Iv e.client, Iv 1, Iv 3]) (res' := .bool false) rfl rfl rfl rfl rfl rfl ?_
  refine Zd (.bool false) (Zg (Zg (Zg (Zl (.bool false) (Zd (.bool false) (Zg (Zg (Zg (Zg (Zl (.bool false) (Zb (.bool false) (Za (Zz (Zc (Ze (Zf (Zd (.bool false) (Zd (.bool false) (Zg (Zg (Zg (Zl (.bool false) ?_))))))))))))))))))))))
  refine Zp (Zcc (G := G) false) (vals := [.bool false]) (res' := Iv 60) rfl rfl rfl rfl rfl rfl ?_
  refine Zb (Iv 60) (Za (Zc (Zs (Zu ?_))))
  rw [show Ze0 e = 60 from if_neg (fun q => by rcases (Zb6 e).1 q with q | q | q <;> first | omega | (exact absurd (by first | exact q.2.2.2.2.2.2 | exact q.2.2.2.2 | exact q.2.2) (Bool.eq_false_iff.1 (by assumption))))]
  exact Zm (v := Iv 60) rfl rfl rfl (by kernel_rfl) rfl
  refine Zj (vx := Iv e.kind) (vy := Iv 1) rfl rfl (.bool false) rfl rfl (Zgm (by omega)) ?_
  refine Zb (.bool false) (Za (Zc (Zt rfl (Ze (Zf ?_)))))
  by_cases h8 : e.kind = 2
  refine Zj (vx := Iv e.kind) (vy := Iv 2) rfl rfl (.bool true) rfl rfl (Zeb (by omega)) ?_
  refine Zb (.bool true) (Za (Zc (Zv rfl (Ze (Zf (Zi (b := 0) (o := 0) (n := 4) (o' := 4) (Zn (p := pt 0 4) (v := Zw e.head) (Zi (b := 1) (o := 0) (n := 4) (o' := 4) (Z2 (p := pt 1 4) (v := Zw e.head) (b := 1) (blk := bxB 109 (Zc1 (⟨e.kind, 0, 0, ⟨#[]⟩, e.head, (⟨0, 0, 0, 0, dz⟩ : Claim)⟩ : Entry))) (H' := [bxB 109 (Zc1 e), bxB 109 (Zc1 (⟨e.kind, 0, 0, ⟨#[]⟩, e.head, (⟨0, 0, 0, 0, dz⟩ : Claim)⟩ : Entry))]) (Za (Zc (Zf (Zi (b := 1) (o := 0) (n := 4) (o' := 4) (Zi (b := 1) (o := 4) (n := 0) (o' := 4) (Zn (p := pt 1 4) (v := Zb2 e.head.head) ?_)))))))))))))))
  refine Zp (Zo8 (G := G) e.head.head) (vals := [Zb2 e.head.head]) (res' := Iv (Za7 e.head.head)) rfl rfl rfl rfl rfl rfl ?_
  by_cases h9 : (Za7 e.head.head) = 0
  refine Zj (vx := Iv (Za7 e.head.head)) (vy := Iv 0) rfl rfl (.bool true) rfl rfl (Zeb (by omega)) ?_
  refine Zd (.bool true) (Zi (b := 1) (o := 0) (n := 4) (o' := 4) (Zi (b := 1) (o := 4) (n := 36) (o' := 40) (Zn (p := pt 1 40) (v := Iv e.head.node) ?_)))
  by_cases h10 : 1 ≤ e.head.node
  by_cases h11 : e.head.node ≤ 3
  refine Zp ((Za5 (G := G) e.head.node 1 3).res (congrArg Value.bool (Zb8 (by omega) (by omega)))) (vals := [Iv e.head.node, Iv 1, Iv 3]) (res' := .bool true) rfl rfl rfl rfl rfl rfl ?_
  refine Zl (.bool true) (Zb (.bool true) (Za (Zz (Zc (Ze (Zf (Zd (.bool true) (Zd (.bool true) (Zn (p := pt 1 0) (v := Zcy (⟨e.kind, 0, 0, ⟨#[]⟩, e.head, (⟨0, 0, 0, 0, dz⟩ : Claim)⟩ : Entry)) (Zn (p := pt 0 0) (v := Zcy e) ?_))))))))))
  rcases Bool.eq_false_or_eq_true (Zdk (⟨e.kind, 0, 0, ⟨#[]⟩, e.head, (⟨0, 0, 0, 0, dz⟩ : Claim)⟩ : Entry) e) with h12 | h12
  refine Zj (vx := Zcy (⟨e.kind, 0, 0, ⟨#[]⟩, e.head, (⟨0, 0, 0, 0, dz⟩ : Claim)⟩ : Entry)) (vy := Zcy e) rfl rfl (.bool true) rfl rfl (Eq.trans (Zg8 (⟨e.kind, 0, 0, ⟨#[]⟩, e.head, (⟨0, 0, 0, 0, dz⟩ : Claim)⟩ : Entry) e) (by rw [h12] <;> rfl)) ?_
  refine Zl (.bool true) ?_
  refine Zp (Zcc (G := G) true) (vals := [.bool true]) (res' := Iv 0) rfl rfl rfl rfl rfl rfl ?_
  refine Zb (Iv 0) (Za (Zc (Zs (Zu ?_))))
  rw [show Ze0 e = 0 from if_pos ((Zb6 e).2 (by first | exact .inl ⟨by omega, by omega, by omega, by omega, by omega, by omega, by assumption⟩ | exact .inr (.inl ⟨by omega, by omega, by omega, by omega, by assumption⟩) | exact .inr (.inr ⟨by omega, by omega, by assumption⟩)))]
  exact Zm (v := Iv 0) rfl rfl rfl (by kernel_rfl) rfl
  refine Zj (vx := Zcy (⟨e.kind, 0, 0, ⟨#[]⟩, e.head, (⟨0, 0, 0, 0, dz⟩ : Claim)⟩ : Entry)) (vy := Zcy e) rfl rfl (.bool false) rfl rfl (Eq.trans (Zg8 (⟨e.kind, 0, 0, ⟨#[]⟩, e.head, (⟨0, 0, 0, 0, dz⟩ : Claim)⟩ : Entry) e) (by rw [h12] <;> rfl)) ?_
  refine Zl (.bool false) ?_
  refine Zp (Zcc (G := G) false) (vals := [.bool false]) (res' := Iv 60) rfl rfl rfl rfl rfl rfl ?_
  refine Zb (Iv 60) (Za (Zc (Zs (Zu ?_))))
  rw [show Ze0 e = 60 from if_neg (fun q => by rcases (Zb6 e).1 q with q | q | q <;> first | omega | (exact absurd (by first | exact q.2.2.2.2.2.2 | exact q.2.2.2.2 | exact q.2.2) (Bool.eq_false_iff.1 (by assumption))))]
  exact Zm (v := Iv 60) rfl rfl rfl (by kernel_rfl) rfl
  refine Zp ((Za5 (G := G) e.head.node 1 3).res (congrArg Value.bool (Zao (by omega)))) (vals := [Iv e.head.node, Iv 1, Iv 3]) (res' := .bool false) rfl rfl rfl rfl rfl rfl ?_
  refine Zl (.bool false) (Zb (.bool false) (Za (Zz (Zc (Ze (Zf (Zd (.bool false) (Zd (.bool false) (Zg (Zg (Zg (Zl (.bool false) ?_))))))))))))
  refine Zp (Zcc (G := G) false) (vals := [.bool false]) (res' := Iv 60) rfl rfl rfl rfl rfl rfl ?_
  refine Zb (Iv 60) (Za (Zc (Zs (Zu ?_))))
  rw [show Ze0 e = 60 from if_neg (fun q => by rcases (Zb6 e).1 q with q | q | q <;> first | omega | (exact absurd (by first | exact q.2.2.2.2.2.2 | exact q.2.2.2.2 | exact q.2.2) (Bool.eq_false_iff.1 (by assumption))))]
  exact Zm (v := Iv 60) rfl rfl rfl (by kernel_rfl) rfl
  refine Zp ((Za5 (G := G) e.head.node 1 3).res (congrArg Value.bool (Zao (by omega)))) (vals := [Iv e.head.node, Iv 1, Iv 3]) (res' := .bool false) rfl rfl rfl rfl rfl rfl ?_
  refine Zl (.bool false) (Zb (.bool false) (Za (Zz (Zc (Ze (Zf (Zd (.bool false) (Zd (.bool false) (Zg (Zg (Zg (Zl (.bool false) ?_))))))))))))
  refine Zp (Zcc (G := G) false) (vals := [.bool false]) (res' := Iv 60) rfl rfl rfl rfl rfl rfl ?_
  refine Zb (Iv 60) (Za (Zc (Zs (Zu ?_))))
  rw [show Ze0 e = 60 from if_neg (fun q => by rcases (Zb6 e).1 q with q | q | q <;> first | omega | (exact absurd (by first | exact q.2.2.2.2.2.2 | exact q.2.2.2.2 | exact q.2.2) (Bool.eq_false_iff.1 (by assumption))))]
  exact Zm (v := Iv 60) rfl rfl rfl (by kernel_rfl) rfl
  refine Zj (vx := Iv (Za7 e.head.head)) (vy := Iv 0) rfl rfl (.bool false) rfl rfl (Zgm (by omega)) ?_
  refine Zd (.bool false) (Zg (Zg (Zg (Zg (Zl (.bool false) (Zb (.bool false) (Za (Zz (Zc (Ze (Zf (Zd (.bool false) (Zd (.bool false) (Zg (Zg (Zg (Zl (.bool false) ?_)))))))))))))))))
  refine Zp (Zcc (G := G) false) (vals := [.bool false]) (res' := Iv 60) rfl rfl rfl rfl rfl rfl ?_
  refine Zb (Iv 60) (Za (Zc (Zs (Zu ?_))))
  rw [show Ze0 e = 60 from if_neg (fun q => by rcases (Zb6 e).1 q with q | q | q <;> first | omega | (exact absurd (by first | exact q.2.2.2.2.2.2 | exact q.2.2.2.2 | exact q.2.2) (Bool.eq_false_iff.1 (by assumption))))]
  exact Zm (v := Iv 60) rfl rfl rfl (by kernel_rfl) rfl
  refine Zj (vx := Iv e.kind) (vy := Iv 2) rfl rfl (.bool false) rfl rfl (Zgm (by omega)) ?_
  refine Zb (.bool false) (Za (Zc (Zt rfl (Ze (Zf ?_)))))
  by_cases h13 : e.kind = 3
  refine Zj (vx := Iv e.kind) (vy := Iv 3) rfl rfl (.bool true) rfl rfl (Zeb (by omega)) ?_
  refine Zb (.bool true) (Za (Zc (Zv rfl (Ze (Zf (Zi (b := 0) (o := 0) (n := 73) (o' := 73) (Zn (p := pt 0 73) (v := Zes e.claim) (Zi (b := 1) (o := 0) (n := 73) (o' := 73) (Z2 (p := pt 1 73) (v := Zes e.claim) (b := 1) (blk := bxB 109 (Zc1 (⟨e.kind, 0, 0, ⟨#[]⟩, (⟨(⟨0, 0, 0, dz, 0⟩ : Head), 0, dz⟩ : Signed), e.claim⟩ : Entry))) (H' := [bxB 109 (Zc1 e), bxB 109 (Zc1 (⟨e.kind, 0, 0, ⟨#[]⟩, (⟨(⟨0, 0, 0, dz, 0⟩ : Head), 0, dz⟩ : Signed), e.claim⟩ : Entry))]) (Za (Zc (Zf (Zi (b := 1) (o := 0) (n := 73) (o' := 73) (Zn (p := pt 1 73) (v := Zes e.claim) ?_))))))))))))))
  refine Zp (Zld (G := G) e.claim) (vals := [Zes e.claim]) (res' := Iv (Zfa e.claim)) rfl rfl rfl rfl rfl rfl ?_
  by_cases h14 : (Zfa e.claim) = 0
  refine Zj (vx := Iv (Zfa e.claim)) (vy := Iv 0) rfl rfl (.bool true) rfl rfl (Zeb (by omega)) ?_
  refine Zb (.bool true) (Za (Zz (Zc (Ze (Zf (Zd (.bool true) (Zd (.bool true) (Zn (p := pt 1 0) (v := Zcy (⟨e.kind, 0, 0, ⟨#[]⟩, (⟨(⟨0, 0, 0, dz, 0⟩ : Head), 0, dz⟩ : Signed), e.claim⟩ : Entry)) (Zn (p := pt 0 0) (v := Zcy e) ?_)))))))))
  rcases Bool.eq_false_or_eq_true (Zdk (⟨e.kind, 0, 0, ⟨#[]⟩, (⟨(⟨0, 0, 0, dz, 0⟩ : Head), 0, dz⟩ : Signed), e.claim⟩ : Entry) e) with h15 | h15
  refine Zj (vx := Zcy (⟨e.kind, 0, 0, ⟨#[]⟩, (⟨(⟨0, 0, 0, dz, 0⟩ : Head), 0, dz⟩ : Signed), e.claim⟩ : Entry)) (vy := Zcy e) rfl rfl (.bool true) rfl rfl (Eq.trans (Zg8 (⟨e.kind, 0, 0, ⟨#[]⟩, (⟨(⟨0, 0, 0, dz, 0⟩ : Head), 0, dz⟩ : Signed), e.claim⟩ : Entry) e) (by rw [h15] <;> rfl)) ?_
  refine Zl (.bool true) ?_
  refine Zp (Zcc (G := G) true) (vals := [.bool true]) (res' := Iv 0) rfl rfl rfl rfl rfl rfl ?_
  refine Zb (Iv 0) (Za (Zc (Zs (Zu ?_))))
  rw [show Ze0 e = 0 from if_pos ((Zb6 e).2 (by first | exact .inl ⟨by omega, by omega, by omega, by omega, by omega, by omega, by assumption⟩ | exact .inr (.inl ⟨by omega, by omega, by omega, by omega, by assumption⟩) | exact .inr (.inr ⟨by omega, by omega, by assumption⟩)))]
  exact Zm (v := Iv 0) rfl rfl rfl (by kernel_rfl) rfl
  refine Zj (vx := Zcy (⟨e.kind, 0, 0, ⟨#[]⟩, (⟨(⟨0, 0, 0, dz, 0⟩ : Head), 0, dz⟩ : Signed), e.claim⟩ : Entry)) (vy := Zcy e) rfl rfl (.bool false) rfl rfl (Eq.trans (Zg8 (⟨e.kind, 0, 0, ⟨#[]⟩, (⟨(⟨0, 0, 0, dz, 0⟩ : Head), 0, dz⟩ : Signed), e.claim⟩ : Entry) e) (by rw [h15] <;> rfl)) ?_
  refine Zl (.bool false) ?_
  refine Zp (Zcc (G := G) false) (vals := [.bool false]) (res' := Iv 60) rfl rfl rfl rfl rfl rfl ?_
  refine Zb (Iv 60) (Za (Zc (Zs (Zu ?_))))
  rw [show Ze0 e = 60 from if_neg (fun q => by rcases (Zb6 e).1 q with q | q | q <;> first | omega | (exact absurd (by first | exact q.2.2.2.2.2.2 | exact q.2.2.2.2 | exact q.2.2) (Bool.eq_false_iff.1 (by assumption))))]
  exact Zm (v := Iv 60) rfl rfl rfl (by kernel_rfl) rfl
  refine Zj (vx := Iv (Zfa e.claim)) (vy := Iv 0) rfl rfl (.bool false) rfl rfl (Zgm (by omega)) ?_
  refine Zb (.bool false) (Za (Zz (Zc (Ze (Zf (Zd (.bool false) (Zd (.bool false) (Zg (Zg (Zg (Zl (.bool false) ?_)))))))))))
  refine Zp (Zcc (G := G) false) (vals := [.bool false]) (res' := Iv 60) rfl rfl rfl rfl rfl rfl ?_
  refine Zb (Iv 60) (Za (Zc (Zs (Zu ?_))))
  rw [show Ze0 e = 60 from if_neg (fun q => by rcases (Zb6 e).1 q with q | q | q <;> first | omega | (exact absurd (by first | exact q.2.2.2.2.2.2 | exact q.2.2.2.2 | exact q.2.2) (Bool.eq_false_iff.1 (by assumption))))]
  exact Zm (v := Iv 60) rfl rfl rfl (by kernel_rfl) rfl
  refine Zj (vx := Iv e.kind) (vy := Iv 3) rfl rfl (.bool false) rfl rfl (Zgm (by omega)) ?_
  refine Zb (.bool false) (Za (Zc (Zt rfl (Z0 (Zz (Zc (Ze (Zf (Zd (.bool false) (Zd (.bool false) (Zg (Zg (Zg (Zl (.bool false) ?_))))))))))))))
  refine Zp (Zcc (G := G) false) (vals := [.bool false]) (res' := Iv 60) rfl rfl rfl rfl rfl rfl ?_
  refine Zb (Iv 60) (Za (Zc (Zs (Zu ?_))))
  rw [show Ze0 e = 60 from if_neg (fun q => by rcases (Zb6 e).1 q with q | q | q <;> first | omega | (exact absurd (by first | exact q.2.2.2.2.2.2 | exact q.2.2.2.2 | exact q.2.2) (Bool.eq_false_iff.1 (by assumption))))]
  exact Zm (v := Iv 60) rfl rfl rfl (by kernel_rfl) rfl
end Go.Flat
