/- Walks. -/
import Derived.Test.YtoheeojjdpdljaaDoorH9
import Derived.Test.YtoheeojjdpdljaaDoorFlatG
set_option linter.unusedVariables false
set_option linter.unusedSimpArgs false
set_option maxRecDepth 20000
namespace Go.Flat
open Go.Proofs
variable {G : Glob}
instance : LawfulBEq ByteArray where
  eq_of_beq := by
    intro a b h
    obtain ⟨x⟩ := a; obtain ⟨y⟩ := b
    exact congrArg ByteArray.mk (eq_of_beq (show (x == y) = true from h))
  rfl := by
    intro a
    obtain ⟨x⟩ := a
    exact (BEq.rfl : (x == x) = true)
structure Claim where
  region : Int
  epoch : Int
  node : Int
  size : Int
  root : D
instance : Inhabited Claim := ⟨⟨0, 0, 0, 0, dz⟩⟩
def Zw (c : Claim) : List Value := [.int .i64 c.region, .int .i64 c.epoch, .int .i64 c.node, .int .i64 c.size] ++ Zbx w8 32 c.root
def Zz (c : Claim) : Value := .agg (Zw c).toArray
def Z6y : Cod Claim := ⟨Zw, 36, fun _ => rfl, by decide⟩
structure Entry where
  kind : Int
  client : Int
  seq : Int
  text : ByteArray
  head : Signed
  claim : Claim
def Z5l : Claim := ⟨0, 0, 0, 0, dz⟩
def Z3t : Entry := ⟨0, 0, 0, ⟨#[]⟩, Z3z, Z5l⟩
instance : Inhabited Entry := ⟨Z3t⟩
def Z2 (e : Entry) : List Value := [.int .i64 e.kind, .int .i64 e.client, .int .i64 e.seq, .string e.text] ++ (Z3 e.head ++ Zw e.claim)
def Zaz (e : Entry) : Value := .agg (Z2 e).toArray
def Z7k : Cod Entry := ⟨Z2, 109, fun _ => rfl, by decide⟩
structure Item where
  epoch : Int
  entry : Entry
instance : Inhabited Item := ⟨⟨0, Z3t⟩⟩
def Zab (x : Item) : List Value := .int .i64 x.epoch :: Z2 x.entry
def Za4 (x : Item) : Value := .agg (Zab x).toArray
def Z69 : Cod Item := ⟨Zab, 110, fun _ => rfl, by decide⟩
def Za8 (c : Claim) : Prop := (1 ≤ c.region ∧ c.region ≤ 5) ∧ (1 ≤ c.epoch ∧ c.epoch ≤ 900000000) ∧ (1 ≤ c.node ∧ c.node ≤ 3) ∧ (0 ≤ c.size ∧ c.size ≤ 100000)
instance (c : Claim) : Decidable (Za8 c) := inferInstanceAs (Decidable (_ ∧ _))
def Ze4 (c : Claim) : Int := if Za8 c then 0 else 60
theorem Zth {c : Claim} (h : Ze4 c = 0) : Za8 c := by
 unfold Ze4 at h
 split at h
 ·assumption
 ·omega
theorem Ztq {c : Claim} (h : ¬ Ze4 c = 0) : ¬ Za8 c := fun q => h (if_pos q)
section
open Go.ChangeShapes Go.WideShapes Go.RowKit
def Zdl (a b : Claim) : Bool := ((a.region == b.region) && ((a.epoch == b.epoch) && ((a.node == b.node) && ((a.size == b.size) && ((Zdd 32 a.root b.root) && true)))))
theorem Zpm (a b : Claim) {d : Nat} : Zam Tryd.prog (Op.equalIn (d + 3) 30 (Zz a) (Zz b)) = some (Zdl a b) :=
 eqS (P := Tryd.prog) (d + 2) 30 _ (Zw a).toArray (Zw b).toArray (fun f => if f.offset = 0 then (a.region == b.region) else if f.offset = 1 then (a.epoch == b.epoch) else if f.offset = 2 then (a.node == b.node) else if f.offset = 3 then (a.size == b.size) else if f.offset = 4 then (Zdd 32 a.root b.root) else true) rfl (by kernel_rfl) (List.forall_mem_cons.2 ⟨⟨by decide, Iv a.region, Iv b.region, Zbu rfl rfl rfl, Zbu rfl rfl rfl, Zf2 rfl⟩, List.forall_mem_cons.2 ⟨⟨by decide, Iv a.epoch, Iv b.epoch, Zbu rfl rfl rfl, Zbu rfl rfl rfl, Zf2 rfl⟩, List.forall_mem_cons.2 ⟨⟨by decide, Iv a.node, Iv b.node, Zbu rfl rfl rfl, Zbu rfl rfl rfl, Zf2 rfl⟩, List.forall_mem_cons.2 ⟨⟨by decide, Iv a.size, Iv b.size, Zbu rfl rfl rfl, Zbu rfl rfl rfl, Zf2 rfl⟩, List.forall_mem_cons.2 ⟨⟨by decide, .agg (Zbx w8 32 a.root).toArray, .agg (Zbx w8 32 b.root).toArray, Zc1 (n := 32) rfl rfl rfl rfl rfl, Zc1 (n := 32) rfl rfl rfl rfl rfl, Zpr rfl rfl rfl⟩, fun _ h => absurd h (by simp)⟩⟩⟩⟩⟩)
theorem Zi5 {x y : Operand} (a b : Claim) : Zcb Tryd.prog .eql 30 x y (Zz a) (Zz b) = some (.bool (Zdl a b)) := Zob (by kernel_rfl) (by kernel_rfl) (Zpm a b (d := 9997))
theorem Zx7 {x y : Operand} (a b : Claim) : Zcb Tryd.prog .neq 30 x y (Zz a) (Zz b) = some (.bool (!Zdl a b)) := Zso (by kernel_rfl) (by kernel_rfl) (Zpm a b (d := 9997))
theorem Zf4 (a : Claim) : Zdl a a = true := by simp [Zdl, Zdd]
def Z21 (a : Claim) : Prop := (-9223372036854775808 ≤ a.region ∧ a.region ≤ 9223372036854775807) ∧ (-9223372036854775808 ≤ a.epoch ∧ a.epoch ≤ 9223372036854775807) ∧ (-9223372036854775808 ≤ a.node ∧ a.node ≤ 9223372036854775807) ∧ (-9223372036854775808 ≤ a.size ∧ a.size ≤ 9223372036854775807) ∧ True ∧ True
def Zfp (a b : Entry) : Bool := ((a.kind == b.kind) && ((a.client == b.client) && ((a.seq == b.seq) && ((a.text == b.text) && ((Zcm a.head b.head) && ((Zdl a.claim b.claim) && true))))))
theorem Zox (a b : Entry) {d : Nat} : Zam Tryd.prog (Op.equalIn (d + 5) 32 (Zaz a) (Zaz b)) = some (Zfp a b) :=
 eqS (P := Tryd.prog) (d + 4) 32 _ (Z2 a).toArray (Z2 b).toArray (fun f => if f.offset = 0 then (a.kind == b.kind) else if f.offset = 1 then (a.client == b.client) else if f.offset = 2 then (a.seq == b.seq) else if f.offset = 3 then (a.text == b.text) else if f.offset = 4 then (Zcm a.head b.head) else if f.offset = 73 then (Zdl a.claim b.claim) else true) rfl (by kernel_rfl) (List.forall_mem_cons.2 ⟨⟨by decide, Iv a.kind, Iv b.kind, Zbu rfl rfl rfl, Zbu rfl rfl rfl, Zf2 rfl⟩, List.forall_mem_cons.2 ⟨⟨by decide, Iv a.client, Iv b.client, Zbu rfl rfl rfl, Zbu rfl rfl rfl, Zf2 rfl⟩, List.forall_mem_cons.2 ⟨⟨by decide, Iv a.seq, Iv b.seq, Zbu rfl rfl rfl, Zbu rfl rfl rfl, Zf2 rfl⟩, List.forall_mem_cons.2 ⟨⟨by decide, .string a.text, .string b.text, Zbu rfl rfl rfl, Zbu rfl rfl rfl, Zy1 rfl⟩, List.forall_mem_cons.2 ⟨⟨by decide, Zaa a.head, Zaa b.head, Zc1 (n := 69) rfl rfl rfl rfl rfl, Zc1 (n := 69) rfl rfl rfl rfl rfl, Zqq a.head b.head⟩, List.forall_mem_cons.2 ⟨⟨by decide, Zz a.claim, Zz b.claim, Zc1 (n := 36) rfl rfl rfl rfl rfl, Zc1 (n := 36) rfl rfl rfl rfl rfl, Zpm a.claim b.claim⟩, fun _ h => absurd h (by simp)⟩⟩⟩⟩⟩⟩)
theorem Zhn {x y : Operand} (a b : Entry) : Zcb Tryd.prog .eql 32 x y (Zaz a) (Zaz b) = some (.bool (Zfp a b)) := Zob (by kernel_rfl) (by kernel_rfl) (Zox a b (d := 9995))
theorem Zyq {x y : Operand} (a b : Entry) : Zcb Tryd.prog .neq 32 x y (Zaz a) (Zaz b) = some (.bool (!Zfp a b)) := Zso (by kernel_rfl) (by kernel_rfl) (Zox a b (d := 9995))
theorem Zo6 (a : Entry) : Zfp a a = true := by simp [Zfp, Zdd, Zgv, Zf4]
def Z25 (a : Entry) : Prop := (-9223372036854775808 ≤ a.kind ∧ a.kind ≤ 9223372036854775807) ∧ (-9223372036854775808 ≤ a.client ∧ a.client ≤ 9223372036854775807) ∧ (-9223372036854775808 ≤ a.seq ∧ a.seq ≤ 9223372036854775807) ∧ (a.text.size ≤ maxLen) ∧ Z0n a.head ∧ Z21 a.claim ∧ True
def Zj6 (a b : Item) : Bool := ((a.epoch == b.epoch) && ((Zfp a.entry b.entry) && true))
theorem Zw3 (a b : Item) {d : Nat} : Zam Tryd.prog (Op.equalIn (d + 6) 43 (Za4 a) (Za4 b)) = some (Zj6 a b) :=
 eqS (P := Tryd.prog) (d + 5) 43 _ (Zab a).toArray (Zab b).toArray (fun f => if f.offset = 0 then (a.epoch == b.epoch) else if f.offset = 1 then (Zfp a.entry b.entry) else true) rfl (by kernel_rfl) (List.forall_mem_cons.2 ⟨⟨by decide, Iv a.epoch, Iv b.epoch, Zbu rfl rfl rfl, Zbu rfl rfl rfl, Zf2 rfl⟩, List.forall_mem_cons.2 ⟨⟨by decide, Zaz a.entry, Zaz b.entry, Zc1 (n := 109) rfl rfl rfl rfl rfl, Zc1 (n := 109) rfl rfl rfl rfl rfl, Zox a.entry b.entry⟩, fun _ h => absurd h (by simp)⟩⟩)
theorem Z0s {x y : Operand} (a b : Item) : Zcb Tryd.prog .eql 43 x y (Za4 a) (Za4 b) = some (.bool (Zj6 a b)) := Zob (by kernel_rfl) (by kernel_rfl) (Zw3 a b (d := 9994))
theorem Zzj {x y : Operand} (a b : Item) : Zcb Tryd.prog .neq 43 x y (Za4 a) (Za4 b) = some (.bool (!Zj6 a b)) := Zso (by kernel_rfl) (by kernel_rfl) (Zw3 a b (d := 9994))
theorem Zus (a : Item) : Zj6 a a = true := by simp [Zj6, Zdd, Zo6]
def Z6b (a : Item) : Prop := (-9223372036854775808 ≤ a.epoch ∧ a.epoch ≤ 9223372036854775807) ∧ Z25 a.entry ∧ True
end
theorem Zbl (n low high : Int) : Zao Tryd.prog G 33 [Iv n, Iv low, Iv high] [] (.bool (Zc3 n low high)) [] := by
 refine Zbv (fn := Tryd.f33) (nt := 15) rfl rfl rfl rfl ?_
 refine Zg (Zi (Zb rfl rfl (.bool false) rfl (Za (Zc (Zg (Zi (Zd rfl rfl (Iv n) rfl (Zd rfl rfl (Iv low) rfl ?_))))))))
 by_cases h1 : low ≤ n
 refine Zn (vx := Iv n) (vy := Iv low) rfl rfl (.bool true) rfl rfl (Zq2 (by omega)) ?_
 refine Zd rfl rfl (.bool true) rfl (Zd rfl rfl (Iv n) rfl (Zd rfl rfl (Iv high) rfl ?_))
 by_cases h2 : n ≤ high
 refine Zn (vx := Iv n) (vy := Iv high) rfl rfl (.bool true) rfl rfl (Zmf (by omega)) ?_
 refine Zk rfl rfl (.bool true) rfl (Zb rfl rfl (.bool true) rfl (Za (Zc (Zv (Zu ?_)))))
 rw [show Zc3 n low high = true from Zbg (by omega) (by omega)]
 exact Zm (v := .bool true) rfl rfl rfl (by kernel_rfl) rfl
 refine Zn (vx := Iv n) (vy := Iv high) rfl rfl (.bool false) rfl rfl (Zk8 (by omega)) ?_
 refine Zk rfl rfl (.bool false) rfl (Zb rfl rfl (.bool false) rfl (Za (Zc (Zv (Zu ?_)))))
 rw [show Zc3 n low high = false from Zah (by omega)]
 exact Zm (v := .bool false) rfl rfl rfl (by kernel_rfl) rfl
 refine Zn (vx := Iv n) (vy := Iv low) rfl rfl (.bool false) rfl rfl (Zrb (by omega)) ?_
 refine Zd rfl rfl (.bool false) rfl (Zf rfl rfl (Zf rfl rfl (Zf rfl rfl (Zk rfl rfl (.bool false) rfl (Zb rfl rfl (.bool false) rfl (Za (Zc (Zv (Zu ?_)))))))))
 rw [show Zc3 n low high = false from Zah (by omega)]
 exact Zm (v := .bool false) rfl rfl rfl (by kernel_rfl) rfl
theorem Zbn (n low high : Int) : Zao Tryd.prog G 63 [Iv n, Iv low, Iv high] [] (.bool (Zc3 n low high)) [] := by
 refine Zbv (fn := Tryd.f63) (nt := 15) rfl rfl rfl rfl ?_
 refine Zg (Zi (Zb rfl rfl (.bool false) rfl (Za (Zc (Zg (Zi (Zd rfl rfl (Iv n) rfl (Zd rfl rfl (Iv low) rfl ?_))))))))
 by_cases h1 : low ≤ n
 refine Zn (vx := Iv n) (vy := Iv low) rfl rfl (.bool true) rfl rfl (Zq2 (by omega)) ?_
 refine Zd rfl rfl (.bool true) rfl (Zd rfl rfl (Iv n) rfl (Zd rfl rfl (Iv high) rfl ?_))
 by_cases h2 : n ≤ high
 refine Zn (vx := Iv n) (vy := Iv high) rfl rfl (.bool true) rfl rfl (Zmf (by omega)) ?_
 refine Zk rfl rfl (.bool true) rfl (Zb rfl rfl (.bool true) rfl (Za (Zc (Zv (Zu ?_)))))
 rw [show Zc3 n low high = true from Zbg (by omega) (by omega)]
 exact Zm (v := .bool true) rfl rfl rfl (by kernel_rfl) rfl
 refine Zn (vx := Iv n) (vy := Iv high) rfl rfl (.bool false) rfl rfl (Zk8 (by omega)) ?_
 refine Zk rfl rfl (.bool false) rfl (Zb rfl rfl (.bool false) rfl (Za (Zc (Zv (Zu ?_)))))
 rw [show Zc3 n low high = false from Zah (by omega)]
 exact Zm (v := .bool false) rfl rfl rfl (by kernel_rfl) rfl
 refine Zn (vx := Iv n) (vy := Iv low) rfl rfl (.bool false) rfl rfl (Zrb (by omega)) ?_
 refine Zd rfl rfl (.bool false) rfl (Zf rfl rfl (Zf rfl rfl (Zf rfl rfl (Zk rfl rfl (.bool false) rfl (Zb rfl rfl (.bool false) rfl (Za (Zc (Zv (Zu ?_)))))))))
 rw [show Zc3 n low high = false from Zah (by omega)]
 exact Zm (v := .bool false) rfl rfl rfl (by kernel_rfl) rfl
theorem Zcu (b : Bool) : Zao Tryd.prog G 36 [.bool b] [] (Iv (if b then 0 else 60)) [] := by
 refine Zbv (fn := Tryd.f36) (nt := 4) rfl rfl rfl rfl ?_
 refine Zg (Zi (Zb rfl rfl (Iv 0) rfl (Za (Zc (Zg (Zg (Zi (Zd rfl rfl (.bool b) rfl (Za (Zc ?_))))))))))
 rcases Bool.eq_false_or_eq_true b with h1 | h1
 refine Z0 (congrArg Value.bool h1) (Zg (Zi (Zb rfl rfl (Iv 0) rfl (Za (Zc (Zv (Z5 (Zu ?_))))))))
 rw [show (if b = true then (0 : Int) else 60) = 0 from by simp [*]]
 exact Zm (v := Iv 0) rfl rfl rfl (by kernel_rfl) rfl
 refine Zx (congrArg Value.bool h1) (Zai (Zc (Zg (Zi (Zb rfl rfl (Iv 60) rfl (Za (Zc (Zv (Zu ?_)))))))))
 rw [show (if b = true then (0 : Int) else 60) = 60 from by simp [*]]
 exact Zm (v := Iv 60) rfl rfl rfl (by kernel_rfl) rfl
theorem Zgw (c : Claim) : Zao Tryd.prog G 35 [Zz c] [] (Iv (Ze4 c)) [] := by
 refine Zbv (fn := Tryd.f35) (nt := 22) rfl rfl rfl rfl ?_
 refine Zat 1 (H' := [hole]) rfl ?_
 refine Zg (Zi ?_)
 refine Zel (v := Zz c) (b := bxB 36 (Zw c)) (nid := 0) (H' := [bxB 36 (Zw c)]) rfl rfl rfl (by kernel_rfl) (by kernel_rfl) ?_
 refine Zb rfl rfl (Iv 0) rfl (Za (Zc (Zg (Zi ?_))))
 refine Zj (b := 0) (o := 0) (n := 0) (o' := 0) rfl rfl rfl rfl rfl ?_
 refine Zo (p := pt 0 0) (v := Iv c.region) rfl rfl rfl (by kernel_rfl) ?_
 by_cases h1 : 1 ≤ c.region
 by_cases h2 : c.region ≤ 5
 refine Zs ((Zbl (G := G) c.region 1 5).res (congrArg Value.bool (Zbg (by omega) (by omega)))) (vals := [Iv c.region, Iv 1, Iv 5]) (res' := .bool true) rfl rfl rfl rfl rfl rfl ?_
 refine Zd rfl rfl (.bool true) rfl ?_
 refine Zj (b := 0) (o := 0) (n := 1) (o' := 1) rfl rfl rfl rfl rfl ?_
 refine Zo (p := pt 0 1) (v := Iv c.epoch) rfl rfl rfl (by kernel_rfl) ?_
 by_cases h3 : 1 ≤ c.epoch
 by_cases h4 : c.epoch ≤ 900000000
 refine Zs ((Zbl (G := G) c.epoch 1 900000000).res (congrArg Value.bool (Zbg (by omega) (by omega)))) (vals := [Iv c.epoch, Iv 1, Iv 900000000]) (res' := .bool true) rfl rfl rfl rfl rfl rfl ?_
 refine Zk rfl rfl (.bool true) rfl (Zd rfl rfl (.bool true) rfl ?_)
 refine Zj (b := 0) (o := 0) (n := 2) (o' := 2) rfl rfl rfl rfl rfl ?_
 refine Zo (p := pt 0 2) (v := Iv c.node) rfl rfl rfl (by kernel_rfl) ?_
 by_cases h5 : 1 ≤ c.node
 by_cases h6 : c.node ≤ 3
 refine Zs ((Zbl (G := G) c.node 1 3).res (congrArg Value.bool (Zbg (by omega) (by omega)))) (vals := [Iv c.node, Iv 1, Iv 3]) (res' := .bool true) rfl rfl rfl rfl rfl rfl ?_
 refine Zk rfl rfl (.bool true) rfl (Zd rfl rfl (.bool true) rfl ?_)
 refine Zj (b := 0) (o := 0) (n := 3) (o' := 3) rfl rfl rfl rfl rfl ?_
 refine Zo (p := pt 0 3) (v := Iv c.size) rfl rfl rfl (by kernel_rfl) ?_
 by_cases h7 : 0 ≤ c.size
 by_cases h8 : c.size ≤ 100000
 refine Zs ((Zbl (G := G) c.size 0 100000).res (congrArg Value.bool (Zbg (by omega) (by omega)))) (vals := [Iv c.size, Iv 0, Iv 100000]) (res' := .bool true) rfl rfl rfl rfl rfl rfl ?_
 refine Zk rfl rfl (.bool true) rfl ?_
 refine Zs (Zcu (G := G) true) (vals := [.bool true]) (res' := Iv 0) rfl rfl rfl rfl rfl rfl ?_
 refine Zb rfl rfl (Iv 0) rfl (Za (Zc (Zv (Zu ?_))))
 rw [show Ze4 c = 0 from if_pos (by unfold Za8; omega)]
 exact Zm (v := Iv 0) rfl rfl rfl (by kernel_rfl) rfl
 refine Zs ((Zbl (G := G) c.size 0 100000).res (congrArg Value.bool (Zah (by omega)))) (vals := [Iv c.size, Iv 0, Iv 100000]) (res' := .bool false) rfl rfl rfl rfl rfl rfl ?_
 refine Zk rfl rfl (.bool false) rfl ?_
 refine Zs (Zcu (G := G) false) (vals := [.bool false]) (res' := Iv 60) rfl rfl rfl rfl rfl rfl ?_
 refine Zb rfl rfl (Iv 60) rfl (Za (Zc (Zv (Zu ?_))))
 rw [show Ze4 c = 60 from if_neg (by unfold Za8; omega)]
 exact Zm (v := Iv 60) rfl rfl rfl (by kernel_rfl) rfl
 refine Zs ((Zbl (G := G) c.size 0 100000).res (congrArg Value.bool (Zah (by omega)))) (vals := [Iv c.size, Iv 0, Iv 100000]) (res' := .bool false) rfl rfl rfl rfl rfl rfl ?_
 refine Zk rfl rfl (.bool false) rfl ?_
 refine Zs (Zcu (G := G) false) (vals := [.bool false]) (res' := Iv 60) rfl rfl rfl rfl rfl rfl ?_
 refine Zb rfl rfl (Iv 60) rfl (Za (Zc (Zv (Zu ?_))))
 rw [show Ze4 c = 60 from if_neg (by unfold Za8; omega)]
 exact Zm (v := Iv 60) rfl rfl rfl (by kernel_rfl) rfl
 refine Zs ((Zbl (G := G) c.node 1 3).res (congrArg Value.bool (Zah (by omega)))) (vals := [Iv c.node, Iv 1, Iv 3]) (res' := .bool false) rfl rfl rfl rfl rfl rfl ?_
 refine Zk rfl rfl (.bool false) rfl (Zd rfl rfl (.bool false) rfl (Zf rfl rfl (Zf rfl rfl (Zf rfl rfl (Zk rfl rfl (.bool false) rfl ?_)))))
 refine Zs (Zcu (G := G) false) (vals := [.bool false]) (res' := Iv 60) rfl rfl rfl rfl rfl rfl ?_
 refine Zb rfl rfl (Iv 60) rfl (Za (Zc (Zv (Zu ?_))))
 rw [show Ze4 c = 60 from if_neg (by unfold Za8; omega)]
 exact Zm (v := Iv 60) rfl rfl rfl (by kernel_rfl) rfl
 refine Zs ((Zbl (G := G) c.node 1 3).res (congrArg Value.bool (Zah (by omega)))) (vals := [Iv c.node, Iv 1, Iv 3]) (res' := .bool false) rfl rfl rfl rfl rfl rfl ?_
 refine Zk rfl rfl (.bool false) rfl (Zd rfl rfl (.bool false) rfl (Zf rfl rfl (Zf rfl rfl (Zf rfl rfl (Zk rfl rfl (.bool false) rfl ?_)))))
 refine Zs (Zcu (G := G) false) (vals := [.bool false]) (res' := Iv 60) rfl rfl rfl rfl rfl rfl ?_
 refine Zb rfl rfl (Iv 60) rfl (Za (Zc (Zv (Zu ?_))))
 rw [show Ze4 c = 60 from if_neg (by unfold Za8; omega)]
 exact Zm (v := Iv 60) rfl rfl rfl (by kernel_rfl) rfl
 refine Zs ((Zbl (G := G) c.epoch 1 900000000).res (congrArg Value.bool (Zah (by omega)))) (vals := [Iv c.epoch, Iv 1, Iv 900000000]) (res' := .bool false) rfl rfl rfl rfl rfl rfl ?_
 refine Zk rfl rfl (.bool false) rfl (Zd rfl rfl (.bool false) rfl (Zf rfl rfl (Zf rfl rfl (Zf rfl rfl (Zk rfl rfl (.bool false) rfl (Zd rfl rfl (.bool false) rfl (Zf rfl rfl (Zf rfl rfl (Zf rfl rfl (Zk rfl rfl (.bool false) rfl ?_))))))))))
 refine Zs (Zcu (G := G) false) (vals := [.bool false]) (res' := Iv 60) rfl rfl rfl rfl rfl rfl ?_
 refine Zb rfl rfl (Iv 60) rfl (Za (Zc (Zv (Zu ?_))))
 rw [show Ze4 c = 60 from if_neg (by unfold Za8; omega)]
 exact Zm (v := Iv 60) rfl rfl rfl (by kernel_rfl) rfl
 refine Zs ((Zbl (G := G) c.epoch 1 900000000).res (congrArg Value.bool (Zah (by omega)))) (vals := [Iv c.epoch, Iv 1, Iv 900000000]) (res' := .bool false) rfl rfl rfl rfl rfl rfl ?_
 refine Zk rfl rfl (.bool false) rfl (Zd rfl rfl (.bool false) rfl (Zf rfl rfl (Zf rfl rfl (Zf rfl rfl (Zk rfl rfl (.bool false) rfl (Zd rfl rfl (.bool false) rfl (Zf rfl rfl (Zf rfl rfl (Zf rfl rfl (Zk rfl rfl (.bool false) rfl ?_))))))))))
 refine Zs (Zcu (G := G) false) (vals := [.bool false]) (res' := Iv 60) rfl rfl rfl rfl rfl rfl ?_
 refine Zb rfl rfl (Iv 60) rfl (Za (Zc (Zv (Zu ?_))))
 rw [show Ze4 c = 60 from if_neg (by unfold Za8; omega)]
 exact Zm (v := Iv 60) rfl rfl rfl (by kernel_rfl) rfl
 refine Zs ((Zbl (G := G) c.region 1 5).res (congrArg Value.bool (Zah (by omega)))) (vals := [Iv c.region, Iv 1, Iv 5]) (res' := .bool false) rfl rfl rfl rfl rfl rfl ?_
 refine Zd rfl rfl (.bool false) rfl (Zf rfl rfl (Zf rfl rfl (Zf rfl rfl (Zk rfl rfl (.bool false) rfl (Zd rfl rfl (.bool false) rfl (Zf rfl rfl (Zf rfl rfl (Zf rfl rfl (Zk rfl rfl (.bool false) rfl (Zd rfl rfl (.bool false) rfl (Zf rfl rfl (Zf rfl rfl (Zf rfl rfl (Zk rfl rfl (.bool false) rfl ?_))))))))))))))
 refine Zs (Zcu (G := G) false) (vals := [.bool false]) (res' := Iv 60) rfl rfl rfl rfl rfl rfl ?_
 refine Zb rfl rfl (Iv 60) rfl (Za (Zc (Zv (Zu ?_))))
 rw [show Ze4 c = 60 from if_neg (by unfold Za8; omega)]
 exact Zm (v := Iv 60) rfl rfl rfl (by kernel_rfl) rfl
 refine Zs ((Zbl (G := G) c.region 1 5).res (congrArg Value.bool (Zah (by omega)))) (vals := [Iv c.region, Iv 1, Iv 5]) (res' := .bool false) rfl rfl rfl rfl rfl rfl ?_
 refine Zd rfl rfl (.bool false) rfl (Zf rfl rfl (Zf rfl rfl (Zf rfl rfl (Zk rfl rfl (.bool false) rfl (Zd rfl rfl (.bool false) rfl (Zf rfl rfl (Zf rfl rfl (Zf rfl rfl (Zk rfl rfl (.bool false) rfl (Zd rfl rfl (.bool false) rfl (Zf rfl rfl (Zf rfl rfl (Zf rfl rfl (Zk rfl rfl (.bool false) rfl ?_))))))))))))))
 refine Zs (Zcu (G := G) false) (vals := [.bool false]) (res' := Iv 60) rfl rfl rfl rfl rfl rfl ?_
 refine Zb rfl rfl (Iv 60) rfl (Za (Zc (Zv (Zu ?_))))
 rw [show Ze4 c = 60 from if_neg (by unfold Za8; omega)]
 exact Zm (v := Iv 60) rfl rfl rfl (by kernel_rfl) rfl
theorem Zl4 (c : Claim) : Zao Tryd.prog G 53 [Zz c] [] (.bool (decide (Za8 c))) [] := by
 refine Zbv (fn := Tryd.f53) (nt := 21) rfl rfl rfl rfl ?_
 refine Zat 1 (H' := [hole]) rfl ?_
 refine Zg (Zi ?_)
 refine Zel (v := Zz c) (b := bxB 36 (Zw c)) (nid := 0) (H' := [bxB 36 (Zw c)]) rfl rfl rfl (by kernel_rfl) (by kernel_rfl) ?_
 refine Zb rfl rfl (.bool false) rfl (Za (Zc (Zg (Zi ?_))))
 refine Zj (b := 0) (o := 0) (n := 0) (o' := 0) rfl rfl rfl rfl rfl ?_
 refine Zo (p := pt 0 0) (v := Iv c.region) rfl rfl rfl (by kernel_rfl) ?_
 by_cases h1 : 1 ≤ c.region
 by_cases h2 : c.region ≤ 5
 refine Zs ((Zbn (G := G) c.region 1 5).res (congrArg Value.bool (Zbg (by omega) (by omega)))) (vals := [Iv c.region, Iv 1, Iv 5]) (res' := .bool true) rfl rfl rfl rfl rfl rfl ?_
 refine Zd rfl rfl (.bool true) rfl ?_
 refine Zj (b := 0) (o := 0) (n := 1) (o' := 1) rfl rfl rfl rfl rfl ?_
 refine Zo (p := pt 0 1) (v := Iv c.epoch) rfl rfl rfl (by kernel_rfl) ?_
 by_cases h3 : 1 ≤ c.epoch
 by_cases h4 : c.epoch ≤ 900000000
 refine Zs ((Zbn (G := G) c.epoch 1 900000000).res (congrArg Value.bool (Zbg (by omega) (by omega)))) (vals := [Iv c.epoch, Iv 1, Iv 900000000]) (res' := .bool true) rfl rfl rfl rfl rfl rfl ?_
 refine Zk rfl rfl (.bool true) rfl (Zd rfl rfl (.bool true) rfl ?_)
 refine Zj (b := 0) (o := 0) (n := 2) (o' := 2) rfl rfl rfl rfl rfl ?_
 refine Zo (p := pt 0 2) (v := Iv c.node) rfl rfl rfl (by kernel_rfl) ?_
 by_cases h5 : 1 ≤ c.node
 by_cases h6 : c.node ≤ 3
 refine Zs ((Zbn (G := G) c.node 1 3).res (congrArg Value.bool (Zbg (by omega) (by omega)))) (vals := [Iv c.node, Iv 1, Iv 3]) (res' := .bool true) rfl rfl rfl rfl rfl rfl ?_
 refine Zk rfl rfl (.bool true) rfl (Zd rfl rfl (.bool true) rfl ?_)
 refine Zj (b := 0) (o := 0) (n := 3) (o' := 3) rfl rfl rfl rfl rfl ?_
 refine Zo (p := pt 0 3) (v := Iv c.size) rfl rfl rfl (by kernel_rfl) ?_
 by_cases h7 : 0 ≤ c.size
 by_cases h8 : c.size ≤ 100000
 refine Zs ((Zbn (G := G) c.size 0 100000).res (congrArg Value.bool (Zbg (by omega) (by omega)))) (vals := [Iv c.size, Iv 0, Iv 100000]) (res' := .bool true) rfl rfl rfl rfl rfl rfl ?_
 refine Zk rfl rfl (.bool true) rfl (Zb rfl rfl (.bool true) rfl (Za (Zc (Zv (Zu ?_)))))
 rw [show decide (Za8 c) = true from decide_eq_true (by unfold Za8; omega)]
 exact Zm (v := .bool true) rfl rfl rfl (by kernel_rfl) rfl
 refine Zs ((Zbn (G := G) c.size 0 100000).res (congrArg Value.bool (Zah (by omega)))) (vals := [Iv c.size, Iv 0, Iv 100000]) (res' := .bool false) rfl rfl rfl rfl rfl rfl ?_
 refine Zk rfl rfl (.bool false) rfl (Zb rfl rfl (.bool false) rfl (Za (Zc (Zv (Zu ?_)))))
 rw [show decide (Za8 c) = false from decide_eq_false (by unfold Za8; omega)]
 exact Zm (v := .bool false) rfl rfl rfl (by kernel_rfl) rfl
 refine Zs ((Zbn (G := G) c.size 0 100000).res (congrArg Value.bool (Zah (by omega)))) (vals := [Iv c.size, Iv 0, Iv 100000]) (res' := .bool false) rfl rfl rfl rfl rfl rfl ?_
 refine Zk rfl rfl (.bool false) rfl (Zb rfl rfl (.bool false) rfl (Za (Zc (Zv (Zu ?_)))))
 rw [show decide (Za8 c) = false from decide_eq_false (by unfold Za8; omega)]
 exact Zm (v := .bool false) rfl rfl rfl (by kernel_rfl) rfl
 refine Zs ((Zbn (G := G) c.node 1 3).res (congrArg Value.bool (Zah (by omega)))) (vals := [Iv c.node, Iv 1, Iv 3]) (res' := .bool false) rfl rfl rfl rfl rfl rfl ?_
 refine Zk rfl rfl (.bool false) rfl (Zd rfl rfl (.bool false) rfl (Zf rfl rfl (Zf rfl rfl (Zf rfl rfl (Zk rfl rfl (.bool false) rfl (Zb rfl rfl (.bool false) rfl (Za (Zc (Zv (Zu ?_))))))))))
 rw [show decide (Za8 c) = false from decide_eq_false (by unfold Za8; omega)]
 exact Zm (v := .bool false) rfl rfl rfl (by kernel_rfl) rfl
 refine Zs ((Zbn (G := G) c.node 1 3).res (congrArg Value.bool (Zah (by omega)))) (vals := [Iv c.node, Iv 1, Iv 3]) (res' := .bool false) rfl rfl rfl rfl rfl rfl ?_
 refine Zk rfl rfl (.bool false) rfl (Zd rfl rfl (.bool false) rfl (Zf rfl rfl (Zf rfl rfl (Zf rfl rfl (Zk rfl rfl (.bool false) rfl (Zb rfl rfl (.bool false) rfl (Za (Zc (Zv (Zu ?_))))))))))
 rw [show decide (Za8 c) = false from decide_eq_false (by unfold Za8; omega)]
 exact Zm (v := .bool false) rfl rfl rfl (by kernel_rfl) rfl
 refine Zs ((Zbn (G := G) c.epoch 1 900000000).res (congrArg Value.bool (Zah (by omega)))) (vals := [Iv c.epoch, Iv 1, Iv 900000000]) (res' := .bool false) rfl rfl rfl rfl rfl rfl ?_
 refine Zk rfl rfl (.bool false) rfl (Zd rfl rfl (.bool false) rfl (Zf rfl rfl (Zf rfl rfl (Zf rfl rfl (Zk rfl rfl (.bool false) rfl (Zd rfl rfl (.bool false) rfl (Zf rfl rfl (Zf rfl rfl (Zf rfl rfl (Zk rfl rfl (.bool false) rfl (Zb rfl rfl (.bool false) rfl (Za (Zc (Zv (Zu ?_)))))))))))))))
 rw [show decide (Za8 c) = false from decide_eq_false (by unfold Za8; omega)]
 exact Zm (v := .bool false) rfl rfl rfl (by kernel_rfl) rfl
 refine Zs ((Zbn (G := G) c.epoch 1 900000000).res (congrArg Value.bool (Zah (by omega)))) (vals := [Iv c.epoch, Iv 1, Iv 900000000]) (res' := .bool false) rfl rfl rfl rfl rfl rfl ?_
 refine Zk rfl rfl (.bool false) rfl (Zd rfl rfl (.bool false) rfl (Zf rfl rfl (Zf rfl rfl (Zf rfl rfl (Zk rfl rfl (.bool false) rfl (Zd rfl rfl (.bool false) rfl (Zf rfl rfl (Zf rfl rfl (Zf rfl rfl (Zk rfl rfl (.bool false) rfl (Zb rfl rfl (.bool false) rfl (Za (Zc (Zv (Zu ?_)))))))))))))))
 rw [show decide (Za8 c) = false from decide_eq_false (by unfold Za8; omega)]
 exact Zm (v := .bool false) rfl rfl rfl (by kernel_rfl) rfl
 refine Zs ((Zbn (G := G) c.region 1 5).res (congrArg Value.bool (Zah (by omega)))) (vals := [Iv c.region, Iv 1, Iv 5]) (res' := .bool false) rfl rfl rfl rfl rfl rfl ?_
 refine Zd rfl rfl (.bool false) rfl (Zf rfl rfl (Zf rfl rfl (Zf rfl rfl (Zk rfl rfl (.bool false) rfl (Zd rfl rfl (.bool false) rfl (Zf rfl rfl (Zf rfl rfl (Zf rfl rfl (Zk rfl rfl (.bool false) rfl (Zd rfl rfl (.bool false) rfl (Zf rfl rfl (Zf rfl rfl (Zf rfl rfl (Zk rfl rfl (.bool false) rfl (Zb rfl rfl (.bool false) rfl (Za (Zc (Zv (Zu ?_)))))))))))))))))))
 rw [show decide (Za8 c) = false from decide_eq_false (by unfold Za8; omega)]
 exact Zm (v := .bool false) rfl rfl rfl (by kernel_rfl) rfl
 refine Zs ((Zbn (G := G) c.region 1 5).res (congrArg Value.bool (Zah (by omega)))) (vals := [Iv c.region, Iv 1, Iv 5]) (res' := .bool false) rfl rfl rfl rfl rfl rfl ?_
 refine Zd rfl rfl (.bool false) rfl (Zf rfl rfl (Zf rfl rfl (Zf rfl rfl (Zk rfl rfl (.bool false) rfl (Zd rfl rfl (.bool false) rfl (Zf rfl rfl (Zf rfl rfl (Zf rfl rfl (Zk rfl rfl (.bool false) rfl (Zd rfl rfl (.bool false) rfl (Zf rfl rfl (Zf rfl rfl (Zf rfl rfl (Zk rfl rfl (.bool false) rfl (Zb rfl rfl (.bool false) rfl (Za (Zc (Zv (Zu ?_)))))))))))))))))))
 rw [show decide (Za8 c) = false from decide_eq_false (by unfold Za8; omega)]
 exact Zm (v := .bool false) rfl rfl rfl (by kernel_rfl) rfl
end Go.Flat
