/- Walks. -/
import Derived.Test.YtlnggiomppkjmaaDoorH8
import Derived.Test.YtlnggiomppkjmaaDoorFlatG
set_option linter.unusedVariables false
set_option linter.unusedSimpArgs false
set_option maxRecDepth 20000
namespace Go.Flat
open Go.Proofs Go.ChangeShapes Go.WideShapes Go.RowKit
variable {G : Glob}
def Zjd (a b : Head) : Bool := ((a.region == b.region) && ((a.epoch == b.epoch) && ((a.size == b.size) && ((Zfx 32 a.root b.root) && ((a.tick == b.tick) && true)))))
theorem Z16 (a b : Head) {d : Nat} : Z0 Tryd.prog (Op.equalIn (d + 3) 35 (Zhn a) (Zhn b)) = some (Zjd a b) :=
 eqS (P := Tryd.prog) (d + 2) 35 _ (Zft a).toArray (Zft b).toArray (fun f => if f.offset = 0 then (a.region == b.region) else if f.offset = 1 then (a.epoch == b.epoch) else if f.offset = 2 then (a.size == b.size) else if f.offset = 3 then (Zfx 32 a.root b.root) else if f.offset = 35 then (a.tick == b.tick) else true) rfl (by kernel_rfl) (List.forall_mem_cons.2 ⟨⟨by decide, Iv a.region, Iv b.region, Za1 rfl rfl rfl, Za1 rfl rfl rfl, Zfe rfl⟩, List.forall_mem_cons.2 ⟨⟨by decide, Iv a.epoch, Iv b.epoch, Za1 rfl rfl rfl, Za1 rfl rfl rfl, Zfe rfl⟩, List.forall_mem_cons.2 ⟨⟨by decide, Iv a.size, Iv b.size, Za1 rfl rfl rfl, Za1 rfl rfl rfl, Zfe rfl⟩, List.forall_mem_cons.2 ⟨⟨by decide, .agg (Zah w8 32 a.root).toArray, .agg (Zah w8 32 b.root).toArray, Zcl (n := 32) rfl rfl rfl rfl rfl, Zcl (n := 32) rfl rfl rfl rfl rfl, Zoa rfl rfl rfl⟩, List.forall_mem_cons.2 ⟨⟨by decide, Iv a.tick, Iv b.tick, Za1 rfl rfl rfl, Za1 rfl rfl rfl, Zfe rfl⟩, fun _ h => absurd h (by simp)⟩⟩⟩⟩⟩)
theorem Zsj (a : Head) : Zjd a a = true := by simp [Zjd, Zfx]
def Zez (a b : Signed) : Bool := ((Zjd a.head b.head) && ((a.node == b.node) && ((Zfx 32 a.tag b.tag) && true)))
theorem Zw4 (a b : Signed) {d : Nat} : Z0 Tryd.prog (Op.equalIn (d + 4) 37 (Zf9 a) (Zf9 b)) = some (Zez a b) :=
 eqS (P := Tryd.prog) (d + 3) 37 _ (Zd4 a).toArray (Zd4 b).toArray (fun f => if f.offset = 0 then (Zjd a.head b.head) else if f.offset = 36 then (a.node == b.node) else if f.offset = 37 then (Zfx 32 a.tag b.tag) else true) rfl (by kernel_rfl) (List.forall_mem_cons.2 ⟨⟨by decide, Zhn a.head, Zhn b.head, Zcl (n := 36) rfl rfl rfl rfl rfl, Zcl (n := 36) rfl rfl rfl rfl rfl, Z16 a.head b.head⟩, List.forall_mem_cons.2 ⟨⟨by decide, Iv a.node, Iv b.node, Za1 rfl rfl rfl, Za1 rfl rfl rfl, Zfe rfl⟩, List.forall_mem_cons.2 ⟨⟨by decide, .agg (Zah w8 32 a.tag).toArray, .agg (Zah w8 32 b.tag).toArray, Zcl (n := 32) rfl rfl rfl rfl rfl, Zcl (n := 32) rfl rfl rfl rfl rfl, Zoa rfl rfl rfl⟩, fun _ h => absurd h (by simp)⟩⟩⟩)
theorem Zpi (a : Signed) : Zez a a = true := by simp [Zez, Zfx, Zsj]
def okHead (a : Head) : Prop := (-9223372036854775808 ≤ a.region ∧ a.region ≤ 9223372036854775807) ∧ (-9223372036854775808 ≤ a.epoch ∧ a.epoch ≤ 9223372036854775807) ∧ (-9223372036854775808 ≤ a.size ∧ a.size ≤ 9223372036854775807) ∧ True ∧ (-9223372036854775808 ≤ a.tick ∧ a.tick ≤ 9223372036854775807) ∧ True
theorem Zuq : Zam Tryd.prog 35 Zft okHead := by
 intro H encH W fuel cs x h
 obtain ⟨xs, n, _, _, hl, hxl, hel⟩ := DataW.trod_struct (P := Tryd.prog) (t := 35) (fs := _) rfl h
 have hl' : cs.length = 36 := hl.trans (by kernel_rfl)
 obtain ⟨a0, e0, k0⟩ := Zam.at_ (t := 3) (off := 0) (k := 1) (Zam.int (by kernel_rfl)) (hel 0 _ rfl) (by rw [hxl]; decide) rfl (by kernel_rfl) rfl
 have q0 : cs.drop 0 = [Iv a0] ++ cs.drop 1 := by rw [Za3 0 1, e0]
 obtain ⟨a1, e1, k1⟩ := Zam.at_ (t := 3) (off := 1) (k := 1) (Zam.int (by kernel_rfl)) (hel 1 _ rfl) (by rw [hxl]; decide) rfl (by kernel_rfl) rfl
 have q1 : cs.drop 1 = [Iv a1] ++ cs.drop 2 := by rw [Za3 1 1, e1]
 obtain ⟨a2, e2, k2⟩ := Zam.at_ (t := 3) (off := 2) (k := 1) (Zam.int (by kernel_rfl)) (hel 2 _ rfl) (by rw [hxl]; decide) rfl (by kernel_rfl) rfl
 have q2 : cs.drop 2 = [Iv a2] ++ cs.drop 3 := by rw [Za3 2 1, e2]
 obtain ⟨a3, e3, k3⟩ := Zam.at_ (t := 33) (off := 3) (k := 32) (Zam.bytes (n := 32) (tb := 5) (by kernel_rfl) (by kernel_rfl) (by kernel_rfl) (by kernel_rfl)) (hel 3 _ rfl) (by rw [hxl]; decide) rfl (by kernel_rfl) rfl
 have q3 : cs.drop 3 = Zah w8 32 a3 ++ cs.drop 35 := by rw [Za3 3 32, e3]
 obtain ⟨a4, e4, k4⟩ := Zam.at_ (t := 3) (off := 35) (k := 1) (Zam.int (by kernel_rfl)) (hel 4 _ rfl) (by rw [hxl]; decide) rfl (by kernel_rfl) rfl
 have q4 : cs.drop 35 = [Iv a4] ++ cs.drop 36 := by rw [Za3 35 1, e4]
 have qe : cs.drop 36 = [] := List.drop_of_length_le (by omega)
 refine ⟨⟨a0, a1, a2, a3, a4⟩, ?_, k0, k1, k2, k3, k4, trivial⟩
 rw [List.drop_zero] at q0
 rw [q0, q1, q2, q3, q4, qe]
 simp [Zft]
def okSigned (a : Signed) : Prop := okHead a.head ∧ (-9223372036854775808 ≤ a.node ∧ a.node ≤ 9223372036854775807) ∧ True ∧ True
theorem Zrc : Zam Tryd.prog 37 Zd4 okSigned := by
 intro H encH W fuel cs x h
 obtain ⟨xs, n, _, _, hl, hxl, hel⟩ := DataW.trod_struct (P := Tryd.prog) (t := 37) (fs := _) rfl h
 have hl' : cs.length = 69 := hl.trans (by kernel_rfl)
 obtain ⟨a0, e0, k0⟩ := Zam.at_ (t := 35) (off := 0) (k := 36) (Zuq) (hel 0 _ rfl) (by rw [hxl]; decide) rfl (by kernel_rfl) rfl
 have q0 : cs.drop 0 = Zft a0 ++ cs.drop 36 := by rw [Za3 0 36, e0]
 obtain ⟨a1, e1, k1⟩ := Zam.at_ (t := 3) (off := 36) (k := 1) (Zam.int (by kernel_rfl)) (hel 1 _ rfl) (by rw [hxl]; decide) rfl (by kernel_rfl) rfl
 have q1 : cs.drop 36 = [Iv a1] ++ cs.drop 37 := by rw [Za3 36 1, e1]
 obtain ⟨a2, e2, k2⟩ := Zam.at_ (t := 33) (off := 37) (k := 32) (Zam.bytes (n := 32) (tb := 5) (by kernel_rfl) (by kernel_rfl) (by kernel_rfl) (by kernel_rfl)) (hel 2 _ rfl) (by rw [hxl]; decide) rfl (by kernel_rfl) rfl
 have q2 : cs.drop 37 = Zah w8 32 a2 ++ cs.drop 69 := by rw [Za3 37 32, e2]
 have qe : cs.drop 69 = [] := List.drop_of_length_le (by omega)
 refine ⟨⟨a0, a1, a2⟩, ?_, k0, k1, k2, trivial⟩
 rw [List.drop_zero] at q0
 rw [q0, q1, q2, qe]
 simp [Zd4]
end Go.Flat
namespace Go.Flat
open Go.Proofs
variable {G : Glob}
instance : LawfulBEq ByteArray where
  eq_of_beq := by
    intro a b h
    obtain ⟨x⟩ := a; obtain ⟨y⟩ := b
    exact congrArg ByteArray.mk (eq_of_beq (show (x == y) = true from h))
  rfl := by
    intro a
    obtain ⟨x⟩ := a
    exact (BEq.rfl : (x == x) = true)
structure Claim where
  region : Int
  epoch : Int
  node : Int
  size : Int
  root : D
instance : Inhabited Claim := ⟨⟨0, 0, 0, 0, dz⟩⟩
def Zat (c : Claim) : List Value := [.int .i64 c.region, .int .i64 c.epoch, .int .i64 c.node, .int .i64 c.size] ++ Zah w8 32 c.root
def Zai (c : Claim) : Value := .agg (Zat c).toArray
def Ze5 : Cod Claim := ⟨Zat, 36, fun _ => rfl, by decide⟩
structure Entry where
  kind : Int
  client : Int
  seq : Int
  text : ByteArray
  head : Signed
  claim : Claim
def Z59 : Claim := ⟨0, 0, 0, 0, dz⟩
def Z3u : Entry := ⟨0, 0, 0, ⟨#[]⟩, Z3v, Z59⟩
instance : Inhabited Entry := ⟨Z3u⟩
def Zdf (e : Entry) : List Value := [.int .i64 e.kind, .int .i64 e.client, .int .i64 e.seq, .string e.text] ++ (Zd4 e.head ++ Zat e.claim)
def Zd1 (e : Entry) : Value := .agg (Zdf e).toArray
def Z7n : Cod Entry := ⟨Zdf, 109, fun _ => rfl, by decide⟩
structure Item where
  epoch : Int
  entry : Entry
instance : Inhabited Item := ⟨⟨0, Z3u⟩⟩
def Zbi (x : Item) : List Value := .int .i64 x.epoch :: Zdf x.entry
def Zbd (x : Item) : Value := .agg (Zbi x).toArray
def Zi : Cod Item := ⟨Zbi, 110, fun _ => rfl, by decide⟩
def Zdz (c : Claim) : Prop := (1 ≤ c.region ∧ c.region ≤ 5) ∧ (1 ≤ c.epoch ∧ c.epoch ≤ 900000000) ∧ (1 ≤ c.node ∧ c.node ≤ 3) ∧ (0 ≤ c.size ∧ c.size ≤ 100000)
instance (c : Claim) : Decidable (Zdz c) := inferInstanceAs (Decidable (_ ∧ _))
def Zdd (c : Claim) : Int := if Zdz c then 0 else 60
theorem Zkx {c : Claim} (h : Zdd c = 0) : Zdz c := by
 unfold Zdd at h
 split at h
 ·assumption
 ·omega
theorem Zkw {c : Claim} (h : ¬ Zdd c = 0) : ¬ Zdz c := fun q => h (if_pos q)
section
open Go.ChangeShapes Go.WideShapes Go.RowKit
def Zdq (a b : Claim) : Bool := ((a.region == b.region) && ((a.epoch == b.epoch) && ((a.node == b.node) && ((a.size == b.size) && ((Zfx 32 a.root b.root) && true)))))
theorem Zsk (a b : Claim) {d : Nat} : Z0 Tryd.prog (Op.equalIn (d + 3) 39 (Zai a) (Zai b)) = some (Zdq a b) :=
 eqS (P := Tryd.prog) (d + 2) 39 _ (Zat a).toArray (Zat b).toArray (fun f => if f.offset = 0 then (a.region == b.region) else if f.offset = 1 then (a.epoch == b.epoch) else if f.offset = 2 then (a.node == b.node) else if f.offset = 3 then (a.size == b.size) else if f.offset = 4 then (Zfx 32 a.root b.root) else true) rfl (by kernel_rfl) (List.forall_mem_cons.2 ⟨⟨by decide, Iv a.region, Iv b.region, Za1 rfl rfl rfl, Za1 rfl rfl rfl, Zfe rfl⟩, List.forall_mem_cons.2 ⟨⟨by decide, Iv a.epoch, Iv b.epoch, Za1 rfl rfl rfl, Za1 rfl rfl rfl, Zfe rfl⟩, List.forall_mem_cons.2 ⟨⟨by decide, Iv a.node, Iv b.node, Za1 rfl rfl rfl, Za1 rfl rfl rfl, Zfe rfl⟩, List.forall_mem_cons.2 ⟨⟨by decide, Iv a.size, Iv b.size, Za1 rfl rfl rfl, Za1 rfl rfl rfl, Zfe rfl⟩, List.forall_mem_cons.2 ⟨⟨by decide, .agg (Zah w8 32 a.root).toArray, .agg (Zah w8 32 b.root).toArray, Zcl (n := 32) rfl rfl rfl rfl rfl, Zcl (n := 32) rfl rfl rfl rfl rfl, Zoa rfl rfl rfl⟩, fun _ h => absurd h (by simp)⟩⟩⟩⟩⟩)
theorem Zw6 {x y : Operand} (a b : Claim) : Zcf Tryd.prog .eql 39 x y (Zai a) (Zai b) = some (.bool (Zdq a b)) := Zq3 (by kernel_rfl) (by kernel_rfl) (Zsk a b (d := 9997))
theorem Zk4 (a : Claim) : Zdq a a = true := by simp [Zdq, Zfx]
def okClaim (a : Claim) : Prop := (-9223372036854775808 ≤ a.region ∧ a.region ≤ 9223372036854775807) ∧ (-9223372036854775808 ≤ a.epoch ∧ a.epoch ≤ 9223372036854775807) ∧ (-9223372036854775808 ≤ a.node ∧ a.node ≤ 9223372036854775807) ∧ (-9223372036854775808 ≤ a.size ∧ a.size ≤ 9223372036854775807) ∧ True ∧ True
theorem Zs2 : Zam Tryd.prog 39 Zat okClaim := by
 intro H encH W fuel cs x h
 obtain ⟨xs, n, _, _, hl, hxl, hel⟩ := DataW.trod_struct (P := Tryd.prog) (t := 39) (fs := _) rfl h
 have hl' : cs.length = 36 := hl.trans (by kernel_rfl)
 obtain ⟨a0, e0, k0⟩ := Zam.at_ (t := 3) (off := 0) (k := 1) (Zam.int (by kernel_rfl)) (hel 0 _ rfl) (by rw [hxl]; decide) rfl (by kernel_rfl) rfl
 have q0 : cs.drop 0 = [Iv a0] ++ cs.drop 1 := by rw [Za3 0 1, e0]
 obtain ⟨a1, e1, k1⟩ := Zam.at_ (t := 3) (off := 1) (k := 1) (Zam.int (by kernel_rfl)) (hel 1 _ rfl) (by rw [hxl]; decide) rfl (by kernel_rfl) rfl
 have q1 : cs.drop 1 = [Iv a1] ++ cs.drop 2 := by rw [Za3 1 1, e1]
 obtain ⟨a2, e2, k2⟩ := Zam.at_ (t := 3) (off := 2) (k := 1) (Zam.int (by kernel_rfl)) (hel 2 _ rfl) (by rw [hxl]; decide) rfl (by kernel_rfl) rfl
 have q2 : cs.drop 2 = [Iv a2] ++ cs.drop 3 := by rw [Za3 2 1, e2]
 obtain ⟨a3, e3, k3⟩ := Zam.at_ (t := 3) (off := 3) (k := 1) (Zam.int (by kernel_rfl)) (hel 3 _ rfl) (by rw [hxl]; decide) rfl (by kernel_rfl) rfl
 have q3 : cs.drop 3 = [Iv a3] ++ cs.drop 4 := by rw [Za3 3 1, e3]
 obtain ⟨a4, e4, k4⟩ := Zam.at_ (t := 33) (off := 4) (k := 32) (Zam.bytes (n := 32) (tb := 5) (by kernel_rfl) (by kernel_rfl) (by kernel_rfl) (by kernel_rfl)) (hel 4 _ rfl) (by rw [hxl]; decide) rfl (by kernel_rfl) rfl
 have q4 : cs.drop 4 = Zah w8 32 a4 ++ cs.drop 36 := by rw [Za3 4 32, e4]
 have qe : cs.drop 36 = [] := List.drop_of_length_le (by omega)
 refine ⟨⟨a0, a1, a2, a3, a4⟩, ?_, k0, k1, k2, k3, k4, trivial⟩
 rw [List.drop_zero] at q0
 rw [q0, q1, q2, q3, q4, qe]
 simp [Zat]
def Zjc (a b : Entry) : Bool := ((a.kind == b.kind) && ((a.client == b.client) && ((a.seq == b.seq) && ((a.text == b.text) && ((Zez a.head b.head) && ((Zdq a.claim b.claim) && true))))))
theorem Zsl (a b : Entry) {d : Nat} : Z0 Tryd.prog (Op.equalIn (d + 5) 41 (Zd1 a) (Zd1 b)) = some (Zjc a b) :=
 eqS (P := Tryd.prog) (d + 4) 41 _ (Zdf a).toArray (Zdf b).toArray (fun f => if f.offset = 0 then (a.kind == b.kind) else if f.offset = 1 then (a.client == b.client) else if f.offset = 2 then (a.seq == b.seq) else if f.offset = 3 then (a.text == b.text) else if f.offset = 4 then (Zez a.head b.head) else if f.offset = 73 then (Zdq a.claim b.claim) else true) rfl (by kernel_rfl) (List.forall_mem_cons.2 ⟨⟨by decide, Iv a.kind, Iv b.kind, Za1 rfl rfl rfl, Za1 rfl rfl rfl, Zfe rfl⟩, List.forall_mem_cons.2 ⟨⟨by decide, Iv a.client, Iv b.client, Za1 rfl rfl rfl, Za1 rfl rfl rfl, Zfe rfl⟩, List.forall_mem_cons.2 ⟨⟨by decide, Iv a.seq, Iv b.seq, Za1 rfl rfl rfl, Za1 rfl rfl rfl, Zfe rfl⟩, List.forall_mem_cons.2 ⟨⟨by decide, .string a.text, .string b.text, Za1 rfl rfl rfl, Za1 rfl rfl rfl, Zw5 rfl⟩, List.forall_mem_cons.2 ⟨⟨by decide, Zf9 a.head, Zf9 b.head, Zcl (n := 69) rfl rfl rfl rfl rfl, Zcl (n := 69) rfl rfl rfl rfl rfl, Zw4 a.head b.head⟩, List.forall_mem_cons.2 ⟨⟨by decide, Zai a.claim, Zai b.claim, Zcl (n := 36) rfl rfl rfl rfl rfl, Zcl (n := 36) rfl rfl rfl rfl rfl, Zsk a.claim b.claim⟩, fun _ h => absurd h (by simp)⟩⟩⟩⟩⟩⟩)
theorem Zgu {x y : Operand} (a b : Entry) : Zcf Tryd.prog .eql 41 x y (Zd1 a) (Zd1 b) = some (.bool (Zjc a b)) := Zq3 (by kernel_rfl) (by kernel_rfl) (Zsl a b (d := 9995))
def okEntry (a : Entry) : Prop := (-9223372036854775808 ≤ a.kind ∧ a.kind ≤ 9223372036854775807) ∧ (-9223372036854775808 ≤ a.client ∧ a.client ≤ 9223372036854775807) ∧ (-9223372036854775808 ≤ a.seq ∧ a.seq ≤ 9223372036854775807) ∧ (a.text.size ≤ maxLen) ∧ okSigned a.head ∧ okClaim a.claim ∧ True
theorem Zs3 : Zam Tryd.prog 41 Zdf okEntry := by
 intro H encH W fuel cs x h
 obtain ⟨xs, n, _, _, hl, hxl, hel⟩ := DataW.trod_struct (P := Tryd.prog) (t := 41) (fs := _) rfl h
 have hl' : cs.length = 109 := hl.trans (by kernel_rfl)
 obtain ⟨a0, e0, k0⟩ := Zam.at_ (t := 31) (off := 0) (k := 1) (Zam.int (by kernel_rfl)) (hel 0 _ rfl) (by rw [hxl]; decide) rfl (by kernel_rfl) rfl
 have q0 : cs.drop 0 = [Iv a0] ++ cs.drop 1 := by rw [Za3 0 1, e0]
 obtain ⟨a1, e1, k1⟩ := Zam.at_ (t := 3) (off := 1) (k := 1) (Zam.int (by kernel_rfl)) (hel 1 _ rfl) (by rw [hxl]; decide) rfl (by kernel_rfl) rfl
 have q1 : cs.drop 1 = [Iv a1] ++ cs.drop 2 := by rw [Za3 1 1, e1]
 obtain ⟨a2, e2, k2⟩ := Zam.at_ (t := 3) (off := 2) (k := 1) (Zam.int (by kernel_rfl)) (hel 2 _ rfl) (by rw [hxl]; decide) rfl (by kernel_rfl) rfl
 have q2 : cs.drop 2 = [Iv a2] ++ cs.drop 3 := by rw [Za3 2 1, e2]
 obtain ⟨a3, e3, k3⟩ := Zam.at_ (t := 9) (off := 3) (k := 1) (Zam.str (by kernel_rfl)) (hel 3 _ rfl) (by rw [hxl]; decide) rfl (by kernel_rfl) rfl
 have q3 : cs.drop 3 = [.string a3] ++ cs.drop 4 := by rw [Za3 3 1, e3]
 obtain ⟨a4, e4, k4⟩ := Zam.at_ (t := 37) (off := 4) (k := 69) (Zrc) (hel 4 _ rfl) (by rw [hxl]; decide) rfl (by kernel_rfl) rfl
 have q4 : cs.drop 4 = Zd4 a4 ++ cs.drop 73 := by rw [Za3 4 69, e4]
 obtain ⟨a5, e5, k5⟩ := Zam.at_ (t := 39) (off := 73) (k := 36) (Zs2) (hel 5 _ rfl) (by rw [hxl]; decide) rfl (by kernel_rfl) rfl
 have q5 : cs.drop 73 = Zat a5 ++ cs.drop 109 := by rw [Za3 73 36, e5]
 have qe : cs.drop 109 = [] := List.drop_of_length_le (by omega)
 refine ⟨⟨a0, a1, a2, a3, a4, a5⟩, ?_, k0, k1, k2, k3, k4, k5, trivial⟩
 rw [List.drop_zero] at q0
 rw [q0, q1, q2, q3, q4, q5, qe]
 simp [Zdf]
def Zc2 (a b : Item) : Bool := ((a.epoch == b.epoch) && ((Zjc a.entry b.entry) && true))
theorem Zv9 (a b : Item) {d : Nat} : Z0 Tryd.prog (Op.equalIn (d + 6) 43 (Zbd a) (Zbd b)) = some (Zc2 a b) :=
 eqS (P := Tryd.prog) (d + 5) 43 _ (Zbi a).toArray (Zbi b).toArray (fun f => if f.offset = 0 then (a.epoch == b.epoch) else if f.offset = 1 then (Zjc a.entry b.entry) else true) rfl (by kernel_rfl) (List.forall_mem_cons.2 ⟨⟨by decide, Iv a.epoch, Iv b.epoch, Za1 rfl rfl rfl, Za1 rfl rfl rfl, Zfe rfl⟩, List.forall_mem_cons.2 ⟨⟨by decide, Zd1 a.entry, Zd1 b.entry, Zcl (n := 109) rfl rfl rfl rfl rfl, Zcl (n := 109) rfl rfl rfl rfl rfl, Zsl a.entry b.entry⟩, fun _ h => absurd h (by simp)⟩⟩)
theorem Zk5 {x y : Operand} (a b : Item) : Zcf Tryd.prog .eql 43 x y (Zbd a) (Zbd b) = some (.bool (Zc2 a b)) := Zq3 (by kernel_rfl) (by kernel_rfl) (Zv9 a b (d := 9994))
theorem Zs0 {x y : Operand} (a b : Item) : Zcf Tryd.prog .neq 43 x y (Zbd a) (Zbd b) = some (.bool (!Zc2 a b)) := Z2m (by kernel_rfl) (by kernel_rfl) (Zv9 a b (d := 9994))
def okItem (a : Item) : Prop := (-9223372036854775808 ≤ a.epoch ∧ a.epoch ≤ 9223372036854775807) ∧ okEntry a.entry ∧ True
theorem Zot : Zam Tryd.prog 43 Zbi okItem := by
 intro H encH W fuel cs x h
 obtain ⟨xs, n, _, _, hl, hxl, hel⟩ := DataW.trod_struct (P := Tryd.prog) (t := 43) (fs := _) rfl h
 have hl' : cs.length = 110 := hl.trans (by kernel_rfl)
 obtain ⟨a0, e0, k0⟩ := Zam.at_ (t := 3) (off := 0) (k := 1) (Zam.int (by kernel_rfl)) (hel 0 _ rfl) (by rw [hxl]; decide) rfl (by kernel_rfl) rfl
 have q0 : cs.drop 0 = [Iv a0] ++ cs.drop 1 := by rw [Za3 0 1, e0]
 obtain ⟨a1, e1, k1⟩ := Zam.at_ (t := 41) (off := 1) (k := 109) (Zs3) (hel 1 _ rfl) (by rw [hxl]; decide) rfl (by kernel_rfl) rfl
 have q1 : cs.drop 1 = Zdf a1 ++ cs.drop 110 := by rw [Za3 1 109, e1]
 have qe : cs.drop 110 = [] := List.drop_of_length_le (by omega)
 refine ⟨⟨a0, a1⟩, ?_, k0, k1, trivial⟩
 rw [List.drop_zero] at q0
 rw [q0, q1, qe]
 simp [Zbi]
theorem Zxu (a : Item) : Za2 (Zbd a) = true := by kernel_rfl
end
theorem Zau (n low high : Int) : Z6 Tryd.prog G 54 [Iv n, Iv low, Iv high] [] (.bool (Zcn n low high)) [] := by
 refine Zbh (fn := Tryd.f54) (nt := 15) rfl rfl rfl rfl ?_
 refine Zf (Zg (Zb (.bool false) (Za (Zc (Zf (Zg (Zd (Iv n) (Zd (Iv low) ?_))))))))
 by_cases h1 : low ≤ n
 refine Zl (vx := Iv n) (vy := Iv low) rfl rfl (.bool true) rfl rfl (Zoe (by omega)) ?_
 refine Zd (.bool true) (Zd (Iv n) (Zd (Iv high) ?_))
 by_cases h2 : n ≤ high
 refine Zl (vx := Iv n) (vy := Iv high) rfl rfl (.bool true) rfl rfl (Zlg (by omega)) ?_
 refine Zk (.bool true) (Zb (.bool true) (Za (Zc (Zr (Zt ?_)))))
 rw [show Zcn n low high = true from Zbq (by omega) (by omega)]
 exact Zm (v := .bool true) rfl rfl rfl (by kernel_rfl) rfl
 refine Zl (vx := Iv n) (vy := Iv high) rfl rfl (.bool false) rfl rfl (Zlf (by omega)) ?_
 refine Zk (.bool false) (Zb (.bool false) (Za (Zc (Zr (Zt ?_)))))
 rw [show Zcn n low high = false from Zac (by omega)]
 exact Zm (v := .bool false) rfl rfl rfl (by kernel_rfl) rfl
 refine Zl (vx := Iv n) (vy := Iv low) rfl rfl (.bool false) rfl rfl (Zod (by omega)) ?_
 refine Zd (.bool false) (Ze (Ze (Ze (Zk (.bool false) (Zb (.bool false) (Za (Zc (Zr (Zt ?_)))))))))
 rw [show Zcn n low high = false from Zac (by omega)]
 exact Zm (v := .bool false) rfl rfl rfl (by kernel_rfl) rfl
theorem Zb9 (b : Bool) : Z6 Tryd.prog G 53 [.bool b] [] (Iv (if b then 0 else 60)) [] := by
 refine Zbh (fn := Tryd.f53) (nt := 4) rfl rfl rfl rfl ?_
 refine Zf (Zg (Zb (Iv 0) (Za (Zc (Zf (Zf (Zg (Zd (.bool b) (Za (Zc ?_))))))))))
 rcases Bool.eq_false_or_eq_true b with h1 | h1
 refine Zy (congrArg Value.bool h1) (Zf (Zg (Zb (Iv 0) (Za (Zc (Zr (Z2 (Zt ?_))))))))
 rw [show (if b = true then (0 : Int) else 60) = 0 from by simp [*]]
 exact Zm (v := Iv 0) rfl rfl rfl (by kernel_rfl) rfl
 refine Zu (congrArg Value.bool h1) (Zz (Zc (Zf (Zg (Zb (Iv 60) (Za (Zc (Zr (Zt ?_)))))))))
 rw [show (if b = true then (0 : Int) else 60) = 60 from by simp [*]]
 exact Zm (v := Iv 60) rfl rfl rfl (by kernel_rfl) rfl
theorem Zf4 (c : Claim) : Z6 Tryd.prog G 41 [Zai c] [] (Iv (Zdd c)) [] := by
 refine Zbh (fn := Tryd.f41) (nt := 22) rfl rfl rfl rfl ?_
 refine Zaf 1 (H' := [hole]) rfl ?_
 refine Zf (Zg (Zb7 (v := Zai c) (b := bxB 36 (Zat c)) (nid := 0) (H' := [bxB 36 (Zat c)]) (Zb (Iv 0) (Za (Zc (Zf (Zg (Zh (b := 0) (o := 0) (n := 0) (o' := 0) (Zn (p := pt 0 0) (v := Iv c.region) ?_)))))))))
 by_cases h1 : 1 ≤ c.region
 by_cases h2 : c.region ≤ 5
 refine Zs ((Zau (G := G) c.region 1 5).res (congrArg Value.bool (Zbq (by omega) (by omega)))) (vals := [Iv c.region, Iv 1, Iv 5]) (res' := .bool true) rfl rfl rfl rfl rfl rfl ?_
 refine Zd (.bool true) (Zh (b := 0) (o := 0) (n := 1) (o' := 1) (Zn (p := pt 0 1) (v := Iv c.epoch) ?_))
 by_cases h3 : 1 ≤ c.epoch
 by_cases h4 : c.epoch ≤ 900000000
 refine Zs ((Zau (G := G) c.epoch 1 900000000).res (congrArg Value.bool (Zbq (by omega) (by omega)))) (vals := [Iv c.epoch, Iv 1, Iv 900000000]) (res' := .bool true) rfl rfl rfl rfl rfl rfl ?_
 refine Zk (.bool true) (Zd (.bool true) (Zh (b := 0) (o := 0) (n := 2) (o' := 2) (Zn (p := pt 0 2) (v := Iv c.node) ?_)))
 by_cases h5 : 1 ≤ c.node
 by_cases h6 : c.node ≤ 3
 refine Zs ((Zau (G := G) c.node 1 3).res (congrArg Value.bool (Zbq (by omega) (by omega)))) (vals := [Iv c.node, Iv 1, Iv 3]) (res' := .bool true) rfl rfl rfl rfl rfl rfl ?_
 refine Zk (.bool true) (Zd (.bool true) (Zh (b := 0) (o := 0) (n := 3) (o' := 3) (Zn (p := pt 0 3) (v := Iv c.size) ?_)))
 by_cases h7 : 0 ≤ c.size
 by_cases h8 : c.size ≤ 100000
 refine Zs ((Zau (G := G) c.size 0 100000).res (congrArg Value.bool (Zbq (by omega) (by omega)))) (vals := [Iv c.size, Iv 0, Iv 100000]) (res' := .bool true) rfl rfl rfl rfl rfl rfl ?_
 refine Zk (.bool true) ?_
 refine Zs (Zb9 (G := G) true) (vals := [.bool true]) (res' := Iv 0) rfl rfl rfl rfl rfl rfl ?_
 refine Zb (Iv 0) (Za (Zc (Zr (Zt ?_))))
 rw [show Zdd c = 0 from if_pos (by unfold Zdz; omega)]
 exact Zm (v := Iv 0) rfl rfl rfl (by kernel_rfl) rfl
 refine Zs ((Zau (G := G) c.size 0 100000).res (congrArg Value.bool (Zac (by omega)))) (vals := [Iv c.size, Iv 0, Iv 100000]) (res' := .bool false) rfl rfl rfl rfl rfl rfl ?_
 refine Zk (.bool false) ?_
 refine Zs (Zb9 (G := G) false) (vals := [.bool false]) (res' := Iv 60) rfl rfl rfl rfl rfl rfl ?_
 refine Zb (Iv 60) (Za (Zc (Zr (Zt ?_))))
 rw [show Zdd c = 60 from if_neg (by unfold Zdz; omega)]
 exact Zm (v := Iv 60) rfl rfl rfl (by kernel_rfl) rfl
 refine Zs ((Zau (G := G) c.size 0 100000).res (congrArg Value.bool (Zac (by omega)))) (vals := [Iv c.size, Iv 0, Iv 100000]) (res' := .bool false) rfl rfl rfl rfl rfl rfl ?_
 refine Zk (.bool false) ?_
 refine Zs (Zb9 (G := G) false) (vals := [.bool false]) (res' := Iv 60) rfl rfl rfl rfl rfl rfl ?_
 refine Zb (Iv 60) (Za (Zc (Zr (Zt ?_))))
 rw [show Zdd c = 60 from if_neg (by unfold Zdz; omega)]
 exact Zm (v := Iv 60) rfl rfl rfl (by kernel_rfl) rfl
 refine Zs ((Zau (G := G) c.node 1 3).res (congrArg Value.bool (Zac (by omega)))) (vals := [Iv c.node, Iv 1, Iv 3]) (res' := .bool false) rfl rfl rfl rfl rfl rfl ?_
 refine Zk (.bool false) (Zd (.bool false) (Ze (Ze (Ze (Zk (.bool false) ?_)))))
 refine Zs (Zb9 (G := G) false) (vals := [.bool false]) (res' := Iv 60) rfl rfl rfl rfl rfl rfl ?_
 refine Zb (Iv 60) (Za (Zc (Zr (Zt ?_))))
 rw [show Zdd c = 60 from if_neg (by unfold Zdz; omega)]
 exact Zm (v := Iv 60) rfl rfl rfl (by kernel_rfl) rfl
 refine Zs ((Zau (G := G) c.node 1 3).res (congrArg Value.bool (Zac (by omega)))) (vals := [Iv c.node, Iv 1, Iv 3]) (res' := .bool false) rfl rfl rfl rfl rfl rfl ?_
 refine Zk (.bool false) (Zd (.bool false) (Ze (Ze (Ze (Zk (.bool false) ?_)))))
 refine Zs (Zb9 (G := G) false) (vals := [.bool false]) (res' := Iv 60) rfl rfl rfl rfl rfl rfl ?_
 refine Zb (Iv 60) (Za (Zc (Zr (Zt ?_))))
 rw [show Zdd c = 60 from if_neg (by unfold Zdz; omega)]
 exact Zm (v := Iv 60) rfl rfl rfl (by kernel_rfl) rfl
 refine Zs ((Zau (G := G) c.epoch 1 900000000).res (congrArg Value.bool (Zac (by omega)))) (vals := [Iv c.epoch, Iv 1, Iv 900000000]) (res' := .bool false) rfl rfl rfl rfl rfl rfl ?_
 refine Zk (.bool false) (Zd (.bool false) (Ze (Ze (Ze (Zk (.bool false) (Zd (.bool false) (Ze (Ze (Ze (Zk (.bool false) ?_))))))))))
 refine Zs (Zb9 (G := G) false) (vals := [.bool false]) (res' := Iv 60) rfl rfl rfl rfl rfl rfl ?_
 refine Zb (Iv 60) (Za (Zc (Zr (Zt ?_))))
 rw [show Zdd c = 60 from if_neg (by unfold Zdz; omega)]
 exact Zm (v := Iv 60) rfl rfl rfl (by kernel_rfl) rfl
 refine Zs ((Zau (G := G) c.epoch 1 900000000).res (congrArg Value.bool (Zac (by omega)))) (vals := [Iv c.epoch, Iv 1, Iv 900000000]) (res' := .bool false) rfl rfl rfl rfl rfl rfl ?_
 refine Zk (.bool false) (Zd (.bool false) (Ze (Ze (Ze (Zk (.bool false) (Zd (.bool false) (Ze (Ze (Ze (Zk (.bool false) ?_))))))))))
 refine Zs (Zb9 (G := G) false) (vals := [.bool false]) (res' := Iv 60) rfl rfl rfl rfl rfl rfl ?_
 refine Zb (Iv 60) (Za (Zc (Zr (Zt ?_))))
 rw [show Zdd c = 60 from if_neg (by unfold Zdz; omega)]
 exact Zm (v := Iv 60) rfl rfl rfl (by kernel_rfl) rfl
 refine Zs ((Zau (G := G) c.region 1 5).res (congrArg Value.bool (Zac (by omega)))) (vals := [Iv c.region, Iv 1, Iv 5]) (res' := .bool false) rfl rfl rfl rfl rfl rfl ?_
 refine Zd (.bool false) (Ze (Ze (Ze (Zk (.bool false) (Zd (.bool false) (Ze (Ze (Ze (Zk (.bool false) (Zd (.bool false) (Ze (Ze (Ze (Zk (.bool false) ?_))))))))))))))
 refine Zs (Zb9 (G := G) false) (vals := [.bool false]) (res' := Iv 60) rfl rfl rfl rfl rfl rfl ?_
 refine Zb (Iv 60) (Za (Zc (Zr (Zt ?_))))
 rw [show Zdd c = 60 from if_neg (by unfold Zdz; omega)]
 exact Zm (v := Iv 60) rfl rfl rfl (by kernel_rfl) rfl
 refine Zs ((Zau (G := G) c.region 1 5).res (congrArg Value.bool (Zac (by omega)))) (vals := [Iv c.region, Iv 1, Iv 5]) (res' := .bool false) rfl rfl rfl rfl rfl rfl ?_
 refine Zd (.bool false) (Ze (Ze (Ze (Zk (.bool false) (Zd (.bool false) (Ze (Ze (Ze (Zk (.bool false) (Zd (.bool false) (Ze (Ze (Ze (Zk (.bool false) ?_))))))))))))))
 refine Zs (Zb9 (G := G) false) (vals := [.bool false]) (res' := Iv 60) rfl rfl rfl rfl rfl rfl ?_
 refine Zb (Iv 60) (Za (Zc (Zr (Zt ?_))))
 rw [show Zdd c = 60 from if_neg (by unfold Zdz; omega)]
 exact Zm (v := Iv 60) rfl rfl rfl (by kernel_rfl) rfl
end Go.Flat
