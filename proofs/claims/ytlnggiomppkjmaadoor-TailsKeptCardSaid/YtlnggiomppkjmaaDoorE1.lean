/- Walks. -/
import Derived.Test.YtlnggiomppkjmaaDoorH8
import Derived.Test.YtlnggiomppkjmaaDoorFlatG
set_option linter.unusedVariables false
set_option linter.unusedSimpArgs false
set_option maxRecDepth 20000
namespace Go.Flat
open Go.Proofs Go.ChangeShapes Go.WideShapes Go.RowKit
variable {G : Glob}
def Zi6 (a b : Head) : Bool := ((a.region == b.region) && ((a.epoch == b.epoch) && ((a.size == b.size) && ((Zfo 32 a.root b.root) && ((a.tick == b.tick) && true)))))
theorem Z1k (a b : Head) {d : Nat} : Zw Tryd.prog (Op.equalIn (d + 3) 35 (Zhd a) (Zhd b)) = some (Zi6 a b) :=
 eqS (P := Tryd.prog) (d + 2) 35 _ (Zfm a).toArray (Zfm b).toArray (fun f => if f.offset = 0 then (a.region == b.region) else if f.offset = 1 then (a.epoch == b.epoch) else if f.offset = 2 then (a.size == b.size) else if f.offset = 3 then (Zfo 32 a.root b.root) else if f.offset = 35 then (a.tick == b.tick) else true) rfl (by kernel_rfl) (List.forall_mem_cons.2 ⟨⟨by decide, Iv a.region, Iv b.region, Zav rfl rfl rfl, Zav rfl rfl rfl, Ze9 rfl⟩, List.forall_mem_cons.2 ⟨⟨by decide, Iv a.epoch, Iv b.epoch, Zav rfl rfl rfl, Zav rfl rfl rfl, Ze9 rfl⟩, List.forall_mem_cons.2 ⟨⟨by decide, Iv a.size, Iv b.size, Zav rfl rfl rfl, Zav rfl rfl rfl, Ze9 rfl⟩, List.forall_mem_cons.2 ⟨⟨by decide, .agg (Zag w8 32 a.root).toArray, .agg (Zag w8 32 b.root).toArray, Zce (n := 32) rfl rfl rfl rfl rfl, Zce (n := 32) rfl rfl rfl rfl rfl, Znt rfl rfl rfl⟩, List.forall_mem_cons.2 ⟨⟨by decide, Iv a.tick, Iv b.tick, Zav rfl rfl rfl, Zav rfl rfl rfl, Ze9 rfl⟩, fun _ h => absurd h (by simp)⟩⟩⟩⟩⟩)
theorem Zr4 (a : Head) : Zi6 a a = true := by simp [Zi6, Zfo]
def Zev (a b : Signed) : Bool := ((Zi6 a.head b.head) && ((a.node == b.node) && ((Zfo 32 a.tag b.tag) && true)))
theorem Zwp (a b : Signed) {d : Nat} : Zw Tryd.prog (Op.equalIn (d + 4) 37 (Zf0 a) (Zf0 b)) = some (Zev a b) :=
 eqS (P := Tryd.prog) (d + 3) 37 _ (Zd0 a).toArray (Zd0 b).toArray (fun f => if f.offset = 0 then (Zi6 a.head b.head) else if f.offset = 36 then (a.node == b.node) else if f.offset = 37 then (Zfo 32 a.tag b.tag) else true) rfl (by kernel_rfl) (List.forall_mem_cons.2 ⟨⟨by decide, Zhd a.head, Zhd b.head, Zce (n := 36) rfl rfl rfl rfl rfl, Zce (n := 36) rfl rfl rfl rfl rfl, Z1k a.head b.head⟩, List.forall_mem_cons.2 ⟨⟨by decide, Iv a.node, Iv b.node, Zav rfl rfl rfl, Zav rfl rfl rfl, Ze9 rfl⟩, List.forall_mem_cons.2 ⟨⟨by decide, .agg (Zag w8 32 a.tag).toArray, .agg (Zag w8 32 b.tag).toArray, Zce (n := 32) rfl rfl rfl rfl rfl, Zce (n := 32) rfl rfl rfl rfl rfl, Znt rfl rfl rfl⟩, fun _ h => absurd h (by simp)⟩⟩⟩)
theorem Zo3 (a : Signed) : Zev a a = true := by simp [Zev, Zfo, Zr4]
def okHead (a : Head) : Prop := (-9223372036854775808 ≤ a.region ∧ a.region ≤ 9223372036854775807) ∧ (-9223372036854775808 ≤ a.epoch ∧ a.epoch ≤ 9223372036854775807) ∧ (-9223372036854775808 ≤ a.size ∧ a.size ≤ 9223372036854775807) ∧ True ∧ (-9223372036854775808 ≤ a.tick ∧ a.tick ≤ 9223372036854775807) ∧ True
theorem Zub : Zai Tryd.prog 35 Zfm okHead := by
 intro H encH W fuel cs x h
 obtain ⟨xs, n, _, _, hl, hxl, hel⟩ := DataW.trod_struct (P := Tryd.prog) (t := 35) (fs := _) rfl h
 have hl' : cs.length = 36 := hl.trans (by kernel_rfl)
 obtain ⟨a0, e0, k0⟩ := Zai.at_ (t := 3) (off := 0) (k := 1) (Zai.int (by kernel_rfl)) (hel 0 _ rfl) (by rw [hxl]; decide) rfl (by kernel_rfl) rfl
 have q0 : cs.drop 0 = [Iv a0] ++ cs.drop 1 := by rw [Zax 0 1, e0]
 obtain ⟨a1, e1, k1⟩ := Zai.at_ (t := 3) (off := 1) (k := 1) (Zai.int (by kernel_rfl)) (hel 1 _ rfl) (by rw [hxl]; decide) rfl (by kernel_rfl) rfl
 have q1 : cs.drop 1 = [Iv a1] ++ cs.drop 2 := by rw [Zax 1 1, e1]
 obtain ⟨a2, e2, k2⟩ := Zai.at_ (t := 3) (off := 2) (k := 1) (Zai.int (by kernel_rfl)) (hel 2 _ rfl) (by rw [hxl]; decide) rfl (by kernel_rfl) rfl
 have q2 : cs.drop 2 = [Iv a2] ++ cs.drop 3 := by rw [Zax 2 1, e2]
 obtain ⟨a3, e3, k3⟩ := Zai.at_ (t := 33) (off := 3) (k := 32) (Zai.bytes (n := 32) (tb := 5) (by kernel_rfl) (by kernel_rfl) (by kernel_rfl) (by kernel_rfl)) (hel 3 _ rfl) (by rw [hxl]; decide) rfl (by kernel_rfl) rfl
 have q3 : cs.drop 3 = Zag w8 32 a3 ++ cs.drop 35 := by rw [Zax 3 32, e3]
 obtain ⟨a4, e4, k4⟩ := Zai.at_ (t := 3) (off := 35) (k := 1) (Zai.int (by kernel_rfl)) (hel 4 _ rfl) (by rw [hxl]; decide) rfl (by kernel_rfl) rfl
 have q4 : cs.drop 35 = [Iv a4] ++ cs.drop 36 := by rw [Zax 35 1, e4]
 have qe : cs.drop 36 = [] := List.drop_of_length_le (by omega)
 refine ⟨⟨a0, a1, a2, a3, a4⟩, ?_, k0, k1, k2, k3, k4, trivial⟩
 rw [List.drop_zero] at q0
 rw [q0, q1, q2, q3, q4, qe]
 simp [Zfm]
def okSigned (a : Signed) : Prop := okHead a.head ∧ (-9223372036854775808 ≤ a.node ∧ a.node ≤ 9223372036854775807) ∧ True ∧ True
theorem Zqx : Zai Tryd.prog 37 Zd0 okSigned := by
 intro H encH W fuel cs x h
 obtain ⟨xs, n, _, _, hl, hxl, hel⟩ := DataW.trod_struct (P := Tryd.prog) (t := 37) (fs := _) rfl h
 have hl' : cs.length = 69 := hl.trans (by kernel_rfl)
 obtain ⟨a0, e0, k0⟩ := Zai.at_ (t := 35) (off := 0) (k := 36) (Zub) (hel 0 _ rfl) (by rw [hxl]; decide) rfl (by kernel_rfl) rfl
 have q0 : cs.drop 0 = Zfm a0 ++ cs.drop 36 := by rw [Zax 0 36, e0]
 obtain ⟨a1, e1, k1⟩ := Zai.at_ (t := 3) (off := 36) (k := 1) (Zai.int (by kernel_rfl)) (hel 1 _ rfl) (by rw [hxl]; decide) rfl (by kernel_rfl) rfl
 have q1 : cs.drop 36 = [Iv a1] ++ cs.drop 37 := by rw [Zax 36 1, e1]
 obtain ⟨a2, e2, k2⟩ := Zai.at_ (t := 33) (off := 37) (k := 32) (Zai.bytes (n := 32) (tb := 5) (by kernel_rfl) (by kernel_rfl) (by kernel_rfl) (by kernel_rfl)) (hel 2 _ rfl) (by rw [hxl]; decide) rfl (by kernel_rfl) rfl
 have q2 : cs.drop 37 = Zag w8 32 a2 ++ cs.drop 69 := by rw [Zax 37 32, e2]
 have qe : cs.drop 69 = [] := List.drop_of_length_le (by omega)
 refine ⟨⟨a0, a1, a2⟩, ?_, k0, k1, k2, trivial⟩
 rw [List.drop_zero] at q0
 rw [q0, q1, q2, qe]
 simp [Zd0]
end Go.Flat
namespace Go.Flat
open Go.Proofs
variable {G : Glob}
instance : LawfulBEq ByteArray where
  eq_of_beq := by
    intro a b h
    obtain ⟨x⟩ := a; obtain ⟨y⟩ := b
    exact congrArg ByteArray.mk (eq_of_beq (show (x == y) = true from h))
  rfl := by
    intro a
    obtain ⟨x⟩ := a
    exact (BEq.rfl : (x == x) = true)
structure Claim where
  region : Int
  epoch : Int
  node : Int
  size : Int
  root : D
instance : Inhabited Claim := ⟨⟨0, 0, 0, 0, dz⟩⟩
def Zam (c : Claim) : List Value := [.int .i64 c.region, .int .i64 c.epoch, .int .i64 c.node, .int .i64 c.size] ++ Zag w8 32 c.root
def Zac (c : Claim) : Value := .agg (Zam c).toArray
def Zdh : Cod Claim := ⟨Zam, 36, fun _ => rfl, by decide⟩
structure Entry where
  kind : Int
  client : Int
  seq : Int
  text : ByteArray
  head : Signed
  claim : Claim
def Z5n : Claim := ⟨0, 0, 0, 0, dz⟩
def Z28 : Entry := ⟨0, 0, 0, ⟨#[]⟩, Z29, Z5n⟩
instance : Inhabited Entry := ⟨Z28⟩
def Zda (e : Entry) : List Value := [.int .i64 e.kind, .int .i64 e.client, .int .i64 e.seq, .string e.text] ++ (Zd0 e.head ++ Zam e.claim)
def Zdv (e : Entry) : Value := .agg (Zda e).toArray
def Z60 : Cod Entry := ⟨Zda, 109, fun _ => rfl, by decide⟩
structure Item where
  epoch : Int
  entry : Entry
instance : Inhabited Item := ⟨⟨0, Z28⟩⟩
def Zb5 (x : Item) : List Value := .int .i64 x.epoch :: Zda x.entry
def Zcs (x : Item) : Value := .agg (Zb5 x).toArray
def Zh : Cod Item := ⟨Zb5, 110, fun _ => rfl, by decide⟩
def Zdb (c : Claim) : Prop := (1 ≤ c.region ∧ c.region ≤ 5) ∧ (1 ≤ c.epoch ∧ c.epoch ≤ 900000000) ∧ (1 ≤ c.node ∧ c.node ≤ 3) ∧ (0 ≤ c.size ∧ c.size ≤ 100000)
instance (c : Claim) : Decidable (Zdb c) := inferInstanceAs (Decidable (_ ∧ _))
def Zc9 (c : Claim) : Int := if Zdb c then 0 else 60
theorem Zi1 {c : Claim} (h : Zc9 c = 0) : Zdb c := by
 unfold Zc9 at h
 split at h
 ·assumption
 ·omega
theorem Zks {c : Claim} (h : ¬ Zc9 c = 0) : ¬ Zdb c := fun q => h (if_pos q)
section
open Go.ChangeShapes Go.WideShapes Go.RowKit
def Zdm (a b : Claim) : Bool := ((a.region == b.region) && ((a.epoch == b.epoch) && ((a.node == b.node) && ((a.size == b.size) && ((Zfo 32 a.root b.root) && true)))))
theorem Zr5 (a b : Claim) {d : Nat} : Zw Tryd.prog (Op.equalIn (d + 3) 39 (Zac a) (Zac b)) = some (Zdm a b) :=
 eqS (P := Tryd.prog) (d + 2) 39 _ (Zam a).toArray (Zam b).toArray (fun f => if f.offset = 0 then (a.region == b.region) else if f.offset = 1 then (a.epoch == b.epoch) else if f.offset = 2 then (a.node == b.node) else if f.offset = 3 then (a.size == b.size) else if f.offset = 4 then (Zfo 32 a.root b.root) else true) rfl (by kernel_rfl) (List.forall_mem_cons.2 ⟨⟨by decide, Iv a.region, Iv b.region, Zav rfl rfl rfl, Zav rfl rfl rfl, Ze9 rfl⟩, List.forall_mem_cons.2 ⟨⟨by decide, Iv a.epoch, Iv b.epoch, Zav rfl rfl rfl, Zav rfl rfl rfl, Ze9 rfl⟩, List.forall_mem_cons.2 ⟨⟨by decide, Iv a.node, Iv b.node, Zav rfl rfl rfl, Zav rfl rfl rfl, Ze9 rfl⟩, List.forall_mem_cons.2 ⟨⟨by decide, Iv a.size, Iv b.size, Zav rfl rfl rfl, Zav rfl rfl rfl, Ze9 rfl⟩, List.forall_mem_cons.2 ⟨⟨by decide, .agg (Zag w8 32 a.root).toArray, .agg (Zag w8 32 b.root).toArray, Zce (n := 32) rfl rfl rfl rfl rfl, Zce (n := 32) rfl rfl rfl rfl rfl, Znt rfl rfl rfl⟩, fun _ h => absurd h (by simp)⟩⟩⟩⟩⟩)
theorem Zwr {x y : Operand} (a b : Claim) : Zb9 Tryd.prog .eql 39 x y (Zac a) (Zac b) = some (.bool (Zdm a b)) := Zvs (by kernel_rfl) (by kernel_rfl) (Zr5 a b (d := 9997))
theorem Zkw (a : Claim) : Zdm a a = true := by simp [Zdm, Zfo]
def okClaim (a : Claim) : Prop := (-9223372036854775808 ≤ a.region ∧ a.region ≤ 9223372036854775807) ∧ (-9223372036854775808 ≤ a.epoch ∧ a.epoch ≤ 9223372036854775807) ∧ (-9223372036854775808 ≤ a.node ∧ a.node ≤ 9223372036854775807) ∧ (-9223372036854775808 ≤ a.size ∧ a.size ≤ 9223372036854775807) ∧ True ∧ True
theorem Zsn : Zai Tryd.prog 39 Zam okClaim := by
 intro H encH W fuel cs x h
 obtain ⟨xs, n, _, _, hl, hxl, hel⟩ := DataW.trod_struct (P := Tryd.prog) (t := 39) (fs := _) rfl h
 have hl' : cs.length = 36 := hl.trans (by kernel_rfl)
 obtain ⟨a0, e0, k0⟩ := Zai.at_ (t := 3) (off := 0) (k := 1) (Zai.int (by kernel_rfl)) (hel 0 _ rfl) (by rw [hxl]; decide) rfl (by kernel_rfl) rfl
 have q0 : cs.drop 0 = [Iv a0] ++ cs.drop 1 := by rw [Zax 0 1, e0]
 obtain ⟨a1, e1, k1⟩ := Zai.at_ (t := 3) (off := 1) (k := 1) (Zai.int (by kernel_rfl)) (hel 1 _ rfl) (by rw [hxl]; decide) rfl (by kernel_rfl) rfl
 have q1 : cs.drop 1 = [Iv a1] ++ cs.drop 2 := by rw [Zax 1 1, e1]
 obtain ⟨a2, e2, k2⟩ := Zai.at_ (t := 3) (off := 2) (k := 1) (Zai.int (by kernel_rfl)) (hel 2 _ rfl) (by rw [hxl]; decide) rfl (by kernel_rfl) rfl
 have q2 : cs.drop 2 = [Iv a2] ++ cs.drop 3 := by rw [Zax 2 1, e2]
 obtain ⟨a3, e3, k3⟩ := Zai.at_ (t := 3) (off := 3) (k := 1) (Zai.int (by kernel_rfl)) (hel 3 _ rfl) (by rw [hxl]; decide) rfl (by kernel_rfl) rfl
 have q3 : cs.drop 3 = [Iv a3] ++ cs.drop 4 := by rw [Zax 3 1, e3]
 obtain ⟨a4, e4, k4⟩ := Zai.at_ (t := 33) (off := 4) (k := 32) (Zai.bytes (n := 32) (tb := 5) (by kernel_rfl) (by kernel_rfl) (by kernel_rfl) (by kernel_rfl)) (hel 4 _ rfl) (by rw [hxl]; decide) rfl (by kernel_rfl) rfl
 have q4 : cs.drop 4 = Zag w8 32 a4 ++ cs.drop 36 := by rw [Zax 4 32, e4]
 have qe : cs.drop 36 = [] := List.drop_of_length_le (by omega)
 refine ⟨⟨a0, a1, a2, a3, a4⟩, ?_, k0, k1, k2, k3, k4, trivial⟩
 rw [List.drop_zero] at q0
 rw [q0, q1, q2, q3, q4, qe]
 simp [Zam]
def Zi5 (a b : Entry) : Bool := ((a.kind == b.kind) && ((a.client == b.client) && ((a.seq == b.seq) && ((a.text == b.text) && ((Zev a.head b.head) && ((Zdm a.claim b.claim) && true))))))
theorem Zr6 (a b : Entry) {d : Nat} : Zw Tryd.prog (Op.equalIn (d + 5) 41 (Zdv a) (Zdv b)) = some (Zi5 a b) :=
 eqS (P := Tryd.prog) (d + 4) 41 _ (Zda a).toArray (Zda b).toArray (fun f => if f.offset = 0 then (a.kind == b.kind) else if f.offset = 1 then (a.client == b.client) else if f.offset = 2 then (a.seq == b.seq) else if f.offset = 3 then (a.text == b.text) else if f.offset = 4 then (Zev a.head b.head) else if f.offset = 73 then (Zdm a.claim b.claim) else true) rfl (by kernel_rfl) (List.forall_mem_cons.2 ⟨⟨by decide, Iv a.kind, Iv b.kind, Zav rfl rfl rfl, Zav rfl rfl rfl, Ze9 rfl⟩, List.forall_mem_cons.2 ⟨⟨by decide, Iv a.client, Iv b.client, Zav rfl rfl rfl, Zav rfl rfl rfl, Ze9 rfl⟩, List.forall_mem_cons.2 ⟨⟨by decide, Iv a.seq, Iv b.seq, Zav rfl rfl rfl, Zav rfl rfl rfl, Ze9 rfl⟩, List.forall_mem_cons.2 ⟨⟨by decide, .string a.text, .string b.text, Zav rfl rfl rfl, Zav rfl rfl rfl, Zwq rfl⟩, List.forall_mem_cons.2 ⟨⟨by decide, Zf0 a.head, Zf0 b.head, Zce (n := 69) rfl rfl rfl rfl rfl, Zce (n := 69) rfl rfl rfl rfl rfl, Zwp a.head b.head⟩, List.forall_mem_cons.2 ⟨⟨by decide, Zac a.claim, Zac b.claim, Zce (n := 36) rfl rfl rfl rfl rfl, Zce (n := 36) rfl rfl rfl rfl rfl, Zr5 a.claim b.claim⟩, fun _ h => absurd h (by simp)⟩⟩⟩⟩⟩⟩)
theorem Zgj {x y : Operand} (a b : Entry) : Zb9 Tryd.prog .eql 41 x y (Zdv a) (Zdv b) = some (.bool (Zi5 a b)) := Zvs (by kernel_rfl) (by kernel_rfl) (Zr6 a b (d := 9995))
def okEntry (a : Entry) : Prop := (-9223372036854775808 ≤ a.kind ∧ a.kind ≤ 9223372036854775807) ∧ (-9223372036854775808 ≤ a.client ∧ a.client ≤ 9223372036854775807) ∧ (-9223372036854775808 ≤ a.seq ∧ a.seq ≤ 9223372036854775807) ∧ (a.text.size ≤ maxLen) ∧ okSigned a.head ∧ okClaim a.claim ∧ True
theorem Zso : Zai Tryd.prog 41 Zda okEntry := by
 intro H encH W fuel cs x h
 obtain ⟨xs, n, _, _, hl, hxl, hel⟩ := DataW.trod_struct (P := Tryd.prog) (t := 41) (fs := _) rfl h
 have hl' : cs.length = 109 := hl.trans (by kernel_rfl)
 obtain ⟨a0, e0, k0⟩ := Zai.at_ (t := 31) (off := 0) (k := 1) (Zai.int (by kernel_rfl)) (hel 0 _ rfl) (by rw [hxl]; decide) rfl (by kernel_rfl) rfl
 have q0 : cs.drop 0 = [Iv a0] ++ cs.drop 1 := by rw [Zax 0 1, e0]
 obtain ⟨a1, e1, k1⟩ := Zai.at_ (t := 3) (off := 1) (k := 1) (Zai.int (by kernel_rfl)) (hel 1 _ rfl) (by rw [hxl]; decide) rfl (by kernel_rfl) rfl
 have q1 : cs.drop 1 = [Iv a1] ++ cs.drop 2 := by rw [Zax 1 1, e1]
 obtain ⟨a2, e2, k2⟩ := Zai.at_ (t := 3) (off := 2) (k := 1) (Zai.int (by kernel_rfl)) (hel 2 _ rfl) (by rw [hxl]; decide) rfl (by kernel_rfl) rfl
 have q2 : cs.drop 2 = [Iv a2] ++ cs.drop 3 := by rw [Zax 2 1, e2]
 obtain ⟨a3, e3, k3⟩ := Zai.at_ (t := 9) (off := 3) (k := 1) (Zai.str (by kernel_rfl)) (hel 3 _ rfl) (by rw [hxl]; decide) rfl (by kernel_rfl) rfl
 have q3 : cs.drop 3 = [.string a3] ++ cs.drop 4 := by rw [Zax 3 1, e3]
 obtain ⟨a4, e4, k4⟩ := Zai.at_ (t := 37) (off := 4) (k := 69) (Zqx) (hel 4 _ rfl) (by rw [hxl]; decide) rfl (by kernel_rfl) rfl
 have q4 : cs.drop 4 = Zd0 a4 ++ cs.drop 73 := by rw [Zax 4 69, e4]
 obtain ⟨a5, e5, k5⟩ := Zai.at_ (t := 39) (off := 73) (k := 36) (Zsn) (hel 5 _ rfl) (by rw [hxl]; decide) rfl (by kernel_rfl) rfl
 have q5 : cs.drop 73 = Zam a5 ++ cs.drop 109 := by rw [Zax 73 36, e5]
 have qe : cs.drop 109 = [] := List.drop_of_length_le (by omega)
 refine ⟨⟨a0, a1, a2, a3, a4, a5⟩, ?_, k0, k1, k2, k3, k4, k5, trivial⟩
 rw [List.drop_zero] at q0
 rw [q0, q1, q2, q3, q4, q5, qe]
 simp [Zda]
def Zgr (a b : Item) : Bool := ((a.epoch == b.epoch) && ((Zi5 a.entry b.entry) && true))
theorem Z1l (a b : Item) {d : Nat} : Zw Tryd.prog (Op.equalIn (d + 6) 43 (Zcs a) (Zcs b)) = some (Zgr a b) :=
 eqS (P := Tryd.prog) (d + 5) 43 _ (Zb5 a).toArray (Zb5 b).toArray (fun f => if f.offset = 0 then (a.epoch == b.epoch) else if f.offset = 1 then (Zi5 a.entry b.entry) else true) rfl (by kernel_rfl) (List.forall_mem_cons.2 ⟨⟨by decide, Iv a.epoch, Iv b.epoch, Zav rfl rfl rfl, Zav rfl rfl rfl, Ze9 rfl⟩, List.forall_mem_cons.2 ⟨⟨by decide, Zdv a.entry, Zdv b.entry, Zce (n := 109) rfl rfl rfl rfl rfl, Zce (n := 109) rfl rfl rfl rfl rfl, Zr6 a.entry b.entry⟩, fun _ h => absurd h (by simp)⟩⟩)
theorem Zsl {x y : Operand} (a b : Item) : Zb9 Tryd.prog .neq 43 x y (Zcs a) (Zcs b) = some (.bool (!Zgr a b)) := Z11 (by kernel_rfl) (by kernel_rfl) (Z1l a b (d := 9994))
def okItem (a : Item) : Prop := (-9223372036854775808 ≤ a.epoch ∧ a.epoch ≤ 9223372036854775807) ∧ okEntry a.entry ∧ True
theorem Zuc : Zai Tryd.prog 43 Zb5 okItem := by
 intro H encH W fuel cs x h
 obtain ⟨xs, n, _, _, hl, hxl, hel⟩ := DataW.trod_struct (P := Tryd.prog) (t := 43) (fs := _) rfl h
 have hl' : cs.length = 110 := hl.trans (by kernel_rfl)
 obtain ⟨a0, e0, k0⟩ := Zai.at_ (t := 3) (off := 0) (k := 1) (Zai.int (by kernel_rfl)) (hel 0 _ rfl) (by rw [hxl]; decide) rfl (by kernel_rfl) rfl
 have q0 : cs.drop 0 = [Iv a0] ++ cs.drop 1 := by rw [Zax 0 1, e0]
 obtain ⟨a1, e1, k1⟩ := Zai.at_ (t := 41) (off := 1) (k := 109) (Zso) (hel 1 _ rfl) (by rw [hxl]; decide) rfl (by kernel_rfl) rfl
 have q1 : cs.drop 1 = Zda a1 ++ cs.drop 110 := by rw [Zax 1 109, e1]
 have qe : cs.drop 110 = [] := List.drop_of_length_le (by omega)
 refine ⟨⟨a0, a1⟩, ?_, k0, k1, trivial⟩
 rw [List.drop_zero] at q0
 rw [q0, q1, qe]
 simp [Zb5]
end
theorem Zar (n low high : Int) : Z4 Tryd.prog G 54 [Iv n, Iv low, Iv high] [] (.bool (Zcg n low high)) [] := by
 refine Zbd (fn := Tryd.f54) (nt := 15) rfl rfl rfl rfl ?_
 refine Ze (Zg (Zc (.bool false) (Za (Zb (Ze (Zg (Zd (Iv n) (Zd (Iv low) ?_))))))))
 by_cases h1 : low ≤ n
 refine Zl (vx := Iv n) (vy := Iv low) rfl rfl (.bool true) rfl rfl (Znx (by omega)) ?_
 refine Zd (.bool true) (Zd (Iv n) (Zd (Iv high) ?_))
 by_cases h2 : n ≤ high
 refine Zl (vx := Iv n) (vy := Iv high) rfl rfl (.bool true) rfl rfl (Zj3 (by omega)) ?_
 refine Zj (.bool true) (Zc (.bool true) (Za (Zb (Zr (Zs ?_)))))
 rw [show Zcg n low high = true from Zbn (by omega) (by omega)]
 exact Zk (v := .bool true) rfl rfl rfl (by kernel_rfl) rfl
 refine Zl (vx := Iv n) (vy := Iv high) rfl rfl (.bool false) rfl rfl (Zj2 (by omega)) ?_
 refine Zj (.bool false) (Zc (.bool false) (Za (Zb (Zr (Zs ?_)))))
 rw [show Zcg n low high = false from Zab (by omega)]
 exact Zk (v := .bool false) rfl rfl rfl (by kernel_rfl) rfl
 refine Zl (vx := Iv n) (vy := Iv low) rfl rfl (.bool false) rfl rfl (Znw (by omega)) ?_
 refine Zd (.bool false) (Zf (Zf (Zf (Zj (.bool false) (Zc (.bool false) (Za (Zb (Zr (Zs ?_)))))))))
 rw [show Zcg n low high = false from Zab (by omega)]
 exact Zk (v := .bool false) rfl rfl rfl (by kernel_rfl) rfl
theorem Zb3 (b : Bool) : Z4 Tryd.prog G 53 [.bool b] [] (Iv (if b then 0 else 60)) [] := by
 refine Zbd (fn := Tryd.f53) (nt := 4) rfl rfl rfl rfl ?_
 refine Ze (Zg (Zc (Iv 0) (Za (Zb (Ze (Ze (Zg (Zd (.bool b) (Za (Zb ?_))))))))))
 rcases Bool.eq_false_or_eq_true b with h1 | h1
 refine Zy (congrArg Value.bool h1) (Ze (Zg (Zc (Iv 0) (Za (Zb (Zr (Z3 (Zs ?_))))))))
 rw [show (if b = true then (0 : Int) else 60) = 0 from by simp [*]]
 exact Zk (v := Iv 0) rfl rfl rfl (by kernel_rfl) rfl
 refine Zt (congrArg Value.bool h1) (Zx (Zb (Ze (Zg (Zc (Iv 60) (Za (Zb (Zr (Zs ?_)))))))))
 rw [show (if b = true then (0 : Int) else 60) = 60 from by simp [*]]
 exact Zk (v := Iv 60) rfl rfl rfl (by kernel_rfl) rfl
theorem Zfv (c : Claim) : Z4 Tryd.prog G 41 [Zac c] [] (Iv (Zc9 c)) [] := by
 refine Zbd (fn := Tryd.f41) (nt := 22) rfl rfl rfl rfl ?_
 refine Zae 1 (H' := [hole]) rfl ?_
 refine Ze (Zg (Zbs (v := Zac c) (b := bxB 36 (Zam c)) (nid := 0) (H' := [bxB 36 (Zam c)]) (Zc (Iv 0) (Za (Zb (Ze (Zg (Zi (b := 0) (o := 0) (n := 0) (o' := 0) (Zm (p := pt 0 0) (v := Iv c.region) ?_)))))))))
 by_cases h1 : 1 ≤ c.region
 by_cases h2 : c.region ≤ 5
 refine Zq ((Zar (G := G) c.region 1 5).res (congrArg Value.bool (Zbn (by omega) (by omega)))) (vals := [Iv c.region, Iv 1, Iv 5]) (res' := .bool true) rfl rfl rfl rfl rfl rfl ?_
 refine Zd (.bool true) (Zi (b := 0) (o := 0) (n := 1) (o' := 1) (Zm (p := pt 0 1) (v := Iv c.epoch) ?_))
 by_cases h3 : 1 ≤ c.epoch
 by_cases h4 : c.epoch ≤ 900000000
 refine Zq ((Zar (G := G) c.epoch 1 900000000).res (congrArg Value.bool (Zbn (by omega) (by omega)))) (vals := [Iv c.epoch, Iv 1, Iv 900000000]) (res' := .bool true) rfl rfl rfl rfl rfl rfl ?_
 refine Zj (.bool true) (Zd (.bool true) (Zi (b := 0) (o := 0) (n := 2) (o' := 2) (Zm (p := pt 0 2) (v := Iv c.node) ?_)))
 by_cases h5 : 1 ≤ c.node
 by_cases h6 : c.node ≤ 3
 refine Zq ((Zar (G := G) c.node 1 3).res (congrArg Value.bool (Zbn (by omega) (by omega)))) (vals := [Iv c.node, Iv 1, Iv 3]) (res' := .bool true) rfl rfl rfl rfl rfl rfl ?_
 refine Zj (.bool true) (Zd (.bool true) (Zi (b := 0) (o := 0) (n := 3) (o' := 3) (Zm (p := pt 0 3) (v := Iv c.size) ?_)))
 by_cases h7 : 0 ≤ c.size
 by_cases h8 : c.size ≤ 100000
 refine Zq ((Zar (G := G) c.size 0 100000).res (congrArg Value.bool (Zbn (by omega) (by omega)))) (vals := [Iv c.size, Iv 0, Iv 100000]) (res' := .bool true) rfl rfl rfl rfl rfl rfl ?_
 refine Zj (.bool true) ?_
 refine Zq (Zb3 (G := G) true) (vals := [.bool true]) (res' := Iv 0) rfl rfl rfl rfl rfl rfl ?_
 refine Zc (Iv 0) (Za (Zb (Zr (Zs ?_))))
 rw [show Zc9 c = 0 from if_pos (by unfold Zdb; omega)]
 exact Zk (v := Iv 0) rfl rfl rfl (by kernel_rfl) rfl
 refine Zq ((Zar (G := G) c.size 0 100000).res (congrArg Value.bool (Zab (by omega)))) (vals := [Iv c.size, Iv 0, Iv 100000]) (res' := .bool false) rfl rfl rfl rfl rfl rfl ?_
 refine Zj (.bool false) ?_
 refine Zq (Zb3 (G := G) false) (vals := [.bool false]) (res' := Iv 60) rfl rfl rfl rfl rfl rfl ?_
 refine Zc (Iv 60) (Za (Zb (Zr (Zs ?_))))
 rw [show Zc9 c = 60 from if_neg (by unfold Zdb; omega)]
 exact Zk (v := Iv 60) rfl rfl rfl (by kernel_rfl) rfl
 refine Zq ((Zar (G := G) c.size 0 100000).res (congrArg Value.bool (Zab (by omega)))) (vals := [Iv c.size, Iv 0, Iv 100000]) (res' := .bool false) rfl rfl rfl rfl rfl rfl ?_
 refine Zj (.bool false) ?_
 refine Zq (Zb3 (G := G) false) (vals := [.bool false]) (res' := Iv 60) rfl rfl rfl rfl rfl rfl ?_
 refine Zc (Iv 60) (Za (Zb (Zr (Zs ?_))))
 rw [show Zc9 c = 60 from if_neg (by unfold Zdb; omega)]
 exact Zk (v := Iv 60) rfl rfl rfl (by kernel_rfl) rfl
 refine Zq ((Zar (G := G) c.node 1 3).res (congrArg Value.bool (Zab (by omega)))) (vals := [Iv c.node, Iv 1, Iv 3]) (res' := .bool false) rfl rfl rfl rfl rfl rfl ?_
 refine Zj (.bool false) (Zd (.bool false) (Zf (Zf (Zf (Zj (.bool false) ?_)))))
 refine Zq (Zb3 (G := G) false) (vals := [.bool false]) (res' := Iv 60) rfl rfl rfl rfl rfl rfl ?_
 refine Zc (Iv 60) (Za (Zb (Zr (Zs ?_))))
 rw [show Zc9 c = 60 from if_neg (by unfold Zdb; omega)]
 exact Zk (v := Iv 60) rfl rfl rfl (by kernel_rfl) rfl
 refine Zq ((Zar (G := G) c.node 1 3).res (congrArg Value.bool (Zab (by omega)))) (vals := [Iv c.node, Iv 1, Iv 3]) (res' := .bool false) rfl rfl rfl rfl rfl rfl ?_
 refine Zj (.bool false) (Zd (.bool false) (Zf (Zf (Zf (Zj (.bool false) ?_)))))
 refine Zq (Zb3 (G := G) false) (vals := [.bool false]) (res' := Iv 60) rfl rfl rfl rfl rfl rfl ?_
 refine Zc (Iv 60) (Za (Zb (Zr (Zs ?_))))
 rw [show Zc9 c = 60 from if_neg (by unfold Zdb; omega)]
 exact Zk (v := Iv 60) rfl rfl rfl (by kernel_rfl) rfl
 refine Zq ((Zar (G := G) c.epoch 1 900000000).res (congrArg Value.bool (Zab (by omega)))) (vals := [Iv c.epoch, Iv 1, Iv 900000000]) (res' := .bool false) rfl rfl rfl rfl rfl rfl ?_
 refine Zj (.bool false) (Zd (.bool false) (Zf (Zf (Zf (Zj (.bool false) (Zd (.bool false) (Zf (Zf (Zf (Zj (.bool false) ?_))))))))))
 refine Zq (Zb3 (G := G) false) (vals := [.bool false]) (res' := Iv 60) rfl rfl rfl rfl rfl rfl ?_
 refine Zc (Iv 60) (Za (Zb (Zr (Zs ?_))))
 rw [show Zc9 c = 60 from if_neg (by unfold Zdb; omega)]
 exact Zk (v := Iv 60) rfl rfl rfl (by kernel_rfl) rfl
 refine Zq ((Zar (G := G) c.epoch 1 900000000).res (congrArg Value.bool (Zab (by omega)))) (vals := [Iv c.epoch, Iv 1, Iv 900000000]) (res' := .bool false) rfl rfl rfl rfl rfl rfl ?_
 refine Zj (.bool false) (Zd (.bool false) (Zf (Zf (Zf (Zj (.bool false) (Zd (.bool false) (Zf (Zf (Zf (Zj (.bool false) ?_))))))))))
 refine Zq (Zb3 (G := G) false) (vals := [.bool false]) (res' := Iv 60) rfl rfl rfl rfl rfl rfl ?_
 refine Zc (Iv 60) (Za (Zb (Zr (Zs ?_))))
 rw [show Zc9 c = 60 from if_neg (by unfold Zdb; omega)]
 exact Zk (v := Iv 60) rfl rfl rfl (by kernel_rfl) rfl
 refine Zq ((Zar (G := G) c.region 1 5).res (congrArg Value.bool (Zab (by omega)))) (vals := [Iv c.region, Iv 1, Iv 5]) (res' := .bool false) rfl rfl rfl rfl rfl rfl ?_
 refine Zd (.bool false) (Zf (Zf (Zf (Zj (.bool false) (Zd (.bool false) (Zf (Zf (Zf (Zj (.bool false) (Zd (.bool false) (Zf (Zf (Zf (Zj (.bool false) ?_))))))))))))))
 refine Zq (Zb3 (G := G) false) (vals := [.bool false]) (res' := Iv 60) rfl rfl rfl rfl rfl rfl ?_
 refine Zc (Iv 60) (Za (Zb (Zr (Zs ?_))))
 rw [show Zc9 c = 60 from if_neg (by unfold Zdb; omega)]
 exact Zk (v := Iv 60) rfl rfl rfl (by kernel_rfl) rfl
 refine Zq ((Zar (G := G) c.region 1 5).res (congrArg Value.bool (Zab (by omega)))) (vals := [Iv c.region, Iv 1, Iv 5]) (res' := .bool false) rfl rfl rfl rfl rfl rfl ?_
 refine Zd (.bool false) (Zf (Zf (Zf (Zj (.bool false) (Zd (.bool false) (Zf (Zf (Zf (Zj (.bool false) (Zd (.bool false) (Zf (Zf (Zf (Zj (.bool false) ?_))))))))))))))
 refine Zq (Zb3 (G := G) false) (vals := [.bool false]) (res' := Iv 60) rfl rfl rfl rfl rfl rfl ?_
 refine Zc (Iv 60) (Za (Zb (Zr (Zs ?_))))
 rw [show Zc9 c = 60 from if_neg (by unfold Zdb; omega)]
 exact Zk (v := Iv 60) rfl rfl rfl (by kernel_rfl) rfl
end Go.Flat
