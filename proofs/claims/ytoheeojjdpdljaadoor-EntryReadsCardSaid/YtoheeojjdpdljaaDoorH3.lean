/- Walks. -/
import Derived.Test.YtoheeojjdpdljaaDoorXD
import Derived.Test.YtoheeojjdpdljaaDoorFlatI
import Derived.Laws.Strings
set_option linter.unusedVariables false
set_option linter.unusedSimpArgs false
set_option maxRecDepth 20000
namespace Go.Flat
open Go.Proofs
def rdB (l : Bs) : Blk := { cells := l.map w8, sz := 1, wr := false, fix := false, mv := true, pur := true }
def Zjq (n : Nat) (d : D) : Bs := (List.range n).map d
theorem Zkf (n : Nat) (d : D) : (Zjq n d).length = n := by simp [Zjq]
theorem Zy2 (n : Nat) (d : D) : Zbx w8 n d = (Zjq n d).map w8 := by unfold Zbx Zjq; rw [List.map_map]; rfl
theorem Zh6 (s : ByteArray) : Zl (bl s) = s := by
 unfold bl Zl
 simp only [List.map_map]
 have : (UInt8.ofBitVec ∘ UInt8.toBitVec) = (id : UInt8 → UInt8) := rfl
 rw [this, List.map_id]
theorem Zgp {a b : Bs} (h : Zl a = Zl b) : a = b := by have := congrArg bl h; rwa [Zdi, Zdi] at this
theorem Za9 (a b : ByteArray) : Zbq a b = true ↔ a = b := by
  unfold Zbq
  rw [beq_iff_eq]
  constructor
  · intro h
    rw [Go.ByteArray.toList_eq, Go.ByteArray.toList_eq] at h
    have h2 := Array.toList_inj.1 h
    cases a; cases b; dsimp only at h2; rw [h2]
  · intro h; rw [h]
theorem Zbd {e : Emb} {res v : Value} (hp : Zb2 res = true) (h : v = res) : Zlo e res v := by unfold Zlo; rw [if_pos hp]; exact h
theorem Zj5 {a : ByteArray} (h : Zbq a ⟨#[]⟩ = true) : a.size = 0 := by rw [(Za9 _ _).1 h]; rfl
theorem Zjt {a : ByteArray} (h : Zbq a ⟨#[]⟩ = false) : 1 ≤ a.size := by
  rcases Nat.eq_zero_or_pos a.size with h0 | h0
  · have : a = ⟨#[]⟩ := by
      rw [← Zh6 a]
      have hl : (bl a).length = 0 := by rw [Zb5]; exact h0
      rw [List.eq_nil_of_length_eq_zero hl]; rfl
    rw [(Za9 _ _).2 this] at h; cases h
  · exact h0
theorem Zy3 (a b : Bs) : Zbq (Zl a) (Zl b) = true ↔ a = b := by rw [Za9]; exact ⟨Zgp, fun h => h ▸ rfl⟩
section
variable {P : Program} {G : Glob} {t : TypeId} {H : List Blk} {b o n c : Nat} {blk : Blk} {l : Bs}
theorem Zd3 (hk : Zfh P t = some (false, 1)) (hb : H[b]? = some blk) (hc : blk.cells = l.map w8) (hi : o < l.length) : Zfd P G t H (.pointer (some ⟨b, o, none⟩)) = some (w8 (l.getD o 0)) :=
 Zkb hk hb (by rw [hc]; simp [hi]) rfl
theorem Zmp {src dst e : TypeId} {x : ByteArray} (h1 : P.underlying src = some (.slice e)) (h2 : P.underlying dst = some .string) (h3 : Zhe P e = true) (hb : H[b]? = some blk) (hc : blk.cells = l.map w8) (hl : o + n ≤ l.length) (hx : Zl ((l.drop o).take n) = x) : Zse P H src dst (slv b o n c) = some (.string x) := by
 subst hx
 exact Zi2 h1 h2 h3 hb (by rw [hc]; simpa using hl) (by rw [hc, List.map_take, List.map_drop])
theorem Zbi {src dst e : TypeId} (h1 : P.underlying src = some (.slice e)) (h2 : P.underlying dst = some .string) (h3 : Zhe P e = true) (hb : H[b]? = some blk) (hc : blk.cells = l.map w8) (hl : n = l.length) : Zse P H src dst (slv b 0 n c) = some (.string (Zl l)) :=
 Zmp h1 h2 h3 hb hc (by omega) (by rw [List.drop_zero, List.take_of_length_le (by omega)])
theorem Zfq {src dst e : TypeId} {s : ByteArray} {nid : Nat} (h1 : P.underlying src = some .string) (h2 : P.underlying dst = some (.slice e)) (h3 : (Zhe P e && Zdy H nid) = true) : Zh4 P H src dst (.string s) nid = some (slv nid 0 s.size s.size, Zy (bl s)) := by
 unfold Zh4
 rw [h1, h2]
 simp only [h3, if_true, Zgq]
 rfl
theorem Zdk {e : Emb} {id : Nat} {l : Bs} (hB : H[id]? = some (rdB l)) : Zeq H e (some (id, 0)) (rdB l) :=
 Zjz hB rfl (by show 0 + (l.map w8).length ≤ (l.map w8).length; omega) (by show ((l.map w8).drop 0).take (l.map w8).length = l.map w8; rw [List.drop_zero, List.take_length])
theorem Ze1 {e : Emb} {id : Nat} {l : Bs} (hB : H[id]? = some (Zy l)) : Zeq H e (some (id, 0)) (rdB l) :=
 Zjz hB rfl (by show 0 + (l.map w8).length ≤ (l.map w8).length; omega) (by show ((l.map w8).drop 0).take (l.map w8).length = l.map w8; rw [List.drop_zero, List.take_length])
theorem Zme {e : Emb} {id o n : Nat} {l : Bs} {B : Blk} (hB : H[id]? = some B) (hb : B = rdB l ∨ B = Zy l) (h : o + n ≤ l.length) : Zeq H e (some (id, o)) (rdB ((l.drop o).take n)) := by
  have hc : B.cells = l.map w8 := by rcases hb with rfl | rfl <;> rfl
  refine Zjz hB (by rcases hb with rfl | rfl <;> rfl) ?_ ?_
  · rw [hc]; show o + (((l.drop o).take n).map w8).length ≤ _; simp; omega
  · rw [hc]; show ((l.map w8).drop o).take (((l.drop o).take n).map w8).length = ((l.drop o).take n).map w8
    rw [List.length_map, ← List.map_drop, ← List.map_take]
    congr 1
    rw [List.length_take, List.take_eq_take_iff]; simp
end


section
variable {P : Program} {G : Glob} {t : TypeId} {H : List Blk} {b o n c k n' by_ : Nat} {blk : Blk} {zc : List Value}
theorem Zdv {l : List ByteArray} (hk : Zfh P t = some (false, 1)) (hb : H[b]? = some blk) (hc : blk.cells = l.map Value.string) (hi : o < l.length) : Zfd P G t H (.pointer (some ⟨b, o, none⟩)) = some (.string (l.getD o ⟨#[]⟩)) :=
 Zkb hk hb (by rw [hc]; simp [hi]) rfl
theorem Z2t (l : List ByteArray) : (l.map Value.string).all Zcf = true := by simp only [List.all_map, List.all_eq_true]; intros; rfl
theorem Zhf {q : Value} {ls ms : List ByteArray} (ht : Zdu P t = some (1, zc, by_)) (hz : zc.length = 1) (hs : Zhg H 1 q = some (k, ms.map Value.string)) (hb : H[b]? = some (txB ls)) (hn : ls.length = n) (hk : n + k = n') (hby : 0 < by_) (hm : n' * by_ ≤ 140737488355328) :
  Zqa P H t (slv b 0 n c) q = some (slv b 0 n' n', b, txB (ls ++ ms)) := by
 have hc : (txB ls).cells.length = n := by show (ls.map Value.string).length = _; simp [hn]
 rw [Zit (n' := n') (p := (k, ms.map Value.string)) ht hs hb rfl rfl hz (Z2t ms) (by rw [hc]; omega) hby hk hm]
 have : List.take (n * 1) (List.drop 0 (txB ls).cells) ++ ms.map Value.string = (ls ++ ms).map Value.string := by
  rw [List.drop_zero, List.take_of_length_le (by rw [hc]; omega), List.map_append]; rfl
 simp only [this]
 rfl
theorem Zhh {α : Type} (cd : Cod α) {q : Value} {ls ms : List α} {cs : List Value} (hp : ∀ x, (cd.enc x).all Zcf = true) (ht : Zdu P t = some (cd.n, zc, by_)) (hz : zc.length = cd.n) (hs : Zhg H cd.n q = some (k, cs)) (hcs : cs = cd.row ms) (hb : H[b]? = some (rwB cd ls)) (hn : ls.length = n) (hk : n + k = n') (hby : 0 < by_) (hm : n' * by_ ≤ 140737488355328) :
  Zqa P H t (slv b 0 n c) q = some (slv b 0 n' n', b, rwB cd (ls ++ ms)) := by
 subst hcs
 have hc : (rwB cd ls).cells.length = n * cd.n := by show (cd.row ls).length = _; rw [cd.row_len, hn]
 have hpp : (cd.row ms).all Zcf = true := by
  unfold Cod.row
  rw [List.all_eq_true]
  intro v hv
  obtain ⟨l, hl, hv⟩ := List.mem_flatten.1 hv
  obtain ⟨x, hx, rfl⟩ := List.mem_map.1 hl
  exact List.all_eq_true.1 (hp x) v hv
 rw [Zit (n' := n') (p := (k, cd.row ms)) ht hs hb rfl rfl hz hpp (by rw [hc]; omega) hby hk hm]
 have : List.take (n * cd.n) (List.drop 0 (rwB cd ls).cells) ++ cd.row ms = cd.row (ls ++ ms) := by
  rw [List.drop_zero, List.take_of_length_le (by rw [hc]; exact Nat.le_refl _), cd.row_app]; rfl
 simp only [this]
 rfl
theorem Z3a {l : Bs} (hb : H[b]? = some blk) (hc : blk.cells = l.map w8) (hl : o + n ≤ l.length) : Zhg H 1 (slv b o n c) = some (n, ((l.drop o).take n).map w8) :=
 Z10 (sz := 1) hb (by rw [hc, Nat.mul_one]; simpa using hl) (by rw [hc, Nat.mul_one, List.map_take, List.map_drop])
theorem Zka {l : Bs} (hb : H[b]? = some blk) (hc : blk.cells = l.map w8) (hl : n = l.length) : Zhg H 1 (slv b 0 n c) = some (n, l.map w8) := by
 rw [Z3a hb hc (by omega), List.drop_zero, List.take_of_length_le (by omega)]
end
theorem Zho {P : Program} {t : TypeId} {s : ByteArray} {k : IntKind} {i : Int} {n : Nat} (hu : P.underlying t = some .string) (hi : i = (n : Int)) (hn : n < s.size) : Zlj P t (.string s) (.int k i) = some (w8 ((bl s).getD n 0)) := by
 rw [Zxz hu hi hn]
 have hl : n < s.data.toList.length := by simpa using hn
 have e : (bl s).getD n 0 = s.data.toList[n].toBitVec := by
  unfold bl
  rw [List.getD_eq_getElem?_getD, List.getElem?_map, List.getElem?_eq_getElem hl]; rfl
 rw [e]; rfl
theorem Zrn {P : Program} {op : BinOp} {t : TypeId} {x y : Operand} {a b v v' : Value} (h : Zcb P op t x y a b = some v) (e : v = v') : Zcb P op t x y a b = some v' := e ▸ h
def Z7l : Cod ByteArray := ⟨fun s => [.string s], 1, fun _ => rfl, by decide⟩
end Go.Flat
namespace Go.Flat
open Go.Proofs
variable {G : Glob}
structure Field where
  tag : Int
  data : ByteArray
def fdC (f : Field) : List Value := [.int .i64 f.tag, .string f.data]
def fdV (f : Field) : Value := .agg (fdC f).toArray
def cFd : Cod Field := ⟨fdC, 2, fun _ => rfl, by decide⟩
instance : Inhabited Field := ⟨⟨0, ⟨#[]⟩⟩⟩

def Zjr : Nat → Nat → Nat → D → Bs
  | 0, _, a, b => (Zjq 8 b).drop a
  | f + 1, n, a, b => if n = 0 then (Zjq 8 b).drop a else Zjr f (n / 256) (a - 1) (Zha b (a - 1) (BitVec.ofInt 8 (n : Int)))
theorem Zyc (f a : Nat) (b : D) : Zjr f 0 a b = (Zjq 8 b).drop a := by cases f <;> simp [Zjr]
theorem Zla {k a : Nat} (hk : k < 256 ^ a) (h : 1 ≤ k) : 1 ≤ a := by
 cases a with
 | zero => simp at hk; omega
 | succ a => omega
theorem Zxu {a k q a' : Nat} {b : D} {x : BitVec 8} {R : Bs} (hR : Zjr a k a b = R) (hk : k < 256 ^ a) (h1 : 0 < k) (hx : x = BitVec.ofInt 8 (k : Int)) (ha' : a = a' + 1) (hq : q = k / 256 := by rfl) (h8 : a ≤ 8 := by omega) : Zjr a' q a' (Zha b a' x) = R ∧ q < 256 ^ a' ∧ a' ≤ 8 := by
 subst ha'; subst hx; subst hq
 refine ⟨?_, ?_, by omega⟩
 ·rw [Zjr, if_neg (by omega)] at hR; exact hR
 ·rw [Nat.pow_succ] at hk; exact Nat.div_lt_of_lt_mul (by omega)
def Zp (n : Int) : ByteArray × Int := if 0 ≤ n ∧ n ≤ 4611686018427387903 then (Zl (Zjr 8 n.toNat 8 dz), 0) else (⟨#[]⟩, 1)
theorem Zq8 (n : Int) (hl : -9223372036854775808 ≤ n) (hh : n ≤ 9223372036854775807) : Zao Tryd.prog G 56 [Iv n] [] (.tuple #[.string (Zp n).1, Iv (Zp n).2]) [] := by
  refine Zbv (fn := Tryd.f56) (nt := 25) rfl rfl rfl rfl ?_
  refine Zat 1 (H' := [hole]) rfl ?_
  refine Zg (Zi (Zb rfl rfl (.string ⟨#[]⟩) rfl (Zb rfl rfl (Iv 0) rfl (Za (Zc (Zg (Zg (Zi (Zd rfl rfl (Iv n) rfl ?_)))))))))
  by_cases h1 : n < 0
  refine Zn (vx := Iv n) (vy := Iv 0) rfl rfl (.bool true) rfl rfl (Zdt (by omega)) ?_
  refine Zd rfl rfl (.bool true) rfl (Zf rfl rfl (Zf rfl rfl (Zk rfl rfl (.bool true) rfl (Za (Zc (Z0 rfl (Zg (Zi (Zb rfl rfl (.string ⟨#[]⟩) rfl (Zb rfl rfl (Iv 1) rfl (Za (Zc (Zv (Z5 (Zu ?_)))))))))))))))
  rw [show Zp n = (⟨#[]⟩, 1) from if_neg (by omega)]
  exact Zm (v := .tuple #[.string ⟨#[]⟩, Iv 1]) rfl rfl rfl (by kernel_rfl) ⟨rfl, rfl, trivial⟩
  refine Zn (vx := Iv n) (vy := Iv 0) rfl rfl (.bool false) rfl rfl (Zdh (by omega)) ?_
  refine Zd rfl rfl (.bool false) rfl (Zd rfl rfl (Iv n) rfl ?_)
  by_cases h2 : 4611686018427387903 < n
  refine Zn (vx := Iv n) (vy := Iv 4611686018427387903) rfl rfl (.bool true) rfl rfl (Zf1 (by omega)) ?_
  refine Zk rfl rfl (.bool true) rfl (Za (Zc (Z0 rfl (Zg (Zi (Zb rfl rfl (.string ⟨#[]⟩) rfl (Zb rfl rfl (Iv 1) rfl (Za (Zc (Zv (Z5 (Zu ?_))))))))))))
  rw [show Zp n = (⟨#[]⟩, 1) from if_neg (by omega)]
  exact Zm (v := .tuple #[.string ⟨#[]⟩, Iv 1]) rfl rfl rfl (by kernel_rfl) ⟨rfl, rfl, trivial⟩
  refine Zn (vx := Iv n) (vy := Iv 4611686018427387903) rfl rfl (.bool false) rfl rfl (Zf8 (by omega)) ?_
  refine Zk rfl rfl (.bool false) rfl (Za (Zc (Zx rfl (Zai (Zc (Zg ?_))))))
  obtain ⟨m, rfl⟩ : ∃ x0 : Nat, n = (x0 : Int) := ⟨n.toNat, by omega⟩
  refine Zi ?_
  refine Zae (b := bxB 8 (Zbx w8 8 dz)) (nid := 0) (H' := [bxB 8 (Zbx w8 8 dz)]) rfl rfl (by kernel_rfl) (by kernel_rfl) ?_
  refine Za (Zc (Zg (Zi (Zb rfl rfl (Iv 8) rfl (Za (Zc (Zg (Zap ?_))))))))
  refine Zb8 (fun x : Nat × Nat × D => match x with | (k, a, b) => [Iv (k : Nat), dead, .string ⟨#[]⟩, Iv 0, pt 0 0, Iv (a : Nat), Iv (m : Nat), .bool false, .bool false, Iv (m : Nat), .bool false, .bool false]) (fun x : Nat × Nat × D => match x with | (k, a, b) => [bxB 8 (Zbx w8 8 b)]) (fun x : Nat × Nat × D => match x with | (k, a, b) => Zjr a k a b = Zjr 8 m 8 dz ∧ k < 256 ^ a ∧ a ≤ 8) (fun x : Nat × Nat × D => match x with | (k, a, b) => a) (m, 8, dz) ⟨rfl, by omega, by omega⟩ ?_ ?_
  · refine Zaq (n := 1) rfl ?_ (by kernel_rfl) (by kernel_rfl)
    repeat (first | exact trivial | refine ⟨.inl rfl, ?_⟩ | refine ⟨.inr ⟨rfl, rfl⟩, ?_⟩ | refine ⟨.inr ⟨congrArg (Value.int .i64) (by first | omega | (dsimp only; omega)), rfl⟩, ?_⟩)
  rintro ⟨k, a, b⟩ ⟨hR, hk, ha⟩
  dsimp only at *
  refine Zg (Zg (Zi (Zd rfl rfl (Iv (k : Nat)) rfl ?_)))
  by_cases h3 : 0 < (k : Nat)
  refine Zn (vx := Iv (k : Nat)) (vy := Iv 0) rfl rfl (.bool true) rfl rfl (Zf1 (by omega)) ?_
  refine Za (Zc (Z0 rfl (Zai (Zc (Zg (Zap (Zg ?_)))))))
  have h1a := Zla hk (by omega)
  refine Zi (Zd rfl rfl (Iv (a : Nat)) rfl ?_)
  refine Zn (vx := Iv (a : Nat)) (vy := Iv 1) rfl rfl (Iv ((a : Nat) - 1)) rfl rfl (Zku (by omega) (by omega) (by omega)) ?_
  refine Zb rfl rfl (Iv ((a : Nat) - 1)) rfl (Za (Zc (Zi (Zd rfl rfl (Iv ((a : Nat) - 1)) rfl (Zd rfl rfl (Iv (k : Nat)) rfl ?_)))))
  refine Zdb (w := Iv (k : Nat)) (v := w8 (BitVec.ofInt 8 (k : Nat))) rfl rfl rfl (Zjn rfl rfl rfl) ?_
  refine Ze7 (b := 0) (o := 0) (j := a - 1) (n := 8) (sz := 1) (i := (a : Nat) - 1) (k := .i64) rfl rfl rfl rfl rfl (by omega) (by omega) (by omega) ?_
  refine Zr (p := pt 0 (a - 1)) (v := w8 (BitVec.ofInt 8 (k : Nat))) (b := 0) (blk := bxB 8 (Zbx w8 8 (Zha b (a - 1) (BitVec.ofInt 8 (k : Nat))))) (H' := [bxB 8 (Zbx w8 8 (Zha b (a - 1) (BitVec.ofInt 8 (k : Nat))))]) rfl rfl rfl (Zhv (blk := bxB 8 (Zbx w8 8 b)) (i := a - 1) (enc := w8) (n := 8) (w := b) (x := (BitVec.ofInt 8 (k : Nat))) rfl rfl rfl rfl rfl (by omega) rfl rfl) (by kernel_rfl) ?_
  refine Za (Z1 (Zc (Zi (Zd rfl rfl (Iv (k : Nat)) rfl ?_))))
  refine Zn (vx := Iv (k : Nat)) (vy := .int .u64 8) rfl rfl (Iv (((k / 256) : Nat) : Int)) rfl rfl (Z1f 8 (by omega) (by omega) (by omega) (by omega)) ?_
  refine Zb rfl rfl (Iv (((k / 256) : Nat) : Int)) rfl (Za ?_)
  refine Zau ⟨((k / 256), (a - 1), (Zha b (a - 1) (BitVec.ofInt 8 (k : Nat)))), Zxu (a' := a - 1) hR hk (by omega) rfl (by omega), by show a - 1 < a; omega, ?_⟩
  refine Zaq (n := 1) rfl ?_ (by kernel_rfl) (by kernel_rfl)
  repeat (first | exact trivial | refine ⟨.inl rfl, ?_⟩ | refine ⟨.inr ⟨rfl, rfl⟩, ?_⟩ | refine ⟨.inr ⟨congrArg (Value.int .i64) (by first | omega | (dsimp only; omega)), rfl⟩, ?_⟩)
  refine Zn (vx := Iv (k : Nat)) (vy := Iv 0) rfl rfl (.bool false) rfl rfl (Zf8 (by omega)) ?_
  refine Za (Zc (Zx rfl (Zce (Zbj (Zbo (Zbp rfl (Zc (Zg (Zi (Zd rfl rfl (Iv (a : Nat)) rfl ?_))))))))))
  refine Zec (p := pt 0 0) (vl := some (Iv (a : Nat))) (vh := none) (v := slv 0 a (8 - a) (8 - a)) rfl rfl rfl rfl rfl (Zym (sz := 1) (l := a) (h := 8) rfl rfl rfl (Z4d (by omega) (by omega)) rfl (by omega) (by omega) (by omega)) ?_
  refine Zc6 (p := slv 0 a (8 - a) (8 - a)) (v := .string (Zl (((Zjq 8 b).drop a).take (8 - a)))) rfl rfl rfl (Zmp (l := Zjq 8 b) rfl rfl rfl rfl (Zy2 _ _) (by rw [Zkf]; omega) rfl) ?_
  refine Zb rfl rfl (.string (Zl (((Zjq 8 b).drop a).take (8 - a)))) rfl (Zb rfl rfl (Iv 0) rfl (Za (Zc (Zv (Zu ?_)))))
  have e : Zp (m : Nat) = ((Zl (((Zjq 8 b).drop a).take (8 - a))), 0) := by
    rw [show Zp (m : Nat) = (Zl (Zjr 8 m 8 dz), 0) from if_pos (by omega), ← hR]
    obtain rfl : k = 0 := by omega
    rw [Zyc, List.take_of_length_le (by rw [List.length_drop, Zkf]; omega)]
  rw [e]
  exact Zm (v := .tuple #[.string (Zl (((Zjq 8 b).drop a).take (8 - a))), Iv 0]) rfl rfl rfl (by kernel_rfl) ⟨rfl, rfl, trivial⟩
end Go.Flat
namespace Go.Flat
open Go.Proofs
variable {G : Glob}
def Zc0 (f : Field) : Bs := [BitVec.ofInt 8 f.tag, BitVec.ofInt 8 (f.data.size / 65536 : Nat), BitVec.ofInt 8 (f.data.size / 256 : Nat), BitVec.ofInt 8 (f.data.size : Nat)] ++ bl f.data
def Zez (f : Field) (last : Int) : Int :=
  if 255 < f.tag then 1 else
  if f.tag ≤ last then 1 else
  if 65536 < (f.data.size : Nat) then 2 else
  0
theorem Z4m (f : Field) (last : Int) : Zao Tryd.prog G 83 [fdV f, Iv last] [] (Iv (Zez f last)) [] := by
 refine Zbv (fn := Tryd.f83) (nt := 21) rfl rfl rfl rfl ?_
 refine Zat 1 (H' := [hole]) rfl ?_
 refine Zg (Zi ?_)
 refine Zel (v := fdV f) (b := bxB 2 (fdC f)) (nid := 0) (H' := [bxB 2 (fdC f)]) rfl rfl rfl (by kernel_rfl) (by kernel_rfl) ?_
 refine Zb rfl rfl (Iv 0) rfl (Za (Zc (Zg (Zi (Zb rfl rfl (Iv 0) rfl (Za (Zc (Zg (Zap (Zg (Zap (Zg (Zap (Zap (Zg (Zg (Zg (Zi ?_))))))))))))))))))
 refine Zj (b := 0) (o := 0) (n := 0) (o' := 0) rfl rfl rfl rfl rfl ?_
 refine Zo (p := pt 0 0) (v := Iv f.tag) rfl rfl rfl (by kernel_rfl) ?_
 by_cases h1 : 255 < f.tag
 refine Zn (vx := Iv f.tag) (vy := Iv 255) rfl rfl (.bool true) rfl rfl (Zf1 (by omega)) ?_
 refine Zb rfl rfl (.bool true) rfl (Za (Zc (Z0 rfl (Zce (Zbj (Zbj (Zbp rfl (Z1 (Zc (Zg (Zi (Zb rfl rfl (Iv 1) rfl (Za (Zc (Zce (Zny rfl (Zbj (Zbp rfl (Zc (Zg (Zi (Zd rfl rfl (Iv 1) rfl (Zb rfl rfl (Iv 1) rfl (Za (Zc (Zv (Zu ?_)))))))))))))))))))))))))))
 rw [show Zez f last = 1 from by unfold Zez; rw [if_pos h1]]
 exact Zm (v := Iv 1) rfl rfl rfl (by kernel_rfl) rfl
 refine Zn (vx := Iv f.tag) (vy := Iv 255) rfl rfl (.bool false) rfl rfl (Zf8 (by omega)) ?_
 refine Zb rfl rfl (.bool false) rfl (Za (Zc (Zx rfl (Zai (Zc (Zg (Zg (Zi ?_))))))))
 refine Zj (b := 0) (o := 0) (n := 0) (o' := 0) rfl rfl rfl rfl rfl ?_
 refine Zo (p := pt 0 0) (v := Iv f.tag) rfl rfl rfl (by kernel_rfl) ?_
 refine Zd rfl rfl (Iv last) rfl ?_
 by_cases h2 : f.tag ≤ last
 refine Zn (vx := Iv f.tag) (vy := Iv last) rfl rfl (.bool true) rfl rfl (Zmf (by omega)) ?_
 refine Zb rfl rfl (.bool true) rfl (Za (Zc (Z0 rfl (Zce (Zbj (Zbj (Zny rfl (Zbp rfl (Zc (Zg (Zi (Zb rfl rfl (Iv 1) rfl (Za (Zc (Zce (Zny rfl (Zbj (Zbp rfl (Zc (Zg (Zi (Zd rfl rfl (Iv 1) rfl (Zb rfl rfl (Iv 1) rfl (Za (Zc (Zv (Zu ?_)))))))))))))))))))))))))))
 rw [show Zez f last = 1 from by unfold Zez; rw [if_neg h1, if_pos h2]]
 exact Zm (v := Iv 1) rfl rfl rfl (by kernel_rfl) rfl
 refine Zn (vx := Iv f.tag) (vy := Iv last) rfl rfl (.bool false) rfl rfl (Zk8 (by omega)) ?_
 refine Zb rfl rfl (.bool false) rfl (Za (Zc (Zx rfl (Zai (Zc (Zg (Zi ?_)))))))
 refine Zj (b := 0) (o := 0) (n := 1) (o' := 1) rfl rfl rfl rfl rfl ?_
 refine Zo (p := pt 0 1) (v := .string f.data) rfl rfl rfl (by kernel_rfl) ?_
 refine Zb7 (p := .string f.data) (v := Iv (f.data.size : Nat)) rfl rfl rfl rfl ?_
 by_cases h3 : 65536 < (f.data.size : Nat)
 refine Zn (vx := Iv (f.data.size : Nat)) (vy := Iv 65536) rfl rfl (.bool true) rfl rfl (Zf1 (by omega)) ?_
 refine Zb rfl rfl (.bool true) rfl (Za (Zc (Z0 rfl (Zce (Zbj (Zny rfl (Zny rfl (Zbj (Zbp rfl (Zc (Zg (Zi (Zb rfl rfl (Iv 2) rfl (Za (Zc (Zce (Zbp rfl (Zc (Zg (Zi (Zd rfl rfl (Iv 2) rfl (Zb rfl rfl (Iv 2) rfl (Za (Zc (Zv (Zu ?_))))))))))))))))))))))))))
 rw [show Zez f last = 2 from by unfold Zez; rw [if_neg h1, if_neg h2, if_pos h3]]
 exact Zm (v := Iv 2) rfl rfl rfl (by kernel_rfl) rfl
 refine Zn (vx := Iv (f.data.size : Nat)) (vy := Iv 65536) rfl rfl (.bool false) rfl rfl (Zf8 (by omega)) ?_
 refine Zb rfl rfl (.bool false) rfl (Za (Zc (Zx rfl (Zai (Zc (Zce (Zny rfl (Zny rfl (Zbj (Zny rfl (Zbj (Zbp rfl (Zc (Zg (Zi (Zd rfl rfl (Iv 0) rfl (Zb rfl rfl (Iv 0) rfl (Za (Zc (Zv (Zu ?_)))))))))))))))))))))
 rw [show Zez f last = 0 from by unfold Zez; rw [if_neg h1, if_neg h2, if_neg h3]]
 exact Zm (v := Iv 0) rfl rfl rfl (by kernel_rfl) rfl
theorem Z36 (l : Bs) (f : Field) (n c : Nat) (hn : l.length = n) (hc : n ≤ c) (hf : f.data.size ≤ 65536) (hb : n ≤ 1099511627776) : Zao Tryd.prog G 84 [slv 0 0 n c, fdV f] [Zy l] (slv 0 0 (n + f.data.size + 4) (n + f.data.size + 4)) [Zy (l ++ Zc0 f)] := by
  refine Zbv (fn := Tryd.f84) (nt := 26) rfl rfl rfl rfl ?_
  refine Zat 2 (H' := [Zy l, hole, hole]) rfl ?_
  refine Zg (Zi ?_)
  refine Zel (v := fdV f) (b := bxB 2 (fdC f)) (nid := 1) (H' := [Zy l, bxB 2 (fdC f), hole]) rfl rfl rfl (by kernel_rfl) (by kernel_rfl) ?_
  refine Zb rfl rfl (.slice none 0 0) rfl (Za (Zc (Zg (Zi ?_))))
  refine Zj (b := 1) (o := 0) (n := 1) (o' := 1) rfl rfl rfl rfl rfl ?_
  refine Zo (p := pt 1 1) (v := .string f.data) rfl rfl rfl (by kernel_rfl) ?_
  refine Zb7 (p := .string f.data) (v := Iv (f.data.size : Nat)) rfl rfl rfl rfl ?_
  refine Zb rfl rfl (Iv (f.data.size : Nat)) rfl (Za (Zc (Zg ?_)))
  refine Zfv (by kernel_rfl) ?_
  refine Zd rfl rfl (slv 0 0 n c) rfl ?_
  refine Zj (b := 1) (o := 0) (n := 0) (o' := 0) rfl rfl rfl rfl rfl ?_
  refine Zo (p := pt 1 0) (v := Iv f.tag) rfl rfl rfl (by kernel_rfl) ?_
  refine Zdb (w := Iv f.tag) (v := w8 (BitVec.ofInt 8 f.tag)) rfl rfl rfl (Zjn rfl rfl rfl) ?_
  refine Zd rfl rfl (Iv (f.data.size : Nat)) rfl ?_
  refine Zn (vx := Iv (f.data.size : Nat)) (vy := .int .u64 16) rfl rfl (Iv (((f.data.size / 65536) : Nat) : Int)) rfl rfl (Z1f 16 (by omega) (by omega) (by omega) (by omega)) ?_
  refine Zdb (w := Iv (((f.data.size / 65536) : Nat) : Int)) (v := w8 (BitVec.ofInt 8 (((f.data.size / 65536) : Nat) : Int))) rfl rfl rfl (Zjn rfl rfl rfl) ?_
  refine Zd rfl rfl (Iv (f.data.size : Nat)) rfl ?_
  refine Zn (vx := Iv (f.data.size : Nat)) (vy := .int .u64 8) rfl rfl (Iv (((f.data.size / 256) : Nat) : Int)) rfl rfl (Z1f 8 (by omega) (by omega) (by omega) (by omega)) ?_
  refine Zdb (w := Iv (((f.data.size / 256) : Nat) : Int)) (v := w8 (BitVec.ofInt 8 (((f.data.size / 256) : Nat) : Int))) rfl rfl rfl (Zjn rfl rfl rfl) ?_
  refine Zd rfl rfl (Iv (f.data.size : Nat)) rfl ?_
  refine Zdb (w := Iv (f.data.size : Nat)) (v := w8 (BitVec.ofInt 8 (f.data.size : Nat))) rfl rfl rfl (Zjn rfl rfl rfl) ?_
  refine Zd5 (vs := [(0, w8 (BitVec.ofInt 8 f.tag)), (1, w8 (BitVec.ofInt 8 (((f.data.size / 65536) : Nat) : Int))), (2, w8 (BitVec.ofInt 8 (((f.data.size / 256) : Nat) : Int))), (3, w8 (BitVec.ofInt 8 (f.data.size : Nat)))]) (v := slv 2 0 4 4) (blk := Zy [(BitVec.ofInt 8 f.tag), (BitVec.ofInt 8 (((f.data.size / 65536) : Nat) : Int)), (BitVec.ofInt 8 (((f.data.size / 256) : Nat) : Int)), (BitVec.ofInt 8 (f.data.size : Nat))]) (nid := 2) (H' := [Zy l, bxB 2 (fdC f), Zy [(BitVec.ofInt 8 f.tag), (BitVec.ofInt 8 (((f.data.size / 65536) : Nat) : Int)), (BitVec.ofInt 8 (((f.data.size / 256) : Nat) : Int)), (BitVec.ofInt 8 (f.data.size : Nat))]]) rfl rfl rfl (by kernel_rfl) (by kernel_rfl) ?_
  have hl3 : (l ++ [(BitVec.ofInt 8 f.tag), (BitVec.ofInt 8 (((f.data.size / 65536) : Nat) : Int)), (BitVec.ofInt 8 (((f.data.size / 256) : Nat) : Int)), (BitVec.ofInt 8 (f.data.size : Nat))]).length = n + 4 := by have := hn; have := (rfl : _ = 4); first | (rw [List.length_append]; omega) | (simp; omega) | simp
  refine Zbz (p := slv 0 0 n c) (q := slv 2 0 4 4) (v := slv 0 0 (n + 4) (n + 4)) (b := 0) (blk := Zy (l ++ [(BitVec.ofInt 8 f.tag), (BitVec.ofInt 8 (((f.data.size / 65536) : Nat) : Int)), (BitVec.ofInt 8 (((f.data.size / 256) : Nat) : Int)), (BitVec.ofInt 8 (f.data.size : Nat))])) (H' := [Zy (l ++ [(BitVec.ofInt 8 f.tag), (BitVec.ofInt 8 (((f.data.size / 65536) : Nat) : Int)), (BitVec.ofInt 8 (((f.data.size / 256) : Nat) : Int)), (BitVec.ofInt 8 (f.data.size : Nat))]), bxB 2 (fdC f), Zy [(BitVec.ofInt 8 f.tag), (BitVec.ofInt 8 (((f.data.size / 65536) : Nat) : Int)), (BitVec.ofInt 8 (((f.data.size / 256) : Nat) : Int)), (BitVec.ofInt 8 (f.data.size : Nat))]]) rfl rfl rfl (.inl ⟨_, rfl⟩) rfl rfl (Zh0 (by_ := 1) (n' := n + 4) rfl rfl (Zka rfl rfl (by have := (rfl : _ = 4); omega)) rfl rfl (by have := hn; omega) (by omega) (by decide) (by omega)) rfl (by kernel_rfl) ?_
  refine Zj (b := 1) (o := 0) (n := 1) (o' := 1) rfl rfl rfl rfl rfl ?_
  refine Zo (p := pt 1 1) (v := .string f.data) rfl rfl rfl (by kernel_rfl) ?_
  have hl4 : ((l ++ [(BitVec.ofInt 8 f.tag), (BitVec.ofInt 8 (((f.data.size / 65536) : Nat) : Int)), (BitVec.ofInt 8 (((f.data.size / 256) : Nat) : Int)), (BitVec.ofInt 8 (f.data.size : Nat))]) ++ (bl f.data)).length = n + f.data.size + 4 := by have := hl3; have := (Zb5 f.data); first | (rw [List.length_append]; omega) | (simp; omega) | simp
  refine Zbz (p := slv 0 0 (n + 4) (n + 4)) (q := .string f.data) (v := slv 0 0 (n + f.data.size + 4) (n + f.data.size + 4)) (b := 0) (blk := Zy ((l ++ [(BitVec.ofInt 8 f.tag), (BitVec.ofInt 8 (((f.data.size / 65536) : Nat) : Int)), (BitVec.ofInt 8 (((f.data.size / 256) : Nat) : Int)), (BitVec.ofInt 8 (f.data.size : Nat))]) ++ (bl f.data))) (H' := [Zy ((l ++ [(BitVec.ofInt 8 f.tag), (BitVec.ofInt 8 (((f.data.size / 65536) : Nat) : Int)), (BitVec.ofInt 8 (((f.data.size / 256) : Nat) : Int)), (BitVec.ofInt 8 (f.data.size : Nat))]) ++ (bl f.data)), bxB 2 (fdC f), Zy [(BitVec.ofInt 8 f.tag), (BitVec.ofInt 8 (((f.data.size / 65536) : Nat) : Int)), (BitVec.ofInt 8 (((f.data.size / 256) : Nat) : Int)), (BitVec.ofInt 8 (f.data.size : Nat))]]) rfl rfl rfl (.inr rfl) rfl rfl (Zh0 (by_ := 1) (n' := n + f.data.size + 4) rfl rfl (rfl : Zhg _ 1 (.string _) = some (_, Zck _)) (Zgq _) rfl (by have := hl3; omega) (by omega) (by decide) (by omega)) rfl (by kernel_rfl) ?_
  refine Zb rfl rfl (slv 0 0 (n + f.data.size + 4) (n + f.data.size + 4)) rfl ?_
  refine Zeo (by kernel_rfl) ?_
  refine Zc (Zv (Zu ?_))
  rw [show Zy (l ++ Zc0 f) = Zy ((l ++ [(BitVec.ofInt 8 f.tag), (BitVec.ofInt 8 (((f.data.size / 65536) : Nat) : Int)), (BitVec.ofInt 8 (((f.data.size / 256) : Nat) : Int)), (BitVec.ofInt 8 (f.data.size : Nat))]) ++ (bl f.data)) from congrArg Zy (List.append_assoc _ _ _).symm]
  exact Zm (v := slv 0 0 (n + f.data.size + 4) (n + f.data.size + 4)) rfl rfl rfl (by simp [Zac, Zy]) ⟨rfl, rfl, rfl, by first | omega | exact Nat.le_refl _ | exact Nat.zero_le _ | (dsimp only; omega), by first | omega | exact Nat.le_refl _ | exact Nat.zero_le _ | (dsimp only; omega)⟩
end Go.Flat
namespace Go.Flat
open Go.Proofs
variable {G : Glob}
theorem Zg3 (f : Field) : (Zc0 f).length = f.data.size + 4 := by simp [Zc0, Zb5]
theorem Z23 (l : Bs) (f : Field) (n c : Nat) (hn : l.length = n) (hc : n ≤ c) (hf : f.data.size ≤ 65536) (hb : n ≤ 1099511627776) : Zao Tryd.prog G 84 [slv 0 0 n c, fdV f] [Zy l] (slv 0 0 (l ++ Zc0 f).length (l ++ Zc0 f).length) [Zy (l ++ Zc0 f)] := by
 have h := Z36 (G := G) l f n c hn hc hf hb
 rw [show n + f.data.size + 4 = (l ++ Zc0 f).length from by rw [List.length_append, Zg3]; omega] at h
 exact h
theorem Zxv {f : Field} {last : Int} (h : Zez f last = 0) : f.data.size ≤ 65536 := by
 unfold Zez at h
 split at h
 ·omega
 ·split at h
  ·omega
  ·split at h <;> omega
def Z6 : List Field → Int → Bs → Bs × Int
  | [], _, acc => (acc, 0)
  | f :: fs, last, acc => if Zez f last = 0 then Z6 fs f.tag (acc ++ Zc0 f) else ([], Zez f last)
theorem Zgl {α : Type} [Inhabited α] {l : List α} {i : Nat} (h : i < l.length) : l.drop i = l.getD i default :: l.drop (i + 1) := by
 rw [List.drop_eq_getElem_cons h, List.getD_eq_getElem?_getD, List.getElem?_eq_getElem h]; rfl
theorem Zq4 {fs : List Field} {i : Nat} {last : Int} {acc : Bs} {R : Bs × Int} (hR : Z6 (fs.drop i) last acc = R) (hi : i < fs.length) (hm : Zez (fs.getD i default) last = 0) : Z6 (fs.drop (i + 1)) (fs.getD i default).tag (acc ++ Zc0 (fs.getD i default)) = R := by
 rw [Zgl hi, Z6, if_pos hm] at hR; exact hR
theorem Ztr {fs : List Field} {i : Nat} {last : Int} {acc : Bs} {R : Bs × Int} (hR : Z6 (fs.drop i) last acc = R) (hi : i < fs.length) (hm : Zez (fs.getD i default) last ≠ 0) : R = ([], Zez (fs.getD i default) last) := by
 rw [Zgl hi, Z6, if_neg hm] at hR; exact hR.symm
def Ze5 : Bs → Nat → Int × Int
  | [], n => ((n : Nat), 0)
  | x :: l, n => if 18014398509481983 < n then (0, 11) else Ze5 l (n * 256 + x.toNat)
def Zq (s : ByteArray) : Int × Int := if 8 < s.size ∨ (1 ≤ s.size ∧ ((bl s).getD 0 0 == 0#8) = true) then (0, 11) else Ze5 (bl s) 0
theorem Zyo {l : Bs} {j v w : Nat} {R : Int × Int} (hR : Ze5 (l.drop j) v = R) (hj : j < l.length) (hv : v ≤ 18014398509481983) (hw : w = 256 * v + (l.getD j 0).toNat := by rfl) : Ze5 (l.drop (j + 1)) w = R := by
 have e : l.drop j = l.getD j 0 :: l.drop (j + 1) := Zgl (α := BitVec 8) hj
 subst hw
 rw [e, Ze5, if_neg (by omega), Nat.mul_comm] at hR
 exact hR
theorem Z0z {l : Bs} {j v : Nat} {R : Int × Int} (hR : Ze5 (l.drop j) v = R) (hj : j < l.length) (hv : 18014398509481983 < v) : R = (0, 11) := by
 have e : l.drop j = l.getD j 0 :: l.drop (j + 1) := Zgl (α := BitVec 8) hj
 rw [e, Ze5, if_pos hv] at hR
 exact hR.symm
theorem Zmw {s : ByteArray} {R : Int × Int} (h1 : s.size ≤ 8) (h2 : 1 ≤ s.size → ((bl s).getD 0 0 == 0#8) = false) (h : Ze5 (bl s) 0 = R) : Zq s = R := by
  unfold Zq
  rw [if_neg, h]
  rintro (h | ⟨h, h'⟩)
  · omega
  · rw [h2 h] at h'; cases h'
theorem Zg1 {s : ByteArray} (h : 8 < s.size ∨ (1 ≤ s.size ∧ ((bl s).getD 0 0 == 0#8) = true)) : Zq s = (0, 11) := if_pos h
theorem Z1b (fs : List Field) (n c : Nat) (hn : fs.length = n) (hc : n ≤ c) (hb : n ≤ 1000) : Zao Tryd.prog G 62 [slv 0 0 n c] [rwR cFd fs] (.tuple #[slv 1 0 (Z6 fs 0 []).1.length (Z6 fs 0 []).1.length, Iv (Z6 fs 0 []).2]) [rwR cFd fs, Zy (Z6 fs 0 []).1] := by
  refine Zbv (fn := Tryd.f62) (nt := 28) rfl rfl rfl rfl ?_
  refine Zat 1 (H' := [rwR cFd fs, hole]) rfl ?_
  refine Zg (Zi (Zb rfl rfl (.slice none 0 0) rfl (Zb rfl rfl (Iv 0) rfl (Za (Zc (Zg (Zi (Zb rfl rfl (.slice none 0 0) rfl (Za (Zc (Zg (Zi (Zb rfl rfl (Iv 0) rfl (Za (Zc (Zg (Zg ?_)))))))))))))))))
  refine Zcw (Zcq.nilTmp (i := 4) (b := 1) true 1 rfl (by decide) rfl) ?_
  refine Zi (Zd rfl rfl (slv 0 0 n c) rfl ?_)
  refine Zb7 (p := slv 0 0 n c) (v := Iv (n : Nat)) rfl rfl rfl rfl ?_
  refine Zd rfl rfl (Iv 0) rfl (Za (Zc (Zap ?_)))
  refine Zb8 (fun x : Nat × Int × Bs => match x with | (i, last, acc) => [slv 0 0 n c, dead, dead, dead, slv 1 0 acc.length acc.length, Iv last, dead, dead, dead, slv 0 0 n c, Iv (n : Nat), Iv (i : Nat)]) (fun x : Nat × Int × Bs => match x with | (i, last, acc) => [rwR cFd fs, Zy acc]) (fun x : Nat × Int × Bs => match x with | (i, last, acc) => Z6 (fs.drop i) last acc = Z6 fs 0 [] ∧ i ≤ n ∧ acc.length ≤ i * 65540) (fun x : Nat × Int × Bs => match x with | (i, last, acc) => n - i) (0, 0, []) ⟨rfl, by omega, by simp⟩ ?_ ?_
  · refine Zaq (n := 2) rfl ?_ (by kernel_rfl) (by kernel_rfl)
    repeat (first | exact trivial | refine ⟨.inl rfl, ?_⟩ | refine ⟨.inr ⟨rfl, rfl⟩, ?_⟩ | refine ⟨.inr ⟨congrArg (Value.int .i64) (by first | omega | (dsimp only; omega)), rfl⟩, ?_⟩)
  rintro ⟨i, last, acc⟩ ⟨hR, hi, ha⟩
  dsimp only at *
  refine Zat 2 (H' := [rwR cFd fs, Zy acc, hole, hole]) rfl ?_
  have ha2 : acc.length ≤ 65540000 := by omega
  refine Zg (Zi ?_)
  by_cases h1 : (i : Nat) < (n : Nat)
  refine Zn (vx := Iv (i : Nat)) (vy := Iv (n : Nat)) rfl rfl (.bool true) rfl rfl (Zdt (by omega)) ?_
  refine Za (Zc (Zg (Z0 rfl (Zai (Zc (Zg (Zap (Zg (Zi ?_)))))))))
  refine Zbk (b := 0) (o := 0) (j := i * 2) (m := n) (c := c) (sz := 2) (i := (i : Nat)) (k := .i64) rfl rfl rfl rfl rfl (by omega) (by omega) (by omega) ?_
  refine Zo (p := pt 0 (i * 2)) (v := fdV (fs.getD i default)) rfl rfl rfl (Zk0 (n := 0) (m := 2) cFd rfl rfl rfl rfl (by have := hn; omega) (by omega)) ?_
  refine Zae (b := bxB 2 (fdC (⟨0, ⟨#[]⟩⟩ : Field))) (nid := 2) (H' := [rwR cFd fs, Zy acc, bxB 2 (fdC (⟨0, ⟨#[]⟩⟩ : Field)), hole]) rfl rfl (by kernel_rfl) (by kernel_rfl) ?_
  refine Zr (p := pt 2 0) (v := fdV (fs.getD i default)) (b := 2) (blk := bxB 2 (fdC (fs.getD i default))) (H' := [rwR cFd fs, Zy acc, bxB 2 (fdC (fs.getD i default)), hole]) rfl rfl rfl (by kernel_rfl) (by kernel_rfl) ?_
  refine Za (Zc (Zg (Zg (Zi ?_))))
  refine Zo (p := pt 2 0) (v := fdV (fs.getD i default)) rfl rfl rfl (by kernel_rfl) ?_
  refine Zd rfl rfl (Iv last) rfl ?_
  refine Zs (Z4m (G := G) (fs.getD i default) last) (vals := [fdV (fs.getD i default), Iv last]) (res' := Iv (Zez (fs.getD i default) last)) rfl rfl rfl rfl rfl rfl ?_
  refine Zb rfl rfl (Iv (Zez (fs.getD i default) last)) rfl (Za (Zc (Zg (Zi (Zd rfl rfl (Iv (Zez (fs.getD i default) last)) rfl ?_)))))
  by_cases h2 : (Zez (fs.getD i default) last) ≠ 0
  refine Zn (vx := Iv (Zez (fs.getD i default) last)) (vy := Iv 0) rfl rfl (.bool true) rfl rfl (Zeg (by omega)) ?_
  refine Za (Zc (Z0 rfl (Zg (Zi (Zd rfl rfl (Iv (Zez (fs.getD i default) last)) rfl (Zb rfl rfl (.slice none 0 0) rfl (Zb rfl rfl (Iv (Zez (fs.getD i default) last)) rfl (Za (Zc ?_)))))))))
  refine Zcw (Zcq.nilTmp (i := 2) (b := 3) true 1 rfl (by decide) rfl) ?_
  refine Zv (Z5 (Zbb (Z5 (Zfm (Zbb (Z5 (Zu ?_)))))))
  rw [show Z6 fs 0 [] = ([], (Zez (fs.getD i default) last)) from Ztr hR (by omega) (by omega)]
  exact Za5 [0, 3] (v := .tuple #[slv 3 0 0 0, Iv (Zez (fs.getD i default) last)]) rfl (by kernel_rfl) rfl rfl (by decide) (by simp [Zac, Zy, rwR, cFd]) ⟨⟨rfl, rfl, rfl, by first | omega | exact Nat.le_refl _ | exact Nat.zero_le _ | (dsimp only; omega), by first | omega | exact Nat.le_refl _ | exact Nat.zero_le _ | (dsimp only; omega)⟩, rfl, trivial⟩
  refine Zn (vx := Iv (Zez (fs.getD i default) last)) (vy := Iv 0) rfl rfl (.bool false) rfl rfl (Zds (by omega)) ?_
  refine Za (Zc (Zx rfl (Zai (Zc ?_))))
  have hsz : (fs.getD i default).data.size ≤ 65536 := Zxv (last := last) (by omega)
  refine Zfv (by kernel_rfl) ?_
  refine Zd rfl rfl (slv 1 0 acc.length acc.length) rfl ?_
  refine Zo (p := pt 2 0) (v := fdV (fs.getD i default)) rfl rfl rfl (by kernel_rfl) ?_
  refine Zdg (e := [some (1, 0)]) (nid := 0) (Z23 (G := G) acc (fs.getD i default) acc.length acc.length (by first | rfl | omega) (by omega) (by omega) (by omega)) (vals := [slv 1 0 acc.length acc.length, fdV (fs.getD i default)]) (v := slv 1 0 ((acc ++ Zc0 (fs.getD i default)).length) ((acc ++ Zc0 (fs.getD i default)).length)) (H' := [rwR cFd fs, Zy (acc ++ Zc0 (fs.getD i default)), bxB 2 (fdC (fs.getD i default)), hole]) rfl rfl rfl rfl rfl rfl ⟨⟨⟨rfl, rfl, rfl, by omega, by omega⟩, rfl, trivial⟩, ⟨(Zay rfl rfl rfl rfl), trivial⟩, rfl, rfl, rfl, Nat.le_refl _⟩ rfl rfl (by kernel_rfl) ?_
  refine Zj (b := 2) (o := 0) (n := 0) (o' := 0) rfl rfl rfl rfl rfl ?_
  refine Zo (p := pt 2 0) (v := Iv ((fs.getD i default).tag)) rfl rfl rfl (by kernel_rfl) ?_
  refine Zb rfl rfl (slv 1 0 ((acc ++ Zc0 (fs.getD i default)).length) ((acc ++ Zc0 (fs.getD i default)).length)) rfl (Zb rfl rfl (Iv ((fs.getD i default).tag)) rfl ?_)
  refine Zeo (by kernel_rfl) ?_
  refine Z1 (Zc (Zi ?_))
  refine Zn (vx := Iv (i : Nat)) (vy := Iv 1) rfl rfl (Iv ((i : Nat) + 1)) rfl rfl (Za7 (by omega) (by omega) (by omega)) ?_
  refine Zd rfl rfl (Iv ((i : Nat) + 1)) rfl (Za ?_)
  refine Zau ⟨((i + 1), ((fs.getD i default).tag), (acc ++ Zc0 (fs.getD i default))), ⟨Zq4 hR (by omega) (by omega), by omega, by rw [List.length_append, Zg3]; omega⟩, by show n - (i + 1) < n - i; omega, ?_⟩
  refine Zaq (n := 2) rfl ?_ (by kernel_rfl) (by kernel_rfl)
  repeat (first | exact trivial | refine ⟨.inl rfl, ?_⟩ | refine ⟨.inr ⟨rfl, rfl⟩, ?_⟩ | refine ⟨.inr ⟨congrArg (Value.int .i64) (by first | omega | (dsimp only; omega)), rfl⟩, ?_⟩)
  refine Zn (vx := Iv (i : Nat)) (vy := Iv (n : Nat)) rfl rfl (.bool false) rfl rfl (Zdh (by omega)) ?_
  refine Za (Zc (Zg (Zx rfl (Zce (Zbj (Zbo (Zbp rfl (Zc (Zg (Zi (Zd rfl rfl (slv 1 0 acc.length acc.length) rfl (Zb rfl rfl (slv 1 0 acc.length acc.length) rfl (Zb rfl rfl (Iv 0) rfl (Za (Zc (Zv (Zu ?_)))))))))))))))))
  rw [show Z6 fs 0 [] = (acc, 0) from by rw [← hR, List.drop_of_length_le (by omega)]; rfl]
  exact Za5 [0, 1] (v := .tuple #[slv 1 0 acc.length acc.length, Iv 0]) rfl (by kernel_rfl) rfl rfl (by decide) (by simp [Zac, Zy, rwR, cFd]) ⟨⟨rfl, rfl, rfl, by first | omega | exact Nat.le_refl _ | exact Nat.zero_le _ | (dsimp only; omega), by first | omega | exact Nat.le_refl _ | exact Nat.zero_le _ | (dsimp only; omega)⟩, rfl, trivial⟩
theorem Ztu (s : ByteArray) : Zao Tryd.prog G 69 [.string s] [] (.tuple #[Iv (Zq s).1, Iv (Zq s).2]) [] := by
  refine Zbv (fn := Tryd.f69) (nt := 34) rfl rfl rfl rfl ?_
  refine Zat 1 (H' := [hole]) rfl ?_
  refine Zg (Zi (Zb rfl rfl (Iv 0) rfl (Zb rfl rfl (Iv 0) rfl (Za (Zc (Zg (Zi (Zb rfl rfl (Iv 0) rfl (Za (Zc (Zg (Zap (Zg (Zg (Zi (Zd rfl rfl (.string s) rfl ?_))))))))))))))))
  refine Zb7 (p := .string s) (v := Iv (s.size : Nat)) rfl rfl rfl rfl ?_
  by_cases h1 : 8 < (s.size : Nat)
  refine Zn (vx := Iv (s.size : Nat)) (vy := Iv 8) rfl rfl (.bool true) rfl rfl (Zf1 (by omega)) ?_
  refine Zb rfl rfl (.bool true) rfl (Za (Zc (Z0 rfl (Zai (Zc (Z0 rfl (Zg (Zi (Zb rfl rfl (Iv 0) rfl (Zb rfl rfl (Iv 11) rfl (Za (Zc (Zv (Zbb (Z5 (Zu ?_))))))))))))))))
  rw [Zg1 (by first | (left; omega) | (right; refine ⟨by omega, ?_⟩; first | assumption | simpa using ‹_›))]
  exact Zm (v := .tuple #[Iv 0, Iv 11]) rfl rfl rfl (by kernel_rfl) ⟨rfl, rfl, trivial⟩
  refine Zn (vx := Iv (s.size : Nat)) (vy := Iv 8) rfl rfl (.bool false) rfl rfl (Zf8 (by omega)) ?_
  refine Zb rfl rfl (.bool false) rfl (Za (Zc (Zx rfl (Zi (Zd rfl rfl (.string s) rfl ?_)))))
  rcases Bool.eq_false_or_eq_true (Zbq s ⟨#[]⟩) with h2 | h2
  · have hzh2 := Zj5 h2
    refine Zn (vx := .string s) (vy := .string ⟨#[]⟩) rfl rfl (.bool false) rfl rfl (Eq.trans (Zl7 _ _) (by rw [h2] <;> rfl)) ?_
    refine Zd rfl rfl (.bool false) rfl (Zf rfl rfl (Zf rfl rfl (Zf rfl rfl (Zk rfl rfl (.bool false) rfl (Zb rfl rfl (.bool false) rfl (Za (Zc (Zx rfl (Zai (Z1 (Zc (Zg (Zg (Zi (Zd rfl rfl (.string s) rfl ?_)))))))))))))))
    refine Zew (p := .string s) (v := slv 0 0 s.size s.size) (blk := Zy (bl s)) (nid := 0) (H' := [Zy (bl s)]) rfl rfl rfl (Zfq rfl rfl rfl) (by kernel_rfl) ?_
    refine Zb7 (p := slv 0 0 s.size s.size) (v := Iv (s.size : Nat)) rfl rfl rfl rfl ?_
    refine Zd rfl rfl (Iv 0) rfl (Za (Zc (Zap ?_)))
    refine Zb8 (fun x : Nat × Nat => match x with | (j, v) => [.string s, dead, dead, dead, Iv (v : Nat), dead, dead, .bool false, .string s, Iv (s.size : Nat), .bool false, .string s, .bool false, .bool false, dead, dead, dead, .bool false, .string s, slv 0 0 s.size s.size, Iv (s.size : Nat), Iv (j : Nat)]) (fun x : Nat × Nat => match x with | (j, v) => [Zy (bl s)]) (fun x : Nat × Nat => match x with | (j, v) => Ze5 ((bl s).drop j) v = Ze5 (bl s) 0 ∧ j ≤ s.size ∧ v ≤ 4611686018427387903) (fun x : Nat × Nat => match x with | (j, v) => s.size - j) (0, 0) ⟨rfl, by omega, by omega⟩ ?_ ?_
    · refine Zaq (n := 1) rfl ?_ (by kernel_rfl) (by kernel_rfl)
      repeat (first | exact trivial | refine ⟨.inl rfl, ?_⟩ | refine ⟨.inr ⟨rfl, rfl⟩, ?_⟩ | refine ⟨.inr ⟨congrArg (Value.int .i64) (by first | omega | (dsimp only; omega)), rfl⟩, ?_⟩)
    rintro ⟨j, v⟩ ⟨hR, hj, hv⟩
    dsimp only at *
    refine Zg (Zi ?_)
    refine Zn (vx := Iv (j : Nat)) (vy := Iv (s.size : Nat)) rfl rfl (.bool false) rfl rfl (Zdh (by omega)) ?_
    refine Za (Zc (Zg (Zx rfl (Zce (Zbj (Zbo (Zbp rfl (Zc (Zg (Zi (Zd rfl rfl (Iv (v : Nat)) rfl (Zb rfl rfl (Iv (v : Nat)) rfl (Zb rfl rfl (Iv 0) rfl (Za (Zc (Zv (Zu ?_)))))))))))))))))
    rw [Zmw (by omega) (by first | assumption | (intro; omega)) (R := (v, 0)) (by rw [← hR, List.drop_of_length_le (by rw [Zb5]; omega)]; rfl)]
    exact Zm (v := .tuple #[Iv (v : Nat), Iv 0]) rfl rfl rfl (by kernel_rfl) ⟨rfl, rfl, trivial⟩
  have hzh2 := Zjt h2
  refine Zn (vx := .string s) (vy := .string ⟨#[]⟩) rfl rfl (.bool true) rfl rfl (Eq.trans (Zl7 _ _) (by rw [h2] <;> rfl)) ?_
  refine Zd rfl rfl (.bool true) rfl (Zd rfl rfl (.string s) rfl ?_)
  refine Zi4 (p := .string s) (i := Iv 0) (v := w8 ((bl s).getD 0 0)) rfl rfl rfl rfl (Zho rfl (by omega) (by omega)) ?_
  rcases Bool.eq_false_or_eq_true (((bl s).getD 0 0) == 0#8) with h3 | h3
  refine Zn (vx := w8 ((bl s).getD 0 0)) (vy := w8 (0#8)) rfl rfl (.bool true) rfl rfl (Eq.trans Ztw (by rw [h3] <;> rfl)) ?_
  refine Zk rfl rfl (.bool true) rfl (Zb rfl rfl (.bool true) rfl (Za (Zc (Z0 rfl (Zg (Zi (Zb rfl rfl (Iv 0) rfl (Zb rfl rfl (Iv 11) rfl (Za (Zc (Zv (Zbb (Z5 (Zu ?_))))))))))))))
  rw [Zg1 (by first | (left; omega) | (right; refine ⟨by omega, ?_⟩; first | assumption | simpa using ‹_›))]
  exact Zm (v := .tuple #[Iv 0, Iv 11]) rfl rfl rfl (by kernel_rfl) ⟨rfl, rfl, trivial⟩
  refine Zn (vx := w8 ((bl s).getD 0 0)) (vy := w8 (0#8)) rfl rfl (.bool false) rfl rfl (Eq.trans Ztw (by rw [h3] <;> rfl)) ?_
  refine Zk rfl rfl (.bool false) rfl (Zb rfl rfl (.bool false) rfl (Za (Zc (Zx rfl (Zai (Z1 (Zc (Zg (Zg (Zi (Zd rfl rfl (.string s) rfl ?_)))))))))))
  refine Zew (p := .string s) (v := slv 0 0 s.size s.size) (blk := Zy (bl s)) (nid := 0) (H' := [Zy (bl s)]) rfl rfl rfl (Zfq rfl rfl rfl) (by kernel_rfl) ?_
  refine Zb7 (p := slv 0 0 s.size s.size) (v := Iv (s.size : Nat)) rfl rfl rfl rfl ?_
  refine Zd rfl rfl (Iv 0) rfl (Za (Zc (Zap ?_)))
  refine Zb8 (fun x : Nat × Nat => match x with | (j, v) => [.string s, dead, dead, dead, Iv (v : Nat), dead, dead, .bool false, .string s, Iv (s.size : Nat), .bool false, .string s, .bool true, .bool true, .string s, w8 ((bl s).getD 0 0), .bool false, .bool false, .string s, slv 0 0 s.size s.size, Iv (s.size : Nat), Iv (j : Nat)]) (fun x : Nat × Nat => match x with | (j, v) => [Zy (bl s)]) (fun x : Nat × Nat => match x with | (j, v) => Ze5 ((bl s).drop j) v = Ze5 (bl s) 0 ∧ j ≤ s.size ∧ v ≤ 4611686018427387903) (fun x : Nat × Nat => match x with | (j, v) => s.size - j) (0, 0) ⟨rfl, by omega, by omega⟩ ?_ ?_
  · refine Zaq (n := 1) rfl ?_ (by kernel_rfl) (by kernel_rfl)
    repeat (first | exact trivial | refine ⟨.inl rfl, ?_⟩ | refine ⟨.inr ⟨rfl, rfl⟩, ?_⟩ | refine ⟨.inr ⟨congrArg (Value.int .i64) (by first | omega | (dsimp only; omega)), rfl⟩, ?_⟩)
  rintro ⟨j, v⟩ ⟨hR, hj, hv⟩
  dsimp only at *
  refine Zg (Zi ?_)
  by_cases h4 : (j : Nat) < (s.size : Nat)
  refine Zn (vx := Iv (j : Nat)) (vy := Iv (s.size : Nat)) rfl rfl (.bool true) rfl rfl (Zdt (by omega)) ?_
  refine Za (Zc (Zg (Z0 rfl (Zai (Zc (Zg (Zap (Zg (Zi ?_)))))))))
  refine Zbk (b := 0) (o := 0) (j := j) (m := s.size) (c := s.size) (sz := 1) (i := (j : Nat)) (k := .i64) rfl rfl rfl rfl rfl (by omega) (by omega) (by omega) ?_
  refine Zo (p := pt 0 j) (v := w8 ((bl s).getD j 0)) rfl rfl rfl (Zd3 rfl rfl rfl (by have := (Zb5 s); omega)) ?_
  refine Zb rfl rfl (w8 ((bl s).getD j 0)) rfl (Za (Zc (Zg (Zg (Zi (Zd rfl rfl (Iv (v : Nat)) rfl ?_))))))
  by_cases h5 : 18014398509481983 < (v : Nat)
  refine Zn (vx := Iv (v : Nat)) (vy := Iv 18014398509481983) rfl rfl (.bool true) rfl rfl (Zf1 (by omega)) ?_
  refine Za (Zc (Z0 rfl (Zg (Zi (Zb rfl rfl (Iv 0) rfl (Zb rfl rfl (Iv 11) rfl (Za (Zc (Zv (Z5 (Zbb (Z5 (Zfm (Zbb (Z5 (Zu ?_))))))))))))))))
  rw [Zmw (by omega) (by first | assumption | (intro; omega)) (R := (0, 11)) (Z0z hR (by rw [Zb5]; omega) (by omega))]
  exact Zm (v := .tuple #[Iv 0, Iv 11]) rfl rfl rfl (by kernel_rfl) ⟨rfl, rfl, trivial⟩
  refine Zn (vx := Iv (v : Nat)) (vy := Iv 18014398509481983) rfl rfl (.bool false) rfl rfl (Zf8 (by omega)) ?_
  refine Za (Zc (Zx rfl (Zai (Zc (Zi (Zd rfl rfl (Iv (v : Nat)) rfl ?_))))))
  refine Zn (vx := Iv (v : Nat)) (vy := .int .u64 8) rfl rfl (Iv (256 * (v : Nat))) rfl rfl (Z0k 8 (by omega) (by omega) (by omega) (by omega) (by omega)) ?_
  refine Zd rfl rfl (w8 ((bl s).getD j 0)) rfl ?_
  have hw2 := BitVec.isLt ((bl s).getD j 0)
  refine Zdb (w := w8 ((bl s).getD j 0)) (v := Iv (((((bl s).getD j 0).toNat) : Nat) : Int)) rfl rfl rfl (Zju rfl rfl (by have := ((bl s).getD j 0).isLt; omega) (by have := ((bl s).getD j 0).isLt; omega)) ?_
  refine Zn (vx := Iv (256 * (v : Nat))) (vy := Iv (((((bl s).getD j 0).toNat) : Nat) : Int)) rfl rfl (Iv (256 * (v : Nat) + (((((bl s).getD j 0).toNat) : Nat) : Int))) rfl rfl (Z4v 8 v (((bl s).getD j 0).toNat) (by omega) (by omega) (by omega) (by omega) (by omega)) ?_
  refine Zb rfl rfl (Iv (256 * (v : Nat) + (((((bl s).getD j 0).toNat) : Nat) : Int))) rfl (Za (Z1 (Zc (Zi ?_))))
  refine Zn (vx := Iv (j : Nat)) (vy := Iv 1) rfl rfl (Iv ((j : Nat) + 1)) rfl rfl (Za7 (by omega) (by omega) (by omega)) ?_
  refine Zd rfl rfl (Iv ((j : Nat) + 1)) rfl (Za ?_)
  refine Zau ⟨((j + 1), (256 * v + (((bl s).getD j 0).toNat))), ⟨Zyo hR (by rw [Zb5]; omega) (by omega) (by omega), by omega, by omega⟩, by show s.size - (j + 1) < s.size - j; omega, ?_⟩
  refine Zaq (n := 1) rfl ?_ (by kernel_rfl) (by kernel_rfl)
  repeat (first | exact trivial | refine ⟨.inl rfl, ?_⟩ | refine ⟨.inr ⟨rfl, rfl⟩, ?_⟩ | refine ⟨.inr ⟨congrArg (Value.int .i64) (by first | omega | (dsimp only; omega)), rfl⟩, ?_⟩)
  refine Zn (vx := Iv (j : Nat)) (vy := Iv (s.size : Nat)) rfl rfl (.bool false) rfl rfl (Zdh (by omega)) ?_
  refine Za (Zc (Zg (Zx rfl (Zce (Zbj (Zbo (Zbp rfl (Zc (Zg (Zi (Zd rfl rfl (Iv (v : Nat)) rfl (Zb rfl rfl (Iv (v : Nat)) rfl (Zb rfl rfl (Iv 0) rfl (Za (Zc (Zv (Zu ?_)))))))))))))))))
  rw [Zmw (by omega) (by first | assumption | (intro; omega)) (R := (v, 0)) (by rw [← hR, List.drop_of_length_le (by rw [Zb5]; omega)]; rfl)]
  exact Zm (v := .tuple #[Iv (v : Nat), Iv 0]) rfl rfl rfl (by kernel_rfl) ⟨rfl, rfl, trivial⟩
end Go.Flat
