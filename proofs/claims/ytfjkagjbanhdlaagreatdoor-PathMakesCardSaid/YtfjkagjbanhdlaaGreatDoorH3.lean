/- Walks. -/
import Derived.Test.YtfjkagjbanhdlaaGreatDoorRef
import Derived.Test.YtfjkagjbanhdlaaGreatDoorFlatG
import Derived.Test.YtfjkagjbanhdlaaGreatDoorFlatI
import Derived.Laws.Strings
set_option linter.unusedVariables false
set_option linter.unusedSimpArgs false
set_option maxRecDepth 20000
namespace Go.Flat
open Go.Proofs
def rdB (l : Bs) : Blk := { cells := l.map w8, sz := 1, wr := false, fix := false, mv := true, pur := true }
def Zih (n : Nat) (d : D) : Bs := (List.range n).map d
theorem Zjh (n : Nat) (d : D) : (Zih n d).length = n := by simp [Zih]
theorem Z2a (n : Nat) (d : D) : Zag w8 n d = (Zih n d).map w8 := by unfold Zag Zih; rw [List.map_map]; rfl
theorem Zu1 (s : ByteArray) : Zm (bl s) = s := by
 unfold bl Zm
 simp only [List.map_map]
 have : (UInt8.ofBitVec ∘ UInt8.toBitVec) = (id : UInt8 → UInt8) := rfl
 rw [this, List.map_id]
theorem Zb4 (a b : ByteArray) : Zfm a b = true ↔ a = b := by
  unfold Zfm
  rw [beq_iff_eq]
  constructor
  · intro h
    rw [Go.ByteArray.toList_eq, Go.ByteArray.toList_eq] at h
    have h2 := Array.toList_inj.1 h
    cases a; cases b; dsimp only at h2; rw [h2]
  · intro h; rw [h]
theorem Zin {e : Emb} {res v : Value} (hp : Zb7 res = true) (h : v = res) : Zky e res v := by unfold Zky; rw [if_pos hp]; exact h
theorem Zo6 {a : ByteArray} (h : Zfm a ⟨#[]⟩ = true) : a.size = 0 := by rw [(Zb4 _ _).1 h]; rfl
theorem Zo7 {a : ByteArray} (h : Zfm a ⟨#[]⟩ = false) : 1 ≤ a.size := by
  rcases Nat.eq_zero_or_pos a.size with h0 | h0
  · have : a = ⟨#[]⟩ := by
      rw [← Zu1 a]
      have hl : (bl a).length = 0 := by rw [Zht]; exact h0
      rw [List.eq_nil_of_length_eq_zero hl]; rfl
    rw [(Zb4 _ _).2 this] at h; cases h
  · exact h0
section
variable {P : Program} {G : Glob} {t : TypeId} {H : List Blk} {b o n c : Nat} {blk : Blk} {l : Bs}
theorem Zzj {src dst e : TypeId} {x : ByteArray} (h1 : P.underlying src = some (.slice e)) (h2 : P.underlying dst = some .string) (h3 : Ziq P e = true) (hb : H[b]? = some blk) (hc : blk.cells = l.map w8) (hl : o + n ≤ l.length) (hx : Zm ((l.drop o).take n) = x) : Zt9 P H src dst (slv b o n c) = some (.string x) := by
 subst hx
 exact Zem h1 h2 h3 hb (by rw [hc]; simpa using hl) (by rw [hc, List.map_take, List.map_drop])
theorem Zdu {src dst e : TypeId} (h1 : P.underlying src = some (.slice e)) (h2 : P.underlying dst = some .string) (h3 : Ziq P e = true) (hb : H[b]? = some blk) (hc : blk.cells = l.map w8) (hl : n = l.length) : Zt9 P H src dst (slv b 0 n c) = some (.string (Zm l)) :=
 Zzj h1 h2 h3 hb hc (by omega) (by rw [List.drop_zero, List.take_of_length_le (by omega)])
end


section
variable {P : Program} {G : Glob} {t : TypeId} {H : List Blk} {b o n c k n' by_ : Nat} {blk : Blk} {zc : List Value}
theorem Z0i {l : List ByteArray} (hk : Zfo P t = some (false, 1)) (hb : H[b]? = some blk) (hc : blk.cells = l.map Value.string) (hi : o < l.length) : Ze4 P G t H (.pointer (some ⟨b, o, none⟩)) = some (.string (l.getD o ⟨#[]⟩)) :=
 Zjm hk hb (by rw [hc]; simp [hi]) rfl
theorem Z6w (l : List ByteArray) : (l.map Value.string).all Zb9 = true := by simp only [List.all_map, List.all_eq_true]; intros; rfl
theorem Z0o {q : Value} {ls ms : List ByteArray} (ht : Zdo P t = some (1, zc, by_)) (hz : zc.length = 1) (hs : Zgh H 1 q = some (k, ms.map Value.string)) (hb : H[b]? = some (txB ls)) (hn : ls.length = n) (hk : n + k = n') (hby : 0 < by_) (hm : n' * by_ ≤ 140737488355328) :
  Zpv P H t (slv b 0 n c) q = some (slv b 0 n' n', b, txB (ls ++ ms)) := by
 have hc : (txB ls).cells.length = n := by show (ls.map Value.string).length = _; simp [hn]
 rw [Zey (n' := n') (p := (k, ms.map Value.string)) ht hs hb rfl rfl hz (Z6w ms) (by rw [hc]; omega) hby hk hm]
 have : List.take (n * 1) (List.drop 0 (txB ls).cells) ++ ms.map Value.string = (ls ++ ms).map Value.string := by
  rw [List.drop_zero, List.take_of_length_le (by rw [hc]; omega), List.map_append]; rfl
 simp only [this]
 rfl
theorem Zhd {α : Type} (cd : Cod α) {q : Value} {ls ms : List α} {cs : List Value} (hp : ∀ x, (cd.enc x).all Zb9 = true) (ht : Zdo P t = some (cd.n, zc, by_)) (hz : zc.length = cd.n) (hs : Zgh H cd.n q = some (k, cs)) (hcs : cs = cd.row ms) (hb : H[b]? = some (rwB cd ls)) (hn : ls.length = n) (hk : n + k = n') (hby : 0 < by_) (hm : n' * by_ ≤ 140737488355328) :
  Zpv P H t (slv b 0 n c) q = some (slv b 0 n' n', b, rwB cd (ls ++ ms)) := by
 subst hcs
 have hc : (rwB cd ls).cells.length = n * cd.n := by show (cd.row ls).length = _; rw [cd.row_len, hn]
 have hpp : (cd.row ms).all Zb9 = true := by
  unfold Cod.row
  rw [List.all_eq_true]
  intro v hv
  obtain ⟨l, hl, hv⟩ := List.mem_flatten.1 hv
  obtain ⟨x, hx, rfl⟩ := List.mem_map.1 hl
  exact List.all_eq_true.1 (hp x) v hv
 rw [Zey (n' := n') (p := (k, cd.row ms)) ht hs hb rfl rfl hz hpp (by rw [hc]; omega) hby hk hm]
 have : List.take (n * cd.n) (List.drop 0 (rwB cd ls).cells) ++ cd.row ms = cd.row (ls ++ ms) := by
  rw [List.drop_zero, List.take_of_length_le (by rw [hc]; exact Nat.le_refl _), cd.row_app]; rfl
 simp only [this]
 rfl
theorem Z6z {l : Bs} (hb : H[b]? = some blk) (hc : blk.cells = l.map w8) (hl : o + n ≤ l.length) : Zgh H 1 (slv b o n c) = some (n, ((l.drop o).take n).map w8) :=
 Z5d (sz := 1) hb (by rw [hc, Nat.mul_one]; simpa using hl) (by rw [hc, Nat.mul_one, List.map_take, List.map_drop])
theorem Zqv {l : Bs} (hb : H[b]? = some blk) (hc : blk.cells = l.map w8) (hl : n = l.length) : Zgh H 1 (slv b 0 n c) = some (n, l.map w8) := by
 rw [Z6z hb hc (by omega), List.drop_zero, List.take_of_length_le (by omega)]
end
theorem Zt7 {P : Program} {op : BinOp} {t : TypeId} {x y : Operand} {a b v v' : Value} (h : Zcl P op t x y a b = some v) (e : v = v') : Zcl P op t x y a b = some v' := e ▸ h
def cStr : Cod ByteArray := ⟨fun s => [.string s], 1, fun _ => rfl, by decide⟩
end Go.Flat
namespace Go.Flat
open Go.Proofs
variable {G : Glob}
structure Field where
  tag : Int
  data : ByteArray
def fdC (f : Field) : List Value := [.int .i64 f.tag, .string f.data]
def fdV (f : Field) : Value := .agg (fdC f).toArray
def cFd : Cod Field := ⟨fdC, 2, fun _ => rfl, by decide⟩
instance : Inhabited Field := ⟨⟨0, ⟨#[]⟩⟩⟩

def Zks : Nat → Nat → Nat → D → Bs
  | 0, _, a, b => (Zih 8 b).drop a
  | f + 1, n, a, b => if n = 0 then (Zih 8 b).drop a else Zks f (n / 256) (a - 1) (Zfg b (a - 1) (BitVec.ofInt 8 (n : Int)))
theorem Z1i (f a : Nat) (b : D) : Zks f 0 a b = (Zih 8 b).drop a := by cases f <;> simp [Zks]
theorem Zmz {k a : Nat} (hk : k < 256 ^ a) (h : 1 ≤ k) : 1 ≤ a := by
 cases a with
 | zero => simp at hk; omega
 | succ a => omega
theorem Z1g {a k q a' : Nat} {b : D} {x : BitVec 8} {R : Bs} (hR : Zks a k a b = R) (hk : k < 256 ^ a) (h1 : 0 < k) (hx : x = BitVec.ofInt 8 (k : Int)) (ha' : a = a' + 1) (hq : q = k / 256 := by rfl) (h8 : a ≤ 8 := by omega) : Zks a' q a' (Zfg b a' x) = R ∧ q < 256 ^ a' ∧ a' ≤ 8 := by
 subst ha'; subst hx; subst hq
 refine ⟨?_, ?_, by omega⟩
 ·rw [Zks, if_neg (by omega)] at hR; exact hR
 ·rw [Nat.pow_succ] at hk; exact Nat.div_lt_of_lt_mul (by omega)
def Zn (n : Int) : ByteArray × Int := if 0 ≤ n ∧ n ≤ 4611686018427387903 then (Zm (Zks 8 n.toNat 8 dz), 0) else (⟨#[]⟩, 1)
theorem Zti (n : Int) (hl : -9223372036854775808 ≤ n) (hh : n ≤ 9223372036854775807) : Z6 Tryz.prog G 62 [Iv n] [] (.tuple #[.string (Zn n).1, Iv (Zn n).2]) [] := by
  refine Za8 (fn := Tryz.f62) (nt := 25) rfl rfl rfl rfl ?_
  refine Zaa 1 (H' := [hole]) rfl ?_
  refine Zf (Zg (Zb (.string ⟨#[]⟩) (Zb (Iv 0) (Za (Zc (Zf (Zf (Zg (Zd (Iv n) ?_)))))))))
  by_cases h1 : n < 0
  refine Zl (vx := Iv n) (vy := Iv 0) rfl rfl (.bool true) rfl rfl (Zcc (by omega)) ?_
  refine Zd (.bool true) (Ze (Ze (Zi (.bool true) (Za (Zc (Zx rfl (Zf (Zg (Zb (.string ⟨#[]⟩) (Zb (Iv 1) (Za (Zc (Zq (Zz (Zr ?_)))))))))))))))
  rw [show Zn n = (⟨#[]⟩, 1) from if_neg (by omega)]
  exact Zk (v := .tuple #[.string ⟨#[]⟩, Iv 1]) rfl rfl rfl (by kernel_rfl) ⟨rfl, rfl, trivial⟩
  refine Zl (vx := Iv n) (vy := Iv 0) rfl rfl (.bool false) rfl rfl (Zb5 (by omega)) ?_
  refine Zd (.bool false) (Zd (Iv n) ?_)
  by_cases h2 : 4611686018427387903 < n
  refine Zl (vx := Iv n) (vy := Iv 4611686018427387903) rfl rfl (.bool true) rfl rfl (Zes (by omega)) ?_
  refine Zi (.bool true) (Za (Zc (Zx rfl (Zf (Zg (Zb (.string ⟨#[]⟩) (Zb (Iv 1) (Za (Zc (Zq (Zz (Zr ?_))))))))))))
  rw [show Zn n = (⟨#[]⟩, 1) from if_neg (by omega)]
  exact Zk (v := .tuple #[.string ⟨#[]⟩, Iv 1]) rfl rfl rfl (by kernel_rfl) ⟨rfl, rfl, trivial⟩
  refine Zl (vx := Iv n) (vy := Iv 4611686018427387903) rfl rfl (.bool false) rfl rfl (Zeq (by omega)) ?_
  refine Zi (.bool false) (Za (Zc (Zu rfl (Z0 (Zc (Zf ?_))))))
  obtain ⟨m, rfl⟩ : ∃ x0 : Nat, n = (x0 : Int) := ⟨n.toNat, by omega⟩
  refine Zg (Zam (b := bxB 8 (Zag w8 8 dz)) (nid := 0) (H' := [bxB 8 (Zag w8 8 dz)]) (Za (Zc (Zf (Zg (Zb (Iv 8) (Za (Zc (Zf (Z1 ?_))))))))))
  refine Zbg (fun x : Nat × Nat × D => match x with | (k, a, b) => [Iv (k : Nat), dead, .string ⟨#[]⟩, Iv 0, pt 0 0, Iv (a : Nat), Iv (m : Nat), .bool false, .bool false, Iv (m : Nat), .bool false, .bool false]) (fun x : Nat × Nat × D => match x with | (k, a, b) => [bxB 8 (Zag w8 8 b)]) (fun x : Nat × Nat × D => match x with | (k, a, b) => Zks a k a b = Zks 8 m 8 dz ∧ k < 256 ^ a ∧ a ≤ 8) (fun x : Nat × Nat × D => match x with | (k, a, b) => a) (m, 8, dz) ⟨rfl, by omega, by omega⟩ ?_ ?_
  · refine Z5 (n := 1) rfl ?_ (by kernel_rfl) (by kernel_rfl)
    repeat (first | exact trivial | refine ⟨.inl rfl, ?_⟩ | refine ⟨.inr ⟨rfl, rfl⟩, ?_⟩ | refine ⟨.inr ⟨congrArg (Value.int .i64) (by first | omega | (dsimp only; omega)), rfl⟩, ?_⟩)
  rintro ⟨k, a, b⟩ ⟨hR, hk, ha⟩
  dsimp only at *
  refine Zf (Zf (Zg (Zd (Iv (k : Nat)) ?_)))
  by_cases h3 : 0 < (k : Nat)
  refine Zl (vx := Iv (k : Nat)) (vy := Iv 0) rfl rfl (.bool true) rfl rfl (Zes (by omega)) ?_
  refine Za (Zc (Zx rfl (Z0 (Zc (Zf (Z1 (Zf ?_)))))))
  have h1a := Zmz hk (by omega)
  refine Zg (Zd (Iv (a : Nat)) ?_)
  refine Zl (vx := Iv (a : Nat)) (vy := Iv 1) rfl rfl (Iv ((a : Nat) - 1)) rfl rfl (Zc4 (by omega) (by omega) (by omega)) ?_
  refine Zb (Iv ((a : Nat) - 1)) (Za (Zc (Zg (Zd (Iv ((a : Nat) - 1)) (Zd (Iv (k : Nat)) ?_)))))
  refine Zc6 (w := Iv (k : Nat)) (v := w8 (BitVec.ofInt 8 (k : Nat))) rfl rfl rfl (Zfl rfl rfl rfl) ?_
  refine Zbw (b := 0) (o := 0) (j := a - 1) (n := 8) (sz := 1) (i := (a : Nat) - 1) (k := .i64) rfl rfl rfl rfl rfl (by omega) (by omega) (by omega) ?_
  refine Zay (p := pt 0 (a - 1)) (v := w8 (BitVec.ofInt 8 (k : Nat))) (b := 0) (blk := bxB 8 (Zag w8 8 (Zfg b (a - 1) (BitVec.ofInt 8 (k : Nat))))) (H' := [bxB 8 (Zag w8 8 (Zfg b (a - 1) (BitVec.ofInt 8 (k : Nat))))]) rfl rfl rfl (Zfb (blk := bxB 8 (Zag w8 8 b)) (i := a - 1) (enc := w8) (n := 8) (w := b) (x := (BitVec.ofInt 8 (k : Nat))) rfl rfl rfl rfl rfl (by omega) rfl rfl) (by kernel_rfl) ?_
  refine Za (Z4 (Zc (Zg (Zd (Iv (k : Nat)) ?_))))
  refine Zl (vx := Iv (k : Nat)) (vy := .int .u64 8) rfl rfl (Iv (((k / 256) : Nat) : Int)) rfl rfl (Z5j 8 (by omega) (by omega) (by omega) (by omega)) ?_
  refine Zb (Iv (((k / 256) : Nat) : Int)) (Za ?_)
  refine Zao ⟨((k / 256), (a - 1), (Zfg b (a - 1) (BitVec.ofInt 8 (k : Nat)))), Z1g (a' := a - 1) hR hk (by omega) rfl (by omega), by show a - 1 < a; omega, ?_⟩
  refine Z5 (n := 1) rfl ?_ (by kernel_rfl) (by kernel_rfl)
  repeat (first | exact trivial | refine ⟨.inl rfl, ?_⟩ | refine ⟨.inr ⟨rfl, rfl⟩, ?_⟩ | refine ⟨.inr ⟨congrArg (Value.int .i64) (by first | omega | (dsimp only; omega)), rfl⟩, ?_⟩)
  refine Zl (vx := Iv (k : Nat)) (vy := Iv 0) rfl rfl (.bool false) rfl rfl (Zeq (by omega)) ?_
  refine Za (Zc (Zu rfl (Zbb (Zaq (Zau (Zax rfl (Zc (Zf (Zg (Zd (Iv (a : Nat)) ?_))))))))))
  refine Zc7 (p := pt 0 0) (vl := some (Iv (a : Nat))) (vh := none) (v := slv 0 a (8 - a) (8 - a)) rfl rfl rfl rfl rfl (Z1p (sz := 1) (l := a) (h := 8) rfl rfl rfl (bnd_lo (by omega) (by omega)) rfl (by omega) (by omega) (by omega)) ?_
  refine Ze2 (p := slv 0 a (8 - a) (8 - a)) (v := .string (Zm (((Zih 8 b).drop a).take (8 - a)))) rfl rfl rfl (Zzj (l := Zih 8 b) rfl rfl rfl rfl (Z2a _ _) (by rw [Zjh]; omega) rfl) ?_
  refine Zb (.string (Zm (((Zih 8 b).drop a).take (8 - a)))) (Zb (Iv 0) (Za (Zc (Zq (Zr ?_)))))
  have e : Zn (m : Nat) = ((Zm (((Zih 8 b).drop a).take (8 - a))), 0) := by
    rw [show Zn (m : Nat) = (Zm (Zks 8 m 8 dz), 0) from if_pos (by omega), ← hR]
    obtain rfl : k = 0 := by omega
    rw [Z1i, List.take_of_length_le (by rw [List.length_drop, Zjh]; omega)]
  rw [e]
  exact Zk (v := .tuple #[.string (Zm (((Zih 8 b).drop a).take (8 - a))), Iv 0]) rfl rfl rfl (by kernel_rfl) ⟨rfl, rfl, trivial⟩
end Go.Flat
namespace Go.Flat
open Go.Proofs
variable {G : Glob}
def Zeo (f : Field) : Bs := [BitVec.ofInt 8 f.tag, BitVec.ofInt 8 (f.data.size / 65536 : Nat), BitVec.ofInt 8 (f.data.size / 256 : Nat), BitVec.ofInt 8 (f.data.size : Nat)] ++ bl f.data
def Zfp (f : Field) (last : Int) : Int :=
  if 255 < f.tag then 1 else
  if f.tag ≤ last then 1 else
  if 65536 < (f.data.size : Nat) then 2 else
  0
theorem may_ok (f : Field) (last : Int) : Z6 Tryz.prog G 91 [fdV f, Iv last] [] (Iv (Zfp f last)) [] := by
 refine Za8 (fn := Tryz.f91) (nt := 21) rfl rfl rfl rfl ?_
 refine Zaa 1 (H' := [hole]) rfl ?_
 refine Zf (Zg (Zbq (v := fdV f) (b := bxB 2 (fdC f)) (nid := 0) (H' := [bxB 2 (fdC f)]) (Zb (Iv 0) (Za (Zc (Zf (Zg (Zb (Iv 0) (Za (Zc (Zf (Z1 (Zf (Z1 (Zf (Z1 (Z1 (Zf (Zf (Zf (Zg (Zh (b := 0) (o := 0) (n := 0) (o' := 0) (Zp (p := pt 0 0) (v := Iv f.tag) ?_)))))))))))))))))))))))
 by_cases h1 : 255 < f.tag
 refine Zl (vx := Iv f.tag) (vy := Iv 255) rfl rfl (.bool true) rfl rfl (Zes (by omega)) ?_
 refine Zb (.bool true) (Za (Zc (Zx rfl (Zbb (Zaq (Zaq (Zax rfl (Z4 (Zc (Zf (Zg (Zb (Iv 1) (Za (Zc (Zbb (Zju rfl (Zaq (Zax rfl (Zc (Zf (Zg (Zd (Iv 1) (Zb (Iv 1) (Za (Zc (Zq (Zr ?_)))))))))))))))))))))))))))
 rw [show Zfp f last = 1 from by unfold Zfp; rw [if_pos h1]]
 exact Zk (v := Iv 1) rfl rfl rfl (by kernel_rfl) rfl
 refine Zl (vx := Iv f.tag) (vy := Iv 255) rfl rfl (.bool false) rfl rfl (Zeq (by omega)) ?_
 refine Zb (.bool false) (Za (Zc (Zu rfl (Z0 (Zc (Zf (Zf (Zg (Zh (b := 0) (o := 0) (n := 0) (o' := 0) (Zp (p := pt 0 0) (v := Iv f.tag) (Zd (Iv last) ?_)))))))))))
 by_cases h2 : f.tag ≤ last
 refine Zl (vx := Iv f.tag) (vy := Iv last) rfl rfl (.bool true) rfl rfl (Zo5 (by omega)) ?_
 refine Zb (.bool true) (Za (Zc (Zx rfl (Zbb (Zaq (Zaq (Zju rfl (Zax rfl (Zc (Zf (Zg (Zb (Iv 1) (Za (Zc (Zbb (Zju rfl (Zaq (Zax rfl (Zc (Zf (Zg (Zd (Iv 1) (Zb (Iv 1) (Za (Zc (Zq (Zr ?_)))))))))))))))))))))))))))
 rw [show Zfp f last = 1 from by unfold Zfp; rw [if_neg h1, if_pos h2]]
 exact Zk (v := Iv 1) rfl rfl rfl (by kernel_rfl) rfl
 refine Zl (vx := Iv f.tag) (vy := Iv last) rfl rfl (.bool false) rfl rfl (Znp (by omega)) ?_
 refine Zb (.bool false) (Za (Zc (Zu rfl (Z0 (Zc (Zf (Zg (Zh (b := 0) (o := 0) (n := 1) (o' := 1) (Zp (p := pt 0 1) (v := .string f.data) (Zcu (p := .string f.data) (v := Iv (f.data.size : Nat)) ?_))))))))))
 by_cases h3 : 65536 < (f.data.size : Nat)
 refine Zl (vx := Iv (f.data.size : Nat)) (vy := Iv 65536) rfl rfl (.bool true) rfl rfl (Zes (by omega)) ?_
 refine Zb (.bool true) (Za (Zc (Zx rfl (Zbb (Zaq (Zju rfl (Zju rfl (Zaq (Zax rfl (Zc (Zf (Zg (Zb (Iv 2) (Za (Zc (Zbb (Zax rfl (Zc (Zf (Zg (Zd (Iv 2) (Zb (Iv 2) (Za (Zc (Zq (Zr ?_))))))))))))))))))))))))))
 rw [show Zfp f last = 2 from by unfold Zfp; rw [if_neg h1, if_neg h2, if_pos h3]]
 exact Zk (v := Iv 2) rfl rfl rfl (by kernel_rfl) rfl
 refine Zl (vx := Iv (f.data.size : Nat)) (vy := Iv 65536) rfl rfl (.bool false) rfl rfl (Zeq (by omega)) ?_
 refine Zb (.bool false) (Za (Zc (Zu rfl (Z0 (Zc (Zbb (Zju rfl (Zju rfl (Zaq (Zju rfl (Zaq (Zax rfl (Zc (Zf (Zg (Zd (Iv 0) (Zb (Iv 0) (Za (Zc (Zq (Zr ?_)))))))))))))))))))))
 rw [show Zfp f last = 0 from by unfold Zfp; rw [if_neg h1, if_neg h2, if_neg h3]]
 exact Zk (v := Iv 0) rfl rfl rfl (by kernel_rfl) rfl
abbrev Y1 (f : Field) : Blk := Zah [(BitVec.ofInt 8 f.tag), (BitVec.ofInt 8 (((f.data.size / 65536) : Nat) : Int)), (BitVec.ofInt 8 (((f.data.size / 256) : Nat) : Int)), (BitVec.ofInt 8 (f.data.size : Nat))]
theorem Z7l (l : Bs) (f : Field) (n c : Nat) (hn : l.length = n) (hc : n ≤ c) (hf : f.data.size ≤ 65536) (hb : n ≤ 1099511627776) : Z6 Tryz.prog G 92 [slv 0 0 n c, fdV f] [Zah l] (slv 0 0 (n + f.data.size + 4) (n + f.data.size + 4)) [Zah (l ++ Zeo f)] := by
  refine Za8 (fn := Tryz.f92) (nt := 26) rfl rfl rfl rfl ?_
  refine Zaa 2 (H' := [Zah l, hole, hole]) rfl ?_
  refine Zf (Zg (Zbq (v := fdV f) (b := bxB 2 (fdC f)) (nid := 1) (H' := [Zah l, bxB 2 (fdC f), hole]) (Zb (.slice none 0 0) (Za (Zc (Zf (Zg (Zh (b := 1) (o := 0) (n := 1) (o' := 1) (Zp (p := pt 1 1) (v := .string f.data) (Zcu (p := .string f.data) (v := Iv (f.data.size : Nat)) (Zb (Iv (f.data.size : Nat)) (Za (Zc (Zf ?_))))))))))))))
  refine Zgc (by kernel_rfl) ?_
  refine Zd (slv 0 0 n c) (Zh (b := 1) (o := 0) (n := 0) (o' := 0) (Zp (p := pt 1 0) (v := Iv f.tag) ?_))
  refine Zc6 (w := Iv f.tag) (v := w8 (BitVec.ofInt 8 f.tag)) rfl rfl rfl (Zfl rfl rfl rfl) ?_
  refine Zd (Iv (f.data.size : Nat)) ?_
  refine Zl (vx := Iv (f.data.size : Nat)) (vy := .int .u64 16) rfl rfl (Iv (((f.data.size / 65536) : Nat) : Int)) rfl rfl (Z5j 16 (by omega) (by omega) (by omega) (by omega)) ?_
  refine Zc6 (w := Iv (((f.data.size / 65536) : Nat) : Int)) (v := w8 (BitVec.ofInt 8 (((f.data.size / 65536) : Nat) : Int))) rfl rfl rfl (Zfl rfl rfl rfl) ?_
  refine Zd (Iv (f.data.size : Nat)) ?_
  refine Zl (vx := Iv (f.data.size : Nat)) (vy := .int .u64 8) rfl rfl (Iv (((f.data.size / 256) : Nat) : Int)) rfl rfl (Z5j 8 (by omega) (by omega) (by omega) (by omega)) ?_
  refine Zc6 (w := Iv (((f.data.size / 256) : Nat) : Int)) (v := w8 (BitVec.ofInt 8 (((f.data.size / 256) : Nat) : Int))) rfl rfl rfl (Zfl rfl rfl rfl) ?_
  refine Zd (Iv (f.data.size : Nat)) ?_
  refine Zc6 (w := Iv (f.data.size : Nat)) (v := w8 (BitVec.ofInt 8 (f.data.size : Nat))) rfl rfl rfl (Zfl rfl rfl rfl) ?_
  refine Zdb (vs := [(0, w8 (BitVec.ofInt 8 f.tag)), (1, w8 (BitVec.ofInt 8 (((f.data.size / 65536) : Nat) : Int))), (2, w8 (BitVec.ofInt 8 (((f.data.size / 256) : Nat) : Int))), (3, w8 (BitVec.ofInt 8 (f.data.size : Nat)))]) (v := slv 2 0 4 4) (blk := Zah [(BitVec.ofInt 8 f.tag), (BitVec.ofInt 8 (((f.data.size / 65536) : Nat) : Int)), (BitVec.ofInt 8 (((f.data.size / 256) : Nat) : Int)), (BitVec.ofInt 8 (f.data.size : Nat))]) (nid := 2) (H' := [Zah l, bxB 2 (fdC f), Y1 f]) rfl rfl rfl (by kernel_rfl) (by kernel_rfl) ?_
  have hl3 : (l ++ [(BitVec.ofInt 8 f.tag), (BitVec.ofInt 8 (((f.data.size / 65536) : Nat) : Int)), (BitVec.ofInt 8 (((f.data.size / 256) : Nat) : Int)), (BitVec.ofInt 8 (f.data.size : Nat))]).length = n + 4 := by have := hn; have := (rfl : _ = 4); first | (rw [List.length_append]; omega) | (simp; omega) | simp
  refine Zbp (p := slv 0 0 n c) (q := slv 2 0 4 4) (v := slv 0 0 (n + 4) (n + 4)) (b := 0) (blk := Zah (l ++ [(BitVec.ofInt 8 f.tag), (BitVec.ofInt 8 (((f.data.size / 65536) : Nat) : Int)), (BitVec.ofInt 8 (((f.data.size / 256) : Nat) : Int)), (BitVec.ofInt 8 (f.data.size : Nat))])) (H' := [Zah (l ++ [(BitVec.ofInt 8 f.tag), (BitVec.ofInt 8 (((f.data.size / 65536) : Nat) : Int)), (BitVec.ofInt 8 (((f.data.size / 256) : Nat) : Int)), (BitVec.ofInt 8 (f.data.size : Nat))]), bxB 2 (fdC f), Y1 f]) rfl rfl rfl (.inl ⟨_, rfl⟩) rfl rfl (Zhj (by_ := 1) (n' := n + 4) rfl rfl (Zqv rfl rfl (by have := (rfl : _ = 4); omega)) rfl rfl (by have := hn; omega) (by omega) (by decide) (by omega)) rfl (by kernel_rfl) ?_
  refine Zh (b := 1) (o := 0) (n := 1) (o' := 1) (Zp (p := pt 1 1) (v := .string f.data) ?_)
  have hl4 : ((l ++ [(BitVec.ofInt 8 f.tag), (BitVec.ofInt 8 (((f.data.size / 65536) : Nat) : Int)), (BitVec.ofInt 8 (((f.data.size / 256) : Nat) : Int)), (BitVec.ofInt 8 (f.data.size : Nat))]) ++ (bl f.data)).length = n + f.data.size + 4 := by have := hl3; have := (Zht f.data); first | (rw [List.length_append]; omega) | (simp; omega) | simp
  refine Zbp (p := slv 0 0 (n + 4) (n + 4)) (q := .string f.data) (v := slv 0 0 (n + f.data.size + 4) (n + f.data.size + 4)) (b := 0) (blk := Zah ((l ++ [(BitVec.ofInt 8 f.tag), (BitVec.ofInt 8 (((f.data.size / 65536) : Nat) : Int)), (BitVec.ofInt 8 (((f.data.size / 256) : Nat) : Int)), (BitVec.ofInt 8 (f.data.size : Nat))]) ++ (bl f.data))) (H' := [Zah ((l ++ [(BitVec.ofInt 8 f.tag), (BitVec.ofInt 8 (((f.data.size / 65536) : Nat) : Int)), (BitVec.ofInt 8 (((f.data.size / 256) : Nat) : Int)), (BitVec.ofInt 8 (f.data.size : Nat))]) ++ (bl f.data)), bxB 2 (fdC f), Y1 f]) rfl rfl rfl (.inr rfl) rfl rfl (Zhj (by_ := 1) (n' := n + f.data.size + 4) rfl rfl (rfl : Zgh _ 1 (.string _) = some (_, Zfa _)) (Zjp _) rfl (by have := hl3; omega) (by omega) (by decide) (by omega)) rfl (by kernel_rfl) ?_
  refine Zb (slv 0 0 (n + f.data.size + 4) (n + f.data.size + 4)) ?_
  refine Zeu (by kernel_rfl) ?_
  refine Zc (Zq (Zr ?_))
  rw [show Zah (l ++ Zeo f) = Zah ((l ++ [(BitVec.ofInt 8 f.tag), (BitVec.ofInt 8 (((f.data.size / 65536) : Nat) : Int)), (BitVec.ofInt 8 (((f.data.size / 256) : Nat) : Int)), (BitVec.ofInt 8 (f.data.size : Nat))]) ++ (bl f.data)) from congrArg Zah (List.append_assoc _ _ _).symm]
  exact Zk (v := slv 0 0 (n + f.data.size + 4) (n + f.data.size + 4)) rfl rfl rfl (by simp [Za0, Zah]) ⟨rfl, rfl, rfl, by first | omega | exact Nat.le_refl _ | exact Nat.zero_le _ | (dsimp only; omega), by first | omega | exact Nat.le_refl _ | exact Nat.zero_le _ | (dsimp only; omega)⟩
end Go.Flat
namespace Go.Flat
open Go.Proofs
variable {G : Glob}
theorem Zjj (f : Field) : (Zeo f).length = f.data.size + 4 := by simp [Zeo, Zht]
theorem Z58 (l : Bs) (f : Field) (n c : Nat) (hn : l.length = n) (hc : n ≤ c) (hf : f.data.size ≤ 65536) (hb : n ≤ 1099511627776) : Z6 Tryz.prog G 92 [slv 0 0 n c, fdV f] [Zah l] (slv 0 0 (l ++ Zeo f).length (l ++ Zeo f).length) [Zah (l ++ Zeo f)] := by
 have h := Z7l (G := G) l f n c hn hc hf hb
 rw [show n + f.data.size + 4 = (l ++ Zeo f).length from by rw [List.length_append, Zjj]; omega] at h
 exact h
theorem Z1w {f : Field} {last : Int} (h : Zfp f last = 0) : f.data.size ≤ 65536 := by
 unfold Zfp at h
 split at h
 ·omega
 ·split at h
  ·omega
  ·split at h <;> omega
def Z9 : List Field → Int → Bs → Bs × Int
  | [], _, acc => (acc, 0)
  | f :: fs, last, acc => if Zfp f last = 0 then Z9 fs f.tag (acc ++ Zeo f) else ([], Zfp f last)
theorem Zsg {α : Type} [Inhabited α] {l : List α} {i : Nat} (h : i < l.length) : l.drop i = l.getD i default :: l.drop (i + 1) := by
 rw [List.drop_eq_getElem_cons h, List.getD_eq_getElem?_getD, List.getElem?_eq_getElem h]; rfl
theorem Zs8 {fs : List Field} {i : Nat} {last : Int} {acc : Bs} {R : Bs × Int} (hR : Z9 (fs.drop i) last acc = R) (hi : i < fs.length) (hm : Zfp (fs.getD i default) last = 0) : Z9 (fs.drop (i + 1)) (fs.getD i default).tag (acc ++ Zeo (fs.getD i default)) = R := by
 rw [Zsg hi, Z9, if_pos hm] at hR; exact hR
theorem Zvg {fs : List Field} {i : Nat} {last : Int} {acc : Bs} {R : Bs × Int} (hR : Z9 (fs.drop i) last acc = R) (hi : i < fs.length) (hm : Zfp (fs.getD i default) last ≠ 0) : R = ([], Zfp (fs.getD i default) last) := by
 rw [Zsg hi, Z9, if_neg hm] at hR; exact hR.symm
def valL : Bs → Nat → Int × Int
  | [], n => ((n : Nat), 0)
  | x :: l, n => if 18014398509481983 < n then (0, 11) else valL l (n * 256 + x.toNat)
def valS (s : ByteArray) : Int × Int := if 8 < s.size ∨ (1 ≤ s.size ∧ ((bl s).getD 0 0 == 0#8) = true) then (0, 11) else valL (bl s) 0
theorem Z2w (fs : List Field) (n c : Nat) (hn : fs.length = n) (hc : n ≤ c) (hb : n ≤ 1000) : Z6 Tryz.prog G 63 [slv 0 0 n c] [rwR cFd fs] (.tuple #[slv 1 0 (Z9 fs 0 []).1.length (Z9 fs 0 []).1.length, Iv (Z9 fs 0 []).2]) [rwR cFd fs, Zah (Z9 fs 0 []).1] := by
  refine Za8 (fn := Tryz.f63) (nt := 28) rfl rfl rfl rfl ?_
  refine Zaa 1 (H' := [rwR cFd fs, hole]) rfl ?_
  refine Zf (Zg (Zb (.slice none 0 0) (Zb (Iv 0) (Za (Zc (Zf (Zg (Zb (.slice none 0 0) (Za (Zc (Zf (Zg (Zb (Iv 0) (Za (Zc (Zf (Zf ?_)))))))))))))))))
  refine Zbo (Zb6.nilTmp (i := 4) (b := 1) true 1 rfl (by decide) rfl) ?_
  refine Zg (Zd (slv 0 0 n c) (Zcu (p := slv 0 0 n c) (v := Iv (n : Nat)) (Zd (Iv 0) (Za (Zc (Z1 ?_))))))
  refine Zbg (fun x : Nat × Int × Bs => match x with | (i, last, acc) => [slv 0 0 n c, dead, dead, dead, slv 1 0 acc.length acc.length, Iv last, dead, dead, dead, slv 0 0 n c, Iv (n : Nat), Iv (i : Nat)]) (fun x : Nat × Int × Bs => match x with | (i, last, acc) => [rwR cFd fs, Zah acc]) (fun x : Nat × Int × Bs => match x with | (i, last, acc) => Z9 (fs.drop i) last acc = Z9 fs 0 [] ∧ i ≤ n ∧ acc.length ≤ i * 65540) (fun x : Nat × Int × Bs => match x with | (i, last, acc) => n - i) (0, 0, []) ⟨rfl, by omega, by simp⟩ ?_ ?_
  · refine Z5 (n := 2) rfl ?_ (by kernel_rfl) (by kernel_rfl)
    repeat (first | exact trivial | refine ⟨.inl rfl, ?_⟩ | refine ⟨.inr ⟨rfl, rfl⟩, ?_⟩ | refine ⟨.inr ⟨congrArg (Value.int .i64) (by first | omega | (dsimp only; omega)), rfl⟩, ?_⟩)
  rintro ⟨i, last, acc⟩ ⟨hR, hi, ha⟩
  dsimp only at *
  refine Zaa 2 (H' := [rwR cFd fs, Zah acc, hole, hole]) rfl ?_
  have ha2 : acc.length ≤ 65540000 := by omega
  refine Zf (Zg ?_)
  by_cases h1 : (i : Nat) < (n : Nat)
  refine Zl (vx := Iv (i : Nat)) (vy := Iv (n : Nat)) rfl rfl (.bool true) rfl rfl (Zcc (by omega)) ?_
  refine Za (Zc (Zf (Zx rfl (Z0 (Zc (Zf (Z1 (Zf (Zg ?_)))))))))
  refine Zbe (b := 0) (o := 0) (j := i * 2) (m := n) (c := c) (sz := 2) (i := (i : Nat)) (k := .i64) rfl rfl rfl rfl rfl (by omega) (by omega) (by omega) ?_
  refine Zad (p := pt 0 (i * 2)) (v := fdV (fs.getD i default)) rfl rfl rfl (Zhf (n := 0) (m := 2) cFd rfl rfl rfl rfl (by have := hn; omega) (by omega)) ?_
  refine Zam (b := bxB 2 (fdC (⟨0, ⟨#[]⟩⟩ : Field))) (nid := 2) (H' := [rwR cFd fs, Zah acc, bxB 2 (fdC (⟨0, ⟨#[]⟩⟩ : Field)), hole]) (Z7 (p := pt 2 0) (v := fdV (fs.getD i default)) (b := 2) (blk := bxB 2 (fdC (fs.getD i default))) (H' := [rwR cFd fs, Zah acc, bxB 2 (fdC (fs.getD i default)), hole]) (Za (Zc (Zf (Zf (Zg (Zp (p := pt 2 0) (v := fdV (fs.getD i default)) (Zd (Iv last) ?_))))))))
  refine Zo (may_ok (G := G) (fs.getD i default) last) (vals := [fdV (fs.getD i default), Iv last]) (res' := Iv (Zfp (fs.getD i default) last)) rfl rfl rfl rfl rfl rfl ?_
  refine Zb (Iv (Zfp (fs.getD i default) last)) (Za (Zc (Zf (Zg (Zd (Iv (Zfp (fs.getD i default) last)) ?_)))))
  by_cases h2 : (Zfp (fs.getD i default) last) ≠ 0
  refine Zl (vx := Iv (Zfp (fs.getD i default) last)) (vy := Iv 0) rfl rfl (.bool true) rfl rfl (Zea (by omega)) ?_
  refine Za (Zc (Zx rfl (Zf (Zg (Zd (Iv (Zfp (fs.getD i default) last)) (Zb (.slice none 0 0) (Zb (Iv (Zfp (fs.getD i default) last)) (Za (Zc ?_)))))))))
  refine Zbo (Zb6.nilTmp (i := 2) (b := 3) true 1 rfl (by decide) rfl) ?_
  refine Zq (Zz (Za4 (Zz (Zd6 (Za4 (Zz (Zr ?_)))))))
  rw [show Z9 fs 0 [] = ([], (Zfp (fs.getD i default) last)) from Zvg hR (by omega) (by omega)]
  exact Zav [0, 3] (v := .tuple #[slv 3 0 0 0, Iv (Zfp (fs.getD i default) last)]) rfl (by kernel_rfl) rfl rfl (by decide) (by simp [Za0, Zah, rwR, cFd]) ⟨⟨rfl, rfl, rfl, by first | omega | exact Nat.le_refl _ | exact Nat.zero_le _ | (dsimp only; omega), by first | omega | exact Nat.le_refl _ | exact Nat.zero_le _ | (dsimp only; omega)⟩, rfl, trivial⟩
  refine Zl (vx := Iv (Zfp (fs.getD i default) last)) (vy := Iv 0) rfl rfl (.bool false) rfl rfl (Zdz (by omega)) ?_
  refine Za (Zc (Zu rfl (Z0 (Zc ?_))))
  have hsz : (fs.getD i default).data.size ≤ 65536 := Z1w (last := last) (by omega)
  refine Zgc (by kernel_rfl) ?_
  refine Zd (slv 1 0 acc.length acc.length) (Zp (p := pt 2 0) (v := fdV (fs.getD i default)) ?_)
  refine Zdq (e := [some (1, 0)]) (nid := 0) (Z58 (G := G) acc (fs.getD i default) acc.length acc.length (by first | rfl | omega) (by omega) (by omega) (by omega)) (vals := [slv 1 0 acc.length acc.length, fdV (fs.getD i default)]) (v := slv 1 0 ((acc ++ Zeo (fs.getD i default)).length) ((acc ++ Zeo (fs.getD i default)).length)) (H' := [rwR cFd fs, Zah (acc ++ Zeo (fs.getD i default)), bxB 2 (fdC (fs.getD i default)), hole]) rfl rfl rfl rfl rfl rfl ⟨⟨⟨rfl, rfl, rfl, by omega, by omega⟩, rfl, trivial⟩, ⟨(Zbd rfl rfl rfl rfl), trivial⟩, rfl, rfl, rfl, Nat.le_refl _⟩ rfl rfl (by kernel_rfl) ?_
  refine Zh (b := 2) (o := 0) (n := 0) (o' := 0) (Zp (p := pt 2 0) (v := Iv ((fs.getD i default).tag)) (Zb (slv 1 0 ((acc ++ Zeo (fs.getD i default)).length) ((acc ++ Zeo (fs.getD i default)).length)) (Zb (Iv ((fs.getD i default).tag)) ?_)))
  refine Zeu (by kernel_rfl) ?_
  refine Z4 (Zc (Zg ?_))
  refine Zl (vx := Iv (i : Nat)) (vy := Iv 1) rfl rfl (Iv ((i : Nat) + 1)) rfl rfl (Za3 (by omega) (by omega) (by omega)) ?_
  refine Zd (Iv ((i : Nat) + 1)) (Za ?_)
  refine Zao ⟨((i + 1), ((fs.getD i default).tag), (acc ++ Zeo (fs.getD i default))), ⟨Zs8 hR (by omega) (by omega), by omega, by rw [List.length_append, Zjj]; omega⟩, by show n - (i + 1) < n - i; omega, ?_⟩
  refine Z5 (n := 2) rfl ?_ (by kernel_rfl) (by kernel_rfl)
  repeat (first | exact trivial | refine ⟨.inl rfl, ?_⟩ | refine ⟨.inr ⟨rfl, rfl⟩, ?_⟩ | refine ⟨.inr ⟨congrArg (Value.int .i64) (by first | omega | (dsimp only; omega)), rfl⟩, ?_⟩)
  refine Zl (vx := Iv (i : Nat)) (vy := Iv (n : Nat)) rfl rfl (.bool false) rfl rfl (Zb5 (by omega)) ?_
  refine Za (Zc (Zf (Zu rfl (Zbb (Zaq (Zau (Zax rfl (Zc (Zf (Zg (Zd (slv 1 0 acc.length acc.length) (Zb (slv 1 0 acc.length acc.length) (Zb (Iv 0) (Za (Zc (Zq (Zr ?_)))))))))))))))))
  rw [show Z9 fs 0 [] = (acc, 0) from by rw [← hR, List.drop_of_length_le (by omega)]; rfl]
  exact Zav [0, 1] (v := .tuple #[slv 1 0 acc.length acc.length, Iv 0]) rfl (by kernel_rfl) rfl rfl (by decide) (by simp [Za0, Zah, rwR, cFd]) ⟨⟨rfl, rfl, rfl, by first | omega | exact Nat.le_refl _ | exact Nat.zero_le _ | (dsimp only; omega), by first | omega | exact Nat.le_refl _ | exact Nat.zero_le _ | (dsimp only; omega)⟩, rfl, trivial⟩
end Go.Flat
