/- Walks. -/
import Derived.Test.YtoheeojjdpdljaaDoorD2
set_option linter.unusedVariables false
set_option linter.unusedSimpArgs false
set_option maxRecDepth 20000
namespace Go.Flat
open Go.Proofs
variable {G : Glob}
theorem Zz6 (fs : List Field) (n c : Nat) (hn : fs.length = n) (hc : n ≤ c) (hb : n ≤ 1048576) (hs : ∀ i, i < n → (fs.getD i default).data.size ≤ 1048576) : Zao Tryd.prog G 55 [slv 0 0 n c] [rwR cFd fs] (Zaz (Zb0 fs zE)) [rwR cFd fs] := by
  refine Zbv (fn := Tryd.f55) (nt := 67) rfl rfl rfl rfl ?_
  refine Zat 2 (H' := [rwR cFd fs, hole, hole]) rfl ?_
  refine Zg (Zi ?_)
  refine Zae (b := bxB 109 (Z2 (⟨0, 0, 0, ⟨#[]⟩, (⟨(⟨0, 0, 0, dz, 0⟩ : Head), 0, dz⟩ : Signed), (⟨0, 0, 0, 0, dz⟩ : Claim)⟩ : Entry))) (nid := 1) (H' := [rwR cFd fs, bxB 109 (Z2 (⟨0, 0, 0, ⟨#[]⟩, (⟨(⟨0, 0, 0, dz, 0⟩ : Head), 0, dz⟩ : Signed), (⟨0, 0, 0, 0, dz⟩ : Claim)⟩ : Entry)), hole]) rfl rfl (by kernel_rfl) (by kernel_rfl) ?_
  refine Za (Zc (Zg (Zi ?_)))
  refine Zaw (vs := []) (v := Zaz (⟨0, 0, 0, ⟨#[]⟩, (⟨(⟨0, 0, 0, dz, 0⟩ : Head), 0, dz⟩ : Signed), (⟨0, 0, 0, 0, dz⟩ : Claim)⟩ : Entry)) rfl rfl rfl (by kernel_rfl) ?_
  refine Zae (b := bxB 109 (Z2 (⟨0, 0, 0, ⟨#[]⟩, (⟨(⟨0, 0, 0, dz, 0⟩ : Head), 0, dz⟩ : Signed), (⟨0, 0, 0, 0, dz⟩ : Claim)⟩ : Entry))) (nid := 2) (H' := [rwR cFd fs, bxB 109 (Z2 (⟨0, 0, 0, ⟨#[]⟩, (⟨(⟨0, 0, 0, dz, 0⟩ : Head), 0, dz⟩ : Signed), (⟨0, 0, 0, 0, dz⟩ : Claim)⟩ : Entry)), bxB 109 (Z2 (⟨0, 0, 0, ⟨#[]⟩, (⟨(⟨0, 0, 0, dz, 0⟩ : Head), 0, dz⟩ : Signed), (⟨0, 0, 0, 0, dz⟩ : Claim)⟩ : Entry))]) rfl rfl (by kernel_rfl) (by kernel_rfl) ?_
  refine Zr (p := pt 2 0) (v := Zaz (⟨0, 0, 0, ⟨#[]⟩, (⟨(⟨0, 0, 0, dz, 0⟩ : Head), 0, dz⟩ : Signed), (⟨0, 0, 0, 0, dz⟩ : Claim)⟩ : Entry)) (b := 2) (blk := bxB 109 (Z2 (⟨0, 0, 0, ⟨#[]⟩, (⟨(⟨0, 0, 0, dz, 0⟩ : Head), 0, dz⟩ : Signed), (⟨0, 0, 0, 0, dz⟩ : Claim)⟩ : Entry))) (H' := [rwR cFd fs, bxB 109 (Z2 (⟨0, 0, 0, ⟨#[]⟩, (⟨(⟨0, 0, 0, dz, 0⟩ : Head), 0, dz⟩ : Signed), (⟨0, 0, 0, 0, dz⟩ : Claim)⟩ : Entry)), bxB 109 (Z2 (⟨0, 0, 0, ⟨#[]⟩, (⟨(⟨0, 0, 0, dz, 0⟩ : Head), 0, dz⟩ : Signed), (⟨0, 0, 0, 0, dz⟩ : Claim)⟩ : Entry))]) rfl rfl rfl (by kernel_rfl) (by kernel_rfl) ?_
  refine Za (Zc (Zg (Zg (Zi (Zb rfl rfl (Iv 0) rfl (Za (Zc (Zap ?_))))))))
  refine Zb8 (fun x : Nat × Entry => match x with | (i, x) => [slv 0 0 n c, dead, pt 1 0, pt 2 0, Iv (i : Nat), dead, dead, dead, dead, dead, Zaz (⟨0, 0, 0, ⟨#[]⟩, (⟨(⟨0, 0, 0, dz, 0⟩ : Head), 0, dz⟩ : Signed), (⟨0, 0, 0, 0, dz⟩ : Claim)⟩ : Entry)]) (fun x : Nat × Entry => match x with | (i, x) => [rwR cFd fs, bxB 109 (Z2 (⟨0, 0, 0, ⟨#[]⟩, (⟨(⟨0, 0, 0, dz, 0⟩ : Head), 0, dz⟩ : Signed), (⟨0, 0, 0, 0, dz⟩ : Claim)⟩ : Entry)), bxB 109 (Z2 x)]) (fun x : Nat × Entry => match x with | (i, x) => Zb0 (fs.drop i) x = Zb0 fs zE ∧ i ≤ n) (fun x : Nat × Entry => match x with | (i, x) => n - i) (0, zE) ⟨rfl, by omega⟩ ?_ ?_
  · refine Zaq (n := 3) rfl ?_ (by kernel_rfl) (by kernel_rfl)
    repeat (first | exact trivial | refine ⟨.inl rfl, ?_⟩ | refine ⟨.inr ⟨rfl, rfl⟩, ?_⟩ | refine ⟨.inr ⟨congrArg (Value.int .i64) (by first | omega | (dsimp only; omega)), rfl⟩, ?_⟩)
  rintro ⟨i, x⟩ ⟨hR, hi⟩
  dsimp only at *
  refine Zat 4 (H' := [rwR cFd fs, bxB 109 (Z2 (⟨0, 0, 0, ⟨#[]⟩, (⟨(⟨0, 0, 0, dz, 0⟩ : Head), 0, dz⟩ : Signed), (⟨0, 0, 0, 0, dz⟩ : Claim)⟩ : Entry)), bxB 109 (Z2 x), hole, hole, hole, hole]) rfl ?_
  refine Zg (Zg (Zi (Zd rfl rfl (Iv (i : Nat)) rfl (Zd rfl rfl (slv 0 0 n c) rfl ?_))))
  refine Zb7 (p := slv 0 0 n c) (v := Iv (n : Nat)) rfl rfl rfl rfl ?_
  by_cases h1 : (i : Nat) < (n : Nat)
  refine Zn (vx := Iv (i : Nat)) (vy := Iv (n : Nat)) rfl rfl (.bool true) rfl rfl (Zdt (by omega)) ?_
  refine Za (Zc (Z0 rfl (Zai (Zc (Zg (Zap (Zg ?_)))))))
  have hsz : (fs.getD i default).data.size ≤ 1048576 := hs i (by omega)
  have hbl := Zb5 (fs.getD i default).data
  refine Zi (Zd rfl rfl (slv 0 0 n c) rfl (Zd rfl rfl (Iv (i : Nat)) rfl ?_))
  refine Zbk (b := 0) (o := 0) (j := i * 2) (m := n) (c := c) (sz := 2) (i := (i : Nat)) (k := .i64) rfl rfl rfl rfl rfl (by omega) (by omega) (by omega) ?_
  refine Zj (b := 0) (o := i * 2) (n := 1) (o' := i * 2 + 1) rfl rfl rfl rfl (by omega) ?_
  refine Zo (p := pt 0 (i * 2 + 1)) (v := .string ((fs.getD i default).data)) rfl rfl rfl (Zev cFd (l := fs) (i := i) (k := 1) (m := 2) rfl rfl rfl rfl (by have := hn; omega) (by omega) (by kernel_rfl) rfl) ?_
  refine Zb rfl rfl (.string ((fs.getD i default).data)) rfl (Za (Zc (Zg (Zi (Zd rfl rfl (slv 0 0 n c) rfl (Zd rfl rfl (Iv (i : Nat)) rfl ?_))))))
  refine Zbk (b := 0) (o := 0) (j := i * 2) (m := n) (c := c) (sz := 2) (i := (i : Nat)) (k := .i64) rfl rfl rfl rfl rfl (by omega) (by omega) (by omega) ?_
  refine Zj (b := 0) (o := i * 2) (n := 0) (o' := i * 2) rfl rfl rfl rfl (by omega) ?_
  refine Zo (p := pt 0 (i * 2)) (v := Iv ((fs.getD i default).tag)) rfl rfl rfl (Zev cFd (l := fs) (i := i) (k := 0) (m := 2) rfl rfl rfl rfl (by have := hn; omega) (by omega) (by kernel_rfl) rfl) ?_
  refine Za (Zc (Zap (Zg (Zi ?_))))
  by_cases h2 : ((fs.getD i default).tag) = 1
  refine Zn (vx := Iv ((fs.getD i default).tag)) (vy := Iv 1) rfl rfl (.bool true) rfl rfl (Zbs (by omega)) ?_
  refine Zb rfl rfl (.bool true) rfl (Za (Zc (Z0 rfl (Zi (Zd rfl rfl (.string ((fs.getD i default).data)) rfl ?_)))))
  refine Zs (Zfg (G := G) ((fs.getD i default).data)) (vals := [.string ((fs.getD i default).data)]) (res' := Iv (vR ((fs.getD i default).data))) rfl rfl rfl rfl rfl rfl ?_
  refine Zj (b := 2) (o := 0) (n := 0) (o' := 0) rfl rfl rfl rfl rfl ?_
  refine Zr (p := pt 2 0) (v := Iv (vR ((fs.getD i default).data))) (b := 2) (blk := bxB 109 (Z2 (⟨(vR ((fs.getD i default).data)), x.client, x.seq, x.text, x.head, x.claim⟩ : Entry))) (H' := [rwR cFd fs, bxB 109 (Z2 (⟨0, 0, 0, ⟨#[]⟩, (⟨(⟨0, 0, 0, dz, 0⟩ : Head), 0, dz⟩ : Signed), (⟨0, 0, 0, 0, dz⟩ : Claim)⟩ : Entry)), bxB 109 (Z2 (⟨(vR ((fs.getD i default).data)), x.client, x.seq, x.text, x.head, x.claim⟩ : Entry)), hole, hole, hole, hole]) rfl rfl rfl (by kernel_rfl) (by kernel_rfl) ?_
  refine Za (Z1 (Z1 (Zc (Zi (Zd rfl rfl (Iv (i : Nat)) rfl ?_)))))
  refine Zn (vx := Iv (i : Nat)) (vy := Iv 1) rfl rfl (Iv ((i : Nat) + 1)) rfl rfl (Za7 (by omega) (by omega) (by omega)) ?_
  refine Zb rfl rfl (Iv ((i : Nat) + 1)) rfl (Za ?_)
  refine Zau ⟨((i + 1), (⟨(vR ((fs.getD i default).data)), x.client, x.seq, x.text, x.head, x.claim⟩ : Entry)), ⟨by dsimp only; rw [show (⟨(vR ((fs.getD i default).data)), x.client, x.seq, x.text, x.head, x.claim⟩ : Entry) = Zjf x (fs.getD i default) from by unfold Zjf; first | (rw [if_pos (by omega)]) | (rw [if_neg (by omega), if_pos (by omega)]) | (rw [if_neg (by omega), if_neg (by omega), if_pos (by omega)]) | (rw [if_neg (by omega), if_neg (by omega), if_neg (by omega), if_pos (by omega)]) | (rw [if_neg (by omega), if_neg (by omega), if_neg (by omega), if_neg (by omega), if_pos (by omega)]) | (rw [if_neg (by omega), if_neg (by omega), if_neg (by omega), if_neg (by omega), if_neg (by omega), if_pos (by omega)]) | (rw [if_neg (by omega), if_neg (by omega), if_neg (by omega), if_neg (by omega), if_neg (by omega), if_neg (by omega)])]; exact Zgt hR (by omega), by omega⟩, by show n - (i + 1) < n - i; omega, ?_⟩
  refine Zaq (n := 3) rfl ?_ (by kernel_rfl) (by kernel_rfl)
  repeat (first | exact trivial | refine ⟨.inl rfl, ?_⟩ | refine ⟨.inr ⟨rfl, rfl⟩, ?_⟩ | refine ⟨.inr ⟨congrArg (Value.int .i64) (by first | omega | (dsimp only; omega)), rfl⟩, ?_⟩)
  refine Zn (vx := Iv ((fs.getD i default).tag)) (vy := Iv 1) rfl rfl (.bool false) rfl rfl (Zb6 (by omega)) ?_
  refine Zb rfl rfl (.bool false) rfl (Za (Zc (Zx rfl (Zg (Zi ?_)))))
  by_cases h3 : ((fs.getD i default).tag) = 2
  refine Zn (vx := Iv ((fs.getD i default).tag)) (vy := Iv 2) rfl rfl (.bool true) rfl rfl (Zbs (by omega)) ?_
  refine Zb rfl rfl (.bool true) rfl (Za (Zc (Z0 rfl (Zi (Zd rfl rfl (.string ((fs.getD i default).data)) rfl ?_)))))
  refine Zs (Zfg (G := G) ((fs.getD i default).data)) (vals := [.string ((fs.getD i default).data)]) (res' := Iv (vR ((fs.getD i default).data))) rfl rfl rfl rfl rfl rfl ?_
  refine Zj (b := 2) (o := 0) (n := 1) (o' := 1) rfl rfl rfl rfl rfl ?_
  refine Zr (p := pt 2 1) (v := Iv (vR ((fs.getD i default).data))) (b := 2) (blk := bxB 109 (Z2 (⟨x.kind, (vR ((fs.getD i default).data)), x.seq, x.text, x.head, x.claim⟩ : Entry))) (H' := [rwR cFd fs, bxB 109 (Z2 (⟨0, 0, 0, ⟨#[]⟩, (⟨(⟨0, 0, 0, dz, 0⟩ : Head), 0, dz⟩ : Signed), (⟨0, 0, 0, 0, dz⟩ : Claim)⟩ : Entry)), bxB 109 (Z2 (⟨x.kind, (vR ((fs.getD i default).data)), x.seq, x.text, x.head, x.claim⟩ : Entry)), hole, hole, hole, hole]) rfl rfl rfl (by kernel_rfl) (by kernel_rfl) ?_
  refine Za (Z1 (Z1 (Zc (Zi (Zd rfl rfl (Iv (i : Nat)) rfl ?_)))))
  refine Zn (vx := Iv (i : Nat)) (vy := Iv 1) rfl rfl (Iv ((i : Nat) + 1)) rfl rfl (Za7 (by omega) (by omega) (by omega)) ?_
  refine Zb rfl rfl (Iv ((i : Nat) + 1)) rfl (Za ?_)
  refine Zau ⟨((i + 1), (⟨x.kind, (vR ((fs.getD i default).data)), x.seq, x.text, x.head, x.claim⟩ : Entry)), ⟨by dsimp only; rw [show (⟨x.kind, (vR ((fs.getD i default).data)), x.seq, x.text, x.head, x.claim⟩ : Entry) = Zjf x (fs.getD i default) from by unfold Zjf; first | (rw [if_pos (by omega)]) | (rw [if_neg (by omega), if_pos (by omega)]) | (rw [if_neg (by omega), if_neg (by omega), if_pos (by omega)]) | (rw [if_neg (by omega), if_neg (by omega), if_neg (by omega), if_pos (by omega)]) | (rw [if_neg (by omega), if_neg (by omega), if_neg (by omega), if_neg (by omega), if_pos (by omega)]) | (rw [if_neg (by omega), if_neg (by omega), if_neg (by omega), if_neg (by omega), if_neg (by omega), if_pos (by omega)]) | (rw [if_neg (by omega), if_neg (by omega), if_neg (by omega), if_neg (by omega), if_neg (by omega), if_neg (by omega)])]; exact Zgt hR (by omega), by omega⟩, by show n - (i + 1) < n - i; omega, ?_⟩
  refine Zaq (n := 3) rfl ?_ (by kernel_rfl) (by kernel_rfl)
  repeat (first | exact trivial | refine ⟨.inl rfl, ?_⟩ | refine ⟨.inr ⟨rfl, rfl⟩, ?_⟩ | refine ⟨.inr ⟨congrArg (Value.int .i64) (by first | omega | (dsimp only; omega)), rfl⟩, ?_⟩)
  refine Zn (vx := Iv ((fs.getD i default).tag)) (vy := Iv 2) rfl rfl (.bool false) rfl rfl (Zb6 (by omega)) ?_
  refine Zb rfl rfl (.bool false) rfl (Za (Zc (Zx rfl (Zg (Zi ?_)))))
  by_cases h4 : ((fs.getD i default).tag) = 3
  refine Zn (vx := Iv ((fs.getD i default).tag)) (vy := Iv 3) rfl rfl (.bool true) rfl rfl (Zbs (by omega)) ?_
  refine Zb rfl rfl (.bool true) rfl (Za (Zc (Z0 rfl (Zi (Zd rfl rfl (.string ((fs.getD i default).data)) rfl ?_)))))
  refine Zs (Zfg (G := G) ((fs.getD i default).data)) (vals := [.string ((fs.getD i default).data)]) (res' := Iv (vR ((fs.getD i default).data))) rfl rfl rfl rfl rfl rfl ?_
  refine Zj (b := 2) (o := 0) (n := 2) (o' := 2) rfl rfl rfl rfl rfl ?_
  refine Zr (p := pt 2 2) (v := Iv (vR ((fs.getD i default).data))) (b := 2) (blk := bxB 109 (Z2 (⟨x.kind, x.client, (vR ((fs.getD i default).data)), x.text, x.head, x.claim⟩ : Entry))) (H' := [rwR cFd fs, bxB 109 (Z2 (⟨0, 0, 0, ⟨#[]⟩, (⟨(⟨0, 0, 0, dz, 0⟩ : Head), 0, dz⟩ : Signed), (⟨0, 0, 0, 0, dz⟩ : Claim)⟩ : Entry)), bxB 109 (Z2 (⟨x.kind, x.client, (vR ((fs.getD i default).data)), x.text, x.head, x.claim⟩ : Entry)), hole, hole, hole, hole]) rfl rfl rfl (by kernel_rfl) (by kernel_rfl) ?_
  refine Za (Z1 (Z1 (Zc (Zi (Zd rfl rfl (Iv (i : Nat)) rfl ?_)))))
  refine Zn (vx := Iv (i : Nat)) (vy := Iv 1) rfl rfl (Iv ((i : Nat) + 1)) rfl rfl (Za7 (by omega) (by omega) (by omega)) ?_
  refine Zb rfl rfl (Iv ((i : Nat) + 1)) rfl (Za ?_)
  refine Zau ⟨((i + 1), (⟨x.kind, x.client, (vR ((fs.getD i default).data)), x.text, x.head, x.claim⟩ : Entry)), ⟨by dsimp only; rw [show (⟨x.kind, x.client, (vR ((fs.getD i default).data)), x.text, x.head, x.claim⟩ : Entry) = Zjf x (fs.getD i default) from by unfold Zjf; first | (rw [if_pos (by omega)]) | (rw [if_neg (by omega), if_pos (by omega)]) | (rw [if_neg (by omega), if_neg (by omega), if_pos (by omega)]) | (rw [if_neg (by omega), if_neg (by omega), if_neg (by omega), if_pos (by omega)]) | (rw [if_neg (by omega), if_neg (by omega), if_neg (by omega), if_neg (by omega), if_pos (by omega)]) | (rw [if_neg (by omega), if_neg (by omega), if_neg (by omega), if_neg (by omega), if_neg (by omega), if_pos (by omega)]) | (rw [if_neg (by omega), if_neg (by omega), if_neg (by omega), if_neg (by omega), if_neg (by omega), if_neg (by omega)])]; exact Zgt hR (by omega), by omega⟩, by show n - (i + 1) < n - i; omega, ?_⟩
  refine Zaq (n := 3) rfl ?_ (by kernel_rfl) (by kernel_rfl)
  repeat (first | exact trivial | refine ⟨.inl rfl, ?_⟩ | refine ⟨.inr ⟨rfl, rfl⟩, ?_⟩ | refine ⟨.inr ⟨congrArg (Value.int .i64) (by first | omega | (dsimp only; omega)), rfl⟩, ?_⟩)
  refine Zn (vx := Iv ((fs.getD i default).tag)) (vy := Iv 3) rfl rfl (.bool false) rfl rfl (Zb6 (by omega)) ?_
  refine Zb rfl rfl (.bool false) rfl (Za (Zc (Zx rfl (Zg (Zi ?_)))))
  by_cases h5 : ((fs.getD i default).tag) = 4
  refine Zn (vx := Iv ((fs.getD i default).tag)) (vy := Iv 4) rfl rfl (.bool true) rfl rfl (Zbs (by omega)) ?_
  refine Zb rfl rfl (.bool true) rfl (Za (Zc (Z0 rfl (Zi (Zd rfl rfl (.string ((fs.getD i default).data)) rfl ?_)))))
  refine Zj (b := 2) (o := 0) (n := 3) (o' := 3) rfl rfl rfl rfl rfl ?_
  refine Zr (p := pt 2 3) (v := .string ((fs.getD i default).data)) (b := 2) (blk := bxB 109 (Z2 (⟨x.kind, x.client, x.seq, (fs.getD i default).data, x.head, x.claim⟩ : Entry))) (H' := [rwR cFd fs, bxB 109 (Z2 (⟨0, 0, 0, ⟨#[]⟩, (⟨(⟨0, 0, 0, dz, 0⟩ : Head), 0, dz⟩ : Signed), (⟨0, 0, 0, 0, dz⟩ : Claim)⟩ : Entry)), bxB 109 (Z2 (⟨x.kind, x.client, x.seq, (fs.getD i default).data, x.head, x.claim⟩ : Entry)), hole, hole, hole, hole]) rfl rfl rfl (by kernel_rfl) (by kernel_rfl) ?_
  refine Za (Z1 (Z1 (Zc (Zi (Zd rfl rfl (Iv (i : Nat)) rfl ?_)))))
  refine Zn (vx := Iv (i : Nat)) (vy := Iv 1) rfl rfl (Iv ((i : Nat) + 1)) rfl rfl (Za7 (by omega) (by omega) (by omega)) ?_
  refine Zb rfl rfl (Iv ((i : Nat) + 1)) rfl (Za ?_)
  refine Zau ⟨((i + 1), (⟨x.kind, x.client, x.seq, (fs.getD i default).data, x.head, x.claim⟩ : Entry)), ⟨by dsimp only; rw [show (⟨x.kind, x.client, x.seq, (fs.getD i default).data, x.head, x.claim⟩ : Entry) = Zjf x (fs.getD i default) from by unfold Zjf; first | (rw [if_pos (by omega)]) | (rw [if_neg (by omega), if_pos (by omega)]) | (rw [if_neg (by omega), if_neg (by omega), if_pos (by omega)]) | (rw [if_neg (by omega), if_neg (by omega), if_neg (by omega), if_pos (by omega)]) | (rw [if_neg (by omega), if_neg (by omega), if_neg (by omega), if_neg (by omega), if_pos (by omega)]) | (rw [if_neg (by omega), if_neg (by omega), if_neg (by omega), if_neg (by omega), if_neg (by omega), if_pos (by omega)]) | (rw [if_neg (by omega), if_neg (by omega), if_neg (by omega), if_neg (by omega), if_neg (by omega), if_neg (by omega)])]; exact Zgt hR (by omega), by omega⟩, by show n - (i + 1) < n - i; omega, ?_⟩
  refine Zaq (n := 3) rfl ?_ (by kernel_rfl) (by kernel_rfl)
  repeat (first | exact trivial | refine ⟨.inl rfl, ?_⟩ | refine ⟨.inr ⟨rfl, rfl⟩, ?_⟩ | refine ⟨.inr ⟨congrArg (Value.int .i64) (by first | omega | (dsimp only; omega)), rfl⟩, ?_⟩)
  refine Zn (vx := Iv ((fs.getD i default).tag)) (vy := Iv 4) rfl rfl (.bool false) rfl rfl (Zb6 (by omega)) ?_
  refine Zb rfl rfl (.bool false) rfl (Za (Zc (Zx rfl (Zg (Zi ?_)))))
  by_cases h6 : ((fs.getD i default).tag) = 5
  refine Zn (vx := Iv ((fs.getD i default).tag)) (vy := Iv 5) rfl rfl (.bool true) rfl rfl (Zbs (by omega)) ?_
  refine Zb rfl rfl (.bool true) rfl (Za (Zc (Z0 rfl (Zg (Zi (Zd rfl rfl (.string ((fs.getD i default).data)) rfl ?_))))))
  refine Zew (p := .string ((fs.getD i default).data)) (v := slv 3 0 (((fs.getD i default).data).size) (((fs.getD i default).data).size)) (blk := Zy (bl ((fs.getD i default).data))) (nid := 3) (H' := [rwR cFd fs, bxB 109 (Z2 (⟨0, 0, 0, ⟨#[]⟩, (⟨(⟨0, 0, 0, dz, 0⟩ : Head), 0, dz⟩ : Signed), (⟨0, 0, 0, 0, dz⟩ : Claim)⟩ : Entry)), bxB 109 (Z2 x), Zy (bl ((fs.getD i default).data)), hole, hole, hole]) rfl rfl rfl (Zfq rfl rfl rfl) (by kernel_rfl) ?_
  refine Zad (e := [some (3, 0)]) (nid := 0) (Z27 (G := G) (bl ((fs.getD i default).data)) (((fs.getD i default).data).size) (((fs.getD i default).data).size) (Zb5 ((fs.getD i default).data)) (by omega) (by omega) (by omega)) (vals := [slv 3 0 (((fs.getD i default).data).size) (((fs.getD i default).data).size)]) (v := .tuple #[Zaa ((Zb9 (bl ((fs.getD i default).data))).1), Iv ((Zb9 (bl ((fs.getD i default).data))).2)]) (H' := [rwR cFd fs, bxB 109 (Z2 (⟨0, 0, 0, ⟨#[]⟩, (⟨(⟨0, 0, 0, dz, 0⟩ : Head), 0, dz⟩ : Signed), (⟨0, 0, 0, 0, dz⟩ : Claim)⟩ : Entry)), bxB 109 (Z2 x), Zy (bl ((fs.getD i default).data)), hole, hole, hole]) rfl rfl rfl rfl rfl rfl rfl ⟨⟨⟨rfl, rfl, rfl, by first | omega | exact Nat.le_refl _, by first | omega | exact Nat.le_refl _⟩, trivial⟩, ⟨(Ze1 rfl), trivial⟩, rfl, rfl, rfl⟩ (by kernel_rfl) (by kernel_rfl) ?_
  refine Zd rfl rfl (.tuple #[Zaa ((Zb9 (bl ((fs.getD i default).data))).1), Iv ((Zb9 (bl ((fs.getD i default).data))).2)]) rfl (Zt (vs := #[Zaa ((Zb9 (bl ((fs.getD i default).data))).1), Iv ((Zb9 (bl ((fs.getD i default).data))).2)]) (v := Zaa ((Zb9 (bl ((fs.getD i default).data))).1)) rfl rfl rfl rfl (Zt (vs := #[Zaa ((Zb9 (bl ((fs.getD i default).data))).1), Iv ((Zb9 (bl ((fs.getD i default).data))).2)]) (v := Iv ((Zb9 (bl ((fs.getD i default).data))).2)) rfl rfl rfl rfl ?_))
  refine Zae (b := bxB 69 (Z3 (⟨(⟨0, 0, 0, dz, 0⟩ : Head), 0, dz⟩ : Signed))) (nid := 4) (H' := [rwR cFd fs, bxB 109 (Z2 (⟨0, 0, 0, ⟨#[]⟩, (⟨(⟨0, 0, 0, dz, 0⟩ : Head), 0, dz⟩ : Signed), (⟨0, 0, 0, 0, dz⟩ : Claim)⟩ : Entry)), bxB 109 (Z2 x), Zy (bl ((fs.getD i default).data)), bxB 69 (Z3 (⟨(⟨0, 0, 0, dz, 0⟩ : Head), 0, dz⟩ : Signed)), hole, hole]) rfl rfl (by kernel_rfl) (by kernel_rfl) ?_
  refine Zr (p := pt 4 0) (v := Zaa ((Zb9 (bl ((fs.getD i default).data))).1)) (b := 4) (blk := bxB 69 (Z3 ((Zb9 (bl ((fs.getD i default).data))).1))) (H' := [rwR cFd fs, bxB 109 (Z2 (⟨0, 0, 0, ⟨#[]⟩, (⟨(⟨0, 0, 0, dz, 0⟩ : Head), 0, dz⟩ : Signed), (⟨0, 0, 0, 0, dz⟩ : Claim)⟩ : Entry)), bxB 109 (Z2 x), Zy (bl ((fs.getD i default).data)), bxB 69 (Z3 ((Zb9 (bl ((fs.getD i default).data))).1)), hole, hole]) rfl rfl rfl (by kernel_rfl) (by kernel_rfl) ?_
  refine Zb rfl rfl (Iv ((Zb9 (bl ((fs.getD i default).data))).2)) rfl (Za (Zc (Zi ?_)))
  refine Zo (p := pt 4 0) (v := Zaa ((Zb9 (bl ((fs.getD i default).data))).1)) rfl rfl rfl (by kernel_rfl) ?_
  refine Zj (b := 2) (o := 0) (n := 4) (o' := 4) rfl rfl rfl rfl rfl ?_
  refine Zr (p := pt 2 4) (v := Zaa ((Zb9 (bl ((fs.getD i default).data))).1)) (b := 2) (blk := bxB 109 (Z2 (⟨x.kind, x.client, x.seq, x.text, (Zb9 (bl ((fs.getD i default).data))).1, x.claim⟩ : Entry))) (H' := [rwR cFd fs, bxB 109 (Z2 (⟨0, 0, 0, ⟨#[]⟩, (⟨(⟨0, 0, 0, dz, 0⟩ : Head), 0, dz⟩ : Signed), (⟨0, 0, 0, 0, dz⟩ : Claim)⟩ : Entry)), bxB 109 (Z2 (⟨x.kind, x.client, x.seq, x.text, (Zb9 (bl ((fs.getD i default).data))).1, x.claim⟩ : Entry)), Zy (bl ((fs.getD i default).data)), bxB 69 (Z3 ((Zb9 (bl ((fs.getD i default).data))).1)), hole, hole]) rfl rfl rfl (by kernel_rfl) (by kernel_rfl) ?_
  refine Za (Z1 (Z1 (Zc (Zi (Zd rfl rfl (Iv (i : Nat)) rfl ?_)))))
  refine Zn (vx := Iv (i : Nat)) (vy := Iv 1) rfl rfl (Iv ((i : Nat) + 1)) rfl rfl (Za7 (by omega) (by omega) (by omega)) ?_
  refine Zb rfl rfl (Iv ((i : Nat) + 1)) rfl (Za ?_)
  refine Zau ⟨((i + 1), (⟨x.kind, x.client, x.seq, x.text, (Zb9 (bl ((fs.getD i default).data))).1, x.claim⟩ : Entry)), ⟨by dsimp only; rw [show (⟨x.kind, x.client, x.seq, x.text, (Zb9 (bl ((fs.getD i default).data))).1, x.claim⟩ : Entry) = Zjf x (fs.getD i default) from by unfold Zjf; first | (rw [if_pos (by omega)]) | (rw [if_neg (by omega), if_pos (by omega)]) | (rw [if_neg (by omega), if_neg (by omega), if_pos (by omega)]) | (rw [if_neg (by omega), if_neg (by omega), if_neg (by omega), if_pos (by omega)]) | (rw [if_neg (by omega), if_neg (by omega), if_neg (by omega), if_neg (by omega), if_pos (by omega)]) | (rw [if_neg (by omega), if_neg (by omega), if_neg (by omega), if_neg (by omega), if_neg (by omega), if_pos (by omega)]) | (rw [if_neg (by omega), if_neg (by omega), if_neg (by omega), if_neg (by omega), if_neg (by omega), if_neg (by omega)])]; exact Zgt hR (by omega), by omega⟩, by show n - (i + 1) < n - i; omega, ?_⟩
  refine Zaq (n := 3) rfl ?_ (by kernel_rfl) (by kernel_rfl)
  repeat (first | exact trivial | refine ⟨.inl rfl, ?_⟩ | refine ⟨.inr ⟨rfl, rfl⟩, ?_⟩ | refine ⟨.inr ⟨congrArg (Value.int .i64) (by first | omega | (dsimp only; omega)), rfl⟩, ?_⟩)
  refine Zn (vx := Iv ((fs.getD i default).tag)) (vy := Iv 5) rfl rfl (.bool false) rfl rfl (Zb6 (by omega)) ?_
  refine Zb rfl rfl (.bool false) rfl (Za (Zc (Zx rfl (Zg (Zi ?_)))))
  by_cases h7 : ((fs.getD i default).tag) = 6
  refine Zn (vx := Iv ((fs.getD i default).tag)) (vy := Iv 6) rfl rfl (.bool true) rfl rfl (Zbs (by omega)) ?_
  refine Zb rfl rfl (.bool true) rfl (Za (Zc (Z0 rfl (Zg (Zi (Zd rfl rfl (.string ((fs.getD i default).data)) rfl ?_))))))
  refine Zew (p := .string ((fs.getD i default).data)) (v := slv 3 0 (((fs.getD i default).data).size) (((fs.getD i default).data).size)) (blk := Zy (bl ((fs.getD i default).data))) (nid := 3) (H' := [rwR cFd fs, bxB 109 (Z2 (⟨0, 0, 0, ⟨#[]⟩, (⟨(⟨0, 0, 0, dz, 0⟩ : Head), 0, dz⟩ : Signed), (⟨0, 0, 0, 0, dz⟩ : Claim)⟩ : Entry)), bxB 109 (Z2 x), Zy (bl ((fs.getD i default).data)), hole, hole, hole]) rfl rfl rfl (Zfq rfl rfl rfl) (by kernel_rfl) ?_
  refine Zad (e := [some (3, 0)]) (nid := 0) (Z3g (G := G) (bl ((fs.getD i default).data)) (((fs.getD i default).data).size) (((fs.getD i default).data).size) (Zb5 ((fs.getD i default).data)) (by omega) (by omega) (by omega)) (vals := [slv 3 0 (((fs.getD i default).data).size) (((fs.getD i default).data).size)]) (v := .tuple #[Zz ((Z9 (bl ((fs.getD i default).data))).1), Iv ((Z9 (bl ((fs.getD i default).data))).2)]) (H' := [rwR cFd fs, bxB 109 (Z2 (⟨0, 0, 0, ⟨#[]⟩, (⟨(⟨0, 0, 0, dz, 0⟩ : Head), 0, dz⟩ : Signed), (⟨0, 0, 0, 0, dz⟩ : Claim)⟩ : Entry)), bxB 109 (Z2 x), Zy (bl ((fs.getD i default).data)), hole, hole, hole]) rfl rfl rfl rfl rfl rfl rfl ⟨⟨⟨rfl, rfl, rfl, by first | omega | exact Nat.le_refl _, by first | omega | exact Nat.le_refl _⟩, trivial⟩, ⟨(Ze1 rfl), trivial⟩, rfl, rfl, rfl⟩ (by kernel_rfl) (by kernel_rfl) ?_
  refine Zd rfl rfl (.tuple #[Zz ((Z9 (bl ((fs.getD i default).data))).1), Iv ((Z9 (bl ((fs.getD i default).data))).2)]) rfl (Zt (vs := #[Zz ((Z9 (bl ((fs.getD i default).data))).1), Iv ((Z9 (bl ((fs.getD i default).data))).2)]) (v := Zz ((Z9 (bl ((fs.getD i default).data))).1)) rfl rfl rfl rfl (Zt (vs := #[Zz ((Z9 (bl ((fs.getD i default).data))).1), Iv ((Z9 (bl ((fs.getD i default).data))).2)]) (v := Iv ((Z9 (bl ((fs.getD i default).data))).2)) rfl rfl rfl rfl ?_))
  refine Zae (b := bxB 36 (Zw (⟨0, 0, 0, 0, dz⟩ : Claim))) (nid := 4) (H' := [rwR cFd fs, bxB 109 (Z2 (⟨0, 0, 0, ⟨#[]⟩, (⟨(⟨0, 0, 0, dz, 0⟩ : Head), 0, dz⟩ : Signed), (⟨0, 0, 0, 0, dz⟩ : Claim)⟩ : Entry)), bxB 109 (Z2 x), Zy (bl ((fs.getD i default).data)), bxB 36 (Zw (⟨0, 0, 0, 0, dz⟩ : Claim)), hole, hole]) rfl rfl (by kernel_rfl) (by kernel_rfl) ?_
  refine Zr (p := pt 4 0) (v := Zz ((Z9 (bl ((fs.getD i default).data))).1)) (b := 4) (blk := bxB 36 (Zw ((Z9 (bl ((fs.getD i default).data))).1))) (H' := [rwR cFd fs, bxB 109 (Z2 (⟨0, 0, 0, ⟨#[]⟩, (⟨(⟨0, 0, 0, dz, 0⟩ : Head), 0, dz⟩ : Signed), (⟨0, 0, 0, 0, dz⟩ : Claim)⟩ : Entry)), bxB 109 (Z2 x), Zy (bl ((fs.getD i default).data)), bxB 36 (Zw ((Z9 (bl ((fs.getD i default).data))).1)), hole, hole]) rfl rfl rfl (by kernel_rfl) (by kernel_rfl) ?_
  refine Zb rfl rfl (Iv ((Z9 (bl ((fs.getD i default).data))).2)) rfl (Za (Zc (Zi ?_)))
  refine Zo (p := pt 4 0) (v := Zz ((Z9 (bl ((fs.getD i default).data))).1)) rfl rfl rfl (by kernel_rfl) ?_
  refine Zj (b := 2) (o := 0) (n := 73) (o' := 73) rfl rfl rfl rfl rfl ?_
  refine Zr (p := pt 2 73) (v := Zz ((Z9 (bl ((fs.getD i default).data))).1)) (b := 2) (blk := bxB 109 (Z2 (⟨x.kind, x.client, x.seq, x.text, x.head, (Z9 (bl ((fs.getD i default).data))).1⟩ : Entry))) (H' := [rwR cFd fs, bxB 109 (Z2 (⟨0, 0, 0, ⟨#[]⟩, (⟨(⟨0, 0, 0, dz, 0⟩ : Head), 0, dz⟩ : Signed), (⟨0, 0, 0, 0, dz⟩ : Claim)⟩ : Entry)), bxB 109 (Z2 (⟨x.kind, x.client, x.seq, x.text, x.head, (Z9 (bl ((fs.getD i default).data))).1⟩ : Entry)), Zy (bl ((fs.getD i default).data)), bxB 36 (Zw ((Z9 (bl ((fs.getD i default).data))).1)), hole, hole]) rfl rfl rfl (by kernel_rfl) (by kernel_rfl) ?_
  refine Za (Z1 (Z1 (Zc (Zi (Zd rfl rfl (Iv (i : Nat)) rfl ?_)))))
  refine Zn (vx := Iv (i : Nat)) (vy := Iv 1) rfl rfl (Iv ((i : Nat) + 1)) rfl rfl (Za7 (by omega) (by omega) (by omega)) ?_
  refine Zb rfl rfl (Iv ((i : Nat) + 1)) rfl (Za ?_)
  refine Zau ⟨((i + 1), (⟨x.kind, x.client, x.seq, x.text, x.head, (Z9 (bl ((fs.getD i default).data))).1⟩ : Entry)), ⟨by dsimp only; rw [show (⟨x.kind, x.client, x.seq, x.text, x.head, (Z9 (bl ((fs.getD i default).data))).1⟩ : Entry) = Zjf x (fs.getD i default) from by unfold Zjf; first | (rw [if_pos (by omega)]) | (rw [if_neg (by omega), if_pos (by omega)]) | (rw [if_neg (by omega), if_neg (by omega), if_pos (by omega)]) | (rw [if_neg (by omega), if_neg (by omega), if_neg (by omega), if_pos (by omega)]) | (rw [if_neg (by omega), if_neg (by omega), if_neg (by omega), if_neg (by omega), if_pos (by omega)]) | (rw [if_neg (by omega), if_neg (by omega), if_neg (by omega), if_neg (by omega), if_neg (by omega), if_pos (by omega)]) | (rw [if_neg (by omega), if_neg (by omega), if_neg (by omega), if_neg (by omega), if_neg (by omega), if_neg (by omega)])]; exact Zgt hR (by omega), by omega⟩, by show n - (i + 1) < n - i; omega, ?_⟩
  refine Zaq (n := 3) rfl ?_ (by kernel_rfl) (by kernel_rfl)
  repeat (first | exact trivial | refine ⟨.inl rfl, ?_⟩ | refine ⟨.inr ⟨rfl, rfl⟩, ?_⟩ | refine ⟨.inr ⟨congrArg (Value.int .i64) (by first | omega | (dsimp only; omega)), rfl⟩, ?_⟩)
  refine Zn (vx := Iv ((fs.getD i default).tag)) (vy := Iv 6) rfl rfl (.bool false) rfl rfl (Zb6 (by omega)) ?_
  refine Zb rfl rfl (.bool false) rfl (Za (Zc (Zx rfl (Zai (Z1 (Z1 (Zc (Zi (Zd rfl rfl (Iv (i : Nat)) rfl ?_)))))))))
  refine Zn (vx := Iv (i : Nat)) (vy := Iv 1) rfl rfl (Iv ((i : Nat) + 1)) rfl rfl (Za7 (by omega) (by omega) (by omega)) ?_
  refine Zb rfl rfl (Iv ((i : Nat) + 1)) rfl (Za ?_)
  refine Zau ⟨((i + 1), x), ⟨by dsimp only; rw [show x = Zjf x (fs.getD i default) from by unfold Zjf; first | (rw [if_pos (by omega)]) | (rw [if_neg (by omega), if_pos (by omega)]) | (rw [if_neg (by omega), if_neg (by omega), if_pos (by omega)]) | (rw [if_neg (by omega), if_neg (by omega), if_neg (by omega), if_pos (by omega)]) | (rw [if_neg (by omega), if_neg (by omega), if_neg (by omega), if_neg (by omega), if_pos (by omega)]) | (rw [if_neg (by omega), if_neg (by omega), if_neg (by omega), if_neg (by omega), if_neg (by omega), if_pos (by omega)]) | (rw [if_neg (by omega), if_neg (by omega), if_neg (by omega), if_neg (by omega), if_neg (by omega), if_neg (by omega)])]; exact Zgt hR (by omega), by omega⟩, by show n - (i + 1) < n - i; omega, ?_⟩
  refine Zaq (n := 3) rfl ?_ (by kernel_rfl) (by kernel_rfl)
  repeat (first | exact trivial | refine ⟨.inl rfl, ?_⟩ | refine ⟨.inr ⟨rfl, rfl⟩, ?_⟩ | refine ⟨.inr ⟨congrArg (Value.int .i64) (by first | omega | (dsimp only; omega)), rfl⟩, ?_⟩)
  refine Zn (vx := Iv (i : Nat)) (vy := Iv (n : Nat)) rfl rfl (.bool false) rfl rfl (Zdh (by omega)) ?_
  refine Za (Zc (Zx rfl (Zce (Zbj (Zbo (Zbp rfl (Zc (Zg (Zi ?_)))))))))
  refine Zo (p := pt 2 0) (v := Zaz x) rfl rfl rfl (by kernel_rfl) ?_
  refine Zr (p := pt 1 0) (v := Zaz x) (b := 1) (blk := bxB 109 (Z2 x)) (H' := [rwR cFd fs, bxB 109 (Z2 x), bxB 109 (Z2 x), hole, hole, hole, hole]) rfl rfl rfl (by kernel_rfl) (by kernel_rfl) ?_
  refine Za (Zc (Zv (Zu ?_)))
  rw [show Zb0 fs zE = x from by rw [← hR, List.drop_of_length_le (by omega)]; rfl]
  exact Zm (v := Zaz x) (by kernel_rfl) rfl rfl (by simp [Zac, rwR, cFd]) (Zd1 (by kernel_rfl) rfl)
theorem Zss (l : Bs) (c : Nat) (hc : l.length ≤ c) (hb : l.length ≤ 1048576) (hcc : c ≤ 9223372036854775807) : Zao Tryd.prog G 22 [slv 0 0 l.length c] [rdB l] (.tuple #[Zaz (Z4 l).1, Iv (Z4 l).2]) [rdB l] := by
  refine Zbv (fn := Tryd.f22) (nt := 31) rfl rfl rfl rfl ?_
  refine Zat 4 (H' := [rdB l, hole, hole, hole, hole]) rfl ?_
  refine Zg (Zi ?_)
  refine Zae (b := bxB 109 (Z2 (⟨0, 0, 0, ⟨#[]⟩, (⟨(⟨0, 0, 0, dz, 0⟩ : Head), 0, dz⟩ : Signed), (⟨0, 0, 0, 0, dz⟩ : Claim)⟩ : Entry))) (nid := 1) (H' := [rdB l, bxB 109 (Z2 (⟨0, 0, 0, ⟨#[]⟩, (⟨(⟨0, 0, 0, dz, 0⟩ : Head), 0, dz⟩ : Signed), (⟨0, 0, 0, 0, dz⟩ : Claim)⟩ : Entry)), hole, hole, hole]) rfl rfl (by kernel_rfl) (by kernel_rfl) ?_
  refine Zb rfl rfl (Iv 0) rfl (Za (Zc (Zg (Zi (Zd rfl rfl (slv 0 0 l.length c) rfl ?_)))))
  have hrl7 := Zk1 l
  refine Zad (e := [some (0, 0)]) (nid := 2) (Zs7 (G := G) l c hc (by omega) hcc) (vals := [slv 0 0 l.length c]) (v := .tuple #[slv 2 0 ((Zh l).1.length) ((Zh l).1.length), Iv ((Zh l).2)]) (H' := [rdB l, bxB 109 (Z2 (⟨0, 0, 0, ⟨#[]⟩, (⟨(⟨0, 0, 0, dz, 0⟩ : Head), 0, dz⟩ : Signed), (⟨0, 0, 0, 0, dz⟩ : Claim)⟩ : Entry)), rwB cFd ((Zh l).1), hole, hole]) rfl rfl rfl rfl rfl rfl rfl ⟨⟨⟨rfl, rfl, rfl, by omega, by omega⟩, trivial⟩, ⟨(Zdk rfl), trivial⟩, rfl, rfl, rfl⟩ (by kernel_rfl) (by kernel_rfl) ?_
  refine Zd rfl rfl (.tuple #[slv 2 0 ((Zh l).1.length) ((Zh l).1.length), Iv ((Zh l).2)]) rfl (Zt (vs := #[slv 2 0 ((Zh l).1.length) ((Zh l).1.length), Iv ((Zh l).2)]) (v := slv 2 0 ((Zh l).1.length) ((Zh l).1.length)) rfl rfl rfl rfl (Zt (vs := #[slv 2 0 ((Zh l).1.length) ((Zh l).1.length), Iv ((Zh l).2)]) (v := Iv ((Zh l).2)) rfl rfl rfl rfl (Zb rfl rfl (slv 2 0 ((Zh l).1.length) ((Zh l).1.length)) rfl (Zb rfl rfl (Iv ((Zh l).2)) rfl (Za (Zc (Zg (Zi (Zd rfl rfl (slv 2 0 ((Zh l).1.length) ((Zh l).1.length)) rfl ?_)))))))))
  refine Zad (e := [some (2, 0)]) (nid := 0) (Zz6 (G := G) ((Zh l).1) ((Zh l).1.length) ((Zh l).1.length) rfl (by omega) (by omega) (fun i hi => Nat.le_trans (Zo7 l i hi) hb)) (vals := [slv 2 0 ((Zh l).1.length) ((Zh l).1.length)]) (v := Zaz (Zb0 (Zh l).1 zE)) (H' := [rdB l, bxB 109 (Z2 (⟨0, 0, 0, ⟨#[]⟩, (⟨(⟨0, 0, 0, dz, 0⟩ : Head), 0, dz⟩ : Signed), (⟨0, 0, 0, 0, dz⟩ : Claim)⟩ : Entry)), rwB cFd ((Zh l).1), hole, hole]) rfl rfl rfl rfl rfl rfl rfl ⟨⟨⟨rfl, rfl, rfl, by first | omega | exact Nat.le_refl _, by first | omega | exact Nat.le_refl _⟩, trivial⟩, ⟨(Zia rfl), trivial⟩, rfl, rfl, rfl⟩ (by kernel_rfl) (by kernel_rfl) ?_
  refine Zae (b := bxB 109 (Z2 (⟨0, 0, 0, ⟨#[]⟩, (⟨(⟨0, 0, 0, dz, 0⟩ : Head), 0, dz⟩ : Signed), (⟨0, 0, 0, 0, dz⟩ : Claim)⟩ : Entry))) (nid := 3) (H' := [rdB l, bxB 109 (Z2 (⟨0, 0, 0, ⟨#[]⟩, (⟨(⟨0, 0, 0, dz, 0⟩ : Head), 0, dz⟩ : Signed), (⟨0, 0, 0, 0, dz⟩ : Claim)⟩ : Entry)), rwB cFd ((Zh l).1), bxB 109 (Z2 (⟨0, 0, 0, ⟨#[]⟩, (⟨(⟨0, 0, 0, dz, 0⟩ : Head), 0, dz⟩ : Signed), (⟨0, 0, 0, 0, dz⟩ : Claim)⟩ : Entry)), hole]) rfl rfl (by kernel_rfl) (by kernel_rfl) ?_
  refine Zr (p := pt 3 0) (v := Zaz (Zb0 (Zh l).1 zE)) (b := 3) (blk := bxB 109 (Z2 (Zb0 (Zh l).1 zE))) (H' := [rdB l, bxB 109 (Z2 (⟨0, 0, 0, ⟨#[]⟩, (⟨(⟨0, 0, 0, dz, 0⟩ : Head), 0, dz⟩ : Signed), (⟨0, 0, 0, 0, dz⟩ : Claim)⟩ : Entry)), rwB cFd ((Zh l).1), bxB 109 (Z2 (Zb0 (Zh l).1 zE)), hole]) rfl rfl rfl (by kernel_rfl) (by kernel_rfl) ?_
  refine Za (Zc (Zg (Zg ?_)))
  refine Zfv (by kernel_rfl) ?_
  refine Zd rfl rfl (Iv ((Zh l).2)) rfl ?_
  by_cases h1 : ((Zh l).2) ≠ 0
  refine Zn (vx := Iv ((Zh l).2)) (vy := Iv 0) rfl rfl (.bool true) rfl rfl (Zeg (by omega)) ?_
  refine Zd rfl rfl (.bool true) rfl (Zf rfl rfl (Zf rfl rfl (Zf rfl rfl (Zk rfl rfl (.bool true) rfl (Zd rfl rfl (.bool true) rfl (Zf rfl rfl (Zf rfl rfl (Zf rfl rfl (Zf rfl rfl (Zf rfl rfl (Zf rfl rfl (Zk rfl rfl (.bool true) rfl ?_))))))))))))
  refine Zeo (Zdr [[], [0], [0, 1], [0, 1, 2], [0, 1, 2, 3], [0, 1, 2, 3, 4], [0, 1, 2, 3, 4, 5], [0, 1, 2, 3, 4, 5, 6], [0, 1, 2, 3, 4, 5, 6, 7], [0, 1, 2, 3, 4, 5, 6, 7, 8], [0, 1, 2, 3, 4, 5, 6, 7, 8, 9], [0, 1, 2, 3, 4, 5, 6, 7], [0, 1, 2, 3, 4, 5, 6, 7, 11], [0, 1, 2, 3, 4, 5, 6, 7, 8, 9, 10, 11, 12], [0, 1, 2, 3, 4, 5, 6, 7, 8, 9, 10, 11, 12, 13]] (by kernel_rfl) (by kernel_rfl)) ?_
  refine Zc (Z0 rfl (Zg (Zi ?_)))
  refine Zaw (vs := []) (v := Zaz (⟨0, 0, 0, ⟨#[]⟩, (⟨(⟨0, 0, 0, dz, 0⟩ : Head), 0, dz⟩ : Signed), (⟨0, 0, 0, 0, dz⟩ : Claim)⟩ : Entry)) rfl rfl rfl (by kernel_rfl) ?_
  refine Zr (p := pt 1 0) (v := Zaz (⟨0, 0, 0, ⟨#[]⟩, (⟨(⟨0, 0, 0, dz, 0⟩ : Head), 0, dz⟩ : Signed), (⟨0, 0, 0, 0, dz⟩ : Claim)⟩ : Entry)) (b := 1) (blk := bxB 109 (Z2 (⟨0, 0, 0, ⟨#[]⟩, (⟨(⟨0, 0, 0, dz, 0⟩ : Head), 0, dz⟩ : Signed), (⟨0, 0, 0, 0, dz⟩ : Claim)⟩ : Entry))) (H' := [rdB l, bxB 109 (Z2 (⟨0, 0, 0, ⟨#[]⟩, (⟨(⟨0, 0, 0, dz, 0⟩ : Head), 0, dz⟩ : Signed), (⟨0, 0, 0, 0, dz⟩ : Claim)⟩ : Entry)), rwB cFd ((Zh l).1), bxB 109 (Z2 (Zb0 (Zh l).1 zE)), hole]) rfl rfl rfl (by kernel_rfl) (by kernel_rfl) ?_
  refine Zb rfl rfl (Iv 60) rfl (Za (Zc (Zv (Z5 (Zu ?_)))))
  rw [show Z4 l = (zE, 60) from by first | exact Zgd (.inl (by omega)) | exact Zgd (.inr (.inl (of_decide_eq_false (by assumption)))) | exact Zgd (.inr (.inr (by assumption)))]
  exact Zm (v := .tuple #[Zaz (⟨0, 0, 0, ⟨#[]⟩, (⟨(⟨0, 0, 0, dz, 0⟩ : Head), 0, dz⟩ : Signed), (⟨0, 0, 0, 0, dz⟩ : Claim)⟩ : Entry), Iv 60]) (by kernel_rfl) rfl rfl (by simp [Zac, rdB]) ⟨(Zbd (by kernel_rfl) rfl), rfl, trivial⟩
  refine Zn (vx := Iv ((Zh l).2)) (vy := Iv 0) rfl rfl (.bool false) rfl rfl (Zds (by omega)) ?_
  refine Zd rfl rfl (.bool false) rfl ?_
  refine Zo (p := pt 3 0) (v := Zaz (Zb0 (Zh l).1 zE)) rfl rfl rfl (by kernel_rfl) ?_
  refine Zs (Zl2 (G := G) (Zb0 (Zh l).1 zE)) (vals := [Zaz (Zb0 (Zh l).1 zE)]) (res' := .bool (decide (Zba (Zb0 (Zh l).1 zE)))) rfl rfl rfl rfl rfl rfl ?_
  rcases Bool.eq_false_or_eq_true (decide (Zba (Zb0 (Zh l).1 zE))) with h2 | h2
  refine Zef (vx := .bool (decide (Zba (Zb0 (Zh l).1 zE)))) rfl rfl (.bool false) rfl (Eq.trans Zb1 (congrArg (fun b => some (Value.bool !b)) h2)) ?_
  refine Zk rfl rfl (.bool false) rfl (Zd rfl rfl (.bool false) rfl ?_)
  refine Zo (p := pt 3 0) (v := Zaz (Zb0 (Zh l).1 zE)) rfl rfl rfl (by kernel_rfl) ?_
  have hpl8 := Zj9 (Zb0 (Zh l).1 zE)
  refine Zad (e := []) (nid := 4) (Zsh (G := G) (Zb0 (Zh l).1 zE) (of_decide_eq_true (by assumption))) (vals := [Zaz (Zb0 (Zh l).1 zE)]) (v := slv 4 0 ((Zaf (Zb0 (Zh l).1 zE)).1.length) ((Zaf (Zb0 (Zh l).1 zE)).1.length)) (H' := [rdB l, bxB 109 (Z2 (⟨0, 0, 0, ⟨#[]⟩, (⟨(⟨0, 0, 0, dz, 0⟩ : Head), 0, dz⟩ : Signed), (⟨0, 0, 0, 0, dz⟩ : Claim)⟩ : Entry)), rwB cFd ((Zh l).1), bxB 109 (Z2 (Zb0 (Zh l).1 zE)), Zy ((Zaf (Zb0 (Zh l).1 zE)).1)]) rfl rfl rfl rfl rfl rfl rfl ⟨⟨rfl, trivial⟩, trivial, rfl, rfl, rfl⟩ (by kernel_rfl) (by kernel_rfl) ?_
  refine Zc6 (p := slv 4 0 ((Zaf (Zb0 (Zh l).1 zE)).1.length) ((Zaf (Zb0 (Zh l).1 zE)).1.length)) (v := .string (Zl ((Zaf (Zb0 (Zh l).1 zE)).1))) rfl rfl rfl (Zbi rfl rfl rfl rfl rfl (by omega)) ?_
  refine Zd rfl rfl (slv 0 0 l.length c) rfl ?_
  refine Zc6 (p := slv 0 0 l.length c) (v := .string (Zl l)) rfl rfl rfl (Zbi rfl rfl rfl rfl rfl (by omega)) ?_
  rcases Bool.eq_false_or_eq_true (Zbq (Zl ((Zaf (Zb0 (Zh l).1 zE)).1)) (Zl l)) with h3 | h3
  refine Zn (vx := .string (Zl ((Zaf (Zb0 (Zh l).1 zE)).1))) (vy := .string (Zl l)) rfl rfl (.bool false) rfl rfl (Eq.trans (Zl7 _ _) (by rw [h3] <;> rfl)) ?_
  refine Zk rfl rfl (.bool false) rfl ?_
  refine Zeo (Zdr [[], [0], [0, 1], [0, 1, 2], [0, 1, 2, 3], [0, 1, 2, 3, 4], [0, 1, 2, 3, 4, 5], [0, 1, 2, 3, 4, 5, 6], [0, 1, 2, 3, 4, 5, 6, 7], [0, 1, 2, 3, 4, 5, 6, 7, 8], [0, 1, 2, 3, 4, 5, 6, 7, 8, 9], [0, 1, 2, 3, 4, 5, 6, 7], [0, 1, 2, 3, 4, 5, 6, 7, 11], [0, 1, 2, 3, 4, 5, 6, 7, 8, 9, 10, 11, 12], [0, 1, 2, 3, 4, 5, 6, 7, 8, 9, 10, 11, 12, 13]] (by kernel_rfl) (by kernel_rfl)) ?_
  refine Zc (Zx rfl (Zai (Zc (Zg (Zi ?_)))))
  refine Zo (p := pt 3 0) (v := Zaz (Zb0 (Zh l).1 zE)) rfl rfl rfl (by kernel_rfl) ?_
  refine Zr (p := pt 1 0) (v := Zaz (Zb0 (Zh l).1 zE)) (b := 1) (blk := bxB 109 (Z2 (Zb0 (Zh l).1 zE))) (H' := [rdB l, bxB 109 (Z2 (Zb0 (Zh l).1 zE)), rwB cFd ((Zh l).1), bxB 109 (Z2 (Zb0 (Zh l).1 zE)), Zy ((Zaf (Zb0 (Zh l).1 zE)).1)]) rfl rfl rfl (by kernel_rfl) (by kernel_rfl) ?_
  refine Zb rfl rfl (Iv 0) rfl (Za (Zc (Zv (Zu ?_))))
  rw [Z0i (l := l) (by omega) (of_decide_eq_true (by assumption)) (by assumption)]
  exact Zm (v := .tuple #[Zaz (Zb0 (Zh l).1 zE), Iv 0]) (by kernel_rfl) rfl rfl (by simp [Zac, rdB]) ⟨(Zbd (by kernel_rfl) rfl), rfl, trivial⟩
  refine Zn (vx := .string (Zl ((Zaf (Zb0 (Zh l).1 zE)).1))) (vy := .string (Zl l)) rfl rfl (.bool true) rfl rfl (Eq.trans (Zl7 _ _) (by rw [h3] <;> rfl)) ?_
  refine Zk rfl rfl (.bool true) rfl ?_
  refine Zeo (Zdr [[], [0], [0, 1], [0, 1, 2], [0, 1, 2, 3], [0, 1, 2, 3, 4], [0, 1, 2, 3, 4, 5], [0, 1, 2, 3, 4, 5, 6], [0, 1, 2, 3, 4, 5, 6, 7], [0, 1, 2, 3, 4, 5, 6, 7, 8], [0, 1, 2, 3, 4, 5, 6, 7, 8, 9], [0, 1, 2, 3, 4, 5, 6, 7], [0, 1, 2, 3, 4, 5, 6, 7, 11], [0, 1, 2, 3, 4, 5, 6, 7, 8, 9, 10, 11, 12], [0, 1, 2, 3, 4, 5, 6, 7, 8, 9, 10, 11, 12, 13]] (by kernel_rfl) (by kernel_rfl)) ?_
  refine Zc (Z0 rfl (Zg (Zi ?_)))
  refine Zaw (vs := []) (v := Zaz (⟨0, 0, 0, ⟨#[]⟩, (⟨(⟨0, 0, 0, dz, 0⟩ : Head), 0, dz⟩ : Signed), (⟨0, 0, 0, 0, dz⟩ : Claim)⟩ : Entry)) rfl rfl rfl (by kernel_rfl) ?_
  refine Zr (p := pt 1 0) (v := Zaz (⟨0, 0, 0, ⟨#[]⟩, (⟨(⟨0, 0, 0, dz, 0⟩ : Head), 0, dz⟩ : Signed), (⟨0, 0, 0, 0, dz⟩ : Claim)⟩ : Entry)) (b := 1) (blk := bxB 109 (Z2 (⟨0, 0, 0, ⟨#[]⟩, (⟨(⟨0, 0, 0, dz, 0⟩ : Head), 0, dz⟩ : Signed), (⟨0, 0, 0, 0, dz⟩ : Claim)⟩ : Entry))) (H' := [rdB l, bxB 109 (Z2 (⟨0, 0, 0, ⟨#[]⟩, (⟨(⟨0, 0, 0, dz, 0⟩ : Head), 0, dz⟩ : Signed), (⟨0, 0, 0, 0, dz⟩ : Claim)⟩ : Entry)), rwB cFd ((Zh l).1), bxB 109 (Z2 (Zb0 (Zh l).1 zE)), Zy ((Zaf (Zb0 (Zh l).1 zE)).1)]) rfl rfl rfl (by kernel_rfl) (by kernel_rfl) ?_
  refine Zb rfl rfl (Iv 60) rfl (Za (Zc (Zv (Z5 (Zu ?_)))))
  rw [show Z4 l = (zE, 60) from by first | exact Zgd (.inl (by omega)) | exact Zgd (.inr (.inl (of_decide_eq_false (by assumption)))) | exact Zgd (.inr (.inr (by assumption)))]
  exact Zm (v := .tuple #[Zaz (⟨0, 0, 0, ⟨#[]⟩, (⟨(⟨0, 0, 0, dz, 0⟩ : Head), 0, dz⟩ : Signed), (⟨0, 0, 0, 0, dz⟩ : Claim)⟩ : Entry), Iv 60]) (by kernel_rfl) rfl rfl (by simp [Zac, rdB]) ⟨(Zbd (by kernel_rfl) rfl), rfl, trivial⟩
  refine Zef (vx := .bool (decide (Zba (Zb0 (Zh l).1 zE)))) rfl rfl (.bool true) rfl (Eq.trans Zb1 (congrArg (fun b => some (Value.bool !b)) h2)) ?_
  refine Zk rfl rfl (.bool true) rfl (Zd rfl rfl (.bool true) rfl (Zf rfl rfl (Zf rfl rfl (Zf rfl rfl (Zf rfl rfl (Zf rfl rfl (Zf rfl rfl (Zk rfl rfl (.bool true) rfl ?_))))))))
  refine Zeo (Zdr [[], [0], [0, 1], [0, 1, 2], [0, 1, 2, 3], [0, 1, 2, 3, 4], [0, 1, 2, 3, 4, 5], [0, 1, 2, 3, 4, 5, 6], [0, 1, 2, 3, 4, 5, 6, 7], [0, 1, 2, 3, 4, 5, 6, 7, 8], [0, 1, 2, 3, 4, 5, 6, 7, 8, 9], [0, 1, 2, 3, 4, 5, 6, 7], [0, 1, 2, 3, 4, 5, 6, 7, 11], [0, 1, 2, 3, 4, 5, 6, 7, 8, 9, 10, 11, 12], [0, 1, 2, 3, 4, 5, 6, 7, 8, 9, 10, 11, 12, 13]] (by kernel_rfl) (by kernel_rfl)) ?_
  refine Zc (Z0 rfl (Zg (Zi ?_)))
  refine Zaw (vs := []) (v := Zaz (⟨0, 0, 0, ⟨#[]⟩, (⟨(⟨0, 0, 0, dz, 0⟩ : Head), 0, dz⟩ : Signed), (⟨0, 0, 0, 0, dz⟩ : Claim)⟩ : Entry)) rfl rfl rfl (by kernel_rfl) ?_
  refine Zr (p := pt 1 0) (v := Zaz (⟨0, 0, 0, ⟨#[]⟩, (⟨(⟨0, 0, 0, dz, 0⟩ : Head), 0, dz⟩ : Signed), (⟨0, 0, 0, 0, dz⟩ : Claim)⟩ : Entry)) (b := 1) (blk := bxB 109 (Z2 (⟨0, 0, 0, ⟨#[]⟩, (⟨(⟨0, 0, 0, dz, 0⟩ : Head), 0, dz⟩ : Signed), (⟨0, 0, 0, 0, dz⟩ : Claim)⟩ : Entry))) (H' := [rdB l, bxB 109 (Z2 (⟨0, 0, 0, ⟨#[]⟩, (⟨(⟨0, 0, 0, dz, 0⟩ : Head), 0, dz⟩ : Signed), (⟨0, 0, 0, 0, dz⟩ : Claim)⟩ : Entry)), rwB cFd ((Zh l).1), bxB 109 (Z2 (Zb0 (Zh l).1 zE)), hole]) rfl rfl rfl (by kernel_rfl) (by kernel_rfl) ?_
  refine Zb rfl rfl (Iv 60) rfl (Za (Zc (Zv (Z5 (Zu ?_)))))
  rw [show Z4 l = (zE, 60) from by first | exact Zgd (.inl (by omega)) | exact Zgd (.inr (.inl (of_decide_eq_false (by assumption)))) | exact Zgd (.inr (.inr (by assumption)))]
  exact Zm (v := .tuple #[Zaz (⟨0, 0, 0, ⟨#[]⟩, (⟨(⟨0, 0, 0, dz, 0⟩ : Head), 0, dz⟩ : Signed), (⟨0, 0, 0, 0, dz⟩ : Claim)⟩ : Entry), Iv 60]) (by kernel_rfl) rfl rfl (by simp [Zac, rdB]) ⟨(Zbd (by kernel_rfl) rfl), rfl, trivial⟩
end Go.Flat
