-- Joined by this work's own program (wip/tools/bundle.py) out of its texts: what this claim uses of them. Not trusted: Lean checks it.
import Derived.Test.YtpdakdcmahlghaaGreatBReconAny14
section
namespace Go.Proofs.YtpdakdcmahlghaaGreat.XCo
open Go.RowKit Go.Proofs.YtpdakdcmahlghaaGreatW.PrintWords Go.Proofs.YtpdakdcmahlghaaGreatW.PrintLast Go.Proofs.YtpdakdcmahlghaaGreatW.PrintMore
attribute [local go_sem] aAz aBz aIz aJz atz auz aCz aDz
set_option linter.unusedVariables false
set_option linter.unusedSimpArgs false
def slE (x : ThX) : Value := .slice x.2.1 x.2.2.2.length x.2.2.1
def slK : Kd ThX := Kd.scalar slE (fun _ => rfl)
def ThOk (W : World) (ok : Nat → Prop) (x : ThX) : Prop := x.2.2.2.length ≤ x.2.2.1 ∧ Kd.F (Kd.int .u8) W ok x.2.1 x.2.2.2.length x.2.2.2
theorem ThOk.move {W W1 : World} {ok : Nat → Prop} {x : ThX} (h : ThOk W ok x) (hm : ∀ k, ok k → k < W.heap.size → W1.heap[k]? = W.heap[k]?) : ThOk W1 ok x := ⟨h.1, Kd.bMz h.2 hm⟩
theorem first_F {e base n c : Nat} {W : World} {ok okB : Nat → Prop} {A : Option Addr} {its : List ThX} (h : slK.R e W base ok (.slice A n c) its) (hr : ∀ x, x ∈ its → ThOk W okB x) :
  Kd.F (dM 5 .u8) W (fun k => okB k ∨ some k = (Value.slice A n c).ownBlock) A its.length (its.map fun x => x.2.2.2) := by
 intro W' hW
 have h1 : slK.R e W' base (fun k => some k = (Value.slice A n c).ownBlock) (.slice A n c) its := Kd.bzz (Kd.cnz rfl (Kd.aVz h (fun _ _ => trivial))) (fun k hk => hW k (.inr hk) (Kd.R_lt h k hk.symm))
 obtain ⟨h2, h3, h4⟩ := (Kd.aKz h1).2.2
 refine ⟨by simp, h3, fun hp => ?_⟩
 obtain ⟨ad, hA, hc⟩ := h4 hp
 refine ⟨ad, hA, fun j p hj => ?_⟩
 rw [List.getElem?_map] at hj
 obtain ⟨x, hx, rfl⟩ := Option.map_eq_some_iff.1 hj
 obtain ⟨cs, hl, hk, hcell⟩ := hc j x hx
 obtain rfl : cs = [slE x] := hk
 have hx2 := hr x (List.mem_of_getElem? hx)
 exact ⟨_, rfl, ⟨x.2.1, x.2.2.1, rfl, hx2.1, hx2.2 W' (fun k hk hlt => hW k (.inl hk) hlt)⟩, hcell⟩
theorem rr_one {α : Type} (enc : α → Value) {W : World} {g e : Nat} {x : α} {fr : Nat × Nat} (h : W.heap[g]? = some (.cells #[enc x] e fr)) : ReadsRow (fun (y : α) cs => cs = [enc y]) 1 W (some ⟨g, 0, none⟩) 1 [x] := by
 refine ⟨rfl, by decide, fun _ => ⟨_, rfl, fun j p hp => ⟨[enc p], rfl, rfl, fun i u hu => ?_⟩⟩⟩
 cases j with
 | succ j => simp at hp
 | zero =>
  obtain rfl : x = p := by simpa using hp
  cases i with
  | succ i => simp at hu
  | zero =>
   obtain rfl : enc x = u := by simpa using hu
   rw [show (⟨g, 0, none⟩ : Addr).add (0 * 1 + 0) = ⟨g, 0, none⟩ from bZz _]
   exact (cell_of_row W g 0 _ e fr h).trans rfl
theorem cpast {W : World} {b i : Nat} {v : Value} (o : Obj) (h : W.cell? ⟨b, i, none⟩ = some v) : (W.alloc o).cell? ⟨b, i, none⟩ = some v := (World.cell?_alloc_past _ _ _ (World.block_lt_of_cell? _ _ h)).trans h
theorem cgrow {W W1 : World} {a : Addr} {v : Value} {r : Option Nat} (h : W.cell? a = some v) (g : W.grownBy W1 r) (hne : some a.block ≠ r) : W1.cell? a = some v := (World.cell?_of_block (g.block _ (World.block_lt_of_cell? _ _ h) hne)).trans h
theorem gtr {A B C : World} {r : Option Nat} (h : A.grownBy B r) (k : B.grownBy C r) : A.grownBy C r :=
 ⟨k.os.trans h.os, k.tape.trans h.tape, k.output.trans h.output, Nat.le_trans h.size k.size, fun i hi hr => (k.block i (Nat.lt_of_lt_of_le hi h.size) hr).trans (h.block i hi hr)⟩
theorem gall {A B : World} {r : Option Nat} (h : A.grownBy B r) (o : Obj) : A.grownBy (B.alloc o) r :=
 gtr h (by
  have hb := abz (Below.refl B.heap.size B) o
  exact ⟨hb.os, hb.tape, hb.output, hb.size, fun i hi _ => hb.block i hi⟩)
theorem slK_noncells {X Y : World} {row : Option Nat} {base : Nat} {ok : Nat → Prop} {v : Value} {xs : List ThX} {e : Nat} (h : slK.R e X base ok v xs) (hg : X.grownBy Y row) (hr : ∀ r, row = some r → ∃ o : Obj, X.heap[r]? = some o ∧ o.isCells = false) : slK.R e Y base ok v xs := by
 refine Kd.aVz (Kd.bzz (Kd.cnz rfl (Kd.aVz h (fun _ _ => trivial))) (fun k hk => ?_)) (fun k hk => h.1 k hk.symm)
 obtain ⟨cells, hc⟩ := Kd.cmz h k hk.symm
 exact grownBy_keeps_cells hg hr hc rfl
theorem even_ev (p : Int) (h1 : 1 ≤ p) (h2 : p ≤ 6) (n m : Int) (b : List Int) : cSz.f p n m b = some (evB (pbits p) b) := by
 have hp : p = 1 ∨ p = 2 ∨ p = 3 ∨ p = 4 ∨ p = 5 ∨ p = 6 := by omega
 have e1 : ∀ q : Int, pbits q = 8 → evB (pbits q) b = true := fun q hq => by
  unfold evB
  rw [hq]
  show (b.length % 1 == 0) = true
  rw [Nat.mod_one]
  rfl
 rcases hp with rfl | rfl | rfl | rfl | rfl | rfl
 ·rw [e1 1 rfl]; rfl
 ·show some (((b.length : Int) % 2) == 0) = some (b.length % 2 == 0)
  congr 1
  have : ((b.length : Int) % 2) = ((b.length % 2 : Nat) : Int) := by omega
  rw [this]
  rcases Nat.mod_two_eq_zero_or_one b.length with h | h <;> rw [h] <;> rfl
 ·rw [e1 3 rfl]; rfl
 ·rw [e1 4 rfl]; rfl
 ·rw [e1 5 rfl]; rfl
 ·rw [e1 6 rfl]; rfl
def goodL (wb : Int) (L : Nat) (T : List (Nat × List Int)) : Bool := T.all fun y => evB wb y.2 && y.2.length == L
theorem goodL_snoc (wb : Int) (L : Nat) (T : List (Nat × List Int)) (y : Nat × List Int) : goodL wb L (T ++ [y]) = (goodL wb L T && (evB wb y.2 && y.2.length == L)) := by simp [goodL]
def len0 (T : List (Nat × List Int)) : Nat := (T.getD 0 (0, [])).2.length
structure RX (N b8 b9 b10 : Nat) (A B : World) : Prop where
 os : B.os = A.os
 tape : B.tape = A.tape
 output : B.output = A.output
 size : A.heap.size ≤ B.heap.size
 block : ∀ k, k < N → k ≠ b8 → k ≠ b9 → k ≠ b10 → B.heap[k]? = A.heap[k]?
 walks : ∀ (k : Nat) (o : Obj), A.heap[k]? = some o → o.isCells = false → B.heap[k]? = some o
theorem RX.trans {N b8 b9 b10 : Nat} {A B C : World} (h : RX N b8 b9 b10 A B) (k : RX N b8 b9 b10 B C) : RX N b8 b9 b10 A C :=
 ⟨k.os.trans h.os, k.tape.trans h.tape, k.output.trans h.output, Nat.le_trans h.size k.size, fun i h1 h2 h3 h4 => (k.block i h1 h2 h3 h4).trans (h.block i h1 h2 h3 h4), fun i o ho hn => k.walks i o (h.walks i o ho hn) hn⟩
theorem RX.refl (N b8 b9 b10 : Nat) (A : World) : RX N b8 b9 b10 A A := ⟨rfl, rfl, rfl, Nat.le_refl _, fun _ _ _ _ _ => rfl, fun _ _ h _ => h⟩
theorem RX.of_below {N b8 b9 b10 : Nat} {A B : World} (h : Below A.heap.size A B) (hN : N ≤ A.heap.size) : RX N b8 b9 b10 A B := ⟨h.os, h.tape, h.output, h.size, fun k hk _ _ _ => h.block k (by omega), fun k o ho _ => (h.block k (apz ho)).trans ho⟩
theorem RX.d3z {N b8 b9 b10 : Nat} {A B : World} {r : Option Nat} (h : A.grownBy B r) (hN : N ≤ A.heap.size) (hr : ∀ q, r = some q → N ≤ q ∧ ∃ cells e fr, A.heap[q]? = some (.cells cells e fr)) : RX N b8 b9 b10 A B :=
 ⟨h.os, h.tape, h.output, h.size, fun k hk _ _ _ => h.block k (by omega) (fun e => by have := (hr k e.symm).1; omega), fun k o ho hn => (h.block k (apz ho) (fun e => by
  obtain ⟨-, cells, ee, fr, hc⟩ := hr k e.symm
  rw [hc] at ho; cases ho; cases hn)).trans ho⟩
theorem RX.of_set {N b8 b9 b10 : Nat} {A : World} {b : Nat} {v v0 : Value} {e : TypeId} (hb : A.heap[b]? = some (.cells #[v0] e (0, 0))) (hx : b = b8 ∨ b = b9 ∨ b = b10) : RX N b8 b9 b10 A (A.setCell ⟨b, 0, none⟩ v) := by
 have hs : ∀ k, k ≠ b → (A.setCell ⟨b, 0, none⟩ v).heap[k]? = A.heap[k]? := fun k hk => Below.heap_setCell A ⟨b, 0, none⟩ v k hk
 refine ⟨rfl, rfl, rfl, by simp, fun k _ h1 h2 h3 => hs k (by omega), fun k o ho hn => (hs k ?_).trans ho⟩
 rintro rfl
 rw [hb] at ho; cases ho; cases hn
theorem RX.blk {N b8 b9 b10 : Nat} {A B : World} (h : RX N b8 b9 b10 A B) {k : Nat} {o : Obj} (hk : A.heap[k]? = some o) (h1 : k < N) (h2 : k ≠ b8) (h3 : k ≠ b9) (h4 : k ≠ b10) : B.heap[k]? = some o := (h.block k h1 h2 h3 h4).trans hk
theorem slK_grow {X Y : World} {r : Option Nat} {base e : Nat} {v : Value} {xs : List ThX} (h : slK.R e X base (fun _ => True) v xs) (hg : X.grownBy Y r) (hne : ∀ k, v.ownBlock = some k → some k ≠ r) : slK.R e Y base (fun _ => True) v xs :=
 Kd.aVz (Kd.bzz (Kd.cnz rfl h) (fun k hk => hg.block k (Kd.R_lt h k hk.symm) (hne k hk.symm))) (fun _ _ => trivial)
theorem int_grow {X Y : World} {r : Option Nat} {base e : Nat} {v : Value} {xs : List Int} (h : (Kd.int .i64).R e X base (fun _ => True) v xs) (hg : X.grownBy Y r) (hne : ∀ k, v.ownBlock = some k → some k ≠ r) : (Kd.int .i64).R e Y base (fun _ => True) v xs :=
 Kd.aVz (Kd.bzz (Kd.cnz rfl h) (fun k hk => hg.block k (Kd.R_lt h k hk.symm) (hne k hk.symm))) (fun _ _ => trivial)
theorem own_ne {X : World} {u v : Value} {e1 e2 : TypeId} (h1 : ∀ k, u.ownBlock = some k → ∃ cells, X.heap[k]? = some (.cells cells e1 (0, 0))) (h2 : ∀ k, v.ownBlock = some k → ∃ cells, X.heap[k]? = some (.cells cells e2 (0, 0))) (hne : e1 ≠ e2) : ∀ k, u.ownBlock = some k → some k ≠ v.ownBlock := by
 intro k hk he
 obtain ⟨c1, e1'⟩ := h1 k hk
 obtain ⟨c2, e2'⟩ := h2 k he.symm
 rw [e1'] at e2'
 injection e2' with e3
 injection e3 with _ e4
 exact hne e4
theorem thereF_le : ∀ (i : Nat) (l : List (List Int)) (hv : List Bool), (thereF i l hv).length ≤ l.length
 | _, [], _ => by simp [thereF]
 | _, _ :: _, [] => by simp [thereF]
 | i, b :: l, h :: hv => by
  have ih := thereF_le (i + 1) l hv
  unfold thereF
  cases h with
  | true => simpa using ih
  | false => rw [if_neg (by decide)]; simp only [List.length_cons]; omega
theorem slK_cell0 {W : World} {A : Option Addr} {n c e base : Nat} {ok : Nat → Prop} {its : List ThX} {x : ThX} (h : slK.R e W base ok (.slice A n c) its) (hx : its[0]? = some x) : ∃ ad, A = some ad ∧ W.cell? ad = some (slE x) := by
 obtain ⟨h2, h3, h4⟩ := (Kd.aKz h).2.2
 obtain ⟨ad, hA, hc⟩ := h4 (by have := (List.getElem?_eq_some_iff.1 hx).1; omega)
 obtain ⟨cs, hl, hk, hcell⟩ := hc 0 x hx
 obtain rfl : cs = [slE x] := hk
 have h5 := hcell 0 (slE x) rfl
 rw [show ad.add (0 * slK.sz + 0) = ad from by rw [Nat.zero_mul]; exact bZz ad] at h5
 exact ⟨ad, hA, h5⟩
theorem gdr {A B : World} {r : Option Nat} (h : A.grownBy B r) : A.grownBy B.drew r := ⟨h.os, h.tape, h.output, h.size, h.block⟩
theorem thereF_lt : ∀ (i : Nat) (l : List (List Int)) (hv : List Bool) (x : Nat × List Int), x ∈ thereF i l hv → x.1 < i + l.length
 | _, [], _, x, h => by simp [thereF] at h
 | _, _ :: _, [], x, h => by simp [thereF] at h
 | i, b :: l, h :: hv, x, hx => by
  unfold thereF at hx
  have ih := thereF_lt (i + 1) l hv x
  cases h with
  | true =>
   rw [if_pos rfl] at hx
   rcases List.mem_cons.1 hx with rfl | hx
   ·simp
   ·have := ih hx; simp only [List.length_cons]; omega
  | false =>
   rw [if_neg (by decide)] at hx
   have := ih hx; simp only [List.length_cons]; omega
end Go.Proofs.YtpdakdcmahlghaaGreat.XCo
end
section
namespace Go.Proofs.YtpdakdcmahlghaaGreat.XCo
open Go.RowKit Go.Proofs.YtpdakdcmahlghaaGreatW.PrintWords Go.Proofs.YtpdakdcmahlghaaGreatW.PrintLast Go.Proofs.YtpdakdcmahlghaaGreatW.PrintMore
attribute [local go_sem] aAz aBz aIz aJz atz auz aCz aDz
set_option linter.unusedVariables false
set_option linter.unusedSimpArgs false
section
variable {P : Program} {ops : Array Oper} {rest : List Oper} {o : Oper} {a : Act} {Q : Exit → Act → World → Prop} {α : Type}
theorem S_append_rows (d : Kd α) {w0 W : World} (base base2 : Nat) (hgd : o.guard = none) (s x : Operand) (t e : TypeId) (z : Value) (bytes : Nat)
  (ho : o.op = .call { callee := .builtin .append, args := #[s, x], argTypes := #[t, t] })
  (ht : P.underlying t = some (.slice e)) (hinfo : (P.info? e).map (fun i => (i.zero, i.size, i.bytes)) = some (some z, d.sz, bytes)) (hz : z.cells.size = d.sz) (hs0 : 0 < d.sz) (hb0 : 0 < bytes)
  (v : Value) (xs ys : List α) (g m c : Nat) (ok1 ok2 : Nat → Prop) (hs : a.eval s = v) (hx : a.eval x = .slice (some ⟨g, 0, none⟩) m c)
  (HO : Kd.S d e W base ok1 v xs) (HY : Kd.S d e W base2 ok2 (.slice (some ⟨g, 0, none⟩) m c) ys) (hap : ∀ k, ok1 k → ¬ ok2 k) (hle : base ≤ base2)
  (HB : Below base w0 W) (hbase : base ≤ W.heap.size) (hl : (xs.length + m) * bytes ≤ 140737488355328)
  (h : ∀ v1 w1, Kd.S d e w1 base (fun _ => True) v1 (xs ++ ys) → Below base w0 w1 → W.grownBy w1 v.ownBlock → (v1.ownBlock = v.ownBlock ∨ ∃ b, v1.ownBlock = some b ∧ W.heap.size ≤ b) → wpList P ops Q rest (a.put o.dst v1) w1) :
  wpList P ops Q (o :: rest) a W := by
 obtain ⟨f, hf⟩ := HO
 obtain ⟨f2, hf2⟩ := HY
 obtain ⟨F, hF⟩ : ∃ F : Nat → Nat, F = fun k => open Classical in if ok1 k then f k else xs.length + f2 k := ⟨_, rfl⟩
 have hF1 : ∀ k, ok1 k → F k = f k := fun k hk => by rw [hF]; exact if_pos hk
 have hF2 : ∀ k, ok2 k → F k = xs.length + f2 k := fun k hk => by rw [hF]; exact if_neg (fun h1 => hap k h1 hk)
 have hR1 : (Kd.tag F d).R e W base (fun _ => True) v xs.zipIdx := by
  obtain ⟨h0, inner, hw, hr⟩ := hf
  exact ⟨fun _ _ => trivial, inner, hw, hr.1, fun j p hj => d.M_mono (fun k hk => ⟨⟨trivial, hk.1.2⟩, (hF1 k hk.1.1).trans hk.2⟩) (hr.2 j p hj)⟩
 have hn := (Kd.aKz hf2).1
 rw [List.length_zipIdx] at hn
 have hm2 := (Kd.aKz hf2).2.2.2.1
 rw [List.length_zipIdx] at hm2
 have hRd : ReadsRow (fun p cs => (Kd.tag F d).M W base (fun k => ok2 k ∧ some k ≠ v.ownBlock) p cs) d.sz W (some ⟨g, 0, none⟩) m (ys.zipIdx xs.length) := by
  refine ⟨by rw [List.length_zipIdx]; exact hn.symm, by rw [hn]; exact hm2, fun hp => ⟨_, rfl, fun j p hj => ?_⟩⟩
  rw [List.getElem?_zipIdx] at hj
  obtain ⟨y, hy, rfl⟩ := Option.map_eq_some_iff.1 hj
  have hjl := (List.getElem?_eq_some_iff.1 hy).1
  obtain ⟨cs, hcl, hM, hcc⟩ := Kd.R_getA hf2 (y, 0) (j : Int) (by omega) (by omega)
  rw [Int.toNat_natCast, List.getD_eq_getElem?_getD, Kd.cMz hy] at hM
  rw [Int.toNat_natCast] at hcc
  have hM' : d.M W base2 (fun k => (ok2 k ∧ some k ≠ (Value.slice (some ⟨g, 0, none⟩) m c).ownBlock) ∧ f2 k = j) y cs := hM
  refine ⟨cs, hcl, ?_, fun i u hu => hcc i u hu⟩
  show d.M W base (fun k => (ok2 k ∧ some k ≠ v.ownBlock) ∧ F k = xs.length + j) y cs
  refine d.M_mono (fun k hk => ⟨⟨hk.1.1, fun e => ?_⟩, by rw [hF2 k hk.1.1, hk.2]⟩) (d.M_lower hle hM')
  exact hap k (hf.1 k e.symm) hk.1.1
 refine Kd.emz (Kd.tag F d) base hgd s x t e z bytes ho ht hinfo hz hs0 hb0 v xs.zipIdx (ys.zipIdx xs.length) (some ⟨g, 0, none⟩) m c (fun _ => True) (fun k => ok2 k ∧ some k ≠ v.ownBlock) hs hx hR1 hRd (fun _ _ hh => hh) (fun k hk => ⟨trivial, hk.2⟩) (fun _ _ => trivial) HB hbase (by rw [List.length_zipIdx]; exact hl) ?_
 intro v1 w1 hr
 rw [← Nat.zero_add xs.length, ← List.zipIdx_append] at hr
 exact h v1 w1 ⟨F, hr⟩
end
theorem S_putrow {W w5 : World} {base o n cap nb uc : Nat} {ua : Option Addr} {rows : List (List Int)} {b : List Int} (h : Kd.S (dM 5 .u8) 34 W base (fun _ => True) (.slice (some ⟨o, 0, none⟩) n cap) rows) (hbase : base ≤ W.heap.size) (hb : Below W.heap.size W w5) (hu : (Kd.int .u8).R 5 w5 W.heap.size (fun _ => True) (.slice ua nb uc) b) (i : Nat) (hi : i < n) :
  (∃ v0, w5.cell? ⟨o, i, none⟩ = some v0) ∧ w5.frozen? ⟨o, i, none⟩ = false ∧ Kd.S (dM 5 .u8) 34 (w5.setCell ⟨o, i, none⟩ (.slice ua nb uc)) base (fun _ => True) (.slice (some ⟨o, 0, none⟩) n cap) (rows.set i b) := by
 have hlo : o < W.heap.size := Kd.S_lt h o (by simp [Value.ownBlock])
 have h1 : Kd.S (dM 5 .u8) 34 w5 base (fun q => True ∧ ¬ W.heap.size ≤ q) (.slice (some ⟨o, 0, none⟩) n cap) rows := Kd.coz (Kd.bBz (Kd.a4z h) (fun q hq => ⟨trivial, by have := hq.2.2.1; omega⟩)) hb
 obtain ⟨v0, hcv, hfv⟩ := S_cell h1 i hi
 refine ⟨⟨v0, hcv⟩, hfv, ?_⟩
 obtain ⟨oki, cc, hcl, hM, hcc, hfr, hoki, hH⟩ := Kd.S_elem h1 ([] : List Int) (i : Int) (by omega) (by omega)
 obtain ⟨u0, rfl, hu0⟩ := hM
 have hR := Kd.buz (Kd.aVz (Kd.bbz hu) (ok' := fun q => W.heap.size ≤ q) (fun q hq => hq.2.1)) hbase
 obtain rfl : nb = b.length := (Kd.aKz hu).1
 have hS9 := (Kd.S_seg (ok := fun _ => True) (okg := fun q => W.heap.size ≤ q) hH (by omega) (by omega) (seg := [.slice ua b.length uc]) (j := 0) (Nat.le_refl _) (x' := b) (okp := fun q => W.heap.size ≤ q) ⟨_, rfl, hR⟩ (fun q hq => .inr hq) (fun q hq => ⟨trivial, by omega⟩)).1
 rw [Int.toNat_natCast, show (dM 5 .u8).sz = 1 from rfl, Nat.mul_one, Nat.add_zero] at hS9
 exact hS9
theorem egz : ∀ (i : Nat) (l : List (List Int)) (hv : List Bool) (x : Nat × List Int), x ∈ thereF i l hv → x.2 ∈ l
 | _, [], _, x, h => by simp [thereF] at h
 | _, _ :: _, [], x, h => by simp [thereF] at h
 | i, b :: l, h :: hv, x, hx => by
  unfold thereF at hx
  have ih := egz (i + 1) l hv x
  cases h with
  | true =>
   rw [if_pos rfl] at hx
   rcases List.mem_cons.1 hx with rfl | hx
   ·exact List.mem_cons_self ..
   ·exact List.mem_cons_of_mem _ (ih hx)
  | false =>
   rw [if_neg (by decide)] at hx
   exact List.mem_cons_of_mem _ (ih hx)
end Go.Proofs.YtpdakdcmahlghaaGreat.XCo
end
section
namespace Go.Proofs.YtpdakdcmahlghaaGreat.XCo
open Go.RowKit Go.Proofs.YtpdakdcmahlghaaGreatW.PrintWords Go.Proofs.YtpdakdcmahlghaaGreatW.PrintLast Go.Proofs.YtpdakdcmahlghaaGreatW.PrintMore
attribute [local go_sem] aAz aBz aIz aJz atz auz aCz aDz
set_option linter.unusedVariables false
set_option linter.unusedSimpArgs false
set_option maxRecDepth 100000 in
set_option maxHeartbeats 4000000 in
theorem copied.calls (A : Option Addr) (cap : Nat) (rows : List (List Int)) (W : World) (hC : Kd.C (dM 3 .i64) W A rows.length rows) (hn : rows.length ≤ 1000) (hl : ∀ r, r ∈ rows → r.length ≤ 100000) :
  Calls Tryz.prog 140 #[.slice A rows.length cap] W fun e w' => ∃ v, e = .returned v ∧ Kd.S (dM 3 .i64) 57 w' W.heap.size (fun _ => True) v rows ∧ Below W.heap.size W w' := by
 have HC := Aside0.mk hC
 have HL := Aside0.mk hl
 obtain ⟨n, hnn⟩ : ∃ n, rows.length = n := ⟨_, rfl⟩
 have HN := Aside0.mk hnn
 rw [hnn] at hn ⊢
 clear hC hl hnn
 go_enter Tryz.func140, Tryz.ntmps140
 go_wp2
 go_loopw [3, 8] (fun v i wr => ∃ k : Nat, k ≤ n ∧ i = .int .i64 (k : Int) ∧ Aside0 (Kd.S (dM 3 .i64) 57 wr W.heap.size (fun _ => True) v (rows.take k)) ∧ Aside0 (Below W.heap.size W wr)) (fun _ i _ => n - (intOf i).toNat)
 case atStart => exact ⟨0, Nat.zero_le _, rfl, ⟨Kd.S_nil _ _ _ _ _⟩, ⟨Below.refl _ _⟩⟩
 obtain ⟨k, hk, rfl, HO, HB⟩ := hrel
 by_cases hlt : k < n
 ·obtain ⟨x, hx⟩ : ∃ x, rows[k]? = some x := ⟨_, List.getElem?_eq_getElem (by have := HN.out; omega)⟩
  have hxl := HL.out x (List.mem_of_getElem? hx)
  obtain ⟨a1, A1, c1, rfl, e1, l1, C1⟩ := biz (Kd.aHz HC.out HB.out) k x hx
  have HZ := Aside0.mk (show rows.take (k + 1) = rows.take k ++ [x] by rw [List.take_add_one, hx]; rfl)
  have HLZ := Aside0.mk (show (rows.take k).length ≤ 1000 by simp; omega)
  have HCL := Aside0.mk (clone_i.calls A1 c1 x _ C1 (by omega))
  have i2 : (k : Int) < (n : Int) := by omega
  obtain ⟨nx, hnx⟩ : ∃ nx, x.length = nx := ⟨_, rfl⟩
  have HNX := Aside0.mk hnx
  rw [hnx] at HCL e1 l1
  clear hx C1 hxl hnx
  go_wp2_with fail
  refine HCL.out.mono ?_
  rintro e w5 ⟨u, rfl, hu, hb1⟩
  obtain ⟨ua, uc, rfl⟩ := Kd.aPz hu
  rw [HNX.out]
  have hsf := S_fresh HO.out hb1 HB.out.size hu
  rw [HNX.out] at hsf
  have HS1 := Aside0.mk hsf.1
  have HM1 := Aside0.mk hsf.2.1
  have HOK := Aside0.mk hsf.2.2
  have HB5 := Aside0.mk (HB.out.trans (hb1.mono HB.out.size))
  clear hu hb1 hsf
  go_wp2_with ((with_reducible refine asz (b := .append) (xs := #[.tmp 12, .tmp 15]) rfl ?_); go_must (at_builtin; refine Kd.bCz (dM 3 .i64) (w0 := W) W.heap.size rfl (.tmp 12) (.tmp 15) 69 57 (.slice none 0 0) 24 rfl Tryz.underlying69 kr_ rfl (by decide) (by decide) _ _ x [.slice ua nx uc] (fun _ => True) (fun k' => wr.heap.size ≤ k') rfl rfl HM1.out HOK.out (fun _ _ => trivial) HS1.out HB5.out HB5.out.size ?aL ?_; (case aL => have := HLZ.out; omega)); intro v2 w6 ho2 hb2 hg2 hat2; have HO2 := Aside0.mk ho2; have HB2 := Aside0.mk hb2; clear ho2 hb2 hg2 hat2)
  go_roundw
  case rel => exact ⟨k + 1, by omega, by go_num, ⟨by rw [HZ.out]; exact HO2.out⟩, HB2⟩
  case measure => simp [intOf]; omega
 ·obtain rfl : k = n := by omega
  have HFN := Aside0.mk HO.out
  rw [List.take_of_length_le (by rw [HN.out]; exact Nat.le_refl _)] at HFN
  go_wp2
  go_ret
  exact ⟨_, rfl, HFN.out, HB.out⟩
set_option maxRecDepth 100000 in
set_option maxHeartbeats 4000000 in
theorem mJoin.calls (g : Nat) (S : Nat → Prop) (wb p : Int) (A B : Option Addr) (ca cb cols : Nat) (a b : List (List Int)) (W : World) (hw : wb = 8 ∨ wb = 16) (hMa : MayOk wb a cols) (hMb : MayOk wb b cols) (hF : Fd W g wb p S) (hCa : Kd.C (dM 3 .i64) W A a.length a) (hCb : Kd.C (dM 3 .i64) W B b.length b) (hn : a.length + b.length ≤ 20) :
  Calls Tryz.prog 94 #[.pointer (some ⟨g, 0, none⟩), .slice A a.length ca, .slice B b.length cb] W fun e w' => ∃ v, e = .returned (.tuple #[v, .int .i64 0]) ∧ Kd.N (dM 3 .i64) 57 w' W.heap.size (fun _ => True) v (a ++ b) ∧ Below W.heap.size W w' := by
 have HMA := Aside0.mk (fun (w1 : World) (hB : Below W.heap.size W w1) => cBz.ok g S wb p A ca cols a w1 hw hMa (hF.below hB) (Kd.aHz hCa hB))
 have HMB := Aside0.mk (fun (w1 : World) (hB : Below W.heap.size W w1) => cBz.ok g S wb p B cb cols b w1 hw hMb (hF.below hB) (Kd.aHz hCb hB))
 have lim : ∀ {r : List (List Int)}, MayOk wb r cols → ∀ x, x ∈ r → x.length ≤ 100000 := fun h x hx => by have := (h.each x hx).1; have := h.c2; omega
 have HCA := Aside0.mk (fun (w1 : World) (hB : Below W.heap.size W w1) => copied.calls A ca a w1 (Kd.aHz hCa hB) (by omega) (lim hMa))
 have HCB := Aside0.mk (fun (w1 : World) (hB : Below W.heap.size W w1) => copied.calls B cb b w1 (Kd.aHz hCb hB) (by omega) (lim hMb))
 obtain ⟨a0, ha0⟩ : ∃ r, a[0]? = some r := ⟨_, List.getElem?_eq_getElem (by have := hMa.n1; omega)⟩
 obtain ⟨ad, A1, c1, rfl, hca, -, -⟩ := biz hCa 0 a0 ha0
 rw [bZz, (hMa.each a0 (List.mem_of_getElem? ha0)).1] at hca
 obtain ⟨b0, hb0⟩ : ∃ r, b[0]? = some r := ⟨_, List.getElem?_eq_getElem (by have := hMb.n1; omega)⟩
 obtain ⟨bd, B1, c2, rfl, hcb, -, -⟩ := biz hCb 0 b0 hb0
 rw [bZz, (hMb.each b0 (List.mem_of_getElem? hb0)).1] at hcb
 have HWI := Aside0.mk (show aXz.f (wrap64 ((a.length : Int) + (b.length : Int))) = some true by
  have := hMa.n1
  rw [show wrap64 ((a.length : Int) + (b.length : Int)) = (a.length : Int) + (b.length : Int) by unfold wrap64; omega]
  unfold aXz.f
  rw [if_pos (by omega), decide_eq_true (by omega)])
 have na0 : (0 : Int) < (a.length : Int) := by have := hMa.n1; omega
 have nb0 : (0 : Int) < (b.length : Int) := by have := hMb.n1; omega
 have HE := Aside0.mk (show a.length = a.length ∧ b.length = b.length from ⟨rfl, rfl⟩)
 obtain ⟨na, hna⟩ : ∃ n, a.length = n := ⟨_, rfl⟩
 obtain ⟨nb, hnb⟩ : ∃ n, b.length = n := ⟨_, rfl⟩
 have HNA := Aside0.mk hna
 have HNB := Aside0.mk hnb
 rw [hna, hnb] at HWI
 rw [hna] at HMA HCA na0 hn ⊢
 rw [hnb] at HMB HCB nb0 hn ⊢
 have na1 : 0 < na := by omega
 have nb1 : 0 < nb := by omega
 have hself : ((cols : Int) != (cols : Int)) = false := by simp
 clear hw hMa hMb hF hCa hCb lim ha0 hb0 hna hnb HE
 go_enter Tryz.func94, Tryz.ntmps94
 go_wp2
 refine bez (n := 30) (S := fun w' => w'.cell? ad = some (.slice A1 cols c1) ∧ w'.cell? bd = some (.slice B1 cols c2)) (ds := []) (bA 30 0) kr_ rfl rfl ⟨hca, hcb⟩ (fun hHeld => ?_)
 refine pu_ 0 8 1 ?_
 refine pu_ 1 9 3 ?_
 refine one_ (i := 2) (N := some 10) (bA 30 7) rfl rfl kr_ (by decide) (fun K hK => ?_)
 refine goes_ Tryz.func138 kr_ rfl #[.pointer (some ⟨g, 0, none⟩), .slice (some ad) na ca] (by rfl) rfl rfl am_ ?_
 with_reducible refine (HMA.out W.drew (bPz (Below.refl _ _))).mono ?_
 rintro e w1 ⟨rfl, p1⟩
 refine ⟨_, rfl, ?_⟩
 have HB1 := Aside0.mk (Below.trans (bPz (Below.refl _ _)) p1 : Below W.heap.size W w1)
 clear p1
 refine hK.out _ _ ⟨alz HB1.out hca, alz HB1.out hcb⟩ (fun hHeld => ?_)
 clear hK K
 refine norm_ (a' := ?_) ?_ ?_
 rotate_left
 ·show Act.put _ (some 10) _ = _
  simp only [Act.put, List.setIfInBounds_toArray, List.set_cons_zero, List.set_cons_succ, i64_w, i32_w]
  rfl
 refine pu_ 3 11 15 ?_
 refine pu_ 4 12 31 ?_
 refine pu_ 5 13 63 ?_
 refine pu_ 6 14 127 ?_
 refine one_ (i := 7) (N := some 15) (bA 30 255) rfl rfl kr_ (by decide) (fun K hK => ?_)
 refine goes_ Tryz.func138 kr_ rfl #[.pointer (some ⟨g, 0, none⟩), .slice (some bd) nb cb] (by rfl) rfl rfl am_ ?_
 with_reducible refine (HMB.out w1 HB1.out).mono ?_
 rintro e w2 ⟨rfl, p2⟩
 refine ⟨_, rfl, ?_⟩
 have HB2 := Aside0.mk (HB1.out.trans (p2.mono HB1.out.size))
 clear p2
 refine hK.out _ _ ⟨alz HB2.out hca, alz HB2.out hcb⟩ (fun hHeld => ?_)
 clear hK K
 refine norm_ (a' := ?_) ?_ ?_
 rotate_left
 ·show Act.put _ (some 15) _ = _
  simp only [Act.put, List.setIfInBounds_toArray, List.set_cons_zero, List.set_cons_succ, i64_w, i32_w]
  rfl
 refine pu_ 8 16 511 ?_
 refine pu_ 9 17 1023 ?_
 refine pu_ 10 18 2047 ?_
 refine pu_ 11 19 4095 ?_
 refine pu_ 12 20 8191 ?_
 refine pu_ 15 23 40959 ?_
 refine pu_ 16 24 106495 ?_
 refine tk_ 13 21 114687 hHeld ?_
 refine pu_ 14 22 131071 ?_
 refine tk_ 17 25 262143 hHeld ?_
 refine pu_ 18 26 524287 ?_
 refine pu_ 19 27 1048575 ?_
 refine pu_ 20 28 2097151 ?_
 refine pu_ 21 29 4194303 ?_
 refine pu_ 22 30 8388607 ?_
 refine pu_ 23 31 16777215 ?_
 refine pu_ 24 32 33554431 ?_
 refine pu_ 25 33 67108863 ?_
 refine pu_ 26 34 134217727 ?_
 refine one_ (i := 27) (N := some 35) (bA 30 268435455) rfl rfl kr_ (by decide) (fun K hK => ?_)
 refine goes_ Tryz.func139 kr_ rfl #[.int .i64 (wrap64 ((na : Int) + (nb : Int)))] (by rfl) rfl rfl am_ ?_
 with_reducible refine (aXz.calls _ _ _ HWI.out).mono ?_
 rintro e w3 ⟨rfl, m3, rfl⟩
 refine ⟨_, rfl, ?_⟩
 have HB3 := Aside0.mk (azz HB2.out m3)
 refine hK.out _ _ ⟨alz HB3.out hca, alz HB3.out hcb⟩ (fun hHeld => ?_)
 clear hK K
 refine norm_ (a' := ?_) ?_ ?_
 rotate_left
 ·show Act.put _ (some 35) _ = _
  simp only [Act.put, List.setIfInBounds_toArray, List.set_cons_zero, List.set_cons_succ, i64_w, i32_w]
  rfl
 refine pu_ 28 36 536870911 ?_
 refine pu_ 29 37 1073741823 ?_
 refine done_ kr_ ?_
 clear hHeld
 generalize w2.drewN m3 = w4 at HB3 ⊢
 clear HMA HMB HWI HB1 HB2
 go_wp2_with fail
 refine (HCA.out w4 HB3.out).mono ?_
 rintro e w5 ⟨v5, rfl, p5, b5⟩
 obtain ⟨A5, c5, rfl⟩ := Kd.aPz (Kd.S_R p5)
 have HB5 := Aside0.mk (HB3.out.trans (b5.mono HB3.out.size))
 have P5 := Aside0.mk p5
 rw [HNA.out]
 clear p5 b5 HCA
 go_wp2_with fail
 refine (HCB.out w5 HB5.out).mono ?_
 rintro e w6 ⟨v6, rfl, p6, b6⟩
 obtain ⟨A6, c6, rfl⟩ := Kd.aPz (Kd.S_R p6)
 have HB6 := Aside0.mk (HB5.out.trans (b6.mono HB5.out.size))
 have hn5 := Kd.czz (Kd.S_N (Kd.coz P5.out b6)) HB3.out.size
 have hf6 : Kd.F (dM 3 .i64) w6 (fun k => w5.heap.size ≤ k) A6 b.length b := Kd.bfz (Kd.S_F (Kd.a4z p6)) (fun k hk => hk.2.1)
 have hok : ∀ k, w5.heap.size ≤ k → True ∧ some k ≠ (Value.slice A5 a.length c5).ownBlock := fun k hk => ⟨trivial, fun e => by have := Kd.S_lt P5.out k e.symm; omega⟩
 rw [HNA.out] at hn5 hok
 rw [HNB.out] at hf6
 have HN5 := Aside0.mk hn5
 have HF6 := Aside0.mk hf6
 have HOK := Aside0.mk hok
 rw [HNB.out]
 clear p6 b6 hn5 hf6 hok P5 HCB HB5
 go_wp2_with ((with_reducible refine asz (b := .append) (xs := #[.tmp 39, .tmp 41]) rfl ?_); go_must (at_builtin; refine Kd.enz (dM 3 .i64) (w0 := W) W.heap.size rfl (.tmp 39) (.tmp 41) 69 57 (.slice none 0 0) 24 rfl Tryz.underlying69 kr_ rfl (by decide) (by decide) _ a b A6 nb c6 (fun _ => True) (fun k' => w5.heap.size ≤ k') rfl rfl HN5.out HF6.out HOK.out (fun _ _ => trivial) HB6.out HB6.out.size ?aL ?_; (case aL => have := HNA.out; omega)); intro v7 w7 ho2 hb2 hg2 hat2; have HO7 := Aside0.mk ho2; have HB7 := Aside0.mk hb2; clear ho2 hb2 hg2 hat2)
 go_ret2
 exact ⟨_, rfl, HO7.out, HB7.out⟩
def pickF (rows : List (List Int)) (is : List Int) : List (List Int) := is.map fun i => rows.getD i.toNat []
set_option maxRecDepth 100000 in
set_option maxHeartbeats 4000000 in
theorem Pick.calls (g : Nat) (S : Nat → Prop) (wb p : Int) (A B : Option Addr) (ca cb cols : Nat) (rows : List (List Int)) (is : List Int) (W : World) (hw : wb = 8 ∨ wb = 16) (hM : MayOk wb rows cols) (hF : Fd W g wb p S) (hC : Kd.C (dM 3 .i64) W A rows.length rows) (hB : Kd.C (Kd.int .i64) W B is.length is) (h1 : 1 ≤ is.length) (h2 : is.length ≤ 20) (hin : ∀ i, i ∈ is → 0 ≤ i ∧ i < (rows.length : Int)) :
  Calls Tryz.prog 96 #[.pointer (some ⟨g, 0, none⟩), .slice A rows.length ca, .slice B is.length cb] W fun e w' => ∃ v, e = .returned (.tuple #[v, .int .i64 0]) ∧ Kd.S (dM 3 .i64) 57 w' W.heap.size (fun _ => True) v (pickF rows is) ∧ Below W.heap.size W w' := by
 have HMY := Aside0.mk (cBz.ok g S wb p A ca cols rows W hw hM hF hC)
 have HC := Aside0.mk hC
 have HB := Aside0.mk hB
 have HIN := Aside0.mk hin
 have HL := Aside0.mk (show ∀ r, r ∈ rows → r.length ≤ 1000000 from fun r hr => by have := (hM.each r hr).1; have := hM.c2; omega)
 have HWI := Aside0.mk (show aXz.f (is.length : Int) = some true by unfold aXz.f; rw [if_pos (by omega), decide_eq_true (by omega)])
 obtain ⟨n, hn⟩ : ∃ n, is.length = n := ⟨_, rfl⟩
 have HN := Aside0.mk hn
 obtain ⟨m, hm⟩ : ∃ m, rows.length = m := ⟨_, rfl⟩
 have HM := Aside0.mk hm
 rw [hm] at HMY
 rw [hn] at h1 h2 HWI
 rw [hn, hm]
 clear hw hM hF hC hB hin hn hm
 go_enter Tryz.func96, Tryz.ntmps96
 go_wp2_with fail
 refine HMY.out.mono ?_
 rintro e w1 ⟨rfl, p1⟩
 have HB1 := Aside0.mk p1
 clear p1 HMY
 go_wp2_with (first | (go_at_call 139; refine (aXz.calls _ _ _ HWI.out).mono ?_; rintro e w9 ⟨rfl, m9, rfl⟩))
 have HB2 := Aside0.mk (azz HB1.out m9)
 generalize w1.drewN m9 = w2 at HB2 ⊢
 clear HB1
 go_loopw [8, 23] (fun v iv wr => ∃ k : Nat, k ≤ n ∧ iv = .int .i64 (k : Int) ∧ Aside0 (Kd.S (dM 3 .i64) 57 wr w2.heap.size (fun _ => True) v (pickF rows (is.take k))) ∧ Aside0 (Below w2.heap.size w2 wr)) (fun _ iv _ => n - (intOf iv).toNat)
 case atStart => exact ⟨0, Nat.zero_le _, rfl, ⟨Kd.S_nil _ _ _ _ _⟩, ⟨Below.refl _ _⟩⟩
 obtain ⟨w3, rfl⟩ : ∃ w3, w3 = wr := ⟨_, rfl⟩
 obtain ⟨k, hk, rfl, HO, HB3⟩ := hrel
 by_cases hlt : k < n
 ·obtain ⟨i, hi⟩ : ∃ x, is[k]? = some x := ⟨_, List.getElem?_eq_getElem (by have := HN.out; omega)⟩
  have hir := HIN.out i (List.mem_of_getElem? hi)
  obtain ⟨j, rfl⟩ : ∃ j : Nat, i = (j : Int) := ⟨i.toNat, by omega⟩
  have hBW := HB2.out.trans (HB3.out.mono HB2.out.size)
  obtain ⟨bd, rfl, hcb⟩ := bVz (Kd.aHz HB.out hBW) k _ hi
  obtain ⟨x, hx⟩ : ∃ x, rows[j]? = some x := ⟨_, List.getElem?_eq_getElem (by omega)⟩
  have hxl := HL.out x (List.mem_of_getElem? hx)
  obtain ⟨a1, A1, c1, rfl, e1, l1, C1⟩ := biz (Kd.aHz HC.out hBW) j x hx
  have HZ := Aside0.mk (show pickF rows (is.take (k + 1)) = pickF rows (is.take k) ++ [x] by
   unfold pickF
   rw [List.take_add_one, hi, List.map_append]
   simp [List.getD_eq_getElem?_getD, hx])
  have HLZ := Aside0.mk (show (pickF rows (is.take k)).length ≤ 1000 by simp [pickF]; omega)
  have HCL := Aside0.mk (clone_i.calls A1 c1 x _ C1 (by omega))
  have k2 : (k : Int) < (n : Int) := by omega
  have j0 : decide ((j : Int) < 0) = false := decide_eq_false (by omega)
  have j1 : decide ((j : Int) ≥ (m : Int)) = false := decide_eq_false (by have := HM.out; omega)
  have j2 : (0 : Int) ≤ (j : Int) := by omega
  have j3 : (j : Int) < (m : Int) := by have := HM.out; omega
  obtain ⟨nx, hnx⟩ : ∃ nx, x.length = nx := ⟨_, rfl⟩
  have HNX := Aside0.mk hnx
  rw [hnx] at HCL e1 l1
  clear hx C1 hxl hnx hi hir hBW
  go_wp2_with fail
  refine HCL.out.mono ?_
  rintro e w5 ⟨u, rfl, hu, hb1⟩
  obtain ⟨ua, uc, rfl⟩ := Kd.aPz hu
  rw [HNX.out]
  have hsf := S_fresh HO.out hb1 HB3.out.size hu
  rw [HNX.out] at hsf
  have HS1 := Aside0.mk hsf.1
  have HM1 := Aside0.mk hsf.2.1
  have HOK := Aside0.mk hsf.2.2
  have HB5 := Aside0.mk (HB3.out.trans (hb1.mono HB3.out.size))
  clear hu hb1 hsf hcb
  go_wp2_with ((with_reducible refine asz (b := .append) (xs := #[.tmp 35, .tmp 41]) rfl ?_); go_must (at_builtin; refine Kd.bCz (dM 3 .i64) (w0 := w2) w2.heap.size rfl (.tmp 35) (.tmp 41) 69 57 (.slice none 0 0) 24 rfl Tryz.underlying69 kr_ rfl (by decide) (by decide) _ _ x [.slice ua nx uc] (fun _ => True) (fun k' => w3.heap.size ≤ k') rfl rfl HM1.out HOK.out (fun _ _ => trivial) HS1.out HB5.out HB5.out.size ?aL ?_; (case aL => have := HLZ.out; omega)); intro v2 w6 ho2 hb2 hg2 hat2; have HO2 := Aside0.mk ho2; have HB6 := Aside0.mk hb2; clear ho2 hb2 hg2 hat2)
  go_roundw
  case rel => exact ⟨k + 1, by omega, by go_num, ⟨by rw [HZ.out]; exact HO2.out⟩, HB6⟩
  case measure => simp [intOf]; omega
 ·obtain rfl : k = n := by omega
  have HFN := Aside0.mk HO.out
  rw [List.take_of_length_le (by rw [HN.out]; exact Nat.le_refl _)] at HFN
  go_wp2
  go_ret2
  exact ⟨_, rfl, Kd.cbz HFN.out HB2.out.size, HB2.out.trans (HB3.out.mono HB2.out.size)⟩
def genM (p : Int) (n m : Nat) : List (List Int) := identM n ++ parM p n m
def subM (p : Int) (n m : Nat) (is : List Int) : List (List Int) := pickF (genM p n m) is
theorem dlz {wb : Int} {L : Nat} {rows : List (List Int)} (h : ∀ r, r ∈ rows → Good wb L r) (h1 : 1 ≤ rows.length) (h2 : rows.length ≤ 20) (h3 : 1 ≤ L) (h4 : L ≤ 20) : MayOk wb rows L := ⟨h1, h2, h3, h4, fun r hr => ⟨(h r hr).1, (h r hr).2⟩⟩
theorem pickF_good {wb : Int} {L : Nat} {rows : List (List Int)} (h : ∀ r, r ∈ rows → Good wb L r) (is : List Int) (hin : ∀ i, i ∈ is → 0 ≤ i ∧ i < (rows.length : Int)) : ∀ r, r ∈ pickF rows is → Good wb L r := by
 intro r hr
 unfold pickF at hr
 obtain ⟨i, hi, rfl⟩ := List.mem_map.1 hr
 have := hin i hi
 rw [List.getD_eq_getElem?_getD, List.getElem?_eq_getElem (show i.toNat < rows.length by omega)]
 exact h _ (List.getElem_mem _)
theorem exz (rows : List (List Int)) (is : List Int) : (pickF rows is).length = is.length := by simp [pickF]
set_option maxRecDepth 100000 in
set_option maxHeartbeats 4000000 in
theorem recon_inverse.ok (p : Int) (n mm : Nat) (B : Option Addr) (cb : Nat) (is : List Int) (W : World) (h : aiz.f p (n : Int) (mm : Int) = some true) (hB : Kd.C (Kd.int .i64) W B is.length is) (hl : is.length = n) (hin : ∀ i, i ∈ is → 0 ≤ i ∧ i < ((n + mm : Nat) : Int)) (hfull : ¬ (invF (pbits p) (subM p n mm is)).2 < n) :
  Calls Tryz.prog 60 #[.agg #[.int .i64 p, .int .i64 (n : Int), .int .i64 (mm : Int)], .slice B n cb] W fun e w' => ∃ v, e = .returned (.tuple #[v, .int .i64 0]) ∧ Kd.S (dM 3 .i64) 57 w' W.heap.size (fun _ => True) v ((invF (pbits p) (subM p n mm is)).1.map (·.drop n)) ∧ Below W.heap.size W w' := by
 obtain ⟨p1, p2, k1, k2, m1, m2⟩ := boz h
 have HP := Aside0.mk (fun w => cdz.ok p (n : Int) (mm : Int) w h)
 have HFD := Aside0.mk (bxz.calls p ⟨p1, p2⟩)
 have HPB := Aside0.mk (d8z p)
 have hgd := cxz p n mm (by omega) (by omega) (by omega) (by omega)
 simp only [Int.toNat_natCast] at HP
 unfold subM genM at hfull ⊢
 have HGD := Aside0.mk hgd
 have HFU := Aside0.mk hfull
 have HIS := Aside0.mk hB
 have HL := Aside0.mk hl
 have HIN := Aside0.mk hin
 generalize parM p n mm = M at HP HGD HFU ⊢
 generalize pbits p = wb at HFD HPB HGD HFU ⊢
 have hu := Tryz.underlying23
 have HB := Aside0.mk (abz (Below.refl W.heap.size W) (.cells #[.int .i64 p, .int .i64 (n : Int), .int .i64 (mm : Int)] 23))
 have HX := Aside0.mk (bIz W (.cells #[.int .i64 p, .int .i64 (n : Int), .int .i64 (mm : Int)] 23))
 have n1 : 1 ≤ n := by omega
 have n8 : n ≤ 8 := by omega
 have mm1 : 1 ≤ mm := by omega
 have mm4 : mm ≤ 4 := by omega
 clear h hB hl hin hfull hgd p1 p2 k1 k2 m1 m2
 go_enter Tryz.func60, Tryz.ntmps60
 go_wp2_with fail
 generalize W.alloc (.cells #[.int .i64 p, .int .i64 (n : Int), .int .i64 (mm : Int)] 23) = w0 at HB HX ⊢
 refine (HFD.out w0).mono ?_
 rintro e w1 ⟨g, rfl, f1, f2, f3⟩
 have HB1 := Aside0.mk (HB.out.trans (f3.mono HB.out.size))
 have HX1 := Aside0.mk (aez HX.out f3)
 have HF1 := Aside0.mk (f1.fd (fun _ => False) (fun h => h))
 have HG1 := Aside0.mk (show W.heap.size ≤ g from Nat.le_trans HB.out.size f2)
 have q0 : w1.cell? ⟨W.heap.size, 0, none⟩ = some (.int .i64 p) := (aaz HX1.out 0).trans rfl
 have q1 : w1.cell? ⟨W.heap.size, 1, none⟩ = some (.int .i64 (n : Int)) := (aaz HX1.out 1).trans rfl
 have q2 : w1.cell? ⟨W.heap.size, 2, none⟩ = some (.int .i64 (mm : Int)) := (aaz HX1.out 2).trans rfl
 clear f1 f2 f3 HX HB HFD
 go_wp2_with fail
 refine (HP.out w1).mono ?_
 rintro e w2 ⟨Bp, bc, rfl, -, hM2, hB2⟩
 have HB2 := Aside0.mk (HB1.out.trans (hB2.mono HB1.out.size))
 have HX2 := Aside0.mk (aez HX1.out hB2)
 have HF2 := Aside0.mk (HF1.out.below hB2)
 have HML := Aside0.mk (show M.length = mm from HGD.out.2)
 have hcm := Kd.F_now hM2
 have HCM := Aside0.mk hcm
 have q1' : w2.cell? ⟨W.heap.size, 1, none⟩ = some (.int .i64 (n : Int)) := (aaz HX2.out 1).trans rfl
 have HID := Aside0.mk (ident.calls n w2 n1 (by omega))
 clear q0 q1 q2 hM2 hB2 hcm HX1 HF1 HB1 HP
 go_wp2_with fail
 refine HID.out.mono ?_
 rw [aUz]
 rintro e w3 ⟨IA, ic, rfl, hIC, hB3⟩
 have HB3 := Aside0.mk (HB2.out.trans (hB3.mono HB2.out.size))
 have HF3 := Aside0.mk (HF2.out.below hB3)
 have hgi := cpz wb HPB.out n
 have HGI := Aside0.mk hgi
 have hIC' : Kd.C (dM 3 .i64) w3 IA (identM n).length (identM n) := by rw [aUz]; exact hIC
 have hCM3 : Kd.C (dM 3 .i64) w3 Bp M.length M := by rw [HML.out]; exact Kd.aHz HCM.out hB3
 have HJ := Aside0.mk (mJoin.calls g (fun _ => False) wb (fpoly wb) IA Bp ic bc n (identM n) M w3 HPB.out (dlz hgi (by rw [aUz]; omega) (by rw [aUz]; omega) n1 (by omega)) (dlz HGD.out.1 (by rw [HML.out]; omega) (by rw [HML.out]; omega) n1 (by omega)) HF3.out hIC' hCM3 (by rw [aUz, HML.out]; omega))
 rw [aUz, HML.out] at HJ
 clear hIC hIC' hCM3 hB3 hgi HID HF2 HB2 HX2 q1' HCM
 go_wp2_with fail
 refine HJ.out.mono ?_
 rintro e w4 ⟨v4, rfl, hN4, hB4⟩
 have hJL : (identM n ++ M).length = n + mm := by rw [List.length_append, aUz, HML.out]
 obtain ⟨g4, c4, rfl, -, -, -⟩ := Kd.N_form hN4 (by omega)
 have HB4 := Aside0.mk (HB3.out.trans (hB4.mono HB3.out.size))
 have HF4 := Aside0.mk (HF3.out.below hB4)
 have hC4 := (Kd.bmz hN4).2.2
 have hgj : ∀ r, r ∈ identM n ++ M → Good wb n r := fun r hr => (List.mem_append.1 hr).elim (HGI.out r) (HGD.out.1 r)
 have HPK := Aside0.mk (Pick.calls g (fun _ => False) wb (fpoly wb) (some ⟨g4, 0, none⟩) B c4 cb n (identM n ++ M) is w4 HPB.out (dlz hgj (by omega) (by omega) n1 (by omega)) HF4.out hC4 (Kd.aHz HIS.out HB4.out) (by rw [HL.out]; omega) (by rw [HL.out]; omega) (fun i hi => by have := HIN.out i hi; rw [hJL]; exact this))
 have hgp := pickF_good hgj is (fun i hi => by have := HIN.out i hi; rw [hJL]; exact this)
 have HGP := Aside0.mk hgp
 rw [hJL, HL.out] at HPK
 rw [hJL]
 clear hN4 hB4 hC4 hgj hgp HJ HF3 HB3 hJL
 go_wp2_with fail
 refine HPK.out.mono ?_
 rintro e w5 ⟨v5, rfl, hS5, hB5⟩
 have hpl : (pickF (identM n ++ M) is).length = n := by rw [exz]; exact HL.out
 have hC5 := Kd.cyz (Kd.S_R hS5)
 obtain ⟨A5, c5, rfl, -, hC5⟩ := hC5
 have HB5 := Aside0.mk (HB4.out.trans (hB5.mono HB4.out.size))
 have HF5 := Aside0.mk (HF4.out.below hB5)
 have HIV := Aside0.mk (Inverse.calls g wb (fun _ => False) A5 c5 (pickF (identM n ++ M) is) w5 HPB.out (dlz (by rw [hpl]; exact HGP.out) (by omega) (by omega) (by omega) (by omega)) HF5.out (fun _ h => h.elim) hC5)
 rw [hpl, if_neg HFU.out] at HIV
 simp only [if_neg HFU.out] at HIV
 rw [hpl]
 clear hS5 hB5 hC5 hpl HPK HF4 HB4
 go_wp2_with fail
 refine HIV.out.mono ?_
 rintro e w6 ⟨v6, rfl, hS6, hF6, hBB6⟩
 have HS6 := Aside0.mk (Kd.cbz hS6 HB5.out.size)
 have HB6 := Aside0.mk (hBB6.below HB5.out HG1.out)
 clear hS6 hF6 hBB6
 go_wp2
 go_ret2
 exact ⟨_, rfl, HS6.out, HB6.out⟩
end Go.Proofs.YtpdakdcmahlghaaGreat.XCo
end
