-- Joined by this work's own program (wip/tools/bundle.py) out of its texts: what this claim uses of them. Not trusted: Lean checks it.
import Derived.Test.YtpdakdcmahlghaaGreatBReconChanges13
section
namespace Go.Proofs.YtpdakdcmahlghaaGreat.XCo
open Go.RowKit Go.Proofs.YtpdakdcmahlghaaGreatW.PrintWords Go.Proofs.YtpdakdcmahlghaaGreatW.PrintLast Go.Proofs.YtpdakdcmahlghaaGreatW.PrintMore
attribute [local go_sem] azz aAz aGz aHz asz atz aBz aCz
set_option linter.unusedVariables false
set_option linter.unusedSimpArgs false
attribute [local go_sem] Oper.semAt_some
def aKz.fill (size : Nat) : List Int → Nat → List (List Int) → Option (List (List Int))
 | [], _, rows => some rows
 | c :: cs, i, rows => if i / size < rows.length then aKz.fill size cs (i + 1) (rows.set (i / size) ((rows.getD (i / size) []).set (i % size) c)) else none
def aKz.f (k : Nat) (a0_0 a0_1 a0_2 : Int) (l1 : List Int) : Option (List (List Int) × Int) :=
 (aFz.f k a0_0 a0_1 a0_2 (l1.length : Int)).bind fun s => if s.2 = 0 then (if 1 ≤ a0_1 then (if a0_1 ≤ 1000 then (if 1 ≤ s.1 then (if s.1 ≤ 100000 then (if l1.length ≤ 100000 then
  (bIz.f a0_0 a0_1 a0_2).bind fun u => (if u.2 = 0 ∨ u.2 = 4 then (aKz.fill s.1.toNat (laidL u.2.toNat l1) 0 (List.replicate a0_1.toNat (List.replicate s.1.toNat 0))).bind fun r => some (r, 0) else none)
  else none) else none) else none) else none) else none) else some ([], s.2)
set_option maxRecDepth 100000 in
set_option maxHeartbeats 4000000 in
theorem aKz.bad (k : Nat) (a0_0 a0_1 a0_2 : Int) (A1 : Option Addr) (c1 : Nat) (l1 : List Int) (s1 s2 : Int) (w : World) (h : aFz.f k a0_0 a0_1 a0_2 (l1.length : Int) = some (s1, s2)) (hs : s2 ≠ 0) :
  Calls Tryz.prog 55 #[.agg #[.int .i64 a0_0, .int .i64 a0_1, .int .i64 a0_2], .slice A1 l1.length c1] w fun e w' => e = .returned (.tuple #[.slice none 0 0, .int .i64 s2]) ∧ Below w.heap.size w w' := by
 have HZ := Aside0.mk (fun w => aFz.calls k a0_0 a0_1 a0_2 (l1.length : Int) s1 s2 w h)
 have hu := Tryz.underlying23
 have hb : (s2 != 0) = true := by simpa using hs
 generalize l1.length = n at HZ ⊢
 clear h hs
 go_enter Tryz.func55, Tryz.ntmps55
 go_wp2_with fail
 refine (HZ.out _).mono ?_
 rintro e w1 ⟨rfl, hB⟩
 have HB := Aside0.mk (show Below w.heap.size w w1 from (acz (Below.refl _ _) _).trans (hB.mono (by simp)))
 clear hB
 go_wp2
 go_ret2
 exact ⟨rfl, acz HB.out _⟩
set_option maxRecDepth 100000 in
set_option maxHeartbeats 4000000 in
theorem aKz.go (k : Nat) (a0_0 a0_2 : Int) (K size ahead n : Nat) (A1 : Option Addr) (c1 : Nat) (l1 : List Int) (u1 : Int) (res : List (List Int)) (w : World) (hr1 : Kd.C (Kd.int .u8) w A1 l1.length l1) (hc1 : n ≤ c1) (hn : l1.length = n) (hn2 : n ≤ 100000)
  (h : aFz.f k a0_0 (K : Int) a0_2 (n : Int) = some ((size : Int), 0)) (hK : 1 ≤ K) (hK2 : K ≤ 1000) (hs : 1 ≤ size) (hs2 : size ≤ 100000) (hru : bIz.f a0_0 (K : Int) a0_2 = some (u1, (ahead : Int))) (hah : ahead = 0 ∨ ahead = 4)
  (hf : aKz.fill size (laidL ahead l1) 0 (List.replicate K (List.replicate size 0)) = some res) :
  Calls Tryz.prog 55 #[.agg #[.int .i64 a0_0, .int .i64 (K : Int), .int .i64 a0_2], .slice A1 n c1] w fun e w' => ∃ v, e = .returned (.tuple #[v, .int .i64 0]) ∧ Kd.S (dM 5 .u8) 34 w' w.heap.size (fun _ => True) v res ∧ Below w.heap.size w w' := by
 have HZ := Aside0.mk (fun w => aFz.calls k a0_0 (K : Int) a0_2 (n : Int) (size : Int) 0 w h)
 have HRU := Aside0.mk (fun w => bIz.calls a0_0 (K : Int) a0_2 u1 (ahead : Int) w hru)
 have HR1 := Aside0.mk hr1
 have HN := Aside0.mk hn
 have HF := Aside0.mk hf
 have HAH := Aside0.mk hah
 have hu := Tryz.underlying23
 have hbx := heap_alloc_new w (.cells #[.int .i64 a0_0, .int .i64 (K : Int), .int .i64 a0_2] 23)
 have HBX := Aside0.mk hbx
 have HB0 := Aside0.mk (acz (Below.refl w.heap.size w) (.cells #[.int .i64 a0_0, .int .i64 (K : Int), .int .i64 a0_2] 23))
 clear h hru hr1 hn hf hah hbx
 refine (callsIn_wide (n := 8)).1 (callsIn_of_wp_marks Tryz.func55 rfl trivial (wpIn_wide.2 ?_) rfl)
 simp only [Tryz.ntmps55, List.size_toArray, List.length_cons, List.length_nil, Nat.reduceAdd, Nat.reduceSub, Array.replicate_succ, Array.replicate_zero, List.push_toArray, List.append_toArray, List.nil_append, List.cons_append]
 go_wp2_with fail
 generalize w.alloc (.cells #[.int .i64 a0_0, .int .i64 (K : Int), .int .i64 a0_2] 23) = w0 at HBX HB0 ⊢
 refine (HZ.out w0).mono ?_
 rintro e w1 ⟨rfl, hB1⟩
 have HB1 := Aside0.mk (HB0.out.trans (hB1.mono HB0.out.size))
 have HX1 := Aside0.mk (afz HBX.out hB1)
 have hcK : (w1.alloc (.cells #[.int .i64 (size : Int)] 3)).cell? ⟨w.heap.size, 1, none⟩ = some (.int .i64 (K : Int)) := (aaz (afz HX1.out (acz (Below.refl _ _) _)) 1).trans rfl
 have HSB1 := Aside0.mk (heap_alloc_new w1 (.cells #[.int .i64 (size : Int)] 3))
 have HB2 := Aside0.mk (acz HB1.out (.cells #[.int .i64 (size : Int)] 3))
 have HX2 := Aside0.mk (afz HX1.out (acz (Below.refl _ _) (.cells #[.int .i64 (size : Int)] 3)))
 have HSBW := Aside0.mk (show w.heap.size ≤ w1.heap.size from HB1.out.size)
 have HBASE := Aside0.mk (show w.heap.size ≤ (w1.alloc (.cells #[.int .i64 (size : Int)] 3)).heap.size from HB2.out.size)
 clear hB1 HBX HB0 HZ HB1 HX1
 go_wp2_with ((with_reducible refine axz (N := 26) rfl ?_); go_must (refine Kd.S_make (dM 5 .u8) (w0 := w) w.heap.size 34 rfl rfl 24 (.tmp 25) (.tmp 25) rfl (K : Int) rfl rfl Tryz.underlying24 (.slice none 0 0) 24 kr_ rfl (by decide) (by decide) ([] : List Int) (ok := fun _ => True) (okp := fun _ => True) ⟨_, rfl, Kd.R_nil _ _ _ _ _⟩ (fun _ h => h) trivial (by omega) (by omega) HB2.out HBASE.out ?_); intro v2 w2 ho hb hg hat; rw [Int.toNat_natCast] at ho; obtain ⟨o, cap, rfl, -, -, -⟩ := Kd.S_form ho (by rw [List.length_replicate]; exact hK); have HO2 := Aside0.mk ho; have HB3 := Aside0.mk hb; have HG2 := Aside0.mk hg; clear ho hb hg hat)
 rw [List.length_replicate] at HO2
 obtain ⟨sb, hsb⟩ : ∃ sb, w1.heap.size = sb := ⟨_, rfl⟩
 obtain ⟨lbx, hlbx⟩ : ∃ lbx, w2.heap.size = lbx := ⟨_, rfl⟩
 have hz2 : sb < lbx := by
  have h1 := HG2.out.size
  simp at h1; omega
 have hwl : w.heap.size < sb := by
  have h1 := amz HX2.out
  have h2 := HSBW.out
  have h3 : w.heap.size ≠ w1.heap.size := fun e => by
   have h4 := HSB1.out
   rw [← e] at h4
   rw [HX2.out] at h4
   injection h4 with h4
   injection h4 with h5 h6
   exact absurd h6 (by decide)
  omega
 have HX3 := Aside0.mk (show (w2.alloc (.cells #[.slice (some ⟨o, 0, none⟩) K cap] 24)).heap[w.heap.size]? = some (.cells #[.int .i64 a0_0, .int .i64 (K : Int), .int .i64 a0_2] 23 (0, 0)) from afz ((HG2.out.block _ (amz HX2.out) (by simp)).trans HX2.out) (acz (Below.refl _ _) _))
 have HSB3 := Aside0.mk (show (w2.alloc (.cells #[.slice (some ⟨o, 0, none⟩) K cap] 24)).heap[sb]? = some (.cells #[.int .i64 (size : Int)] 3 (0, 0)) by rw [← hsb]; exact afz ((HG2.out.block _ (amz HSB1.out) (by simp)).trans HSB1.out) (acz (Below.refl _ _) _))
 have HLB3 := Aside0.mk (show (w2.alloc (.cells #[.slice (some ⟨o, 0, none⟩) K cap] 24)).heap[lbx]? = some (.cells #[.slice (some ⟨o, 0, none⟩) K cap] 24 (0, 0)) by rw [← hlbx]; exact heap_alloc_new _ _)
 have HO3 := Aside0.mk (show Kd.S (dM 5 .u8) 34 (w2.alloc (.cells #[.slice (some ⟨o, 0, none⟩) K cap] 24)) w.heap.size (fun _ => True) (.slice (some ⟨o, 0, none⟩) K cap) (madeTo K size 0) by rw [madeTo_zero]; exact Kd.dez HO2.out _)
 have HB4 := Aside0.mk (acz HB3.out (.cells #[.slice (some ⟨o, 0, none⟩) K cap] 24))
 rw [hsb, hlbx]
 have HZ2 := Aside0.mk hz2
 have HWL := Aside0.mk hwl
 clear hsb hlbx HO2 HB3 HG2 HX2 HSB1 HB2 hcK HSBW HBASE hz2 hwl
 generalize w2.alloc (.cells #[.slice (some ⟨o, 0, none⟩) K cap] 24) = w3 at HX3 HSB3 HLB3 HO3 HB4 ⊢
 have hmk := make_bytes size (by omega)
 go_loopw [29] (fun iv wr => ∃ i : Nat, i ≤ K ∧ iv = .int .i64 (i : Int) ∧ Aside0 (Kd.S (dM 5 .u8) 34 wr w.heap.size (fun _ => True) (.slice (some ⟨o, 0, none⟩) K cap) (madeTo K size i)) ∧ Aside0 (Below w.heap.size w wr) ∧ Aside0 (wr.heap[w.heap.size]? = some (.cells #[.int .i64 a0_0, .int .i64 (K : Int), .int .i64 a0_2] 23 (0, 0))) ∧ Aside0 (wr.heap[sb]? = some (.cells #[.int .i64 (size : Int)] 3 (0, 0))) ∧ Aside0 (wr.heap[lbx]? = some (.cells #[.slice (some ⟨o, 0, none⟩) K cap] 24 (0, 0)))) (fun iv _ => K - (intOf iv).toNat)
 case atStart => exact ⟨0, Nat.zero_le _, rfl, HO3, HB4, HX3, HSB3, HLB3⟩
 clear HO3 HB4 HX3 HSB3 HLB3
 obtain ⟨wq, rfl⟩ : ∃ w', w' = wr := ⟨_, rfl⟩
 obtain ⟨i, hi, rfl, HO, HB, HX, HSB, HLB⟩ := hrel
 by_cases hlt : i < K
 ·have e1 : wq.cell? ⟨lbx, 0, none⟩ = some (.slice (some ⟨o, 0, none⟩) K cap) := (aaz HLB.out 0).trans rfl
  have e2 : wq.cell? ⟨sb, 0, none⟩ = some (.int .i64 (size : Int)) := (aaz HSB.out 0).trans rfl
  have HO5 := Aside0.mk (S_new HO.out HB.out.size (fun _ _ => trivial) i hlt (List.replicate size 0) (by simp; omega))
  rw [List.length_replicate, madeTo_step K size i hlt] at HO5
  obtain ⟨v0, hcv, hfv⟩ := S_cell (Kd.dez HO.out (.cells (nums .u8 (List.replicate size 0)).toArray 5)) i hlt
  have hol : o ≠ lbx ∧ o ≠ sb ∧ o ≠ w.heap.size := by
   obtain ⟨cs, hcs⟩ := Kd.cez HO.out o (by simp [Value.ownBlock])
   refine ⟨?_, ?_, ?_⟩
   ·rintro rfl
    rw [HLB.out] at hcs
    injection hcs with hcs
    injection hcs with _ hcs
    exact absurd hcs (by decide)
   ·rintro rfl
    rw [HSB.out] at hcs
    injection hcs with hcs
    injection hcs with _ hcs
    exact absurd hcs (by decide)
   ·rintro rfl
    rw [HX.out] at hcs
    injection hcs with hcs
    injection hcs with _ hcs
    exact absurd hcs (by decide)
  have hbo : w.heap.size ≤ o := Kd.ckz HO.out o (by simp [Value.ownBlock])
  have HB5 := Aside0.mk (bZz (acz HB.out (.cells (nums .u8 (List.replicate size 0)).toArray 5)) hbo i (.slice (some ⟨wq.heap.size, 0, none⟩) size size))
  have HX5 := Aside0.mk (awz (afz HX.out (acz (Below.refl _ _) (.cells (nums .u8 (List.replicate size 0)).toArray 5))) (p := ⟨o, i, none⟩) (Ne.symm hol.2.2) (.slice (some ⟨wq.heap.size, 0, none⟩) size size))
  have HSB5 := Aside0.mk (awz (afz HSB.out (acz (Below.refl _ _) (.cells (nums .u8 (List.replicate size 0)).toArray 5))) (p := ⟨o, i, none⟩) (Ne.symm hol.2.1) (.slice (some ⟨wq.heap.size, 0, none⟩) size size))
  have HLB5 := Aside0.mk (awz (afz HLB.out (acz (Below.refl _ _) (.cells (nums .u8 (List.replicate size 0)).toArray 5))) (p := ⟨o, i, none⟩) (Ne.symm hol.1) (.slice (some ⟨wq.heap.size, 0, none⟩) size size))
  have i1 : (0 : Int) ≤ (i : Int) := by omega
  have i2 : (i : Int) < (K : Int) := by omega
  clear hol hbo
  go_wp2_with fail
  refine regOnly_ ?_
  refine bbz (n := 6) (S := fun w' => w'.cell? ⟨lbx, 0, none⟩ = some (.slice (some ⟨o, 0, none⟩) K cap) ∧ w'.cell? ⟨sb, 0, none⟩ = some (.int .i64 (size : Int))) (ds := [5]) (bA 6 0) kr_ rfl rfl ⟨e1, e2⟩ (fun hHeld => ?_)
  refine pu_ 1 33 2 ?_
  refine tk_ 0 32 3 hHeld ?_
  refine tk_ 2 34 7 hHeld ?_
  refine one_ (i := 3) (N := some 35) (bA 6 15) rfl rfl kr_ (by decide) (fun K hK => ?_)
  refine bmz (w1 := ?_) (v := ?_) (by rfl) rfl ?_ ?_
  rotate_left 2
  ·go_simp
   constructor
   ·rfl
   ·rfl
  refine hK.out _ _ ⟨(World.cell?_alloc_past _ _ _ (World.block_lt_of_cell? _ _ e1)).trans e1, (World.cell?_alloc_past _ _ _ (World.block_lt_of_cell? _ _ e2)).trans e2⟩ (fun hHeld => ?_)
  clear hK K
  refine norm_ (a' := ?_) ?_ ?_
  rotate_left
  ·show Act.put _ (some 35) _ = _
   simp only [Act.put, List.setIfInBounds_toArray, List.set_cons_zero, List.set_cons_succ, i64_w, i32_w]
   rfl
  refine pu_ 4 36 31 ?_
  refine last_ (i := 5) (N := none) (bA 6 63) rfl rfl kr_ (by decide) (fun K hK => ?_)
  refine skip_ (w1 := ?_) (by rfl) rfl ?_ ?_
  rotate_left
  ·go_simp
   rfl
  refine hK.out _ _ ?_
  clear hK K
  refine done_ kr_ ?_
  refine dPz ?_
  go_wp2
  exact ⟨⟨i + 1, by omega, by simp [i64_w], Aside0.mk HO5.out, Aside0.mk HB5.out.drew, Aside0.mk HX5.out, Aside0.mk HSB5.out, Aside0.mk HLB5.out⟩, by simp [intOf]; omega⟩
 ·obtain rfl : i = K := by omega
  have hfull := HO.out
  rw [madeTo_full] at hfull
  have HO4 := Aside0.mk hfull
  have q0 : wq.cell? ⟨w.heap.size, 0, none⟩ = some (.int .i64 a0_0) := (aaz HX.out 0).trans rfl
  have q1 : wq.cell? ⟨w.heap.size, 1, none⟩ = some (.int .i64 (i : Int)) := (aaz HX.out 1).trans rfl
  have q2 : wq.cell? ⟨w.heap.size, 2, none⟩ = some (.int .i64 a0_2) := (aaz HX.out 2).trans rfl
  have hself : ((i : Int) < (i : Int)) = False := by simp
  clear hi hlt hmk hfull HO
  go_wp2_with fail
  refine (HRU.out wq).mono ?_
  rintro e w4 ⟨rfl, hB4⟩
  have HB5 := Aside0.mk (HB.out.trans (hB4.mono HB.out.size))
  have HO5 := Aside0.mk (Kd.b5z HO4.out hB4)
  have HX5 := Aside0.mk (afz HX.out hB4)
  have HSB5 := Aside0.mk (afz HSB.out hB4)
  have HLB5 := Aside0.mk (afz HLB.out hB4)
  clear hB4 q0 q1 q2 HB HO4 HX HSB HLB HRU
  have hld := laid.calls (ahead : Int) A1 n c1
  go_wp2_with ((go_at_call 90; refine (hld _).mono ?_; rintro e w' ⟨rfl, rfl⟩))
  clear hld
  have hX10 : ((w4.alloc (.cells #[.int .i64 (ahead : Int)] 3)).alloc (.cells #[.slice A1 n c1] 34)).heap[w4.heap.size]? = some (.cells #[.int .i64 (ahead : Int)] 3 (0, 0)) := adz (bcz w4 _) _
  have hX11 : ((w4.alloc (.cells #[.int .i64 (ahead : Int)] 3)).alloc (.cells #[.slice A1 n c1] 34)).heap[w4.heap.size + 1]? = some (.cells #[.slice A1 n c1] 34 (0, 0)) := aTz _ _ _ (by simp)
  have hB6 : Below w4.heap.size w4 ((w4.alloc (.cells #[.int .i64 (ahead : Int)] 3)).alloc (.cells #[.slice A1 n c1] 34)) := byz (acz (Below.refl _ _) _) (acz (Below.refl _ _) _)
  have hsz : ((w4.alloc (.cells #[.int .i64 (ahead : Int)] 3)).alloc (.cells #[.slice A1 n c1] 34)).heap.size = w4.heap.size + 2 := by simp
  generalize (w4.alloc (.cells #[.int .i64 (ahead : Int)] 3)).alloc (.cells #[.slice A1 n c1] 34) = w5 at hX10 hX11 hB6 hsz ⊢
  obtain ⟨b, hb⟩ : ∃ b, b = w4.heap.size := ⟨_, rfl⟩
  rw [← hb] at hX10 hX11 hsz hB6 ⊢
  have hwb : w.heap.size ≤ b := hb ▸ HB5.out.size
  have hB6' : Below w.heap.size w w5 := HB5.out.trans (hB6.mono hwb)
  have hR5 : Kd.C (Kd.int .u8) w5 A1 l1.length l1 := Kd.apz HR1.out hB6'
  have hlt1 : lbx < b := hb ▸ amz HLB5.out
  have hS6 : Kd.S (dM 5 .u8) 34 w5 w.heap.size (fun k => w.heap.size ≤ k ∧ k < b ∧ k ≠ sb ∧ k ≠ lbx) (.slice (some ⟨o, 0, none⟩) i cap) (List.replicate i (List.replicate size 0)) := by
   have h1 := Kd.aXz (Kd.cuz (Kd.cuz HO5.out HSB5.out (by decide)) HLB5.out (by decide))
   have h2 := Kd.b5z h1 (hb ▸ hB6 : Below w4.heap.size w4 w5)
   refine Kd.bsz h2 (fun q hq => ?_)
   simp only [← hb] at hq
   exact ⟨hq.2.1, hq.2.2.1, hq.1.1.2, hq.1.2⟩
  have HSB6 := Aside0.mk (afz HSB5.out (hb ▸ hB6))
  have HLB6 := Aside0.mk (afz HLB5.out (hb ▸ hB6))
  have HX10 := Aside0.mk hX10
  have HX11 := Aside0.mk hX11
  have HB6 := Aside0.mk hB6'
  have HR5 := Aside0.mk hR5
  have HS6 := Aside0.mk hS6
  have HSZ := Aside0.mk hsz
  have HWB := Aside0.mk hwb
  have HLT := Aside0.mk hlt1
  clear hX10 hX11 hB6 hB6' hR5 hS6 hsz hwb hlt1 HB5 HO5 HX5 HSB5 HLB5 hb
  refine (wpIn_wide (n := 8)).1 ?_
  refine cNz (α := Nat × Int) rfl (by omega) (gf := 134) (lb := #[.pointer (some ⟨b + 1, 0, none⟩), .pointer (some ⟨b, 0, none⟩)]) rfl trivial (enters_of Tryz.func134 kr_ rfl)
   (laid_seq ahead b (b + 1) n c1 HAH.out (fun k => w.heap.size ≤ k ∧ k < b ∧ k ≠ sb ∧ k ≠ lbx) A1 l1 w5 HR5.out HN.out hc1 hn2 HX10.out HX11.out (fun k hk => by have := HSZ.out; have := hk.2.1; omega)) KpC.trans ?hKb (Below.refl _ _) (fun _ => rfl)
   (fun pre Wx => ∃ rows, Kd.S (dM 5 .u8) 34 Wx w.heap.size (fun k => w.heap.size ≤ k ∧ k < b ∧ k ≠ sb ∧ k ≠ lbx) (.slice (some ⟨o, 0, none⟩) i cap) rows ∧ Wx.heap[sb]? = some (.cells #[.int .i64 (size : Int)] 3 (0, 0)) ∧ Wx.heap[lbx]? = some (.cells #[.slice (some ⟨o, 0, none⟩) i cap] 24 (0, 0)) ∧ rows.length = i ∧ (∀ r, r ∈ rows → r.length = size) ∧ aKz.fill size ((laidL ahead l1).drop pre.length) pre.length rows = some res ∧ Below w.heap.size w Wx ∧ w5.heap.size ≤ Wx.heap.size)
   ?hI ?hHd ?h0 (fun x => { tmps := #[.agg #[.int .i64 a0_0, .int .i64 (i : Int), .int .i64 a0_2], .slice A1 n c1, .pointer (some ⟨w.heap.size, 0, none⟩), undef, .slice none 0 0, .int .i64 0, .pointer (some ⟨sb, 0, none⟩), .int .i64 0, .pointer (some ⟨lbx, 0, none⟩), u9, .int .i64 u1, .int .i64 (ahead : Int), .int .i64 (x.1 : Int), .int .u8 x.2, .tuple #[.int .i64 (size : Int), .int .i64 0], .agg #[.int .i64 a0_0, .int .i64 (i : Int), .int .i64 a0_2], .slice A1 n c1, .int .i64 (n : Int), .tuple #[.int .i64 (size : Int), .int .i64 0], .int .i64 (size : Int), .int .i64 0, .int .i64 0, .bool false, undef, .pointer (some ⟨w.heap.size, 1, none⟩), .int .i64 (i : Int), .slice (some ⟨o, 0, none⟩) i cap, .slice (some ⟨o, 0, none⟩) i cap, .int .i64 (i : Int), .int .i64 (i : Int), .bool false, u31, u32, u33, u34, u35, u36, u37, .tuple #[.int .i64 u1, .int .i64 (ahead : Int)], .agg #[.int .i64 a0_0, .int .i64 (i : Int), .int .i64 a0_2], .tuple #[.int .i64 u1, .int .i64 (ahead : Int)], .int .i64 u1, .int .i64 (ahead : Int), .int .i64 (ahead : Int), .slice A1 n c1, .func (.func 134) #[] #[.pointer (some ⟨b + 1, 0, none⟩), .pointer (some ⟨b, 0, none⟩)], .int .i64 (x.1 : Int), .int .u8 x.2, undef, undef, undef, undef, undef, undef, undef, undef, undef, undef, undef, undef], defers := [] }) ?assign ?body ?done
  case hKb =>
   intro Wx l o1 o2 hl ho hno
   refine ⟨(grownBy_putObj' Wx l o2).size, fun k oo hk hcc _ => ?_⟩
   have hne : k ≠ l := by rintro rfl; rw [hk] at ho; cases ho; rw [hcc] at hno; cases hno
   exact (World.putObj_heap_other hne).trans hk
  case hI =>
   rintro s X Y r ⟨rows, h1, h2, h3, h4, h5, h6, h7, h8⟩ hg hr
   have hr' : ∀ q, r = some q → ∃ o : Obj, X.heap[q]? = some o ∧ o.isCells = false := fun q e => (hr q e).2
   have hcc : ∀ (q : Nat) (oo : Obj), X.heap[q]? = some oo → oo.isCells = true → Y.heap[q]? = X.heap[q]? := fun q oo hq ho => grownBy_keeps_cells hg hr' hq ho
   exact ⟨rows, cOz h1 hcc, (hcc _ _ h2 rfl).trans h2, (hcc _ _ h3 rfl).trans h3, h4, h5, h6, ⟨hg.os.trans h7.os, hg.tape.trans h7.tape, hg.output.trans h7.output, Nat.le_trans h7.size hg.size, fun q hq => (hg.block q (Nat.lt_of_lt_of_le hq h7.size) (fun e => by have := (hr q e.symm).1; have := HSZ.out; have := HWB.out; omega)).trans (h7.block q hq)⟩, Nat.le_trans h8 hg.size⟩
  case hHd =>
   intro m x s X Y r h hg hr
   exact h
  case h0 =>
   refine ⟨_, HS6.out, HSB6.out, HLB6.out, by simp, fun r hr => by rw [List.eq_of_mem_replicate hr]; simp, ?_, HB6.out, Nat.le_refl _⟩
   simpa using HF.out
  case assign =>
   intro l x Wx K hK
   gi_wp2
   exact hK
  case body =>
   rintro l pre ⟨x, c⟩ Wx ⟨rows, h1, h2, h3, h4, h5, h6, h7, h8⟩ ⟨hx0, hx1⟩ hlen
   dsimp only at hx0 hx1
   have hdr : (laidL ahead l1).drop pre.length = c :: (laidL ahead l1).drop (pre.length + 1) := by
    obtain ⟨hl, he⟩ := List.getElem?_eq_some_iff.1 hx1
    rw [List.drop_eq_getElem_cons hl, he]
   rw [hdr, ← hx0] at h6
   simp only [aKz.fill] at h6
   have hq : x / size < rows.length := by
    by_cases hh : x / size < rows.length
    ·exact hh
    ·rw [if_neg hh] at h6; cases h6
   rw [if_pos hq] at h6
   obtain ⟨row, hrow⟩ : ∃ r, rows[x / size]? = some r := ⟨_, List.getElem?_eq_getElem hq⟩
   have hrl : row.length = size := h5 row (List.mem_of_getElem? hrow)
   have hrd : rows.getD (x / size) [] = row := by rw [List.getD_eq_getElem?_getD, hrow]; rfl
   rw [hrd] at h6
   have hj : x % size < size := Nat.mod_lt _ hs
   obtain ⟨g, cg, y, k1, k2, k3, kok, kne, kS⟩ := S_put2 h1 (x / size) (x % size) row hrow (by rw [hrl]; exact hj) c
   have e1 : Wx.cell? ⟨lbx, 0, none⟩ = some (.slice (some ⟨o, 0, none⟩) i cap) := (aaz h3 0).trans rfl
   have e2 : Wx.cell? ⟨sb, 0, none⟩ = some (.int .i64 (size : Int)) := (aaz h2 0).trans rfl
   rw [hrl] at k1
   rw [h4] at hq
   have hx100 : x ≤ 100004 := by
    have hl : (laidL ahead l1).length ≤ 100004 := by
     have := HN.out
     unfold laidL four4
     simp; omega
    omega
   have d1 : Int.tdiv (x : Int) (size : Int) = ((x / size : Nat) : Int) := by rw [Int.ofNat_tdiv]
   have d2 : Int.tmod (x : Int) (size : Int) = ((x % size : Nat) : Int) := by rw [Int.ofNat_tmod]
   obtain ⟨qx, hqx⟩ : ∃ qx, x / size = qx := ⟨_, rfl⟩
   obtain ⟨rx, hrx⟩ : ∃ rx, x % size = rx := ⟨_, rfl⟩
   have hqle : qx ≤ x := hqx ▸ Nat.div_le_self _ _
   rw [hqx] at d1 hq k1 kS h6 hrow
   rw [hrx] at d2 hj k2 k3 kS h6
   have i1 : (0 : Int) ≤ (qx : Int) := by omega
   have i2 : (qx : Int) < (i : Int) := by omega
   have i3 : (0 : Int) ≤ (rx : Int) := by omega
   have i4 : (rx : Int) < (size : Int) := by omega
   have i5 : ¬ (size = 0) := by omega
   have i6 : IntKind.i64.wrap (qx : Int) = (qx : Int) := by rw [IntKind.wrap_i64]; omega
   have HEND := Aside0.mk (show KeepsFrom w5.heap.size Wx (Wx.setCell ⟨g, rx, none⟩ (.int .u8 c)) ∧ KpC (fun k => w.heap.size ≤ k ∧ k < b ∧ k ≠ sb ∧ k ≠ lbx) Wx (Wx.setCell ⟨g, rx, none⟩ (.int .u8 c)) ∧ ∃ rows, Kd.S (dM 5 .u8) 34 (Wx.setCell ⟨g, rx, none⟩ (.int .u8 c)) w.heap.size (fun k => w.heap.size ≤ k ∧ k < b ∧ k ≠ sb ∧ k ≠ lbx) (.slice (some ⟨o, 0, none⟩) i cap) rows ∧ (Wx.setCell ⟨g, rx, none⟩ (.int .u8 c)).heap[sb]? = some (.cells #[.int .i64 (size : Int)] 3 (0, 0)) ∧ (Wx.setCell ⟨g, rx, none⟩ (.int .u8 c)).heap[lbx]? = some (.cells #[.slice (some ⟨o, 0, none⟩) i cap] 24 (0, 0)) ∧ rows.length = i ∧ (∀ r, r ∈ rows → r.length = size) ∧ aKz.fill size ((laidL ahead l1).drop (pre ++ [(x, c)]).length) (pre ++ [(x, c)]).length rows = some res ∧ Below w.heap.size w (Wx.setCell ⟨g, rx, none⟩ (.int .u8 c)) ∧ w5.heap.size ≤ (Wx.setCell ⟨g, rx, none⟩ (.int .u8 c)).heap.size by
    have hsc : ∀ k, k ≠ g → (Wx.setCell ⟨g, rx, none⟩ (.int .u8 c)).heap[k]? = Wx.heap[k]? := fun k hk => Below.heap_setCell Wx ⟨g, rx, none⟩ _ k hk
    refine ⟨⟨by simp, fun k oo hk hko hno => ?_⟩, ⟨by simp, fun k oo hk hcc he => (hsc k (by rintro rfl; exact he kok)).trans hk⟩, _, kS, (hsc _ (by rintro rfl; exact kok.2.2.1 rfl)).trans h2, (hsc _ (by rintro rfl; exact kok.2.2.2 rfl)).trans h3, by rw [List.length_set]; exact h4, ?_, ?_, bZz h7 kok.1 rx _, by simpa using h8⟩
    ·exact (hsc k (by rintro rfl; have := kok.2.1; have := HSZ.out; omega)).trans hko
    ·intro r hr
     rcases List.mem_or_eq_of_mem_set hr with hr | rfl
     ·exact h5 r hr
     ·rw [List.length_set]; exact hrl
    ·rw [List.length_append, List.length_singleton, ← hx0]
     exact h6)
   have hmo : Tryz.prog.follows .mixedOrders = true := by kernel_rfl
   clear h1 h2 h3 h4 h5 h6 h7 h8 hx0 hx1 hlen hdr hrow hrl hrd kok kne kS hqx hrx
   gi_wp2
   refine dZz (m := 12) (S := fun w' => w'.cell? ⟨lbx, 0, none⟩ = some (.slice (some ⟨o, 0, none⟩) i cap) ∧ w'.cell? ⟨sb, 0, none⟩ = some (.int .i64 (size : Int)) ∧ w'.cell? ⟨o, qx, none⟩ = some (.slice (some ⟨g, 0, none⟩) size cg)) (ds := [11]) (bA 12 0) kr_ rfl rfl kr_ (by rintro ⟨_, _, h⟩; exact h) ⟨e1, e2, k1⟩ (fun hHeld => ?_)
   refine pu_ 1 49 2 ?_
   refine pu_ 6 54 66 ?_
   refine pu_ 9 57 578 ?_
   refine tk_ 0 48 579 hHeld ?_
   refine tk_ 2 50 583 hHeld ?_
   refine pu_ 3 51 591 ?_
   refine pu_ 4 52 607 ?_
   refine tk_ 5 53 639 hHeld ?_
   refine tk_ 7 55 767 hHeld ?_
   refine pu_ 8 56 1023 ?_
   refine pu_ 10 58 2047 ?_
   refine last_ (i := 11) (N := none) (bA 12 4095) rfl rfl kr_ (by decide) (fun K hK => ?_)
   refine skip_ (w1 := ?_) (by rfl) rfl ?_ ?_
   rotate_left
   ·go_simp
    rfl
   refine hK.out _ _ ?_
   clear hK K
   refine done_ kr_ ?_
   obtain ⟨q1, q2, rows, p1, p2, p3, p4, p5, p6, p7, p8⟩ := HEND.out
   refine And.intro ⟨q1.1, q1.2⟩ (And.intro ⟨q2.1, q2.2⟩ ⟨rows, Kd.S_drew p1, p2, p3, p4, p5, p6, p7.drew, p8⟩)
  case done =>
   rintro D xs Wx hD ⟨hxs, hlen⟩ ⟨rows, h1, h2, h3, h4, h5, h6, h7, h8⟩ hDd
   rw [hlen, List.drop_length] at h6
   obtain rfl : rows = res := by simpa [aKz.fill] using h6
   have e1 : Wx.cell? ⟨lbx, 0, none⟩ = some (.slice (some ⟨o, 0, none⟩) i cap) := (aaz h3 0).trans rfl
   have H1 := Aside0.mk h1
   have H7 := Aside0.mk h7
   have H8 := Aside0.mk h8
   have HDD := Aside0.mk hDd
   have HDN := Aside0.mk hD
   clear h1 h2 h3 h4 h5 h6 h7 h8 hDd hD hxs hlen
   simp only [Exit.inBlock, Exit.then]
   go_wp2
   refine btz [D] Wx (by simp) (fun D' hD' => by rw [List.mem_singleton] at hD'; rw [hD']; exact HDD.out) (fun w' hkp hsz hos htp hou => ?_)
   have hcc : ∀ (q : Nat) (oo : Obj), Wx.heap[q]? = some oo → oo.isCells = true → w'.heap[q]? = Wx.heap[q]? := fun q oo hq ho => hkp q (amz hq) (fun hm => by
    rw [List.mem_singleton] at hm
    subst hm
    rw [HDD.out] at hq; cases hq; cases ho)
   refine ⟨_, results_tmp2 rfl _ _ _, _, rfl, cOz (Kd.bsz H1.out (fun _ _ => trivial)) hcc, hos.trans H7.out.os, htp.trans H7.out.tape, hou.trans H7.out.output, by rw [hsz]; exact H7.out.size, fun q hq => (hkp q (Nat.lt_of_lt_of_le hq H7.out.size) (fun hm => by
    rw [List.mem_singleton] at hm
    have := HDN.out; have := HSZ.out; have := HWB.out; omega)).trans (H7.out.block q hq)⟩
theorem aKz.calls (k : Nat) (a0_0 : Int) (a0_1 : Int) (a0_2 : Int) (A1 : Option Addr) (c1 : Nat) (l1 : List Int) (r1 : List (List Int)) (r2 : Int) (w : World) (hr1 : Kd.C (Kd.int .u8) w A1 l1.length l1) (hc1 : l1.length ≤ c1) (h : aKz.f k a0_0 a0_1 a0_2 l1 = some (r1, r2)) :
 Calls Tryz.prog 55 #[.agg #[.int .i64 a0_0, .int .i64 a0_1, .int .i64 a0_2], .slice A1 l1.length c1] w fun e w' => ∃ v0_ : Value, e = .returned (.tuple #[v0_, .int .i64 r2]) ∧ Kd.S (Kd.slice 5 (Kd.int .u8)) 34 w' w.heap.size (fun _ => True) v0_ r1 ∧ Below w.heap.size w w' := by
 unfold aKz.f at h
 obtain ⟨⟨s1, s2⟩, hz, h⟩ := Option.bind_eq_some_iff.1 h
 by_cases hs : s2 = 0
 ·subst hs
  dsimp only at h
  rw [if_pos rfl] at h
  have cut : ∀ {p : Prop} [Decidable p] {a : Option (List (List Int) × Int)}, (if p then a else none) = some (r1, r2) → p ∧ a = some (r1, r2) := by
   intro p _ a hh
   by_cases hp : p
   ·rw [if_pos hp] at hh; exact ⟨hp, hh⟩
   ·rw [if_neg hp] at hh; cases hh
  obtain ⟨q1, h⟩ := cut h
  obtain ⟨q2, h⟩ := cut h
  obtain ⟨q3, h⟩ := cut h
  obtain ⟨q4, h⟩ := cut h
  obtain ⟨q5, h⟩ := cut h
  obtain ⟨⟨u1, u2⟩, hu, h⟩ := Option.bind_eq_some_iff.1 h
  obtain ⟨q6, h⟩ := cut h
  obtain ⟨r, hf, h⟩ := Option.bind_eq_some_iff.1 h
  simp only [Option.some.injEq, Prod.mk.injEq] at h
  obtain ⟨rfl, rfl⟩ := h
  obtain ⟨K, rfl⟩ : ∃ K : Nat, a0_1 = (K : Int) := ⟨a0_1.toNat, by omega⟩
  obtain ⟨size, rfl⟩ : ∃ s : Nat, s1 = (s : Int) := ⟨s1.toNat, by omega⟩
  dsimp only at q6 hf q3 q4
  obtain ⟨ahead, rfl⟩ : ∃ s : Nat, u2 = (s : Int) := ⟨u2.toNat, by omega⟩
  simp only [Int.toNat_natCast] at hf
  exact aKz.go k a0_0 a0_2 K size ahead l1.length A1 c1 l1 u1 r w hr1 hc1 rfl q5 hz (by omega) (by omega) (by omega) (by omega) hu (by omega) hf
 ·dsimp only at h
  rw [if_neg hs] at h
  simp only [Option.some.injEq, Prod.mk.injEq] at h
  obtain ⟨rfl, rfl⟩ := h
  refine (aKz.bad k a0_0 a0_1 a0_2 A1 c1 l1 s1 s2 w hz hs).mono ?_
  rintro e w' ⟨rfl, hB⟩
  exact ⟨_, rfl, Kd.S_nil _ _ _ _ _, hB⟩
end Go.Proofs.YtpdakdcmahlghaaGreat.XCo
end
section
namespace Go.Proofs.YtpdakdcmahlghaaGreat.XCo
open Go.RowKit Go.Proofs.YtpdakdcmahlghaaGreatW.PrintWords Go.Proofs.YtpdakdcmahlghaaGreatW.PrintLast Go.Proofs.YtpdakdcmahlghaaGreatW.PrintMore
attribute [local go_sem] azz aAz aGz aHz asz atz aBz aCz
set_option linter.unusedVariables false
set_option linter.unusedSimpArgs false
def bVz.f (k : Nat) (a0_0 : Int) (a0_1 : Int) (a0_2 : Int) (l1 : List Int) : Option ((List (List Int)) × Int) := (aKz.f k a0_0 a0_1 a0_2 l1).bind fun bt132 => (if bt132.2 = 0 then ((akz.f k a0_0 a0_1 a0_2 bt132.1).bind fun bt136 => (if bt132.1.length + bt136.1.length < 5864062014805 then (some ((bt132.1 ++ bt136.1), bt136.2)) else (none))) else (some (([] : List (List Int)), bt132.2)))
set_option maxHeartbeats 8000000 in
set_option maxRecDepth 100000 in
theorem bVz.calls (k : Nat) (a0_0 : Int) (a0_1 : Int) (a0_2 : Int) (A1 : Option Addr) (c1 : Nat) (l1 : List Int) (r1 : List (List Int)) (r2 : Int) (w : World) (hr1 : Kd.C (Kd.int .u8) w A1 l1.length l1) (hc1 : l1.length ≤ c1) (h : bVz.f k a0_0 a0_1 a0_2 l1 = some (r1, r2)) :
  Calls Tryz.prog 24 #[.agg #[.int .i64 a0_0, .int .i64 a0_1, .int .i64 a0_2], .slice A1 l1.length c1] w fun e w' => ∃ v0_ : Value, e = .returned (.tuple #[v0_, .int .i64 r2]) ∧ Kd.N (Kd.slice 5 (Kd.int .u8)) 34 w' w.heap.size (fun k_ => (w.heap.size ≤ k_)) v0_ r1 ∧ Below w.heap.size w w' := by
 have hu23 := Tryz.underlying23
 have HR1 := Aside0.mk hr1
 have HC1 := Aside0.mk hc1
 clear hr1 hc1
 have HB := Aside0.mk (Below.refl w.heap.size w)
 have H := h
 clear h
 unfold bVz.f at H
 obtain ⟨⟨t132, t135⟩, A3, H⟩ := ob_ H
 (try dsimp only at H)
 by_cases c4 : t135 = 0
 rotate_left
 ·rw [if_neg c4] at H
  have c4b0 : (t135 == 0) = false := beq_eq_false_iff_ne.mpr c4
  have c4b1 : (t135 != 0) = true := bne_iff_ne.mpr c4
  simp only [Option.some.injEq, Prod.mk.injEq] at H
  obtain ⟨rfl, rfl⟩ := H
  go_enter Tryz.func24, Tryz.ntmps24
  go_wp2_with (first | ((with_reducible refine axz (N := 2) rfl ?_); refine bx_ 2 #[.int .i64 a0_0, .int .i64 a0_1, .int .i64 a0_2] 23 ?_; intro gb131 hg w15 hbox hb; have n_ := And.intro (hs_ HB hb) (And.intro (Aside0.mk (hbox)) (And.intro (ag_ HB gb131) (ag_ HB gb131))); clear HB; obtain ⟨HB, BK131, GW131, GE131⟩ := n_; clear hb hbox hg; obtain ⟨hcz16_0, hfz16_0, hcz16_1, hfz16_1, hcz16_2, hfz16_2⟩ := bc3_ BK131.out) | ((with_reducible refine ajz (f := 55) rfl ?_); refine gl_ (some 12) Tryz.func55 #[.agg #[.int .i64 a0_0, .int .i64 a0_1, .int .i64 a0_2], .slice A1 l1.length c1] ?_; (with_reducible refine (aKz.calls k a0_0 a0_1 a0_2 _ _ l1 t132 t135 _ (xd_ (Kd.apz HR1.out HB.out)) (HC1.out) A3.out).mono ?_); rintro e w17 ⟨v133, rfl, ho0, hb⟩; refine ⟨_, rfl, ?_⟩; have n_ := And.intro (Aside0.mk (Kd.cgz (Kd.clz (ok' := fun k_ => (w.heap.size ≤ k_) ∧ k_ ≠ gb131) (Kd.S_N (Kd.aXz ho0)) (fun k_ hk_ => ⟨(Nat.le_trans (aPz bl_) hk_.2.1), (Kd.freshB (g := gb131) (o := .cells #[.int .i64 a0_0, .int .i64 a0_1, .int .i64 a0_2] 23 (0, 0)) bk_ k_ hk_.2.1)⟩)) (aPz bl_))) (And.intro (bb_ BK131 hb) (hs_ HB hb)); clear BK131 HB; obtain ⟨HO134, BK131, HB⟩ := n_; clear hb ho0))
  go_ret2
  exact ⟨_, er_, nl_, bl_⟩
 rw [if_pos c4] at H
 have c4b0 : (t135 == 0) = true := beq_iff_eq.mpr c4
 have c4b1 : (t135 != 0) = false := bne_eq_false_iff_eq.mpr c4
 clear c4
 obtain ⟨⟨t136, t139⟩, A5, H⟩ := ob_ H
 (try dsimp only at H)
 by_cases c6 : t132.length + t136.length < 5864062014805
 rotate_left
 ·rw [if_neg c6] at H
  exact absurd H (by simp)
 rw [if_pos c6] at H
 have LMc6 := Aside0.mk c6
 clear c6
 obtain ⟨y140, hy140⟩ : ∃ y_ : List (List Int), y_ = (t132 ++ t136) := ⟨_, rfl⟩
 first | rw [Option.bind_some, ← hy140] at H | rw [← hy140] at H
 (try dsimp only at H)
 have Ny140 := Aside0.mk hy140
 clear hy140
 simp only [Option.some.injEq, Prod.mk.injEq] at H
 obtain ⟨rfl, rfl⟩ := H
 go_enter Tryz.func24, Tryz.ntmps24
 go_wp2_with (first | ((with_reducible refine axz (N := 2) rfl ?_); refine bx_ 2 #[.int .i64 a0_0, .int .i64 a0_1, .int .i64 a0_2] 23 ?_; intro gb131 hg w7 hbox hb; have n_ := And.intro (hs_ HB hb) (And.intro (Aside0.mk (hbox)) (And.intro (ag_ HB gb131) (ag_ HB gb131))); clear HB; obtain ⟨HB, BK131, GW131, GE131⟩ := n_; clear hb hbox hg; obtain ⟨hcz8_0, hfz8_0, hcz8_1, hfz8_1, hcz8_2, hfz8_2⟩ := bc3_ BK131.out) | ((with_reducible refine ajz (f := 55) rfl ?_); refine gl_ (some 12) Tryz.func55 #[.agg #[.int .i64 a0_0, .int .i64 a0_1, .int .i64 a0_2], .slice A1 l1.length c1] ?_; (with_reducible refine (aKz.calls k a0_0 a0_1 a0_2 _ _ l1 t132 t135 _ (xd_ (Kd.apz HR1.out HB.out)) (HC1.out) A3.out).mono ?_); rintro e w9 ⟨v133, rfl, ho0, hb⟩; refine ⟨_, rfl, ?_⟩; have n_ := And.intro (Aside0.mk (Kd.cgz (Kd.clz (ok' := fun k_ => (w.heap.size ≤ k_) ∧ k_ ≠ gb131) (Kd.S_N (Kd.aXz ho0)) (fun k_ hk_ => ⟨(Nat.le_trans (aPz bl_) hk_.2.1), (Kd.freshB (g := gb131) (o := .cells #[.int .i64 a0_0, .int .i64 a0_1, .int .i64 a0_2] 23 (0, 0)) bk_ k_ hk_.2.1)⟩)) (aPz bl_))) (And.intro (bb_ BK131 hb) (hs_ HB hb)); clear BK131 HB; obtain ⟨HO134, BK131, HB⟩ := n_; clear hb ho0; obtain ⟨hcz10_0, hfz10_0, hcz10_1, hfz10_1, hcz10_2, hfz10_2⟩ := bc3_ BK131.out; obtain ⟨Ao11, co11, eo11⟩ := Kd.b6z HO134.out; subst eo11) | ((with_reducible refine ajz (f := 19) rfl ?_); refine gl_ (some 21) Tryz.func19 #[.agg #[.int .i64 a0_0, .int .i64 a0_1, .int .i64 a0_2], .slice Ao11 t132.length co11] ?_; (with_reducible refine (akz.calls k a0_0 a0_1 a0_2 _ _ t132 t136 t139 _ (xd_ (Kd.aOz HO134.out).2.2) ((Kd.aOz HO134.out).2.1) A5.out).mono ?_); rintro e w12 ⟨v137, rfl, ho0, hb⟩; refine ⟨_, rfl, ?_⟩; have n_ := And.intro (Aside0.mk (Kd.cbz (xd_ HO134.out) (Kd.ckz ho0) hb)) (And.intro (Aside0.mk (Kd.cgz (Kd.clz (ok' := fun k_ => (w.heap.size ≤ k_) ∧ some k_ ≠ (.slice Ao11 t132.length co11 : Value).ownBlock ∧ k_ ≠ gb131) (Kd.S_N (Kd.aXz ho0)) (fun k_ hk_ => ⟨(Nat.le_trans (aPz bl_) hk_.2.1), (Kd.fresh' (Kd.N_lt (xd_ HO134.out)) k_ hk_.2.1), (Kd.freshB (g := gb131) (o := .cells #[.int .i64 a0_0, .int .i64 a0_1, .int .i64 a0_2] 23 (0, 0)) bk_ k_ hk_.2.1)⟩)) (aPz bl_))) (And.intro (bb_ BK131 hb) (hs_ HB hb))); clear HO134 BK131 HB; obtain ⟨HO134, HO138, BK131, HB⟩ := n_; clear hb ho0; obtain ⟨Ao14, co14, eo14⟩ := Kd.b6z HO138.out; subst eo14) | ((with_reducible refine anz (b := .append) (xs := #[.tmp 24, .tmp 25]) rfl ?_); at_builtin; refine Kd.c5z (Kd.slice 5 (Kd.int .u8)) (w0 := w) w.heap.size rfl (.tmp 24) (.tmp 25) 24 34 (.slice none 0 0) 24 rfl Tryz.underlying24 info34 rfl (by decide) (by omega) (.slice Ao11 t132.length co11) t132 t136 _ _ _ (fun k_ => (w.heap.size ≤ k_) ∧ k_ ≠ gb131) (fun k_ => ((fun k_ => (w.heap.size ≤ k_) ∧ k_ ≠ gb131)) k_ ∧ some k_ ≠ (.slice Ao11 t132.length co11 : Value).ownBlock) rfl rfl ?aO ?aR (fun _ hk => hk) ?aF ?aB ?aS ?aL ?_; (case aR => exact (by skip; exact Kd.N_F (Kd.clz (ok' := (fun k_ => ((fun k_ => (w.heap.size ≤ k_) ∧ k_ ≠ gb131)) k_ ∧ some k_ ≠ (.slice Ao11 t132.length co11 : Value).ownBlock)) (HO138.out) (fun k_ hk => ⟨⟨hk.1, hk.2.2⟩, hk.2.1⟩)))); (case aB => exact bl_); (case aF => exact (fun k_ hk => ⟨(Nat.le_trans (aPz bl_) hk), Kd.freshB (g := gb131) (o := .cells #[.int .i64 a0_0, .int .i64 a0_1, .int .i64 a0_2] 23 (0, 0)) bk_ k_ hk⟩)); (case aO => exact (nm_ HO134)); (case aS => exact (aPz bl_)); (case aL => have := LMc6.out; omega); intro v141 w13 ho hb hg hat; rw [← Ny140.out] at ho; have n_ := And.intro (Aside0.mk (bwz (g := gb131) (o := .cells #[.int .i64 a0_0, .int .i64 a0_1, .int .i64 a0_2] 23 (0, 0)) bk_ hg (Kd.N_ne HO134.out BK131.out (by decide)))) (And.intro (Aside0.mk (Kd.coz (ok := (fun k_ => (w.heap.size ≤ k_) ∧ k_ ≠ gb131)) (nm_ HO138) hg hat)) (And.intro (Aside0.mk (hb)) (Aside0.mk (ho)))); clear BK131 HO138 HB HO134; obtain ⟨BK131, HO138, HB, HO142⟩ := n_; clear ho hb hg hat))
 go_ret2
 exact ⟨_, er_, nm_ HO142, bl_⟩
def bBz.f (a0 : Int) : Option (ByteArray × Int × Int × Int × Int × Bool) := if a0 = 1 then (some ((⟨#[106, 118]⟩ : ByteArray), 8, 285, 106, 4, true)) else (if a0 = 2 then (some ((⟨#[106, 99]⟩ : ByteArray), 16, 69643, 106, 4, true)) else (if a0 = 3 then (some ((⟨#[105, 114]⟩ : ByteArray), 8, 285, 105, 3, true)) else (if a0 = 4 then (some ((⟨#[105, 99]⟩ : ByteArray), 8, 285, 105, 4, true)) else (if a0 = 5 then (some ((⟨#[98, 98]⟩ : ByteArray), 8, 285, 98, 4, true)) else (if a0 = 6 then (some ((⟨#[107, 112]⟩ : ByteArray), 8, 285, 112, 4, true)) else (some ((⟨#[]⟩ : ByteArray), 0, 0, 0, 0, false)))))))
set_option maxHeartbeats 8000000 in
set_option maxRecDepth 100000 in
theorem bBz.calls (a0 : Int) (r1 : ByteArray) (r2 : Int) (r3 : Int) (r4 : Int) (r5 : Int) (r6 : Bool) (w : World) (h : bBz.f a0 = some (r1, r2, r3, r4, r5, r6)) :
  Calls Tryz.prog 50 #[.int .i64 a0] w fun e w' => e = .returned (.tuple #[.agg #[.string r1, .int .i64 r2, .int .u32 r3, .int .u8 r4, .int .i64 r5], .bool r6]) ∧ Below w.heap.size w w' := by
 have hu79 := Tryz.underlying79
 have HB := Aside0.mk (Below.refl w.heap.size w)
 have H := h
 clear h
 unfold bBz.f at H
 by_cases c2 : a0 = 1
 ·rw [if_pos c2] at H
  have c2b0 : (a0 == 1) = true := beq_iff_eq.mpr c2
  have c2b1 : (a0 != 1) = false := bne_eq_false_iff_eq.mpr c2
  clear c2
  simp only [Option.some.injEq, Prod.mk.injEq] at H
  obtain ⟨rfl, rfl, rfl, rfl, rfl, rfl⟩ := H
  go_enter Tryz.func50, Tryz.ntmps50
  go_wp2_with (first | ((with_reducible refine axz (N := 2) rfl ?_); refine a3z ?hg (N := 2) ?hd (cs := #[.string (⟨#[]⟩ : ByteArray), .int .i64 0, .int .u32 0, .int .u8 0, .int .i64 0]) (t := 79) ?hr ?_; (case hd => rfl); (case hg => rfl); (case hr => first | (go_simp; done) | (go_simp; rfl)); intro gb143 hg w3 hbox hb; have n_ := And.intro (hs_ HB hb) (And.intro (Aside0.mk (hbox)) (And.intro (ag_ HB gb143) (ag_ HB gb143))); clear HB; obtain ⟨HB, BK143, GW143, GE143⟩ := n_; clear hb hbox hg; obtain ⟨hcz4_0, hfz4_0, hcz4_1, hfz4_1, hcz4_2, hfz4_2, hcz4_3, hfz4_3, hcz4_4, hfz4_4⟩ := bc5_ BK143.out))
  refine bodyPost_ret (b7z rfl _ _ gb143 79 #[.string (⟨#[106, 118]⟩ : ByteArray), .int .i64 8, .int .u32 285, .int .u8 106, .int .i64 4] (0, 0) _ rfl (by (with_reducible repeat (first | refine aez ?_ _ | refine agz ?_ | refine adz ?_ _)); refine avz (cs := #[.string (⟨#[106, 118]⟩ : ByteArray), .int .i64 8, .int .u32 285, .int .u8 106, .int .i64 0]) ?_ 4 _ rfl; (with_reducible repeat (first | refine aez ?_ _ | refine agz ?_ | refine adz ?_ _)); refine avz (cs := #[.string (⟨#[106, 118]⟩ : ByteArray), .int .i64 8, .int .u32 285, .int .u8 0, .int .i64 0]) ?_ 3 _ rfl; (with_reducible repeat (first | refine aez ?_ _ | refine agz ?_ | refine adz ?_ _)); refine avz (cs := #[.string (⟨#[106, 118]⟩ : ByteArray), .int .i64 8, .int .u32 0, .int .u8 0, .int .i64 0]) ?_ 2 _ rfl; (with_reducible repeat (first | refine aez ?_ _ | refine agz ?_ | refine adz ?_ _)); refine avz (cs := #[.string (⟨#[106, 118]⟩ : ByteArray), .int .i64 0, .int .u32 0, .int .u8 0, .int .i64 0]) ?_ 1 _ rfl; (with_reducible repeat (first | refine aez ?_ _ | refine agz ?_ | refine adz ?_ _)); refine avz (cs := #[.string (⟨#[]⟩ : ByteArray), .int .i64 0, .int .u32 0, .int .u8 0, .int .i64 0]) ?_ 0 _ rfl; (with_reducible repeat (first | refine aez ?_ _ | refine agz ?_ | refine adz ?_ _)); exact BK143.out) Tryz.underlying79 rfl kr_) rfl ?_
  exact ⟨er_, bl_⟩
 ·rw [if_neg c2] at H
  have c2b0 : (a0 == 1) = false := beq_eq_false_iff_ne.mpr c2
  have c2b1 : (a0 != 1) = true := bne_iff_ne.mpr c2
  by_cases c5 : a0 = 2
  ·rw [if_pos c5] at H
   have c5b0 : (a0 == 2) = true := beq_iff_eq.mpr c5
   have c5b1 : (a0 != 2) = false := bne_eq_false_iff_eq.mpr c5
   clear c5
   simp only [Option.some.injEq, Prod.mk.injEq] at H
   obtain ⟨rfl, rfl, rfl, rfl, rfl, rfl⟩ := H
   go_enter Tryz.func50, Tryz.ntmps50
   go_wp2_with (first | ((with_reducible refine axz (N := 2) rfl ?_); refine a3z ?hg (N := 2) ?hd (cs := #[.string (⟨#[]⟩ : ByteArray), .int .i64 0, .int .u32 0, .int .u8 0, .int .i64 0]) (t := 79) ?hr ?_; (case hd => rfl); (case hg => rfl); (case hr => first | (go_simp; done) | (go_simp; rfl)); intro gb143 hg w6 hbox hb; have n_ := And.intro (hs_ HB hb) (And.intro (Aside0.mk (hbox)) (And.intro (ag_ HB gb143) (ag_ HB gb143))); clear HB; obtain ⟨HB, BK143, GW143, GE143⟩ := n_; clear hb hbox hg; obtain ⟨hcz7_0, hfz7_0, hcz7_1, hfz7_1, hcz7_2, hfz7_2, hcz7_3, hfz7_3, hcz7_4, hfz7_4⟩ := bc5_ BK143.out))
   refine bodyPost_ret (b7z rfl _ _ gb143 79 #[.string (⟨#[106, 99]⟩ : ByteArray), .int .i64 16, .int .u32 69643, .int .u8 106, .int .i64 4] (0, 0) _ rfl (by (with_reducible repeat (first | refine aez ?_ _ | refine agz ?_ | refine adz ?_ _)); refine avz (cs := #[.string (⟨#[106, 99]⟩ : ByteArray), .int .i64 16, .int .u32 69643, .int .u8 106, .int .i64 0]) ?_ 4 _ rfl; (with_reducible repeat (first | refine aez ?_ _ | refine agz ?_ | refine adz ?_ _)); refine avz (cs := #[.string (⟨#[106, 99]⟩ : ByteArray), .int .i64 16, .int .u32 69643, .int .u8 0, .int .i64 0]) ?_ 3 _ rfl; (with_reducible repeat (first | refine aez ?_ _ | refine agz ?_ | refine adz ?_ _)); refine avz (cs := #[.string (⟨#[106, 99]⟩ : ByteArray), .int .i64 16, .int .u32 0, .int .u8 0, .int .i64 0]) ?_ 2 _ rfl; (with_reducible repeat (first | refine aez ?_ _ | refine agz ?_ | refine adz ?_ _)); refine avz (cs := #[.string (⟨#[106, 99]⟩ : ByteArray), .int .i64 0, .int .u32 0, .int .u8 0, .int .i64 0]) ?_ 1 _ rfl; (with_reducible repeat (first | refine aez ?_ _ | refine agz ?_ | refine adz ?_ _)); refine avz (cs := #[.string (⟨#[]⟩ : ByteArray), .int .i64 0, .int .u32 0, .int .u8 0, .int .i64 0]) ?_ 0 _ rfl; (with_reducible repeat (first | refine aez ?_ _ | refine agz ?_ | refine adz ?_ _)); exact BK143.out) Tryz.underlying79 rfl kr_) rfl ?_
   exact ⟨er_, bl_⟩
  ·rw [if_neg c5] at H
   have c5b0 : (a0 == 2) = false := beq_eq_false_iff_ne.mpr c5
   have c5b1 : (a0 != 2) = true := bne_iff_ne.mpr c5
   by_cases c8 : a0 = 3
   ·rw [if_pos c8] at H
    have c8b0 : (a0 == 3) = true := beq_iff_eq.mpr c8
    have c8b1 : (a0 != 3) = false := bne_eq_false_iff_eq.mpr c8
    clear c8
    simp only [Option.some.injEq, Prod.mk.injEq] at H
    obtain ⟨rfl, rfl, rfl, rfl, rfl, rfl⟩ := H
    go_enter Tryz.func50, Tryz.ntmps50
    go_wp2_with (first | ((with_reducible refine axz (N := 2) rfl ?_); refine a3z ?hg (N := 2) ?hd (cs := #[.string (⟨#[]⟩ : ByteArray), .int .i64 0, .int .u32 0, .int .u8 0, .int .i64 0]) (t := 79) ?hr ?_; (case hd => rfl); (case hg => rfl); (case hr => first | (go_simp; done) | (go_simp; rfl)); intro gb143 hg w9 hbox hb; have n_ := And.intro (hs_ HB hb) (And.intro (Aside0.mk (hbox)) (And.intro (ag_ HB gb143) (ag_ HB gb143))); clear HB; obtain ⟨HB, BK143, GW143, GE143⟩ := n_; clear hb hbox hg; obtain ⟨hcz10_0, hfz10_0, hcz10_1, hfz10_1, hcz10_2, hfz10_2, hcz10_3, hfz10_3, hcz10_4, hfz10_4⟩ := bc5_ BK143.out))
    refine bodyPost_ret (b7z rfl _ _ gb143 79 #[.string (⟨#[105, 114]⟩ : ByteArray), .int .i64 8, .int .u32 285, .int .u8 105, .int .i64 3] (0, 0) _ rfl (by (with_reducible repeat (first | refine aez ?_ _ | refine agz ?_ | refine adz ?_ _)); refine avz (cs := #[.string (⟨#[105, 114]⟩ : ByteArray), .int .i64 8, .int .u32 285, .int .u8 105, .int .i64 0]) ?_ 4 _ rfl; (with_reducible repeat (first | refine aez ?_ _ | refine agz ?_ | refine adz ?_ _)); refine avz (cs := #[.string (⟨#[105, 114]⟩ : ByteArray), .int .i64 8, .int .u32 285, .int .u8 0, .int .i64 0]) ?_ 3 _ rfl; (with_reducible repeat (first | refine aez ?_ _ | refine agz ?_ | refine adz ?_ _)); refine avz (cs := #[.string (⟨#[105, 114]⟩ : ByteArray), .int .i64 8, .int .u32 0, .int .u8 0, .int .i64 0]) ?_ 2 _ rfl; (with_reducible repeat (first | refine aez ?_ _ | refine agz ?_ | refine adz ?_ _)); refine avz (cs := #[.string (⟨#[105, 114]⟩ : ByteArray), .int .i64 0, .int .u32 0, .int .u8 0, .int .i64 0]) ?_ 1 _ rfl; (with_reducible repeat (first | refine aez ?_ _ | refine agz ?_ | refine adz ?_ _)); refine avz (cs := #[.string (⟨#[]⟩ : ByteArray), .int .i64 0, .int .u32 0, .int .u8 0, .int .i64 0]) ?_ 0 _ rfl; (with_reducible repeat (first | refine aez ?_ _ | refine agz ?_ | refine adz ?_ _)); exact BK143.out) Tryz.underlying79 rfl kr_) rfl ?_
    exact ⟨er_, bl_⟩
   ·rw [if_neg c8] at H
    have c8b0 : (a0 == 3) = false := beq_eq_false_iff_ne.mpr c8
    have c8b1 : (a0 != 3) = true := bne_iff_ne.mpr c8
    by_cases c11 : a0 = 4
    ·rw [if_pos c11] at H
     have c11b0 : (a0 == 4) = true := beq_iff_eq.mpr c11
     have c11b1 : (a0 != 4) = false := bne_eq_false_iff_eq.mpr c11
     clear c11
     simp only [Option.some.injEq, Prod.mk.injEq] at H
     obtain ⟨rfl, rfl, rfl, rfl, rfl, rfl⟩ := H
     go_enter Tryz.func50, Tryz.ntmps50
     go_wp2_with (first | ((with_reducible refine axz (N := 2) rfl ?_); refine a3z ?hg (N := 2) ?hd (cs := #[.string (⟨#[]⟩ : ByteArray), .int .i64 0, .int .u32 0, .int .u8 0, .int .i64 0]) (t := 79) ?hr ?_; (case hd => rfl); (case hg => rfl); (case hr => first | (go_simp; done) | (go_simp; rfl)); intro gb143 hg w12 hbox hb; have n_ := And.intro (hs_ HB hb) (And.intro (Aside0.mk (hbox)) (And.intro (ag_ HB gb143) (ag_ HB gb143))); clear HB; obtain ⟨HB, BK143, GW143, GE143⟩ := n_; clear hb hbox hg; obtain ⟨hcz13_0, hfz13_0, hcz13_1, hfz13_1, hcz13_2, hfz13_2, hcz13_3, hfz13_3, hcz13_4, hfz13_4⟩ := bc5_ BK143.out))
     refine bodyPost_ret (b7z rfl _ _ gb143 79 #[.string (⟨#[105, 99]⟩ : ByteArray), .int .i64 8, .int .u32 285, .int .u8 105, .int .i64 4] (0, 0) _ rfl (by (with_reducible repeat (first | refine aez ?_ _ | refine agz ?_ | refine adz ?_ _)); refine avz (cs := #[.string (⟨#[105, 99]⟩ : ByteArray), .int .i64 8, .int .u32 285, .int .u8 105, .int .i64 0]) ?_ 4 _ rfl; (with_reducible repeat (first | refine aez ?_ _ | refine agz ?_ | refine adz ?_ _)); refine avz (cs := #[.string (⟨#[105, 99]⟩ : ByteArray), .int .i64 8, .int .u32 285, .int .u8 0, .int .i64 0]) ?_ 3 _ rfl; (with_reducible repeat (first | refine aez ?_ _ | refine agz ?_ | refine adz ?_ _)); refine avz (cs := #[.string (⟨#[105, 99]⟩ : ByteArray), .int .i64 8, .int .u32 0, .int .u8 0, .int .i64 0]) ?_ 2 _ rfl; (with_reducible repeat (first | refine aez ?_ _ | refine agz ?_ | refine adz ?_ _)); refine avz (cs := #[.string (⟨#[105, 99]⟩ : ByteArray), .int .i64 0, .int .u32 0, .int .u8 0, .int .i64 0]) ?_ 1 _ rfl; (with_reducible repeat (first | refine aez ?_ _ | refine agz ?_ | refine adz ?_ _)); refine avz (cs := #[.string (⟨#[]⟩ : ByteArray), .int .i64 0, .int .u32 0, .int .u8 0, .int .i64 0]) ?_ 0 _ rfl; (with_reducible repeat (first | refine aez ?_ _ | refine agz ?_ | refine adz ?_ _)); exact BK143.out) Tryz.underlying79 rfl kr_) rfl ?_
     exact ⟨er_, bl_⟩
    ·rw [if_neg c11] at H
     have c11b0 : (a0 == 4) = false := beq_eq_false_iff_ne.mpr c11
     have c11b1 : (a0 != 4) = true := bne_iff_ne.mpr c11
     by_cases c14 : a0 = 5
     ·rw [if_pos c14] at H
      have c14b0 : (a0 == 5) = true := beq_iff_eq.mpr c14
      have c14b1 : (a0 != 5) = false := bne_eq_false_iff_eq.mpr c14
      clear c14
      simp only [Option.some.injEq, Prod.mk.injEq] at H
      obtain ⟨rfl, rfl, rfl, rfl, rfl, rfl⟩ := H
      go_enter Tryz.func50, Tryz.ntmps50
      go_wp2_with (first | ((with_reducible refine axz (N := 2) rfl ?_); refine a3z ?hg (N := 2) ?hd (cs := #[.string (⟨#[]⟩ : ByteArray), .int .i64 0, .int .u32 0, .int .u8 0, .int .i64 0]) (t := 79) ?hr ?_; (case hd => rfl); (case hg => rfl); (case hr => first | (go_simp; done) | (go_simp; rfl)); intro gb143 hg w15 hbox hb; have n_ := And.intro (hs_ HB hb) (And.intro (Aside0.mk (hbox)) (And.intro (ag_ HB gb143) (ag_ HB gb143))); clear HB; obtain ⟨HB, BK143, GW143, GE143⟩ := n_; clear hb hbox hg; obtain ⟨hcz16_0, hfz16_0, hcz16_1, hfz16_1, hcz16_2, hfz16_2, hcz16_3, hfz16_3, hcz16_4, hfz16_4⟩ := bc5_ BK143.out))
      refine bodyPost_ret (b7z rfl _ _ gb143 79 #[.string (⟨#[98, 98]⟩ : ByteArray), .int .i64 8, .int .u32 285, .int .u8 98, .int .i64 4] (0, 0) _ rfl (by (with_reducible repeat (first | refine aez ?_ _ | refine agz ?_ | refine adz ?_ _)); refine avz (cs := #[.string (⟨#[98, 98]⟩ : ByteArray), .int .i64 8, .int .u32 285, .int .u8 98, .int .i64 0]) ?_ 4 _ rfl; (with_reducible repeat (first | refine aez ?_ _ | refine agz ?_ | refine adz ?_ _)); refine avz (cs := #[.string (⟨#[98, 98]⟩ : ByteArray), .int .i64 8, .int .u32 285, .int .u8 0, .int .i64 0]) ?_ 3 _ rfl; (with_reducible repeat (first | refine aez ?_ _ | refine agz ?_ | refine adz ?_ _)); refine avz (cs := #[.string (⟨#[98, 98]⟩ : ByteArray), .int .i64 8, .int .u32 0, .int .u8 0, .int .i64 0]) ?_ 2 _ rfl; (with_reducible repeat (first | refine aez ?_ _ | refine agz ?_ | refine adz ?_ _)); refine avz (cs := #[.string (⟨#[98, 98]⟩ : ByteArray), .int .i64 0, .int .u32 0, .int .u8 0, .int .i64 0]) ?_ 1 _ rfl; (with_reducible repeat (first | refine aez ?_ _ | refine agz ?_ | refine adz ?_ _)); refine avz (cs := #[.string (⟨#[]⟩ : ByteArray), .int .i64 0, .int .u32 0, .int .u8 0, .int .i64 0]) ?_ 0 _ rfl; (with_reducible repeat (first | refine aez ?_ _ | refine agz ?_ | refine adz ?_ _)); exact BK143.out) Tryz.underlying79 rfl kr_) rfl ?_
      exact ⟨er_, bl_⟩
     ·rw [if_neg c14] at H
      have c14b0 : (a0 == 5) = false := beq_eq_false_iff_ne.mpr c14
      have c14b1 : (a0 != 5) = true := bne_iff_ne.mpr c14
      by_cases c17 : a0 = 6
      ·rw [if_pos c17] at H
       have c17b0 : (a0 == 6) = true := beq_iff_eq.mpr c17
       have c17b1 : (a0 != 6) = false := bne_eq_false_iff_eq.mpr c17
       clear c17
       simp only [Option.some.injEq, Prod.mk.injEq] at H
       obtain ⟨rfl, rfl, rfl, rfl, rfl, rfl⟩ := H
       go_enter Tryz.func50, Tryz.ntmps50
       go_wp2_with (first | ((with_reducible refine axz (N := 2) rfl ?_); refine a3z ?hg (N := 2) ?hd (cs := #[.string (⟨#[]⟩ : ByteArray), .int .i64 0, .int .u32 0, .int .u8 0, .int .i64 0]) (t := 79) ?hr ?_; (case hd => rfl); (case hg => rfl); (case hr => first | (go_simp; done) | (go_simp; rfl)); intro gb143 hg w18 hbox hb; have n_ := And.intro (hs_ HB hb) (And.intro (Aside0.mk (hbox)) (And.intro (ag_ HB gb143) (ag_ HB gb143))); clear HB; obtain ⟨HB, BK143, GW143, GE143⟩ := n_; clear hb hbox hg; obtain ⟨hcz19_0, hfz19_0, hcz19_1, hfz19_1, hcz19_2, hfz19_2, hcz19_3, hfz19_3, hcz19_4, hfz19_4⟩ := bc5_ BK143.out))
       refine bodyPost_ret (b7z rfl _ _ gb143 79 #[.string (⟨#[107, 112]⟩ : ByteArray), .int .i64 8, .int .u32 285, .int .u8 112, .int .i64 4] (0, 0) _ rfl (by (with_reducible repeat (first | refine aez ?_ _ | refine agz ?_ | refine adz ?_ _)); refine avz (cs := #[.string (⟨#[107, 112]⟩ : ByteArray), .int .i64 8, .int .u32 285, .int .u8 112, .int .i64 0]) ?_ 4 _ rfl; (with_reducible repeat (first | refine aez ?_ _ | refine agz ?_ | refine adz ?_ _)); refine avz (cs := #[.string (⟨#[107, 112]⟩ : ByteArray), .int .i64 8, .int .u32 285, .int .u8 0, .int .i64 0]) ?_ 3 _ rfl; (with_reducible repeat (first | refine aez ?_ _ | refine agz ?_ | refine adz ?_ _)); refine avz (cs := #[.string (⟨#[107, 112]⟩ : ByteArray), .int .i64 8, .int .u32 0, .int .u8 0, .int .i64 0]) ?_ 2 _ rfl; (with_reducible repeat (first | refine aez ?_ _ | refine agz ?_ | refine adz ?_ _)); refine avz (cs := #[.string (⟨#[107, 112]⟩ : ByteArray), .int .i64 0, .int .u32 0, .int .u8 0, .int .i64 0]) ?_ 1 _ rfl; (with_reducible repeat (first | refine aez ?_ _ | refine agz ?_ | refine adz ?_ _)); refine avz (cs := #[.string (⟨#[]⟩ : ByteArray), .int .i64 0, .int .u32 0, .int .u8 0, .int .i64 0]) ?_ 0 _ rfl; (with_reducible repeat (first | refine aez ?_ _ | refine agz ?_ | refine adz ?_ _)); exact BK143.out) Tryz.underlying79 rfl kr_) rfl ?_
       exact ⟨er_, bl_⟩
      ·rw [if_neg c17] at H
       have c17b0 : (a0 == 6) = false := beq_eq_false_iff_ne.mpr c17
       have c17b1 : (a0 != 6) = true := bne_iff_ne.mpr c17
       simp only [Option.some.injEq, Prod.mk.injEq] at H
       obtain ⟨rfl, rfl, rfl, rfl, rfl, rfl⟩ := H
       go_enter Tryz.func50, Tryz.ntmps50
       go_wp2_with (first | ((with_reducible refine axz (N := 2) rfl ?_); refine a3z ?hg (N := 2) ?hd (cs := #[.string (⟨#[]⟩ : ByteArray), .int .i64 0, .int .u32 0, .int .u8 0, .int .i64 0]) (t := 79) ?hr ?_; (case hd => rfl); (case hg => rfl); (case hr => first | (go_simp; done) | (go_simp; rfl)); intro gb143 hg w20 hbox hb; have n_ := And.intro (hs_ HB hb) (And.intro (Aside0.mk (hbox)) (And.intro (ag_ HB gb143) (ag_ HB gb143))); clear HB; obtain ⟨HB, BK143, GW143, GE143⟩ := n_; clear hb hbox hg; obtain ⟨hcz21_0, hfz21_0, hcz21_1, hfz21_1, hcz21_2, hfz21_2, hcz21_3, hfz21_3, hcz21_4, hfz21_4⟩ := bc5_ BK143.out))
       refine bodyPost_ret (b7z rfl _ _ gb143 79 #[.string (⟨#[]⟩ : ByteArray), .int .i64 0, .int .u32 0, .int .u8 0, .int .i64 0] (0, 0) _ rfl (by (with_reducible repeat (first | refine aez ?_ _ | refine agz ?_ | refine adz ?_ _)); refine avz (cs := #[.string (⟨#[]⟩ : ByteArray), .int .i64 0, .int .u32 0, .int .u8 0, .int .i64 0]) ?_ 4 _ rfl; (with_reducible repeat (first | refine aez ?_ _ | refine agz ?_ | refine adz ?_ _)); refine avz (cs := #[.string (⟨#[]⟩ : ByteArray), .int .i64 0, .int .u32 0, .int .u8 0, .int .i64 0]) ?_ 3 _ rfl; (with_reducible repeat (first | refine aez ?_ _ | refine agz ?_ | refine adz ?_ _)); refine avz (cs := #[.string (⟨#[]⟩ : ByteArray), .int .i64 0, .int .u32 0, .int .u8 0, .int .i64 0]) ?_ 2 _ rfl; (with_reducible repeat (first | refine aez ?_ _ | refine agz ?_ | refine adz ?_ _)); refine avz (cs := #[.string (⟨#[]⟩ : ByteArray), .int .i64 0, .int .u32 0, .int .u8 0, .int .i64 0]) ?_ 1 _ rfl; (with_reducible repeat (first | refine aez ?_ _ | refine agz ?_ | refine adz ?_ _)); refine avz (cs := #[.string (⟨#[]⟩ : ByteArray), .int .i64 0, .int .u32 0, .int .u8 0, .int .i64 0]) ?_ 0 _ rfl; (with_reducible repeat (first | refine aez ?_ _ | refine agz ?_ | refine adz ?_ _)); exact BK143.out) Tryz.underlying79 rfl kr_) rfl ?_
       exact ⟨er_, bl_⟩
def boz.f (a0_0 : Int) (a0_1 : Int) (a0_2 : Int) : Option (Int × Int × Int) := (bBz.f (wrap64 (1 + (Int.tmod (wrap64 (a0_0)) 6)))).bind fun bt147 => (if bt147.2.2.2.2.1 = 0 then (none) else (some (wrap64 (1 + (Int.tmod (wrap64 (a0_0)) 6)), wrap64 (1 + (Int.tmod (wrap64 (a0_1)) 8)), wrap64 (1 + (Int.tmod (wrap64 (a0_2)) bt147.2.2.2.2.1)))))
set_option maxHeartbeats 8000000 in
set_option maxRecDepth 100000 in
theorem boz.calls (a0_0 : Int) (a0_1 : Int) (a0_2 : Int) (r1 : Int) (r2 : Int) (r3 : Int) (w : World) (h : boz.f a0_0 a0_1 a0_2 = some (r1, r2, r3)) :
  Calls Tryz.prog 31 #[.agg #[.int .u8 a0_0, .int .u8 a0_1, .int .u8 a0_2]] w fun e w' => e = .returned (.agg #[.int .i64 r1, .int .i64 r2, .int .i64 r3]) ∧ Below w.heap.size w w' := by
 have hu42 := Tryz.underlying42
 have hu23 := Tryz.underlying23
 have hu79 := Tryz.underlying79
 have HB := Aside0.mk (Below.refl w.heap.size w)
 have H := h
 clear h
 unfold boz.f at H
 obtain ⟨⟨t147, t148, t149, t150, t151, t152⟩, A2, H⟩ := ob_ H
 (try dsimp only at H)
 by_cases c3 : t151 = 0
 ·rw [if_pos c3] at H
  exact absurd H (by simp)
 ·rw [if_neg c3] at H
  have c3b0 : (t151 == 0) = false := beq_eq_false_iff_ne.mpr c3
  have c3b1 : (t151 != 0) = true := bne_iff_ne.mpr c3
  simp only [Option.some.injEq, Prod.mk.injEq] at H
  obtain ⟨rfl, rfl, rfl⟩ := H
  go_enter Tryz.func31, Tryz.ntmps31
  go_wp2_with (first | ((with_reducible refine axz (N := 1) rfl ?_); refine bx_ 1 #[.int .u8 a0_0, .int .u8 a0_1, .int .u8 a0_2] 42 ?_; intro gb144 hg w4 hbox hb; have n_ := And.intro (hs_ HB hb) (And.intro (Aside0.mk (hbox)) (And.intro (ag_ HB gb144) (ag_ HB gb144))); clear HB; obtain ⟨HB, BK144, GW144, GE144⟩ := n_; clear hb hbox hg) | ((with_reducible refine axz (N := 2) rfl ?_); refine bx_ 2 #[.int .i64 0, .int .i64 0, .int .i64 0] 23 ?_; intro gb145 hg w5 hbox hb; have n_ := And.intro (bb_ BK144 hb) (And.intro (hs_ HB hb) (And.intro (Aside0.mk (hbox)) (And.intro (ag_ HB gb145) (And.intro (ag_ HB gb145) (And.intro (n1_ BK144 gb145) (n2_ BK144 gb145)))))); clear BK144 HB; obtain ⟨BK144, HB, BK145, GW145, GE145, NB144_145, NB145_144⟩ := n_; clear hb hbox hg; have hnb6 := NB144_145.out; have hnc6 := NB145_144.out; obtain ⟨hcz7_0, hfz7_0, hcz7_1, hfz7_1, hcz7_2, hfz7_2⟩ := bc3_ BK144.out) | ((with_reducible refine axz (N := 3) rfl ?_); refine bx_ 3 #[.int .i64 0, .int .i64 0, .int .i64 0] 23 ?_; intro gb146 hg w8 hbox hb; have n_ := And.intro (bb_ BK144 hb) (And.intro (bb_ BK145 hb) (And.intro (hs_ HB hb) (And.intro (Aside0.mk (hbox)) (And.intro (ag_ HB gb146) (And.intro (ag_ HB gb146) (And.intro (n1_ BK144 gb146) (And.intro (n2_ BK144 gb146) (And.intro (n1_ BK145 gb146) (n2_ BK145 gb146))))))))); clear BK144 BK145 HB; obtain ⟨BK144, BK145, HB, BK146, GW146, GE146, NB144_146, NB146_144, NB145_146, NB146_145⟩ := n_; clear hb hbox hg; have hnb9 := NB146_144.out; have hnc9 := NB144_146.out; have hnb10 := NB146_145.out; have hnc10 := NB145_146.out; obtain ⟨hcz11_0, hfz11_0, hcz11_1, hfz11_1, hcz11_2, hfz11_2⟩ := bc3_ BK146.out) | ((with_reducible refine ajz (f := 50) rfl ?_); refine gl_ (some 20) Tryz.func50 #[.int .i64 (wrap64 (1 + (Int.tmod (wrap64 (a0_0)) 6)))] ?_; (with_reducible refine (bBz.calls (wrap64 (1 + (Int.tmod (wrap64 (a0_0)) 6))) t147 t148 t149 t150 t151 t152 _ A2.out).mono ?_); rintro e w12 ⟨rfl, hb⟩; refine ⟨_, rfl, ?_⟩; have n_ := And.intro (Aside0.mk (afz (g := gb144) (o := .cells #[.int .u8 a0_0, .int .u8 a0_1, .int .u8 a0_2] 42 (0, 0)) (by (with_reducible repeat (first | refine aez ?_ _ | refine agz ?_ | refine adz ?_ _)); refine awz ?_ NB144_146.out _; (with_reducible repeat (first | refine aez ?_ _ | refine agz ?_ | refine adz ?_ _)); refine awz ?_ NB144_146.out _; (with_reducible repeat (first | refine aez ?_ _ | refine agz ?_ | refine adz ?_ _)); refine awz ?_ NB144_146.out _; (with_reducible repeat (first | refine aez ?_ _ | refine agz ?_ | refine adz ?_ _)); exact BK144.out) hb)) (And.intro (Aside0.mk (afz (g := gb145) (o := .cells #[.int .i64 0, .int .i64 0, .int .i64 0] 23 (0, 0)) (by (with_reducible repeat (first | refine aez ?_ _ | refine agz ?_ | refine adz ?_ _)); refine awz ?_ NB145_146.out _; (with_reducible repeat (first | refine aez ?_ _ | refine agz ?_ | refine adz ?_ _)); refine awz ?_ NB145_146.out _; (with_reducible repeat (first | refine aez ?_ _ | refine agz ?_ | refine adz ?_ _)); refine awz ?_ NB145_146.out _; (with_reducible repeat (first | refine aez ?_ _ | refine agz ?_ | refine adz ?_ _)); exact BK145.out) hb)) (And.intro (Aside0.mk (afz (g := gb146) (o := .cells #[.int .i64 (wrap64 (1 + (Int.tmod (wrap64 (a0_0)) 6))), .int .i64 (wrap64 (1 + (Int.tmod (wrap64 (a0_1)) 8))), .int .i64 0] 23 (0, 0)) (by (with_reducible repeat (first | refine aez ?_ _ | refine agz ?_ | refine adz ?_ _)); refine avz (cs := #[.int .i64 (wrap64 (1 + (Int.tmod (wrap64 (a0_0)) 6))), .int .i64 (wrap64 (1 + (Int.tmod (wrap64 (a0_1)) 8))), .int .i64 0]) ?_ 2 _ rfl; (with_reducible repeat (first | refine aez ?_ _ | refine agz ?_ | refine adz ?_ _)); refine avz (cs := #[.int .i64 (wrap64 (1 + (Int.tmod (wrap64 (a0_0)) 6))), .int .i64 0, .int .i64 0]) ?_ 1 _ rfl; (with_reducible repeat (first | refine aez ?_ _ | refine agz ?_ | refine adz ?_ _)); refine avz (cs := #[.int .i64 0, .int .i64 0, .int .i64 0]) ?_ 0 _ rfl; (with_reducible repeat (first | refine aez ?_ _ | refine agz ?_ | refine adz ?_ _)); exact BK146.out) hb)) (hs_ HB hb))); clear BK144 BK145 BK146 HB; obtain ⟨BK144, BK145, BK146, HB⟩ := n_; (try clear hb)) | ((with_reducible refine axz (N := 4) rfl ?_); refine a3z ?hg (N := 4) ?hd (cs := #[.string (⟨#[]⟩ : ByteArray), .int .i64 0, .int .u32 0, .int .u8 0, .int .i64 0]) (t := 79) ?hr ?_; (case hd => rfl); (case hg => rfl); (case hr => first | (go_simp; done) | (go_simp; rfl)); intro gb153 hg w13 hbox hb; have n_ := And.intro (bb_ BK144 hb) (And.intro (bb_ BK145 hb) (And.intro (bb_ BK146 hb) (And.intro (hs_ HB hb) (And.intro (Aside0.mk (hbox)) (And.intro (ag_ HB gb153) (And.intro (ag_ HB gb153) (And.intro (n1_ BK144 gb153) (And.intro (n2_ BK144 gb153) (And.intro (n1_ BK145 gb153) (And.intro (n2_ BK145 gb153) (And.intro (n1_ BK146 gb153) (n2_ BK146 gb153)))))))))))); clear BK144 BK145 BK146 HB; obtain ⟨BK144, BK145, BK146, HB, BK153, GW153, GE153, NB144_153, NB153_144, NB145_153, NB153_145, NB146_153, NB153_146⟩ := n_; clear hb hbox hg; have hnb14 := NB153_144.out; have hnc14 := NB144_153.out; have hnb15 := NB153_145.out; have hnc15 := NB145_153.out; have hnb16 := NB153_146.out; have hnc16 := NB146_153.out; obtain ⟨hcz17_0, hfz17_0, hcz17_1, hfz17_1, hcz17_2, hfz17_2, hcz17_3, hfz17_3, hcz17_4, hfz17_4⟩ := bc5_ BK153.out; obtain ⟨hcz18_0, hfz18_0, hcz18_1, hfz18_1, hcz18_2, hfz18_2⟩ := bc3_ BK144.out; obtain ⟨hcz19_0, hfz19_0, hcz19_1, hfz19_1, hcz19_2, hfz19_2⟩ := bc3_ BK146.out; obtain ⟨hcz20_0, hfz20_0, hcz20_1, hfz20_1, hcz20_2, hfz20_2⟩ := bc3_ BK145.out))
  refine bodyPost_ret (results_cell_row rfl _ _ gb145 23 #[.int .i64 (wrap64 (1 + (Int.tmod (wrap64 (a0_0)) 6))), .int .i64 (wrap64 (1 + (Int.tmod (wrap64 (a0_1)) 8))), .int .i64 (wrap64 (1 + (Int.tmod (wrap64 (a0_2)) t151)))] (0, 0) _ rfl (by (with_reducible repeat (first | refine aez ?_ _ | refine agz ?_ | refine adz ?_ _)); refine avz (cs := #[.int .i64 (wrap64 (1 + (Int.tmod (wrap64 (a0_0)) 6))), .int .i64 (wrap64 (1 + (Int.tmod (wrap64 (a0_1)) 8))), .int .i64 0]) ?_ 2 _ rfl; (with_reducible repeat (first | refine aez ?_ _ | refine agz ?_ | refine adz ?_ _)); refine avz (cs := #[.int .i64 (wrap64 (1 + (Int.tmod (wrap64 (a0_0)) 6))), .int .i64 0, .int .i64 0]) ?_ 1 _ rfl; (with_reducible repeat (first | refine aez ?_ _ | refine agz ?_ | refine adz ?_ _)); refine avz (cs := #[.int .i64 0, .int .i64 0, .int .i64 0]) ?_ 0 _ rfl; (with_reducible repeat (first | refine aez ?_ _ | refine agz ?_ | refine adz ?_ _)); refine awz ?_ NB145_146.out _; (with_reducible repeat (first | refine aez ?_ _ | refine agz ?_ | refine adz ?_ _)); refine awz ?_ NB145_153.out _; (with_reducible repeat (first | refine aez ?_ _ | refine agz ?_ | refine adz ?_ _)); refine awz ?_ NB145_153.out _; (with_reducible repeat (first | refine aez ?_ _ | refine agz ?_ | refine adz ?_ _)); refine awz ?_ NB145_153.out _; (with_reducible repeat (first | refine aez ?_ _ | refine agz ?_ | refine adz ?_ _)); refine awz ?_ NB145_153.out _; (with_reducible repeat (first | refine aez ?_ _ | refine agz ?_ | refine adz ?_ _)); refine awz ?_ NB145_153.out _; (with_reducible repeat (first | refine aez ?_ _ | refine agz ?_ | refine adz ?_ _)); exact BK145.out) Tryz.underlying23 rfl kr_) rfl ?_
  exact ⟨er_, bl_⟩
theorem C_numsF {k : IntKind} {w : World} {g : Nat} {t : TypeId} {xs : List Int} {fr : Nat × Nat} (h : w.heap[g]? = some (.cells (nums k xs).toArray t fr)) (hl : xs.length ≤ 9223372036854775807) : Kd.C (Kd.int k) w (some ⟨g, 0, none⟩) xs.length xs := by
 refine ⟨rfl, hl, fun _ => ⟨_, rfl, fun j p hp => ⟨[.int k p], rfl, rfl, fun i u hu => ?_⟩⟩⟩
 obtain ⟨hj, rfl⟩ := List.getElem?_eq_some_iff.1 hp
 cases i with
 | succ i => simp at hu
 | zero =>
  obtain rfl : Value.int k xs[j] = u := by simpa using hu
  have e : (⟨g, 0, none⟩ : Addr).add (j * (Kd.int k).sz + 0) = ⟨g, j, none⟩ := by
   show (⟨g, 0, none⟩ : Addr).add (j * 1 + 0) = _
   unfold Addr.add
   split <;> simp_all
  rw [e, cell_of_row w g j _ t fr h]
  simp [nums, hj]
def aYz.f (a0_0 : Int) (a0_1 : Int) (a0_2 : Int) (l1 : List (List Int)) : Option (Bool) := (ahz.f a0_0 a0_1 a0_2).bind fun t279 => (if t279 = true then (some ((l1.length : Int) == (wrap64 (a0_1 + a0_2)))) else (some false))
set_option maxHeartbeats 8000000 in
set_option maxRecDepth 100000 in
theorem aYz.calls (a0_0 : Int) (a0_1 : Int) (a0_2 : Int) (A1 : Option Addr) (c1 : Nat) (l1 : List (List Int)) (r : Bool) (w : World) (hr1 : Kd.C (Kd.slice 5 (Kd.int .u8)) w A1 l1.length l1) (hc1 : l1.length ≤ c1) (h : aYz.f a0_0 a0_1 a0_2 l1 = some r) :
  Calls Tryz.prog 57 #[.agg #[.int .i64 a0_0, .int .i64 a0_1, .int .i64 a0_2], .slice A1 l1.length c1] w fun e w' => e = .returned (.bool r) ∧ Below w.heap.size w w' := by
 have hu23 := Tryz.underlying23
 have HR1 := Aside0.mk hr1
 have HC1 := Aside0.mk hc1
 clear hr1 hc1
 have HB := Aside0.mk (Below.refl w.heap.size w)
 have H := h
 clear h
 unfold aYz.f at H
 obtain ⟨t279, A3, H⟩ := ob_ H
 (try dsimp only at H)
 by_cases c4 : t279 = true
 ·subst c4
  rw [if_pos rfl] at H
  obtain rfl := Option.some.inj H
  go_enter Tryz.func57, Tryz.ntmps57
  go_wp2_with (first | ((with_reducible refine axz (N := 2) rfl ?_); (try (refine bkz (by rfl) ?_; dsimp only)); refine bx_ 2 #[.int .i64 a0_0, .int .i64 a0_1, .int .i64 a0_2] 23 ?_; intro gb278 hg w5 hbox hb; have n_ := And.intro (hs_ HB hb) (And.intro (Aside0.mk (hbox)) (And.intro (ag_ HB gb278) (ag_ HB gb278))); clear HB; obtain ⟨HB, BK278, GW278, GE278⟩ := n_; clear hb hbox hg; obtain ⟨hcz6_0, hfz6_0, hcz6_1, hfz6_1, hcz6_2, hfz6_2⟩ := bc3_ BK278.out) | ((with_reducible refine ajz (f := 41) rfl ?_); refine gl_ (some 6) Tryz.func41 #[.agg #[.int .i64 a0_0, .int .i64 a0_1, .int .i64 a0_2]] ?_; (with_reducible refine (ahz.calls a0_0 a0_1 a0_2 true _ A3.out).mono ?_); rintro e w7 ⟨rfl, hb⟩; refine ⟨_, rfl, ?_⟩; have n_ := And.intro (bb_ BK278 hb) (hs_ HB hb); clear BK278 HB; obtain ⟨BK278, HB⟩ := n_; (try clear hb); obtain ⟨hcz8_0, hfz8_0, hcz8_1, hfz8_1, hcz8_2, hfz8_2⟩ := bc3_ BK278.out))
  go_ret
  exact ⟨er_, bl_⟩
 ·replace c4 := Bool.eq_false_iff.mpr c4
  subst c4
  rw [if_neg (show ¬ (false = true) by decide)] at H
  obtain rfl := Option.some.inj H
  go_enter Tryz.func57, Tryz.ntmps57
  go_wp2_with (first | ((with_reducible refine axz (N := 2) rfl ?_); (try (refine bkz (by rfl) ?_; dsimp only)); refine bx_ 2 #[.int .i64 a0_0, .int .i64 a0_1, .int .i64 a0_2] 23 ?_; intro gb278 hg w9 hbox hb; have n_ := And.intro (hs_ HB hb) (And.intro (Aside0.mk (hbox)) (And.intro (ag_ HB gb278) (ag_ HB gb278))); clear HB; obtain ⟨HB, BK278, GW278, GE278⟩ := n_; clear hb hbox hg; obtain ⟨hcz10_0, hfz10_0, hcz10_1, hfz10_1, hcz10_2, hfz10_2⟩ := bc3_ BK278.out) | ((with_reducible refine ajz (f := 41) rfl ?_); refine gl_ (some 6) Tryz.func41 #[.agg #[.int .i64 a0_0, .int .i64 a0_1, .int .i64 a0_2]] ?_; (with_reducible refine (ahz.calls a0_0 a0_1 a0_2 false _ A3.out).mono ?_); rintro e w11 ⟨rfl, hb⟩; refine ⟨_, rfl, ?_⟩; have n_ := And.intro (bb_ BK278 hb) (hs_ HB hb); clear BK278 HB; obtain ⟨BK278, HB⟩ := n_; (try clear hb)))
  go_ret
  exact ⟨er_, bl_⟩
def bvz.f (a0_0 : Int) (a0_1 : Int) (a0_2 : Int) (l1 : List Int) : Option (Bool) := (auz.f a0_0).bind fun bt281 => (if bt281.2.1 = 16 then (some (((l1.length : Int) % 2) == 0)) else (some true))
set_option maxHeartbeats 8000000 in
set_option maxRecDepth 100000 in
theorem bvz.calls (a0_0 : Int) (a0_1 : Int) (a0_2 : Int) (A1 : Option Addr) (c1 : Nat) (l1 : List Int) (r : Bool) (w : World) (hr1 : Kd.C (Kd.int .u8) w A1 l1.length l1) (hc1 : l1.length ≤ c1) (h : bvz.f a0_0 a0_1 a0_2 l1 = some r) :
  Calls Tryz.prog 59 #[.agg #[.int .i64 a0_0, .int .i64 a0_1, .int .i64 a0_2], .slice A1 l1.length c1] w fun e w' => e = .returned (.bool r) ∧ Below w.heap.size w w' := by
 have hu23 := Tryz.underlying23
 have hu109 := Tryz.underlying109
 have HR1 := Aside0.mk hr1
 have HC1 := Aside0.mk hc1
 clear hr1 hc1
 have HB := Aside0.mk (Below.refl w.heap.size w)
 have H := h
 clear h
 unfold bvz.f at H
 obtain ⟨⟨t281, t282, t283, t284, t285, t286⟩, A3, H⟩ := ob_ H
 (try dsimp only at H)
 by_cases c4 : t282 = 16
 ·rw [if_pos c4] at H
  have c4b0 : (t282 == 16) = true := beq_iff_eq.mpr c4
  have c4b1 : (t282 != 16) = false := bne_eq_false_iff_eq.mpr c4
  clear c4
  obtain rfl := Option.some.inj H
  go_enter Tryz.func59, Tryz.ntmps59
  go_wp2_with (first | ((with_reducible refine axz (N := 2) rfl ?_); (try (refine bkz (by rfl) ?_; dsimp only)); refine bx_ 2 #[.int .i64 a0_0, .int .i64 a0_1, .int .i64 a0_2] 23 ?_; intro gb280 hg w5 hbox hb; have n_ := And.intro (hs_ HB hb) (And.intro (Aside0.mk (hbox)) (And.intro (ag_ HB gb280) (ag_ HB gb280))); clear HB; obtain ⟨HB, BK280, GW280, GE280⟩ := n_; clear hb hbox hg; obtain ⟨hcz6_0, hfz6_0, hcz6_1, hfz6_1, hcz6_2, hfz6_2⟩ := bc3_ BK280.out) | ((with_reducible refine ajz (f := 75) rfl ?_); refine gl_ (some 10) Tryz.func75 #[.int .i64 a0_0] ?_; (with_reducible refine (auz.calls a0_0 t281 t282 t283 t284 t285 t286 _ A3.out).mono ?_); rintro e w7 ⟨rfl, hb⟩; refine ⟨_, rfl, ?_⟩; have n_ := And.intro (bb_ BK280 hb) (hs_ HB hb); clear BK280 HB; obtain ⟨BK280, HB⟩ := n_; (try clear hb)) | ((with_reducible refine axz (N := 5) rfl ?_); (try (refine bkz (by rfl) ?_; dsimp only)); refine a3z ?hg (N := 5) ?hd (cs := #[.string (⟨#[]⟩ : ByteArray), .int .i64 0, .int .u32 0, .int .u8 0, .int .i64 0]) (t := 109) ?hr ?_; (case hd => rfl); (case hg => rfl); (case hr => first | (go_simp; done) | (go_simp; rfl)); intro gb287 hg w8 hbox hb; have n_ := And.intro (bb_ BK280 hb) (And.intro (hs_ HB hb) (And.intro (Aside0.mk (hbox)) (And.intro (ag_ HB gb287) (And.intro (ag_ HB gb287) (And.intro (n1_ BK280 gb287) (n2_ BK280 gb287)))))); clear BK280 HB; obtain ⟨BK280, HB, BK287, GW287, GE287, NB280_287, NB287_280⟩ := n_; clear hb hbox hg; have hnb9 := NB287_280.out; have hnc9 := NB280_287.out; obtain ⟨hcz10_0, hfz10_0, hcz10_1, hfz10_1, hcz10_2, hfz10_2, hcz10_3, hfz10_3, hcz10_4, hfz10_4⟩ := bc5_ BK287.out))
  go_ret
  exact ⟨er_, bl_⟩
 ·rw [if_neg c4] at H
  have c4b0 : (t282 == 16) = false := beq_eq_false_iff_ne.mpr c4
  have c4b1 : (t282 != 16) = true := bne_iff_ne.mpr c4
  obtain rfl := Option.some.inj H
  go_enter Tryz.func59, Tryz.ntmps59
  go_wp2_with (first | ((with_reducible refine axz (N := 2) rfl ?_); (try (refine bkz (by rfl) ?_; dsimp only)); refine bx_ 2 #[.int .i64 a0_0, .int .i64 a0_1, .int .i64 a0_2] 23 ?_; intro gb280 hg w11 hbox hb; have n_ := And.intro (hs_ HB hb) (And.intro (Aside0.mk (hbox)) (And.intro (ag_ HB gb280) (ag_ HB gb280))); clear HB; obtain ⟨HB, BK280, GW280, GE280⟩ := n_; clear hb hbox hg; obtain ⟨hcz12_0, hfz12_0, hcz12_1, hfz12_1, hcz12_2, hfz12_2⟩ := bc3_ BK280.out) | ((with_reducible refine ajz (f := 75) rfl ?_); refine gl_ (some 10) Tryz.func75 #[.int .i64 a0_0] ?_; (with_reducible refine (auz.calls a0_0 t281 t282 t283 t284 t285 t286 _ A3.out).mono ?_); rintro e w13 ⟨rfl, hb⟩; refine ⟨_, rfl, ?_⟩; have n_ := And.intro (bb_ BK280 hb) (hs_ HB hb); clear BK280 HB; obtain ⟨BK280, HB⟩ := n_; (try clear hb)) | ((with_reducible refine axz (N := 5) rfl ?_); (try (refine bkz (by rfl) ?_; dsimp only)); refine a3z ?hg (N := 5) ?hd (cs := #[.string (⟨#[]⟩ : ByteArray), .int .i64 0, .int .u32 0, .int .u8 0, .int .i64 0]) (t := 109) ?hr ?_; (case hd => rfl); (case hg => rfl); (case hr => first | (go_simp; done) | (go_simp; rfl)); intro gb287 hg w14 hbox hb; have n_ := And.intro (bb_ BK280 hb) (And.intro (hs_ HB hb) (And.intro (Aside0.mk (hbox)) (And.intro (ag_ HB gb287) (And.intro (ag_ HB gb287) (And.intro (n1_ BK280 gb287) (n2_ BK280 gb287)))))); clear BK280 HB; obtain ⟨BK280, HB, BK287, GW287, GE287, NB280_287, NB287_280⟩ := n_; clear hb hbox hg; have hnb15 := NB287_280.out; have hnc15 := NB280_287.out; obtain ⟨hcz16_0, hfz16_0, hcz16_1, hfz16_1, hcz16_2, hfz16_2, hcz16_3, hfz16_3, hcz16_4, hfz16_4⟩ := bc5_ BK287.out))
  go_ret
  exact ⟨er_, bl_⟩
end Go.Proofs.YtpdakdcmahlghaaGreat.XCo
end
section
namespace Go.Proofs.YtpdakdcmahlghaaGreat.XCo
open Go.RowKit Go.Proofs.YtpdakdcmahlghaaGreatW.PrintWords Go.Proofs.YtpdakdcmahlghaaGreatW.PrintLast Go.Proofs.YtpdakdcmahlghaaGreatW.PrintMore
attribute [local go_sem] azz aAz aGz aHz asz atz aBz aCz
set_option linter.unusedVariables false
set_option linter.unusedSimpArgs false
attribute [local go_sem] Oper.semAt_some
def thereF : Nat → List (List Int) → List Bool → List (Nat × List Int)
 | i, b :: l, h :: hv => if h = true then (i, b) :: thereF (i + 1) l hv else thereF (i + 1) l hv
 | _, _, _ => []
abbrev ThX := Nat × Option Addr × Nat × List Int
def thK (x : ThX) : Nat × List Int := (x.1, x.2.2.2)
def HdT (T : List (Nat × List Int)) (ok : Nat → Prop) (m : Nat) (x : ThX) (W : World) : Prop := T[m]? = some (thK x) ∧ x.2.2.2.length ≤ x.2.2.1 ∧ Kd.F (Kd.int .u8) W ok x.2.1 x.2.2.2.length x.2.2.2
set_option maxRecDepth 100000 in
theorem there.calls (A A2 : Option Addr) (n c n2 c2 : Nat) (W : World) : Calls Tryz.prog 58 #[.slice A n c, .slice A2 n2 c2] W fun e w' => e = .returned (.func (.func 93) #[] #[.pointer (some ⟨W.heap.size, 0, none⟩), .pointer (some ⟨W.heap.size + 1, 0, none⟩)]) ∧ w' = (W.alloc (.cells #[.slice A n c] 24)).alloc (.cells #[.slice A2 n2 c2] 38) := by
 have hmf : ∀ (fn : Fn) (first cap : Array Value) (w : World), (Instr.makeFunc fn first cap).run Tryz.prog w = .ok (.func fn first cap) w := fun _ _ _ _ => rfl
 go_enter Tryz.func58, Tryz.ntmps58
 go_wp2
 go_ret
 exact ⟨by simp, rfl⟩
set_option maxRecDepth 100000 in
set_option maxHeartbeats 4000000 in
theorem there1_in (l bs bh N n cs ch : Nat) (ex : Nat → Prop) (A A2 : Option Addr) (sh : List (List Int)) (hv : List Bool) (W0 W : World) (J : List ThX → World → Prop)
  (hF : Kd.F (dM 5 .u8) W0 (fun k => ¬ ex k) A sh.length sh) (hH : Kd.F Kd.bool W0 (fun k => ¬ ex k) A2 hv.length hv) (hN : W0.heap.size ≤ N) (h0 : KpX N ex W0 W) (hl : sh.length = n) (hl2 : hv.length = n) (hn : n ≤ 100000) (hn1 : 1 ≤ n)
  (hBs : W.heap[bs]? = some (.cells #[.slice A n cs] 24 (0, 0))) (hBh : W.heap[bh]? = some (.cells #[.slice A2 n ch] 38 (0, 0))) (hbs : bs < N ∧ ¬ ex bs) (hbh : bh < N ∧ ¬ ex bh) (hJ : ∀ s X Y, J s X → X.grownBy Y none → J s Y)
  (hY : ∀ pre x W1, J pre W1 → HdT (thereF 0 sh hv) (fun k => ¬ ex k ∧ k < W0.heap.size) pre.length x W1 → pre.length < (thereF 0 sh hv).length → YieldAt Fence.wide (7 - 1) Tryz.prog l #[.int .i64 (x.1 : Int), .slice x.2.1 x.2.2.2.length x.2.2.1] W1 fun e W' => e = .returned (.bool true) ∧ J (pre ++ [x]) W' ∧ KpX N ex W1 W') (hJ0 : J [] W) :
  CallsIn Fence.wide 7 Tryz.prog 93 #[.func (.yield l) #[] #[], .pointer (some ⟨bs, 0, none⟩), .pointer (some ⟨bh, 0, none⟩)] W fun e W' => (∃ v, e = .returned v) ∧ ∃ xs : List ThX, xs.map thK = thereF 0 sh hv ∧ J xs W' := by
 obtain ⟨T, hT⟩ : ∃ T, thereF 0 sh hv = T := ⟨_, rfl⟩
 have hT0 : thereF 0 (sh.drop 0) (hv.drop 0) = T := hT
 have HFq := Aside0.mk (fun (W' : World) (hk : KpX N ex W0 W') => (Kd.bxz (W1 := W') (Kd.cIz hF) (fun k hk1 hk2 => hk.2 k (by omega) hk1.1)))
 have HHq := Aside0.mk (fun (W' : World) (hk : KpX N ex W0 W') => (Kd.bxz (W1 := W') (Kd.cIz hH) (fun k hk1 hk2 => hk.2 k (by omega) hk1.1)))
 have HBs := Aside0.mk (fun (W' : World) (hk : KpX N ex W W') => (hk.2 bs hbs.1 hbs.2).trans hBs)
 have HBh := Aside0.mk (fun (W' : World) (hk : KpX N ex W W') => (hk.2 bh hbh.1 hbh.2).trans hBh)
 obtain ⟨r0, hr0⟩ : ∃ r, sh[0]? = some r := ⟨_, List.getElem?_eq_getElem (by omega)⟩
 obtain ⟨ad, A1, c1, rfl, -, -, -⟩ := a6z (Kd.F_now hF) 0 r0 hr0
 obtain ⟨ad2, rfl, -⟩ := Kd.at_bool (Kd.F_now hH) 0 (by omega) (by omega)
 rw [hT] at hY ⊢
 have HJ := Aside0.mk hJ
 have HY := Aside0.mk hY
 have HJ0 := Aside0.mk hJ0
 have H0 := Aside0.mk h0
 have HT0 := Aside0.mk hT0
 have HL := Aside0.mk hl
 have HL2 := Aside0.mk hl2
 have hbc : W.cell? ⟨bs, 0, none⟩ = some (.slice (some ad) n cs) := (aaz hBs 0).trans rfl
 rw [hl] at HFq
 rw [hl2] at HHq
 clear hF hH hN h0 hl hl2 hBs hBh hbs hbh hJ hY hJ0 hT hT0 hr0
 refine callsIn_of_wp Tryz.func93 rfl trivial ?_ rfl
 simp only [Tryz.ntmps93, List.size_toArray, List.length_cons, List.length_nil, Nat.reduceAdd, Nat.reduceSub, Array.replicate_succ, Array.replicate_zero, List.push_toArray, List.append_toArray, List.nil_append, List.cons_append]
 gi_wp2
 gi_loopw [8] (fun i wr => ∃ (k : Nat) (pre : List ThX), k ≤ n ∧ i = .int .i64 (k : Int) ∧ Aside0 (pre.map thK ++ thereF k (sh.drop k) (hv.drop k) = T) ∧ Aside0 (J pre wr) ∧ Aside0 (KpX N ex W wr)) (fun i _ => n - (intOf i).toNat)
 case atStart => exact ⟨0, [], Nat.zero_le _, rfl, HT0, HJ0, ⟨Nat.le_refl _, fun _ _ _ => rfl⟩⟩
 clear HJ0 hbc HT0
 obtain ⟨wq, rfl⟩ : ∃ wq, wq = wr := ⟨_, rfl⟩
 obtain ⟨k, pre, hk, rfl, HP, HJP, HK⟩ := hrel
 by_cases hlt : k < n
 ·obtain ⟨b, hb⟩ : ∃ x, sh[k]? = some x := ⟨_, List.getElem?_eq_getElem (by have := HL.out; omega)⟩
  obtain ⟨h, hh⟩ : ∃ x, hv[k]? = some x := ⟨_, List.getElem?_eq_getElem (by have := HL2.out; omega)⟩
  have hds : sh.drop k = b :: sh.drop (k + 1) := by
   obtain ⟨h1, h2⟩ := List.getElem?_eq_some_iff.1 hb
   rw [List.drop_eq_getElem_cons h1, h2]
  have hdh : hv.drop k = h :: hv.drop (k + 1) := by
   obtain ⟨h1, h2⟩ := List.getElem?_eq_some_iff.1 hh
   rw [List.drop_eq_getElem_cons h1, h2]
  have hp := HP.out
  rw [hds, hdh, thereF] at hp
  have hFs := HFq.out wq (H0.out.trans HK.out)
  rw [← HL.out] at hFs
  obtain ⟨A', c', e1, l1, FR⟩ := row_atF hFs k b hb
  obtain ⟨ad', he, e2⟩ := Kd.at_bool (Kd.F_now (HHq.out wq (H0.out.trans HK.out))) (k : Int) (by omega) (by omega)
  obtain rfl : ad2 = ad' := Option.some.inj he
  have hrd : rdOf false hv (k : Int) = h := by
   unfold rdOf
   rw [Int.toNat_natCast, List.getD_eq_getElem?_getD, hh]
   rfl
  rw [hrd, Int.toNat_natCast] at e2
  have q2 : wq.cell? ⟨bh, 0, none⟩ = some (.slice (some ad2) n ch) := (aaz (HBh.out _ HK.out) 0).trans rfl
  have HFR := Aside0.mk FR
  have HL1 := Aside0.mk l1
  have HPP := Aside0.mk hp
  have i1 : (0 : Int) ≤ (k : Int) := by omega
  have i2 : (k : Int) < (n : Int) := by omega
  obtain ⟨nb, hnb⟩ : ∃ nb, b.length = nb := ⟨_, rfl⟩
  have HNB := Aside0.mk hnb
  rw [hnb] at e1
  clear hb hh hds hdh hp hFs he hrd FR l1 hnb HP
  cases h with
  | false =>
   have hp2 := HPP.out
   rw [if_neg (by decide)] at hp2
   have HP2 := Aside0.mk hp2
   clear hp2 HPP
   gi_wp2
   refine ⟨(by intro f hf; cases hf), ?_⟩
   gi_wp2
   go_roundw
   case rel => exact ⟨k + 1, pre, by omega, by go_num, HP2, HJP, HK⟩
   case measure => simp [intOf]; omega
  | true =>
   have hp2 := HPP.out
   rw [if_pos rfl] at hp2
   have hTm : T[pre.length]? = some (k, b) := by
    rw [← hp2, List.getElem?_append_right (by simp)]
    simp
   have hTl : pre.length < T.length := (List.getElem?_eq_some_iff.1 hTm).1
   obtain ⟨fn, tmps, assign, body, hy, hR⟩ := HY.out pre (k, A', c', b) wq HJP.out ⟨hTm, HL1.out, HFR.out⟩ hTl
   dsimp only at hy
   rw [HNB.out] at hy
   have HRR := Aside0.mk hR
   have HP2 := Aside0.mk (show (pre ++ [((k, A', c', b) : ThX)]).map thK ++ thereF (k + 1) (sh.drop (k + 1)) (hv.drop (k + 1)) = T by
    rw [← hp2, List.map_append, List.append_assoc]
    rfl)
   clear hp2 hTm hTl hR HPP HFR
   gi_wp2
   refine HRR.out.mono ?_
   rintro e w3 ⟨rfl, hJ3, hk3⟩
   have HJ3 := Aside0.mk hJ3
   have HK3 := Aside0.mk hk3
   clear hy hJ3 hk3
   gi_wp2
   go_roundw
   case rel => exact ⟨k + 1, pre ++ [(k, A', c', b)], by omega, by go_num, HP2, HJ3, ⟨HK.out.trans HK3.out⟩⟩
   case measure => simp [intOf]; omega
 ·obtain rfl : k = n := by omega
  have hp := HP.out
  rw [List.drop_of_length_le (by have := HL.out; omega), thereF.eq_def] at hp
  have HPE := Aside0.mk (show pre.map thK = T by simpa using hp)
  clear hp
  gi_wp2
  go_end0
  exact ⟨⟨_, rfl⟩, pre, HPE.out, HJP.out⟩
theorem there_seq (bs bh N n cs ch : Nat) (ex : Nat → Prop) (A A2 : Option Addr) (sh : List (List Int)) (hv : List Bool) (W0 w : World)
  (hF : Kd.F (dM 5 .u8) W0 (fun k => ¬ ex k) A sh.length sh) (hH : Kd.F Kd.bool W0 (fun k => ¬ ex k) A2 hv.length hv) (hN : W0.heap.size ≤ N) (hNW : N ≤ w.heap.size) (h0 : KpX N ex W0 w) (hl : sh.length = n) (hl2 : hv.length = n) (hn : n ≤ 100000) (hn1 : 1 ≤ n)
  (hBs : w.heap[bs]? = some (.cells #[.slice A n cs] 24 (0, 0))) (hBh : w.heap[bh]? = some (.cells #[.slice A2 n ch] 38 (0, 0))) (hbs : bs < N ∧ ¬ ex bs) (hbh : bh < N ∧ ¬ ex bh) :
  SeqN Fence.wide 7 Tryz.prog 93 #[.pointer (some ⟨bs, 0, none⟩), .pointer (some ⟨bh, 0, none⟩)] (fun x : ThX => #[.int .i64 (x.1 : Int), .slice x.2.1 x.2.2.2.length x.2.2.1]) (HdT (thereF 0 sh hv) (fun k => ¬ ex k ∧ k < W0.heap.size)) (KpX N ex) (fun xs => xs.map thK = thereF 0 sh hv) (thereF 0 sh hv).length w := by
 intro l J W hW hJ hY hJ0
 have hk : KpX N ex w W := ⟨hW.size, fun k hk _ => hW.block k (by omega)⟩
 exact there1_in l bs bh N n cs ch ex A A2 sh hv W0 W J hF hH hN (h0.trans hk) hl hl2 hn hn1 ((hk.2 bs hbs.1 hbs.2).trans hBs) ((hk.2 bh hbh.1 hbh.2).trans hBh) hbs hbh hJ hY hJ0
end Go.Proofs.YtpdakdcmahlghaaGreat.XCo
end
