-- Joined by this work's own program (wip/tools/bundle.py) out of its texts: what this claim uses of them. Not trusted: Lean checks it.
import Derived.Test.YtpdakdcmahlghaaGreatBTrialNone11
section
namespace Go.Proofs.YtpdakdcmahlghaaGreat.XCo
open Go.RowKit Go.Proofs.YtpdakdcmahlghaaGreatW.PrintWords Go.Proofs.YtpdakdcmahlghaaGreatW.PrintLast Go.Proofs.YtpdakdcmahlghaaGreatW.PrintMore
attribute [local go_sem] aDz aEz aLz aMz auz avz aFz aGz
set_option linter.unusedVariables false
set_option linter.unusedSimpArgs false
attribute [local go_sem] Oper.semAt_some
def aOz.fill (size : Nat) : List Int → Nat → List (List Int) → Option (List (List Int))
 | [], _, rows => some rows
 | c :: cs, i, rows => if i / size < rows.length then aOz.fill size cs (i + 1) (rows.set (i / size) ((rows.getD (i / size) []).set (i % size) c)) else none
def aOz.f (k : Nat) (a0_0 a0_1 a0_2 : Int) (l1 : List Int) : Option (List (List Int) × Int) :=
 (anz.f k a0_0 a0_1 a0_2 (l1.length : Int)).bind fun s => if s.2 = 0 then (if 1 ≤ a0_1 then (if a0_1 ≤ 1000 then (if 1 ≤ s.1 then (if s.1 ≤ 100000 then (if l1.length ≤ 100000 then
  (bpz.f a0_0 a0_1 a0_2).bind fun u => (if u.2 = 0 ∨ u.2 = 4 then (aOz.fill s.1.toNat (laidL u.2.toNat l1) 0 (List.replicate a0_1.toNat (List.replicate s.1.toNat 0))).bind fun r => some (r, 0) else none)
  else none) else none) else none) else none) else none) else some ([], s.2)
set_option maxRecDepth 100000 in
set_option maxHeartbeats 4000000 in
theorem aOz.bad (k : Nat) (a0_0 a0_1 a0_2 : Int) (A1 : Option Addr) (c1 : Nat) (l1 : List Int) (s1 s2 : Int) (w : World) (h : anz.f k a0_0 a0_1 a0_2 (l1.length : Int) = some (s1, s2)) (hs : s2 ≠ 0) :
  Calls Tryz.prog 55 #[.agg #[.int .i64 a0_0, .int .i64 a0_1, .int .i64 a0_2], .slice A1 l1.length c1] w fun e w' => e = .returned (.tuple #[.slice none 0 0, .int .i64 s2]) ∧ Below w.heap.size w w' := by
 have HZ := Aside0.mk (fun w => anz.calls k a0_0 a0_1 a0_2 (l1.length : Int) s1 s2 w h)
 have hu := Tryz.underlying23
 have hb : (s2 != 0) = true := by simpa using hs
 generalize l1.length = n at HZ ⊢
 clear h hs
 go_enter Tryz.func55, Tryz.ntmps55
 go_wp2_with fail
 refine (HZ.out _).mono ?_
 rintro e w1 ⟨rfl, hB⟩
 have HB := Aside0.mk (show Below w.heap.size w w1 from (abz (Below.refl _ _) _).trans (hB.mono (by simp)))
 clear hB
 go_wp2
 go_ret2
 exact ⟨rfl, abz HB.out _⟩
set_option maxRecDepth 100000 in
set_option maxHeartbeats 4000000 in
theorem aOz.go (k : Nat) (a0_0 a0_2 : Int) (K size ahead n : Nat) (A1 : Option Addr) (c1 : Nat) (l1 : List Int) (u1 : Int) (res : List (List Int)) (w : World) (hr1 : Kd.C (Kd.int .u8) w A1 l1.length l1) (hc1 : n ≤ c1) (hn : l1.length = n) (hn2 : n ≤ 100000)
  (h : anz.f k a0_0 (K : Int) a0_2 (n : Int) = some ((size : Int), 0)) (hK : 1 ≤ K) (hK2 : K ≤ 1000) (hs : 1 ≤ size) (hs2 : size ≤ 100000) (hru : bpz.f a0_0 (K : Int) a0_2 = some (u1, (ahead : Int))) (hah : ahead = 0 ∨ ahead = 4)
  (hf : aOz.fill size (laidL ahead l1) 0 (List.replicate K (List.replicate size 0)) = some res) :
  Calls Tryz.prog 55 #[.agg #[.int .i64 a0_0, .int .i64 (K : Int), .int .i64 a0_2], .slice A1 n c1] w fun e w' => ∃ v, e = .returned (.tuple #[v, .int .i64 0]) ∧ Kd.S (dM 5 .u8) 34 w' w.heap.size (fun _ => True) v res ∧ Below w.heap.size w w' := by
 have HZ := Aside0.mk (fun w => anz.calls k a0_0 (K : Int) a0_2 (n : Int) (size : Int) 0 w h)
 have HRU := Aside0.mk (fun w => bpz.calls a0_0 (K : Int) a0_2 u1 (ahead : Int) w hru)
 have HR1 := Aside0.mk hr1
 have HN := Aside0.mk hn
 have HF := Aside0.mk hf
 have HAH := Aside0.mk hah
 have hu := Tryz.underlying23
 have hbx := heap_alloc_new w (.cells #[.int .i64 a0_0, .int .i64 (K : Int), .int .i64 a0_2] 23)
 have HBX := Aside0.mk hbx
 have HB0 := Aside0.mk (abz (Below.refl w.heap.size w) (.cells #[.int .i64 a0_0, .int .i64 (K : Int), .int .i64 a0_2] 23))
 clear h hru hr1 hn hf hah hbx
 refine (callsIn_wide (n := 8)).1 (callsIn_of_wp_marks Tryz.func55 rfl trivial (wpIn_wide.2 ?_) rfl)
 simp only [Tryz.ntmps55, List.size_toArray, List.length_cons, List.length_nil, Nat.reduceAdd, Nat.reduceSub, Array.replicate_succ, Array.replicate_zero, List.push_toArray, List.append_toArray, List.nil_append, List.cons_append]
 go_wp2_with fail
 generalize w.alloc (.cells #[.int .i64 a0_0, .int .i64 (K : Int), .int .i64 a0_2] 23) = w0 at HBX HB0 ⊢
 refine (HZ.out w0).mono ?_
 rintro e w1 ⟨rfl, hB1⟩
 have HB1 := Aside0.mk (HB0.out.trans (hB1.mono HB0.out.size))
 have HX1 := Aside0.mk (aez HBX.out hB1)
 have hcK : (w1.alloc (.cells #[.int .i64 (size : Int)] 3)).cell? ⟨w.heap.size, 1, none⟩ = some (.int .i64 (K : Int)) := (aaz (aez HX1.out (abz (Below.refl _ _) _)) 1).trans rfl
 have HSB1 := Aside0.mk (heap_alloc_new w1 (.cells #[.int .i64 (size : Int)] 3))
 have HB2 := Aside0.mk (abz HB1.out (.cells #[.int .i64 (size : Int)] 3))
 have HX2 := Aside0.mk (aez HX1.out (abz (Below.refl _ _) (.cells #[.int .i64 (size : Int)] 3)))
 have HSBW := Aside0.mk (show w.heap.size ≤ w1.heap.size from HB1.out.size)
 have HBASE := Aside0.mk (show w.heap.size ≤ (w1.alloc (.cells #[.int .i64 (size : Int)] 3)).heap.size from HB2.out.size)
 clear hB1 HBX HB0 HZ HB1 HX1
 go_wp2_with ((with_reducible refine aCz (N := 26) rfl ?_); go_must (refine Kd.S_make (dM 5 .u8) (w0 := w) w.heap.size 34 rfl rfl 24 (.tmp 25) (.tmp 25) rfl (K : Int) rfl rfl Tryz.underlying24 (.slice none 0 0) 24 kr_ rfl (by decide) (by decide) ([] : List Int) (ok := fun _ => True) (okp := fun _ => True) ⟨_, rfl, Kd.R_nil _ _ _ _ _⟩ (fun _ h => h) trivial (by omega) (by omega) HB2.out HBASE.out ?_); intro v2 w2 ho hb hg hat; rw [Int.toNat_natCast] at ho; obtain ⟨o, cap, rfl, -, -, -⟩ := Kd.S_form ho (by rw [List.length_replicate]; exact hK); have HO2 := Aside0.mk ho; have HB3 := Aside0.mk hb; have HG2 := Aside0.mk hg; clear ho hb hg hat)
 rw [List.length_replicate] at HO2
 obtain ⟨sb, hsb⟩ : ∃ sb, w1.heap.size = sb := ⟨_, rfl⟩
 obtain ⟨lbx, hlbx⟩ : ∃ lbx, w2.heap.size = lbx := ⟨_, rfl⟩
 have hz2 : sb < lbx := by
  have h1 := HG2.out.size
  simp at h1; omega
 have hwl : w.heap.size < sb := by
  have h1 := apz HX2.out
  have h2 := HSBW.out
  have h3 : w.heap.size ≠ w1.heap.size := fun e => by
   have h4 := HSB1.out
   rw [← e] at h4
   rw [HX2.out] at h4
   injection h4 with h4
   injection h4 with h5 h6
   exact absurd h6 (by decide)
  omega
 have HX3 := Aside0.mk (show (w2.alloc (.cells #[.slice (some ⟨o, 0, none⟩) K cap] 24)).heap[w.heap.size]? = some (.cells #[.int .i64 a0_0, .int .i64 (K : Int), .int .i64 a0_2] 23 (0, 0)) from aez ((HG2.out.block _ (apz HX2.out) (by simp)).trans HX2.out) (abz (Below.refl _ _) _))
 have HSB3 := Aside0.mk (show (w2.alloc (.cells #[.slice (some ⟨o, 0, none⟩) K cap] 24)).heap[sb]? = some (.cells #[.int .i64 (size : Int)] 3 (0, 0)) by rw [← hsb]; exact aez ((HG2.out.block _ (apz HSB1.out) (by simp)).trans HSB1.out) (abz (Below.refl _ _) _))
 have HLB3 := Aside0.mk (show (w2.alloc (.cells #[.slice (some ⟨o, 0, none⟩) K cap] 24)).heap[lbx]? = some (.cells #[.slice (some ⟨o, 0, none⟩) K cap] 24 (0, 0)) by rw [← hlbx]; exact heap_alloc_new _ _)
 have HO3 := Aside0.mk (show Kd.S (dM 5 .u8) 34 (w2.alloc (.cells #[.slice (some ⟨o, 0, none⟩) K cap] 24)) w.heap.size (fun _ => True) (.slice (some ⟨o, 0, none⟩) K cap) (madeTo K size 0) by rw [madeTo_zero]; exact Kd.cNz HO2.out _)
 have HB4 := Aside0.mk (abz HB3.out (.cells #[.slice (some ⟨o, 0, none⟩) K cap] 24))
 rw [hsb, hlbx]
 have HZ2 := Aside0.mk hz2
 have HWL := Aside0.mk hwl
 clear hsb hlbx HO2 HB3 HG2 HX2 HSB1 HB2 hcK HSBW HBASE hz2 hwl
 generalize w2.alloc (.cells #[.slice (some ⟨o, 0, none⟩) K cap] 24) = w3 at HX3 HSB3 HLB3 HO3 HB4 ⊢
 have hmk := make_bytes size (by omega)
 go_loopw [29] (fun iv wr => ∃ i : Nat, i ≤ K ∧ iv = .int .i64 (i : Int) ∧ Aside0 (Kd.S (dM 5 .u8) 34 wr w.heap.size (fun _ => True) (.slice (some ⟨o, 0, none⟩) K cap) (madeTo K size i)) ∧ Aside0 (Below w.heap.size w wr) ∧ Aside0 (wr.heap[w.heap.size]? = some (.cells #[.int .i64 a0_0, .int .i64 (K : Int), .int .i64 a0_2] 23 (0, 0))) ∧ Aside0 (wr.heap[sb]? = some (.cells #[.int .i64 (size : Int)] 3 (0, 0))) ∧ Aside0 (wr.heap[lbx]? = some (.cells #[.slice (some ⟨o, 0, none⟩) K cap] 24 (0, 0)))) (fun iv _ => K - (intOf iv).toNat)
 case atStart => exact ⟨0, Nat.zero_le _, rfl, HO3, HB4, HX3, HSB3, HLB3⟩
 clear HO3 HB4 HX3 HSB3 HLB3
 obtain ⟨wq, rfl⟩ : ∃ w', w' = wr := ⟨_, rfl⟩
 obtain ⟨i, hi, rfl, HO, HB, HX, HSB, HLB⟩ := hrel
 by_cases hlt : i < K
 ·have e1 : wq.cell? ⟨lbx, 0, none⟩ = some (.slice (some ⟨o, 0, none⟩) K cap) := (aaz HLB.out 0).trans rfl
  have e2 : wq.cell? ⟨sb, 0, none⟩ = some (.int .i64 (size : Int)) := (aaz HSB.out 0).trans rfl
  have HO5 := Aside0.mk (S_new HO.out HB.out.size (fun _ _ => trivial) i hlt (List.replicate size 0) (by simp; omega))
  rw [List.length_replicate, madeTo_step K size i hlt] at HO5
  obtain ⟨v0, hcv, hfv⟩ := S_cell (Kd.cNz HO.out (.cells (nums .u8 (List.replicate size 0)).toArray 5)) i hlt
  have hol : o ≠ lbx ∧ o ≠ sb ∧ o ≠ w.heap.size := by
   obtain ⟨cs, hcs⟩ := Kd.cOz HO.out o (by simp [Value.ownBlock])
   refine ⟨?_, ?_, ?_⟩
   ·rintro rfl
    rw [HLB.out] at hcs
    injection hcs with hcs
    injection hcs with _ hcs
    exact absurd hcs (by decide)
   ·rintro rfl
    rw [HSB.out] at hcs
    injection hcs with hcs
    injection hcs with _ hcs
    exact absurd hcs (by decide)
   ·rintro rfl
    rw [HX.out] at hcs
    injection hcs with hcs
    injection hcs with _ hcs
    exact absurd hcs (by decide)
  have hbo : w.heap.size ≤ o := Kd.S_base HO.out o (by simp [Value.ownBlock])
  have HB5 := Aside0.mk (bJz (abz HB.out (.cells (nums .u8 (List.replicate size 0)).toArray 5)) hbo i (.slice (some ⟨wq.heap.size, 0, none⟩) size size))
  have HX5 := Aside0.mk (azz (aez HX.out (abz (Below.refl _ _) (.cells (nums .u8 (List.replicate size 0)).toArray 5))) (p := ⟨o, i, none⟩) (Ne.symm hol.2.2) (.slice (some ⟨wq.heap.size, 0, none⟩) size size))
  have HSB5 := Aside0.mk (azz (aez HSB.out (abz (Below.refl _ _) (.cells (nums .u8 (List.replicate size 0)).toArray 5))) (p := ⟨o, i, none⟩) (Ne.symm hol.2.1) (.slice (some ⟨wq.heap.size, 0, none⟩) size size))
  have HLB5 := Aside0.mk (azz (aez HLB.out (abz (Below.refl _ _) (.cells (nums .u8 (List.replicate size 0)).toArray 5))) (p := ⟨o, i, none⟩) (Ne.symm hol.1) (.slice (some ⟨wq.heap.size, 0, none⟩) size size))
  have i1 : (0 : Int) ≤ (i : Int) := by omega
  have i2 : (i : Int) < (K : Int) := by omega
  clear hol hbo
  go_wp2_with fail
  refine regOnly_ ?_
  refine bdz (n := 6) (S := fun w' => w'.cell? ⟨lbx, 0, none⟩ = some (.slice (some ⟨o, 0, none⟩) K cap) ∧ w'.cell? ⟨sb, 0, none⟩ = some (.int .i64 (size : Int))) (ds := [5]) (bA 6 0) kr_ rfl rfl ⟨e1, e2⟩ (fun hHeld => ?_)
  refine pu_ 1 33 2 ?_
  refine tk_ 0 32 3 hHeld ?_
  refine tk_ 2 34 7 hHeld ?_
  refine one_ (i := 3) (N := some 35) (bA 6 15) rfl rfl kr_ (by decide) (fun K hK => ?_)
  refine caz (w1 := ?_) (v := ?_) (by rfl) rfl ?_ ?_
  rotate_left 2
  ·go_simp
   constructor
   ·rfl
   ·rfl
  refine hK.out _ _ ⟨(World.cell?_alloc_past _ _ _ (World.block_lt_of_cell? _ _ e1)).trans e1, (World.cell?_alloc_past _ _ _ (World.block_lt_of_cell? _ _ e2)).trans e2⟩ (fun hHeld => ?_)
  clear hK K
  refine norm_ (a' := ?_) ?_ ?_
  rotate_left
  ·show Act.put _ (some 35) _ = _
   simp only [Act.put, List.setIfInBounds_toArray, List.set_cons_zero, List.set_cons_succ, i64_w, i32_w]
   rfl
  refine pu_ 4 36 31 ?_
  refine last_ (i := 5) (N := none) (bA 6 63) rfl rfl kr_ (by decide) (fun K hK => ?_)
  refine skip_ (w1 := ?_) (by rfl) rfl ?_ ?_
  rotate_left
  ·go_simp
   rfl
  refine hK.out _ _ ?_
  clear hK K
  refine done_ kr_ ?_
  refine regOnly_normal ?_
  go_wp2
  exact ⟨⟨i + 1, by omega, by simp [i64_w], Aside0.mk HO5.out, Aside0.mk HB5.out.drew, Aside0.mk HX5.out, Aside0.mk HSB5.out, Aside0.mk HLB5.out⟩, by simp [intOf]; omega⟩
 ·obtain rfl : i = K := by omega
  have hfull := HO.out
  rw [madeTo_full] at hfull
  have HO4 := Aside0.mk hfull
  have q0 : wq.cell? ⟨w.heap.size, 0, none⟩ = some (.int .i64 a0_0) := (aaz HX.out 0).trans rfl
  have q1 : wq.cell? ⟨w.heap.size, 1, none⟩ = some (.int .i64 (i : Int)) := (aaz HX.out 1).trans rfl
  have q2 : wq.cell? ⟨w.heap.size, 2, none⟩ = some (.int .i64 a0_2) := (aaz HX.out 2).trans rfl
  have hself : ((i : Int) < (i : Int)) = False := by simp
  clear hi hlt hmk hfull HO
  go_wp2_with fail
  refine (HRU.out wq).mono ?_
  rintro e w4 ⟨rfl, hB4⟩
  have HB5 := Aside0.mk (HB.out.trans (hB4.mono HB.out.size))
  have HO5 := Aside0.mk (Kd.cMz HO4.out hB4)
  have HX5 := Aside0.mk (aez HX.out hB4)
  have HSB5 := Aside0.mk (aez HSB.out hB4)
  have HLB5 := Aside0.mk (aez HLB.out hB4)
  clear hB4 q0 q1 q2 HB HO4 HX HSB HLB HRU
  have hld := laid.calls (ahead : Int) A1 n c1
  go_wp2_with ((go_at_call 90; refine (hld _).mono ?_; rintro e w' ⟨rfl, rfl⟩))
  clear hld
  have hX10 : ((w4.alloc (.cells #[.int .i64 (ahead : Int)] 3)).alloc (.cells #[.slice A1 n c1] 34)).heap[w4.heap.size]? = some (.cells #[.int .i64 (ahead : Int)] 3 (0, 0)) := aiz (b0z w4 _) _
  have hX11 : ((w4.alloc (.cells #[.int .i64 (ahead : Int)] 3)).alloc (.cells #[.slice A1 n c1] 34)).heap[w4.heap.size + 1]? = some (.cells #[.slice A1 n c1] 34 (0, 0)) := bqz _ _ _ (by simp)
  have hB6 : Below w4.heap.size w4 ((w4.alloc (.cells #[.int .i64 (ahead : Int)] 3)).alloc (.cells #[.slice A1 n c1] 34)) := b8z (abz (Below.refl _ _) _) (abz (Below.refl _ _) _)
  have hsz : ((w4.alloc (.cells #[.int .i64 (ahead : Int)] 3)).alloc (.cells #[.slice A1 n c1] 34)).heap.size = w4.heap.size + 2 := by simp
  generalize (w4.alloc (.cells #[.int .i64 (ahead : Int)] 3)).alloc (.cells #[.slice A1 n c1] 34) = w5 at hX10 hX11 hB6 hsz ⊢
  obtain ⟨b, hb⟩ : ∃ b, b = w4.heap.size := ⟨_, rfl⟩
  rw [← hb] at hX10 hX11 hsz hB6 ⊢
  have hwb : w.heap.size ≤ b := hb ▸ HB5.out.size
  have hB6' : Below w.heap.size w w5 := HB5.out.trans (hB6.mono hwb)
  have hR5 : Kd.C (Kd.int .u8) w5 A1 l1.length l1 := Kd.arz HR1.out hB6'
  have hlt1 : lbx < b := hb ▸ apz HLB5.out
  have hS6 : Kd.S (dM 5 .u8) 34 w5 w.heap.size (fun k => w.heap.size ≤ k ∧ k < b ∧ k ≠ sb ∧ k ≠ lbx) (.slice (some ⟨o, 0, none⟩) i cap) (List.replicate i (List.replicate size 0)) := by
   have h1 := Kd.bcz (Kd.ciz (Kd.ciz HO5.out HSB5.out (by decide)) HLB5.out (by decide))
   have h2 := Kd.cMz h1 (hb ▸ hB6 : Below w4.heap.size w4 w5)
   refine Kd.bxz h2 (fun q hq => ?_)
   simp only [← hb] at hq
   exact ⟨hq.2.1, hq.2.2.1, hq.1.1.2, hq.1.2⟩
  have HSB6 := Aside0.mk (aez HSB5.out (hb ▸ hB6))
  have HLB6 := Aside0.mk (aez HLB5.out (hb ▸ hB6))
  have HX10 := Aside0.mk hX10
  have HX11 := Aside0.mk hX11
  have HB6 := Aside0.mk hB6'
  have HR5 := Aside0.mk hR5
  have HS6 := Aside0.mk hS6
  have HSZ := Aside0.mk hsz
  have HWB := Aside0.mk hwb
  have HLT := Aside0.mk hlt1
  clear hX10 hX11 hB6 hB6' hR5 hS6 hsz hwb hlt1 HB5 HO5 HX5 HSB5 HLB5 hb
  refine (wpIn_wide (n := 8)).1 ?_
  refine wpIn_range_nth (α := Nat × Int) rfl (by omega) (gf := 134) (lb := #[.pointer (some ⟨b + 1, 0, none⟩), .pointer (some ⟨b, 0, none⟩)]) rfl trivial (enters_of Tryz.func134 kr_ rfl)
   (laid_seq ahead b (b + 1) n c1 HAH.out (fun k => w.heap.size ≤ k ∧ k < b ∧ k ≠ sb ∧ k ≠ lbx) A1 l1 w5 HR5.out HN.out hc1 hn2 HX10.out HX11.out (fun k hk => by have := HSZ.out; have := hk.2.1; omega)) KpC.trans ?hKb (Below.refl _ _) (fun _ => rfl)
   (fun pre Wx => ∃ rows, Kd.S (dM 5 .u8) 34 Wx w.heap.size (fun k => w.heap.size ≤ k ∧ k < b ∧ k ≠ sb ∧ k ≠ lbx) (.slice (some ⟨o, 0, none⟩) i cap) rows ∧ Wx.heap[sb]? = some (.cells #[.int .i64 (size : Int)] 3 (0, 0)) ∧ Wx.heap[lbx]? = some (.cells #[.slice (some ⟨o, 0, none⟩) i cap] 24 (0, 0)) ∧ rows.length = i ∧ (∀ r, r ∈ rows → r.length = size) ∧ aOz.fill size ((laidL ahead l1).drop pre.length) pre.length rows = some res ∧ Below w.heap.size w Wx ∧ w5.heap.size ≤ Wx.heap.size)
   ?hI ?hHd ?h0 (fun x => { tmps := #[.agg #[.int .i64 a0_0, .int .i64 (i : Int), .int .i64 a0_2], .slice A1 n c1, .pointer (some ⟨w.heap.size, 0, none⟩), undef, .slice none 0 0, .int .i64 0, .pointer (some ⟨sb, 0, none⟩), .int .i64 0, .pointer (some ⟨lbx, 0, none⟩), u9, .int .i64 u1, .int .i64 (ahead : Int), .int .i64 (x.1 : Int), .int .u8 x.2, .tuple #[.int .i64 (size : Int), .int .i64 0], .agg #[.int .i64 a0_0, .int .i64 (i : Int), .int .i64 a0_2], .slice A1 n c1, .int .i64 (n : Int), .tuple #[.int .i64 (size : Int), .int .i64 0], .int .i64 (size : Int), .int .i64 0, .int .i64 0, .bool false, undef, .pointer (some ⟨w.heap.size, 1, none⟩), .int .i64 (i : Int), .slice (some ⟨o, 0, none⟩) i cap, .slice (some ⟨o, 0, none⟩) i cap, .int .i64 (i : Int), .int .i64 (i : Int), .bool false, u31, u32, u33, u34, u35, u36, u37, .tuple #[.int .i64 u1, .int .i64 (ahead : Int)], .agg #[.int .i64 a0_0, .int .i64 (i : Int), .int .i64 a0_2], .tuple #[.int .i64 u1, .int .i64 (ahead : Int)], .int .i64 u1, .int .i64 (ahead : Int), .int .i64 (ahead : Int), .slice A1 n c1, .func (.func 134) #[] #[.pointer (some ⟨b + 1, 0, none⟩), .pointer (some ⟨b, 0, none⟩)], .int .i64 (x.1 : Int), .int .u8 x.2, undef, undef, undef, undef, undef, undef, undef, undef, undef, undef, undef, undef], defers := [] }) ?assign ?body ?done
  case hKb =>
   intro Wx l o1 o2 hl ho hno
   refine ⟨(grownBy_putObj' Wx l o2).size, fun k oo hk hcc _ => ?_⟩
   have hne : k ≠ l := by rintro rfl; rw [hk] at ho; cases ho; rw [hcc] at hno; cases hno
   exact (World.putObj_heap_other hne).trans hk
  case hI =>
   rintro s X Y r ⟨rows, h1, h2, h3, h4, h5, h6, h7, h8⟩ hg hr
   have hr' : ∀ q, r = some q → ∃ o : Obj, X.heap[q]? = some o ∧ o.isCells = false := fun q e => (hr q e).2
   have hcc : ∀ (q : Nat) (oo : Obj), X.heap[q]? = some oo → oo.isCells = true → Y.heap[q]? = X.heap[q]? := fun q oo hq ho => grownBy_keeps_cells hg hr' hq ho
   exact ⟨rows, S_keepK h1 hcc, (hcc _ _ h2 rfl).trans h2, (hcc _ _ h3 rfl).trans h3, h4, h5, h6, ⟨hg.os.trans h7.os, hg.tape.trans h7.tape, hg.output.trans h7.output, Nat.le_trans h7.size hg.size, fun q hq => (hg.block q (Nat.lt_of_lt_of_le hq h7.size) (fun e => by have := (hr q e.symm).1; have := HSZ.out; have := HWB.out; omega)).trans (h7.block q hq)⟩, Nat.le_trans h8 hg.size⟩
  case hHd =>
   intro m x s X Y r h hg hr
   exact h
  case h0 =>
   refine ⟨_, HS6.out, HSB6.out, HLB6.out, by simp, fun r hr => by rw [List.eq_of_mem_replicate hr]; simp, ?_, HB6.out, Nat.le_refl _⟩
   simpa using HF.out
  case assign =>
   intro l x Wx K hK
   gi_wp2
   exact hK
  case body =>
   rintro l pre ⟨x, c⟩ Wx ⟨rows, h1, h2, h3, h4, h5, h6, h7, h8⟩ ⟨hx0, hx1⟩ hlen
   dsimp only at hx0 hx1
   have hdr : (laidL ahead l1).drop pre.length = c :: (laidL ahead l1).drop (pre.length + 1) := by
    obtain ⟨hl, he⟩ := List.getElem?_eq_some_iff.1 hx1
    rw [List.drop_eq_getElem_cons hl, he]
   rw [hdr, ← hx0] at h6
   simp only [aOz.fill] at h6
   have hq : x / size < rows.length := by
    by_cases hh : x / size < rows.length
    ·exact hh
    ·rw [if_neg hh] at h6; cases h6
   rw [if_pos hq] at h6
   obtain ⟨row, hrow⟩ : ∃ r, rows[x / size]? = some r := ⟨_, List.getElem?_eq_getElem hq⟩
   have hrl : row.length = size := h5 row (List.mem_of_getElem? hrow)
   have hrd : rows.getD (x / size) [] = row := by rw [List.getD_eq_getElem?_getD, hrow]; rfl
   rw [hrd] at h6
   have hj : x % size < size := Nat.mod_lt _ hs
   obtain ⟨g, cg, y, k1, k2, k3, kok, kne, kS⟩ := S_put2 h1 (x / size) (x % size) row hrow (by rw [hrl]; exact hj) c
   have e1 : Wx.cell? ⟨lbx, 0, none⟩ = some (.slice (some ⟨o, 0, none⟩) i cap) := (aaz h3 0).trans rfl
   have e2 : Wx.cell? ⟨sb, 0, none⟩ = some (.int .i64 (size : Int)) := (aaz h2 0).trans rfl
   rw [hrl] at k1
   rw [h4] at hq
   have hx100 : x ≤ 100004 := by
    have hl : (laidL ahead l1).length ≤ 100004 := by
     have := HN.out
     unfold laidL four4
     simp; omega
    omega
   have d1 : Int.tdiv (x : Int) (size : Int) = ((x / size : Nat) : Int) := by rw [Int.ofNat_tdiv]
   have d2 : Int.tmod (x : Int) (size : Int) = ((x % size : Nat) : Int) := by rw [Int.ofNat_tmod]
   obtain ⟨qx, hqx⟩ : ∃ qx, x / size = qx := ⟨_, rfl⟩
   obtain ⟨rx, hrx⟩ : ∃ rx, x % size = rx := ⟨_, rfl⟩
   have hqle : qx ≤ x := hqx ▸ Nat.div_le_self _ _
   rw [hqx] at d1 hq k1 kS h6 hrow
   rw [hrx] at d2 hj k2 k3 kS h6
   have i1 : (0 : Int) ≤ (qx : Int) := by omega
   have i2 : (qx : Int) < (i : Int) := by omega
   have i3 : (0 : Int) ≤ (rx : Int) := by omega
   have i4 : (rx : Int) < (size : Int) := by omega
   have i5 : ¬ (size = 0) := by omega
   have i6 : IntKind.i64.wrap (qx : Int) = (qx : Int) := by rw [IntKind.wrap_i64]; omega
   have HEND := Aside0.mk (show KeepsFrom w5.heap.size Wx (Wx.setCell ⟨g, rx, none⟩ (.int .u8 c)) ∧ KpC (fun k => w.heap.size ≤ k ∧ k < b ∧ k ≠ sb ∧ k ≠ lbx) Wx (Wx.setCell ⟨g, rx, none⟩ (.int .u8 c)) ∧ ∃ rows, Kd.S (dM 5 .u8) 34 (Wx.setCell ⟨g, rx, none⟩ (.int .u8 c)) w.heap.size (fun k => w.heap.size ≤ k ∧ k < b ∧ k ≠ sb ∧ k ≠ lbx) (.slice (some ⟨o, 0, none⟩) i cap) rows ∧ (Wx.setCell ⟨g, rx, none⟩ (.int .u8 c)).heap[sb]? = some (.cells #[.int .i64 (size : Int)] 3 (0, 0)) ∧ (Wx.setCell ⟨g, rx, none⟩ (.int .u8 c)).heap[lbx]? = some (.cells #[.slice (some ⟨o, 0, none⟩) i cap] 24 (0, 0)) ∧ rows.length = i ∧ (∀ r, r ∈ rows → r.length = size) ∧ aOz.fill size ((laidL ahead l1).drop (pre ++ [(x, c)]).length) (pre ++ [(x, c)]).length rows = some res ∧ Below w.heap.size w (Wx.setCell ⟨g, rx, none⟩ (.int .u8 c)) ∧ w5.heap.size ≤ (Wx.setCell ⟨g, rx, none⟩ (.int .u8 c)).heap.size by
    have hsc : ∀ k, k ≠ g → (Wx.setCell ⟨g, rx, none⟩ (.int .u8 c)).heap[k]? = Wx.heap[k]? := fun k hk => Below.heap_setCell Wx ⟨g, rx, none⟩ _ k hk
    refine ⟨⟨by simp, fun k oo hk hko hno => ?_⟩, ⟨by simp, fun k oo hk hcc he => (hsc k (by rintro rfl; exact he kok)).trans hk⟩, _, kS, (hsc _ (by rintro rfl; exact kok.2.2.1 rfl)).trans h2, (hsc _ (by rintro rfl; exact kok.2.2.2 rfl)).trans h3, by rw [List.length_set]; exact h4, ?_, ?_, bJz h7 kok.1 rx _, by simpa using h8⟩
    ·exact (hsc k (by rintro rfl; have := kok.2.1; have := HSZ.out; omega)).trans hko
    ·intro r hr
     rcases List.mem_or_eq_of_mem_set hr with hr | rfl
     ·exact h5 r hr
     ·rw [List.length_set]; exact hrl
    ·rw [List.length_append, List.length_singleton, ← hx0]
     exact h6)
   have hmo : Tryz.prog.follows .mixedOrders = true := by kernel_rfl
   clear h1 h2 h3 h4 h5 h6 h7 h8 hx0 hx1 hlen hdr hrow hrl hrd kok kne kS hqx hrx
   gi_wp2
   refine startIn_ (m := 12) (S := fun w' => w'.cell? ⟨lbx, 0, none⟩ = some (.slice (some ⟨o, 0, none⟩) i cap) ∧ w'.cell? ⟨sb, 0, none⟩ = some (.int .i64 (size : Int)) ∧ w'.cell? ⟨o, qx, none⟩ = some (.slice (some ⟨g, 0, none⟩) size cg)) (ds := [11]) (bA 12 0) kr_ rfl rfl kr_ (by rintro ⟨_, _, h⟩; exact h) ⟨e1, e2, k1⟩ (fun hHeld => ?_)
   refine pu_ 1 49 2 ?_
   refine pu_ 6 54 66 ?_
   refine pu_ 9 57 578 ?_
   refine tk_ 0 48 579 hHeld ?_
   refine tk_ 2 50 583 hHeld ?_
   refine pu_ 3 51 591 ?_
   refine pu_ 4 52 607 ?_
   refine tk_ 5 53 639 hHeld ?_
   refine tk_ 7 55 767 hHeld ?_
   refine pu_ 8 56 1023 ?_
   refine pu_ 10 58 2047 ?_
   refine last_ (i := 11) (N := none) (bA 12 4095) rfl rfl kr_ (by decide) (fun K hK => ?_)
   refine skip_ (w1 := ?_) (by rfl) rfl ?_ ?_
   rotate_left
   ·go_simp
    rfl
   refine hK.out _ _ ?_
   clear hK K
   refine done_ kr_ ?_
   obtain ⟨q1, q2, rows, p1, p2, p3, p4, p5, p6, p7, p8⟩ := HEND.out
   refine And.intro ⟨q1.1, q1.2⟩ (And.intro ⟨q2.1, q2.2⟩ ⟨rows, Kd.S_drew p1, p2, p3, p4, p5, p6, p7.drew, p8⟩)
  case done =>
   rintro D xs Wx hD ⟨hxs, hlen⟩ ⟨rows, h1, h2, h3, h4, h5, h6, h7, h8⟩ hDd
   rw [hlen, List.drop_length] at h6
   obtain rfl : rows = res := by simpa [aOz.fill] using h6
   have e1 : Wx.cell? ⟨lbx, 0, none⟩ = some (.slice (some ⟨o, 0, none⟩) i cap) := (aaz h3 0).trans rfl
   have H1 := Aside0.mk h1
   have H7 := Aside0.mk h7
   have H8 := Aside0.mk h8
   have HDD := Aside0.mk hDd
   have HDN := Aside0.mk hD
   clear h1 h2 h3 h4 h5 h6 h7 h8 hDd hD hxs hlen
   simp only [Exit.inBlock, Exit.then]
   go_wp2
   refine cWz [D] Wx (by simp) (fun D' hD' => by rw [List.mem_singleton] at hD'; rw [hD']; exact HDD.out) (fun w' hkp hsz hos htp hou => ?_)
   have hcc : ∀ (q : Nat) (oo : Obj), Wx.heap[q]? = some oo → oo.isCells = true → w'.heap[q]? = Wx.heap[q]? := fun q oo hq ho => hkp q (apz hq) (fun hm => by
    rw [List.mem_singleton] at hm
    subst hm
    rw [HDD.out] at hq; cases hq; cases ho)
   refine ⟨_, results_tmp2 rfl _ _ _, _, rfl, S_keepK (Kd.bxz H1.out (fun _ _ => trivial)) hcc, hos.trans H7.out.os, htp.trans H7.out.tape, hou.trans H7.out.output, by rw [hsz]; exact H7.out.size, fun q hq => (hkp q (Nat.lt_of_lt_of_le hq H7.out.size) (fun hm => by
    rw [List.mem_singleton] at hm
    have := HDN.out; have := HSZ.out; have := HWB.out; omega)).trans (H7.out.block q hq)⟩
theorem aOz.calls (k : Nat) (a0_0 : Int) (a0_1 : Int) (a0_2 : Int) (A1 : Option Addr) (c1 : Nat) (l1 : List Int) (r1 : List (List Int)) (r2 : Int) (w : World) (hr1 : Kd.C (Kd.int .u8) w A1 l1.length l1) (hc1 : l1.length ≤ c1) (h : aOz.f k a0_0 a0_1 a0_2 l1 = some (r1, r2)) :
 Calls Tryz.prog 55 #[.agg #[.int .i64 a0_0, .int .i64 a0_1, .int .i64 a0_2], .slice A1 l1.length c1] w fun e w' => ∃ v0_ : Value, e = .returned (.tuple #[v0_, .int .i64 r2]) ∧ Kd.S (Kd.slice 5 (Kd.int .u8)) 34 w' w.heap.size (fun _ => True) v0_ r1 ∧ Below w.heap.size w w' := by
 unfold aOz.f at h
 obtain ⟨⟨s1, s2⟩, hz, h⟩ := Option.bind_eq_some_iff.1 h
 by_cases hs : s2 = 0
 ·subst hs
  dsimp only at h
  rw [if_pos rfl] at h
  have cut : ∀ {p : Prop} [Decidable p] {a : Option (List (List Int) × Int)}, (if p then a else none) = some (r1, r2) → p ∧ a = some (r1, r2) := by
   intro p _ a hh
   by_cases hp : p
   ·rw [if_pos hp] at hh; exact ⟨hp, hh⟩
   ·rw [if_neg hp] at hh; cases hh
  obtain ⟨q1, h⟩ := cut h
  obtain ⟨q2, h⟩ := cut h
  obtain ⟨q3, h⟩ := cut h
  obtain ⟨q4, h⟩ := cut h
  obtain ⟨q5, h⟩ := cut h
  obtain ⟨⟨u1, u2⟩, hu, h⟩ := Option.bind_eq_some_iff.1 h
  obtain ⟨q6, h⟩ := cut h
  obtain ⟨r, hf, h⟩ := Option.bind_eq_some_iff.1 h
  simp only [Option.some.injEq, Prod.mk.injEq] at h
  obtain ⟨rfl, rfl⟩ := h
  obtain ⟨K, rfl⟩ : ∃ K : Nat, a0_1 = (K : Int) := ⟨a0_1.toNat, by omega⟩
  obtain ⟨size, rfl⟩ : ∃ s : Nat, s1 = (s : Int) := ⟨s1.toNat, by omega⟩
  dsimp only at q6 hf q3 q4
  obtain ⟨ahead, rfl⟩ : ∃ s : Nat, u2 = (s : Int) := ⟨u2.toNat, by omega⟩
  simp only [Int.toNat_natCast] at hf
  exact aOz.go k a0_0 a0_2 K size ahead l1.length A1 c1 l1 u1 r w hr1 hc1 rfl q5 hz (by omega) (by omega) (by omega) (by omega) hu (by omega) hf
 ·dsimp only at h
  rw [if_neg hs] at h
  simp only [Option.some.injEq, Prod.mk.injEq] at h
  obtain ⟨rfl, rfl⟩ := h
  refine (aOz.bad k a0_0 a0_1 a0_2 A1 c1 l1 s1 s2 w hz hs).mono ?_
  rintro e w' ⟨rfl, hB⟩
  exact ⟨_, rfl, Kd.S_nil _ _ _ _ _, hB⟩
end Go.Proofs.YtpdakdcmahlghaaGreat.XCo
end
section
namespace Go.Proofs.YtpdakdcmahlghaaGreat.XCo
open Go.RowKit Go.Proofs.YtpdakdcmahlghaaGreatW.PrintWords Go.Proofs.YtpdakdcmahlghaaGreatW.PrintLast Go.Proofs.YtpdakdcmahlghaaGreatW.PrintMore
attribute [local go_sem] aDz aEz aLz aMz auz avz aFz aGz
set_option linter.unusedVariables false
set_option linter.unusedSimpArgs false
def bQz.f (k : Nat) (a0_0 : Int) (a0_1 : Int) (a0_2 : Int) (l1 : List Int) : Option ((List (List Int)) × Int) := (aOz.f k a0_0 a0_1 a0_2 l1).bind fun bt132 => (if bt132.2 = 0 then ((ahz.f k a0_0 a0_1 a0_2 bt132.1).bind fun bt136 => (if bt132.1.length + bt136.1.length < 5864062014805 then (some ((bt132.1 ++ bt136.1), bt136.2)) else (none))) else (some (([] : List (List Int)), bt132.2)))
set_option maxHeartbeats 8000000 in
set_option maxRecDepth 100000 in
theorem bQz.calls (k : Nat) (a0_0 : Int) (a0_1 : Int) (a0_2 : Int) (A1 : Option Addr) (c1 : Nat) (l1 : List Int) (r1 : List (List Int)) (r2 : Int) (w : World) (hr1 : Kd.C (Kd.int .u8) w A1 l1.length l1) (hc1 : l1.length ≤ c1) (h : bQz.f k a0_0 a0_1 a0_2 l1 = some (r1, r2)) :
  Calls Tryz.prog 24 #[.agg #[.int .i64 a0_0, .int .i64 a0_1, .int .i64 a0_2], .slice A1 l1.length c1] w fun e w' => ∃ v0_ : Value, e = .returned (.tuple #[v0_, .int .i64 r2]) ∧ Kd.N (Kd.slice 5 (Kd.int .u8)) 34 w' w.heap.size (fun k_ => (w.heap.size ≤ k_)) v0_ r1 ∧ Below w.heap.size w w' := by
 have hu23 := Tryz.underlying23
 have HR1 := Aside0.mk hr1
 have HC1 := Aside0.mk hc1
 clear hr1 hc1
 have HB := Aside0.mk (Below.refl w.heap.size w)
 have H := h
 clear h
 unfold bQz.f at H
 obtain ⟨⟨t132, t135⟩, A3, H⟩ := ob_ H
 (try dsimp only at H)
 by_cases c4 : t135 = 0
 rotate_left
 ·rw [if_neg c4] at H
  have c4b0 : (t135 == 0) = false := beq_eq_false_iff_ne.mpr c4
  have c4b1 : (t135 != 0) = true := bne_iff_ne.mpr c4
  simp only [Option.some.injEq, Prod.mk.injEq] at H
  obtain ⟨rfl, rfl⟩ := H
  go_enter Tryz.func24, Tryz.ntmps24
  go_wp2_with (first | ((with_reducible refine aCz (N := 2) rfl ?_); refine bx_ 2 #[.int .i64 a0_0, .int .i64 a0_1, .int .i64 a0_2] 23 ?_; intro gb131 hg w15 hbox hb; have n_ := And.intro (hs_ HB hb) (And.intro (Aside0.mk (hbox)) (And.intro (ag_ HB gb131) (ag_ HB gb131))); clear HB; obtain ⟨HB, BK131, GW131, GE131⟩ := n_; clear hb hbox hg; obtain ⟨hcz16_0, hfz16_0, hcz16_1, hfz16_1, hcz16_2, hfz16_2⟩ := bc3_ BK131.out) | ((with_reducible refine acz (f := 55) rfl ?_); refine gl_ (some 12) Tryz.func55 #[.agg #[.int .i64 a0_0, .int .i64 a0_1, .int .i64 a0_2], .slice A1 l1.length c1] ?_; (with_reducible refine (aOz.calls k a0_0 a0_1 a0_2 _ _ l1 t132 t135 _ (xd_ (Kd.arz HR1.out HB.out)) (HC1.out) A3.out).mono ?_); rintro e w17 ⟨v133, rfl, ho0, hb⟩; refine ⟨_, rfl, ?_⟩; have n_ := And.intro (Aside0.mk (Kd.N_lower (Kd.N_mono (ok' := fun k_ => (w.heap.size ≤ k_) ∧ k_ ≠ gb131) (Kd.S_N (Kd.bcz ho0)) (fun k_ hk_ => ⟨(Nat.le_trans (aVz bl_) hk_.2.1), (Kd.freshB (g := gb131) (o := .cells #[.int .i64 a0_0, .int .i64 a0_1, .int .i64 a0_2] 23 (0, 0)) bk_ k_ hk_.2.1)⟩)) (aVz bl_))) (And.intro (bb_ BK131 hb) (hs_ HB hb)); clear BK131 HB; obtain ⟨HO134, BK131, HB⟩ := n_; clear hb ho0))
  go_ret2
  exact ⟨_, er_, nl_, bl_⟩
 rw [if_pos c4] at H
 have c4b0 : (t135 == 0) = true := beq_iff_eq.mpr c4
 have c4b1 : (t135 != 0) = false := bne_eq_false_iff_eq.mpr c4
 clear c4
 obtain ⟨⟨t136, t139⟩, A5, H⟩ := ob_ H
 (try dsimp only at H)
 by_cases c6 : t132.length + t136.length < 5864062014805
 rotate_left
 ·rw [if_neg c6] at H
  exact absurd H (by simp)
 rw [if_pos c6] at H
 have LMc6 := Aside0.mk c6
 clear c6
 obtain ⟨y140, hy140⟩ : ∃ y_ : List (List Int), y_ = (t132 ++ t136) := ⟨_, rfl⟩
 first | rw [Option.bind_some, ← hy140] at H | rw [← hy140] at H
 (try dsimp only at H)
 have Ny140 := Aside0.mk hy140
 clear hy140
 simp only [Option.some.injEq, Prod.mk.injEq] at H
 obtain ⟨rfl, rfl⟩ := H
 go_enter Tryz.func24, Tryz.ntmps24
 go_wp2_with (first | ((with_reducible refine aCz (N := 2) rfl ?_); refine bx_ 2 #[.int .i64 a0_0, .int .i64 a0_1, .int .i64 a0_2] 23 ?_; intro gb131 hg w7 hbox hb; have n_ := And.intro (hs_ HB hb) (And.intro (Aside0.mk (hbox)) (And.intro (ag_ HB gb131) (ag_ HB gb131))); clear HB; obtain ⟨HB, BK131, GW131, GE131⟩ := n_; clear hb hbox hg; obtain ⟨hcz8_0, hfz8_0, hcz8_1, hfz8_1, hcz8_2, hfz8_2⟩ := bc3_ BK131.out) | ((with_reducible refine acz (f := 55) rfl ?_); refine gl_ (some 12) Tryz.func55 #[.agg #[.int .i64 a0_0, .int .i64 a0_1, .int .i64 a0_2], .slice A1 l1.length c1] ?_; (with_reducible refine (aOz.calls k a0_0 a0_1 a0_2 _ _ l1 t132 t135 _ (xd_ (Kd.arz HR1.out HB.out)) (HC1.out) A3.out).mono ?_); rintro e w9 ⟨v133, rfl, ho0, hb⟩; refine ⟨_, rfl, ?_⟩; have n_ := And.intro (Aside0.mk (Kd.N_lower (Kd.N_mono (ok' := fun k_ => (w.heap.size ≤ k_) ∧ k_ ≠ gb131) (Kd.S_N (Kd.bcz ho0)) (fun k_ hk_ => ⟨(Nat.le_trans (aVz bl_) hk_.2.1), (Kd.freshB (g := gb131) (o := .cells #[.int .i64 a0_0, .int .i64 a0_1, .int .i64 a0_2] 23 (0, 0)) bk_ k_ hk_.2.1)⟩)) (aVz bl_))) (And.intro (bb_ BK131 hb) (hs_ HB hb)); clear BK131 HB; obtain ⟨HO134, BK131, HB⟩ := n_; clear hb ho0; obtain ⟨hcz10_0, hfz10_0, hcz10_1, hfz10_1, hcz10_2, hfz10_2⟩ := bc3_ BK131.out; obtain ⟨Ao11, co11, eo11⟩ := Kd.N_slice HO134.out; subst eo11) | ((with_reducible refine acz (f := 19) rfl ?_); refine gl_ (some 21) Tryz.func19 #[.agg #[.int .i64 a0_0, .int .i64 a0_1, .int .i64 a0_2], .slice Ao11 t132.length co11] ?_; (with_reducible refine (ahz.calls k a0_0 a0_1 a0_2 _ _ t132 t136 t139 _ (xd_ (Kd.djz HO134.out).2.2) ((Kd.djz HO134.out).2.1) A5.out).mono ?_); rintro e w12 ⟨v137, rfl, ho0, hb⟩; refine ⟨_, rfl, ?_⟩; have n_ := And.intro (Aside0.mk (Kd.N_elder' (xd_ HO134.out) (Kd.S_base ho0) hb)) (And.intro (Aside0.mk (Kd.N_lower (Kd.N_mono (ok' := fun k_ => (w.heap.size ≤ k_) ∧ some k_ ≠ (.slice Ao11 t132.length co11 : Value).ownBlock ∧ k_ ≠ gb131) (Kd.S_N (Kd.bcz ho0)) (fun k_ hk_ => ⟨(Nat.le_trans (aVz bl_) hk_.2.1), (Kd.fresh' (Kd.N_lt (xd_ HO134.out)) k_ hk_.2.1), (Kd.freshB (g := gb131) (o := .cells #[.int .i64 a0_0, .int .i64 a0_1, .int .i64 a0_2] 23 (0, 0)) bk_ k_ hk_.2.1)⟩)) (aVz bl_))) (And.intro (bb_ BK131 hb) (hs_ HB hb))); clear HO134 BK131 HB; obtain ⟨HO134, HO138, BK131, HB⟩ := n_; clear hb ho0; obtain ⟨Ao14, co14, eo14⟩ := Kd.N_slice HO138.out; subst eo14) | ((with_reducible refine aqz (b := .append) (xs := #[.tmp 24, .tmp 25]) rfl ?_); at_builtin; refine Kd.N_append_rows (Kd.slice 5 (Kd.int .u8)) (w0 := w) w.heap.size rfl (.tmp 24) (.tmp 25) 24 34 (.slice none 0 0) 24 rfl Tryz.underlying24 info34 rfl (by decide) (by omega) (.slice Ao11 t132.length co11) t132 t136 _ _ _ (fun k_ => (w.heap.size ≤ k_) ∧ k_ ≠ gb131) (fun k_ => ((fun k_ => (w.heap.size ≤ k_) ∧ k_ ≠ gb131)) k_ ∧ some k_ ≠ (.slice Ao11 t132.length co11 : Value).ownBlock) rfl rfl ?aO ?aR (fun _ hk => hk) ?aF ?aB ?aS ?aL ?_; (case aR => exact (by skip; exact Kd.N_F (Kd.N_mono (ok' := (fun k_ => ((fun k_ => (w.heap.size ≤ k_) ∧ k_ ≠ gb131)) k_ ∧ some k_ ≠ (.slice Ao11 t132.length co11 : Value).ownBlock)) (HO138.out) (fun k_ hk => ⟨⟨hk.1, hk.2.2⟩, hk.2.1⟩)))); (case aB => exact bl_); (case aF => exact (fun k_ hk => ⟨(Nat.le_trans (aVz bl_) hk), Kd.freshB (g := gb131) (o := .cells #[.int .i64 a0_0, .int .i64 a0_1, .int .i64 a0_2] 23 (0, 0)) bk_ k_ hk⟩)); (case aO => exact (nm_ HO134)); (case aS => exact (aVz bl_)); (case aL => have := LMc6.out; omega); intro v141 w13 ho hb hg hat; rw [← Ny140.out] at ho; have n_ := And.intro (Aside0.mk (blk_grown (g := gb131) (o := .cells #[.int .i64 a0_0, .int .i64 a0_1, .int .i64 a0_2] 23 (0, 0)) bk_ hg (Kd.N_ne HO134.out BK131.out (by decide)))) (And.intro (Aside0.mk (Kd.N_afterv (ok := (fun k_ => (w.heap.size ≤ k_) ∧ k_ ≠ gb131)) (nm_ HO138) hg hat)) (And.intro (Aside0.mk (hb)) (Aside0.mk (ho)))); clear BK131 HO138 HB HO134; obtain ⟨BK131, HO138, HB, HO142⟩ := n_; clear ho hb hg hat))
 go_ret2
 exact ⟨_, er_, nm_ HO142, bl_⟩
def aPz.f (l0_0 : List (List Int)) (a0_1 : Int) (a1 : Int) : Option (Int × Int × Int) := some (a1, a0_1, wrap64 ((l0_0.length : Int) - a0_1))
set_option maxHeartbeats 8000000 in
set_option maxRecDepth 100000 in
theorem aPz.calls (A0_0 : Option Addr) (c0_0 : Nat) (l0_0 : List (List Int)) (a0_1 : Int) (a1 : Int) (r1 : Int) (r2 : Int) (r3 : Int) (w : World) (hr0_0 : Kd.C (Kd.slice 5 (Kd.int .u8)) w A0_0 l0_0.length l0_0) (hc0_0 : l0_0.length ≤ c0_0) (h : aPz.f l0_0 a0_1 a1 = some (r1, r2, r3)) :
  Calls Tryz.prog 109 #[.agg #[.slice A0_0 l0_0.length c0_0, .int .i64 a0_1], .int .i64 a1] w fun e w' => e = .returned (.agg #[.int .i64 r1, .int .i64 r2, .int .i64 r3]) ∧ Below w.heap.size w w' := by
 have hu106 := Tryz.underlying106
 have hu23 := Tryz.underlying23
 have HR0_0 := Aside0.mk hr0_0
 have HC0_0 := Aside0.mk hc0_0
 clear hr0_0 hc0_0
 have HB := Aside0.mk (Below.refl w.heap.size w)
 have H := h
 clear h
 unfold aPz.f at H
 simp only [Option.some.injEq, Prod.mk.injEq] at H
 obtain ⟨rfl, rfl, rfl⟩ := H
 go_enter Tryz.func109, Tryz.ntmps109
 go_wp2_with (first | ((with_reducible refine aCz (N := 2) rfl ?_); refine bx_ 2 #[.slice A0_0 l0_0.length c0_0, .int .i64 a0_1] 106 ?_; intro gb154 hg w3 hbox hb; have n_ := And.intro (hs_ HB hb) (And.intro (Aside0.mk (hbox)) (And.intro (ag_ HB gb154) (ag_ HB gb154))); clear HB; obtain ⟨HB, BK154, GW154, GE154⟩ := n_; clear hb hbox hg) | ((with_reducible refine aCz (N := 4) rfl ?_); refine bx_ 4 #[.int .i64 0, .int .i64 0, .int .i64 0] 23 ?_; intro gb155 hg w4 hbox hb; have n_ := And.intro (bb_ BK154 hb) (And.intro (hs_ HB hb) (And.intro (Aside0.mk (hbox)) (And.intro (ag_ HB gb155) (And.intro (ag_ HB gb155) (And.intro (n1_ BK154 gb155) (n2_ BK154 gb155)))))); clear BK154 HB; obtain ⟨BK154, HB, BK155, GW155, GE155, NB154_155, NB155_154⟩ := n_; clear hb hbox hg; have hnb5 := NB154_155.out; have hnc5 := NB155_154.out; obtain ⟨hcz6_0, hfz6_0, hcz6_1, hfz6_1⟩ := bc2_ BK154.out; obtain ⟨hcz7_0, hfz7_0, hcz7_1, hfz7_1, hcz7_2, hfz7_2⟩ := bc3_ BK155.out))
 refine bodyPost_ret (results_cell_row rfl _ _ gb155 23 #[.int .i64 a1, .int .i64 a0_1, .int .i64 (wrap64 ((l0_0.length : Int) - a0_1))] (0, 0) _ rfl (by (with_reducible repeat (first | refine axz ?_ _ | refine aBz ?_ | refine aiz ?_ _)); refine bbz (cs := #[.int .i64 a1, .int .i64 a0_1, .int .i64 0]) ?_ 2 _ rfl; (with_reducible repeat (first | refine axz ?_ _ | refine aBz ?_ | refine aiz ?_ _)); refine bbz (cs := #[.int .i64 a1, .int .i64 0, .int .i64 0]) ?_ 1 _ rfl; (with_reducible repeat (first | refine axz ?_ _ | refine aBz ?_ | refine aiz ?_ _)); refine bbz (cs := #[.int .i64 0, .int .i64 0, .int .i64 0]) ?_ 0 _ rfl; (with_reducible repeat (first | refine axz ?_ _ | refine aBz ?_ | refine aiz ?_ _)); exact BK155.out) Tryz.underlying23 rfl kr_) rfl ?_
 exact ⟨er_, bl_⟩
def aRz.f (k : Nat) (l0_0 : List (List Int)) (a0_1 : Int) (a1 : Int) : Option (Bool) := if 0 < (l0_0.length : Int) then ((anz.f k a1 8 1 0).bind fun bt158 => (if ((rd_L1 l0_0 0).length : Int) > 0 then (if bt158.1 = 0 then (none) else (some ((((rd_L1 l0_0 0).length : Int) % bt158.1) == 0))) else (some false))) else (none)
set_option maxHeartbeats 8000000 in
set_option maxRecDepth 100000 in
theorem aRz.calls (k : Nat) (A0_0 : Option Addr) (c0_0 : Nat) (l0_0 : List (List Int)) (a0_1 : Int) (a1 : Int) (r : Bool) (w : World) (hr0_0 : Kd.C (Kd.slice 5 (Kd.int .u8)) w A0_0 l0_0.length l0_0) (hc0_0 : l0_0.length ≤ c0_0) (h : aRz.f k l0_0 a0_1 a1 = some r) :
  Calls Tryz.prog 110 #[.agg #[.slice A0_0 l0_0.length c0_0, .int .i64 a0_1], .int .i64 a1] w fun e w' => e = .returned (.bool r) ∧ Below w.heap.size w w' := by
 have hu106 := Tryz.underlying106
 have hu23 := Tryz.underlying23
 have HR0_0 := Aside0.mk hr0_0
 have HC0_0 := Aside0.mk hc0_0
 clear hr0_0 hc0_0
 have HB := Aside0.mk (Below.refl w.heap.size w)
 have H := h
 clear h
 unfold aRz.f at H
 by_cases c3 : 0 < (l0_0.length : Int)
 rotate_left
 ·rw [if_neg c3] at H
  exact absurd H (by simp)
 rw [if_pos c3] at H
 have c3b0 := decide_eq_true c3
 have c3b1 : decide (0 < l0_0.length) = true := decide_eq_true (by omega)
 clear c3
 obtain ⟨⟨t158, t159⟩, A4, H⟩ := ob_ H
 (try dsimp only at H)
 by_cases c5 : ((rd_L1 l0_0 0).length : Int) > 0
 rotate_left
 ·rw [if_neg c5] at H
  have c5b0 : decide (0 < ((rd_L1 l0_0 0).length : Int)) = false := decide_eq_false c5
  have c5b1 : decide (0 < (rd_L1 l0_0 0).length) = false := decide_eq_false (by omega)
  clear c5
  obtain rfl := Option.some.inj H
  go_enter Tryz.func110, Tryz.ntmps110
  go_wp2_with (first | ((with_reducible refine aCz (N := 2) rfl ?_); refine bx_ 2 #[.slice A0_0 l0_0.length c0_0, .int .i64 a0_1] 106 ?_; intro gb156 hg w10 hbox hb; have n_ := And.intro (hs_ HB hb) (And.intro (Aside0.mk (hbox)) (And.intro (ag_ HB gb156) (ag_ HB gb156))); clear HB; obtain ⟨HB, BK156, GW156, GE156⟩ := n_; clear hb hbox hg; obtain ⟨hcz11_0, hfz11_0, hcz11_1, hfz11_1⟩ := bc2_ BK156.out; have p157 : 0 ≤ (0 : Int) := (by omega); have q157 : 0 < (l0_0.length : Int) := of_decide_eq_true as_; obtain ⟨ad157, A157_0, c157_0, e157, hx157_0, hl157_0, hi157_0⟩ := at_L1 HR0_0.out 0 p157 q157; cases e157; have qi157 : (0 < l0_0.length) = True := eq_true (by omega); (try rw [show ((0 : Int)).toNat = 0 from rfl] at hx157_0); (try rw [Addr.add_zero'] at hx157_0); replace hx157_0 := (HB.out.cell (World.block_lt_of_cell? w _ hx157_0)).trans hx157_0; have HR157_0 := Aside0.mk hi157_0; have HC157_0 := Aside0.mk hl157_0; clear hi157_0 hl157_0; replace p157 := eq_true p157; replace q157 := eq_true q157) | ((with_reducible refine acz (f := 88) rfl ?_); refine gl_ (some 16) Tryz.func88 #[.agg #[.int .i64 a1, .int .i64 8, .int .i64 1], .int .i64 0] ?_; (with_reducible refine (anz.calls k a1 8 1 0 t158 t159 _ A4.out).mono ?_); rintro e w12 ⟨rfl, hb⟩; refine ⟨_, rfl, ?_⟩; have n_ := And.intro (bb_ BK156 hb) (hs_ HB hb); clear BK156 HB; obtain ⟨BK156, HB⟩ := n_; (try clear hb)))
  go_ret
  exact ⟨er_, bl_⟩
 rw [if_pos c5] at H
 have c5b0 : decide (0 < ((rd_L1 l0_0 0).length : Int)) = true := decide_eq_true c5
 have c5b1 : decide (0 < (rd_L1 l0_0 0).length) = true := decide_eq_true (by omega)
 clear c5
 by_cases c6 : t158 = 0
 ·rw [if_pos c6] at H
  exact absurd H (by simp)
 ·rw [if_neg c6] at H
  have c6b0 : (t158 == 0) = false := beq_eq_false_iff_ne.mpr c6
  have c6b1 : (t158 != 0) = true := bne_iff_ne.mpr c6
  obtain rfl := Option.some.inj H
  go_enter Tryz.func110, Tryz.ntmps110
  go_wp2_with (first | ((with_reducible refine aCz (N := 2) rfl ?_); refine bx_ 2 #[.slice A0_0 l0_0.length c0_0, .int .i64 a0_1] 106 ?_; intro gb156 hg w7 hbox hb; have n_ := And.intro (hs_ HB hb) (And.intro (Aside0.mk (hbox)) (And.intro (ag_ HB gb156) (ag_ HB gb156))); clear HB; obtain ⟨HB, BK156, GW156, GE156⟩ := n_; clear hb hbox hg; obtain ⟨hcz8_0, hfz8_0, hcz8_1, hfz8_1⟩ := bc2_ BK156.out; have p157 : 0 ≤ (0 : Int) := (by omega); have q157 : 0 < (l0_0.length : Int) := of_decide_eq_true as_; obtain ⟨ad157, A157_0, c157_0, e157, hx157_0, hl157_0, hi157_0⟩ := at_L1 HR0_0.out 0 p157 q157; cases e157; have qi157 : (0 < l0_0.length) = True := eq_true (by omega); (try rw [show ((0 : Int)).toNat = 0 from rfl] at hx157_0); (try rw [Addr.add_zero'] at hx157_0); replace hx157_0 := (HB.out.cell (World.block_lt_of_cell? w _ hx157_0)).trans hx157_0; have HR157_0 := Aside0.mk hi157_0; have HC157_0 := Aside0.mk hl157_0; clear hi157_0 hl157_0; replace p157 := eq_true p157; replace q157 := eq_true q157) | ((with_reducible refine acz (f := 88) rfl ?_); refine gl_ (some 16) Tryz.func88 #[.agg #[.int .i64 a1, .int .i64 8, .int .i64 1], .int .i64 0] ?_; (with_reducible refine (anz.calls k a1 8 1 0 t158 t159 _ A4.out).mono ?_); rintro e w9 ⟨rfl, hb⟩; refine ⟨_, rfl, ?_⟩; have n_ := And.intro (bb_ BK156 hb) (hs_ HB hb); clear BK156 HB; obtain ⟨BK156, HB⟩ := n_; (try clear hb)))
  go_ret
  exact ⟨er_, bl_⟩
def asz.f (k : Nat) (l0_0 : List (List Int)) (a0_1 : Int) (a1 : Int) : Option (Bool) := (aPz.f l0_0 a0_1 a1).bind fun bt161 => ((adz.f bt161.1 bt161.2.1 bt161.2.2).bind fun t165 => (if t165 = true then ((aRz.f k l0_0 a0_1 a1).bind fun t166 => (if t166 = true then ((aNz.f k bt161.1 bt161.2.1 bt161.2.2 l0_0).bind fun t167 => (some t167)) else (some false))) else (some false)))
set_option maxHeartbeats 8000000 in
set_option maxRecDepth 100000 in
theorem asz.calls (k : Nat) (A0_0 : Option Addr) (c0_0 : Nat) (l0_0 : List (List Int)) (a0_1 : Int) (a1 : Int) (r : Bool) (w : World) (hr0_0 : Kd.C (Kd.slice 5 (Kd.int .u8)) w A0_0 l0_0.length l0_0) (hc0_0 : l0_0.length ≤ c0_0) (h : asz.f k l0_0 a0_1 a1 = some r) :
  Calls Tryz.prog 72 #[.agg #[.slice A0_0 l0_0.length c0_0, .int .i64 a0_1], .int .i64 a1] w fun e w' => e = .returned (.bool r) ∧ Below w.heap.size w w' := by
 have hu106 := Tryz.underlying106
 have hu23 := Tryz.underlying23
 have HR0_0 := Aside0.mk hr0_0
 have HC0_0 := Aside0.mk hc0_0
 clear hr0_0 hc0_0
 have HB := Aside0.mk (Below.refl w.heap.size w)
 have H := h
 clear h
 unfold asz.f at H
 obtain ⟨⟨t161, t162, t163⟩, A3, H⟩ := ob_ H
 (try dsimp only at H)
 obtain ⟨t165, A4, H⟩ := ob_ H
 (try dsimp only at H)
 by_cases c5 : t165 = true
 rotate_left
 ·replace c5 := Bool.eq_false_iff.mpr c5
  subst c5
  rw [if_neg (show ¬ (false = true) by decide)] at H
  obtain rfl := Option.some.inj H
  go_enter Tryz.func72, Tryz.ntmps72
  go_wp2_with (first | ((with_reducible refine aCz (N := 2) rfl ?_); refine bx_ 2 #[.slice A0_0 l0_0.length c0_0, .int .i64 a0_1] 106 ?_; intro gb160 hg w30 hbox hb; have n_ := And.intro (hs_ HB hb) (And.intro (Aside0.mk (hbox)) (And.intro (ag_ HB gb160) (ag_ HB gb160))); clear HB; obtain ⟨HB, BK160, GW160, GE160⟩ := n_; clear hb hbox hg; obtain ⟨hcz31_0, hfz31_0, hcz31_1, hfz31_1⟩ := bc2_ BK160.out) | ((with_reducible refine acz (f := 109) rfl ?_); refine gl_ (some 8) Tryz.func109 #[.agg #[.slice A0_0 l0_0.length c0_0, .int .i64 a0_1], .int .i64 a1] ?_; (with_reducible refine (aPz.calls _ _ l0_0 a0_1 a1 t161 t162 t163 _ (xd_ (Kd.arz HR0_0.out HB.out)) (HC0_0.out) A3.out).mono ?_); rintro e w32 ⟨rfl, hb⟩; refine ⟨_, rfl, ?_⟩; have n_ := And.intro (bb_ BK160 hb) (hs_ HB hb); clear BK160 HB; obtain ⟨BK160, HB⟩ := n_; (try clear hb)) | ((with_reducible refine aCz (N := 5) rfl ?_); refine bx_ 5 #[.int .i64 0, .int .i64 0, .int .i64 0] 23 ?_; intro gb164 hg w33 hbox hb; have n_ := And.intro (bb_ BK160 hb) (And.intro (hs_ HB hb) (And.intro (Aside0.mk (hbox)) (And.intro (ag_ HB gb164) (And.intro (ag_ HB gb164) (And.intro (n1_ BK160 gb164) (n2_ BK160 gb164)))))); clear BK160 HB; obtain ⟨BK160, HB, BK164, GW164, GE164, NB160_164, NB164_160⟩ := n_; clear hb hbox hg; have hnb34 := NB164_160.out; have hnc34 := NB160_164.out; obtain ⟨hcz35_0, hfz35_0, hcz35_1, hfz35_1, hcz35_2, hfz35_2⟩ := bc3_ BK164.out) | ((with_reducible refine acz (f := 41) rfl ?_); refine gl_ (some 10) Tryz.func41 #[.agg #[.int .i64 t161, .int .i64 t162, .int .i64 t163]] ?_; (with_reducible refine (adz.calls t161 t162 t163 false _ A4.out).mono ?_); rintro e w36 ⟨rfl, hb⟩; refine ⟨_, rfl, ?_⟩; have n_ := And.intro (Aside0.mk (aez (g := gb160) (o := .cells #[.slice A0_0 l0_0.length c0_0, .int .i64 a0_1] 106 (0, 0)) (by (with_reducible repeat (first | refine axz ?_ _ | refine aBz ?_ | refine aiz ?_ _)); refine azz ?_ NB160_164.out _; (with_reducible repeat (first | refine axz ?_ _ | refine aBz ?_ | refine aiz ?_ _)); refine azz ?_ NB160_164.out _; (with_reducible repeat (first | refine axz ?_ _ | refine aBz ?_ | refine aiz ?_ _)); refine azz ?_ NB160_164.out _; (with_reducible repeat (first | refine axz ?_ _ | refine aBz ?_ | refine aiz ?_ _)); exact BK160.out) hb)) (And.intro (Aside0.mk (aez (g := gb164) (o := .cells #[.int .i64 t161, .int .i64 t162, .int .i64 t163] 23 (0, 0)) (by (with_reducible repeat (first | refine axz ?_ _ | refine aBz ?_ | refine aiz ?_ _)); refine bbz (cs := #[.int .i64 t161, .int .i64 t162, .int .i64 0]) ?_ 2 _ rfl; (with_reducible repeat (first | refine axz ?_ _ | refine aBz ?_ | refine aiz ?_ _)); refine bbz (cs := #[.int .i64 t161, .int .i64 0, .int .i64 0]) ?_ 1 _ rfl; (with_reducible repeat (first | refine axz ?_ _ | refine aBz ?_ | refine aiz ?_ _)); refine bbz (cs := #[.int .i64 0, .int .i64 0, .int .i64 0]) ?_ 0 _ rfl; (with_reducible repeat (first | refine axz ?_ _ | refine aBz ?_ | refine aiz ?_ _)); exact BK164.out) hb)) (hs_ HB hb)); clear BK160 BK164 HB; obtain ⟨BK160, BK164, HB⟩ := n_; (try clear hb)))
  go_ret
  exact ⟨er_, bl_⟩
 subst c5
 rw [if_pos rfl] at H
 obtain ⟨t166, A6, H⟩ := ob_ H
 (try dsimp only at H)
 by_cases c7 : t166 = true
 ·subst c7
  rw [if_pos rfl] at H
  obtain ⟨t167, A8, H⟩ := ob_ H
  (try dsimp only at H)
  obtain rfl := Option.some.inj H
  go_enter Tryz.func72, Tryz.ntmps72
  go_wp2_with (first | ((with_reducible refine aCz (N := 2) rfl ?_); refine bx_ 2 #[.slice A0_0 l0_0.length c0_0, .int .i64 a0_1] 106 ?_; intro gb160 hg w9 hbox hb; have n_ := And.intro (hs_ HB hb) (And.intro (Aside0.mk (hbox)) (And.intro (ag_ HB gb160) (ag_ HB gb160))); clear HB; obtain ⟨HB, BK160, GW160, GE160⟩ := n_; clear hb hbox hg; obtain ⟨hcz10_0, hfz10_0, hcz10_1, hfz10_1⟩ := bc2_ BK160.out) | ((with_reducible refine acz (f := 109) rfl ?_); refine gl_ (some 8) Tryz.func109 #[.agg #[.slice A0_0 l0_0.length c0_0, .int .i64 a0_1], .int .i64 a1] ?_; (with_reducible refine (aPz.calls _ _ l0_0 a0_1 a1 t161 t162 t163 _ (xd_ (Kd.arz HR0_0.out HB.out)) (HC0_0.out) A3.out).mono ?_); rintro e w11 ⟨rfl, hb⟩; refine ⟨_, rfl, ?_⟩; have n_ := And.intro (bb_ BK160 hb) (hs_ HB hb); clear BK160 HB; obtain ⟨BK160, HB⟩ := n_; (try clear hb)) | ((with_reducible refine aCz (N := 5) rfl ?_); refine bx_ 5 #[.int .i64 0, .int .i64 0, .int .i64 0] 23 ?_; intro gb164 hg w12 hbox hb; have n_ := And.intro (bb_ BK160 hb) (And.intro (hs_ HB hb) (And.intro (Aside0.mk (hbox)) (And.intro (ag_ HB gb164) (And.intro (ag_ HB gb164) (And.intro (n1_ BK160 gb164) (n2_ BK160 gb164)))))); clear BK160 HB; obtain ⟨BK160, HB, BK164, GW164, GE164, NB160_164, NB164_160⟩ := n_; clear hb hbox hg; have hnb13 := NB164_160.out; have hnc13 := NB160_164.out; obtain ⟨hcz14_0, hfz14_0, hcz14_1, hfz14_1, hcz14_2, hfz14_2⟩ := bc3_ BK164.out) | ((with_reducible refine acz (f := 41) rfl ?_); refine gl_ (some 10) Tryz.func41 #[.agg #[.int .i64 t161, .int .i64 t162, .int .i64 t163]] ?_; (with_reducible refine (adz.calls t161 t162 t163 true _ A4.out).mono ?_); rintro e w15 ⟨rfl, hb⟩; refine ⟨_, rfl, ?_⟩; have n_ := And.intro (Aside0.mk (aez (g := gb160) (o := .cells #[.slice A0_0 l0_0.length c0_0, .int .i64 a0_1] 106 (0, 0)) (by (with_reducible repeat (first | refine axz ?_ _ | refine aBz ?_ | refine aiz ?_ _)); refine azz ?_ NB160_164.out _; (with_reducible repeat (first | refine axz ?_ _ | refine aBz ?_ | refine aiz ?_ _)); refine azz ?_ NB160_164.out _; (with_reducible repeat (first | refine axz ?_ _ | refine aBz ?_ | refine aiz ?_ _)); refine azz ?_ NB160_164.out _; (with_reducible repeat (first | refine axz ?_ _ | refine aBz ?_ | refine aiz ?_ _)); exact BK160.out) hb)) (And.intro (Aside0.mk (aez (g := gb164) (o := .cells #[.int .i64 t161, .int .i64 t162, .int .i64 t163] 23 (0, 0)) (by (with_reducible repeat (first | refine axz ?_ _ | refine aBz ?_ | refine aiz ?_ _)); refine bbz (cs := #[.int .i64 t161, .int .i64 t162, .int .i64 0]) ?_ 2 _ rfl; (with_reducible repeat (first | refine axz ?_ _ | refine aBz ?_ | refine aiz ?_ _)); refine bbz (cs := #[.int .i64 t161, .int .i64 0, .int .i64 0]) ?_ 1 _ rfl; (with_reducible repeat (first | refine axz ?_ _ | refine aBz ?_ | refine aiz ?_ _)); refine bbz (cs := #[.int .i64 0, .int .i64 0, .int .i64 0]) ?_ 0 _ rfl; (with_reducible repeat (first | refine axz ?_ _ | refine aBz ?_ | refine aiz ?_ _)); exact BK164.out) hb)) (hs_ HB hb)); clear BK160 BK164 HB; obtain ⟨BK160, BK164, HB⟩ := n_; (try clear hb); obtain ⟨hcz16_0, hfz16_0, hcz16_1, hfz16_1⟩ := bc2_ BK160.out) | (go_at_call 110; (with_reducible refine (aRz.calls k _ _ l0_0 a0_1 a1 true _ (xd_ (Kd.arz HR0_0.out HB.out)) (HC0_0.out) A6.out).mono ?_); rintro e w17 ⟨rfl, hb⟩; have n_ := And.intro (bb_ BK160 hb) (And.intro (bb_ BK164 hb) (hs_ HB hb)); clear BK160 BK164 HB; obtain ⟨BK160, BK164, HB⟩ := n_; (try clear hb); obtain ⟨hcz18_0, hfz18_0, hcz18_1, hfz18_1, hcz18_2, hfz18_2⟩ := bc3_ BK164.out; obtain ⟨hcz19_0, hfz19_0, hcz19_1, hfz19_1⟩ := bc2_ BK160.out) | (go_at_call 22; (with_reducible refine (aNz.calls k t161 t162 t163 _ _ l0_0 t167 _ (xd_ (Kd.arz HR0_0.out HB.out)) (HC0_0.out) A8.out).mono ?_); rintro e w20 ⟨rfl, hb⟩; have n_ := And.intro (bb_ BK160 hb) (And.intro (bb_ BK164 hb) (hs_ HB hb)); clear BK160 BK164 HB; obtain ⟨BK160, BK164, HB⟩ := n_; (try clear hb)))
  go_ret
  exact ⟨er_, bl_⟩
 ·replace c7 := Bool.eq_false_iff.mpr c7
  subst c7
  rw [if_neg (show ¬ (false = true) by decide)] at H
  obtain rfl := Option.some.inj H
  go_enter Tryz.func72, Tryz.ntmps72
  go_wp2_with (first | ((with_reducible refine aCz (N := 2) rfl ?_); refine bx_ 2 #[.slice A0_0 l0_0.length c0_0, .int .i64 a0_1] 106 ?_; intro gb160 hg w21 hbox hb; have n_ := And.intro (hs_ HB hb) (And.intro (Aside0.mk (hbox)) (And.intro (ag_ HB gb160) (ag_ HB gb160))); clear HB; obtain ⟨HB, BK160, GW160, GE160⟩ := n_; clear hb hbox hg; obtain ⟨hcz22_0, hfz22_0, hcz22_1, hfz22_1⟩ := bc2_ BK160.out) | ((with_reducible refine acz (f := 109) rfl ?_); refine gl_ (some 8) Tryz.func109 #[.agg #[.slice A0_0 l0_0.length c0_0, .int .i64 a0_1], .int .i64 a1] ?_; (with_reducible refine (aPz.calls _ _ l0_0 a0_1 a1 t161 t162 t163 _ (xd_ (Kd.arz HR0_0.out HB.out)) (HC0_0.out) A3.out).mono ?_); rintro e w23 ⟨rfl, hb⟩; refine ⟨_, rfl, ?_⟩; have n_ := And.intro (bb_ BK160 hb) (hs_ HB hb); clear BK160 HB; obtain ⟨BK160, HB⟩ := n_; (try clear hb)) | ((with_reducible refine aCz (N := 5) rfl ?_); refine bx_ 5 #[.int .i64 0, .int .i64 0, .int .i64 0] 23 ?_; intro gb164 hg w24 hbox hb; have n_ := And.intro (bb_ BK160 hb) (And.intro (hs_ HB hb) (And.intro (Aside0.mk (hbox)) (And.intro (ag_ HB gb164) (And.intro (ag_ HB gb164) (And.intro (n1_ BK160 gb164) (n2_ BK160 gb164)))))); clear BK160 HB; obtain ⟨BK160, HB, BK164, GW164, GE164, NB160_164, NB164_160⟩ := n_; clear hb hbox hg; have hnb25 := NB164_160.out; have hnc25 := NB160_164.out; obtain ⟨hcz26_0, hfz26_0, hcz26_1, hfz26_1, hcz26_2, hfz26_2⟩ := bc3_ BK164.out) | ((with_reducible refine acz (f := 41) rfl ?_); refine gl_ (some 10) Tryz.func41 #[.agg #[.int .i64 t161, .int .i64 t162, .int .i64 t163]] ?_; (with_reducible refine (adz.calls t161 t162 t163 true _ A4.out).mono ?_); rintro e w27 ⟨rfl, hb⟩; refine ⟨_, rfl, ?_⟩; have n_ := And.intro (Aside0.mk (aez (g := gb160) (o := .cells #[.slice A0_0 l0_0.length c0_0, .int .i64 a0_1] 106 (0, 0)) (by (with_reducible repeat (first | refine axz ?_ _ | refine aBz ?_ | refine aiz ?_ _)); refine azz ?_ NB160_164.out _; (with_reducible repeat (first | refine axz ?_ _ | refine aBz ?_ | refine aiz ?_ _)); refine azz ?_ NB160_164.out _; (with_reducible repeat (first | refine axz ?_ _ | refine aBz ?_ | refine aiz ?_ _)); refine azz ?_ NB160_164.out _; (with_reducible repeat (first | refine axz ?_ _ | refine aBz ?_ | refine aiz ?_ _)); exact BK160.out) hb)) (And.intro (Aside0.mk (aez (g := gb164) (o := .cells #[.int .i64 t161, .int .i64 t162, .int .i64 t163] 23 (0, 0)) (by (with_reducible repeat (first | refine axz ?_ _ | refine aBz ?_ | refine aiz ?_ _)); refine bbz (cs := #[.int .i64 t161, .int .i64 t162, .int .i64 0]) ?_ 2 _ rfl; (with_reducible repeat (first | refine axz ?_ _ | refine aBz ?_ | refine aiz ?_ _)); refine bbz (cs := #[.int .i64 t161, .int .i64 0, .int .i64 0]) ?_ 1 _ rfl; (with_reducible repeat (first | refine axz ?_ _ | refine aBz ?_ | refine aiz ?_ _)); refine bbz (cs := #[.int .i64 0, .int .i64 0, .int .i64 0]) ?_ 0 _ rfl; (with_reducible repeat (first | refine axz ?_ _ | refine aBz ?_ | refine aiz ?_ _)); exact BK164.out) hb)) (hs_ HB hb)); clear BK160 BK164 HB; obtain ⟨BK160, BK164, HB⟩ := n_; (try clear hb); obtain ⟨hcz28_0, hfz28_0, hcz28_1, hfz28_1⟩ := bc2_ BK160.out) | (go_at_call 110; (with_reducible refine (aRz.calls k _ _ l0_0 a0_1 a1 false _ (xd_ (Kd.arz HR0_0.out HB.out)) (HC0_0.out) A6.out).mono ?_); rintro e w29 ⟨rfl, hb⟩; have n_ := And.intro (bb_ BK160 hb) (And.intro (bb_ BK164 hb) (hs_ HB hb)); clear BK160 BK164 HB; obtain ⟨BK160, BK164, HB⟩ := n_; (try clear hb)))
  go_ret
  exact ⟨er_, bl_⟩
def aIz.l0 : Nat → List Int → Int → Option (List Int)
 | 0, _, _ => none
 | k + 1, x1, x3 => if x3 < 6 then (if x1.length < 17592186044416 then (aIz.l0 k (x1 ++ [wrap64 (x3 + 1)]) (wrap64 (x3 + 1))) else (none)) else (some x1)
def aIz.f (k : Nat)  : Option (List Int) := aIz.l0 k ([] : List Int) 0
theorem aIz.cxz : ∀ k, (∀ y0 y1, LeO (aIz.l0 k y0 y1) (aIz.l0 (k + 1) y0 y1))
 | 0 => fun _ _ r h => by simp [aIz.l0] at h
 | k + 1 => by
  have ih0 := aIz.cxz k
  ·intro y0 y1
   unfold aIz.l0
   repeat' first
   | (with_reducible exact ih0 _ _)
   | (with_reducible exact LeO.refl _)
   | (with_reducible exact LeO.none _)
   | (with_reducible refine LeO.ite ?_ ?_)
   | (with_reducible refine LeO.bind ?_ (fun _ => ?_))
   | exact ih0 _ _
   | exact LeO.none _
   | refine LeO.ite ?_ ?_
   | refine LeO.bind ?_ (fun _ => ?_)
theorem aIz.mono : ∀ k, LeO (aIz.f k ) (aIz.f (k + 1) ) := by
 intro  k
 have ih0 := aIz.cxz k
 unfold aIz.f
 repeat' first
   | (with_reducible exact ih0 _ _)
   | (with_reducible exact LeO.refl _)
   | (with_reducible exact LeO.none _)
   | (with_reducible refine LeO.ite ?_ ?_)
   | (with_reducible refine LeO.bind ?_ (fun _ => ?_))
   | exact ih0 _ _
   | exact LeO.none _
   | refine LeO.ite ?_ ?_
   | refine LeO.bind ?_ (fun _ => ?_)
set_option maxHeartbeats 8000000 in
set_option maxRecDepth 100000 in
theorem aIz.calls (k : Nat)  (r : List Int) (w : World) (h : aIz.f k  = some r) :
  Calls Tryz.prog 73 #[] w fun e w' => ∃ v0_ : Value, e = .returned (v0_) ∧ Kd.R (Kd.int .i64) 3 w' w.heap.size (fun _ => True) v0_ r ∧ Below w.heap.size w w' := by
 have HB := Aside0.mk (Below.refl w.heap.size w)
 have H := h
 clear h
 unfold aIz.f at H
 have H' := Aside0.mk H
 clear H
 go_enter Tryz.func73, Tryz.ntmps73
 go_wp2
 go_loopg [1, 3] k (fun kq v1 v3 w' => ∃ (x1_1 : List Int) (x3_1 : Int), v3 = .int .i64 x3_1 ∧ Aside0 (aIz.l0 kq x1_1 x3_1 = some r) ∧ Aside0 (kq ≤ k) ∧ Aside0 (Kd.R (Kd.int .i64) 3 w' w.heap.size (fun _ => True) v1 x1_1) ∧ Aside0 (Below w.heap.size w w'))
 case atStart => exact ⟨(([] : List Int)), (0), sd_, H', ⟨Nat.le_refl _⟩, ⟨nl_⟩, ⟨bl_⟩⟩
 clear H'
 obtain ⟨x1_1, x3_1, rfl, HA, HK1, HO_1, HB⟩ := hrel
 rcases gk with _ | k1
 ·exact absurd HA.out (by simp [aIz.l0])
 have H := HA.out
 clear HA
 simp only [aIz.l0] at H
 by_cases c1 : x3_1 < 6
 rotate_left
 ·rw [if_neg c1] at H
  have c1b0 := decide_eq_false c1
  clear c1
  obtain rfl := Option.some.inj H
  go_wp2
  go_ret
  exact ⟨_, er_, xd_ HO_1.out, bl_⟩
 rw [if_pos c1] at H
 have c1b0 := decide_eq_true c1
 clear c1
 by_cases c2 : x1_1.length < 17592186044416
 rotate_left
 ·rw [if_neg c2] at H
  exact absurd H (by simp)
 rw [if_pos c2] at H
 have LMc2 := Aside0.mk c2
 clear c2
 obtain ⟨y168, hy168⟩ : ∃ y_ : List Int, y_ = (x1_1 ++ [wrap64 (x3_1 + 1)]) := ⟨_, rfl⟩
 first | rw [Option.bind_some, ← hy168] at H | rw [← hy168] at H
 (try dsimp only at H)
 have Ny168 := Aside0.mk hy168
 clear hy168
 have H' := Aside0.mk H
 clear H
 go_wp2_with (first | ((with_reducible refine aqz (b := .append) (xs := #[.tmp 6, .tmp 9]) rfl ?_); at_builtin; refine Kd.bzz (Kd.int .i64) (w0 := w) w.heap.size rfl (.tmp 6) (.tmp 9) 57 3 (.int .i64 0) 8 rfl Tryz.underlying57 info3 rfl (by decide) (by omega) u1 x1_1 (wrap64 (x3_1 + 1)) [.int .i64 (wrap64 (x3_1 + 1))] (fun _ => True) (fun _ => False) rfl rfl ?aP (fun _ hk => hk.elim) ?aF ?aO ?aB ?aS ?aL ?_; (case aP => exact rfl); (case aB => exact bl_); (case aF => exact (fun _ _ => trivial)); (case aO => exact (xd_ HO_1.out)); (case aS => exact (aVz bl_)); (case aL => have := LMc2.out; omega); intro v169 w3 ho hb hg hat; rw [← Ny168.out] at ho; have n_ := And.intro (Aside0.mk (hb)) (Aside0.mk (ho)); clear HB HO_1; obtain ⟨HB, HO170⟩ := n_; clear ho hb hg hat))
 go_roundg k1
 case measure => have := HK1.out; omega
 case rel => exact ⟨(y168), (wrap64 (x3_1 + 1)), sd_, H', ⟨by have := HK1.out; omega⟩, ⟨xd_ HO170.out⟩, ⟨bl_⟩⟩
def aHz.l (k : Nat) (l : List (List Int)) (a : Int) : List Int → List Int → Option (List Int)
 | [], acc => some acc
 | p :: ps, acc => (asz.f k l a p).bind fun b => aHz.l k l a ps (if b = true then acc ++ [p] else acc)
def aHz.f (k : Nat) (l0 : List (List Int)) (a1 : Int) : Option (List Int) := (aIz.f k).bind fun ps => if ps.length ≤ 1000 then aHz.l k l0 a1 ps [] else none
set_option maxRecDepth 100000 in
set_option maxHeartbeats 4000000 in
theorem aHz.calls (k : Nat) (A0 : Option Addr) (c0 : Nat) (l0 : List (List Int)) (a1 : Int) (r : List Int) (w : World) (hr0 : Kd.C (Kd.slice 5 (Kd.int .u8)) w A0 l0.length l0) (hc0 : l0.length ≤ c0) (h : aHz.f k l0 a1 = some r) :
  Calls Tryz.prog 39 #[.slice A0 l0.length c0, .int .i64 a1] w fun e w' => ∃ v0_ : Value, e = .returned (v0_) ∧ Kd.R (Kd.int .i64) 3 w' w.heap.size (fun _ => True) v0_ r ∧ Below w.heap.size w w' := by
 unfold aHz.f at h
 obtain ⟨ps, hps, h⟩ := Option.bind_eq_some_iff.1 h
 by_cases hpl : ps.length ≤ 1000
 rotate_left
 ·rw [if_neg hpl] at h; cases h
 rw [if_pos hpl] at h
 have HALL := Aside0.mk (aIz.calls k ps w hps)
 have HPA := Aside0.mk (fun (w1 : World) (p : Int) (b : Bool) (hB : Below w.heap.size w w1) (hp : asz.f k l0 a1 p = some b) => asz.calls k A0 c0 l0 a1 p b w1 (Kd.arz hr0 hB) hc0 hp)
 have HL := Aside0.mk h
 have HPL := Aside0.mk hpl
 have hmf : ∀ (fn : Fn) (first cap : Array Value) (w : World), (Instr.makeFunc fn first cap).run Tryz.prog w = .ok (.func fn first cap) w := fun _ _ _ _ => rfl
 obtain ⟨n0, hn0⟩ : ∃ n0, l0.length = n0 := ⟨_, rfl⟩
 rw [hn0] at HPA ⊢
 clear hr0 hc0 hps h hpl hn0
 go_enter Tryz.func39, Tryz.ntmps39
 go_wp2_with fail
 refine HALL.out.mono ?_
 rintro e w1 ⟨v, rfl, p1, p2⟩
 obtain ⟨A1, cp, rfl, lp, -⟩ := Kd.bRz p1
 have HC1 := Aside0.mk (Kd.aQz p1).2.2
 have HB1 := Aside0.mk p2
 obtain ⟨n, hn⟩ : ∃ n, ps.length = n := ⟨_, rfl⟩
 have HN := Aside0.mk hn
 have hn1000 : n ≤ 1000 := by have := HPL.out; omega
 rw [hn]
 clear p1 p2 lp HALL hn
 go_wp2
 go_loopw [6, 15] (fun v iv wr => ∃ (k' : Nat) (acc : List Int), k' ≤ n ∧ iv = .int .i64 (k' : Int) ∧ Aside0 (Kd.R (Kd.int .i64) 3 wr w1.heap.size (fun _ => True) v acc) ∧ Aside0 (Below w1.heap.size w1 wr) ∧ Aside0 (aHz.l k l0 a1 (ps.drop k') acc = some r) ∧ acc.length ≤ k') (fun _ iv _ => n - (intOf iv).toNat)
 case atStart => exact ⟨0, [], Nat.zero_le _, rfl, ⟨Kd.R_nil _ _ _ _ _⟩, ⟨Below.refl _ _⟩, HL, Nat.zero_le _⟩
 clear HL
 obtain ⟨w2, rfl⟩ : ∃ w2, w2 = wr := ⟨_, rfl⟩
 obtain ⟨k', acc, hk, rfl, HO, HB, HL, hacc⟩ := hrel
 by_cases hlt : k' < n
 ·obtain ⟨p, hp⟩ : ∃ x, ps[k']? = some x := ⟨_, List.getElem?_eq_getElem (by have := HN.out; omega)⟩
  have hdr : ps.drop k' = p :: ps.drop (k' + 1) := by
   obtain ⟨h1, h2⟩ := List.getElem?_eq_some_iff.1 hp
   rw [List.drop_eq_getElem_cons h1, h2]
  have hl := HL.out
  rw [hdr, aHz.l] at hl
  obtain ⟨b, hb, hl2⟩ := Option.bind_eq_some_iff.1 hl
  obtain ⟨ad, rfl, hcell⟩ := buz (Kd.arz HC1.out HB.out) k' p hp
  have HCP := Aside0.mk (HPA.out w2 p b (HB1.out.trans (HB.out.mono HB1.out.size)) hb)
  have HL2 := Aside0.mk hl2
  have HAC := Aside0.mk hacc
  have k1 : (0 : Int) ≤ (k' : Int) := by omega
  have k2 : (k' : Int) < (n : Int) := by omega
  clear hp hdr hl hl2 hb HL hacc
  go_wp2_with fail
  refine HCP.out.mono ?_
  rintro e w3 ⟨rfl, q1⟩
  have HB3 := Aside0.mk (HB.out.trans (q1.mono HB.out.size))
  have HO3 := Aside0.mk (Kd.cKz HO.out q1)
  clear q1 HCP HO hcell
  cases b with
  | true =>
   have hl3 := HL2.out
   rw [if_pos rfl] at hl3
   have HL3 := Aside0.mk hl3
   clear hl3 HL2
   go_wp2_with ((with_reducible refine aqz (b := .append) (xs := #[.tmp 22, .tmp 24]) rfl ?_); go_must (at_builtin; refine Kd.bzz (Kd.int .i64) (w0 := w1) w1.heap.size rfl (.tmp 22) (.tmp 24) 57 3 (.int .i64 0) 8 rfl Tryz.underlying57 kr_ rfl (by decide) (by decide) _ _ p [.int .i64 p] (fun _ => True) (fun _ => False) rfl rfl rfl (fun _ h => h.elim) (fun _ _ => trivial) HO3.out HB3.out HB3.out.size ?aL ?_; (case aL => have := HAC.out; omega)); intro v2 w4 ho2 hb2 hg2 hat2; have HO4 := Aside0.mk ho2; have HB4 := Aside0.mk hb2; clear ho2 hb2 hg2 hat2)
   go_roundw
   case rel => exact ⟨k' + 1, acc ++ [p], by omega, by go_num, HO4, HB4, HL3, by have := HAC.out; simp; omega⟩
   case measure => simp [intOf]; omega
  | false =>
   have hl3 := HL2.out
   rw [if_neg (by decide)] at hl3
   have HL3 := Aside0.mk hl3
   clear hl3 HL2
   go_wp2
   go_roundw
   case rel => exact ⟨k' + 1, acc, by omega, by go_num, HO3, HB3, HL3, by have := HAC.out; omega⟩
   case measure => simp [intOf]; omega
 ·obtain rfl : k' = n := by omega
  have hl := HL.out
  rw [List.drop_of_length_le (by have := HN.out; omega), aHz.l] at hl
  obtain rfl := Option.some.inj hl
  have HFN := Aside0.mk HO.out
  clear hl HL
  go_wp2
  go_ret
  exact ⟨_, rfl, Kd.baz HFN.out HB1.out.size, HB1.out.trans (HB.out.mono HB1.out.size)⟩
def aTz.f (k : Nat) (l0 : List (List Int)) (a1 : Int) : Option (Int × Int) := (aHz.f k l0 a1).bind fun t171 => (if (t171.length : Int) = 0 then (some (0, 4)) else (if (t171.length : Int) = 1 then (if 0 < (t171.length : Int) then (some (rd t171 0, 0)) else (none)) else (some (0, 6))))
set_option maxHeartbeats 8000000 in
set_option maxRecDepth 100000 in
theorem aTz.calls (k : Nat) (A0 : Option Addr) (c0 : Nat) (l0 : List (List Int)) (a1 : Int) (r1 : Int) (r2 : Int) (w : World) (hr0 : Kd.C (Kd.slice 5 (Kd.int .u8)) w A0 l0.length l0) (hc0 : l0.length ≤ c0) (h : aTz.f k l0 a1 = some (r1, r2)) :
  Calls Tryz.prog 36 #[.slice A0 l0.length c0, .int .i64 a1] w fun e w' => e = .returned (.tuple #[.int .i64 r1, .int .i64 r2]) ∧ Below w.heap.size w w' := by
 have HR0 := Aside0.mk hr0
 have HC0 := Aside0.mk hc0
 clear hr0 hc0
 have HB := Aside0.mk (Below.refl w.heap.size w)
 have H := h
 clear h
 unfold aTz.f at H
 obtain ⟨t171, A3, H⟩ := ob_ H
 (try dsimp only at H)
 by_cases c4 : (t171.length : Int) = 0
 ·rw [if_pos c4] at H
  have c4b0 : ((t171.length : Int) == 0) = true := beq_iff_eq.mpr c4
  have c4b1 : ((t171.length : Int) != 0) = false := bne_eq_false_iff_eq.mpr c4
  clear c4
  simp only [Option.some.injEq, Prod.mk.injEq] at H
  obtain ⟨rfl, rfl⟩ := H
  go_enter Tryz.func36, Tryz.ntmps36
  go_wp2_with (first | ((with_reducible refine acz (f := 39) rfl ?_); refine gl_ (some 9) Tryz.func39 #[.slice A0 l0.length c0, .int .i64 a1] ?_; (with_reducible refine (aHz.calls k _ _ l0 a1 t171 _ (xd_ HR0.out) (HC0.out) A3.out).mono ?_); rintro e w5 ⟨v172, rfl, ho0, hb⟩; refine ⟨_, rfl, ?_⟩; have n_ := And.intro (Aside0.mk (Kd.baz ho0 (aVz bl_))) (hs_ HB hb); clear HB; obtain ⟨HO173, HB⟩ := n_; clear hb ho0; obtain ⟨Ao6, co6, eo6⟩ := Kd.aWz HO173.out; subst eo6))
  go_ret2
  exact ⟨er_, bl_⟩
 ·rw [if_neg c4] at H
  have c4b0 : ((t171.length : Int) == 0) = false := beq_eq_false_iff_ne.mpr c4
  have c4b1 : ((t171.length : Int) != 0) = true := bne_iff_ne.mpr c4
  have c4b2 : ¬ (t171 = []) := fun h_ => c4 (by rw [h_]; rfl)
  by_cases c7 : (t171.length : Int) = 1
  rotate_left
  ·rw [if_neg c7] at H
   have c7b0 : ((t171.length : Int) == 1) = false := beq_eq_false_iff_ne.mpr c7
   have c7b1 : ((t171.length : Int) != 1) = true := bne_iff_ne.mpr c7
   simp only [Option.some.injEq, Prod.mk.injEq] at H
   obtain ⟨rfl, rfl⟩ := H
   go_enter Tryz.func36, Tryz.ntmps36
   go_wp2_with (first | ((with_reducible refine acz (f := 39) rfl ?_); refine gl_ (some 9) Tryz.func39 #[.slice A0 l0.length c0, .int .i64 a1] ?_; (with_reducible refine (aHz.calls k _ _ l0 a1 t171 _ (xd_ HR0.out) (HC0.out) A3.out).mono ?_); rintro e w11 ⟨v172, rfl, ho0, hb⟩; refine ⟨_, rfl, ?_⟩; have n_ := And.intro (Aside0.mk (Kd.baz ho0 (aVz bl_))) (hs_ HB hb); clear HB; obtain ⟨HO173, HB⟩ := n_; clear hb ho0; obtain ⟨Ao12, co12, eo12⟩ := Kd.aWz HO173.out; subst eo12))
   go_ret2
   exact ⟨er_, bl_⟩
  rw [if_pos c7] at H
  have c7b0 : ((t171.length : Int) == 1) = true := beq_iff_eq.mpr c7
  have c7b1 : ((t171.length : Int) != 1) = false := bne_eq_false_iff_eq.mpr c7
  clear c7
  by_cases c8 : 0 < (t171.length : Int)
  ·rw [if_pos c8] at H
   have c8b0 := decide_eq_true c8
   have c8b1 : decide (0 < t171.length) = true := decide_eq_true (by omega)
   clear c8
   simp only [Option.some.injEq, Prod.mk.injEq] at H
   obtain ⟨rfl, rfl⟩ := H
   go_enter Tryz.func36, Tryz.ntmps36
   go_wp2_with (first | ((with_reducible refine acz (f := 39) rfl ?_); refine gl_ (some 9) Tryz.func39 #[.slice A0 l0.length c0, .int .i64 a1] ?_; (with_reducible refine (aHz.calls k _ _ l0 a1 t171 _ (xd_ HR0.out) (HC0.out) A3.out).mono ?_); rintro e w9 ⟨v172, rfl, ho0, hb⟩; refine ⟨_, rfl, ?_⟩; have n_ := And.intro (Aside0.mk (Kd.baz ho0 (aVz bl_))) (hs_ HB hb); clear HB; obtain ⟨HO173, HB⟩ := n_; clear hb ho0; obtain ⟨Ao10, co10, eo10⟩ := Kd.aWz HO173.out; subst eo10; have p174 : 0 ≤ (0 : Int) := (by omega); have q174 : 0 < (t171.length : Int) := of_decide_eq_true as_; obtain ⟨ad174, e174, hx174_0⟩ := Kd.bTz (Kd.aQz HO173.out).2.2 0 p174 q174; cases e174; have qi174 : (0 < t171.length) = True := eq_true (by omega); (try rw [show ((0 : Int)).toNat = 0 from rfl] at hx174_0); (try rw [Addr.add_zero'] at hx174_0); replace p174 := eq_true p174; replace q174 := eq_true q174))
   go_ret2
   exact ⟨er_, bl_⟩
  ·rw [if_neg c8] at H
   exact absurd H (by simp)
mutual
def afz.l0 : Nat → List (List Int) → Int → Option (Bool)
 | 0, _, _ => none
 | k + 1, x0, x3 => if x3 < (x0.length : Int) then (afz.j1 k x0 x3 (decide (x3 < 13))) else (afz.j1 k x0 x3 false)
def afz.j1 : Nat → List (List Int) → Int → Bool → Option (Bool)
 | 0, _, _, _ => none
 | k + 1, x0, x3, x11 => if x11 = true then (if 0 ≤ x3 then (if x3 < (x0.length : Int) then (if ((rd_L1 x0 x3).length : Int) > 300 then (some false) else (afz.l0 k x0 (wrap64 (x3 + 1)))) else (none)) else (none)) else (some (decide ((x0.length : Int) ≤ 12)))
end
def afz.f (k : Nat) (l0 : List (List Int)) : Option (Bool) := afz.l0 k l0 0
set_option maxHeartbeats 8000000 in
set_option maxRecDepth 100000 in
theorem afz.calls (k : Nat) (A0 : Option Addr) (c0 : Nat) (l0 : List (List Int)) (r : Bool) (w : World) (hr0 : Kd.C (Kd.slice 5 (Kd.int .u8)) w A0 l0.length l0) (hc0 : l0.length ≤ c0) (h : afz.f k l0 = some r) :
  Calls Tryz.prog 18 #[.slice A0 l0.length c0] w fun e w' => e = .returned (.bool r) ∧ Drawn0 w w' := by
 have HR0 := Aside0.mk hr0
 have HC0 := Aside0.mk hc0
 clear hr0 hc0
 have H := h
 clear h
 unfold afz.f at H
 have H' := Aside0.mk H
 clear H
 go_enter Tryz.func18, Tryz.ntmps18
 go_wp2
 go_loopg [3] k (fun kq v3 w' => ∃ (x3_1 : Int), v3 = .int .i64 x3_1 ∧ Aside0 (afz.l0 kq l0 x3_1 = some r) ∧ Aside0 (kq ≤ k) ∧ Drawn0 w w')
 case atStart => exact ⟨(0), sd_, H', ⟨Nat.le_refl _⟩, dn_⟩
 clear H'
 try clear c1
 obtain ⟨x3_1, rfl, HA, HK1, ⟨m1, rfl⟩⟩ := hrel
 rcases gk with _ | k1
 ·exact absurd HA.out (by simp [afz.l0])
 have H := HA.out
 clear HA
 simp only [afz.l0] at H
 have HC2 := Aside0.mk H
 clear H
 go_upto_region 2 with (fail)
 go_cut [11] (fun v11 wc => ∃ (kq : Nat) (x11_1 : Bool), v11 = .bool x11_1 ∧ Aside0 (afz.j1 kq l0 x3_1 x11_1 = some r) ∧ Aside0 (kq ≤ k1) ∧ Drawn0 w wc)
 case first =>
  have H := HC2.out
  clear HC2
  by_cases c3 : x3_1 < (l0.length : Int)
  ·rw [if_pos c3] at H
   have c3b0 := decide_eq_true c3
   clear c3
   (first | rw [c3b0] | (simp only [i64_w, i32_w]; rw [c3b0]) | skip)
   have H' := Aside0.mk H
   clear H
   go_wp2
   go_meet
   case rel => exact ⟨_, (decide (x3_1 < 13)), sd_, H', ⟨by have := HK1.out; first | omega | exact Nat.le_refl _⟩, dn_⟩
  ·rw [if_neg c3] at H
   have c3b0 := decide_eq_false c3
   clear c3
   (first | rw [c3b0] | (simp only [i64_w, i32_w]; rw [c3b0]) | skip)
   have H' := Aside0.mk H
   clear H
   go_wp2
   go_meet
   case rel => exact ⟨_, (false), sd_, H', ⟨by have := HK1.out; first | omega | exact Nat.le_refl _⟩, dn_⟩
 case rest =>
  clear HC2
  try clear c1
  try clear p2
  try clear c3
  try clear c3b0
  obtain ⟨kq, x11_1, rfl, HA, HJ1, ⟨mc1, rfl⟩⟩ := hcut
  rcases kq with _ | kj1
  ·exact absurd HA.out (by simp [afz.j1])
  have H := HA.out
  clear HA
  simp only [afz.j1] at H
  by_cases c4 : x11_1 = true
  rotate_left
  ·replace c4 := Bool.eq_false_iff.mpr c4
   subst c4
   rw [if_neg (show ¬ (false = true) by decide)] at H
   obtain rfl := Option.some.inj H
   go_wp2
   go_ret
   exact ⟨sd_, dn_⟩
  subst c4
  rw [if_pos rfl] at H
  by_cases c5 : 0 ≤ x3_1
  rotate_left
  ·rw [if_neg c5] at H
   exact absurd H (by simp)
  rw [if_pos c5] at H
  have c5b0 := decide_eq_true c5
  clear c5
  by_cases c6 : x3_1 < (l0.length : Int)
  rotate_left
  ·rw [if_neg c6] at H
   exact absurd H (by simp)
  rw [if_pos c6] at H
  have c6b0 := decide_eq_true c6
  clear c6
  by_cases c7 : ((rd_L1 l0 x3_1).length : Int) > 300
  ·rw [if_pos c7] at H
   have c7b0 : decide (300 < ((rd_L1 l0 x3_1).length : Int)) = true := decide_eq_true c7
   have c7b1 : decide (300 < (rd_L1 l0 x3_1).length) = true := decide_eq_true (by omega)
   clear c7
   obtain rfl := Option.some.inj H
   have p251 : 0 ≤ (x3_1 : Int) := of_decide_eq_true as_
   have q251 : x3_1 < (l0.length : Int) := of_decide_eq_true as_
   obtain ⟨ad251, A251_0, c251_0, e251, hx251_0, hl251_0, hi251_0⟩ := at_L1 HR0.out x3_1 p251 q251
   cases e251
   have HR251_0 := Aside0.mk hi251_0
   have HC251_0 := Aside0.mk hl251_0
   clear hi251_0 hl251_0
   replace p251 := eq_true p251
   replace q251 := eq_true q251
   go_wp2
   go_ret
   exact ⟨sd_, dn_⟩
  ·rw [if_neg c7] at H
   have c7b0 : decide (300 < ((rd_L1 l0 x3_1).length : Int)) = false := decide_eq_false c7
   have c7b1 : decide (300 < (rd_L1 l0 x3_1).length) = false := decide_eq_false (by omega)
   clear c7
   have H' := Aside0.mk H
   clear H
   have p251 : 0 ≤ (x3_1 : Int) := of_decide_eq_true as_
   have q251 : x3_1 < (l0.length : Int) := of_decide_eq_true as_
   obtain ⟨ad251, A251_0, c251_0, e251, hx251_0, hl251_0, hi251_0⟩ := at_L1 HR0.out x3_1 p251 q251
   cases e251
   have HR251_0 := Aside0.mk hi251_0
   have HC251_0 := Aside0.mk hl251_0
   clear hi251_0 hl251_0
   replace p251 := eq_true p251
   replace q251 := eq_true q251
   go_wp2
   go_roundg kj1
   case measure => have := HK1.out; have := HJ1.out; omega
   case rel => exact ⟨(wrap64 (x3_1 + 1)), sd_, H', ⟨by have := HK1.out; have := HJ1.out; omega⟩, dn_⟩
def xorB (a b : List Int) : List Int := List.zipWith (fun x y => Go.bits .xor .u8 x y) a b
def sumB (L : Nat) (rows : List (List Int)) : List Int := rows.foldl xorB (List.replicate L 0)
theorem bUz (a b : List Int) (h : a.length = b.length) : (xorB a b).length = b.length := by simp [xorB]; omega
theorem dBz {L : Nat} : ∀ (rows : List (List Int)) (acc : List Int), acc.length = L → (∀ r, r ∈ rows → r.length = L) → (rows.foldl xorB acc).length = L
 | [], acc, h, _ => h
 | r :: rs, acc, h, hr => by
  have h1 := hr r (List.mem_cons_self ..)
  exact dBz rs (xorB acc r) (by rw [bUz _ _ (h.trans h1.symm)]; exact h1) (fun q hq => hr q (List.mem_cons_of_mem _ hq))
theorem sumB_length {L : Nat} (rows : List (List Int)) (h : ∀ r, r ∈ rows → r.length = L) : (sumB L rows).length = L := dBz rows _ (by simp) h
theorem cHz {j : Nat} (h : j ≤ 1000000000) : wrap64 ((j : Int) + 1) = ((j + 1 : Nat) : Int) := by unfold wrap64; omega
theorem sum_l1 (rows : List (List Int)) (n : Int) (i : Nat) (acc row : List Int) (r : List Int × Int) (K : Nat) (hl : acc.length = row.length) (hL : row.length ≤ 100000000) (hi : i ≤ 100000000)
  (h : agz.l0 K (xorB acc row) rows n ((i + 1 : Nat) : Int) = some r) :
  ∀ (d j : Nat), j + d = row.length → agz.l1 (K + d + 1) ((xorB acc row).take j ++ acc.drop j) rows n (i : Int) row (row.length : Int) (j : Int) = some r
 | 0, j, hj => by
  obtain rfl : j = row.length := by omega
  unfold agz.l1
  rw [if_neg (by omega), cHz (by omega), List.take_of_length_le (by rw [bUz _ _ hl]; exact Nat.le_refl _), List.drop_of_length_le (by omega), List.append_nil]
  exact h
 | d + 1, j, hj => by
  have hlx := bUz _ _ hl
  have hjl : j < row.length := by omega
  have hlen : ((xorB acc row).take j ++ acc.drop j).length = row.length := by simp [hlx]; omega
  unfold agz.l1
  rw [if_pos (by omega), if_pos (by omega), if_pos (by omega), if_pos (by omega), cHz (by omega)]
  have hset : ((xorB acc row).take j ++ acc.drop j).set (j : Int).toNat (Go.bits .xor .u8 (rd ((xorB acc row).take j ++ acc.drop j) (j : Int)) (rd row (j : Int))) = (xorB acc row).take (j + 1) ++ acc.drop (j + 1) := by
   have e1 : rd ((xorB acc row).take j ++ acc.drop j) (j : Int) = acc.getD j 0 := by
    unfold rd
    rw [Int.toNat_natCast, List.getD_eq_getElem?_getD, List.getElem?_append_right (by simp [hlx]; omega), List.getElem?_drop]
    simp [hlx, Nat.min_eq_left (Nat.le_of_lt hjl)]
   have e2 : rd row (j : Int) = row.getD j 0 := by unfold rd; rw [Int.toNat_natCast]
   rw [e1, e2, Int.toNat_natCast]
   apply List.ext_getElem?
   intro q
   have hja : j < acc.length := by omega
   have hx : (xorB acc row)[j]? = some (Go.bits .xor .u8 (acc.getD j 0) (row.getD j 0)) := by
    unfold xorB
    rw [List.getElem?_zipWith, List.getElem?_eq_getElem hja, List.getElem?_eq_getElem hjl]
    simp [List.getD_eq_getElem?_getD, List.getElem?_eq_getElem hja, List.getElem?_eq_getElem hjl]
   rw [List.getElem?_set]
   by_cases hq : j = q
   ·subst hq
    rw [if_pos rfl, if_pos (by omega), List.getElem?_append_left (by simp [hlx]; omega), List.getElem?_take, if_pos (by omega), hx]
   ·rw [if_neg hq]
    by_cases hlt : q < j
    ·rw [List.getElem?_append_left (by simp [hlx]; omega), List.getElem?_append_left (by simp [hlx]; omega), List.getElem?_take, List.getElem?_take, if_pos hlt, if_pos (by omega)]
    ·rw [List.getElem?_append_right (by simp [hlx]; omega), List.getElem?_append_right (by simp [hlx]; omega), List.getElem?_drop, List.getElem?_drop]
     congr 1
     simp [hlx, Nat.min_eq_left (Nat.le_of_lt hjl), Nat.min_eq_left (show j + 1 ≤ row.length from hjl)]
     omega
  rw [hset]
  have := sum_l1 rows n i acc row r K hl hL hi h d (j + 1) (by omega)
  rw [show K + (d + 1) = K + d + 1 by omega]
  exact this
theorem sum_l0 (rows : List (List Int)) (L : Nat) (hL : L ≤ 100000000) (hn : rows.length ≤ 1000) (hr : ∀ r, r ∈ rows → r.length = L) :
  ∀ (m i : Nat) (acc : List Int), i + m = rows.length → acc.length = L → ∃ K, agz.l0 K acc rows (rows.length : Int) (i : Int) = some ((rows.drop i).foldl xorB acc, 0)
 | 0, i, acc, hi, ha => by
  refine ⟨1, ?_⟩
  unfold agz.l0
  rw [if_neg (by omega), List.drop_of_length_le (by omega)]; rfl
 | m + 1, i, acc, hi, ha => by
  obtain ⟨row, hrow⟩ : ∃ r, rows[i]? = some r := ⟨_, List.getElem?_eq_getElem (by omega)⟩
  have hrl := hr row (List.mem_of_getElem? hrow)
  have hd : rows.drop i = row :: rows.drop (i + 1) := by
   obtain ⟨h1, h2⟩ := List.getElem?_eq_some_iff.1 hrow
   rw [List.drop_eq_getElem_cons h1, h2]
  obtain ⟨K, hK⟩ := sum_l0 rows L hL hn hr m (i + 1) (xorB acc row) (by omega) (by rw [bUz _ _ (by omega)]; exact hrl)
  have h1 := sum_l1 rows (rows.length : Int) i acc row _ K (by omega) (by omega) (by omega) hK row.length 0 (by omega)
  refine ⟨K + row.length + 1 + 1, ?_⟩
  have hrd : rd_L1 rows (i : Int) = row := by unfold rd_L1; rw [Int.toNat_natCast, List.getD_eq_getElem?_getD, hrow]; rfl
  unfold agz.l0
  rw [if_pos (by omega), if_pos (by omega), if_pos (by omega), hrd, if_pos (by omega), hd]
  simpa using h1
theorem sum_ev (rows : List (List Int)) (L : Nat) (hL : L ≤ 100000000) (hn : rows.length ≤ 1000) (h0 : 0 < rows.length) (hr : ∀ r, r ∈ rows → r.length = L) : Ev (fun k => agz.f k rows) (sumB L rows, 0) := by
 obtain ⟨row, hrow⟩ : ∃ r, rows[0]? = some r := ⟨_, List.getElem?_eq_getElem h0⟩
 have hrl := hr row (List.mem_of_getElem? hrow)
 have hrd : rd_L1 rows 0 = row := by unfold rd_L1; rw [show (0 : Int).toNat = 0 from rfl, List.getD_eq_getElem?_getD, hrow]; rfl
 obtain ⟨K, hK⟩ := sum_l0 rows L hL hn hr rows.length 0 (List.replicate L 0) (by omega) (by simp)
 refine Ev.of (fun k => agz.mono _ k) (k := K) ?_
 unfold agz.f
 rw [if_pos (by omega), hrd, if_pos (by omega), if_pos (by omega), hrl, Int.toNat_natCast]
 simpa [sumB] using hK
theorem byteF_len (wb a : Int) : (byteF wb a).length = wN wb := by unfold byteF wN; split <;> rfl
theorem bytesF_len (wb : Int) : ∀ l : List Int, (bytesF wb l).length = l.length * wN wb
 | [] => by simp [bytesF]
 | a :: l => by
  have h1 := bytesF_len wb l
  have h3 : bytesF wb (a :: l) = byteF wb a ++ bytesF wb l := by unfold bytesF; rw [List.flatMap_cons]
  rw [h3, List.length_append, byteF_len, h1, List.length_cons, Nat.add_mul]
  omega
theorem mulB_len (wb c : Int) (b : List Int) (h : b.length % wN wb = 0) : (mulB wb c b).length = b.length := by
 unfold mulB
 rw [bytesF_len, List.length_map, duz]
 exact Nat.div_mul_cancel (Nat.dvd_of_mod_eq_zero h)
def dotV (L : Nat) (wb : Int) (c : List Int) (rows : List (List Int)) : List Int := sumB L (List.zipWith (mulB wb) c rows)
theorem zip_len {wb : Int} {L : Nat} (hd : L % wN wb = 0) {c : List Int} {rows : List (List Int)} (hr : ∀ r, r ∈ rows → r.length = L) : ∀ r, r ∈ List.zipWith (mulB wb) c rows → r.length = L := by
 intro r h
 obtain ⟨i, hi, rfl⟩ := List.mem_iff_getElem.1 h
 rw [List.getElem_zipWith]
 rw [mulB_len _ _ _ (by rw [hr _ (List.getElem_mem ..)]; exact hd)]
 exact hr _ (List.getElem_mem ..)
theorem dotV_len {wb : Int} {L : Nat} (hd : L % wN wb = 0) {c : List Int} {rows : List (List Int)} (hr : ∀ r, r ∈ rows → r.length = L) : (dotV L wb c rows).length = L := sumB_length _ (zip_len hd hr)
theorem dot_ev (wb : Int) (L : Nat) (hL : L ≤ 1000000) (hd : L % wN wb = 0) (c : List Int) (rows : List (List Int)) (h0 : 0 < rows.length) (hc : c.length = rows.length) (hn : rows.length ≤ 1000) (hr : ∀ r, r ∈ rows → r.length = L) : Ev (fun k => dotB k wb c rows) (dotV L wb c rows, 0) := by
 have hall : rows.all (evB wb) = true := by
  rw [List.all_eq_true]
  intro r h
  unfold evB
  rw [hr r h, hd]; rfl
 refine Ev.congr (f := fun k => agz.f k (List.zipWith (mulB wb) c rows)) (fun k => by unfold dotB; rw [if_pos hall]) ?_
 exact sum_ev _ L (by omega) (by simp; omega) (by simp; omega) (zip_len hd hr)
theorem parl_ev (wb : Int) (L : Nat) (hL : L ≤ 1000000) (hd : L % wN wb = 0) (data : List (List Int)) (h0 : 0 < data.length) (hn : data.length ≤ 1000) (hr : ∀ r, r ∈ data → r.length = L) :
  ∀ (rs acc : List (List Int)), (∀ r, r ∈ rs → r.length = data.length) → Ev (fun k => ahz.l k wb data rs acc) (acc ++ rs.map (fun c => dotV L wb c data), 0)
 | [], acc, _ => by
  simp only [ahz.l, List.map_nil, List.append_nil]
  exact Ev.now _
 | row :: rs, acc, hc => by
  have h1 := dot_ev wb L hL hd row data h0 (hc row (List.mem_cons_self ..)) hn hr
  have h2 := parl_ev wb L hL hd data h0 hn hr rs (acc ++ [dotV L wb row data]) (fun r h => hc r (List.mem_cons_of_mem _ h))
  simp only [ahz.l]
  refine Ev.bind h1 ?_
  rw [List.append_assoc] at h2
  simpa using h2
def parV (L : Nat) (p : Int) (K M : Nat) (data : List (List Int)) : List (List Int) := (parM p K M).map fun c => dotV L (pbits p) c data
theorem par_ev (p : Int) (K M L : Nat) (data : List (List Int)) (hmay : adz.f p (K : Int) (M : Int) = some true) (hK : data.length = K) (hL : L ≤ 1000000) (hd : L % wN (pbits p) = 0) (hr : ∀ r, r ∈ data → r.length = L) :
  Ev (fun k => ahz.f k p (K : Int) (M : Int) data) (parV L p K M data, 0) := by
 obtain ⟨p1, p2, k1, k2, m1, m2⟩ := bjz hmay
 have hgd := daz p K M (by omega) (by omega) (by omega) (by omega)
 have hs : ahz.small data = true := by
  simp only [ahz.small, Bool.and_eq_true, decide_eq_true_eq, List.all_eq_true]
  exact ⟨by omega, fun r h => by rw [hr r h]; exact hL⟩
 have h1 := parl_ev (pbits p) L hL hd data (by omega) (by omega) hr (parM p K M) [] (fun r h => by rw [(hgd.1 r h).1, hK])
 refine Ev.congr (fun k => ?_) h1
 unfold ahz.f
 rw [hmay, Option.bind_some, if_pos rfl, if_pos (by omega), if_pos hs, Int.toNat_natCast, Int.toNat_natCast]
end Go.Proofs.YtpdakdcmahlghaaGreat.XCo
end
