-- Joined by this work's own program (wip/tools/bundle.py) out of its texts: what this claim uses of them. Not trusted: Lean checks it.
import Derived.Test.YtelcllhibpnneaaGreatBCodecColumns16
section
namespace Go.Proofs.YtelcllhibpnneaaGreat.XCo
open Go.RowKit Go.Proofs.YtelcllhibpnneaaGreatW.PrintWords Go.Proofs.YtelcllhibpnneaaGreatW.PrintLast Go.Proofs.YtelcllhibpnneaaGreatW.PrintMore
attribute [local go_sem] max2_int min2_int max_two min_two max_three min_three max_four min_four
set_option linter.unusedVariables false
set_option linter.unusedSimpArgs false
attribute [local go_sem] Oper.semAt_some
def layout_Split.fill (size : Nat) : List Int → Nat → List (List Int) → Option (List (List Int))
 | [], _, rows => some rows
 | c :: cs, i, rows => if i / size < rows.length then layout_Split.fill size cs (i + 1) (rows.set (i / size) ((rows.getD (i / size) []).set (i % size) c)) else none
def layout_Split.f (k : Nat) (a0_0 a0_1 a0_2 : Int) (l1 : List Int) : Option (List (List Int) × Int) :=
 (layout_Size.f k a0_0 a0_1 a0_2 (l1.length : Int)).bind fun s => if s.2 = 0 then (if 1 ≤ a0_1 then (if a0_1 ≤ 1000 then (if 1 ≤ s.1 then (if s.1 ≤ 100000 then (if l1.length ≤ 100000 then
  (layout_rule.f a0_0 a0_1 a0_2).bind fun u => (if u.2 = 0 ∨ u.2 = 4 then (layout_Split.fill s.1.toNat (laidL u.2.toNat l1) 0 (List.replicate a0_1.toNat (List.replicate s.1.toNat 0))).bind fun r => some (r, 0) else none)
  else none) else none) else none) else none) else none) else some ([], s.2)
set_option maxRecDepth 100000 in
set_option maxHeartbeats 4000000 in
theorem layout_Split.bad (k : Nat) (a0_0 a0_1 a0_2 : Int) (A1 : Option Addr) (c1 : Nat) (l1 : List Int) (s1 s2 : Int) (w : World) (h : layout_Size.f k a0_0 a0_1 a0_2 (l1.length : Int) = some (s1, s2)) (hs : s2 ≠ 0) :
  Calls Tryz.prog 47 #[.agg #[.int .i64 a0_0, .int .i64 a0_1, .int .i64 a0_2], .slice A1 l1.length c1] w fun e w' => e = .returned (.tuple #[.slice none 0 0, .int .i64 s2]) ∧ Below w.heap.size w w' := by
 have HZ := Aside0.mk (fun w => layout_Size.calls k a0_0 a0_1 a0_2 (l1.length : Int) s1 s2 w h)
 have hu := Tryz.underlying23
 have hb : (s2 != 0) = true := by simpa using hs
 generalize l1.length = n at HZ ⊢
 clear h hs
 go_enter Tryz.func47, Tryz.ntmps47
 go_wp2_with fail
 refine (HZ.out _).mono ?_
 rintro e w1 ⟨rfl, hB⟩
 have HB := Aside0.mk (show Below w.heap.size w w1 from (below_alloc (Below.refl _ _) _).trans (hB.mono (by simp)))
 clear hB
 go_wp2
 go_ret2
 exact ⟨rfl, below_alloc HB.out _⟩
set_option maxRecDepth 100000 in
set_option maxHeartbeats 4000000 in
theorem layout_Split.go (k : Nat) (a0_0 a0_2 : Int) (K size ahead n : Nat) (A1 : Option Addr) (c1 : Nat) (l1 : List Int) (u1 : Int) (res : List (List Int)) (w : World) (hr1 : Kd.C (Kd.int .u8) w A1 l1.length l1) (hc1 : n ≤ c1) (hn : l1.length = n) (hn2 : n ≤ 100000)
  (h : layout_Size.f k a0_0 (K : Int) a0_2 (n : Int) = some ((size : Int), 0)) (hK : 1 ≤ K) (hK2 : K ≤ 1000) (hs : 1 ≤ size) (hs2 : size ≤ 100000) (hru : layout_rule.f a0_0 (K : Int) a0_2 = some (u1, (ahead : Int))) (hah : ahead = 0 ∨ ahead = 4)
  (hf : layout_Split.fill size (laidL ahead l1) 0 (List.replicate K (List.replicate size 0)) = some res) :
  Calls Tryz.prog 47 #[.agg #[.int .i64 a0_0, .int .i64 (K : Int), .int .i64 a0_2], .slice A1 n c1] w fun e w' => ∃ v, e = .returned (.tuple #[v, .int .i64 0]) ∧ Kd.S (dM 5 .u8) 34 w' w.heap.size (fun _ => True) v res ∧ Below w.heap.size w w' := by
 have HZ := Aside0.mk (fun w => layout_Size.calls k a0_0 (K : Int) a0_2 (n : Int) (size : Int) 0 w h)
 have HRU := Aside0.mk (fun w => layout_rule.calls a0_0 (K : Int) a0_2 u1 (ahead : Int) w hru)
 have HR1 := Aside0.mk hr1
 have HN := Aside0.mk hn
 have HF := Aside0.mk hf
 have HAH := Aside0.mk hah
 have hu := Tryz.underlying23
 have hbx := heap_alloc_new w (.cells #[.int .i64 a0_0, .int .i64 (K : Int), .int .i64 a0_2] 23)
 have HBX := Aside0.mk hbx
 have HB0 := Aside0.mk (below_alloc (Below.refl w.heap.size w) (.cells #[.int .i64 a0_0, .int .i64 (K : Int), .int .i64 a0_2] 23))
 clear h hru hr1 hn hf hah hbx
 refine (callsIn_wide (n := 8)).1 (callsIn_of_wp_marks Tryz.func47 rfl trivial (wpIn_wide.2 ?_) rfl)
 simp only [Tryz.ntmps47, List.size_toArray, List.length_cons, List.length_nil, Nat.reduceAdd, Nat.reduceSub, Array.replicate_succ, Array.replicate_zero, List.push_toArray, List.append_toArray, List.nil_append, List.cons_append]
 go_wp2_with fail
 generalize w.alloc (.cells #[.int .i64 a0_0, .int .i64 (K : Int), .int .i64 a0_2] 23) = w0 at HBX HB0 ⊢
 refine (HZ.out w0).mono ?_
 rintro e w1 ⟨rfl, hB1⟩
 have HB1 := Aside0.mk (HB0.out.trans (hB1.mono HB0.out.size))
 have HX1 := Aside0.mk (blk_below HBX.out hB1)
 have hcK : (w1.alloc (.cells #[.int .i64 (size : Int)] 3)).cell? ⟨w.heap.size, 1, none⟩ = some (.int .i64 (K : Int)) := (blk_cell (blk_below HX1.out (below_alloc (Below.refl _ _) _)) 1).trans rfl
 have HSB1 := Aside0.mk (heap_alloc_new w1 (.cells #[.int .i64 (size : Int)] 3))
 have HB2 := Aside0.mk (below_alloc HB1.out (.cells #[.int .i64 (size : Int)] 3))
 have HX2 := Aside0.mk (blk_below HX1.out (below_alloc (Below.refl _ _) (.cells #[.int .i64 (size : Int)] 3)))
 have HSBW := Aside0.mk (show w.heap.size ≤ w1.heap.size from HB1.out.size)
 have HBASE := Aside0.mk (show w.heap.size ≤ (w1.alloc (.cells #[.int .i64 (size : Int)] 3)).heap.size from HB2.out.size)
 clear hB1 HBX HB0 HZ HB1 HX1
 go_wp2_with ((with_reducible refine gate_dst (N := 26) rfl ?_); go_must (refine Kd.S_make (dM 5 .u8) (w0 := w) w.heap.size 34 rfl rfl 24 (.tmp 25) (.tmp 25) rfl (K : Int) rfl rfl Tryz.underlying24 (.slice none 0 0) 24 (by kernel_rfl) rfl (by decide) (by decide) ([] : List Int) (ok := fun _ => True) (okp := fun _ => True) ⟨_, rfl, Kd.R_nil _ _ _ _ _⟩ (fun _ h => h) trivial (by omega) (by omega) HB2.out HBASE.out ?_); intro v2 w2 ho hb hg hat; rw [Int.toNat_natCast] at ho; obtain ⟨o, cap, rfl, -, -, -⟩ := Kd.S_form ho (by rw [List.length_replicate]; exact hK); have HO2 := Aside0.mk ho; have HB3 := Aside0.mk hb; have HG2 := Aside0.mk hg; clear ho hb hg hat)
 rw [List.length_replicate] at HO2
 obtain ⟨sb, hsb⟩ : ∃ sb, w1.heap.size = sb := ⟨_, rfl⟩
 obtain ⟨lbx, hlbx⟩ : ∃ lbx, w2.heap.size = lbx := ⟨_, rfl⟩
 have hz2 : sb < lbx := by
  have h1 := HG2.out.size
  simp at h1; omega
 have hwl : w.heap.size < sb := by
  have h1 := blk_lt HX2.out
  have h2 := HSBW.out
  have h3 : w.heap.size ≠ w1.heap.size := fun e => by
   have h4 := HSB1.out
   rw [← e] at h4
   rw [HX2.out] at h4
   injection h4 with h4
   injection h4 with h5 h6
   exact absurd h6 (by decide)
  omega
 have HX3 := Aside0.mk (show (w2.alloc (.cells #[.slice (some ⟨o, 0, none⟩) K cap] 24)).heap[w.heap.size]? = some (.cells #[.int .i64 a0_0, .int .i64 (K : Int), .int .i64 a0_2] 23 (0, 0)) from blk_below ((HG2.out.block _ (blk_lt HX2.out) (by simp)).trans HX2.out) (below_alloc (Below.refl _ _) _))
 have HSB3 := Aside0.mk (show (w2.alloc (.cells #[.slice (some ⟨o, 0, none⟩) K cap] 24)).heap[sb]? = some (.cells #[.int .i64 (size : Int)] 3 (0, 0)) by rw [← hsb]; exact blk_below ((HG2.out.block _ (blk_lt HSB1.out) (by simp)).trans HSB1.out) (below_alloc (Below.refl _ _) _))
 have HLB3 := Aside0.mk (show (w2.alloc (.cells #[.slice (some ⟨o, 0, none⟩) K cap] 24)).heap[lbx]? = some (.cells #[.slice (some ⟨o, 0, none⟩) K cap] 24 (0, 0)) by rw [← hlbx]; exact heap_alloc_new _ _)
 have HO3 := Aside0.mk (show Kd.S (dM 5 .u8) 34 (w2.alloc (.cells #[.slice (some ⟨o, 0, none⟩) K cap] 24)) w.heap.size (fun _ => True) (.slice (some ⟨o, 0, none⟩) K cap) (madeTo K size 0) by rw [madeTo_zero]; exact Kd.S_alloc HO2.out _)
 have HB4 := Aside0.mk (below_alloc HB3.out (.cells #[.slice (some ⟨o, 0, none⟩) K cap] 24))
 rw [hsb, hlbx]
 have HZ2 := Aside0.mk hz2
 have HWL := Aside0.mk hwl
 clear hsb hlbx HO2 HB3 HG2 HX2 HSB1 HB2 hcK HSBW HBASE hz2 hwl
 generalize w2.alloc (.cells #[.slice (some ⟨o, 0, none⟩) K cap] 24) = w3 at HX3 HSB3 HLB3 HO3 HB4 ⊢
 have hmk := make_bytes size (by omega)
 go_loopw [29] (fun iv wr => ∃ i : Nat, i ≤ K ∧ iv = .int .i64 (i : Int) ∧ Aside0 (Kd.S (dM 5 .u8) 34 wr w.heap.size (fun _ => True) (.slice (some ⟨o, 0, none⟩) K cap) (madeTo K size i)) ∧ Aside0 (Below w.heap.size w wr) ∧ Aside0 (wr.heap[w.heap.size]? = some (.cells #[.int .i64 a0_0, .int .i64 (K : Int), .int .i64 a0_2] 23 (0, 0))) ∧ Aside0 (wr.heap[sb]? = some (.cells #[.int .i64 (size : Int)] 3 (0, 0))) ∧ Aside0 (wr.heap[lbx]? = some (.cells #[.slice (some ⟨o, 0, none⟩) K cap] 24 (0, 0)))) (fun iv _ => K - (intOf iv).toNat)
 case atStart => exact ⟨0, Nat.zero_le _, rfl, HO3, HB4, HX3, HSB3, HLB3⟩
 case round =>
  clear HO3 HB4 HX3 HSB3 HLB3
  obtain ⟨wq, rfl⟩ : ∃ w', w' = wr := ⟨_, rfl⟩
  obtain ⟨i, hi, rfl, HO, HB, HX, HSB, HLB⟩ := hrel
  by_cases hlt : i < K
  ·have e1 : wq.cell? ⟨lbx, 0, none⟩ = some (.slice (some ⟨o, 0, none⟩) K cap) := (blk_cell HLB.out 0).trans rfl
   have e2 : wq.cell? ⟨sb, 0, none⟩ = some (.int .i64 (size : Int)) := (blk_cell HSB.out 0).trans rfl
   have HO5 := Aside0.mk (S_new HO.out HB.out.size (fun _ _ => trivial) i hlt (List.replicate size 0) (by simp; omega))
   rw [List.length_replicate, madeTo_step K size i hlt] at HO5
   obtain ⟨v0, hcv, hfv⟩ := S_cell (Kd.S_alloc HO.out (.cells (nums .u8 (List.replicate size 0)).toArray 5)) i hlt
   have hol : o ≠ lbx ∧ o ≠ sb ∧ o ≠ w.heap.size := by
    obtain ⟨cs, hcs⟩ := Kd.S_typed HO.out o (by simp [Value.ownBlock])
    refine ⟨?_, ?_, ?_⟩
    ·rintro rfl
     rw [HLB.out] at hcs
     injection hcs with hcs
     injection hcs with _ hcs
     exact absurd hcs (by decide)
    ·rintro rfl
     rw [HSB.out] at hcs
     injection hcs with hcs
     injection hcs with _ hcs
     exact absurd hcs (by decide)
    ·rintro rfl
     rw [HX.out] at hcs
     injection hcs with hcs
     injection hcs with _ hcs
     exact absurd hcs (by decide)
   have hbo : w.heap.size ≤ o := Kd.S_base HO.out o (by simp [Value.ownBlock])
   have HB5 := Aside0.mk (setCell_below (below_alloc HB.out (.cells (nums .u8 (List.replicate size 0)).toArray 5)) hbo i (.slice (some ⟨wq.heap.size, 0, none⟩) size size))
   have HX5 := Aside0.mk (blk_far (blk_below HX.out (below_alloc (Below.refl _ _) (.cells (nums .u8 (List.replicate size 0)).toArray 5))) (p := ⟨o, i, none⟩) (Ne.symm hol.2.2) (.slice (some ⟨wq.heap.size, 0, none⟩) size size))
   have HSB5 := Aside0.mk (blk_far (blk_below HSB.out (below_alloc (Below.refl _ _) (.cells (nums .u8 (List.replicate size 0)).toArray 5))) (p := ⟨o, i, none⟩) (Ne.symm hol.2.1) (.slice (some ⟨wq.heap.size, 0, none⟩) size size))
   have HLB5 := Aside0.mk (blk_far (blk_below HLB.out (below_alloc (Below.refl _ _) (.cells (nums .u8 (List.replicate size 0)).toArray 5))) (p := ⟨o, i, none⟩) (Ne.symm hol.1) (.slice (some ⟨wq.heap.size, 0, none⟩) size size))
   have i1 : (0 : Int) ≤ (i : Int) := by omega
   have i2 : (i : Int) < (K : Int) := by omega
   clear hol hbo
   go_wp2_with fail
   refine regOnly_ ?_
   refine start_ (n := 6) (S := fun w' => w'.cell? ⟨lbx, 0, none⟩ = some (.slice (some ⟨o, 0, none⟩) K cap) ∧ w'.cell? ⟨sb, 0, none⟩ = some (.int .i64 (size : Int))) (ds := [5]) #[false, false, false, false, false, false] (by kernel_rfl) rfl rfl ⟨e1, e2⟩ (fun hHeld => ?_)
   refine pure_ (i := 1) (N := some 33) (v := ?_) (a' := ?_) #[false, true, false, false, false, false] rfl rfl (by kernel_rfl) (fun _ _ _ h => h) (Or.inl ⟨by rfl, ?_⟩) ?_ ?_
   rotate_left
   ·intro w'
    go_simp
    with_reducible rfl
   rotate_left
   ·simp only [Act.put, List.setIfInBounds_toArray, List.set_cons_zero, List.set_cons_succ, i64_w, i32_w]
    rfl
   refine take_ (i := 0) (N := some 32) (v := ?_) (a' := ?_) #[true, true, false, false, false, false] rfl rfl (by kernel_rfl) (fun _ _ _ h => h) (Or.inl ⟨by rfl, ?_⟩) hHeld ?_ ?_
   rotate_left
   ·rintro w' ⟨s0, s1⟩
    go_simp
    with_reducible rfl
   rotate_left
   ·simp only [Act.put, List.setIfInBounds_toArray, List.set_cons_zero, List.set_cons_succ, i64_w, i32_w]
    rfl
   refine take_ (i := 2) (N := some 34) (v := ?_) (a' := ?_) #[true, true, true, false, false, false] rfl rfl (by kernel_rfl) (fun _ _ _ h => h) (Or.inl ⟨by rfl, ?_⟩) hHeld ?_ ?_
   rotate_left
   ·rintro w' ⟨s0, s1⟩
    go_simp
    with_reducible rfl
   rotate_left
   ·simp only [Act.put, List.setIfInBounds_toArray, List.set_cons_zero, List.set_cons_succ, i64_w, i32_w]
    rfl
   refine one_ (i := 3) (N := some 35) #[true, true, true, true, false, false] rfl rfl (by kernel_rfl) (by decide) (fun K hK => ?_)
   refine value_ (w1 := ?_) (v := ?_) (by rfl) rfl ?_ ?_
   rotate_left 2
   ·go_simp
    constructor
    ·rfl
    ·rfl
   refine hK.out _ _ ⟨(World.cell?_alloc_past _ _ _ (World.block_lt_of_cell? _ _ e1)).trans e1, (World.cell?_alloc_past _ _ _ (World.block_lt_of_cell? _ _ e2)).trans e2⟩ (fun hHeld => ?_)
   clear hK K
   refine norm_ (a' := ?_) ?_ ?_
   rotate_left
   ·show Act.put _ (some 35) _ = _
    simp only [Act.put, List.setIfInBounds_toArray, List.set_cons_zero, List.set_cons_succ, i64_w, i32_w]
    rfl
   refine pure_ (i := 4) (N := some 36) (v := ?_) (a' := ?_) #[true, true, true, true, true, false] rfl rfl (by kernel_rfl) (fun _ _ _ h => h) (Or.inl ⟨by rfl, ?_⟩) ?_ ?_
   rotate_left
   ·intro w'
    go_simp
    with_reducible rfl
   rotate_left
   ·simp only [Act.put, List.setIfInBounds_toArray, List.set_cons_zero, List.set_cons_succ, i64_w, i32_w]
    rfl
   refine last_ (i := 5) (N := none) #[true, true, true, true, true, true] rfl rfl (by kernel_rfl) (by decide) (fun K hK => ?_)
   refine skip_ (w1 := ?_) (by rfl) rfl ?_ ?_
   rotate_left
   ·go_simp
    rfl
   refine hK.out _ _ ?_
   clear hK K
   refine done_ (by kernel_rfl) ?_
   refine regOnly_normal ?_
   go_wp2
   exact ⟨⟨i + 1, by omega, by simp [i64_w], Aside0.mk HO5.out, Aside0.mk HB5.out.drew, Aside0.mk HX5.out, Aside0.mk HSB5.out, Aside0.mk HLB5.out⟩, by simp [intOf]; omega⟩
  ·obtain rfl : i = K := by omega
   have hfull := HO.out
   rw [madeTo_full] at hfull
   have HO4 := Aside0.mk hfull
   have q0 : wq.cell? ⟨w.heap.size, 0, none⟩ = some (.int .i64 a0_0) := (blk_cell HX.out 0).trans rfl
   have q1 : wq.cell? ⟨w.heap.size, 1, none⟩ = some (.int .i64 (i : Int)) := (blk_cell HX.out 1).trans rfl
   have q2 : wq.cell? ⟨w.heap.size, 2, none⟩ = some (.int .i64 a0_2) := (blk_cell HX.out 2).trans rfl
   have hself : ((i : Int) < (i : Int)) = False := by simp
   clear hi hlt hmk hfull HO
   go_wp2_with fail
   refine (HRU.out wq).mono ?_
   rintro e w4 ⟨rfl, hB4⟩
   have HB5 := Aside0.mk (HB.out.trans (hB4.mono HB.out.size))
   have HO5 := Aside0.mk (Kd.S_below HO4.out hB4)
   have HX5 := Aside0.mk (blk_below HX.out hB4)
   have HSB5 := Aside0.mk (blk_below HSB.out hB4)
   have HLB5 := Aside0.mk (blk_below HLB.out hB4)
   clear hB4 q0 q1 q2 HB HO4 HX HSB HLB HRU
   have hld := laid.calls (ahead : Int) A1 n c1
   go_wp2_with ((go_at_call 82; refine (hld _).mono ?_; rintro e w' ⟨rfl, rfl⟩))
   clear hld
   have hX10 : ((w4.alloc (.cells #[.int .i64 (ahead : Int)] 3)).alloc (.cells #[.slice A1 n c1] 34)).heap[w4.heap.size]? = some (.cells #[.int .i64 (ahead : Int)] 3 (0, 0)) := blk_alloc (blk_new w4 _) _
   have hX11 : ((w4.alloc (.cells #[.int .i64 (ahead : Int)] 3)).alloc (.cells #[.slice A1 n c1] 34)).heap[w4.heap.size + 1]? = some (.cells #[.slice A1 n c1] 34 (0, 0)) := blk_new_at _ _ _ (by simp)
   have hB6 : Below w4.heap.size w4 ((w4.alloc (.cells #[.int .i64 (ahead : Int)] 3)).alloc (.cells #[.slice A1 n c1] 34)) := below_step (below_alloc (Below.refl _ _) _) (below_alloc (Below.refl _ _) _)
   have hsz : ((w4.alloc (.cells #[.int .i64 (ahead : Int)] 3)).alloc (.cells #[.slice A1 n c1] 34)).heap.size = w4.heap.size + 2 := by simp
   generalize (w4.alloc (.cells #[.int .i64 (ahead : Int)] 3)).alloc (.cells #[.slice A1 n c1] 34) = w5 at hX10 hX11 hB6 hsz ⊢
   obtain ⟨b, hb⟩ : ∃ b, b = w4.heap.size := ⟨_, rfl⟩
   rw [← hb] at hX10 hX11 hsz hB6 ⊢
   have hwb : w.heap.size ≤ b := hb ▸ HB5.out.size
   have hB6' : Below w.heap.size w w5 := HB5.out.trans (hB6.mono hwb)
   have hR5 : Kd.C (Kd.int .u8) w5 A1 l1.length l1 := Kd.C_below HR1.out hB6'
   have hlt1 : lbx < b := hb ▸ blk_lt HLB5.out
   have hS6 : Kd.S (dM 5 .u8) 34 w5 w.heap.size (fun k => w.heap.size ≤ k ∧ k < b ∧ k ≠ sb ∧ k ≠ lbx) (.slice (some ⟨o, 0, none⟩) i cap) (List.replicate i (List.replicate size 0)) := by
    have h1 := Kd.S_bound (Kd.S_types (Kd.S_types HO5.out HSB5.out (by decide)) HLB5.out (by decide))
    have h2 := Kd.S_below h1 (hb ▸ hB6 : Below w4.heap.size w4 w5)
    refine Kd.S_mono h2 (fun q hq => ?_)
    simp only [← hb] at hq
    exact ⟨hq.2.1, hq.2.2.1, hq.1.1.2, hq.1.2⟩
   have HSB6 := Aside0.mk (blk_below HSB5.out (hb ▸ hB6))
   have HLB6 := Aside0.mk (blk_below HLB5.out (hb ▸ hB6))
   have HX10 := Aside0.mk hX10
   have HX11 := Aside0.mk hX11
   have HB6 := Aside0.mk hB6'
   have HR5 := Aside0.mk hR5
   have HS6 := Aside0.mk hS6
   have HSZ := Aside0.mk hsz
   have HWB := Aside0.mk hwb
   have HLT := Aside0.mk hlt1
   clear hX10 hX11 hB6 hB6' hR5 hS6 hsz hwb hlt1 HB5 HO5 HX5 HSB5 HLB5 hb
   refine (wpIn_wide (n := 8)).1 ?_
   refine wpIn_range_nth (α := Nat × Int) rfl (by omega) (gf := 125) (lb := #[.pointer (some ⟨b + 1, 0, none⟩), .pointer (some ⟨b, 0, none⟩)]) rfl trivial (enters_of Tryz.func125 (by kernel_rfl) rfl)
    (laid_seq ahead b (b + 1) n c1 HAH.out (fun k => w.heap.size ≤ k ∧ k < b ∧ k ≠ sb ∧ k ≠ lbx) A1 l1 w5 HR5.out HN.out hc1 hn2 HX10.out HX11.out (fun k hk => by have := HSZ.out; have := hk.2.1; omega)) KpC.trans ?hKb (Below.refl _ _) (fun _ => rfl)
    (fun pre Wx => ∃ rows, Kd.S (dM 5 .u8) 34 Wx w.heap.size (fun k => w.heap.size ≤ k ∧ k < b ∧ k ≠ sb ∧ k ≠ lbx) (.slice (some ⟨o, 0, none⟩) i cap) rows ∧ Wx.heap[sb]? = some (.cells #[.int .i64 (size : Int)] 3 (0, 0)) ∧ Wx.heap[lbx]? = some (.cells #[.slice (some ⟨o, 0, none⟩) i cap] 24 (0, 0)) ∧ rows.length = i ∧ (∀ r, r ∈ rows → r.length = size) ∧ layout_Split.fill size ((laidL ahead l1).drop pre.length) pre.length rows = some res ∧ Below w.heap.size w Wx ∧ w5.heap.size ≤ Wx.heap.size)
    ?hI ?hHd ?h0 (fun x => { tmps := #[.agg #[.int .i64 a0_0, .int .i64 (i : Int), .int .i64 a0_2], .slice A1 n c1, .pointer (some ⟨w.heap.size, 0, none⟩), undef, .slice none 0 0, .int .i64 0, .pointer (some ⟨sb, 0, none⟩), .int .i64 0, .pointer (some ⟨lbx, 0, none⟩), u9, .int .i64 u1, .int .i64 (ahead : Int), .int .i64 (x.1 : Int), .int .u8 x.2, .tuple #[.int .i64 (size : Int), .int .i64 0], .agg #[.int .i64 a0_0, .int .i64 (i : Int), .int .i64 a0_2], .slice A1 n c1, .int .i64 (n : Int), .tuple #[.int .i64 (size : Int), .int .i64 0], .int .i64 (size : Int), .int .i64 0, .int .i64 0, .bool false, undef, .pointer (some ⟨w.heap.size, 1, none⟩), .int .i64 (i : Int), .slice (some ⟨o, 0, none⟩) i cap, .slice (some ⟨o, 0, none⟩) i cap, .int .i64 (i : Int), .int .i64 (i : Int), .bool false, u31, u32, u33, u34, u35, u36, u37, .tuple #[.int .i64 u1, .int .i64 (ahead : Int)], .agg #[.int .i64 a0_0, .int .i64 (i : Int), .int .i64 a0_2], .tuple #[.int .i64 u1, .int .i64 (ahead : Int)], .int .i64 u1, .int .i64 (ahead : Int), .int .i64 (ahead : Int), .slice A1 n c1, .func (.func 125) #[] #[.pointer (some ⟨b + 1, 0, none⟩), .pointer (some ⟨b, 0, none⟩)], .int .i64 (x.1 : Int), .int .u8 x.2, undef, undef, undef, undef, undef, undef, undef, undef, undef, undef, undef, undef], defers := [] }) ?assign ?body ?done
   case hKb =>
    intro Wx l o1 o2 hl ho hno
    refine ⟨(grownBy_putObj' Wx l o2).size, fun k oo hk hcc _ => ?_⟩
    have hne : k ≠ l := by rintro rfl; rw [hk] at ho; cases ho; rw [hcc] at hno; cases hno
    exact (World.putObj_heap_other hne).trans hk
   case hI =>
    rintro s X Y r ⟨rows, h1, h2, h3, h4, h5, h6, h7, h8⟩ hg hr
    have hr' : ∀ q, r = some q → ∃ o : Obj, X.heap[q]? = some o ∧ o.isCells = false := fun q e => (hr q e).2
    have hcc : ∀ (q : Nat) (oo : Obj), X.heap[q]? = some oo → oo.isCells = true → Y.heap[q]? = X.heap[q]? := fun q oo hq ho => grownBy_keeps_cells hg hr' hq ho
    exact ⟨rows, S_keepK h1 hcc, (hcc _ _ h2 rfl).trans h2, (hcc _ _ h3 rfl).trans h3, h4, h5, h6, ⟨hg.os.trans h7.os, hg.tape.trans h7.tape, hg.output.trans h7.output, Nat.le_trans h7.size hg.size, fun q hq => (hg.block q (Nat.lt_of_lt_of_le hq h7.size) (fun e => by have := (hr q e.symm).1; have := HSZ.out; have := HWB.out; omega)).trans (h7.block q hq)⟩, Nat.le_trans h8 hg.size⟩
   case hHd =>
    intro m x s X Y r h hg hr
    exact h
   case h0 =>
    refine ⟨_, HS6.out, HSB6.out, HLB6.out, by simp, fun r hr => by rw [List.eq_of_mem_replicate hr]; simp, ?_, HB6.out, Nat.le_refl _⟩
    simpa using HF.out
   case assign =>
    intro l x Wx K hK
    gi_wp2
    exact hK
   case body =>
    rintro l pre ⟨x, c⟩ Wx ⟨rows, h1, h2, h3, h4, h5, h6, h7, h8⟩ ⟨hx0, hx1⟩ hlen
    dsimp only at hx0 hx1
    have hdr : (laidL ahead l1).drop pre.length = c :: (laidL ahead l1).drop (pre.length + 1) := by
     obtain ⟨hl, he⟩ := List.getElem?_eq_some_iff.1 hx1
     rw [List.drop_eq_getElem_cons hl, he]
    rw [hdr, ← hx0] at h6
    simp only [layout_Split.fill] at h6
    have hq : x / size < rows.length := by
     by_cases hh : x / size < rows.length
     ·exact hh
     ·rw [if_neg hh] at h6; cases h6
    rw [if_pos hq] at h6
    obtain ⟨row, hrow⟩ : ∃ r, rows[x / size]? = some r := ⟨_, List.getElem?_eq_getElem hq⟩
    have hrl : row.length = size := h5 row (List.mem_of_getElem? hrow)
    have hrd : rows.getD (x / size) [] = row := by rw [List.getD_eq_getElem?_getD, hrow]; rfl
    rw [hrd] at h6
    have hj : x % size < size := Nat.mod_lt _ hs
    obtain ⟨g, cg, y, k1, k2, k3, kok, kne, kS⟩ := S_put2 h1 (x / size) (x % size) row hrow (by rw [hrl]; exact hj) c
    have e1 : Wx.cell? ⟨lbx, 0, none⟩ = some (.slice (some ⟨o, 0, none⟩) i cap) := (blk_cell h3 0).trans rfl
    have e2 : Wx.cell? ⟨sb, 0, none⟩ = some (.int .i64 (size : Int)) := (blk_cell h2 0).trans rfl
    rw [hrl] at k1
    rw [h4] at hq
    have hx100 : x ≤ 100004 := by
     have hl : (laidL ahead l1).length ≤ 100004 := by
      have := HN.out
      unfold laidL four4
      simp; omega
     omega
    have d1 : Int.tdiv (x : Int) (size : Int) = ((x / size : Nat) : Int) := by rw [Int.ofNat_tdiv]
    have d2 : Int.tmod (x : Int) (size : Int) = ((x % size : Nat) : Int) := by rw [Int.ofNat_tmod]
    obtain ⟨qx, hqx⟩ : ∃ qx, x / size = qx := ⟨_, rfl⟩
    obtain ⟨rx, hrx⟩ : ∃ rx, x % size = rx := ⟨_, rfl⟩
    have hqle : qx ≤ x := hqx ▸ Nat.div_le_self _ _
    rw [hqx] at d1 hq k1 kS h6 hrow
    rw [hrx] at d2 hj k2 k3 kS h6
    have i1 : (0 : Int) ≤ (qx : Int) := by omega
    have i2 : (qx : Int) < (i : Int) := by omega
    have i3 : (0 : Int) ≤ (rx : Int) := by omega
    have i4 : (rx : Int) < (size : Int) := by omega
    have i5 : ¬ (size = 0) := by omega
    have i6 : IntKind.i64.wrap (qx : Int) = (qx : Int) := by rw [IntKind.wrap_i64]; omega
    have HEND := Aside0.mk (show KeepsFrom w5.heap.size Wx (Wx.setCell ⟨g, rx, none⟩ (.int .u8 c)) ∧ KpC (fun k => w.heap.size ≤ k ∧ k < b ∧ k ≠ sb ∧ k ≠ lbx) Wx (Wx.setCell ⟨g, rx, none⟩ (.int .u8 c)) ∧ ∃ rows, Kd.S (dM 5 .u8) 34 (Wx.setCell ⟨g, rx, none⟩ (.int .u8 c)) w.heap.size (fun k => w.heap.size ≤ k ∧ k < b ∧ k ≠ sb ∧ k ≠ lbx) (.slice (some ⟨o, 0, none⟩) i cap) rows ∧ (Wx.setCell ⟨g, rx, none⟩ (.int .u8 c)).heap[sb]? = some (.cells #[.int .i64 (size : Int)] 3 (0, 0)) ∧ (Wx.setCell ⟨g, rx, none⟩ (.int .u8 c)).heap[lbx]? = some (.cells #[.slice (some ⟨o, 0, none⟩) i cap] 24 (0, 0)) ∧ rows.length = i ∧ (∀ r, r ∈ rows → r.length = size) ∧ layout_Split.fill size ((laidL ahead l1).drop (pre ++ [(x, c)]).length) (pre ++ [(x, c)]).length rows = some res ∧ Below w.heap.size w (Wx.setCell ⟨g, rx, none⟩ (.int .u8 c)) ∧ w5.heap.size ≤ (Wx.setCell ⟨g, rx, none⟩ (.int .u8 c)).heap.size by
     have hsc : ∀ k, k ≠ g → (Wx.setCell ⟨g, rx, none⟩ (.int .u8 c)).heap[k]? = Wx.heap[k]? := fun k hk => Below.heap_setCell Wx ⟨g, rx, none⟩ _ k hk
     refine ⟨⟨by simp, fun k oo hk hko hno => ?_⟩, ⟨by simp, fun k oo hk hcc he => (hsc k (by rintro rfl; exact he kok)).trans hk⟩, _, kS, (hsc _ (by rintro rfl; exact kok.2.2.1 rfl)).trans h2, (hsc _ (by rintro rfl; exact kok.2.2.2 rfl)).trans h3, by rw [List.length_set]; exact h4, ?_, ?_, setCell_below h7 kok.1 rx _, by simpa using h8⟩
     ·exact (hsc k (by rintro rfl; have := kok.2.1; have := HSZ.out; omega)).trans hko
     ·intro r hr
      rcases List.mem_or_eq_of_mem_set hr with hr | rfl
      ·exact h5 r hr
      ·rw [List.length_set]; exact hrl
     ·rw [List.length_append, List.length_singleton, ← hx0]
      exact h6)
    have hmo : Tryz.prog.follows .mixedOrders = true := by kernel_rfl
    clear h1 h2 h3 h4 h5 h6 h7 h8 hx0 hx1 hlen hdr hrow hrl hrd kok kne kS hqx hrx
    gi_wp2
    refine startIn_ (m := 12) (S := fun w' => w'.cell? ⟨lbx, 0, none⟩ = some (.slice (some ⟨o, 0, none⟩) i cap) ∧ w'.cell? ⟨sb, 0, none⟩ = some (.int .i64 (size : Int)) ∧ w'.cell? ⟨o, qx, none⟩ = some (.slice (some ⟨g, 0, none⟩) size cg)) (ds := [11]) #[false, false, false, false, false, false, false, false, false, false, false, false] (by kernel_rfl) rfl rfl (by kernel_rfl) (by rintro ⟨_, _, h⟩; exact h) ⟨e1, e2, k1⟩ (fun hHeld => ?_)
    refine pure_ (i := 1) (N := some 49) (v := ?_) (a' := ?_) #[false, true, false, false, false, false, false, false, false, false, false, false] rfl rfl (by kernel_rfl) (fun _ _ _ h => h) (Or.inl ⟨by rfl, ?_⟩) ?_ ?_
    rotate_left
    ·intro w'
     go_simp
     with_reducible rfl
    rotate_left
    ·simp only [Act.put, List.setIfInBounds_toArray, List.set_cons_zero, List.set_cons_succ, i64_w, i32_w]
     rfl
    refine pure_ (i := 6) (N := some 54) (v := ?_) (a' := ?_) #[false, true, false, false, false, false, true, false, false, false, false, false] rfl rfl (by kernel_rfl) (fun _ _ _ h => h) (Or.inl ⟨by rfl, ?_⟩) ?_ ?_
    rotate_left
    ·intro w'
     go_simp
     with_reducible rfl
    rotate_left
    ·simp only [Act.put, List.setIfInBounds_toArray, List.set_cons_zero, List.set_cons_succ, i64_w, i32_w]
     rfl
    refine pure_ (i := 9) (N := some 57) (v := ?_) (a' := ?_) #[false, true, false, false, false, false, true, false, false, true, false, false] rfl rfl (by kernel_rfl) (fun _ _ _ h => h) (Or.inl ⟨by rfl, ?_⟩) ?_ ?_
    rotate_left
    ·intro w'
     go_simp
     with_reducible rfl
    rotate_left
    ·simp only [Act.put, List.setIfInBounds_toArray, List.set_cons_zero, List.set_cons_succ, i64_w, i32_w]
     rfl
    refine take_ (i := 0) (N := some 48) (v := ?_) (a' := ?_) #[true, true, false, false, false, false, true, false, false, true, false, false] rfl rfl (by kernel_rfl) (fun _ _ _ h => h) (Or.inl ⟨by rfl, ?_⟩) hHeld ?_ ?_
    rotate_left
    ·rintro w' ⟨s0, s1, s2⟩
     go_simp
     with_reducible rfl
    rotate_left
    ·simp only [Act.put, List.setIfInBounds_toArray, List.set_cons_zero, List.set_cons_succ, i64_w, i32_w]
     rfl
    refine take_ (i := 2) (N := some 50) (v := ?_) (a' := ?_) #[true, true, true, false, false, false, true, false, false, true, false, false] rfl rfl (by kernel_rfl) (fun _ _ _ h => h) (Or.inl ⟨by rfl, ?_⟩) hHeld ?_ ?_
    rotate_left
    ·rintro w' ⟨s0, s1, s2⟩
     go_simp
     with_reducible rfl
    rotate_left
    ·simp only [Act.put, List.setIfInBounds_toArray, List.set_cons_zero, List.set_cons_succ, i64_w, i32_w]
     rfl
    refine pure_ (i := 3) (N := some 51) (v := ?_) (a' := ?_) #[true, true, true, true, false, false, true, false, false, true, false, false] rfl rfl (by kernel_rfl) (fun _ _ _ h => h) (Or.inl ⟨by rfl, ?_⟩) ?_ ?_
    rotate_left
    ·intro w'
     go_simp
     with_reducible rfl
    rotate_left
    ·simp only [Act.put, List.setIfInBounds_toArray, List.set_cons_zero, List.set_cons_succ, i64_w, i32_w]
     rfl
    refine pure_ (i := 4) (N := some 52) (v := ?_) (a' := ?_) #[true, true, true, true, true, false, true, false, false, true, false, false] rfl rfl (by kernel_rfl) (fun _ _ _ h => h) (Or.inl ⟨by rfl, ?_⟩) ?_ ?_
    rotate_left
    ·intro w'
     go_simp
     with_reducible rfl
    rotate_left
    ·simp only [Act.put, List.setIfInBounds_toArray, List.set_cons_zero, List.set_cons_succ, i64_w, i32_w]
     rfl
    refine take_ (i := 5) (N := some 53) (v := ?_) (a' := ?_) #[true, true, true, true, true, true, true, false, false, true, false, false] rfl rfl (by kernel_rfl) (fun _ _ _ h => h) (Or.inl ⟨by rfl, ?_⟩) hHeld ?_ ?_
    rotate_left
    ·rintro w' ⟨s0, s1, s2⟩
     go_simp
     with_reducible rfl
    rotate_left
    ·simp only [Act.put, List.setIfInBounds_toArray, List.set_cons_zero, List.set_cons_succ, i64_w, i32_w]
     rfl
    refine take_ (i := 7) (N := some 55) (v := ?_) (a' := ?_) #[true, true, true, true, true, true, true, true, false, true, false, false] rfl rfl (by kernel_rfl) (fun _ _ _ h => h) (Or.inl ⟨by rfl, ?_⟩) hHeld ?_ ?_
    rotate_left
    ·rintro w' ⟨s0, s1, s2⟩
     go_simp
     with_reducible rfl
    rotate_left
    ·simp only [Act.put, List.setIfInBounds_toArray, List.set_cons_zero, List.set_cons_succ, i64_w, i32_w]
     rfl
    refine pure_ (i := 8) (N := some 56) (v := ?_) (a' := ?_) #[true, true, true, true, true, true, true, true, true, true, false, false] rfl rfl (by kernel_rfl) (fun _ _ _ h => h) (Or.inl ⟨by rfl, ?_⟩) ?_ ?_
    rotate_left
    ·intro w'
     go_simp
     with_reducible rfl
    rotate_left
    ·simp only [Act.put, List.setIfInBounds_toArray, List.set_cons_zero, List.set_cons_succ, i64_w, i32_w]
     rfl
    refine pure_ (i := 10) (N := some 58) (v := ?_) (a' := ?_) #[true, true, true, true, true, true, true, true, true, true, true, false] rfl rfl (by kernel_rfl) (fun _ _ _ h => h) (Or.inl ⟨by rfl, ?_⟩) ?_ ?_
    rotate_left
    ·intro w'
     go_simp
     with_reducible rfl
    rotate_left
    ·simp only [Act.put, List.setIfInBounds_toArray, List.set_cons_zero, List.set_cons_succ, i64_w, i32_w]
     rfl
    refine last_ (i := 11) (N := none) #[true, true, true, true, true, true, true, true, true, true, true, true] rfl rfl (by kernel_rfl) (by decide) (fun K hK => ?_)
    refine skip_ (w1 := ?_) (by rfl) rfl ?_ ?_
    rotate_left
    ·go_simp
     rfl
    refine hK.out _ _ ?_
    clear hK K
    refine done_ (by kernel_rfl) ?_
    obtain ⟨q1, q2, rows, p1, p2, p3, p4, p5, p6, p7, p8⟩ := HEND.out
    refine And.intro ⟨q1.1, q1.2⟩ (And.intro ⟨q2.1, q2.2⟩ ⟨rows, Kd.S_drew p1, p2, p3, p4, p5, p6, p7.drew, p8⟩)
   case done =>
    rintro D xs Wx hD ⟨hxs, hlen⟩ ⟨rows, h1, h2, h3, h4, h5, h6, h7, h8⟩ hDd
    rw [hlen, List.drop_length] at h6
    obtain rfl : rows = res := by simpa [layout_Split.fill] using h6
    have e1 : Wx.cell? ⟨lbx, 0, none⟩ = some (.slice (some ⟨o, 0, none⟩) i cap) := (blk_cell h3 0).trans rfl
    have H1 := Aside0.mk h1
    have H7 := Aside0.mk h7
    have H8 := Aside0.mk h8
    have HDD := Aside0.mk hDd
    have HDN := Aside0.mk hD
    clear h1 h2 h3 h4 h5 h6 h7 h8 hDd hD hxs hlen
    simp only [Exit.inBlock, Exit.then]
    go_wp2
    refine leaves_marks [D] Wx (by simp) (fun D' hD' => by rw [List.mem_singleton] at hD'; rw [hD']; exact HDD.out) (fun w' hkp hsz hos htp hou => ?_)
    have hcc : ∀ (q : Nat) (oo : Obj), Wx.heap[q]? = some oo → oo.isCells = true → w'.heap[q]? = Wx.heap[q]? := fun q oo hq ho => hkp q (blk_lt hq) (fun hm => by
     rw [List.mem_singleton] at hm
     subst hm
     rw [HDD.out] at hq; cases hq; cases ho)
    refine ⟨_, results_tmp2 rfl _ _ _, _, rfl, S_keepK (Kd.S_mono H1.out (fun _ _ => trivial)) hcc, hos.trans H7.out.os, htp.trans H7.out.tape, hou.trans H7.out.output, by rw [hsz]; exact H7.out.size, fun q hq => (hkp q (Nat.lt_of_lt_of_le hq H7.out.size) (fun hm => by
     rw [List.mem_singleton] at hm
     have := HDN.out; have := HSZ.out; have := HWB.out; omega)).trans (H7.out.block q hq)⟩
theorem layout_Split.calls (k : Nat) (a0_0 : Int) (a0_1 : Int) (a0_2 : Int) (A1 : Option Addr) (c1 : Nat) (l1 : List Int) (r1 : List (List Int)) (r2 : Int) (w : World) (hr1 : Kd.C (Kd.int .u8) w A1 l1.length l1) (hc1 : l1.length ≤ c1) (h : layout_Split.f k a0_0 a0_1 a0_2 l1 = some (r1, r2)) :
 Calls Tryz.prog 47 #[.agg #[.int .i64 a0_0, .int .i64 a0_1, .int .i64 a0_2], .slice A1 l1.length c1] w fun e w' => ∃ v0_ : Value, e = .returned (.tuple #[v0_, .int .i64 r2]) ∧ Kd.S (Kd.slice 5 (Kd.int .u8)) 34 w' w.heap.size (fun _ => True) v0_ r1 ∧ Below w.heap.size w w' := by
 unfold layout_Split.f at h
 obtain ⟨⟨s1, s2⟩, hz, h⟩ := Option.bind_eq_some_iff.1 h
 by_cases hs : s2 = 0
 ·subst hs
  dsimp only at h
  rw [if_pos rfl] at h
  have cut : ∀ {p : Prop} [Decidable p] {a : Option (List (List Int) × Int)}, (if p then a else none) = some (r1, r2) → p ∧ a = some (r1, r2) := by
   intro p _ a hh
   by_cases hp : p
   ·rw [if_pos hp] at hh; exact ⟨hp, hh⟩
   ·rw [if_neg hp] at hh; cases hh
  obtain ⟨q1, h⟩ := cut h
  obtain ⟨q2, h⟩ := cut h
  obtain ⟨q3, h⟩ := cut h
  obtain ⟨q4, h⟩ := cut h
  obtain ⟨q5, h⟩ := cut h
  obtain ⟨⟨u1, u2⟩, hu, h⟩ := Option.bind_eq_some_iff.1 h
  obtain ⟨q6, h⟩ := cut h
  obtain ⟨r, hf, h⟩ := Option.bind_eq_some_iff.1 h
  simp only [Option.some.injEq, Prod.mk.injEq] at h
  obtain ⟨rfl, rfl⟩ := h
  obtain ⟨K, rfl⟩ : ∃ K : Nat, a0_1 = (K : Int) := ⟨a0_1.toNat, by omega⟩
  obtain ⟨size, rfl⟩ : ∃ s : Nat, s1 = (s : Int) := ⟨s1.toNat, by omega⟩
  dsimp only at q6 hf q3 q4
  obtain ⟨ahead, rfl⟩ : ∃ s : Nat, u2 = (s : Int) := ⟨u2.toNat, by omega⟩
  simp only [Int.toNat_natCast] at hf
  exact layout_Split.go k a0_0 a0_2 K size ahead l1.length A1 c1 l1 u1 r w hr1 hc1 rfl q5 hz (by omega) (by omega) (by omega) (by omega) hu (by omega) hf
 ·dsimp only at h
  rw [if_neg hs] at h
  simp only [Option.some.injEq, Prod.mk.injEq] at h
  obtain ⟨rfl, rfl⟩ := h
  refine (layout_Split.bad k a0_0 a0_1 a0_2 A1 c1 l1 s1 s2 w hz hs).mono ?_
  rintro e w' ⟨rfl, hB⟩
  exact ⟨_, rfl, Kd.S_nil _ _ _ _ _, hB⟩
end Go.Proofs.YtelcllhibpnneaaGreat.XCo
end
section
namespace Go.Proofs.YtelcllhibpnneaaGreat.XCo
open Go.RowKit Go.Proofs.YtelcllhibpnneaaGreatW.PrintWords Go.Proofs.YtelcllhibpnneaaGreatW.PrintLast Go.Proofs.YtelcllhibpnneaaGreatW.PrintMore
attribute [local go_sem] max2_int min2_int max_two min_two max_three min_three max_four min_four
set_option linter.unusedVariables false
set_option linter.unusedSimpArgs false
def codec_Encode.f (k : Nat) (a0_0 : Int) (a0_1 : Int) (a0_2 : Int) (l1 : List Int) : Option ((List (List Int)) × Int) := (layout_Split.f k a0_0 a0_1 a0_2 l1).bind fun bt132 => (if bt132.2 = 0 then ((codec_Parity.f k a0_0 a0_1 a0_2 bt132.1).bind fun bt136 => (if bt132.1.length + bt136.1.length < 5864062014805 then (some ((bt132.1 ++ bt136.1), bt136.2)) else (none))) else (some (([] : List (List Int)), bt132.2)))
set_option maxHeartbeats 8000000 in
set_option maxRecDepth 100000 in
theorem codec_Encode.calls (k : Nat) (a0_0 : Int) (a0_1 : Int) (a0_2 : Int) (A1 : Option Addr) (c1 : Nat) (l1 : List Int) (r1 : List (List Int)) (r2 : Int) (w : World) (hr1 : Kd.C (Kd.int .u8) w A1 l1.length l1) (hc1 : l1.length ≤ c1) (h : codec_Encode.f k a0_0 a0_1 a0_2 l1 = some (r1, r2)) :
  Calls Tryz.prog 22 #[.agg #[.int .i64 a0_0, .int .i64 a0_1, .int .i64 a0_2], .slice A1 l1.length c1] w fun e w' => ∃ v0_ : Value, e = .returned (.tuple #[v0_, .int .i64 r2]) ∧ Kd.N (Kd.slice 5 (Kd.int .u8)) 34 w' w.heap.size (fun k_ => (w.heap.size ≤ k_)) v0_ r1 ∧ Below w.heap.size w w' := by
 have hu23 := Tryz.underlying23
 have HR1 := Aside0.mk hr1
 have HC1 := Aside0.mk hc1
 clear hr1 hc1
 have HB := Aside0.mk (Below.refl w.heap.size w)
 have H : ((layout_Split.f k a0_0 a0_1 a0_2 l1).bind fun bt132 => (if bt132.2 = 0 then ((codec_Parity.f k a0_0 a0_1 a0_2 bt132.1).bind fun bt136 => (if bt132.1.length + bt136.1.length < 5864062014805 then (some ((bt132.1 ++ bt136.1), bt136.2)) else (none))) else (some (([] : List (List Int)), bt132.2)))) = some (r1, r2) := h
 clear h
 replace H := Option.bind_eq_some_iff.mp H
 obtain ⟨⟨t132, t135⟩, A30, H⟩ := H
 replace H : (if t135 = 0 then ((codec_Parity.f k a0_0 a0_1 a0_2 t132).bind fun bt136 => (if t132.length + bt136.1.length < 5864062014805 then (some ((t132 ++ bt136.1), bt136.2)) else (none))) else (some (([] : List (List Int)), t135))) = some (r1, r2) := H
 have A3 := Aside0.mk A30
 clear A30
 by_cases c4 : t135 = 0
 ·rw [if_pos c4] at H
  have c4b0 : (t135 == 0) = true := beq_iff_eq.mpr c4
  have c4b1 : (t135 != 0) = false := bne_eq_false_iff_eq.mpr c4
  clear c4
  replace H := Option.bind_eq_some_iff.mp H
  obtain ⟨⟨t136, t139⟩, A50, H⟩ := H
  replace H : (if t132.length + t136.length < 5864062014805 then (some ((t132 ++ t136), t139)) else (none)) = some (r1, r2) := H
  have A5 := Aside0.mk A50
  clear A50
  by_cases c6 : t132.length + t136.length < 5864062014805
  ·rw [if_pos c6] at H
   have LMc6 := Aside0.mk c6
   clear c6
   obtain ⟨y140, hy140⟩ : ∃ y_ : List (List Int), y_ = (t132 ++ t136) := ⟨_, rfl⟩
   replace H : (some (y140, t139)) = some (r1, r2) := by first | (rw [hy140]; with_reducible exact H) | (have H2_ := (Option.bind_some _ _).symm.trans H; rw [hy140]; with_reducible exact H2_) | (have H2_ := (Option.bind_some _ _).symm.trans H; with_reducible exact H2_) | with_reducible exact H | (rw [hy140]; exact H) | exact H
   have Ny140 := Aside0.mk hy140
   clear hy140
   simp only [Option.some.injEq, Prod.mk.injEq] at H
   obtain ⟨rfl, rfl⟩ := H
   go_enter Tryz.func22, Tryz.ntmps22
   go_wp2_with (first | ((with_reducible refine gate_dst (N := 2) rfl ?_); refine box_event ?hg (N := 2) ?hd (cs := #[.int .i64 a0_0, .int .i64 a0_1, .int .i64 a0_2]) (t := 23) ?hr ?_; (case hd => rfl); (case hg => rfl); (case hr => first | (go_simp; done) | (go_simp; rfl)); intro gb131 hg w7 hbox hb; have n0_ := Aside0.mk (below_step (by repeat (first | (with_reducible first | exact HB.out | apply below_alloc | apply pw_below_drewN | apply below_drew1) | exact HB.out)) hb); have n1_ := Aside0.mk (hbox); have n2_ := Aside0.mk ((by rw [hg]; exact (below_size (by repeat (first | (with_reducible first | exact HB.out | apply below_alloc | apply pw_below_drewN | apply below_drew1) | exact HB.out))) : w.heap.size ≤ gb131)); have n3_ := Aside0.mk ((by rw [hg]; exact (below_size (by repeat (first | (with_reducible first | exact HB.out | apply below_alloc | apply pw_below_drewN | apply below_drew1) | exact HB.out))) : w.heap.size ≤ gb131)); clear HB; have HB := n0_; have BK131 := n1_; have GW131 := n2_; have GE131 := n3_; clear n0_ n1_ n2_ n3_; clear hb hbox hg; have hcz8_0 : w7.cell? ⟨gb131, 0, none⟩ = some (.int .i64 a0_0) := (blk_cell BK131.out 0).trans rfl; have hcz8_1 : w7.cell? ⟨gb131, 1, none⟩ = some (.int .i64 a0_1) := (blk_cell BK131.out 1).trans rfl; have hcz8_2 : w7.cell? ⟨gb131, 2, none⟩ = some (.int .i64 a0_2) := (blk_cell BK131.out 2).trans rfl; have hfz8_0 := blk_frozen BK131.out 0; have hfz8_1 := blk_frozen BK131.out 1; have hfz8_2 := blk_frozen BK131.out 2) | ((with_reducible refine gate_callee (f := 47) rfl ?_); refine goesL_ (some 12) rfl rfl Tryz.func47 (by kernel_rfl) rfl #[.agg #[.int .i64 a0_0, .int .i64 a0_1, .int .i64 a0_2], .slice A1 l1.length c1] rfl (by (try simp only [List.map_toArray, List.map_cons, List.map_nil]); first | done | rfl | (simp only [List.length_drop, List.length_take]; rfl)) ?_; (with_reducible refine (layout_Split.calls k a0_0 a0_1 a0_2 _ _ l1 t132 t135 _ ?side1 ?side2 A3.out).mono ?_); (case side1 => repeat (first | exact (Kd.C_below HR1.out HB.out) | (with_reducible refine Kd.C_alloc ?_ _) | (with_reducible refine Kd.C_drewN ?_ _) | (with_reducible refine Kd.C_drew ?_))); (case side2 => exact HC1.out); rintro e w9 ⟨v133, rfl, ho0, hb⟩; refine ⟨_, rfl, ?_⟩; have n0_ := Aside0.mk (Kd.N_lower (Kd.N_mono (ok' := fun k_ => (w.heap.size ≤ k_) ∧ k_ ≠ gb131) (Kd.S_N (Kd.S_bound ho0)) (fun k_ hk_ => ⟨(Nat.le_trans (below_size (by repeat (first | (with_reducible first | exact HB.out | apply below_alloc | apply pw_below_drewN | apply below_drew1 | refine below_set ?_ GE131.out) | exact HB.out))) hk_.2.1), (Kd.freshB (g := gb131) (o := .cells #[.int .i64 a0_0, .int .i64 a0_1, .int .i64 a0_2] 23 (0, 0)) (by (with_reducible repeat (first | refine blk_drewN ?_ _ | refine blk_drew ?_ | refine blk_alloc ?_ _)); exact BK131.out) k_ hk_.2.1)⟩)) (below_size (by repeat (first | (with_reducible first | exact HB.out | apply below_alloc | apply pw_below_drewN | apply below_drew1 | refine below_set ?_ GE131.out) | exact HB.out)))); have n1_ := Aside0.mk (blk_below (g := gb131) (o := .cells #[.int .i64 a0_0, .int .i64 a0_1, .int .i64 a0_2] 23 (0, 0)) (by (with_reducible repeat (first | refine blk_drewN ?_ _ | refine blk_drew ?_ | refine blk_alloc ?_ _)); exact BK131.out) hb); have n2_ := Aside0.mk (below_step (by repeat (first | (with_reducible first | exact HB.out | apply below_alloc | apply pw_below_drewN | apply below_drew1 | refine below_set ?_ GE131.out) | exact HB.out)) hb); clear BK131; clear HB; have HO134 := n0_; have BK131 := n1_; have HB := n2_; clear n0_ n1_ n2_; (try clear hb); (try clear hb2); (try clear hk); (try clear hi); (try clear ho0); have hcz10_0 : w9.cell? ⟨gb131, 0, none⟩ = some (.int .i64 a0_0) := (blk_cell BK131.out 0).trans rfl; have hcz10_1 : w9.cell? ⟨gb131, 1, none⟩ = some (.int .i64 a0_1) := (blk_cell BK131.out 1).trans rfl; have hcz10_2 : w9.cell? ⟨gb131, 2, none⟩ = some (.int .i64 a0_2) := (blk_cell BK131.out 2).trans rfl; have hfz10_0 := blk_frozen BK131.out 0; have hfz10_1 := blk_frozen BK131.out 1; have hfz10_2 := blk_frozen BK131.out 2; obtain ⟨Ao11, co11, eo11⟩ := Kd.N_slice HO134.out; subst eo11) | ((with_reducible refine gate_callee (f := 17) rfl ?_); refine goesL_ (some 21) rfl rfl Tryz.func17 (by kernel_rfl) rfl #[.agg #[.int .i64 a0_0, .int .i64 a0_1, .int .i64 a0_2], .slice Ao11 t132.length co11] rfl (by (try simp only [List.map_toArray, List.map_cons, List.map_nil]); first | done | rfl | (simp only [List.length_drop, List.length_take]; rfl)) ?_; (with_reducible refine (codec_Parity.calls k a0_0 a0_1 a0_2 _ _ t132 t136 t139 _ ?side1 ?side2 A5.out).mono ?_); (case side1 => repeat (first | exact (Kd.N_reads' HO134.out).2.2 | (with_reducible refine Kd.C_alloc ?_ _) | (with_reducible refine Kd.C_drewN ?_ _) | (with_reducible refine Kd.C_drew ?_))); (case side2 => exact (Kd.N_reads' HO134.out).2.1); rintro e w12 ⟨v137, rfl, ho0, hb⟩; refine ⟨_, rfl, ?_⟩; have n0_ := Aside0.mk (Kd.N_elder' (by (with_reducible repeat (first | apply Kd.N_alloc | apply Kd.N_drewN | apply Kd.N_drew)); exact HO134.out) (Kd.S_base ho0) hb); have n1_ := Aside0.mk (Kd.N_lower (Kd.N_mono (ok' := fun k_ => (w.heap.size ≤ k_) ∧ some k_ ≠ (.slice Ao11 t132.length co11 : Value).ownBlock ∧ k_ ≠ gb131) (Kd.S_N (Kd.S_bound ho0)) (fun k_ hk_ => ⟨(Nat.le_trans (below_size (by repeat (first | (with_reducible first | exact HB.out | apply below_alloc | apply pw_below_drewN | apply below_drew1 | refine below_set ?_ GE131.out) | exact HB.out))) hk_.2.1), (Kd.fresh' (Kd.N_lt (by (with_reducible repeat (first | apply Kd.N_alloc | apply Kd.N_drewN | apply Kd.N_drew)); exact HO134.out)) k_ hk_.2.1), (Kd.freshB (g := gb131) (o := .cells #[.int .i64 a0_0, .int .i64 a0_1, .int .i64 a0_2] 23 (0, 0)) (by (with_reducible repeat (first | refine blk_drewN ?_ _ | refine blk_drew ?_ | refine blk_alloc ?_ _)); exact BK131.out) k_ hk_.2.1)⟩)) (below_size (by repeat (first | (with_reducible first | exact HB.out | apply below_alloc | apply pw_below_drewN | apply below_drew1 | refine below_set ?_ GE131.out) | exact HB.out)))); have n2_ := Aside0.mk (blk_below (g := gb131) (o := .cells #[.int .i64 a0_0, .int .i64 a0_1, .int .i64 a0_2] 23 (0, 0)) (by (with_reducible repeat (first | refine blk_drewN ?_ _ | refine blk_drew ?_ | refine blk_alloc ?_ _)); exact BK131.out) hb); have n3_ := Aside0.mk (below_step (by repeat (first | (with_reducible first | exact HB.out | apply below_alloc | apply pw_below_drewN | apply below_drew1 | refine below_set ?_ GE131.out) | exact HB.out)) hb); clear HO134; clear BK131; clear HB; have HO134 := n0_; have HO138 := n1_; have BK131 := n2_; have HB := n3_; clear n0_ n1_ n2_ n3_; (try clear hb); (try clear hb2); (try clear hk); (try clear hi); (try clear ho0); obtain ⟨Ao14, co14, eo14⟩ := Kd.N_slice HO138.out; subst eo14) | ((with_reducible refine gate_builtin (b := .append) (xs := #[.tmp 24, .tmp 25]) rfl ?_); at_builtin; refine Kd.N_append_rows (Kd.slice 5 (Kd.int .u8)) (w0 := w) w.heap.size rfl (.tmp 24) (.tmp 25) 24 34 (.slice none 0 0) 24 rfl Tryz.underlying24 info34 rfl (by decide) (by omega) (.slice Ao11 t132.length co11) t132 t136 _ _ _ (fun k_ => (w.heap.size ≤ k_) ∧ k_ ≠ gb131) (fun k_ => ((fun k_ => (w.heap.size ≤ k_) ∧ k_ ≠ gb131)) k_ ∧ some k_ ≠ (.slice Ao11 t132.length co11 : Value).ownBlock) rfl rfl ?aO ?aR (fun _ hk => hk) ?aF ?aB ?aS ?aL ?_; (case aR => exact (by skip; exact Kd.N_F (Kd.N_mono (ok' := (fun k_ => ((fun k_ => (w.heap.size ≤ k_) ∧ k_ ≠ gb131)) k_ ∧ some k_ ≠ (.slice Ao11 t132.length co11 : Value).ownBlock)) (HO138.out) (fun k_ hk => ⟨⟨hk.1, hk.2.2⟩, hk.2.1⟩)))); (case aB => exact (by repeat (first | (with_reducible first | exact HB.out | apply below_alloc | apply pw_below_drewN | apply below_drew1 | refine below_set ?_ GE131.out) | exact HB.out))); (case aF => exact (fun k_ hk => ⟨(Nat.le_trans (below_size (by repeat (first | (with_reducible first | exact HB.out | apply below_alloc | apply pw_below_drewN | apply below_drew1 | refine below_set ?_ GE131.out) | exact HB.out))) hk), Kd.freshB (g := gb131) (o := .cells #[.int .i64 a0_0, .int .i64 a0_1, .int .i64 a0_2] 23 (0, 0)) (by (with_reducible repeat (first | refine blk_drewN ?_ _ | refine blk_drew ?_ | refine blk_alloc ?_ _)); exact BK131.out) k_ hk⟩)); (case aO => exact (by (with_reducible repeat (first | apply Kd.N_alloc | apply Kd.N_drewN | apply Kd.N_drew)); exact Kd.N_mono HO134.out (fun _ hk => ⟨hk.1.1, hk.1.2⟩))); (case aS => exact (below_size (by repeat (first | (with_reducible first | exact HB.out | apply below_alloc | apply pw_below_drewN | apply below_drew1 | refine below_set ?_ GE131.out) | exact HB.out)))); (case aL => have := LMc6.out; omega); intro v141 w13 ho hb hg hat; rw [← Ny140.out] at ho; have n0_ := Aside0.mk (blk_grown (g := gb131) (o := .cells #[.int .i64 a0_0, .int .i64 a0_1, .int .i64 a0_2] 23 (0, 0)) (by (with_reducible repeat (first | refine blk_drewN ?_ _ | refine blk_drew ?_ | refine blk_alloc ?_ _)); exact BK131.out) hg (Kd.N_ne HO134.out BK131.out (by decide))); have n1_ := Aside0.mk (Kd.N_afterv (ok := (fun k_ => (w.heap.size ≤ k_) ∧ k_ ≠ gb131)) (by (with_reducible repeat (first | apply Kd.N_alloc | apply Kd.N_drewN | apply Kd.N_drew)); exact Kd.N_mono HO138.out (fun _ hk => ⟨⟨hk.1, hk.2.2⟩, hk.2.1⟩)) hg hat); have n2_ := Aside0.mk (hb); have n3_ := Aside0.mk (ho); clear BK131; clear HO138; clear HB; clear HO134; have BK131 := n0_; have HO138 := n1_; have HB := n2_; have HO142 := n3_; clear n0_ n1_ n2_ n3_; clear ho hb hg hat))
   go_ret2
   exact ⟨_, by first | rfl | (simp [errW_none, errW_some] <;> rfl) | (simp [*, errW_none, errW_some] <;> rfl), by (with_reducible repeat (first | apply Kd.N_alloc | apply Kd.N_drewN | apply Kd.N_drew)); exact Kd.N_mono HO142.out (fun _ hk => hk.1), by repeat (first | (with_reducible first | exact HB.out | apply below_alloc | apply pw_below_drewN | apply below_drew1 | refine below_set ?_ GE131.out) | exact HB.out)⟩
  ·rw [if_neg c6] at H
   exact absurd H (by simp)
 ·rw [if_neg c4] at H
  have c4b0 : (t135 == 0) = false := beq_eq_false_iff_ne.mpr c4
  have c4b1 : (t135 != 0) = true := bne_iff_ne.mpr c4
  simp only [Option.some.injEq, Prod.mk.injEq] at H
  obtain ⟨rfl, rfl⟩ := H
  go_enter Tryz.func22, Tryz.ntmps22
  go_wp2_with (first | ((with_reducible refine gate_dst (N := 2) rfl ?_); refine box_event ?hg (N := 2) ?hd (cs := #[.int .i64 a0_0, .int .i64 a0_1, .int .i64 a0_2]) (t := 23) ?hr ?_; (case hd => rfl); (case hg => rfl); (case hr => first | (go_simp; done) | (go_simp; rfl)); intro gb131 hg w15 hbox hb; have n0_ := Aside0.mk (below_step (by repeat (first | (with_reducible first | exact HB.out | apply below_alloc | apply pw_below_drewN | apply below_drew1) | exact HB.out)) hb); have n1_ := Aside0.mk (hbox); have n2_ := Aside0.mk ((by rw [hg]; exact (below_size (by repeat (first | (with_reducible first | exact HB.out | apply below_alloc | apply pw_below_drewN | apply below_drew1) | exact HB.out))) : w.heap.size ≤ gb131)); have n3_ := Aside0.mk ((by rw [hg]; exact (below_size (by repeat (first | (with_reducible first | exact HB.out | apply below_alloc | apply pw_below_drewN | apply below_drew1) | exact HB.out))) : w.heap.size ≤ gb131)); clear HB; have HB := n0_; have BK131 := n1_; have GW131 := n2_; have GE131 := n3_; clear n0_ n1_ n2_ n3_; clear hb hbox hg; have hcz16_0 : w15.cell? ⟨gb131, 0, none⟩ = some (.int .i64 a0_0) := (blk_cell BK131.out 0).trans rfl; have hcz16_1 : w15.cell? ⟨gb131, 1, none⟩ = some (.int .i64 a0_1) := (blk_cell BK131.out 1).trans rfl; have hcz16_2 : w15.cell? ⟨gb131, 2, none⟩ = some (.int .i64 a0_2) := (blk_cell BK131.out 2).trans rfl; have hfz16_0 := blk_frozen BK131.out 0; have hfz16_1 := blk_frozen BK131.out 1; have hfz16_2 := blk_frozen BK131.out 2) | ((with_reducible refine gate_callee (f := 47) rfl ?_); refine goesL_ (some 12) rfl rfl Tryz.func47 (by kernel_rfl) rfl #[.agg #[.int .i64 a0_0, .int .i64 a0_1, .int .i64 a0_2], .slice A1 l1.length c1] rfl (by (try simp only [List.map_toArray, List.map_cons, List.map_nil]); first | done | rfl | (simp only [List.length_drop, List.length_take]; rfl)) ?_; (with_reducible refine (layout_Split.calls k a0_0 a0_1 a0_2 _ _ l1 t132 t135 _ ?side1 ?side2 A3.out).mono ?_); (case side1 => repeat (first | exact (Kd.C_below HR1.out HB.out) | (with_reducible refine Kd.C_alloc ?_ _) | (with_reducible refine Kd.C_drewN ?_ _) | (with_reducible refine Kd.C_drew ?_))); (case side2 => exact HC1.out); rintro e w17 ⟨v133, rfl, ho0, hb⟩; refine ⟨_, rfl, ?_⟩; have n0_ := Aside0.mk (Kd.N_lower (Kd.N_mono (ok' := fun k_ => (w.heap.size ≤ k_) ∧ k_ ≠ gb131) (Kd.S_N (Kd.S_bound ho0)) (fun k_ hk_ => ⟨(Nat.le_trans (below_size (by repeat (first | (with_reducible first | exact HB.out | apply below_alloc | apply pw_below_drewN | apply below_drew1 | refine below_set ?_ GE131.out) | exact HB.out))) hk_.2.1), (Kd.freshB (g := gb131) (o := .cells #[.int .i64 a0_0, .int .i64 a0_1, .int .i64 a0_2] 23 (0, 0)) (by (with_reducible repeat (first | refine blk_drewN ?_ _ | refine blk_drew ?_ | refine blk_alloc ?_ _)); exact BK131.out) k_ hk_.2.1)⟩)) (below_size (by repeat (first | (with_reducible first | exact HB.out | apply below_alloc | apply pw_below_drewN | apply below_drew1 | refine below_set ?_ GE131.out) | exact HB.out)))); have n1_ := Aside0.mk (blk_below (g := gb131) (o := .cells #[.int .i64 a0_0, .int .i64 a0_1, .int .i64 a0_2] 23 (0, 0)) (by (with_reducible repeat (first | refine blk_drewN ?_ _ | refine blk_drew ?_ | refine blk_alloc ?_ _)); exact BK131.out) hb); have n2_ := Aside0.mk (below_step (by repeat (first | (with_reducible first | exact HB.out | apply below_alloc | apply pw_below_drewN | apply below_drew1 | refine below_set ?_ GE131.out) | exact HB.out)) hb); clear BK131; clear HB; have HO134 := n0_; have BK131 := n1_; have HB := n2_; clear n0_ n1_ n2_; (try clear hb); (try clear hb2); (try clear hk); (try clear hi); (try clear ho0)))
  go_ret2
  exact ⟨_, by first | rfl | (simp [errW_none, errW_some] <;> rfl) | (simp [*, errW_none, errW_some] <;> rfl), by first | exact Kd.S_nil _ _ _ _ _ | exact Kd.N_nil _ _ _ _ _ | exact Kd.V_nil _ _ _ _ _ | exact Kd.Q_nil _ _ _ _ _ | exact Kd.R_nil _ _ _ _ _, by repeat (first | (with_reducible first | exact HB.out | apply below_alloc | apply pw_below_drewN | apply below_drew1 | refine below_set ?_ GE131.out) | exact HB.out)⟩
end Go.Proofs.YtelcllhibpnneaaGreat.XCo
end
section
namespace Go.Proofs.YtelcllhibpnneaaGreat.XCo
open Go.RowKit Go.Proofs.YtelcllhibpnneaaGreatW.PrintWords Go.Proofs.YtelcllhibpnneaaGreatW.PrintLast Go.Proofs.YtelcllhibpnneaaGreatW.PrintMore
attribute [local go_sem] max2_int min2_int max_two min_two max_three min_three max_four min_four
set_option linter.unusedVariables false
set_option linter.unusedSimpArgs false
def gambrelref09_Of.f (a0 : Int) : Option (ByteArray × Int × Int × Int × Int × Bool) := if a0 = 1 then (some ((⟨#[106, 118]⟩ : ByteArray), 8, 285, 106, 4, true)) else (if a0 = 2 then (some ((⟨#[106, 99]⟩ : ByteArray), 16, 69643, 106, 4, true)) else (if a0 = 3 then (some ((⟨#[105, 114]⟩ : ByteArray), 8, 285, 105, 3, true)) else (if a0 = 4 then (some ((⟨#[105, 99]⟩ : ByteArray), 8, 285, 105, 4, true)) else (if a0 = 5 then (some ((⟨#[98, 98]⟩ : ByteArray), 8, 285, 98, 4, true)) else (if a0 = 6 then (some ((⟨#[107, 112]⟩ : ByteArray), 8, 285, 112, 4, true)) else (some ((⟨#[]⟩ : ByteArray), 0, 0, 0, 0, false)))))))
set_option maxHeartbeats 8000000 in
set_option maxRecDepth 100000 in
theorem gambrelref09_Of.calls (a0 : Int) (r1 : ByteArray) (r2 : Int) (r3 : Int) (r4 : Int) (r5 : Int) (r6 : Bool) (w : World) (h : gambrelref09_Of.f a0 = some (r1, r2, r3, r4, r5, r6)) :
  Calls Tryz.prog 41 #[.int .i64 a0] w fun e w' => e = .returned (.tuple #[.agg #[.string r1, .int .i64 r2, .int .u32 r3, .int .u8 r4, .int .i64 r5], .bool r6]) ∧ Below w.heap.size w w' := by
 have hu72 := Tryz.underlying72
 have HB := Aside0.mk (Below.refl w.heap.size w)
 have H : (if a0 = 1 then (some ((⟨#[106, 118]⟩ : ByteArray), 8, 285, 106, 4, true)) else (if a0 = 2 then (some ((⟨#[106, 99]⟩ : ByteArray), 16, 69643, 106, 4, true)) else (if a0 = 3 then (some ((⟨#[105, 114]⟩ : ByteArray), 8, 285, 105, 3, true)) else (if a0 = 4 then (some ((⟨#[105, 99]⟩ : ByteArray), 8, 285, 105, 4, true)) else (if a0 = 5 then (some ((⟨#[98, 98]⟩ : ByteArray), 8, 285, 98, 4, true)) else (if a0 = 6 then (some ((⟨#[107, 112]⟩ : ByteArray), 8, 285, 112, 4, true)) else (some ((⟨#[]⟩ : ByteArray), 0, 0, 0, 0, false)))))))) = some (r1, r2, r3, r4, r5, r6) := h
 clear h
 by_cases c2 : a0 = 1
 ·rw [if_pos c2] at H
  have c2b0 : (a0 == 1) = true := beq_iff_eq.mpr c2
  have c2b1 : (a0 != 1) = false := bne_eq_false_iff_eq.mpr c2
  clear c2
  simp only [Option.some.injEq, Prod.mk.injEq] at H
  obtain ⟨rfl, rfl, rfl, rfl, rfl, rfl⟩ := H
  go_enter Tryz.func41, Tryz.ntmps41
  go_wp2_with (first | ((with_reducible refine gate_dst (N := 2) rfl ?_); refine box_event ?hg (N := 2) ?hd (cs := #[.string (⟨#[]⟩ : ByteArray), .int .i64 0, .int .u32 0, .int .u8 0, .int .i64 0]) (t := 72) ?hr ?_; (case hd => rfl); (case hg => rfl); (case hr => first | (go_simp; done) | (go_simp; rfl)); intro gb144 hg w3 hbox hb; have n0_ := Aside0.mk (below_step (by repeat (first | (with_reducible first | exact HB.out | apply below_alloc | apply pw_below_drewN | apply below_drew1) | exact HB.out)) hb); have n1_ := Aside0.mk (hbox); have n2_ := Aside0.mk ((by rw [hg]; exact (below_size (by repeat (first | (with_reducible first | exact HB.out | apply below_alloc | apply pw_below_drewN | apply below_drew1) | exact HB.out))) : w.heap.size ≤ gb144)); have n3_ := Aside0.mk ((by rw [hg]; exact (below_size (by repeat (first | (with_reducible first | exact HB.out | apply below_alloc | apply pw_below_drewN | apply below_drew1) | exact HB.out))) : w.heap.size ≤ gb144)); clear HB; have HB := n0_; have BK144 := n1_; have GW144 := n2_; have GE144 := n3_; clear n0_ n1_ n2_ n3_; clear hb hbox hg; have hcz4_0 : w3.cell? ⟨gb144, 0, none⟩ = some (.string (⟨#[]⟩ : ByteArray)) := (blk_cell BK144.out 0).trans rfl; have hcz4_1 : w3.cell? ⟨gb144, 1, none⟩ = some (.int .i64 0) := (blk_cell BK144.out 1).trans rfl; have hcz4_2 : w3.cell? ⟨gb144, 2, none⟩ = some (.int .u32 0) := (blk_cell BK144.out 2).trans rfl; have hcz4_3 : w3.cell? ⟨gb144, 3, none⟩ = some (.int .u8 0) := (blk_cell BK144.out 3).trans rfl; have hcz4_4 : w3.cell? ⟨gb144, 4, none⟩ = some (.int .i64 0) := (blk_cell BK144.out 4).trans rfl; have hfz4_0 := blk_frozen BK144.out 0; have hfz4_1 := blk_frozen BK144.out 1; have hfz4_2 := blk_frozen BK144.out 2; have hfz4_3 := blk_frozen BK144.out 3; have hfz4_4 := blk_frozen BK144.out 4))
  refine bodyPost_ret (results_ct rfl _ _ gb144 72 #[.string (⟨#[106, 118]⟩ : ByteArray), .int .i64 8, .int .u32 285, .int .u8 106, .int .i64 4] (0, 0) _ rfl (by (with_reducible repeat (first | refine blk_drewN ?_ _ | refine blk_drew ?_ | refine blk_alloc ?_ _)); refine blk_put (cs := #[.string (⟨#[106, 118]⟩ : ByteArray), .int .i64 8, .int .u32 285, .int .u8 106, .int .i64 0]) ?_ 4 _ rfl; (with_reducible repeat (first | refine blk_drewN ?_ _ | refine blk_drew ?_ | refine blk_alloc ?_ _)); refine blk_put (cs := #[.string (⟨#[106, 118]⟩ : ByteArray), .int .i64 8, .int .u32 285, .int .u8 0, .int .i64 0]) ?_ 3 _ rfl; (with_reducible repeat (first | refine blk_drewN ?_ _ | refine blk_drew ?_ | refine blk_alloc ?_ _)); refine blk_put (cs := #[.string (⟨#[106, 118]⟩ : ByteArray), .int .i64 8, .int .u32 0, .int .u8 0, .int .i64 0]) ?_ 2 _ rfl; (with_reducible repeat (first | refine blk_drewN ?_ _ | refine blk_drew ?_ | refine blk_alloc ?_ _)); refine blk_put (cs := #[.string (⟨#[106, 118]⟩ : ByteArray), .int .i64 0, .int .u32 0, .int .u8 0, .int .i64 0]) ?_ 1 _ rfl; (with_reducible repeat (first | refine blk_drewN ?_ _ | refine blk_drew ?_ | refine blk_alloc ?_ _)); refine blk_put (cs := #[.string (⟨#[]⟩ : ByteArray), .int .i64 0, .int .u32 0, .int .u8 0, .int .i64 0]) ?_ 0 _ rfl; (with_reducible repeat (first | refine blk_drewN ?_ _ | refine blk_drew ?_ | refine blk_alloc ?_ _)); exact BK144.out) Tryz.underlying72 rfl (by kernel_rfl)) rfl ?_
  exact ⟨by first | rfl | (simp [errW_none, errW_some] <;> rfl) | (simp [*, errW_none, errW_some] <;> rfl), by repeat (first | (with_reducible first | exact HB.out | apply below_alloc | apply pw_below_drewN | apply below_drew1 | refine below_set ?_ GE144.out) | exact HB.out)⟩
 ·rw [if_neg c2] at H
  have c2b0 : (a0 == 1) = false := beq_eq_false_iff_ne.mpr c2
  have c2b1 : (a0 != 1) = true := bne_iff_ne.mpr c2
  by_cases c5 : a0 = 2
  ·rw [if_pos c5] at H
   have c5b0 : (a0 == 2) = true := beq_iff_eq.mpr c5
   have c5b1 : (a0 != 2) = false := bne_eq_false_iff_eq.mpr c5
   clear c5
   simp only [Option.some.injEq, Prod.mk.injEq] at H
   obtain ⟨rfl, rfl, rfl, rfl, rfl, rfl⟩ := H
   go_enter Tryz.func41, Tryz.ntmps41
   go_wp2_with (first | ((with_reducible refine gate_dst (N := 2) rfl ?_); refine box_event ?hg (N := 2) ?hd (cs := #[.string (⟨#[]⟩ : ByteArray), .int .i64 0, .int .u32 0, .int .u8 0, .int .i64 0]) (t := 72) ?hr ?_; (case hd => rfl); (case hg => rfl); (case hr => first | (go_simp; done) | (go_simp; rfl)); intro gb144 hg w6 hbox hb; have n0_ := Aside0.mk (below_step (by repeat (first | (with_reducible first | exact HB.out | apply below_alloc | apply pw_below_drewN | apply below_drew1) | exact HB.out)) hb); have n1_ := Aside0.mk (hbox); have n2_ := Aside0.mk ((by rw [hg]; exact (below_size (by repeat (first | (with_reducible first | exact HB.out | apply below_alloc | apply pw_below_drewN | apply below_drew1) | exact HB.out))) : w.heap.size ≤ gb144)); have n3_ := Aside0.mk ((by rw [hg]; exact (below_size (by repeat (first | (with_reducible first | exact HB.out | apply below_alloc | apply pw_below_drewN | apply below_drew1) | exact HB.out))) : w.heap.size ≤ gb144)); clear HB; have HB := n0_; have BK144 := n1_; have GW144 := n2_; have GE144 := n3_; clear n0_ n1_ n2_ n3_; clear hb hbox hg; have hcz7_0 : w6.cell? ⟨gb144, 0, none⟩ = some (.string (⟨#[]⟩ : ByteArray)) := (blk_cell BK144.out 0).trans rfl; have hcz7_1 : w6.cell? ⟨gb144, 1, none⟩ = some (.int .i64 0) := (blk_cell BK144.out 1).trans rfl; have hcz7_2 : w6.cell? ⟨gb144, 2, none⟩ = some (.int .u32 0) := (blk_cell BK144.out 2).trans rfl; have hcz7_3 : w6.cell? ⟨gb144, 3, none⟩ = some (.int .u8 0) := (blk_cell BK144.out 3).trans rfl; have hcz7_4 : w6.cell? ⟨gb144, 4, none⟩ = some (.int .i64 0) := (blk_cell BK144.out 4).trans rfl; have hfz7_0 := blk_frozen BK144.out 0; have hfz7_1 := blk_frozen BK144.out 1; have hfz7_2 := blk_frozen BK144.out 2; have hfz7_3 := blk_frozen BK144.out 3; have hfz7_4 := blk_frozen BK144.out 4))
   refine bodyPost_ret (results_ct rfl _ _ gb144 72 #[.string (⟨#[106, 99]⟩ : ByteArray), .int .i64 16, .int .u32 69643, .int .u8 106, .int .i64 4] (0, 0) _ rfl (by (with_reducible repeat (first | refine blk_drewN ?_ _ | refine blk_drew ?_ | refine blk_alloc ?_ _)); refine blk_put (cs := #[.string (⟨#[106, 99]⟩ : ByteArray), .int .i64 16, .int .u32 69643, .int .u8 106, .int .i64 0]) ?_ 4 _ rfl; (with_reducible repeat (first | refine blk_drewN ?_ _ | refine blk_drew ?_ | refine blk_alloc ?_ _)); refine blk_put (cs := #[.string (⟨#[106, 99]⟩ : ByteArray), .int .i64 16, .int .u32 69643, .int .u8 0, .int .i64 0]) ?_ 3 _ rfl; (with_reducible repeat (first | refine blk_drewN ?_ _ | refine blk_drew ?_ | refine blk_alloc ?_ _)); refine blk_put (cs := #[.string (⟨#[106, 99]⟩ : ByteArray), .int .i64 16, .int .u32 0, .int .u8 0, .int .i64 0]) ?_ 2 _ rfl; (with_reducible repeat (first | refine blk_drewN ?_ _ | refine blk_drew ?_ | refine blk_alloc ?_ _)); refine blk_put (cs := #[.string (⟨#[106, 99]⟩ : ByteArray), .int .i64 0, .int .u32 0, .int .u8 0, .int .i64 0]) ?_ 1 _ rfl; (with_reducible repeat (first | refine blk_drewN ?_ _ | refine blk_drew ?_ | refine blk_alloc ?_ _)); refine blk_put (cs := #[.string (⟨#[]⟩ : ByteArray), .int .i64 0, .int .u32 0, .int .u8 0, .int .i64 0]) ?_ 0 _ rfl; (with_reducible repeat (first | refine blk_drewN ?_ _ | refine blk_drew ?_ | refine blk_alloc ?_ _)); exact BK144.out) Tryz.underlying72 rfl (by kernel_rfl)) rfl ?_
   exact ⟨by first | rfl | (simp [errW_none, errW_some] <;> rfl) | (simp [*, errW_none, errW_some] <;> rfl), by repeat (first | (with_reducible first | exact HB.out | apply below_alloc | apply pw_below_drewN | apply below_drew1 | refine below_set ?_ GE144.out) | exact HB.out)⟩
  ·rw [if_neg c5] at H
   have c5b0 : (a0 == 2) = false := beq_eq_false_iff_ne.mpr c5
   have c5b1 : (a0 != 2) = true := bne_iff_ne.mpr c5
   by_cases c8 : a0 = 3
   ·rw [if_pos c8] at H
    have c8b0 : (a0 == 3) = true := beq_iff_eq.mpr c8
    have c8b1 : (a0 != 3) = false := bne_eq_false_iff_eq.mpr c8
    clear c8
    simp only [Option.some.injEq, Prod.mk.injEq] at H
    obtain ⟨rfl, rfl, rfl, rfl, rfl, rfl⟩ := H
    go_enter Tryz.func41, Tryz.ntmps41
    go_wp2_with (first | ((with_reducible refine gate_dst (N := 2) rfl ?_); refine box_event ?hg (N := 2) ?hd (cs := #[.string (⟨#[]⟩ : ByteArray), .int .i64 0, .int .u32 0, .int .u8 0, .int .i64 0]) (t := 72) ?hr ?_; (case hd => rfl); (case hg => rfl); (case hr => first | (go_simp; done) | (go_simp; rfl)); intro gb144 hg w9 hbox hb; have n0_ := Aside0.mk (below_step (by repeat (first | (with_reducible first | exact HB.out | apply below_alloc | apply pw_below_drewN | apply below_drew1) | exact HB.out)) hb); have n1_ := Aside0.mk (hbox); have n2_ := Aside0.mk ((by rw [hg]; exact (below_size (by repeat (first | (with_reducible first | exact HB.out | apply below_alloc | apply pw_below_drewN | apply below_drew1) | exact HB.out))) : w.heap.size ≤ gb144)); have n3_ := Aside0.mk ((by rw [hg]; exact (below_size (by repeat (first | (with_reducible first | exact HB.out | apply below_alloc | apply pw_below_drewN | apply below_drew1) | exact HB.out))) : w.heap.size ≤ gb144)); clear HB; have HB := n0_; have BK144 := n1_; have GW144 := n2_; have GE144 := n3_; clear n0_ n1_ n2_ n3_; clear hb hbox hg; have hcz10_0 : w9.cell? ⟨gb144, 0, none⟩ = some (.string (⟨#[]⟩ : ByteArray)) := (blk_cell BK144.out 0).trans rfl; have hcz10_1 : w9.cell? ⟨gb144, 1, none⟩ = some (.int .i64 0) := (blk_cell BK144.out 1).trans rfl; have hcz10_2 : w9.cell? ⟨gb144, 2, none⟩ = some (.int .u32 0) := (blk_cell BK144.out 2).trans rfl; have hcz10_3 : w9.cell? ⟨gb144, 3, none⟩ = some (.int .u8 0) := (blk_cell BK144.out 3).trans rfl; have hcz10_4 : w9.cell? ⟨gb144, 4, none⟩ = some (.int .i64 0) := (blk_cell BK144.out 4).trans rfl; have hfz10_0 := blk_frozen BK144.out 0; have hfz10_1 := blk_frozen BK144.out 1; have hfz10_2 := blk_frozen BK144.out 2; have hfz10_3 := blk_frozen BK144.out 3; have hfz10_4 := blk_frozen BK144.out 4))
    refine bodyPost_ret (results_ct rfl _ _ gb144 72 #[.string (⟨#[105, 114]⟩ : ByteArray), .int .i64 8, .int .u32 285, .int .u8 105, .int .i64 3] (0, 0) _ rfl (by (with_reducible repeat (first | refine blk_drewN ?_ _ | refine blk_drew ?_ | refine blk_alloc ?_ _)); refine blk_put (cs := #[.string (⟨#[105, 114]⟩ : ByteArray), .int .i64 8, .int .u32 285, .int .u8 105, .int .i64 0]) ?_ 4 _ rfl; (with_reducible repeat (first | refine blk_drewN ?_ _ | refine blk_drew ?_ | refine blk_alloc ?_ _)); refine blk_put (cs := #[.string (⟨#[105, 114]⟩ : ByteArray), .int .i64 8, .int .u32 285, .int .u8 0, .int .i64 0]) ?_ 3 _ rfl; (with_reducible repeat (first | refine blk_drewN ?_ _ | refine blk_drew ?_ | refine blk_alloc ?_ _)); refine blk_put (cs := #[.string (⟨#[105, 114]⟩ : ByteArray), .int .i64 8, .int .u32 0, .int .u8 0, .int .i64 0]) ?_ 2 _ rfl; (with_reducible repeat (first | refine blk_drewN ?_ _ | refine blk_drew ?_ | refine blk_alloc ?_ _)); refine blk_put (cs := #[.string (⟨#[105, 114]⟩ : ByteArray), .int .i64 0, .int .u32 0, .int .u8 0, .int .i64 0]) ?_ 1 _ rfl; (with_reducible repeat (first | refine blk_drewN ?_ _ | refine blk_drew ?_ | refine blk_alloc ?_ _)); refine blk_put (cs := #[.string (⟨#[]⟩ : ByteArray), .int .i64 0, .int .u32 0, .int .u8 0, .int .i64 0]) ?_ 0 _ rfl; (with_reducible repeat (first | refine blk_drewN ?_ _ | refine blk_drew ?_ | refine blk_alloc ?_ _)); exact BK144.out) Tryz.underlying72 rfl (by kernel_rfl)) rfl ?_
    exact ⟨by first | rfl | (simp [errW_none, errW_some] <;> rfl) | (simp [*, errW_none, errW_some] <;> rfl), by repeat (first | (with_reducible first | exact HB.out | apply below_alloc | apply pw_below_drewN | apply below_drew1 | refine below_set ?_ GE144.out) | exact HB.out)⟩
   ·rw [if_neg c8] at H
    have c8b0 : (a0 == 3) = false := beq_eq_false_iff_ne.mpr c8
    have c8b1 : (a0 != 3) = true := bne_iff_ne.mpr c8
    by_cases c11 : a0 = 4
    ·rw [if_pos c11] at H
     have c11b0 : (a0 == 4) = true := beq_iff_eq.mpr c11
     have c11b1 : (a0 != 4) = false := bne_eq_false_iff_eq.mpr c11
     clear c11
     simp only [Option.some.injEq, Prod.mk.injEq] at H
     obtain ⟨rfl, rfl, rfl, rfl, rfl, rfl⟩ := H
     go_enter Tryz.func41, Tryz.ntmps41
     go_wp2_with (first | ((with_reducible refine gate_dst (N := 2) rfl ?_); refine box_event ?hg (N := 2) ?hd (cs := #[.string (⟨#[]⟩ : ByteArray), .int .i64 0, .int .u32 0, .int .u8 0, .int .i64 0]) (t := 72) ?hr ?_; (case hd => rfl); (case hg => rfl); (case hr => first | (go_simp; done) | (go_simp; rfl)); intro gb144 hg w12 hbox hb; have n0_ := Aside0.mk (below_step (by repeat (first | (with_reducible first | exact HB.out | apply below_alloc | apply pw_below_drewN | apply below_drew1) | exact HB.out)) hb); have n1_ := Aside0.mk (hbox); have n2_ := Aside0.mk ((by rw [hg]; exact (below_size (by repeat (first | (with_reducible first | exact HB.out | apply below_alloc | apply pw_below_drewN | apply below_drew1) | exact HB.out))) : w.heap.size ≤ gb144)); have n3_ := Aside0.mk ((by rw [hg]; exact (below_size (by repeat (first | (with_reducible first | exact HB.out | apply below_alloc | apply pw_below_drewN | apply below_drew1) | exact HB.out))) : w.heap.size ≤ gb144)); clear HB; have HB := n0_; have BK144 := n1_; have GW144 := n2_; have GE144 := n3_; clear n0_ n1_ n2_ n3_; clear hb hbox hg; have hcz13_0 : w12.cell? ⟨gb144, 0, none⟩ = some (.string (⟨#[]⟩ : ByteArray)) := (blk_cell BK144.out 0).trans rfl; have hcz13_1 : w12.cell? ⟨gb144, 1, none⟩ = some (.int .i64 0) := (blk_cell BK144.out 1).trans rfl; have hcz13_2 : w12.cell? ⟨gb144, 2, none⟩ = some (.int .u32 0) := (blk_cell BK144.out 2).trans rfl; have hcz13_3 : w12.cell? ⟨gb144, 3, none⟩ = some (.int .u8 0) := (blk_cell BK144.out 3).trans rfl; have hcz13_4 : w12.cell? ⟨gb144, 4, none⟩ = some (.int .i64 0) := (blk_cell BK144.out 4).trans rfl; have hfz13_0 := blk_frozen BK144.out 0; have hfz13_1 := blk_frozen BK144.out 1; have hfz13_2 := blk_frozen BK144.out 2; have hfz13_3 := blk_frozen BK144.out 3; have hfz13_4 := blk_frozen BK144.out 4))
     refine bodyPost_ret (results_ct rfl _ _ gb144 72 #[.string (⟨#[105, 99]⟩ : ByteArray), .int .i64 8, .int .u32 285, .int .u8 105, .int .i64 4] (0, 0) _ rfl (by (with_reducible repeat (first | refine blk_drewN ?_ _ | refine blk_drew ?_ | refine blk_alloc ?_ _)); refine blk_put (cs := #[.string (⟨#[105, 99]⟩ : ByteArray), .int .i64 8, .int .u32 285, .int .u8 105, .int .i64 0]) ?_ 4 _ rfl; (with_reducible repeat (first | refine blk_drewN ?_ _ | refine blk_drew ?_ | refine blk_alloc ?_ _)); refine blk_put (cs := #[.string (⟨#[105, 99]⟩ : ByteArray), .int .i64 8, .int .u32 285, .int .u8 0, .int .i64 0]) ?_ 3 _ rfl; (with_reducible repeat (first | refine blk_drewN ?_ _ | refine blk_drew ?_ | refine blk_alloc ?_ _)); refine blk_put (cs := #[.string (⟨#[105, 99]⟩ : ByteArray), .int .i64 8, .int .u32 0, .int .u8 0, .int .i64 0]) ?_ 2 _ rfl; (with_reducible repeat (first | refine blk_drewN ?_ _ | refine blk_drew ?_ | refine blk_alloc ?_ _)); refine blk_put (cs := #[.string (⟨#[105, 99]⟩ : ByteArray), .int .i64 0, .int .u32 0, .int .u8 0, .int .i64 0]) ?_ 1 _ rfl; (with_reducible repeat (first | refine blk_drewN ?_ _ | refine blk_drew ?_ | refine blk_alloc ?_ _)); refine blk_put (cs := #[.string (⟨#[]⟩ : ByteArray), .int .i64 0, .int .u32 0, .int .u8 0, .int .i64 0]) ?_ 0 _ rfl; (with_reducible repeat (first | refine blk_drewN ?_ _ | refine blk_drew ?_ | refine blk_alloc ?_ _)); exact BK144.out) Tryz.underlying72 rfl (by kernel_rfl)) rfl ?_
     exact ⟨by first | rfl | (simp [errW_none, errW_some] <;> rfl) | (simp [*, errW_none, errW_some] <;> rfl), by repeat (first | (with_reducible first | exact HB.out | apply below_alloc | apply pw_below_drewN | apply below_drew1 | refine below_set ?_ GE144.out) | exact HB.out)⟩
    ·rw [if_neg c11] at H
     have c11b0 : (a0 == 4) = false := beq_eq_false_iff_ne.mpr c11
     have c11b1 : (a0 != 4) = true := bne_iff_ne.mpr c11
     by_cases c14 : a0 = 5
     ·rw [if_pos c14] at H
      have c14b0 : (a0 == 5) = true := beq_iff_eq.mpr c14
      have c14b1 : (a0 != 5) = false := bne_eq_false_iff_eq.mpr c14
      clear c14
      simp only [Option.some.injEq, Prod.mk.injEq] at H
      obtain ⟨rfl, rfl, rfl, rfl, rfl, rfl⟩ := H
      go_enter Tryz.func41, Tryz.ntmps41
      go_wp2_with (first | ((with_reducible refine gate_dst (N := 2) rfl ?_); refine box_event ?hg (N := 2) ?hd (cs := #[.string (⟨#[]⟩ : ByteArray), .int .i64 0, .int .u32 0, .int .u8 0, .int .i64 0]) (t := 72) ?hr ?_; (case hd => rfl); (case hg => rfl); (case hr => first | (go_simp; done) | (go_simp; rfl)); intro gb144 hg w15 hbox hb; have n0_ := Aside0.mk (below_step (by repeat (first | (with_reducible first | exact HB.out | apply below_alloc | apply pw_below_drewN | apply below_drew1) | exact HB.out)) hb); have n1_ := Aside0.mk (hbox); have n2_ := Aside0.mk ((by rw [hg]; exact (below_size (by repeat (first | (with_reducible first | exact HB.out | apply below_alloc | apply pw_below_drewN | apply below_drew1) | exact HB.out))) : w.heap.size ≤ gb144)); have n3_ := Aside0.mk ((by rw [hg]; exact (below_size (by repeat (first | (with_reducible first | exact HB.out | apply below_alloc | apply pw_below_drewN | apply below_drew1) | exact HB.out))) : w.heap.size ≤ gb144)); clear HB; have HB := n0_; have BK144 := n1_; have GW144 := n2_; have GE144 := n3_; clear n0_ n1_ n2_ n3_; clear hb hbox hg; have hcz16_0 : w15.cell? ⟨gb144, 0, none⟩ = some (.string (⟨#[]⟩ : ByteArray)) := (blk_cell BK144.out 0).trans rfl; have hcz16_1 : w15.cell? ⟨gb144, 1, none⟩ = some (.int .i64 0) := (blk_cell BK144.out 1).trans rfl; have hcz16_2 : w15.cell? ⟨gb144, 2, none⟩ = some (.int .u32 0) := (blk_cell BK144.out 2).trans rfl; have hcz16_3 : w15.cell? ⟨gb144, 3, none⟩ = some (.int .u8 0) := (blk_cell BK144.out 3).trans rfl; have hcz16_4 : w15.cell? ⟨gb144, 4, none⟩ = some (.int .i64 0) := (blk_cell BK144.out 4).trans rfl; have hfz16_0 := blk_frozen BK144.out 0; have hfz16_1 := blk_frozen BK144.out 1; have hfz16_2 := blk_frozen BK144.out 2; have hfz16_3 := blk_frozen BK144.out 3; have hfz16_4 := blk_frozen BK144.out 4))
      refine bodyPost_ret (results_ct rfl _ _ gb144 72 #[.string (⟨#[98, 98]⟩ : ByteArray), .int .i64 8, .int .u32 285, .int .u8 98, .int .i64 4] (0, 0) _ rfl (by (with_reducible repeat (first | refine blk_drewN ?_ _ | refine blk_drew ?_ | refine blk_alloc ?_ _)); refine blk_put (cs := #[.string (⟨#[98, 98]⟩ : ByteArray), .int .i64 8, .int .u32 285, .int .u8 98, .int .i64 0]) ?_ 4 _ rfl; (with_reducible repeat (first | refine blk_drewN ?_ _ | refine blk_drew ?_ | refine blk_alloc ?_ _)); refine blk_put (cs := #[.string (⟨#[98, 98]⟩ : ByteArray), .int .i64 8, .int .u32 285, .int .u8 0, .int .i64 0]) ?_ 3 _ rfl; (with_reducible repeat (first | refine blk_drewN ?_ _ | refine blk_drew ?_ | refine blk_alloc ?_ _)); refine blk_put (cs := #[.string (⟨#[98, 98]⟩ : ByteArray), .int .i64 8, .int .u32 0, .int .u8 0, .int .i64 0]) ?_ 2 _ rfl; (with_reducible repeat (first | refine blk_drewN ?_ _ | refine blk_drew ?_ | refine blk_alloc ?_ _)); refine blk_put (cs := #[.string (⟨#[98, 98]⟩ : ByteArray), .int .i64 0, .int .u32 0, .int .u8 0, .int .i64 0]) ?_ 1 _ rfl; (with_reducible repeat (first | refine blk_drewN ?_ _ | refine blk_drew ?_ | refine blk_alloc ?_ _)); refine blk_put (cs := #[.string (⟨#[]⟩ : ByteArray), .int .i64 0, .int .u32 0, .int .u8 0, .int .i64 0]) ?_ 0 _ rfl; (with_reducible repeat (first | refine blk_drewN ?_ _ | refine blk_drew ?_ | refine blk_alloc ?_ _)); exact BK144.out) Tryz.underlying72 rfl (by kernel_rfl)) rfl ?_
      exact ⟨by first | rfl | (simp [errW_none, errW_some] <;> rfl) | (simp [*, errW_none, errW_some] <;> rfl), by repeat (first | (with_reducible first | exact HB.out | apply below_alloc | apply pw_below_drewN | apply below_drew1 | refine below_set ?_ GE144.out) | exact HB.out)⟩
     ·rw [if_neg c14] at H
      have c14b0 : (a0 == 5) = false := beq_eq_false_iff_ne.mpr c14
      have c14b1 : (a0 != 5) = true := bne_iff_ne.mpr c14
      by_cases c17 : a0 = 6
      ·rw [if_pos c17] at H
       have c17b0 : (a0 == 6) = true := beq_iff_eq.mpr c17
       have c17b1 : (a0 != 6) = false := bne_eq_false_iff_eq.mpr c17
       clear c17
       simp only [Option.some.injEq, Prod.mk.injEq] at H
       obtain ⟨rfl, rfl, rfl, rfl, rfl, rfl⟩ := H
       go_enter Tryz.func41, Tryz.ntmps41
       go_wp2_with (first | ((with_reducible refine gate_dst (N := 2) rfl ?_); refine box_event ?hg (N := 2) ?hd (cs := #[.string (⟨#[]⟩ : ByteArray), .int .i64 0, .int .u32 0, .int .u8 0, .int .i64 0]) (t := 72) ?hr ?_; (case hd => rfl); (case hg => rfl); (case hr => first | (go_simp; done) | (go_simp; rfl)); intro gb144 hg w18 hbox hb; have n0_ := Aside0.mk (below_step (by repeat (first | (with_reducible first | exact HB.out | apply below_alloc | apply pw_below_drewN | apply below_drew1) | exact HB.out)) hb); have n1_ := Aside0.mk (hbox); have n2_ := Aside0.mk ((by rw [hg]; exact (below_size (by repeat (first | (with_reducible first | exact HB.out | apply below_alloc | apply pw_below_drewN | apply below_drew1) | exact HB.out))) : w.heap.size ≤ gb144)); have n3_ := Aside0.mk ((by rw [hg]; exact (below_size (by repeat (first | (with_reducible first | exact HB.out | apply below_alloc | apply pw_below_drewN | apply below_drew1) | exact HB.out))) : w.heap.size ≤ gb144)); clear HB; have HB := n0_; have BK144 := n1_; have GW144 := n2_; have GE144 := n3_; clear n0_ n1_ n2_ n3_; clear hb hbox hg; have hcz19_0 : w18.cell? ⟨gb144, 0, none⟩ = some (.string (⟨#[]⟩ : ByteArray)) := (blk_cell BK144.out 0).trans rfl; have hcz19_1 : w18.cell? ⟨gb144, 1, none⟩ = some (.int .i64 0) := (blk_cell BK144.out 1).trans rfl; have hcz19_2 : w18.cell? ⟨gb144, 2, none⟩ = some (.int .u32 0) := (blk_cell BK144.out 2).trans rfl; have hcz19_3 : w18.cell? ⟨gb144, 3, none⟩ = some (.int .u8 0) := (blk_cell BK144.out 3).trans rfl; have hcz19_4 : w18.cell? ⟨gb144, 4, none⟩ = some (.int .i64 0) := (blk_cell BK144.out 4).trans rfl; have hfz19_0 := blk_frozen BK144.out 0; have hfz19_1 := blk_frozen BK144.out 1; have hfz19_2 := blk_frozen BK144.out 2; have hfz19_3 := blk_frozen BK144.out 3; have hfz19_4 := blk_frozen BK144.out 4))
       refine bodyPost_ret (results_ct rfl _ _ gb144 72 #[.string (⟨#[107, 112]⟩ : ByteArray), .int .i64 8, .int .u32 285, .int .u8 112, .int .i64 4] (0, 0) _ rfl (by (with_reducible repeat (first | refine blk_drewN ?_ _ | refine blk_drew ?_ | refine blk_alloc ?_ _)); refine blk_put (cs := #[.string (⟨#[107, 112]⟩ : ByteArray), .int .i64 8, .int .u32 285, .int .u8 112, .int .i64 0]) ?_ 4 _ rfl; (with_reducible repeat (first | refine blk_drewN ?_ _ | refine blk_drew ?_ | refine blk_alloc ?_ _)); refine blk_put (cs := #[.string (⟨#[107, 112]⟩ : ByteArray), .int .i64 8, .int .u32 285, .int .u8 0, .int .i64 0]) ?_ 3 _ rfl; (with_reducible repeat (first | refine blk_drewN ?_ _ | refine blk_drew ?_ | refine blk_alloc ?_ _)); refine blk_put (cs := #[.string (⟨#[107, 112]⟩ : ByteArray), .int .i64 8, .int .u32 0, .int .u8 0, .int .i64 0]) ?_ 2 _ rfl; (with_reducible repeat (first | refine blk_drewN ?_ _ | refine blk_drew ?_ | refine blk_alloc ?_ _)); refine blk_put (cs := #[.string (⟨#[107, 112]⟩ : ByteArray), .int .i64 0, .int .u32 0, .int .u8 0, .int .i64 0]) ?_ 1 _ rfl; (with_reducible repeat (first | refine blk_drewN ?_ _ | refine blk_drew ?_ | refine blk_alloc ?_ _)); refine blk_put (cs := #[.string (⟨#[]⟩ : ByteArray), .int .i64 0, .int .u32 0, .int .u8 0, .int .i64 0]) ?_ 0 _ rfl; (with_reducible repeat (first | refine blk_drewN ?_ _ | refine blk_drew ?_ | refine blk_alloc ?_ _)); exact BK144.out) Tryz.underlying72 rfl (by kernel_rfl)) rfl ?_
       exact ⟨by first | rfl | (simp [errW_none, errW_some] <;> rfl) | (simp [*, errW_none, errW_some] <;> rfl), by repeat (first | (with_reducible first | exact HB.out | apply below_alloc | apply pw_below_drewN | apply below_drew1 | refine below_set ?_ GE144.out) | exact HB.out)⟩
      ·rw [if_neg c17] at H
       have c17b0 : (a0 == 6) = false := beq_eq_false_iff_ne.mpr c17
       have c17b1 : (a0 != 6) = true := bne_iff_ne.mpr c17
       simp only [Option.some.injEq, Prod.mk.injEq] at H
       obtain ⟨rfl, rfl, rfl, rfl, rfl, rfl⟩ := H
       go_enter Tryz.func41, Tryz.ntmps41
       go_wp2_with (first | ((with_reducible refine gate_dst (N := 2) rfl ?_); refine box_event ?hg (N := 2) ?hd (cs := #[.string (⟨#[]⟩ : ByteArray), .int .i64 0, .int .u32 0, .int .u8 0, .int .i64 0]) (t := 72) ?hr ?_; (case hd => rfl); (case hg => rfl); (case hr => first | (go_simp; done) | (go_simp; rfl)); intro gb144 hg w20 hbox hb; have n0_ := Aside0.mk (below_step (by repeat (first | (with_reducible first | exact HB.out | apply below_alloc | apply pw_below_drewN | apply below_drew1) | exact HB.out)) hb); have n1_ := Aside0.mk (hbox); have n2_ := Aside0.mk ((by rw [hg]; exact (below_size (by repeat (first | (with_reducible first | exact HB.out | apply below_alloc | apply pw_below_drewN | apply below_drew1) | exact HB.out))) : w.heap.size ≤ gb144)); have n3_ := Aside0.mk ((by rw [hg]; exact (below_size (by repeat (first | (with_reducible first | exact HB.out | apply below_alloc | apply pw_below_drewN | apply below_drew1) | exact HB.out))) : w.heap.size ≤ gb144)); clear HB; have HB := n0_; have BK144 := n1_; have GW144 := n2_; have GE144 := n3_; clear n0_ n1_ n2_ n3_; clear hb hbox hg; have hcz21_0 : w20.cell? ⟨gb144, 0, none⟩ = some (.string (⟨#[]⟩ : ByteArray)) := (blk_cell BK144.out 0).trans rfl; have hcz21_1 : w20.cell? ⟨gb144, 1, none⟩ = some (.int .i64 0) := (blk_cell BK144.out 1).trans rfl; have hcz21_2 : w20.cell? ⟨gb144, 2, none⟩ = some (.int .u32 0) := (blk_cell BK144.out 2).trans rfl; have hcz21_3 : w20.cell? ⟨gb144, 3, none⟩ = some (.int .u8 0) := (blk_cell BK144.out 3).trans rfl; have hcz21_4 : w20.cell? ⟨gb144, 4, none⟩ = some (.int .i64 0) := (blk_cell BK144.out 4).trans rfl; have hfz21_0 := blk_frozen BK144.out 0; have hfz21_1 := blk_frozen BK144.out 1; have hfz21_2 := blk_frozen BK144.out 2; have hfz21_3 := blk_frozen BK144.out 3; have hfz21_4 := blk_frozen BK144.out 4))
       refine bodyPost_ret (results_ct rfl _ _ gb144 72 #[.string (⟨#[]⟩ : ByteArray), .int .i64 0, .int .u32 0, .int .u8 0, .int .i64 0] (0, 0) _ rfl (by (with_reducible repeat (first | refine blk_drewN ?_ _ | refine blk_drew ?_ | refine blk_alloc ?_ _)); refine blk_put (cs := #[.string (⟨#[]⟩ : ByteArray), .int .i64 0, .int .u32 0, .int .u8 0, .int .i64 0]) ?_ 4 _ rfl; (with_reducible repeat (first | refine blk_drewN ?_ _ | refine blk_drew ?_ | refine blk_alloc ?_ _)); refine blk_put (cs := #[.string (⟨#[]⟩ : ByteArray), .int .i64 0, .int .u32 0, .int .u8 0, .int .i64 0]) ?_ 3 _ rfl; (with_reducible repeat (first | refine blk_drewN ?_ _ | refine blk_drew ?_ | refine blk_alloc ?_ _)); refine blk_put (cs := #[.string (⟨#[]⟩ : ByteArray), .int .i64 0, .int .u32 0, .int .u8 0, .int .i64 0]) ?_ 2 _ rfl; (with_reducible repeat (first | refine blk_drewN ?_ _ | refine blk_drew ?_ | refine blk_alloc ?_ _)); refine blk_put (cs := #[.string (⟨#[]⟩ : ByteArray), .int .i64 0, .int .u32 0, .int .u8 0, .int .i64 0]) ?_ 1 _ rfl; (with_reducible repeat (first | refine blk_drewN ?_ _ | refine blk_drew ?_ | refine blk_alloc ?_ _)); refine blk_put (cs := #[.string (⟨#[]⟩ : ByteArray), .int .i64 0, .int .u32 0, .int .u8 0, .int .i64 0]) ?_ 0 _ rfl; (with_reducible repeat (first | refine blk_drewN ?_ _ | refine blk_drew ?_ | refine blk_alloc ?_ _)); exact BK144.out) Tryz.underlying72 rfl (by kernel_rfl)) rfl ?_
       exact ⟨by first | rfl | (simp [errW_none, errW_some] <;> rfl) | (simp [*, errW_none, errW_some] <;> rfl), by repeat (first | (with_reducible first | exact HB.out | apply below_alloc | apply pw_below_drewN | apply below_drew1 | refine below_set ?_ GE144.out) | exact HB.out)⟩
end Go.Proofs.YtelcllhibpnneaaGreat.XCo
end
