-- Joined by this work's own program (wip/tools/bundle.py) out of its texts: what this claim uses of them. Not trusted: Lean checks it.
import Derived.Lib.SlBytesConst
import Derived.Test.YtelcllhibpnneaaGreatBCodecLinear14
section
namespace Go.Proofs.YtelcllhibpnneaaGreat.XCo
open Go.RowKit Go.Proofs.YtelcllhibpnneaaGreatW.PrintWords Go.Proofs.YtelcllhibpnneaaGreatW.PrintLast Go.Proofs.YtelcllhibpnneaaGreatW.PrintMore
attribute [local go_sem] max2_int min2_int max_two min_two max_three min_three max_four min_four
set_option linter.unusedVariables false
set_option linter.unusedSimpArgs false
attribute [local go_sem] Oper.semAt_some
def layout_Split.fill (size : Nat) : List Int → Nat → List (List Int) → Option (List (List Int))
 | [], _, rows => some rows
 | c :: cs, i, rows => if i / size < rows.length then layout_Split.fill size cs (i + 1) (rows.set (i / size) ((rows.getD (i / size) []).set (i % size) c)) else none
def layout_Split.f (k : Nat) (a0_0 a0_1 a0_2 : Int) (l1 : List Int) : Option (List (List Int) × Int) :=
 (layout_Size.f k a0_0 a0_1 a0_2 (l1.length : Int)).bind fun s => if s.2 = 0 then (if 1 ≤ a0_1 then (if a0_1 ≤ 1000 then (if 1 ≤ s.1 then (if s.1 ≤ 100000 then (if l1.length ≤ 100000 then
  (layout_rule.f a0_0 a0_1 a0_2).bind fun u => (if u.2 = 0 ∨ u.2 = 4 then (layout_Split.fill s.1.toNat (laidL u.2.toNat l1) 0 (List.replicate a0_1.toNat (List.replicate s.1.toNat 0))).bind fun r => some (r, 0) else none)
  else none) else none) else none) else none) else none) else some ([], s.2)
set_option maxRecDepth 100000 in
set_option maxHeartbeats 4000000 in
theorem layout_Split.bad (k : Nat) (a0_0 a0_1 a0_2 : Int) (A1 : Option Addr) (c1 : Nat) (l1 : List Int) (s1 s2 : Int) (w : World) (h : layout_Size.f k a0_0 a0_1 a0_2 (l1.length : Int) = some (s1, s2)) (hs : s2 ≠ 0) :
  Calls Tryz.prog 47 #[.agg #[.int .i64 a0_0, .int .i64 a0_1, .int .i64 a0_2], .slice A1 l1.length c1] w fun e w' => e = .returned (.tuple #[.slice none 0 0, .int .i64 s2]) ∧ Below w.heap.size w w' := by
 have HZ := Aside0.mk (fun w => layout_Size.calls k a0_0 a0_1 a0_2 (l1.length : Int) s1 s2 w h)
 have hu := Tryz.underlying23
 have hb : (s2 != 0) = true := by simpa using hs
 generalize l1.length = n at HZ ⊢
 clear h hs
 go_enter Tryz.func47, Tryz.ntmps47
 go_wp2_with fail
 refine (HZ.out _).mono ?_
 rintro e w1 ⟨rfl, hB⟩
 have HB := Aside0.mk (show Below w.heap.size w w1 from (below_alloc (Below.refl _ _) _).trans (hB.mono (by simp)))
 clear hB
 go_wp2
 go_ret2
 exact ⟨rfl, below_alloc HB.out _⟩
set_option maxRecDepth 100000 in
set_option maxHeartbeats 4000000 in
theorem layout_Split.go (k : Nat) (a0_0 a0_2 : Int) (K size ahead n : Nat) (A1 : Option Addr) (c1 : Nat) (l1 : List Int) (u1 : Int) (res : List (List Int)) (w : World) (hr1 : Kd.C (Kd.int .u8) w A1 l1.length l1) (hc1 : n ≤ c1) (hn : l1.length = n) (hn2 : n ≤ 100000)
  (h : layout_Size.f k a0_0 (K : Int) a0_2 (n : Int) = some ((size : Int), 0)) (hK : 1 ≤ K) (hK2 : K ≤ 1000) (hs : 1 ≤ size) (hs2 : size ≤ 100000) (hru : layout_rule.f a0_0 (K : Int) a0_2 = some (u1, (ahead : Int))) (hah : ahead = 0 ∨ ahead = 4)
  (hf : layout_Split.fill size (laidL ahead l1) 0 (List.replicate K (List.replicate size 0)) = some res) :
  Calls Tryz.prog 47 #[.agg #[.int .i64 a0_0, .int .i64 (K : Int), .int .i64 a0_2], .slice A1 n c1] w fun e w' => ∃ v, e = .returned (.tuple #[v, .int .i64 0]) ∧ Kd.S (dM 5 .u8) 34 w' w.heap.size (fun _ => True) v res ∧ Below w.heap.size w w' := by
 have HZ := Aside0.mk (fun w => layout_Size.calls k a0_0 (K : Int) a0_2 (n : Int) (size : Int) 0 w h)
 have HRU := Aside0.mk (fun w => layout_rule.calls a0_0 (K : Int) a0_2 u1 (ahead : Int) w hru)
 have HR1 := Aside0.mk hr1
 have HN := Aside0.mk hn
 have HF := Aside0.mk hf
 have HAH := Aside0.mk hah
 have hu := Tryz.underlying23
 have hbx := heap_alloc_new w (.cells #[.int .i64 a0_0, .int .i64 (K : Int), .int .i64 a0_2] 23)
 have HBX := Aside0.mk hbx
 have HB0 := Aside0.mk (below_alloc (Below.refl w.heap.size w) (.cells #[.int .i64 a0_0, .int .i64 (K : Int), .int .i64 a0_2] 23))
 clear h hru hr1 hn hf hah hbx
 refine (callsIn_wide (n := 8)).1 (callsIn_of_wp_marks Tryz.func47 rfl trivial (wpIn_wide.2 ?_) rfl)
 simp only [Tryz.ntmps47, List.size_toArray, List.length_cons, List.length_nil, Nat.reduceAdd, Nat.reduceSub, Array.replicate_succ, Array.replicate_zero, List.push_toArray, List.append_toArray, List.nil_append, List.cons_append]
 go_wp2_with fail
 generalize w.alloc (.cells #[.int .i64 a0_0, .int .i64 (K : Int), .int .i64 a0_2] 23) = w0 at HBX HB0 ⊢
 refine (HZ.out w0).mono ?_
 rintro e w1 ⟨rfl, hB1⟩
 have HB1 := Aside0.mk (HB0.out.trans (hB1.mono HB0.out.size))
 have HX1 := Aside0.mk (blk_below HBX.out hB1)
 have hcK : (w1.alloc (.cells #[.int .i64 (size : Int)] 3)).cell? ⟨w.heap.size, 1, none⟩ = some (.int .i64 (K : Int)) := (blk_cell (blk_below HX1.out (below_alloc (Below.refl _ _) _)) 1).trans rfl
 have HSB1 := Aside0.mk (heap_alloc_new w1 (.cells #[.int .i64 (size : Int)] 3))
 have HB2 := Aside0.mk (below_alloc HB1.out (.cells #[.int .i64 (size : Int)] 3))
 have HX2 := Aside0.mk (blk_below HX1.out (below_alloc (Below.refl _ _) (.cells #[.int .i64 (size : Int)] 3)))
 have HSBW := Aside0.mk (show w.heap.size ≤ w1.heap.size from HB1.out.size)
 have HBASE := Aside0.mk (show w.heap.size ≤ (w1.alloc (.cells #[.int .i64 (size : Int)] 3)).heap.size from HB2.out.size)
 clear hB1 HBX HB0 HZ HB1 HX1
 go_wp2_with ((with_reducible refine gate_dst (N := 26) rfl ?_); go_must (refine Kd.S_make (dM 5 .u8) (w0 := w) w.heap.size 34 rfl rfl 24 (.tmp 25) (.tmp 25) rfl (K : Int) rfl rfl Tryz.underlying24 (.slice none 0 0) 24 kr_ rfl (by decide) (by decide) ([] : List Int) (ok := fun _ => True) (okp := fun _ => True) ⟨_, rfl, Kd.R_nil _ _ _ _ _⟩ (fun _ h => h) trivial (by omega) (by omega) HB2.out HBASE.out ?_); intro v2 w2 ho hb hg hat; rw [Int.toNat_natCast] at ho; obtain ⟨o, cap, rfl, -, -, -⟩ := Kd.S_form ho (by rw [List.length_replicate]; exact hK); have HO2 := Aside0.mk ho; have HB3 := Aside0.mk hb; have HG2 := Aside0.mk hg; clear ho hb hg hat)
 rw [List.length_replicate] at HO2
 obtain ⟨sb, hsb⟩ : ∃ sb, w1.heap.size = sb := ⟨_, rfl⟩
 obtain ⟨lbx, hlbx⟩ : ∃ lbx, w2.heap.size = lbx := ⟨_, rfl⟩
 have hz2 : sb < lbx := by
  have h1 := HG2.out.size
  simp at h1; omega
 have hwl : w.heap.size < sb := by
  have h1 := blk_lt HX2.out
  have h2 := HSBW.out
  have h3 : w.heap.size ≠ w1.heap.size := fun e => by
   have h4 := HSB1.out
   rw [← e] at h4
   rw [HX2.out] at h4
   injection h4 with h4
   injection h4 with h5 h6
   exact absurd h6 (by decide)
  omega
 have HX3 := Aside0.mk (show (w2.alloc (.cells #[.slice (some ⟨o, 0, none⟩) K cap] 24)).heap[w.heap.size]? = some (.cells #[.int .i64 a0_0, .int .i64 (K : Int), .int .i64 a0_2] 23 (0, 0)) from blk_below ((HG2.out.block _ (blk_lt HX2.out) (by simp)).trans HX2.out) (below_alloc (Below.refl _ _) _))
 have HSB3 := Aside0.mk (show (w2.alloc (.cells #[.slice (some ⟨o, 0, none⟩) K cap] 24)).heap[sb]? = some (.cells #[.int .i64 (size : Int)] 3 (0, 0)) by rw [← hsb]; exact blk_below ((HG2.out.block _ (blk_lt HSB1.out) (by simp)).trans HSB1.out) (below_alloc (Below.refl _ _) _))
 have HLB3 := Aside0.mk (show (w2.alloc (.cells #[.slice (some ⟨o, 0, none⟩) K cap] 24)).heap[lbx]? = some (.cells #[.slice (some ⟨o, 0, none⟩) K cap] 24 (0, 0)) by rw [← hlbx]; exact heap_alloc_new _ _)
 have HO3 := Aside0.mk (show Kd.S (dM 5 .u8) 34 (w2.alloc (.cells #[.slice (some ⟨o, 0, none⟩) K cap] 24)) w.heap.size (fun _ => True) (.slice (some ⟨o, 0, none⟩) K cap) (madeTo K size 0) by rw [madeTo_zero]; exact Kd.S_alloc HO2.out _)
 have HB4 := Aside0.mk (below_alloc HB3.out (.cells #[.slice (some ⟨o, 0, none⟩) K cap] 24))
 rw [hsb, hlbx]
 have HZ2 := Aside0.mk hz2
 have HWL := Aside0.mk hwl
 clear hsb hlbx HO2 HB3 HG2 HX2 HSB1 HB2 hcK HSBW HBASE hz2 hwl
 generalize w2.alloc (.cells #[.slice (some ⟨o, 0, none⟩) K cap] 24) = w3 at HX3 HSB3 HLB3 HO3 HB4 ⊢
 have hmk := make_bytes size (by omega)
 go_loopw [29] (fun iv wr => ∃ i : Nat, i ≤ K ∧ iv = .int .i64 (i : Int) ∧ Aside0 (Kd.S (dM 5 .u8) 34 wr w.heap.size (fun _ => True) (.slice (some ⟨o, 0, none⟩) K cap) (madeTo K size i)) ∧ Aside0 (Below w.heap.size w wr) ∧ Aside0 (wr.heap[w.heap.size]? = some (.cells #[.int .i64 a0_0, .int .i64 (K : Int), .int .i64 a0_2] 23 (0, 0))) ∧ Aside0 (wr.heap[sb]? = some (.cells #[.int .i64 (size : Int)] 3 (0, 0))) ∧ Aside0 (wr.heap[lbx]? = some (.cells #[.slice (some ⟨o, 0, none⟩) K cap] 24 (0, 0)))) (fun iv _ => K - (intOf iv).toNat)
 case atStart => exact ⟨0, Nat.zero_le _, rfl, HO3, HB4, HX3, HSB3, HLB3⟩
 case round =>
  clear HO3 HB4 HX3 HSB3 HLB3
  obtain ⟨wq, rfl⟩ : ∃ w', w' = wr := ⟨_, rfl⟩
  obtain ⟨i, hi, rfl, HO, HB, HX, HSB, HLB⟩ := hrel
  by_cases hlt : i < K
  ·have e1 : wq.cell? ⟨lbx, 0, none⟩ = some (.slice (some ⟨o, 0, none⟩) K cap) := (blk_cell HLB.out 0).trans rfl
   have e2 : wq.cell? ⟨sb, 0, none⟩ = some (.int .i64 (size : Int)) := (blk_cell HSB.out 0).trans rfl
   have HO5 := Aside0.mk (S_new HO.out HB.out.size (fun _ _ => trivial) i hlt (List.replicate size 0) (by simp; omega))
   rw [List.length_replicate, madeTo_step K size i hlt] at HO5
   obtain ⟨v0, hcv, hfv⟩ := S_cell (Kd.S_alloc HO.out (.cells (nums .u8 (List.replicate size 0)).toArray 5)) i hlt
   have hol : o ≠ lbx ∧ o ≠ sb ∧ o ≠ w.heap.size := by
    obtain ⟨cs, hcs⟩ := Kd.S_typed HO.out o (by simp [Value.ownBlock])
    refine ⟨?_, ?_, ?_⟩
    ·rintro rfl
     rw [HLB.out] at hcs
     injection hcs with hcs
     injection hcs with _ hcs
     exact absurd hcs (by decide)
    ·rintro rfl
     rw [HSB.out] at hcs
     injection hcs with hcs
     injection hcs with _ hcs
     exact absurd hcs (by decide)
    ·rintro rfl
     rw [HX.out] at hcs
     injection hcs with hcs
     injection hcs with _ hcs
     exact absurd hcs (by decide)
   have hbo : w.heap.size ≤ o := Kd.S_base HO.out o (by simp [Value.ownBlock])
   have HB5 := Aside0.mk (setCell_below (below_alloc HB.out (.cells (nums .u8 (List.replicate size 0)).toArray 5)) hbo i (.slice (some ⟨wq.heap.size, 0, none⟩) size size))
   have HX5 := Aside0.mk (blk_far (blk_below HX.out (below_alloc (Below.refl _ _) (.cells (nums .u8 (List.replicate size 0)).toArray 5))) (p := ⟨o, i, none⟩) (Ne.symm hol.2.2) (.slice (some ⟨wq.heap.size, 0, none⟩) size size))
   have HSB5 := Aside0.mk (blk_far (blk_below HSB.out (below_alloc (Below.refl _ _) (.cells (nums .u8 (List.replicate size 0)).toArray 5))) (p := ⟨o, i, none⟩) (Ne.symm hol.2.1) (.slice (some ⟨wq.heap.size, 0, none⟩) size size))
   have HLB5 := Aside0.mk (blk_far (blk_below HLB.out (below_alloc (Below.refl _ _) (.cells (nums .u8 (List.replicate size 0)).toArray 5))) (p := ⟨o, i, none⟩) (Ne.symm hol.1) (.slice (some ⟨wq.heap.size, 0, none⟩) size size))
   have i1 : (0 : Int) ≤ (i : Int) := by omega
   have i2 : (i : Int) < (K : Int) := by omega
   clear hol hbo
   go_wp2_with fail
   refine regOnly_ ?_
   refine start_ (n := 6) (S := fun w' => w'.cell? ⟨lbx, 0, none⟩ = some (.slice (some ⟨o, 0, none⟩) K cap) ∧ w'.cell? ⟨sb, 0, none⟩ = some (.int .i64 (size : Int))) (ds := [5]) (bA 6 0) kr_ rfl rfl ⟨e1, e2⟩ (fun hHeld => ?_)
   refine pu_ 1 33 2 ?_
   refine tk_ 0 32 3 hHeld ?_
   refine tk_ 2 34 7 hHeld ?_
   refine one_ (i := 3) (N := some 35) (bA 6 15) rfl rfl kr_ (by decide) (fun K hK => ?_)
   refine value_ (w1 := ?_) (v := ?_) (by rfl) rfl ?_ ?_
   rotate_left 2
   ·go_simp
    constructor
    ·rfl
    ·rfl
   refine hK.out _ _ ⟨(World.cell?_alloc_past _ _ _ (World.block_lt_of_cell? _ _ e1)).trans e1, (World.cell?_alloc_past _ _ _ (World.block_lt_of_cell? _ _ e2)).trans e2⟩ (fun hHeld => ?_)
   clear hK K
   refine norm_ (a' := ?_) ?_ ?_
   rotate_left
   ·show Act.put _ (some 35) _ = _
    simp only [Act.put, List.setIfInBounds_toArray, List.set_cons_zero, List.set_cons_succ, i64_w, i32_w]
    rfl
   refine pu_ 4 36 31 ?_
   refine last_ (i := 5) (N := none) (bA 6 63) rfl rfl kr_ (by decide) (fun K hK => ?_)
   refine skip_ (w1 := ?_) (by rfl) rfl ?_ ?_
   rotate_left
   ·go_simp
    rfl
   refine hK.out _ _ ?_
   clear hK K
   refine done_ kr_ ?_
   refine regOnly_normal ?_
   go_wp2
   exact ⟨⟨i + 1, by omega, by simp [i64_w], Aside0.mk HO5.out, Aside0.mk HB5.out.drew, Aside0.mk HX5.out, Aside0.mk HSB5.out, Aside0.mk HLB5.out⟩, by simp [intOf]; omega⟩
  ·obtain rfl : i = K := by omega
   have hfull := HO.out
   rw [madeTo_full] at hfull
   have HO4 := Aside0.mk hfull
   have q0 : wq.cell? ⟨w.heap.size, 0, none⟩ = some (.int .i64 a0_0) := (blk_cell HX.out 0).trans rfl
   have q1 : wq.cell? ⟨w.heap.size, 1, none⟩ = some (.int .i64 (i : Int)) := (blk_cell HX.out 1).trans rfl
   have q2 : wq.cell? ⟨w.heap.size, 2, none⟩ = some (.int .i64 a0_2) := (blk_cell HX.out 2).trans rfl
   have hself : ((i : Int) < (i : Int)) = False := by simp
   clear hi hlt hmk hfull HO
   go_wp2_with fail
   refine (HRU.out wq).mono ?_
   rintro e w4 ⟨rfl, hB4⟩
   have HB5 := Aside0.mk (HB.out.trans (hB4.mono HB.out.size))
   have HO5 := Aside0.mk (Kd.S_below HO4.out hB4)
   have HX5 := Aside0.mk (blk_below HX.out hB4)
   have HSB5 := Aside0.mk (blk_below HSB.out hB4)
   have HLB5 := Aside0.mk (blk_below HLB.out hB4)
   clear hB4 q0 q1 q2 HB HO4 HX HSB HLB HRU
   have hld := laid.calls (ahead : Int) A1 n c1
   go_wp2_with ((go_at_call 82; refine (hld _).mono ?_; rintro e w' ⟨rfl, rfl⟩))
   clear hld
   have hX10 : ((w4.alloc (.cells #[.int .i64 (ahead : Int)] 3)).alloc (.cells #[.slice A1 n c1] 34)).heap[w4.heap.size]? = some (.cells #[.int .i64 (ahead : Int)] 3 (0, 0)) := blk_alloc (blk_new w4 _) _
   have hX11 : ((w4.alloc (.cells #[.int .i64 (ahead : Int)] 3)).alloc (.cells #[.slice A1 n c1] 34)).heap[w4.heap.size + 1]? = some (.cells #[.slice A1 n c1] 34 (0, 0)) := blk_new_at _ _ _ (by simp)
   have hB6 : Below w4.heap.size w4 ((w4.alloc (.cells #[.int .i64 (ahead : Int)] 3)).alloc (.cells #[.slice A1 n c1] 34)) := below_step (below_alloc (Below.refl _ _) _) (below_alloc (Below.refl _ _) _)
   have hsz : ((w4.alloc (.cells #[.int .i64 (ahead : Int)] 3)).alloc (.cells #[.slice A1 n c1] 34)).heap.size = w4.heap.size + 2 := by simp
   generalize (w4.alloc (.cells #[.int .i64 (ahead : Int)] 3)).alloc (.cells #[.slice A1 n c1] 34) = w5 at hX10 hX11 hB6 hsz ⊢
   obtain ⟨b, hb⟩ : ∃ b, b = w4.heap.size := ⟨_, rfl⟩
   rw [← hb] at hX10 hX11 hsz hB6 ⊢
   have hwb : w.heap.size ≤ b := hb ▸ HB5.out.size
   have hB6' : Below w.heap.size w w5 := HB5.out.trans (hB6.mono hwb)
   have hR5 : Kd.C (Kd.int .u8) w5 A1 l1.length l1 := Kd.C_below HR1.out hB6'
   have hlt1 : lbx < b := hb ▸ blk_lt HLB5.out
   have hS6 : Kd.S (dM 5 .u8) 34 w5 w.heap.size (fun k => w.heap.size ≤ k ∧ k < b ∧ k ≠ sb ∧ k ≠ lbx) (.slice (some ⟨o, 0, none⟩) i cap) (List.replicate i (List.replicate size 0)) := by
    have h1 := Kd.S_bound (Kd.S_types (Kd.S_types HO5.out HSB5.out (by decide)) HLB5.out (by decide))
    have h2 := Kd.S_below h1 (hb ▸ hB6 : Below w4.heap.size w4 w5)
    refine Kd.S_mono h2 (fun q hq => ?_)
    simp only [← hb] at hq
    exact ⟨hq.2.1, hq.2.2.1, hq.1.1.2, hq.1.2⟩
   have HSB6 := Aside0.mk (blk_below HSB5.out (hb ▸ hB6))
   have HLB6 := Aside0.mk (blk_below HLB5.out (hb ▸ hB6))
   have HX10 := Aside0.mk hX10
   have HX11 := Aside0.mk hX11
   have HB6 := Aside0.mk hB6'
   have HR5 := Aside0.mk hR5
   have HS6 := Aside0.mk hS6
   have HSZ := Aside0.mk hsz
   have HWB := Aside0.mk hwb
   have HLT := Aside0.mk hlt1
   clear hX10 hX11 hB6 hB6' hR5 hS6 hsz hwb hlt1 HB5 HO5 HX5 HSB5 HLB5 hb
   refine (wpIn_wide (n := 8)).1 ?_
   refine wpIn_range_nth (α := Nat × Int) rfl (by omega) (gf := 125) (lb := #[.pointer (some ⟨b + 1, 0, none⟩), .pointer (some ⟨b, 0, none⟩)]) rfl trivial (enters_of Tryz.func125 kr_ rfl)
    (laid_seq ahead b (b + 1) n c1 HAH.out (fun k => w.heap.size ≤ k ∧ k < b ∧ k ≠ sb ∧ k ≠ lbx) A1 l1 w5 HR5.out HN.out hc1 hn2 HX10.out HX11.out (fun k hk => by have := HSZ.out; have := hk.2.1; omega)) KpC.trans ?hKb (Below.refl _ _) (fun _ => rfl)
    (fun pre Wx => ∃ rows, Kd.S (dM 5 .u8) 34 Wx w.heap.size (fun k => w.heap.size ≤ k ∧ k < b ∧ k ≠ sb ∧ k ≠ lbx) (.slice (some ⟨o, 0, none⟩) i cap) rows ∧ Wx.heap[sb]? = some (.cells #[.int .i64 (size : Int)] 3 (0, 0)) ∧ Wx.heap[lbx]? = some (.cells #[.slice (some ⟨o, 0, none⟩) i cap] 24 (0, 0)) ∧ rows.length = i ∧ (∀ r, r ∈ rows → r.length = size) ∧ layout_Split.fill size ((laidL ahead l1).drop pre.length) pre.length rows = some res ∧ Below w.heap.size w Wx ∧ w5.heap.size ≤ Wx.heap.size)
    ?hI ?hHd ?h0 (fun x => { tmps := #[.agg #[.int .i64 a0_0, .int .i64 (i : Int), .int .i64 a0_2], .slice A1 n c1, .pointer (some ⟨w.heap.size, 0, none⟩), undef, .slice none 0 0, .int .i64 0, .pointer (some ⟨sb, 0, none⟩), .int .i64 0, .pointer (some ⟨lbx, 0, none⟩), u9, .int .i64 u1, .int .i64 (ahead : Int), .int .i64 (x.1 : Int), .int .u8 x.2, .tuple #[.int .i64 (size : Int), .int .i64 0], .agg #[.int .i64 a0_0, .int .i64 (i : Int), .int .i64 a0_2], .slice A1 n c1, .int .i64 (n : Int), .tuple #[.int .i64 (size : Int), .int .i64 0], .int .i64 (size : Int), .int .i64 0, .int .i64 0, .bool false, undef, .pointer (some ⟨w.heap.size, 1, none⟩), .int .i64 (i : Int), .slice (some ⟨o, 0, none⟩) i cap, .slice (some ⟨o, 0, none⟩) i cap, .int .i64 (i : Int), .int .i64 (i : Int), .bool false, u31, u32, u33, u34, u35, u36, u37, .tuple #[.int .i64 u1, .int .i64 (ahead : Int)], .agg #[.int .i64 a0_0, .int .i64 (i : Int), .int .i64 a0_2], .tuple #[.int .i64 u1, .int .i64 (ahead : Int)], .int .i64 u1, .int .i64 (ahead : Int), .int .i64 (ahead : Int), .slice A1 n c1, .func (.func 125) #[] #[.pointer (some ⟨b + 1, 0, none⟩), .pointer (some ⟨b, 0, none⟩)], .int .i64 (x.1 : Int), .int .u8 x.2, undef, undef, undef, undef, undef, undef, undef, undef, undef, undef, undef, undef], defers := [] }) ?assign ?body ?done
   case hKb =>
    intro Wx l o1 o2 hl ho hno
    refine ⟨(grownBy_putObj' Wx l o2).size, fun k oo hk hcc _ => ?_⟩
    have hne : k ≠ l := by rintro rfl; rw [hk] at ho; cases ho; rw [hcc] at hno; cases hno
    exact (World.putObj_heap_other hne).trans hk
   case hI =>
    rintro s X Y r ⟨rows, h1, h2, h3, h4, h5, h6, h7, h8⟩ hg hr
    have hr' : ∀ q, r = some q → ∃ o : Obj, X.heap[q]? = some o ∧ o.isCells = false := fun q e => (hr q e).2
    have hcc : ∀ (q : Nat) (oo : Obj), X.heap[q]? = some oo → oo.isCells = true → Y.heap[q]? = X.heap[q]? := fun q oo hq ho => grownBy_keeps_cells hg hr' hq ho
    exact ⟨rows, S_keepK h1 hcc, (hcc _ _ h2 rfl).trans h2, (hcc _ _ h3 rfl).trans h3, h4, h5, h6, ⟨hg.os.trans h7.os, hg.tape.trans h7.tape, hg.output.trans h7.output, Nat.le_trans h7.size hg.size, fun q hq => (hg.block q (Nat.lt_of_lt_of_le hq h7.size) (fun e => by have := (hr q e.symm).1; have := HSZ.out; have := HWB.out; omega)).trans (h7.block q hq)⟩, Nat.le_trans h8 hg.size⟩
   case hHd =>
    intro m x s X Y r h hg hr
    exact h
   case h0 =>
    refine ⟨_, HS6.out, HSB6.out, HLB6.out, by simp, fun r hr => by rw [List.eq_of_mem_replicate hr]; simp, ?_, HB6.out, Nat.le_refl _⟩
    simpa using HF.out
   case assign =>
    intro l x Wx K hK
    gi_wp2
    exact hK
   case body =>
    rintro l pre ⟨x, c⟩ Wx ⟨rows, h1, h2, h3, h4, h5, h6, h7, h8⟩ ⟨hx0, hx1⟩ hlen
    dsimp only at hx0 hx1
    have hdr : (laidL ahead l1).drop pre.length = c :: (laidL ahead l1).drop (pre.length + 1) := by
     obtain ⟨hl, he⟩ := List.getElem?_eq_some_iff.1 hx1
     rw [List.drop_eq_getElem_cons hl, he]
    rw [hdr, ← hx0] at h6
    simp only [layout_Split.fill] at h6
    have hq : x / size < rows.length := by
     by_cases hh : x / size < rows.length
     ·exact hh
     ·rw [if_neg hh] at h6; cases h6
    rw [if_pos hq] at h6
    obtain ⟨row, hrow⟩ : ∃ r, rows[x / size]? = some r := ⟨_, List.getElem?_eq_getElem hq⟩
    have hrl : row.length = size := h5 row (List.mem_of_getElem? hrow)
    have hrd : rows.getD (x / size) [] = row := by rw [List.getD_eq_getElem?_getD, hrow]; rfl
    rw [hrd] at h6
    have hj : x % size < size := Nat.mod_lt _ hs
    obtain ⟨g, cg, y, k1, k2, k3, kok, kne, kS⟩ := S_put2 h1 (x / size) (x % size) row hrow (by rw [hrl]; exact hj) c
    have e1 : Wx.cell? ⟨lbx, 0, none⟩ = some (.slice (some ⟨o, 0, none⟩) i cap) := (blk_cell h3 0).trans rfl
    have e2 : Wx.cell? ⟨sb, 0, none⟩ = some (.int .i64 (size : Int)) := (blk_cell h2 0).trans rfl
    rw [hrl] at k1
    rw [h4] at hq
    have hx100 : x ≤ 100004 := by
     have hl : (laidL ahead l1).length ≤ 100004 := by
      have := HN.out
      unfold laidL four4
      simp; omega
     omega
    have d1 : Int.tdiv (x : Int) (size : Int) = ((x / size : Nat) : Int) := by rw [Int.ofNat_tdiv]
    have d2 : Int.tmod (x : Int) (size : Int) = ((x % size : Nat) : Int) := by rw [Int.ofNat_tmod]
    obtain ⟨qx, hqx⟩ : ∃ qx, x / size = qx := ⟨_, rfl⟩
    obtain ⟨rx, hrx⟩ : ∃ rx, x % size = rx := ⟨_, rfl⟩
    have hqle : qx ≤ x := hqx ▸ Nat.div_le_self _ _
    rw [hqx] at d1 hq k1 kS h6 hrow
    rw [hrx] at d2 hj k2 k3 kS h6
    have i1 : (0 : Int) ≤ (qx : Int) := by omega
    have i2 : (qx : Int) < (i : Int) := by omega
    have i3 : (0 : Int) ≤ (rx : Int) := by omega
    have i4 : (rx : Int) < (size : Int) := by omega
    have i5 : ¬ (size = 0) := by omega
    have i6 : IntKind.i64.wrap (qx : Int) = (qx : Int) := by rw [IntKind.wrap_i64]; omega
    have HEND := Aside0.mk (show KeepsFrom w5.heap.size Wx (Wx.setCell ⟨g, rx, none⟩ (.int .u8 c)) ∧ KpC (fun k => w.heap.size ≤ k ∧ k < b ∧ k ≠ sb ∧ k ≠ lbx) Wx (Wx.setCell ⟨g, rx, none⟩ (.int .u8 c)) ∧ ∃ rows, Kd.S (dM 5 .u8) 34 (Wx.setCell ⟨g, rx, none⟩ (.int .u8 c)) w.heap.size (fun k => w.heap.size ≤ k ∧ k < b ∧ k ≠ sb ∧ k ≠ lbx) (.slice (some ⟨o, 0, none⟩) i cap) rows ∧ (Wx.setCell ⟨g, rx, none⟩ (.int .u8 c)).heap[sb]? = some (.cells #[.int .i64 (size : Int)] 3 (0, 0)) ∧ (Wx.setCell ⟨g, rx, none⟩ (.int .u8 c)).heap[lbx]? = some (.cells #[.slice (some ⟨o, 0, none⟩) i cap] 24 (0, 0)) ∧ rows.length = i ∧ (∀ r, r ∈ rows → r.length = size) ∧ layout_Split.fill size ((laidL ahead l1).drop (pre ++ [(x, c)]).length) (pre ++ [(x, c)]).length rows = some res ∧ Below w.heap.size w (Wx.setCell ⟨g, rx, none⟩ (.int .u8 c)) ∧ w5.heap.size ≤ (Wx.setCell ⟨g, rx, none⟩ (.int .u8 c)).heap.size by
     have hsc : ∀ k, k ≠ g → (Wx.setCell ⟨g, rx, none⟩ (.int .u8 c)).heap[k]? = Wx.heap[k]? := fun k hk => Below.heap_setCell Wx ⟨g, rx, none⟩ _ k hk
     refine ⟨⟨by simp, fun k oo hk hko hno => ?_⟩, ⟨by simp, fun k oo hk hcc he => (hsc k (by rintro rfl; exact he kok)).trans hk⟩, _, kS, (hsc _ (by rintro rfl; exact kok.2.2.1 rfl)).trans h2, (hsc _ (by rintro rfl; exact kok.2.2.2 rfl)).trans h3, by rw [List.length_set]; exact h4, ?_, ?_, setCell_below h7 kok.1 rx _, by simpa using h8⟩
     ·exact (hsc k (by rintro rfl; have := kok.2.1; have := HSZ.out; omega)).trans hko
     ·intro r hr
      rcases List.mem_or_eq_of_mem_set hr with hr | rfl
      ·exact h5 r hr
      ·rw [List.length_set]; exact hrl
     ·rw [List.length_append, List.length_singleton, ← hx0]
      exact h6)
    have hmo : Tryz.prog.follows .mixedOrders = true := by kernel_rfl
    clear h1 h2 h3 h4 h5 h6 h7 h8 hx0 hx1 hlen hdr hrow hrl hrd kok kne kS hqx hrx
    gi_wp2
    refine startIn_ (m := 12) (S := fun w' => w'.cell? ⟨lbx, 0, none⟩ = some (.slice (some ⟨o, 0, none⟩) i cap) ∧ w'.cell? ⟨sb, 0, none⟩ = some (.int .i64 (size : Int)) ∧ w'.cell? ⟨o, qx, none⟩ = some (.slice (some ⟨g, 0, none⟩) size cg)) (ds := [11]) (bA 12 0) kr_ rfl rfl kr_ (by rintro ⟨_, _, h⟩; exact h) ⟨e1, e2, k1⟩ (fun hHeld => ?_)
    refine pu_ 1 49 2 ?_
    refine pu_ 6 54 66 ?_
    refine pu_ 9 57 578 ?_
    refine tk_ 0 48 579 hHeld ?_
    refine tk_ 2 50 583 hHeld ?_
    refine pu_ 3 51 591 ?_
    refine pu_ 4 52 607 ?_
    refine tk_ 5 53 639 hHeld ?_
    refine tk_ 7 55 767 hHeld ?_
    refine pu_ 8 56 1023 ?_
    refine pu_ 10 58 2047 ?_
    refine last_ (i := 11) (N := none) (bA 12 4095) rfl rfl kr_ (by decide) (fun K hK => ?_)
    refine skip_ (w1 := ?_) (by rfl) rfl ?_ ?_
    rotate_left
    ·go_simp
     rfl
    refine hK.out _ _ ?_
    clear hK K
    refine done_ kr_ ?_
    obtain ⟨q1, q2, rows, p1, p2, p3, p4, p5, p6, p7, p8⟩ := HEND.out
    refine And.intro ⟨q1.1, q1.2⟩ (And.intro ⟨q2.1, q2.2⟩ ⟨rows, Kd.S_drew p1, p2, p3, p4, p5, p6, p7.drew, p8⟩)
   case done =>
    rintro D xs Wx hD ⟨hxs, hlen⟩ ⟨rows, h1, h2, h3, h4, h5, h6, h7, h8⟩ hDd
    rw [hlen, List.drop_length] at h6
    obtain rfl : rows = res := by simpa [layout_Split.fill] using h6
    have e1 : Wx.cell? ⟨lbx, 0, none⟩ = some (.slice (some ⟨o, 0, none⟩) i cap) := (blk_cell h3 0).trans rfl
    have H1 := Aside0.mk h1
    have H7 := Aside0.mk h7
    have H8 := Aside0.mk h8
    have HDD := Aside0.mk hDd
    have HDN := Aside0.mk hD
    clear h1 h2 h3 h4 h5 h6 h7 h8 hDd hD hxs hlen
    simp only [Exit.inBlock, Exit.then]
    go_wp2
    refine leaves_marks [D] Wx (by simp) (fun D' hD' => by rw [List.mem_singleton] at hD'; rw [hD']; exact HDD.out) (fun w' hkp hsz hos htp hou => ?_)
    have hcc : ∀ (q : Nat) (oo : Obj), Wx.heap[q]? = some oo → oo.isCells = true → w'.heap[q]? = Wx.heap[q]? := fun q oo hq ho => hkp q (blk_lt hq) (fun hm => by
     rw [List.mem_singleton] at hm
     subst hm
     rw [HDD.out] at hq; cases hq; cases ho)
    refine ⟨_, results_tmp2 rfl _ _ _, _, rfl, S_keepK (Kd.S_mono H1.out (fun _ _ => trivial)) hcc, hos.trans H7.out.os, htp.trans H7.out.tape, hou.trans H7.out.output, by rw [hsz]; exact H7.out.size, fun q hq => (hkp q (Nat.lt_of_lt_of_le hq H7.out.size) (fun hm => by
     rw [List.mem_singleton] at hm
     have := HDN.out; have := HSZ.out; have := HWB.out; omega)).trans (H7.out.block q hq)⟩
theorem layout_Split.calls (k : Nat) (a0_0 : Int) (a0_1 : Int) (a0_2 : Int) (A1 : Option Addr) (c1 : Nat) (l1 : List Int) (r1 : List (List Int)) (r2 : Int) (w : World) (hr1 : Kd.C (Kd.int .u8) w A1 l1.length l1) (hc1 : l1.length ≤ c1) (h : layout_Split.f k a0_0 a0_1 a0_2 l1 = some (r1, r2)) :
 Calls Tryz.prog 47 #[.agg #[.int .i64 a0_0, .int .i64 a0_1, .int .i64 a0_2], .slice A1 l1.length c1] w fun e w' => ∃ v0_ : Value, e = .returned (.tuple #[v0_, .int .i64 r2]) ∧ Kd.S (Kd.slice 5 (Kd.int .u8)) 34 w' w.heap.size (fun _ => True) v0_ r1 ∧ Below w.heap.size w w' := by
 unfold layout_Split.f at h
 obtain ⟨⟨s1, s2⟩, hz, h⟩ := Option.bind_eq_some_iff.1 h
 by_cases hs : s2 = 0
 ·subst hs
  dsimp only at h
  rw [if_pos rfl] at h
  have cut : ∀ {p : Prop} [Decidable p] {a : Option (List (List Int) × Int)}, (if p then a else none) = some (r1, r2) → p ∧ a = some (r1, r2) := by
   intro p _ a hh
   by_cases hp : p
   ·rw [if_pos hp] at hh; exact ⟨hp, hh⟩
   ·rw [if_neg hp] at hh; cases hh
  obtain ⟨q1, h⟩ := cut h
  obtain ⟨q2, h⟩ := cut h
  obtain ⟨q3, h⟩ := cut h
  obtain ⟨q4, h⟩ := cut h
  obtain ⟨q5, h⟩ := cut h
  obtain ⟨⟨u1, u2⟩, hu, h⟩ := Option.bind_eq_some_iff.1 h
  obtain ⟨q6, h⟩ := cut h
  obtain ⟨r, hf, h⟩ := Option.bind_eq_some_iff.1 h
  simp only [Option.some.injEq, Prod.mk.injEq] at h
  obtain ⟨rfl, rfl⟩ := h
  obtain ⟨K, rfl⟩ : ∃ K : Nat, a0_1 = (K : Int) := ⟨a0_1.toNat, by omega⟩
  obtain ⟨size, rfl⟩ : ∃ s : Nat, s1 = (s : Int) := ⟨s1.toNat, by omega⟩
  dsimp only at q6 hf q3 q4
  obtain ⟨ahead, rfl⟩ : ∃ s : Nat, u2 = (s : Int) := ⟨u2.toNat, by omega⟩
  simp only [Int.toNat_natCast] at hf
  exact layout_Split.go k a0_0 a0_2 K size ahead l1.length A1 c1 l1 u1 r w hr1 hc1 rfl q5 hz (by omega) (by omega) (by omega) (by omega) hu (by omega) hf
 ·dsimp only at h
  rw [if_neg hs] at h
  simp only [Option.some.injEq, Prod.mk.injEq] at h
  obtain ⟨rfl, rfl⟩ := h
  refine (layout_Split.bad k a0_0 a0_1 a0_2 A1 c1 l1 s1 s2 w hz hs).mono ?_
  rintro e w' ⟨rfl, hB⟩
  exact ⟨_, rfl, Kd.S_nil _ _ _ _ _, hB⟩
end Go.Proofs.YtelcllhibpnneaaGreat.XCo
end
section
namespace Go.Proofs.YtelcllhibpnneaaGreat.XCo
open Go.RowKit Go.Proofs.YtelcllhibpnneaaGreatW.PrintWords Go.Proofs.YtelcllhibpnneaaGreatW.PrintLast Go.Proofs.YtelcllhibpnneaaGreatW.PrintMore
attribute [local go_sem] max2_int min2_int max_two min_two max_three min_three max_four min_four
set_option linter.unusedVariables false
set_option linter.unusedSimpArgs false
def codec_Encode.f (k : Nat) (a0_0 : Int) (a0_1 : Int) (a0_2 : Int) (l1 : List Int) : Option ((List (List Int)) × Int) := (layout_Split.f k a0_0 a0_1 a0_2 l1).bind fun bt132 => (if bt132.2 = 0 then ((codec_Parity.f k a0_0 a0_1 a0_2 bt132.1).bind fun bt136 => (if bt132.1.length + bt136.1.length < 5864062014805 then (some ((bt132.1 ++ bt136.1), bt136.2)) else (none))) else (some (([] : List (List Int)), bt132.2)))
set_option maxHeartbeats 8000000 in
set_option maxRecDepth 100000 in
theorem codec_Encode.calls (k : Nat) (a0_0 : Int) (a0_1 : Int) (a0_2 : Int) (A1 : Option Addr) (c1 : Nat) (l1 : List Int) (r1 : List (List Int)) (r2 : Int) (w : World) (hr1 : Kd.C (Kd.int .u8) w A1 l1.length l1) (hc1 : l1.length ≤ c1) (h : codec_Encode.f k a0_0 a0_1 a0_2 l1 = some (r1, r2)) :
  Calls Tryz.prog 22 #[.agg #[.int .i64 a0_0, .int .i64 a0_1, .int .i64 a0_2], .slice A1 l1.length c1] w fun e w' => ∃ v0_ : Value, e = .returned (.tuple #[v0_, .int .i64 r2]) ∧ Kd.N (Kd.slice 5 (Kd.int .u8)) 34 w' w.heap.size (fun k_ => (w.heap.size ≤ k_)) v0_ r1 ∧ Below w.heap.size w w' := by
 have hu23 := Tryz.underlying23
 have HR1 := Aside0.mk hr1
 have HC1 := Aside0.mk hc1
 clear hr1 hc1
 have HB := Aside0.mk (Below.refl w.heap.size w)
 have H : ((layout_Split.f k a0_0 a0_1 a0_2 l1).bind fun bt132 => (if bt132.2 = 0 then ((codec_Parity.f k a0_0 a0_1 a0_2 bt132.1).bind fun bt136 => (if bt132.1.length + bt136.1.length < 5864062014805 then (some ((bt132.1 ++ bt136.1), bt136.2)) else (none))) else (some (([] : List (List Int)), bt132.2)))) = some (r1, r2) := h
 clear h
 replace H := Option.bind_eq_some_iff.mp H
 obtain ⟨⟨t132, t135⟩, A30, H⟩ := H
 replace H : (if t135 = 0 then ((codec_Parity.f k a0_0 a0_1 a0_2 t132).bind fun bt136 => (if t132.length + bt136.1.length < 5864062014805 then (some ((t132 ++ bt136.1), bt136.2)) else (none))) else (some (([] : List (List Int)), t135))) = some (r1, r2) := H
 have A3 := Aside0.mk A30
 clear A30
 by_cases c4 : t135 = 0
 ·rw [if_pos c4] at H
  have c4b0 : (t135 == 0) = true := beq_iff_eq.mpr c4
  have c4b1 : (t135 != 0) = false := bne_eq_false_iff_eq.mpr c4
  clear c4
  replace H := Option.bind_eq_some_iff.mp H
  obtain ⟨⟨t136, t139⟩, A50, H⟩ := H
  replace H : (if t132.length + t136.length < 5864062014805 then (some ((t132 ++ t136), t139)) else (none)) = some (r1, r2) := H
  have A5 := Aside0.mk A50
  clear A50
  by_cases c6 : t132.length + t136.length < 5864062014805
  ·rw [if_pos c6] at H
   have LMc6 := Aside0.mk c6
   clear c6
   obtain ⟨y140, hy140⟩ : ∃ y_ : List (List Int), y_ = (t132 ++ t136) := ⟨_, rfl⟩
   replace H : (some (y140, t139)) = some (r1, r2) := by first | (rw [hy140]; with_reducible exact H) | (have H2_ := (Option.bind_some _ _).symm.trans H; rw [hy140]; with_reducible exact H2_) | (have H2_ := (Option.bind_some _ _).symm.trans H; with_reducible exact H2_) | with_reducible exact H | (rw [hy140]; exact H) | exact H
   have Ny140 := Aside0.mk hy140
   clear hy140
   simp only [Option.some.injEq, Prod.mk.injEq] at H
   obtain ⟨rfl, rfl⟩ := H
   go_enter Tryz.func22, Tryz.ntmps22
   go_wp2_with (first | ((with_reducible refine gate_dst (N := 2) rfl ?_); refine box_event ?hg (N := 2) ?hd (cs := #[.int .i64 a0_0, .int .i64 a0_1, .int .i64 a0_2]) (t := 23) ?hr ?_; (case hd => rfl); (case hg => rfl); (case hr => first | (go_simp; done) | (go_simp; rfl)); intro gb131 hg w7 hbox hb; have n0_ := Aside0.mk (below_step bl_ hb); have n1_ := Aside0.mk (hbox); have n2_ := Aside0.mk ((gs_ : w.heap.size ≤ gb131)); have n3_ := Aside0.mk ((gs_ : w.heap.size ≤ gb131)); clear HB; have HB := n0_; have BK131 := n1_; have GW131 := n2_; have GE131 := n3_; clear n0_ n1_ n2_ n3_; clear hb hbox hg; have hcz8_0 : w7.cell? ⟨gb131, 0, none⟩ = some (.int .i64 a0_0) := (blk_cell BK131.out 0).trans rfl; have hcz8_1 : w7.cell? ⟨gb131, 1, none⟩ = some (.int .i64 a0_1) := (blk_cell BK131.out 1).trans rfl; have hcz8_2 : w7.cell? ⟨gb131, 2, none⟩ = some (.int .i64 a0_2) := (blk_cell BK131.out 2).trans rfl; have hfz8_0 := blk_frozen BK131.out 0; have hfz8_1 := blk_frozen BK131.out 1; have hfz8_2 := blk_frozen BK131.out 2) | ((with_reducible refine gate_callee (f := 47) rfl ?_); refine goesL_ (some 12) rfl rfl Tryz.func47 kr_ rfl #[.agg #[.int .i64 a0_0, .int .i64 a0_1, .int .i64 a0_2], .slice A1 l1.length c1] rfl ar_ ?_; (with_reducible refine (layout_Split.calls k a0_0 a0_1 a0_2 _ _ l1 t132 t135 _ ?side1 ?side2 A3.out).mono ?_); (case side1 => repeat (first | exact (Kd.C_below HR1.out HB.out) | (with_reducible refine Kd.C_alloc ?_ _) | (with_reducible refine Kd.C_drewN ?_ _) | (with_reducible refine Kd.C_drew ?_))); (case side2 => exact HC1.out); rintro e w9 ⟨v133, rfl, ho0, hb⟩; refine ⟨_, rfl, ?_⟩; have n0_ := Aside0.mk (Kd.N_lower (Kd.N_mono (ok' := fun k_ => (w.heap.size ≤ k_) ∧ k_ ≠ gb131) (Kd.S_N (Kd.S_bound ho0)) (fun k_ hk_ => ⟨(Nat.le_trans (below_size bl_) hk_.2.1), (Kd.freshB (g := gb131) (o := .cells #[.int .i64 a0_0, .int .i64 a0_1, .int .i64 a0_2] 23 (0, 0)) bk_ k_ hk_.2.1)⟩)) (below_size bl_)); have n1_ := Aside0.mk (blk_below (g := gb131) (o := .cells #[.int .i64 a0_0, .int .i64 a0_1, .int .i64 a0_2] 23 (0, 0)) bk_ hb); have n2_ := Aside0.mk (below_step bl_ hb); clear BK131; clear HB; have HO134 := n0_; have BK131 := n1_; have HB := n2_; clear n0_ n1_ n2_; (try clear hb); (try clear hb2); (try clear hk); (try clear hi); (try clear ho0); have hcz10_0 : w9.cell? ⟨gb131, 0, none⟩ = some (.int .i64 a0_0) := (blk_cell BK131.out 0).trans rfl; have hcz10_1 : w9.cell? ⟨gb131, 1, none⟩ = some (.int .i64 a0_1) := (blk_cell BK131.out 1).trans rfl; have hcz10_2 : w9.cell? ⟨gb131, 2, none⟩ = some (.int .i64 a0_2) := (blk_cell BK131.out 2).trans rfl; have hfz10_0 := blk_frozen BK131.out 0; have hfz10_1 := blk_frozen BK131.out 1; have hfz10_2 := blk_frozen BK131.out 2; obtain ⟨Ao11, co11, eo11⟩ := Kd.N_slice HO134.out; subst eo11) | ((with_reducible refine gate_callee (f := 17) rfl ?_); refine goesL_ (some 21) rfl rfl Tryz.func17 kr_ rfl #[.agg #[.int .i64 a0_0, .int .i64 a0_1, .int .i64 a0_2], .slice Ao11 t132.length co11] rfl ar_ ?_; (with_reducible refine (codec_Parity.calls k a0_0 a0_1 a0_2 _ _ t132 t136 t139 _ ?side1 ?side2 A5.out).mono ?_); (case side1 => repeat (first | exact (Kd.N_reads' HO134.out).2.2 | (with_reducible refine Kd.C_alloc ?_ _) | (with_reducible refine Kd.C_drewN ?_ _) | (with_reducible refine Kd.C_drew ?_))); (case side2 => exact (Kd.N_reads' HO134.out).2.1); rintro e w12 ⟨v137, rfl, ho0, hb⟩; refine ⟨_, rfl, ?_⟩; have n0_ := Aside0.mk (Kd.N_elder' (by (with_reducible repeat (first | apply Kd.N_alloc | apply Kd.N_drewN | apply Kd.N_drew)); exact HO134.out) (Kd.S_base ho0) hb); have n1_ := Aside0.mk (Kd.N_lower (Kd.N_mono (ok' := fun k_ => (w.heap.size ≤ k_) ∧ some k_ ≠ (.slice Ao11 t132.length co11 : Value).ownBlock ∧ k_ ≠ gb131) (Kd.S_N (Kd.S_bound ho0)) (fun k_ hk_ => ⟨(Nat.le_trans (below_size bl_) hk_.2.1), (Kd.fresh' (Kd.N_lt (by (with_reducible repeat (first | apply Kd.N_alloc | apply Kd.N_drewN | apply Kd.N_drew)); exact HO134.out)) k_ hk_.2.1), (Kd.freshB (g := gb131) (o := .cells #[.int .i64 a0_0, .int .i64 a0_1, .int .i64 a0_2] 23 (0, 0)) bk_ k_ hk_.2.1)⟩)) (below_size bl_)); have n2_ := Aside0.mk (blk_below (g := gb131) (o := .cells #[.int .i64 a0_0, .int .i64 a0_1, .int .i64 a0_2] 23 (0, 0)) bk_ hb); have n3_ := Aside0.mk (below_step bl_ hb); clear HO134; clear BK131; clear HB; have HO134 := n0_; have HO138 := n1_; have BK131 := n2_; have HB := n3_; clear n0_ n1_ n2_ n3_; (try clear hb); (try clear hb2); (try clear hk); (try clear hi); (try clear ho0); obtain ⟨Ao14, co14, eo14⟩ := Kd.N_slice HO138.out; subst eo14) | ((with_reducible refine gate_builtin (b := .append) (xs := #[.tmp 24, .tmp 25]) rfl ?_); at_builtin; refine Kd.N_append_rows (Kd.slice 5 (Kd.int .u8)) (w0 := w) w.heap.size rfl (.tmp 24) (.tmp 25) 24 34 (.slice none 0 0) 24 rfl Tryz.underlying24 info34 rfl (by decide) (by omega) (.slice Ao11 t132.length co11) t132 t136 _ _ _ (fun k_ => (w.heap.size ≤ k_) ∧ k_ ≠ gb131) (fun k_ => ((fun k_ => (w.heap.size ≤ k_) ∧ k_ ≠ gb131)) k_ ∧ some k_ ≠ (.slice Ao11 t132.length co11 : Value).ownBlock) rfl rfl ?aO ?aR (fun _ hk => hk) ?aF ?aB ?aS ?aL ?_; (case aR => exact (by skip; exact Kd.N_F (Kd.N_mono (ok' := (fun k_ => ((fun k_ => (w.heap.size ≤ k_) ∧ k_ ≠ gb131)) k_ ∧ some k_ ≠ (.slice Ao11 t132.length co11 : Value).ownBlock)) (HO138.out) (fun k_ hk => ⟨⟨hk.1, hk.2.2⟩, hk.2.1⟩)))); (case aB => exact bl_); (case aF => exact (fun k_ hk => ⟨(Nat.le_trans (below_size bl_) hk), Kd.freshB (g := gb131) (o := .cells #[.int .i64 a0_0, .int .i64 a0_1, .int .i64 a0_2] 23 (0, 0)) bk_ k_ hk⟩)); (case aO => exact (by (with_reducible repeat (first | apply Kd.N_alloc | apply Kd.N_drewN | apply Kd.N_drew)); exact Kd.N_mono HO134.out (fun _ hk => ⟨hk.1.1, hk.1.2⟩))); (case aS => exact (below_size bl_)); (case aL => have := LMc6.out; omega); intro v141 w13 ho hb hg hat; rw [← Ny140.out] at ho; have n0_ := Aside0.mk (blk_grown (g := gb131) (o := .cells #[.int .i64 a0_0, .int .i64 a0_1, .int .i64 a0_2] 23 (0, 0)) bk_ hg (Kd.N_ne HO134.out BK131.out (by decide))); have n1_ := Aside0.mk (Kd.N_afterv (ok := (fun k_ => (w.heap.size ≤ k_) ∧ k_ ≠ gb131)) (by (with_reducible repeat (first | apply Kd.N_alloc | apply Kd.N_drewN | apply Kd.N_drew)); exact Kd.N_mono HO138.out (fun _ hk => ⟨⟨hk.1, hk.2.2⟩, hk.2.1⟩)) hg hat); have n2_ := Aside0.mk (hb); have n3_ := Aside0.mk (ho); clear BK131; clear HO138; clear HB; clear HO134; have BK131 := n0_; have HO138 := n1_; have HB := n2_; have HO142 := n3_; clear n0_ n1_ n2_ n3_; clear ho hb hg hat))
   go_ret2
   exact ⟨_, er_, by (with_reducible repeat (first | apply Kd.N_alloc | apply Kd.N_drewN | apply Kd.N_drew)); exact Kd.N_mono HO142.out (fun _ hk => hk.1), bl_⟩
  ·rw [if_neg c6] at H
   exact absurd H (by simp)
 ·rw [if_neg c4] at H
  have c4b0 : (t135 == 0) = false := beq_eq_false_iff_ne.mpr c4
  have c4b1 : (t135 != 0) = true := bne_iff_ne.mpr c4
  simp only [Option.some.injEq, Prod.mk.injEq] at H
  obtain ⟨rfl, rfl⟩ := H
  go_enter Tryz.func22, Tryz.ntmps22
  go_wp2_with (first | ((with_reducible refine gate_dst (N := 2) rfl ?_); refine box_event ?hg (N := 2) ?hd (cs := #[.int .i64 a0_0, .int .i64 a0_1, .int .i64 a0_2]) (t := 23) ?hr ?_; (case hd => rfl); (case hg => rfl); (case hr => first | (go_simp; done) | (go_simp; rfl)); intro gb131 hg w15 hbox hb; have n0_ := Aside0.mk (below_step bl_ hb); have n1_ := Aside0.mk (hbox); have n2_ := Aside0.mk ((gs_ : w.heap.size ≤ gb131)); have n3_ := Aside0.mk ((gs_ : w.heap.size ≤ gb131)); clear HB; have HB := n0_; have BK131 := n1_; have GW131 := n2_; have GE131 := n3_; clear n0_ n1_ n2_ n3_; clear hb hbox hg; have hcz16_0 : w15.cell? ⟨gb131, 0, none⟩ = some (.int .i64 a0_0) := (blk_cell BK131.out 0).trans rfl; have hcz16_1 : w15.cell? ⟨gb131, 1, none⟩ = some (.int .i64 a0_1) := (blk_cell BK131.out 1).trans rfl; have hcz16_2 : w15.cell? ⟨gb131, 2, none⟩ = some (.int .i64 a0_2) := (blk_cell BK131.out 2).trans rfl; have hfz16_0 := blk_frozen BK131.out 0; have hfz16_1 := blk_frozen BK131.out 1; have hfz16_2 := blk_frozen BK131.out 2) | ((with_reducible refine gate_callee (f := 47) rfl ?_); refine goesL_ (some 12) rfl rfl Tryz.func47 kr_ rfl #[.agg #[.int .i64 a0_0, .int .i64 a0_1, .int .i64 a0_2], .slice A1 l1.length c1] rfl ar_ ?_; (with_reducible refine (layout_Split.calls k a0_0 a0_1 a0_2 _ _ l1 t132 t135 _ ?side1 ?side2 A3.out).mono ?_); (case side1 => repeat (first | exact (Kd.C_below HR1.out HB.out) | (with_reducible refine Kd.C_alloc ?_ _) | (with_reducible refine Kd.C_drewN ?_ _) | (with_reducible refine Kd.C_drew ?_))); (case side2 => exact HC1.out); rintro e w17 ⟨v133, rfl, ho0, hb⟩; refine ⟨_, rfl, ?_⟩; have n0_ := Aside0.mk (Kd.N_lower (Kd.N_mono (ok' := fun k_ => (w.heap.size ≤ k_) ∧ k_ ≠ gb131) (Kd.S_N (Kd.S_bound ho0)) (fun k_ hk_ => ⟨(Nat.le_trans (below_size bl_) hk_.2.1), (Kd.freshB (g := gb131) (o := .cells #[.int .i64 a0_0, .int .i64 a0_1, .int .i64 a0_2] 23 (0, 0)) bk_ k_ hk_.2.1)⟩)) (below_size bl_)); have n1_ := Aside0.mk (blk_below (g := gb131) (o := .cells #[.int .i64 a0_0, .int .i64 a0_1, .int .i64 a0_2] 23 (0, 0)) bk_ hb); have n2_ := Aside0.mk (below_step bl_ hb); clear BK131; clear HB; have HO134 := n0_; have BK131 := n1_; have HB := n2_; clear n0_ n1_ n2_; (try clear hb); (try clear hb2); (try clear hk); (try clear hi); (try clear ho0)))
  go_ret2
  exact ⟨_, er_, nl_, bl_⟩
def slices_Equal_byte_byte.l0 : Nat → List Int → List Int → Int → Int → Option (Bool)
 | 0, _, _, _, _ => none
 | k + 1, x0, x1, x12, x13 => if x13 < x12 then (if 0 ≤ x13 then (if x13 < (x0.length : Int) then (if x13 < (x1.length : Int) then (if (rd x0 x13) = (rd x1 x13) then (slices_Equal_byte_byte.l0 k x0 x1 x12 (wrap64 (x13 + 1))) else (some false)) else (none)) else (none)) else (none)) else (some true)
def slices_Equal_byte_byte.f (k : Nat) (l0 : List Int) (l1 : List Int) : Option (Bool) := if (l0.length : Int) = (l1.length : Int) then (slices_Equal_byte_byte.l0 k l0 l1 (l0.length : Int) 0) else (some false)
set_option maxHeartbeats 8000000 in
set_option maxRecDepth 100000 in
theorem slices_Equal_byte_byte.calls (k : Nat) (A0 : Option Addr) (c0 : Nat) (l0 : List Int) (A1 : Option Addr) (c1 : Nat) (l1 : List Int) (r : Bool) (w : World) (hr0 : Kd.C (Kd.int .u8) w A0 l0.length l0) (hc0 : l0.length ≤ c0) (hr1 : Kd.C (Kd.int .u8) w A1 l1.length l1) (hc1 : l1.length ≤ c1) (h : slices_Equal_byte_byte.f k l0 l1 = some r) :
  Calls Tryz.prog 46 #[.slice A0 l0.length c0, .slice A1 l1.length c1] w fun e w' => e = .returned (.bool r) ∧ Drawn0 w w' := by
 have HR0 := Aside0.mk hr0
 have HC0 := Aside0.mk hc0
 clear hr0 hc0
 have HR1 := Aside0.mk hr1
 have HC1 := Aside0.mk hc1
 clear hr1 hc1
 have H : (if (l0.length : Int) = (l1.length : Int) then (slices_Equal_byte_byte.l0 k l0 l1 (l0.length : Int) 0) else (some false)) = some r := h
 clear h
 by_cases c3 : (l0.length : Int) = (l1.length : Int)
 ·rw [if_pos c3] at H
  have c3b0 : ((l0.length : Int) == (l1.length : Int)) = true := beq_iff_eq.mpr c3
  have c3b1 : ((l0.length : Int) != (l1.length : Int)) = false := bne_eq_false_iff_eq.mpr c3
  have c3b2 : (l0.length == l1.length) = true := by first | simpa using c3 | (simp at c3 ⊢; omega)
  clear c3
  have H' := Aside0.mk H
  clear H
  go_enter Tryz.func46, Tryz.ntmps46
  go_wp2
  repeat (go_quiet (fail); try go_wp2)
  go_loopg [13] k (fun kq v13 w' => ∃ (x13_1 : Int), v13 = .int .i64 x13_1 ∧ Aside0 (slices_Equal_byte_byte.l0 kq l0 l1 (l0.length : Int) x13_1 = some r) ∧ Aside0 (kq ≤ k) ∧ Drawn0 w w')
  case atStart => exact ⟨(0), sd_, H', ⟨Nat.le_refl _⟩, dn_⟩
  case round =>
   clear H'
   try clear c1
   try clear p2
   try clear c3
   try clear c3b0
   try clear c3b1
   try clear c3b2
   obtain ⟨x13_1, rfl, HA, HK1, ⟨m1, rfl⟩⟩ := hrel
   cases gk with
   | zero => exact absurd HA.out (by simp [slices_Equal_byte_byte.l0])
   | succ k1 =>
    have H := HA.out
    clear HA
    simp only [slices_Equal_byte_byte.l0] at H
    by_cases c4 : x13_1 < (l0.length : Int)
    ·rw [if_pos c4] at H
     have c4b0 : decide (x13_1 < (l0.length : Int)) = true := decide_eq_true c4
     clear c4
     by_cases c5 : 0 ≤ x13_1
     ·rw [if_pos c5] at H
      have c5b0 : decide (0 ≤ x13_1) = true := decide_eq_true c5
      clear c5
      by_cases c6 : x13_1 < (l0.length : Int)
      ·rw [if_pos c6] at H
       have c6b0 : decide (x13_1 < (l0.length : Int)) = true := decide_eq_true c6
       clear c6
       by_cases c7 : x13_1 < (l1.length : Int)
       ·rw [if_pos c7] at H
        have c7b0 : decide (x13_1 < (l1.length : Int)) = true := decide_eq_true c7
        clear c7
        by_cases c8 : (rd l0 x13_1) = (rd l1 x13_1)
        ·rw [if_pos c8] at H
         have c8b0 : ((rd l0 x13_1) == (rd l1 x13_1)) = true := beq_iff_eq.mpr c8
         have c8b1 : ((rd l0 x13_1) != (rd l1 x13_1)) = false := bne_eq_false_iff_eq.mpr c8
         clear c8
         have H' := Aside0.mk H
         clear H
         have p117 : 0 ≤ (x13_1 : Int) := of_decide_eq_true as_
         have q117 : x13_1 < (l0.length : Int) := of_decide_eq_true as_
         obtain ⟨ad117, e117, hx117_0⟩ := Kd.at_int HR0.out x13_1 p117 q117
         cases e117
         replace p117 := eq_true p117
         replace q117 := eq_true q117
         have p118 : 0 ≤ (x13_1 : Int) := of_decide_eq_true as_
         have q118 : x13_1 < (l1.length : Int) := of_decide_eq_true as_
         obtain ⟨ad118, e118, hx118_0⟩ := Kd.at_int HR1.out x13_1 p118 q118
         cases e118
         replace p118 := eq_true p118
         replace q118 := eq_true q118
         go_wp2
         repeat (go_quiet (fail); try go_wp2)
         go_roundg k1
         case measure => have := HK1.out; omega
         case rel => exact ⟨(wrap64 (x13_1 + 1)), sd_, H', ⟨by have := HK1.out; omega⟩, dn_⟩
        ·rw [if_neg c8] at H
         have c8b0 : ((rd l0 x13_1) == (rd l1 x13_1)) = false := beq_eq_false_iff_ne.mpr c8
         have c8b1 : ((rd l0 x13_1) != (rd l1 x13_1)) = true := bne_iff_ne.mpr c8
         obtain rfl := Option.some.inj H
         have p117 : 0 ≤ (x13_1 : Int) := of_decide_eq_true as_
         have q117 : x13_1 < (l0.length : Int) := of_decide_eq_true as_
         obtain ⟨ad117, e117, hx117_0⟩ := Kd.at_int HR0.out x13_1 p117 q117
         cases e117
         replace p117 := eq_true p117
         replace q117 := eq_true q117
         have p118 : 0 ≤ (x13_1 : Int) := of_decide_eq_true as_
         have q118 : x13_1 < (l1.length : Int) := of_decide_eq_true as_
         obtain ⟨ad118, e118, hx118_0⟩ := Kd.at_int HR1.out x13_1 p118 q118
         cases e118
         replace p118 := eq_true p118
         replace q118 := eq_true q118
         go_wp2
         repeat (go_quiet (fail); try go_wp2)
         go_ret
         exact ⟨sd_, dn_⟩
       ·rw [if_neg c7] at H
        exact absurd H (by simp)
      ·rw [if_neg c6] at H
       exact absurd H (by simp)
     ·rw [if_neg c5] at H
      exact absurd H (by simp)
    ·rw [if_neg c4] at H
     have c4b0 : decide (x13_1 < (l0.length : Int)) = false := decide_eq_false c4
     clear c4
     obtain rfl := Option.some.inj H
     go_wp2
     repeat (go_quiet (fail); try go_wp2)
     go_ret
     exact ⟨sd_, dn_⟩
 ·rw [if_neg c3] at H
  have c3b0 : ((l0.length : Int) == (l1.length : Int)) = false := beq_eq_false_iff_ne.mpr c3
  have c3b1 : ((l0.length : Int) != (l1.length : Int)) = true := bne_iff_ne.mpr c3
  have c3b2 : (l0.length == l1.length) = false := by first | simpa using c3 | (simp at c3 ⊢; omega)
  obtain rfl := Option.some.inj H
  go_enter Tryz.func46, Tryz.ntmps46
  go_wp2
  repeat (go_quiet (fail); try go_wp2)
  go_ret
  exact ⟨sd_, dn_⟩
def eqRows (k : Nat) : List (List Int) → List (List Int) → Option Bool
 | [], [] => some true
 | x :: xs, y :: ys => (slices_Equal_byte_byte.f k x y).bind fun b => if b = true then eqRows k xs ys else some false
 | _, _ => some false
def eqFunc (k : Nat) (p q : List (List Int)) : Option Bool := if p.length = q.length then (if p.length ≤ 1000000 then eqRows k p q else none) else some false
set_option maxRecDepth 100000 in
set_option maxHeartbeats 1600000 in
theorem eqFunc.calls (K : Nat) (A B : Option Addr) (ca cb : Nat) (p q : List (List Int)) (r : Bool) (W : World) (hA : Kd.C (dM 5 .u8) W A p.length p) (hB : Kd.C (dM 5 .u8) W B q.length q) (h : eqFunc K p q = some r) :
  Calls Tryz.prog 45 #[.slice A p.length ca, .slice B q.length cb, .func (.func 46) #[] #[]] W fun e w' => e = .returned (.bool r) ∧ Below W.heap.size W w' := by
 unfold eqFunc at h
 by_cases hl : p.length = q.length
 ·rw [if_pos hl] at h
  by_cases hsm : p.length ≤ 1000000
  ·rw [if_pos hsm] at h
   have HA := Aside0.mk hA
   have HBq := Aside0.mk hB
   obtain ⟨n, hn⟩ : ∃ n, q.length = n := ⟨_, rfl⟩
   have HN := Aside0.mk (show p.length = n ∧ q.length = n from ⟨hl.trans hn, hn⟩)
   have hnn : n ≤ 1000000 := by omega
   rw [hl, hn]
   have HR := Aside0.mk h
   have hself : ((n : Int) != (n : Int)) = false := by simp
   clear h hA hB hl hn
   go_enter Tryz.func45, Tryz.ntmps45
   go_wp2
   go_loopw [17] (fun iv wr => ∃ i : Nat, i ≤ n ∧ iv = .int .i64 (i : Int) ∧ Aside0 (Below W.heap.size W wr) ∧ Aside0 (eqRows K (p.drop i) (q.drop i) = some r)) (fun iv _ => n - (intOf iv).toNat)
   case atStart => exact ⟨0, Nat.zero_le _, rfl, ⟨Below.refl _ _⟩, ⟨by simpa using HR.out⟩⟩
   case round =>
    clear HR
    obtain ⟨w6, rfl⟩ : ∃ w6, w6 = wr := ⟨_, rfl⟩
    obtain ⟨i, hi, rfl, HB, HE⟩ := hrel
    by_cases hlt : i < n
    ·obtain ⟨x, hx⟩ : ∃ x, p[i]? = some x := ⟨_, List.getElem?_eq_getElem (by have := HN.out.1; omega)⟩
     obtain ⟨y, hy⟩ : ∃ y, q[i]? = some y := ⟨_, List.getElem?_eq_getElem (by have := HN.out.2; omega)⟩
     obtain ⟨a1, A1, c1, rfl, e1, l1, C1⟩ := row_at (Kd.C_below HA.out HB.out) i x hx
     obtain ⟨a2, A2, c2, rfl, e2, l2, C2⟩ := row_at (Kd.C_below HBq.out HB.out) i y hy
     have hd1 : p.drop i = x :: p.drop (i + 1) := by
      obtain ⟨h1, h2⟩ := List.getElem?_eq_some_iff.1 hx
      rw [List.drop_eq_getElem_cons h1, h2]
     have hd2 : q.drop i = y :: q.drop (i + 1) := by
      obtain ⟨h1, h2⟩ := List.getElem?_eq_some_iff.1 hy
      rw [List.drop_eq_getElem_cons h1, h2]
     have he := HE.out
     rw [hd1, hd2, eqRows] at he
     obtain ⟨b, hb, he⟩ := Option.bind_eq_some_iff.1 he
     have HC := Aside0.mk (slices_Equal_byte_byte.calls K A1 c1 x A2 c2 y b w6 C1 l1 C2 l2 hb)
     have i1 : (0 : Int) ≤ (i : Int) := by omega
     have i2 : (i : Int) < (n : Int) := by omega
     have HE2 := Aside0.mk he
     clear hd1 hd2 hb he C1 C2 l1 l2 hx hy HE
     cases b with
     | true =>
      go_wp2_with fail
      refine HC.out.mono ?_
      rintro e w9 ⟨rfl, m9, rfl⟩
      have HB9 := Aside0.mk (pw_below_drewN HB.out m9)
      go_wp2
      go_roundw
      case rel => exact ⟨i + 1, by omega, by go_num, HB9, ⟨by simpa using HE2.out⟩⟩
      case measure => simp [intOf]; omega
     | false =>
      have HRR := Aside0.mk (show r = false by have := HE2.out; rw [if_neg (by decide)] at this; cases this; rfl)
      go_wp2_with fail
      refine HC.out.mono ?_
      rintro e w9 ⟨rfl, m9, rfl⟩
      have HB9 := Aside0.mk (pw_below_drewN HB.out m9)
      go_wp2
      go_ret
      exact ⟨by rw [HRR.out]; rfl, HB9.out⟩
    ·obtain rfl : i = n := by omega
     have HRR := Aside0.mk (show r = true by
      have := HE.out
      rw [List.drop_of_length_le (by rw [HN.out.1]; exact Nat.le_refl _), List.drop_of_length_le (by rw [HN.out.2]; exact Nat.le_refl _), eqRows] at this
      cases this; rfl)
     go_wp2
     go_ret
     exact ⟨by rw [HRR.out]; rfl, HB.out⟩
  ·rw [if_neg hsm] at h; cases h
 ·rw [if_neg hl] at h
  cases h
  have hne : ((p.length : Int) != (q.length : Int)) = true := by simpa using fun h => hl (by omega)
  generalize p.length = n1 at hne ⊢
  generalize q.length = n2 at hne ⊢
  clear hA hB hl
  go_enter Tryz.func45, Tryz.ntmps45
  go_wp2
  go_ret
  exact ⟨rfl, Below.refl _ _⟩
def codec_Verify.f (k : Nat) (a0_0 a0_1 a0_2 : Int) (l1 : List (List Int)) : Option Bool :=
 (profile_May.f a0_0 a0_1 a0_2).bind fun b => if b = true then (if (l1.length : Int) = a0_1 + a0_2 then ((codec_Parity.f k a0_0 a0_1 a0_2 (l1.take a0_1.toNat)).bind fun t => if t.2 = 0 then eqFunc k t.1 (l1.drop a0_1.toNat) else some false) else some false) else some false
theorem cut_to3 {P : Program} (t e : TypeId) {i : TypeInfo} (ht : P.underlying t = some (.slice e)) (hi : P.info? e = some i) (A : Option Addr) (n c j : Nat) (hm : j ≤ n) (hc : n ≤ c) :
  ∀ W : World, (Instr.slice t (.slice A n c) none (some (.int .i64 (j : Int))) (some (.int .i64 (j : Int)))).run P W = .ok (.slice A j j) W := by
 intro W
 have hel : P.elem t = e := by simp [Program.elem, ht]
 have hu : P.underlying t = some (.slice (P.elem t)) := by rw [hel]; exact ht
 have ha : (A.map fun x => x.add 0) = A := by cases A <;> simp [Addr.add]
 have h1 : (j : Int) ≤ (c : Int) := by omega
 simp [Instr.slice, run_underlying hu, Instr.sliceBounds, run_sliceBound, h1, hel, sizeOf, typeInfo, hi, sliced, Result.andThen, ha]
set_option maxRecDepth 100000 in
set_option maxHeartbeats 1600000 in
theorem codec_Verify.nomay (a0_0 a0_1 a0_2 : Int) (A1 : Option Addr) (c1 n : Nat) (w : World) (h : profile_May.f a0_0 a0_1 a0_2 = some false) :
  Calls Tryz.prog 20 #[.agg #[.int .i64 a0_0, .int .i64 a0_1, .int .i64 a0_2], .slice A1 n c1] w fun e w' => e = .returned (.bool false) ∧ Below w.heap.size w w' := by
 have HM := Aside0.mk (fun w => profile_May.calls a0_0 a0_1 a0_2 false w h)
 have hu := Tryz.underlying23
 have HB := Aside0.mk (below_alloc (Below.refl w.heap.size w) (.cells #[.int .i64 a0_0, .int .i64 a0_1, .int .i64 a0_2] 23))
 clear h
 go_enter Tryz.func20, Tryz.ntmps20
 go_wp2_with fail
 generalize w.alloc (.cells #[.int .i64 a0_0, .int .i64 a0_1, .int .i64 a0_2] 23) = w0 at HB ⊢
 refine (HM.out w0).mono ?_
 rintro e w1 ⟨rfl, hB1⟩
 have HB1 := Aside0.mk (HB.out.trans (hB1.mono HB.out.size))
 clear hB1
 go_wp2
 go_ret
 exact ⟨rfl, HB1.out⟩
set_option maxRecDepth 100000 in
set_option maxHeartbeats 1600000 in
theorem codec_Verify.nolen (a0_0 a0_1 a0_2 : Int) (A1 : Option Addr) (c1 n : Nat) (w : World) (h : profile_May.f a0_0 a0_1 a0_2 = some true) (hk : 1 ≤ a0_1 ∧ a0_1 ≤ 1000 ∧ 1 ≤ a0_2 ∧ a0_2 ≤ 1000) (hn : (n : Int) ≠ a0_1 + a0_2) :
  Calls Tryz.prog 20 #[.agg #[.int .i64 a0_0, .int .i64 a0_1, .int .i64 a0_2], .slice A1 n c1] w fun e w' => e = .returned (.bool false) ∧ Below w.heap.size w w' := by
 have HM := Aside0.mk (fun w => profile_May.calls a0_0 a0_1 a0_2 true w h)
 have hu := Tryz.underlying23
 have HB := Aside0.mk (below_alloc (Below.refl w.heap.size w) (.cells #[.int .i64 a0_0, .int .i64 a0_1, .int .i64 a0_2] 23))
 have HX := Aside0.mk (heap_alloc_new w (.cells #[.int .i64 a0_0, .int .i64 a0_1, .int .i64 a0_2] 23))
 have hs : IntKind.i64.wrap (a0_1 + a0_2) = a0_1 + a0_2 := by rw [IntKind.wrap_i64]; omega
 have hne : ((n : Int) != a0_1 + a0_2) = true := by simpa using hn
 clear h hk hn
 go_enter Tryz.func20, Tryz.ntmps20
 go_wp2_with fail
 generalize w.alloc (.cells #[.int .i64 a0_0, .int .i64 a0_1, .int .i64 a0_2] 23) = w0 at HB HX ⊢
 refine (HM.out w0).mono ?_
 rintro e w1 ⟨rfl, hB1⟩
 have HB1 := Aside0.mk (HB.out.trans (hB1.mono HB.out.size))
 have HX1 := blk_below HX.out hB1
 have q1 : w1.cell? ⟨w.heap.size, 1, none⟩ = some (.int .i64 a0_1) := (blk_cell HX1 1).trans rfl
 have q2 : w1.cell? ⟨w.heap.size, 2, none⟩ = some (.int .i64 a0_2) := (blk_cell HX1 2).trans rfl
 clear hB1 HX HX1
 go_wp2
 go_ret
 exact ⟨rfl, HB1.out⟩
set_option maxRecDepth 100000 in
set_option maxHeartbeats 1600000 in
theorem codec_Verify.go (k : Nat) (a0_0 : Int) (kk M n : Nat) (A1 : Option Addr) (c1 : Nat) (l1 t1 : List (List Int)) (t2 : Int) (r : Bool) (w : World) (h : profile_May.f a0_0 (kk : Int) (M : Int) = some true) (hk : 1 ≤ kk ∧ kk ≤ 1000 ∧ 1 ≤ M ∧ M ≤ 1000) (hn : n = kk + M) (hln : l1.length = n) (hc : n ≤ c1)
  (hr : Kd.C (dM 5 .u8) w A1 l1.length l1) (hp : codec_Parity.f k a0_0 (kk : Int) (M : Int) (l1.take kk) = some (t1, t2)) (he : t2 = 0 → eqFunc k t1 (l1.drop kk) = some r) (he2 : t2 ≠ 0 → r = false) :
  Calls Tryz.prog 20 #[.agg #[.int .i64 a0_0, .int .i64 (kk : Int), .int .i64 (M : Int)], .slice A1 n c1] w fun e w' => e = .returned (.bool r) ∧ Below w.heap.size w w' := by
 have HM := Aside0.mk (fun w => profile_May.calls a0_0 (kk : Int) (M : Int) true w h)
 have HE := Aside0.mk he
 have HE2 := Aside0.mk he2
 have HP := Aside0.mk hp
 have HR := Aside0.mk hr
 have HLN := Aside0.mk hln
 have hu := Tryz.underlying23
 have hu2 := Tryz.underlying24
 have HB := Aside0.mk (below_alloc (Below.refl w.heap.size w) (.cells #[.int .i64 a0_0, .int .i64 (kk : Int), .int .i64 (M : Int)] 23))
 have HX := Aside0.mk (heap_alloc_new w (.cells #[.int .i64 a0_0, .int .i64 (kk : Int), .int .i64 (M : Int)] 23))
 have hs : IntKind.i64.wrap ((kk : Int) + (M : Int)) = ((kk + M : Nat) : Int) := by rw [IntKind.wrap_i64]; omega
 have hne : ((n : Int) != ((kk + M : Nat) : Int)) = false := by rw [hn]; simp
 have hKn : kk ≤ n := by omega
 clear h hk hn he he2 hp hr hln
 go_enter Tryz.func20, Tryz.ntmps20
 go_wp2_with fail
 generalize w.alloc (.cells #[.int .i64 a0_0, .int .i64 (kk : Int), .int .i64 (M : Int)] 23) = w0 at HB HX ⊢
 refine (HM.out w0).mono ?_
 rintro e w1 ⟨rfl, hB1⟩
 have HB1 := Aside0.mk (HB.out.trans (hB1.mono HB.out.size))
 have HX1 := Aside0.mk (blk_below HX.out hB1)
 have q0 : w1.cell? ⟨w.heap.size, 0, none⟩ = some (.int .i64 a0_0) := (blk_cell HX1.out 0).trans rfl
 have q1 : w1.cell? ⟨w.heap.size, 1, none⟩ = some (.int .i64 (kk : Int)) := (blk_cell HX1.out 1).trans rfl
 have q2 : w1.cell? ⟨w.heap.size, 2, none⟩ = some (.int .i64 (M : Int)) := (blk_cell HX1.out 2).trans rfl
 have hinfo : (Tryz.prog.info? 34).map (fun i => i.size) = some 1 := by kernel_rfl
 obtain ⟨inf, hinf, hsz⟩ := Option.map_eq_some_iff.1 hinfo
 have hcut := cut_to3 (P := Tryz.prog) 24 34 hu2 hinf A1 n c1 kk hKn hc
 have htk : (l1.take kk).length = kk := by rw [List.length_take, HLN.out]; omega
 have HPA := Aside0.mk (show Calls Tryz.prog 17 #[.agg #[.int .i64 a0_0, .int .i64 (kk : Int), .int .i64 (M : Int)], .slice A1 kk kk] w1.drew _ from by
  have h1 := codec_Parity.calls k a0_0 (kk : Int) (M : Int) A1 kk (l1.take kk) t1 t2 w1.drew (Kd.C_take (Kd.C_below HR.out HB1.out.drew) (by rw [HLN.out]; exact hKn)) (by omega) HP.out
  rw [htk] at h1
  exact h1)
 have hmo : Tryz.prog.follows .mixedOrders = true := by kernel_rfl
 have hdl : (l1.drop kk).length = n - kk := by rw [List.length_drop, HLN.out]
 have hcut2 := cut_from (P := Tryz.prog) 24 34 .i64 hu2 hinf 1 hsz A1 n c1 (kk : Int) (by omega) (by omega)
 have hdr := Kd.C_drop (m := kk) (c := c1) HR.out (by rw [HLN.out]; exact hKn) (by rw [HLN.out]; exact hc)
 rw [show (dM 5 .u8).sz = 1 from rfl, hdl] at hdr
 simp only [Int.toNat_natCast] at hcut2
 generalize (if c1 = kk then A1 else Option.map (fun x => x.add (kk * 1)) A1) = A4 at hcut2 hdr
 have HDR := Aside0.mk hdr
 have HDL := Aside0.mk hdl
 obtain ⟨c4, hc4⟩ : ∃ c4, c1 - kk = c4 := ⟨_, rfl⟩
 obtain ⟨n4, hn4⟩ : ∃ n4, n - kk = n4 := ⟨_, rfl⟩
 rw [hc4, hn4] at hcut2
 rw [hn4] at HDR HDL
 clear hB1 HX HB HM hinfo hinf htk HP hsz hdl hdr hc4 hn4
 go_wp2_with fail
 refine start_ (n := 13) (S := fun w' => w'.cell? ⟨w.heap.size, 0, none⟩ = some (.int .i64 a0_0) ∧ w'.cell? ⟨w.heap.size, 1, none⟩ = some (.int .i64 (kk : Int)) ∧ w'.cell? ⟨w.heap.size, 2, none⟩ = some (.int .i64 (M : Int))) (ds := []) (bA 13 0) kr_ rfl rfl ⟨q0, q1, q2⟩ (fun hHeld => ?_)
 refine pu_ 1 22 2 ?_
 refine pu_ 2 23 6 ?_
 refine pu_ 4 25 22 ?_
 refine tk_ 0 21 23 hHeld ?_
 refine tk_ 3 24 31 hHeld ?_
 refine tk_ 5 26 63 hHeld ?_
 refine pu_ 6 27 127 ?_
 refine one_ (i := 7) (N := some 28) (bA 13 255) rfl rfl kr_ (by decide) (fun K hK => ?_)
 refine goes_ Tryz.func17 kr_ rfl #[.agg #[.int .i64 a0_0, .int .i64 (kk : Int), .int .i64 (M : Int)], .slice A1 kk kk] (by rfl) rfl rfl am_ ?_
 with_reducible refine (HPA.out).mono ?_
 rintro e w2 ⟨v, rfl, p3, p4⟩
 refine ⟨_, rfl, ?_⟩
 have P3 := Aside0.mk p3
 have HB2 := Aside0.mk (HB1.out.drew.trans (p4.mono HB1.out.drew.size))
 have HX2 := Aside0.mk (blk_below (show w1.drew.heap[w.heap.size]? = _ from HX1.out) p4)
 clear p3 p4
 refine hK.out _ _ ⟨(blk_cell HX2.out 0).trans rfl, (blk_cell HX2.out 1).trans rfl, (blk_cell HX2.out 2).trans rfl⟩ (fun hHeld => ?_)
 clear hK K
 refine norm_ (a' := ?_) ?_ ?_
 rotate_left
 ·show Act.put _ (some 28) _ = _
  simp only [Act.put, List.setIfInBounds_toArray, List.set_cons_zero, List.set_cons_succ, i64_w, i32_w]
  rfl
 refine pu_ 8 20 511 ?_
 refine pu_ 9 29 1023 ?_
 refine pu_ 10 30 2047 ?_
 refine pu_ 11 5 4095 ?_
 refine pu_ 12 6 8191 ?_
 refine done_ kr_ ?_
 have q1 : w2.cell? ⟨w.heap.size, 1, none⟩ = some (.int .i64 (kk : Int)) := hHeld.2.1
 obtain ⟨A2, c2, rfl, l2, C2⟩ := Kd.S_reads P3.out
 by_cases ht : t2 = 0
 ·subst ht
  have HEQ := Aside0.mk (show Calls Tryz.prog 45 #[.slice A2 t1.length c2, .slice A4 n4 c4, .func (.func 46) #[] #[]] w2 _ from by
   have h1 := eqFunc.calls k A2 A4 c2 c4 t1 (l1.drop kk) r w2 C2 (by have := Kd.C_below HDR.out (HB2.out); rw [HDL.out]; exact this) (HE.out rfl)
   rw [HDL.out] at h1
   exact h1)
  generalize t1.length = m1 at HEQ l2 ⊢
  clear C2 P3 HPA
  go_wp2_with fail
  refine HEQ.out.mono ?_
  rintro e w3 ⟨rfl, q3⟩
  have HB3 := Aside0.mk (HB2.out.trans (q3.mono HB2.out.size))
  clear q3
  go_wp2
  go_ret
  exact ⟨by cases r <;> rfl, HB3.out⟩
 ·have hne2 : (t2 == 0) = false := by simpa using ht
  have HRR := Aside0.mk (HE2.out ht)
  generalize t1.length = m1 at l2 ⊢
  clear C2 P3 HPA
  go_wp2
  go_ret
  exact ⟨by rw [HRR.out]; rfl, HB2.out⟩
theorem codec_Verify.calls (k : Nat) (a0_0 : Int) (a0_1 : Int) (a0_2 : Int) (A1 : Option Addr) (c1 : Nat) (l1 : List (List Int)) (r : Bool) (w : World) (hr1 : Kd.C (Kd.slice 5 (Kd.int .u8)) w A1 l1.length l1) (hc1 : l1.length ≤ c1) (h : codec_Verify.f k a0_0 a0_1 a0_2 l1 = some r) :
 Calls Tryz.prog 20 #[.agg #[.int .i64 a0_0, .int .i64 a0_1, .int .i64 a0_2], .slice A1 l1.length c1] w fun e w' => e = .returned (.bool r) ∧ Below w.heap.size w w' := by
 unfold codec_Verify.f at h
 obtain ⟨b, hb⟩ := may_some a0_0 a0_1 a0_2
 rw [hb] at h
 simp only [Option.bind_some] at h
 cases b with
 | false =>
  rw [if_neg (by decide)] at h
  cases h
  exact codec_Verify.nomay a0_0 a0_1 a0_2 A1 c1 l1.length w hb
 | true =>
  rw [if_pos rfl] at h
  obtain ⟨p1, p2, k1, k2, m1, m2⟩ := may_true hb
  by_cases hl : (l1.length : Int) = a0_1 + a0_2
  ·rw [if_pos hl] at h
   obtain ⟨kk, rfl⟩ : ∃ kk : Nat, a0_1 = (kk : Int) := ⟨a0_1.toNat, by omega⟩
   obtain ⟨M, rfl⟩ : ∃ M : Nat, a0_2 = (M : Int) := ⟨a0_2.toNat, by omega⟩
   rw [Int.toNat_natCast] at h
   obtain ⟨⟨t1, t2⟩, hp, h⟩ := Option.bind_eq_some_iff.1 h
   exact codec_Verify.go k a0_0 kk M l1.length A1 c1 l1 t1 t2 r w hb (by omega) (by omega) rfl hc1 hr1 hp (fun ht => by dsimp only at h; rwa [if_pos ht] at h) (fun ht => by dsimp only at h; rw [if_neg ht] at h; cases h; rfl)
  ·rw [if_neg hl] at h
   cases h
   exact codec_Verify.nolen a0_0 a0_1 a0_2 A1 c1 l1.length w hb (by omega) hl
def gambrellaw11_awake.f (_ : Nat) : Option (Bool) := some true
def awake11.b : List Int := [97, 98, 99, 100, 101, 102, 103, 104, 65, 66, 67, 68, 69, 70, 71, 72]
def awake11.l : List (List Int) := [[97, 98, 99, 100, 101, 102, 103, 104], [65, 66, 67, 68, 69, 70, 71, 72], [32, 32, 32, 32, 32, 32, 32, 32]]
theorem awake11.enc : codec_Encode.f 199 1 2 1 awake11.b = some (awake11.l, 0) := by kernel_rfl
theorem awake11.ver : codec_Verify.f 199 1 2 1 awake11.l = some true := by kernel_rfl
theorem C_numsF {k : IntKind} {w : World} {g : Nat} {t : TypeId} {xs : List Int} {fr : Nat × Nat} (h : w.heap[g]? = some (.cells (nums k xs).toArray t fr)) (hl : xs.length ≤ 9223372036854775807) : Kd.C (Kd.int k) w (some ⟨g, 0, none⟩) xs.length xs := by
 refine ⟨rfl, hl, fun _ => ⟨_, rfl, fun j p hp => ⟨[.int k p], rfl, rfl, fun i u hu => ?_⟩⟩⟩
 obtain ⟨hj, rfl⟩ := List.getElem?_eq_some_iff.1 hp
 cases i with
 | succ i => simp at hu
 | zero =>
  obtain rfl : Value.int k xs[j] = u := by simpa using hu
  have e : (⟨g, 0, none⟩ : Addr).add (j * (Kd.int k).sz + 0) = ⟨g, j, none⟩ := by
   show (⟨g, 0, none⟩ : Addr).add (j * 1 + 0) = _
   unfold Addr.add
   split <;> simp_all
  rw [e, cell_of_row w g j _ t fr h]
  simp [nums, hj]
set_option maxRecDepth 100000 in
set_option maxHeartbeats 4000000 in
theorem gambrellaw11_awake.calls (k : Nat) (r : Bool) (w : World) (h : gambrellaw11_awake.f k = some r) :
 Calls Tryz.prog 15 #[] w fun e w' => e = .returned (.bool r) ∧ Below w.heap.size w w' := by
 obtain rfl : true = r := by injection h
 clear h
 have kc := fun (w : World) (C : Array Value) (n c : Nat) => Lib.run_convert_bytes_const (P := Tryz.prog) w 34 5 C n c Tryz.underlying34 Tryz.underlying5
 have HE := Aside0.mk (fun (W : World) (A : Option Addr) (hr : Kd.C (Kd.int .u8) W A awake11.b.length awake11.b) => codec_Encode.calls 199 1 2 1 A 16 awake11.b awake11.l 0 W hr (by decide) awake11.enc)
 have HV := Aside0.mk (fun (W : World) (A : Option Addr) (c : Nat) (hr : Kd.C (Kd.slice 5 (Kd.int .u8)) W A awake11.l.length awake11.l) (hc : 3 ≤ c) => codec_Verify.calls 199 1 2 1 A c awake11.l true W hr hc awake11.ver)
 go_enter Tryz.func15, Tryz.ntmps15
 go_wp2_with fail
 refine (HE.out _ (some ⟨w.heap.size, 0, none⟩) (C_numsF (fr := (16, 17)) (heap_alloc_new _ _) (by decide))).mono ?_
 rintro e w1 ⟨v, rfl, q1, q2⟩
 have HB1 := Aside0.mk ((below_alloc (Below.refl _ _) _).trans (q2.mono (by simp)) : Below w.heap.size w w1)
 obtain ⟨gg, c, rfl, -, -, -⟩ := Kd.N_form q1 (by decide)
 obtain ⟨-, hc, hC⟩ := Kd.N_reads' q1
 have HC := Aside0.mk hC
 obtain ⟨ad, A2, c2, he, e2, -, C2⟩ := row_at hC 2 [32, 32, 32, 32, 32, 32, 32, 32] rfl
 obtain rfl := Option.some.inj he
 rw [show (⟨gg, 0, none⟩ : Addr).add 2 = ⟨gg, 2, none⟩ by unfold Addr.add; split <;> simp_all] at e2
 clear he
 have hst := Kd.C_string (P := Tryz.prog) (c := c2) Tryz.underlying34 Tryz.underlying5 Tryz.underlying9 C2
 have hss : (strOfNums [32, 32, 32, 32, 32, 32, 32, 32] : ByteArray) = ⟨#[32, 32, 32, 32, 32, 32, 32, 32]⟩ := by kernel_rfl
 rw [hss] at hst
 have hl8 : ([32, 32, 32, 32, 32, 32, 32, 32] : List Int).length = 8 := rfl
 rw [hl8] at hst e2
 have hl3 : awake11.l.length = 3 := rfl
 have HV1 := Aside0.mk (HV.out w1 _ c HC.out hc)
 rw [hl3] at HV1 hc ⊢
 clear q1 q2 hC C2 HE HV kc hss
 go_wp2_with fail
 refine HV1.out.mono ?_
 rintro e w2 ⟨rfl, q2⟩
 have HB2 := Aside0.mk (HB1.out.trans (q2.mono HB1.out.size))
 clear q2
 go_wp2
 go_ret
 exact ⟨rfl, HB2.out⟩
end Go.Proofs.YtelcllhibpnneaaGreat.XCo
end
