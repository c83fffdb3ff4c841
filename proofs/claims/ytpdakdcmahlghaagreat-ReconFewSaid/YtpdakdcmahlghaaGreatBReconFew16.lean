-- Joined by this work's own program (wip/tools/bundle.py) out of its texts: what this claim uses of them. Not trusted: Lean checks it.
import Derived.Lib.SlBytesConst
import Derived.Test.YtpdakdcmahlghaaGreatBReconFew15
section
namespace Go.Proofs.YtpdakdcmahlghaaGreat.XCo
open Go.RowKit Go.Proofs.YtpdakdcmahlghaaGreatW.PrintWords Go.Proofs.YtpdakdcmahlghaaGreatW.PrintLast Go.Proofs.YtpdakdcmahlghaaGreatW.PrintMore
attribute [local go_sem] axz ayz aDz aEz apz aqz azz aAz
set_option linter.unusedVariables false
set_option linter.unusedSimpArgs false
attribute [local go_sem] Oper.semAt_some
def setAll (T : List (Nat × List Int)) (a : List (List Int)) : List (List Int) := T.foldl (fun a x => a.set x.1 x.2) a
theorem setAll_snoc (T : List (Nat × List Int)) (x : Nat × List Int) (a : List (List Int)) : setAll (T ++ [x]) a = (setAll T a).set x.1 x.2 := by simp [setAll]
def aOz.g (l : List (List Int)) (hv : List Bool) (d q : List (List Int)) (e : Int) : Option (List (List Int) × Int) :=
 if e = 0 then (if (d ++ q).length = l.length then (if hv.length = l.length then (if 1 ≤ d.length ∧ 1 ≤ q.length ∧ l.length ≤ 1000 then (if alz.small l = true then some (setAll (thereF 0 l hv) (d ++ q), 0) else none) else none) else none) else none) else none
def aOz.f (k : Nat) (a0_0 a0_1 a0_2 : Int) (l1 : List (List Int)) (l2 : List Bool) : Option (List (List Int) × Int) :=
 (aoz.f k a0_0 a0_1 a0_2 l1 l2).bind fun d => if d.2 = 0 then ((alz.f k a0_0 a0_1 a0_2 d.1).bind fun q => aOz.g l1 l2 d.1 q.1 q.2) else some ([], d.2)
set_option maxRecDepth 100000 in
set_option maxHeartbeats 4000000 in
theorem aOz.bad (k : Nat) (p K M : Int) (A1 A2 : Option Addr) (c1 c2 : Nat) (l : List (List Int)) (hv : List Bool) (d1 : List (List Int)) (d2 : Int) (W : World)
  (hd : aoz.f k p K M l hv = some (d1, d2)) (h0 : d2 ≠ 0) (hr1 : Kd.C (dM 5 .u8) W A1 l.length l) (hc1 : l.length ≤ c1) (hr2 : Kd.C Kd.bool W A2 hv.length hv) (hc2 : hv.length ≤ c2) :
  Calls Tryz.prog 29 #[.agg #[.int .i64 p, .int .i64 K, .int .i64 M], .slice A1 l.length c1, .slice A2 hv.length c2] W fun e w' => e = .returned (.tuple #[.slice none 0 0, .int .i64 d2]) ∧ Below W.heap.size W w' := by
 have HDA := Aside0.mk (fun (w1 : World) (hB : Below W.heap.size W w1) => aoz.calls k p K M A1 c1 l A2 c2 hv d1 d2 w1 (Kd.aGz hr1 hB) hc1 (Kd.aGz hr2 hB) hc2 hd)
 generalize l.length = N at HDA ⊢
 generalize hv.length = N2 at HDA ⊢
 have hu := Tryz.underlying23
 have hb : (d2 != 0) = true := by simpa using h0
 have HB := Aside0.mk (abz (Below.refl W.heap.size W) (.cells #[.int .i64 p, .int .i64 K, .int .i64 M] 23))
 clear hd hr1 hc1 hr2 hc2 h0
 refine (callsIn_wide (n := 8)).1 (callsIn_of_wp_marks Tryz.func29 rfl trivial (wpIn_wide.2 ?_) rfl)
 simp only [Tryz.ntmps29, List.size_toArray, List.length_cons, List.length_nil, Nat.reduceAdd, Nat.reduceSub, Array.replicate_succ, Array.replicate_zero, List.push_toArray, List.append_toArray, List.nil_append, List.cons_append]
 go_wp2_with fail
 generalize W.alloc (.cells #[.int .i64 p, .int .i64 K, .int .i64 M] 23) = w0 at HB ⊢
 refine (HDA.out w0 HB.out).mono ?_
 rintro e w1 ⟨v, rfl, s1, hB1⟩
 obtain ⟨Av, cv, rfl⟩ := Kd.aKz (Kd.S_R s1)
 have HB1 := Aside0.mk (HB.out.trans (hB1.mono HB.out.size))
 generalize d1.length = nd at s1 ⊢
 clear hB1 HB HDA s1
 go_wp2
 refine bbz [] w1 (by simp) (fun D' hD' => by simp at hD') (fun w' hkp hsz hos htp hou => ?_)
 exact ⟨_, results_tmp2 rfl _ _ _, rfl, hos.trans HB1.out.os, htp.trans HB1.out.tape, hou.trans HB1.out.output, by rw [hsz]; exact HB1.out.size, fun q hq => (hkp q (Nat.lt_of_lt_of_le hq HB1.out.size) (by simp)).trans (HB1.out.block q hq)⟩
set_option maxRecDepth 100000 in
set_option maxHeartbeats 4000000 in
theorem aOz.go (k : Nat) (p K M : Int) (N0 : Nat) (A1 A2 : Option Addr) (c1 c2 : Nat) (l : List (List Int)) (hv : List Bool) (d1 q1 : List (List Int)) (W : World)
  (hd : aoz.f k p K M l hv = some (d1, 0)) (hq : alz.f k p K M d1 = some (q1, 0)) (hN : l.length = N0) (hN2 : hv.length = N0) (hlen : d1.length + q1.length = N0) (hd0 : 1 ≤ d1.length) (hq0 : 1 ≤ q1.length) (hn1000 : N0 ≤ 1000) (hsm : ∀ r, r ∈ l → r.length ≤ 1000000)
  (hr1 : Kd.C (dM 5 .u8) W A1 l.length l) (hc1 : l.length ≤ c1) (hr2 : Kd.C Kd.bool W A2 hv.length hv) (hc2 : hv.length ≤ c2) :
  Calls Tryz.prog 29 #[.agg #[.int .i64 p, .int .i64 K, .int .i64 M], .slice A1 N0 c1, .slice A2 N0 c2] W fun e w' => ∃ v, e = .returned (.tuple #[v, .int .i64 0]) ∧ Kd.S (dM 5 .u8) 34 w' W.heap.size (fun _ => True) v (setAll (thereF 0 l hv) (d1 ++ q1)) ∧ Below W.heap.size W w' := by
 have HDA := Aside0.mk (fun (w1 : World) (hB : Below W.heap.size W w1) => aoz.calls k p K M A1 c1 l A2 c2 hv d1 0 w1 (Kd.aGz hr1 hB) hc1 (Kd.aGz hr2 hB) hc2 hd)
 rw [hN, hN2] at HDA
 have HPA := Aside0.mk (fun (A : Option Addr) (c : Nat) (w1 : World) (hC : Kd.C (dM 5 .u8) w1 A d1.length d1) (hc : d1.length ≤ c) => alz.calls k p K M A c d1 q1 0 w1 hC hc hq)
 have HR1 := Aside0.mk hr1
 have HR2 := Aside0.mk hr2
 have HN := Aside0.mk hN
 have HN2 := Aside0.mk hN2
 have HSM := Aside0.mk hsm
 obtain ⟨nd, hnd⟩ : ∃ m, d1.length = m := ⟨_, rfl⟩
 obtain ⟨nq, hnq⟩ : ∃ m, q1.length = m := ⟨_, rfl⟩
 have HND := Aside0.mk hnd
 have HNQ := Aside0.mk hnq
 have HLEN := Aside0.mk (show nd + nq = N0 by omega)
 have hu := Tryz.underlying23
 have HB := Aside0.mk (abz (Below.refl W.heap.size W) (.cells #[.int .i64 p, .int .i64 K, .int .i64 M] 23))
 have HX := Aside0.mk (boz W (.cells #[.int .i64 p, .int .i64 K, .int .i64 M] 23))
 have nd1 : 1 ≤ nd := by omega
 have nq1 : 1 ≤ nq := by omega
 rw [hnd] at HPA
 clear hd hq hN hN2 hlen hr1 hc1 hr2 hc2 hsm hd0 hq0 hnd hnq
 refine (callsIn_wide (n := 8)).1 (callsIn_of_wp_marks Tryz.func29 rfl trivial (wpIn_wide.2 ?_) rfl)
 simp only [Tryz.ntmps29, List.size_toArray, List.length_cons, List.length_nil, Nat.reduceAdd, Nat.reduceSub, Array.replicate_succ, Array.replicate_zero, List.push_toArray, List.append_toArray, List.nil_append, List.cons_append]
 go_wp2_with fail
 generalize W.alloc (.cells #[.int .i64 p, .int .i64 K, .int .i64 M] 23) = w0 at HB HX ⊢
 refine (HDA.out w0 HB.out).mono ?_
 rintro e w1 ⟨v1, rfl, s1, hB1⟩
 obtain ⟨Ad, cd, rfl, hcd, hCd⟩ := Kd.bYz (Kd.S_R s1)
 have HB1 := Aside0.mk (HB.out.trans (hB1.mono HB.out.size))
 have HX1 := Aside0.mk (agz HX.out hB1)
 rw [HND.out] at hCd hcd ⊢
 have HPC := Aside0.mk (HPA.out Ad cd w1 hCd hcd)
 have S1 := Aside0.mk s1
 have HBW0 := Aside0.mk (show W.heap.size ≤ w0.heap.size from HB.out.size)
 have q0 : w1.cell? ⟨W.heap.size, 0, none⟩ = some (.int .i64 p) := (aaz HX1.out 0).trans rfl
 have q1' : w1.cell? ⟨W.heap.size, 1, none⟩ = some (.int .i64 K) := (aaz HX1.out 1).trans rfl
 have q2 : w1.cell? ⟨W.heap.size, 2, none⟩ = some (.int .i64 M) := (aaz HX1.out 2).trans rfl
 clear hB1 HX HB HDA HPA s1 hCd hcd
 go_wp2_with fail
 refine HPC.out.mono ?_
 rintro e w2 ⟨v2, rfl, s2, hB2⟩
 obtain ⟨g2, cq, rfl, hg2, hg2l, -⟩ := Kd.N_form (Kd.S_N s2) (by rw [HNQ.out]; exact nq1)
 have HB2 := Aside0.mk (HB1.out.trans (hB2.mono HB1.out.size))
 have hs12 := Kd.bMz (Kd.bWz (Kd.biz (Kd.aZz S1.out) (ok' := fun k => k < w1.heap.size) (fun k hk => hk.2.2.1)) hB2) HBW0.out
 have hs22 := Kd.biz (Kd.aZz s2) (ok' := fun k => w1.heap.size ≤ k) (fun k hk => hk.2.1)
 rw [HNQ.out] at hs22 ⊢
 rw [HND.out] at hs12
 have HS1 := Aside0.mk hs12
 have HS2 := Aside0.mk hs22
 have HBL := Aside0.mk (show nd + nq ≤ 1000 by have := HLEN.out; omega)
 have HLP := Aside0.mk (show 0 < (d1 ++ q1).length by rw [List.length_append, HND.out]; omega)
 have HLL := Aside0.mk (show (d1 ++ q1).length = N0 by rw [List.length_append, HND.out, HNQ.out]; exact HLEN.out)
 have HW1 := Aside0.mk (show W.heap.size ≤ w1.heap.size from HB1.out.size)
 clear s2 hB2 hs12 hs22 HPC q0 q1' q2 S1
 go_wp2_with ((with_reducible refine asz (b := .append) (xs := #[.tmp 30, .tmp 31]) rfl ?_); go_must (at_builtin; refine S_append_rows (dM 5 .u8) (w0 := W) W.heap.size w1.heap.size rfl (.tmp 30) (.tmp 31) 24 34 (.slice none 0 0) 24 rfl Tryz.underlying24 kr_ rfl (by decide) (by decide) _ d1 q1 g2 nq cq (fun k' => k' < w1.heap.size) (fun k' => w1.heap.size ≤ k') rfl rfl HS1.out HS2.out (fun k' h1 h2 => by omega) HW1.out HB2.out HB2.out.size ?aL ?_; (case aL => have := HBL.out; have := HND.out; omega)); intro v3 w3 ho3 hb3 hg3 hat3; obtain ⟨o3, cap3, rfl, -, -, -⟩ := Kd.N_form (Kd.S_N ho3) HLP.out; rw [HLL.out] at ho3 ⊢; have HO3 := Aside0.mk ho3; have HB3 := Aside0.mk hb3; clear ho3 hb3 hg3 hat3)
 have hth := there.calls A1 A2 N0 c1 N0 c2
 go_wp2_with (first | (go_at_call 58; refine (hth _).mono ?_; rintro e w' ⟨rfl, rfl⟩))
 clear hth
 obtain ⟨T, hT⟩ : ∃ T, thereF 0 l hv = T := ⟨_, rfl⟩
 have HTD := Aside0.mk hT
 have HTM := Aside0.mk (show ∀ x, x ∈ T → x.1 < N0 ∧ x.2.length ≤ 1000000 from fun x hx => by
  rw [← hT] at hx
  have h1 := thereF_lt 0 l hv x hx
  rw [HN.out] at h1
  exact ⟨by omega, HSM.out _ (thereF_mem 0 l hv x hx)⟩)
 clear hT
 have hX8 : (((w3.alloc (.cells #[.slice (some ⟨o3, 0, none⟩) N0 cap3] 24)).alloc (.cells #[.slice A1 N0 c1] 24)).alloc (.cells #[.slice A2 N0 c2] 38)).heap[w3.heap.size]? = some (.cells #[.slice (some ⟨o3, 0, none⟩) N0 cap3] 24 (0, 0)) := acz (acz (boz w3 _) _) _
 have hXs : (((w3.alloc (.cells #[.slice (some ⟨o3, 0, none⟩) N0 cap3] 24)).alloc (.cells #[.slice A1 N0 c1] 24)).alloc (.cells #[.slice A2 N0 c2] 38)).heap[w3.heap.size + 1]? = some (.cells #[.slice A1 N0 c1] 24 (0, 0)) := acz (aPz _ _ _ (by simp)) _
 have hXh : (((w3.alloc (.cells #[.slice (some ⟨o3, 0, none⟩) N0 cap3] 24)).alloc (.cells #[.slice A1 N0 c1] 24)).alloc (.cells #[.slice A2 N0 c2] 38)).heap[w3.heap.size + 1 + 1]? = some (.cells #[.slice A2 N0 c2] 38 (0, 0)) := aPz _ _ _ (by simp)
 have hB4 : Below w3.heap.size w3 (((w3.alloc (.cells #[.slice (some ⟨o3, 0, none⟩) N0 cap3] 24)).alloc (.cells #[.slice A1 N0 c1] 24)).alloc (.cells #[.slice A2 N0 c2] 38)) := bgz (bgz (abz (Below.refl _ _) _) (abz (Below.refl _ _) _)) (abz (Below.refl _ _) _)
 have hsz : (((w3.alloc (.cells #[.slice (some ⟨o3, 0, none⟩) N0 cap3] 24)).alloc (.cells #[.slice A1 N0 c1] 24)).alloc (.cells #[.slice A2 N0 c2] 38)).heap.size = w3.heap.size + 1 + 1 + 1 := by simp
 generalize ((w3.alloc (.cells #[.slice (some ⟨o3, 0, none⟩) N0 cap3] 24)).alloc (.cells #[.slice A1 N0 c1] 24)).alloc (.cells #[.slice A2 N0 c2] 38) = w4 at hX8 hXs hXh hB4 hsz ⊢
 obtain ⟨b, hb⟩ : ∃ b, b = w3.heap.size := ⟨_, rfl⟩
 have hB4' := HB3.out.trans (hB4.mono HB3.out.size)
 have ho3 : o3 < b := hb ▸ Kd.S_lt HO3.out o3 (by simp [Value.ownBlock])
 have ho3b : W.heap.size ≤ o3 := Kd.S_base HO3.out o3 (by simp [Value.ownBlock])
 have HO4 := Aside0.mk (Kd.bWz HO3.out hB4)
 rw [← hb] at hX8 hXs hXh hsz ⊢
 have HX8 := Aside0.mk hX8
 have HXS := Aside0.mk hXs
 have HXH := Aside0.mk hXh
 have HB4 := Aside0.mk hB4'
 have HSZ := Aside0.mk hsz
 have HFS := Aside0.mk (show Kd.F (dM 5 .u8) w4 (fun k => ¬ (k = o3)) A1 l.length l from Kd.a5z (Kd.bsz (C_F (Kd.diz _ (Kd.heap_int _)) HR1.out) (fun k hk _ => hB4'.block k hk)) (fun k hk h => by have : k < W.heap.size := hk; omega))
 have HFH := Aside0.mk (show Kd.F Kd.bool w4 (fun k => ¬ (k = o3)) A2 hv.length hv from Kd.a5z (Kd.bsz (C_F Kd.heap_bool HR2.out) (fun k hk _ => hB4'.block k hk)) (fun k hk h => by have : k < W.heap.size := hk; omega))
 clear hX8 hXs hXh hsz hB4 hB4' hb HO3 HB3
 refine (wpIn_wide (n := 8)).1 ?_
 refine cnz (α := ThX) rfl (by omega) (gf := 93) (lb := #[.pointer (some ⟨b + 1, 0, none⟩), .pointer (some ⟨b + 1 + 1, 0, none⟩)]) rfl trivial (enters_of Tryz.func93 kr_ rfl)
  (there_seq (b + 1) (b + 1 + 1) w4.heap.size N0 c1 c2 (fun k => k = o3) A1 A2 l hv w4 w4 HFS.out HFH.out (Nat.le_refl _) (Nat.le_refl _) ⟨Nat.le_refl _, fun _ _ _ => rfl⟩ HN.out HN2.out (by omega) (by have := HLEN.out; omega) HXS.out HXH.out ⟨by have := HSZ.out; omega, by omega⟩ ⟨by have := HSZ.out; omega, by omega⟩) KpX.trans ?hKb (Below.refl _ _) (fun _ => rfl)
  (fun pre Wx => Kd.S (dM 5 .u8) 34 Wx W.heap.size (fun _ => True) (.slice (some ⟨o3, 0, none⟩) N0 cap3) (setAll (pre.map thK) (d1 ++ q1)) ∧ pre.map thK = T.take pre.length ∧ RX w4.heap.size o3 o3 o3 w4 Wx)
  ?hI ?hHd ?h0 (fun x => { tmps := #[.agg #[.int .i64 p, .int .i64 K, .int .i64 M], .slice A1 N0 c1, .slice A2 N0 c2, .pointer (some ⟨W.heap.size, 0, none⟩), undef, undef, .slice none 0 0, .int .i64 0, .slice Ad nd cd, .int .i64 0, .slice (some ⟨g2, 0, none⟩) nq cq, .pointer (some ⟨b, 0, none⟩), .int .i64 (x.1 : Int), .slice x.2.1 x.2.2.2.length x.2.2.1, .tuple #[.slice Ad nd cd, .int .i64 0], .agg #[.int .i64 p, .int .i64 K, .int .i64 M], .slice A1 N0 c1, .slice A2 N0 c2, .tuple #[.slice Ad nd cd, .int .i64 0], .slice Ad nd cd, .int .i64 0, .int .i64 0, .bool false, undef, .tuple #[.slice (some ⟨g2, 0, none⟩) nq cq, .int .i64 0], .agg #[.int .i64 p, .int .i64 K, .int .i64 M], .slice Ad nd cd, .tuple #[.slice (some ⟨g2, 0, none⟩) nq cq, .int .i64 0], .slice (some ⟨g2, 0, none⟩) nq cq, .int .i64 0, .slice Ad nd cd, .slice (some ⟨g2, 0, none⟩) nq cq, .slice (some ⟨o3, 0, none⟩) N0 cap3, .slice A1 N0 c1, .slice A2 N0 c2, .func (.func 93) #[] #[.pointer (some ⟨b + 1, 0, none⟩), .pointer (some ⟨b + 1 + 1, 0, none⟩)], .int .i64 (x.1 : Int), .slice x.2.1 x.2.2.2.length x.2.2.1, undef, undef, undef, undef, undef, undef, undef], defers := [] }) ?assign ?body ?done
 case hKb => exact fun Wx l o o' hl ho _ => ⟨(grownBy_putObj' Wx l o').size, fun k hk _ => World.putObj_heap_other (by omega)⟩
 case hI =>
  rintro s X Y r ⟨h1, h2, h6⟩ hg hr
  have hr' : ∀ q, r = some q → ∃ o : Obj, X.heap[q]? = some o ∧ o.isCells = false := fun q e => (hr q e).2
  refine ⟨coz h1 (fun q oo hq ho => grownBy_keeps_cells hg hr' hq ho), h2, ⟨hg.os.trans h6.os, hg.tape.trans h6.tape, hg.output.trans h6.output, Nat.le_trans h6.size hg.size, fun k hk q1 q2 q3 => (hg.block k (Nat.lt_of_lt_of_le hk h6.size) (fun e => by have := (hr k e.symm).1; omega)).trans (h6.block k hk q1 q2 q3), fun k o ho hn => (hg.block k (Nat.lt_of_lt_of_le (amz ho) h6.size) (fun e => by have := (hr k e.symm).1; have := amz ho; omega)).trans (h6.walks k o ho hn)⟩⟩
 case hHd =>
  rintro m x - X Y r ⟨h0, h1, h2⟩ hg hr
  exact ⟨h0, h1, Kd.bsz h2 (fun k hk hlt => hg.block k hlt (fun e => by have := (hr k e.symm).1; have := hk.2; omega))⟩
 case h0 => exact ⟨HO4.out, rfl, RX.refl _ _ _ _ _⟩
 case assign =>
  intro l' x Wx K' hK
  gi_wp2
  exact hK
 case body =>
  rintro l' pre ⟨i, A', c', bb⟩ Wx ⟨h1, h2, h6⟩ ⟨hx0, hx1, hx2⟩ hlen
  dsimp only at hx0 hx1 hx2 ⊢
  rw [HTD.out] at hx0 hlen
  have hxm := HTM.out _ (List.mem_of_getElem? hx0)
  obtain ⟨nb, hnb⟩ : ∃ nb, bb.length = nb := ⟨_, rfl⟩
  have HNB := Aside0.mk hnb
  have hi : i < N0 := hxm.1
  have HTK := Aside0.mk (show (pre ++ [((i, A', c', bb) : ThX)]).map thK = T.take (pre ++ [((i, A', c', bb) : ThX)]).length by
   rw [List.map_append, h2, List.length_append, List.length_singleton, List.take_add_one, hx0]
   rfl)
  have HSA := Aside0.mk (show setAll ((pre ++ [((i, A', c', bb) : ThX)]).map thK) (d1 ++ q1) = (setAll (pre.map thK) (d1 ++ q1)).set i bb by
   rw [List.map_append]
   exact setAll_snoc _ _ _)
  have hcl := clone_b.calls A' c' bb Wx.drew (Kd.C_drew (Kd.F_now hx2)) hxm.2
  rw [hnb] at hcl ⊢
  have HCL := Aside0.mk hcl
  have hc8 : Wx.drew.cell? ⟨b, 0, none⟩ = some (.slice (some ⟨o3, 0, none⟩) N0 cap3) := (aaz (h6.blk HX8.out (by have := HSZ.out; omega) (by omega) (by omega) (by omega)) 0).trans rfl
  have HH1 := Aside0.mk h1
  have HH6 := Aside0.mk h6
  have HSX := Aside0.mk (show w4.heap.size ≤ Wx.heap.size from h6.size)
  have i1 : (0 : Int) ≤ (i : Int) := by omega
  have i2 : (i : Int) < (N0 : Int) := by omega
  have hmo : Tryz.prog.follows .mixedOrders = true := by kernel_rfl
  have HFIN := Aside0.mk (show ∀ (w5 : World) (ua : Option Addr) (uc : Nat), Below Wx.heap.size Wx w5 → (Kd.int .u8).R 5 w5 Wx.heap.size (fun _ => True) (.slice ua nb uc) bb →
    ∃ v0, w5.cell? ⟨o3, i, none⟩ = some v0 ∧ w5.frozen? ⟨o3, i, none⟩ = false ∧ KeepsFrom w4.heap.size Wx (w5.setCell ⟨o3, i, none⟩ (.slice ua nb uc)) ∧ KpX w4.heap.size (fun k => k = o3) Wx (w5.setCell ⟨o3, i, none⟩ (.slice ua nb uc)) ∧ (fun pre Wx => Kd.S (dM 5 .u8) 34 Wx W.heap.size (fun _ => True) (.slice (some ⟨o3, 0, none⟩) N0 cap3) (setAll (pre.map thK) (d1 ++ q1)) ∧ pre.map thK = T.take pre.length ∧ RX w4.heap.size o3 o3 o3 w4 Wx) (pre ++ [((i, A', c', bb) : ThX)]) (w5.setCell ⟨o3, i, none⟩ (.slice ua nb uc)) by
   intro w5 ua uc hb5 hu
   obtain ⟨⟨v0, p1⟩, p2, p3⟩ := S_putrow HH1.out (Nat.le_trans HB4.out.size HSX.out) hb5 hu i hi
   have hsc : ∀ k, k ≠ o3 → (w5.setCell ⟨o3, i, none⟩ (.slice ua nb uc)).heap[k]? = w5.heap[k]? := fun k hk => Below.heap_setCell w5 ⟨o3, i, none⟩ (.slice ua nb uc) k hk
   obtain ⟨ocs, hocs⟩ := Kd.cjz HH1.out o3 (by simp [Value.ownBlock])
   have hRX : RX w4.heap.size o3 o3 o3 Wx (w5.setCell ⟨o3, i, none⟩ (.slice ua nb uc)) := ⟨hb5.os, hb5.tape, hb5.output, by simpa using hb5.size, fun k hk e1 _ _ => (hsc k e1).trans (hb5.block k (Nat.lt_of_lt_of_le hk HSX.out)), fun k o ho hn => (hsc k (fun e => by
    subst e
    rw [hocs] at ho; cases ho; cases hn)).trans ((hb5.block k (amz ho)).trans ho)⟩
   exact ⟨v0, p1, p2, ⟨hRX.size, fun k o _ ho hn => hRX.walks k o ho hn⟩, ⟨hRX.size, fun k hk he => hRX.block k hk he he he⟩, by rw [HSA.out]; exact p3, HTK.out, HH6.out.trans hRX⟩)
  clear h1 h2 h6 hx0 hx1 hx2 hlen hxm hcl hnb
  gi_wp2
  refine dpz (m := 6) (S := fun w' => w'.cell? ⟨b, 0, none⟩ = some (.slice (some ⟨o3, 0, none⟩) N0 cap3)) (ds := [5]) (bA 6 0) kr_ rfl rfl kr_ (by rintro ⟨_, _, h⟩; exact h) (hc8) (fun hHeld => ?_)
  refine pu_ 1 39 2 ?_
  refine pu_ 2 40 6 ?_
  refine tk_ 0 38 7 hHeld ?_
  refine one_ (i := 3) (N := some 41) (bA 6 15) rfl rfl kr_ (by decide) (fun K hK => ?_)
  refine goes_ Tryz.func65 kr_ rfl #[.slice A' nb c'] (by rfl) rfl rfl am_ ?_
  with_reducible refine (HCL.out).mono ?_
  rintro e w5 ⟨u, rfl, hu, hb5⟩
  refine ⟨_, rfl, ?_⟩
  obtain ⟨ua, uc, rfl⟩ := Kd.aKz hu
  rw [HNB.out] at hu ⊢
  have hb5 := Below.trans (bKz (Below.refl Wx.heap.size Wx)) hb5
  obtain ⟨v0, p1, p2, p3⟩ := HFIN.out w5 ua uc hb5 hu
  have P3 := Aside0.mk p3
  have hc8' := ahz (show Below Wx.heap.size Wx w5 from hb5) hc8
  clear p3 hu hb5
  refine hK.out _ _ (hc8') (fun hHeld => ?_)
  clear hK K
  refine norm_ (a' := ?_) ?_ ?_
  rotate_left
  ·show Act.put _ (some 41) _ = _
   simp only [Act.put, List.setIfInBounds_toArray, List.set_cons_zero, List.set_cons_succ, i64_w, i32_w]
   rfl
  refine pu_ 4 42 31 ?_
  refine last_ (i := 5) (N := none) (bA 6 63) rfl rfl kr_ (by decide) (fun K hK => ?_)
  refine skip_ (w1 := ?_) (by rfl) rfl ?_ ?_
  rotate_left
  ·go_simp
   rfl
  refine hK.out _ _ ?_
  clear hK K
  refine done_ kr_ ?_
  exact P3.out
 case done =>
  rintro D xs Wx hD hxs ⟨h1, h2, h6⟩ hDd
  rw [hxs] at h1
  have HFN := Aside0.mk h1
  have hB := HB4.out.trans (show Below W.heap.size w4 Wx from ⟨h6.os, h6.tape, h6.output, h6.size, fun k hk => h6.block k (by have := HSZ.out; omega) (by omega) (by omega) (by omega)⟩)
  have HBX := Aside0.mk hB
  have hc8 : Wx.cell? ⟨b, 0, none⟩ = some (.slice (some ⟨o3, 0, none⟩) N0 cap3) := (aaz (h6.blk HX8.out (by have := HSZ.out; omega) (by omega) (by omega) (by omega)) 0).trans rfl
  have HDD := Aside0.mk hDd
  have HDN := Aside0.mk hD
  clear h1 h2 h6 hDd hD hB hxs
  simp only [Exit.inBlock, Exit.then]
  go_wp2
  refine bbz [D] Wx (by simp) (fun D' hD' => by rw [List.mem_singleton] at hD'; rw [hD']; exact HDD.out) (fun w' hkp hsz hos htp hou => ?_)
  have hcc : ∀ (q : Nat) (oo : Obj), Wx.heap[q]? = some oo → oo.isCells = true → w'.heap[q]? = Wx.heap[q]? := fun q oo hq ho => hkp q (amz hq) (fun hm => by
   rw [List.mem_singleton] at hm
   subst hm
   rw [HDD.out] at hq; cases hq; cases ho)
  exact ⟨_, results_tmp2 rfl _ _ _, _, rfl, coz HFN.out hcc, hos.trans HBX.out.os, htp.trans HBX.out.tape, hou.trans HBX.out.output, by rw [hsz]; exact HBX.out.size, fun q hq => (hkp q (Nat.lt_of_lt_of_le hq HBX.out.size) (fun hm => by
   rw [List.mem_singleton] at hm
   have := HDN.out; have := HB4.out.size
   omega)).trans (HBX.out.block q hq)⟩
theorem aOz.calls (k : Nat) (a0_0 a0_1 a0_2 : Int) (A1 : Option Addr) (c1 : Nat) (l1 : List (List Int)) (A2 : Option Addr) (c2 : Nat) (l2 : List Bool) (r1 : List (List Int)) (r2 : Int) (w : World) (hr1 : Kd.C (Kd.slice 5 (Kd.int .u8)) w A1 l1.length l1) (hc1 : l1.length ≤ c1) (hr2 : Kd.C Kd.bool w A2 l2.length l2) (hc2 : l2.length ≤ c2) (h : aOz.f k a0_0 a0_1 a0_2 l1 l2 = some (r1, r2)) :
  Calls Tryz.prog 29 #[.agg #[.int .i64 a0_0, .int .i64 a0_1, .int .i64 a0_2], .slice A1 l1.length c1, .slice A2 l2.length c2] w fun e w' => ∃ v0_ : Value, e = .returned (.tuple #[v0_, .int .i64 r2]) ∧ Kd.S (Kd.slice 5 (Kd.int .u8)) 34 w' w.heap.size (fun _ => True) v0_ r1 ∧ Below w.heap.size w w' := by
 unfold aOz.f at h
 obtain ⟨⟨d1, d2⟩, hd, h⟩ := Option.bind_eq_some_iff.1 h
 dsimp only at h
 by_cases h0 : d2 = 0
 ·subst h0
  rw [if_pos rfl] at h
  obtain ⟨⟨q1, q2⟩, hq, h⟩ := Option.bind_eq_some_iff.1 h
  unfold aOz.g at h
  dsimp only at h
  have cut : ∀ {p : Prop} [Decidable p] {a : Option (List (List Int) × Int)}, (if p then a else none) = some (r1, r2) → p ∧ a = some (r1, r2) := by
   intro p _ a hh
   by_cases hp : p
   ·rw [if_pos hp] at hh; exact ⟨hp, hh⟩
   ·rw [if_neg hp] at hh; cases hh
  obtain ⟨e1, h⟩ := cut h
  obtain ⟨e2, h⟩ := cut h
  obtain ⟨e3, h⟩ := cut h
  obtain ⟨e4, h⟩ := cut h
  obtain ⟨e5, h⟩ := cut h
  simp only [Option.some.injEq, Prod.mk.injEq] at h
  obtain ⟨rfl, rfl⟩ := h
  subst e1
  have hsm : ∀ r, r ∈ l1 → r.length ≤ 1000000 := by
   simp only [alz.small, Bool.and_eq_true, decide_eq_true_eq, List.all_eq_true] at e5
   exact e5.2
  have := aOz.go k a0_0 a0_1 a0_2 l1.length A1 A2 c1 c2 l1 l2 d1 q1 w hd hq rfl e3 (by rw [← List.length_append]; exact e2) e4.1 e4.2.1 e4.2.2 hsm hr1 hc1 hr2 hc2
  rw [← e3] at this ⊢
  rw [e3] at this ⊢
  exact this
 ·rw [if_neg h0] at h
  simp only [Option.some.injEq, Prod.mk.injEq] at h
  obtain ⟨rfl, rfl⟩ := h
  refine (aOz.bad k a0_0 a0_1 a0_2 A1 A2 c1 c2 l1 l2 d1 d2 w hd h0 hr1 hc1 hr2 hc2).mono ?_
  rintro e w' ⟨rfl, hB⟩
  exact ⟨_, rfl, Kd.S_nil _ _ _ _ _, hB⟩
end Go.Proofs.YtpdakdcmahlghaaGreat.XCo
end
section
namespace Go.Proofs.YtpdakdcmahlghaaGreat.XCo
open Go.RowKit Go.Proofs.YtpdakdcmahlghaaGreatW.PrintWords Go.Proofs.YtpdakdcmahlghaaGreatW.PrintLast Go.Proofs.YtpdakdcmahlghaaGreatW.PrintMore
attribute [local go_sem] axz ayz aDz aEz apz aqz azz aAz
set_option linter.unusedVariables false
set_option linter.unusedSimpArgs false
def bfz.f (_ : Nat) : Option (Bool) := some true
theorem awake12.one : aOz.f 40 1 2 1 [[], [97, 98], [99, 100]] [false, true, true] = some ([[2, 6], [97, 98], [99, 100]], 0) := by kernel_rfl
theorem awake12.two : aOz.f 40 1 2 1 [[], [], [99, 100]] [false, false, true] = some ([], 5) := by kernel_rfl
theorem C_cells {W : World} {g : Nat} {vs : List Value} {xs : List (List Int)} (h : W.heap[g]? = some (.cells vs.toArray 34 (0, 0))) (hl : xs.length ≤ 1000) (hk : ∀ (j : Nat) (x : List Int), xs[j]? = some x → ∃ (A : Option Addr) (c : Nat), vs[j]? = some (.slice A x.length c) ∧ x.length ≤ c ∧ Kd.C (Kd.int .u8) W A x.length x) :
  Kd.C (Kd.slice 5 (Kd.int .u8)) W (some ⟨g, 0, none⟩) xs.length xs := by
 refine ⟨rfl, by omega, fun _ => ⟨_, rfl, fun j p hp => ?_⟩⟩
 obtain ⟨A, c, hv, hc, hC⟩ := hk j p hp
 refine ⟨[.slice A p.length c], rfl, ⟨A, c, rfl, hc, hC⟩, fun i u hu => ?_⟩
 cases i with
 | succ i => simp at hu
 | zero =>
  obtain rfl : Value.slice A p.length c = u := by simpa using hu
  rw [show (⟨g, 0, none⟩ : Addr).add (j * (Kd.slice 5 (Kd.int .u8)).sz + 0) = ⟨g, j, none⟩ from by
   show (⟨g, 0, none⟩ : Addr).add (j * 1 + 0) = _
   unfold Addr.add
   split <;> simp_all, aaz h j]
  simpa using hv
theorem C_bools {W : World} {g : Nat} {t : TypeId} {xs : List Bool} (h : W.heap[g]? = some (.cells (xs.map Value.bool).toArray t (0, 0))) (hl : xs.length ≤ 1000) : Kd.C Kd.bool W (some ⟨g, 0, none⟩) xs.length xs := by
 refine ⟨rfl, by omega, fun _ => ⟨_, rfl, fun j p hp => ⟨[.bool p], rfl, rfl, fun i u hu => ?_⟩⟩⟩
 cases i with
 | succ i => simp at hu
 | zero =>
  obtain rfl : Value.bool p = u := by simpa using hu
  rw [show (⟨g, 0, none⟩ : Addr).add (j * Kd.bool.sz + 0) = ⟨g, j, none⟩ from by
   show (⟨g, 0, none⟩ : Addr).add (j * 1 + 0) = _
   unfold Addr.add
   split <;> simp_all, aaz h j]
  simp [hp]
theorem C_nil8 (W : World) : Kd.C (Kd.int .u8) W none 0 [] := ⟨rfl, by omega, fun h => absurd h (by omega)⟩
set_option maxRecDepth 100000 in
set_option maxHeartbeats 4000000 in
theorem bfz.calls (k : Nat) (r : Bool) (w : World) (h : bfz.f k = some r) :
  Calls Tryz.prog 26 #[] w fun e w' => e = .returned (.bool r) ∧ Below w.heap.size w w' := by
  obtain rfl : true = r := by injection h
  clear h
  have kc := fun (w : World) (C : Array Value) (n c : Nat) => Lib.run_convert_bytes_const (P := Tryz.prog) w 34 5 C n c Tryz.underlying34 Tryz.underlying5
  have kd : ∀ (W : World) (o : Obj) (C : Array Value) (n c : Nat), Sem.run Tryz.prog (convert 34 34 (.slice (some ⟨W.heap.size + 1, 0, none⟩) n c)) ((W.alloc o).alloc (.cells C 5)) = Result.ok (.slice (some ⟨W.heap.size + 1, 0, none⟩) n c) ((W.alloc o).alloc (.cells C 5 (C.size, C.size + 1))) := fun W o C n c => by
    have h := kc (W.alloc o) C n c
    rw [World.size_alloc] at h
    exact h
  have ke : ∀ (W : World) (o o' : Obj) (C : Array Value) (n c : Nat), Sem.run Tryz.prog (convert 34 34 (.slice (some ⟨W.heap.size + 1 + 1, 0, none⟩) n c)) (((W.alloc o).alloc o').alloc (.cells C 5)) = Result.ok (.slice (some ⟨W.heap.size + 1 + 1, 0, none⟩) n c) (((W.alloc o).alloc o').alloc (.cells C 5 (C.size, C.size + 1))) := fun W o o' C n c => by
    have h := kc ((W.alloc o).alloc o') C n c
    rw [World.size_alloc, World.size_alloc] at h
    exact h
  have HR1 := Aside0.mk (fun (W : World) (A B : Option Addr) (hr : Kd.C (Kd.slice 5 (Kd.int .u8)) W A 3 [[], [97, 98], [99, 100]]) (hb : Kd.C Kd.bool W B 3 [false, true, true]) => aOz.calls 40 1 2 1 A 3 [[], [97, 98], [99, 100]] B 3 [false, true, true] [[2, 6], [97, 98], [99, 100]] 0 W hr (by decide) hb (by decide) awake12.one)
  have HR2 := Aside0.mk (fun (W : World) (A B : Option Addr) (hr : Kd.C (Kd.slice 5 (Kd.int .u8)) W A 3 [[], [], [99, 100]]) (hb : Kd.C Kd.bool W B 3 [false, false, true]) => aOz.calls 40 1 2 1 A 3 [[], [], [99, 100]] B 3 [false, false, true] [] 5 W hr (by decide) hb (by decide) awake12.two)
  have hu := Tryz.underlying23
  go_enter Tryz.func26, Tryz.ntmps26
  go_wp2_with fail
  have hX0 : (((((w.alloc (.cells #[.int .i64 1, .int .i64 2, .int .i64 1] 23)).alloc (.cells #[.int .u8 97, .int .u8 98] 5 (2, 3))).alloc (.cells #[.int .u8 99, .int .u8 100] 5 (2, 3))).alloc (.cells #[.slice none 0 0, .slice (some ⟨w.heap.size + 1, 0, none⟩) 2 2, .slice (some ⟨w.heap.size + 1 + 1, 0, none⟩) 2 2] 34)).alloc (.cells #[.bool false, .bool true, .bool true] 4)).heap[w.heap.size]? = some (.cells #[.int .i64 1, .int .i64 2, .int .i64 1] 23) := acz (acz (acz (acz (boz w _) _) _) _) _
  have hX1 : (((((w.alloc (.cells #[.int .i64 1, .int .i64 2, .int .i64 1] 23)).alloc (.cells #[.int .u8 97, .int .u8 98] 5 (2, 3))).alloc (.cells #[.int .u8 99, .int .u8 100] 5 (2, 3))).alloc (.cells #[.slice none 0 0, .slice (some ⟨w.heap.size + 1, 0, none⟩) 2 2, .slice (some ⟨w.heap.size + 1 + 1, 0, none⟩) 2 2] 34)).alloc (.cells #[.bool false, .bool true, .bool true] 4)).heap[w.heap.size + 1]? = some (.cells #[.int .u8 97, .int .u8 98] 5 (2, 3)) := acz (acz (acz (aPz _ _ _ (by simp)) _) _) _
  have hX2 : (((((w.alloc (.cells #[.int .i64 1, .int .i64 2, .int .i64 1] 23)).alloc (.cells #[.int .u8 97, .int .u8 98] 5 (2, 3))).alloc (.cells #[.int .u8 99, .int .u8 100] 5 (2, 3))).alloc (.cells #[.slice none 0 0, .slice (some ⟨w.heap.size + 1, 0, none⟩) 2 2, .slice (some ⟨w.heap.size + 1 + 1, 0, none⟩) 2 2] 34)).alloc (.cells #[.bool false, .bool true, .bool true] 4)).heap[w.heap.size + 1 + 1]? = some (.cells #[.int .u8 99, .int .u8 100] 5 (2, 3)) := acz (acz (aPz _ _ _ (by simp)) _) _
  have hX3 : (((((w.alloc (.cells #[.int .i64 1, .int .i64 2, .int .i64 1] 23)).alloc (.cells #[.int .u8 97, .int .u8 98] 5 (2, 3))).alloc (.cells #[.int .u8 99, .int .u8 100] 5 (2, 3))).alloc (.cells #[.slice none 0 0, .slice (some ⟨w.heap.size + 1, 0, none⟩) 2 2, .slice (some ⟨w.heap.size + 1 + 1, 0, none⟩) 2 2] 34)).alloc (.cells #[.bool false, .bool true, .bool true] 4)).heap[w.heap.size + 1 + 1 + 1]? = some (.cells #[.slice none 0 0, .slice (some ⟨w.heap.size + 1, 0, none⟩) 2 2, .slice (some ⟨w.heap.size + 1 + 1, 0, none⟩) 2 2] 34) := acz (aPz _ _ _ (by simp)) _
  have hX4 : (((((w.alloc (.cells #[.int .i64 1, .int .i64 2, .int .i64 1] 23)).alloc (.cells #[.int .u8 97, .int .u8 98] 5 (2, 3))).alloc (.cells #[.int .u8 99, .int .u8 100] 5 (2, 3))).alloc (.cells #[.slice none 0 0, .slice (some ⟨w.heap.size + 1, 0, none⟩) 2 2, .slice (some ⟨w.heap.size + 1 + 1, 0, none⟩) 2 2] 34)).alloc (.cells #[.bool false, .bool true, .bool true] 4)).heap[w.heap.size + 1 + 1 + 1 + 1]? = some (.cells #[.bool false, .bool true, .bool true] 4) := aPz _ _ _ (by simp)
  have hB : Below w.heap.size w (((((w.alloc (.cells #[.int .i64 1, .int .i64 2, .int .i64 1] 23)).alloc (.cells #[.int .u8 97, .int .u8 98] 5 (2, 3))).alloc (.cells #[.int .u8 99, .int .u8 100] 5 (2, 3))).alloc (.cells #[.slice none 0 0, .slice (some ⟨w.heap.size + 1, 0, none⟩) 2 2, .slice (some ⟨w.heap.size + 1 + 1, 0, none⟩) 2 2] 34)).alloc (.cells #[.bool false, .bool true, .bool true] 4)) := abz (abz (abz (abz (abz (Below.refl _ _) _) _) _) _) _
  generalize ((((w.alloc (.cells #[.int .i64 1, .int .i64 2, .int .i64 1] 23)).alloc (.cells #[.int .u8 97, .int .u8 98] 5 (2, 3))).alloc (.cells #[.int .u8 99, .int .u8 100] 5 (2, 3))).alloc (.cells #[.slice none 0 0, .slice (some ⟨w.heap.size + 1, 0, none⟩) 2 2, .slice (some ⟨w.heap.size + 1 + 1, 0, none⟩) 2 2] 34)).alloc (.cells #[.bool false, .bool true, .bool true] 4) = w0 at hX0 hX1 hX2 hX3 hX4 hB ⊢
  have hcc := C_cells (vs := [.slice none 0 0, .slice (some ⟨w.heap.size + 1, 0, none⟩) 2 2, .slice (some ⟨w.heap.size + 1 + 1, 0, none⟩) 2 2]) (xs := [[], [97, 98], [99, 100]]) hX3 (by decide) (fun j x hx => by
    match j, hx with
    | 0, hx => obtain rfl : [] = x := by simpa using hx
               exact ⟨none, 0, rfl, Nat.le_refl _, C_nil8 _⟩
    | 1, hx => obtain rfl : [97, 98] = x := by simpa using hx
               exact ⟨_, 2, rfl, Nat.le_refl _, C_numsF (xs := [97, 98]) (fr := (2, 3)) hX1 (by decide)⟩
    | 2, hx => obtain rfl : [99, 100] = x := by simpa using hx
               exact ⟨_, 2, rfl, Nat.le_refl _, C_numsF (xs := [99, 100]) (fr := (2, 3)) hX2 (by decide)⟩
    | j + 3, hx => simp at hx)
  refine (HR1.out w0 _ _ hcc (C_bools (xs := [false, true, true]) hX4 (by decide))).mono ?_
  rintro e w1 ⟨v, rfl, s1, b1⟩
  have HB1 := Aside0.mk (hB.trans (b1.mono hB.size))
  have HX1 := Aside0.mk (agz hX0 b1)
  obtain ⟨gg, c, rfl, -, -, -⟩ := Kd.N_form (Kd.S_N s1) (by decide)
  obtain ⟨-, hc, hC⟩ := Kd.bQz (Kd.S_N s1)
  have HC := Aside0.mk hC
  obtain ⟨ad, A2, c2, he, e2, -, C2⟩ := a7z hC 0 [2, 6] rfl
  obtain rfl := Option.some.inj he
  rw [bBz] at e2
  have HE2 := Aside0.mk e2
  have HC2 := Aside0.mk C2
  have hl3 : ([[2, 6], [97, 98], [99, 100]] : List (List Int)).length = 3 := rfl
  rw [hl3] at HC hc ⊢
  have hx0 : w1.cell? ⟨w.heap.size, 0, none⟩ = some (.int .i64 1) := (aaz HX1.out 0).trans rfl
  have hx1 : w1.cell? ⟨w.heap.size, 1, none⟩ = some (.int .i64 2) := (aaz HX1.out 1).trans rfl
  have hx2 : w1.cell? ⟨w.heap.size, 2, none⟩ = some (.int .i64 1) := (aaz HX1.out 2).trans rfl
  clear hX0 hX1 hX2 hX3 hX4 hB hcc s1 b1 hC he C2 e2 HR1 hl3
  go_wp2_with fail
  have hY1 : (((w1.alloc (.cells #[.int .u8 99, .int .u8 100] 5 (2, 3))).alloc (.cells #[.slice none 0 0, .slice none 0 0, .slice (some ⟨w1.heap.size, 0, none⟩) 2 2] 34)).alloc (.cells #[.bool false, .bool false, .bool true] 4)).heap[w1.heap.size]? = some (.cells #[.int .u8 99, .int .u8 100] 5 (2, 3)) := acz (acz (boz w1 _) _) _
  have hY2 : (((w1.alloc (.cells #[.int .u8 99, .int .u8 100] 5 (2, 3))).alloc (.cells #[.slice none 0 0, .slice none 0 0, .slice (some ⟨w1.heap.size, 0, none⟩) 2 2] 34)).alloc (.cells #[.bool false, .bool false, .bool true] 4)).heap[w1.heap.size + 1]? = some (.cells #[.slice none 0 0, .slice none 0 0, .slice (some ⟨w1.heap.size, 0, none⟩) 2 2] 34) := acz (aPz _ _ _ (by simp)) _
  have hY3 : (((w1.alloc (.cells #[.int .u8 99, .int .u8 100] 5 (2, 3))).alloc (.cells #[.slice none 0 0, .slice none 0 0, .slice (some ⟨w1.heap.size, 0, none⟩) 2 2] 34)).alloc (.cells #[.bool false, .bool false, .bool true] 4)).heap[w1.heap.size + 1 + 1]? = some (.cells #[.bool false, .bool false, .bool true] 4) := aPz _ _ _ (by simp)
  have hB3 : Below w1.heap.size w1 (((w1.alloc (.cells #[.int .u8 99, .int .u8 100] 5 (2, 3))).alloc (.cells #[.slice none 0 0, .slice none 0 0, .slice (some ⟨w1.heap.size, 0, none⟩) 2 2] 34)).alloc (.cells #[.bool false, .bool false, .bool true] 4)) := abz (abz (abz (Below.refl _ _) _) _) _
  generalize ((w1.alloc (.cells #[.int .u8 99, .int .u8 100] 5 (2, 3))).alloc (.cells #[.slice none 0 0, .slice none 0 0, .slice (some ⟨w1.heap.size, 0, none⟩) 2 2] 34)).alloc (.cells #[.bool false, .bool false, .bool true] 4) = w3 at hY1 hY2 hY3 hB3 ⊢
  have hcc := C_cells (vs := [.slice none 0 0, .slice none 0 0, .slice (some ⟨w1.heap.size, 0, none⟩) 2 2]) (xs := [[], [], [99, 100]]) hY2 (by decide) (fun j x hx => by
    match j, hx with
    | 0, hx => obtain rfl : [] = x := by simpa using hx
               exact ⟨none, 0, rfl, Nat.le_refl _, C_nil8 _⟩
    | 1, hx => obtain rfl : [] = x := by simpa using hx
               exact ⟨none, 0, rfl, Nat.le_refl _, C_nil8 _⟩
    | 2, hx => obtain rfl : [99, 100] = x := by simpa using hx
               exact ⟨_, 2, rfl, Nat.le_refl _, C_numsF (xs := [99, 100]) (fr := (2, 3)) hY1 (by decide)⟩
    | j + 3, hx => simp at hx)
  refine (HR2.out w3 _ _ hcc (C_bools (xs := [false, false, true]) hY3 (by decide))).mono ?_
  rintro e w4 ⟨v4, rfl, s4, b4⟩
  obtain ⟨A4, c4, rfl⟩ := Kd.aKz (Kd.S_R s4)
  have hB4 := hB3.trans (b4.mono hB3.size)
  have HB4 := Aside0.mk (HB1.out.trans (hB4.mono HB1.out.size))
  have hst := Kd.C_string (P := Tryz.prog) (c := c2) Tryz.underlying34 Tryz.underlying5 Tryz.underlying9 (Kd.aGz HC2.out hB4)
  have hss : (strOfNums [2, 6] : ByteArray) = ⟨#[2, 6]⟩ := by kernel_rfl
  rw [hss] at hst
  have e2 : w4.cell? ⟨gg, 0, none⟩ = some (.slice A2 ([2, 6] : List Int).length c2) := ahz hB4 HE2.out
  have hl2 : ([2, 6] : List Int).length = 2 := rfl
  rw [hl2] at hst e2
  clear hY1 hY2 hY3 hB3 hcc s4 b4 hB4 HR2 kc kd ke hx0 hx1 hx2 hss hl2
  go_wp2
  go_ret
  exact ⟨rfl, HB4.out⟩
def akz.j0 : Nat → Bool → List (List Int) → Bool → Int → Int → Int → Int → Int → Int → Option (Bool)
 | 0, _, _, _, _, _, _, _, _, _ => none
 | k + 1, x7, x9, x40, x388000, x388001, x388002, x393000, x393001, x393002 => if x40 = true then (some false) else (if x393001 = 0 then (none) else ((aez.f k (x9.length : Int) (wrap64 ((wrap64 (x393002 + 1)) + (Int.tmod (wrap64 (x388000)) x393001))) (wrap64 (x388001)) (wrap64 (x388002))).bind fun t397 => ((aOz.f k x393000 x393001 x393002 x9 t397).bind fun bt400 => ((aoz.f k x393000 x393001 x393002 x9 t397).bind fun bt404 => (if x7 = true then (if bt400.2 = 5 then (if bt404.2 = 5 then (if (bt400.1.length : Int) = 0 then (some ((bt404.1.length : Int) == 0)) else (some false)) else (some false)) else (some false)) else (some false))))))
def akz.f (k : Nat) (a0_0 : Int) (a0_1 : Int) (a0_2 : Int) (l1 : List Int) (a2_0 : Int) (a2_1 : Int) (a2_2 : Int) : Option (Bool) := (bfz.f k).bind fun t388 => (if (l1.length : Int) > 300 then (some t388) else ((baz.f a0_0 a0_1 a0_2).bind fun bt389 => ((bFz.f k bt389.1 bt389.2.1 bt389.2.2 l1).bind fun bt393 => (if bt393.2 = 0 then (akz.j0 k t388 bt393.1 ((bt393.1.length : Int) != (wrap64 (bt389.2.1 + bt389.2.2))) a2_0 a2_1 a2_2 bt389.1 bt389.2.1 bt389.2.2) else (akz.j0 k t388 bt393.1 true a2_0 a2_1 a2_2 bt389.1 bt389.2.1 bt389.2.2)))))
def akz.T8 : Bool × List (List Nat × List Nat) := (true, [([], []), ([0], [0]), ([], []), ([2], [2]), ([3], [3]), ([], []), ([5], [5]), ([6], [6]), ([], []), ([8], [8]), ([7, 9], [7, 9]), ([4, 10], [4, 10]), ([], []), ([12], [12]), ([13], [13]), ([], []), ([15], [15]), ([16], [16]), ([1, 11, 14, 17], [1, 11, 14, 17]), ([18, 18, 0, 1, 2, 3, 4, 5, 6, 7, 8, 9, 10, 11, 12, 13, 14, 15, 16, 17, 18], [18])])
def akz.B8 : List Nat := [0, 1, 0, 4, 12, 0, 32, 96, 0, 256, 992, 2044, 0, 4096, 12288, 0, 32768, 98304, 262143, 524287]
theorem akz.tab8 : rtab .any (opsOf Tryz.f15 8) = akz.T8 := by kernel_rfl
theorem akz.bits8 : waitsOk akz.T8.2 akz.B8 = true := by kernel_rfl
set_option maxHeartbeats 8000000 in
set_option maxRecDepth 100000 in
theorem akz.calls (k : Nat) (a0_0 : Int) (a0_1 : Int) (a0_2 : Int) (A1 : Option Addr) (c1 : Nat) (l1 : List Int) (a2_0 : Int) (a2_1 : Int) (a2_2 : Int) (r : Bool) (w : World) (hr_ : Aside0 (r = true)) (hr1 : Kd.C (Kd.int .u8) w A1 l1.length l1) (hc1 : l1.length ≤ c1) (h : akz.f k a0_0 a0_1 a0_2 l1 a2_0 a2_1 a2_2 = some r) :
  Calls Tryz.prog 15 #[.agg #[.int .u8 a0_0, .int .u8 a0_1, .int .u8 a0_2], .slice A1 l1.length c1, .agg #[.int .u8 a2_0, .int .u8 a2_1, .int .u8 a2_2]] w fun e w' => e = .returned (.bool r) ∧ Below w.heap.size w w' := by
 have hu42 := Tryz.underlying42
 have hu23 := Tryz.underlying23
 have HR1 := Aside0.mk hr1
 have HC1 := Aside0.mk hc1
 clear hr1 hc1
 have HB := Aside0.mk (Below.refl w.heap.size w)
 have H := h
 clear h
 unfold akz.f at H
 obtain ⟨t388, A4, H⟩ := ob_ H
 (try dsimp only at H)
 by_cases c5 : (l1.length : Int) > 300
 ·rw [if_pos c5] at H
  have c5b0 : decide (300 < (l1.length : Int)) = true := decide_eq_true c5
  have c5b1 : decide (300 < l1.length) = true := decide_eq_true (by omega)
  clear c5
  obtain rfl := Option.some.inj H
  go_enter Tryz.func15, Tryz.ntmps15
  go_wp2_with (first | ((with_reducible refine avz (N := 3) rfl ?_); (try (refine bkz (by rfl) ?_; dsimp only)); refine bx_ 3 #[.int .u8 a0_0, .int .u8 a0_1, .int .u8 a0_2] 42 ?_; intro gb386 hg w6 hbox hb; have n_ := And.intro (hs_ HB hb) (And.intro (Aside0.mk (hbox)) (And.intro (ag_ HB gb386) (ag_ HB gb386))); clear HB; obtain ⟨HB, BK386, GW386, GE386⟩ := n_; clear hb hbox hg) | ((with_reducible refine avz (N := 5) rfl ?_); (try (refine bkz (by rfl) ?_; dsimp only)); refine bx_ 5 #[.int .u8 a2_0, .int .u8 a2_1, .int .u8 a2_2] 42 ?_; intro gb387 hg w7 hbox hb; have n_ := And.intro (bb_ BK386 hb) (And.intro (hs_ HB hb) (And.intro (Aside0.mk (hbox)) (And.intro (ag_ HB gb387) (And.intro (ag_ HB gb387) (And.intro (n1_ BK386 gb387) (n2_ BK386 gb387)))))); clear BK386 HB; obtain ⟨BK386, HB, BK387, GW387, GE387, NB386_387, NB387_386⟩ := n_; clear hb hbox hg) | ((with_reducible refine ajz (f := 26) rfl ?_); refine gl_ (some 16) Tryz.func26 #[] ?_; (with_reducible refine (bfz.calls k  t388 _ A4.out).mono ?_); rintro e w8 ⟨rfl, hb⟩; refine ⟨_, rfl, ?_⟩; have n_ := And.intro (bb_ BK386 hb) (And.intro (bb_ BK387 hb) (hs_ HB hb)); clear BK386 BK387 HB; obtain ⟨BK386, BK387, HB⟩ := n_; (try clear hb)))
  go_ret
  exact ⟨er_, bl_⟩
 ·rw [if_neg c5] at H
  have c5b0 : decide (300 < (l1.length : Int)) = false := decide_eq_false c5
  have c5b1 : decide (300 < l1.length) = false := decide_eq_false (by omega)
  clear c5
  obtain ⟨⟨t389, t390, t391⟩, A9, H⟩ := ob_ H
  (try dsimp only at H)
  obtain ⟨⟨t393, t396⟩, A10, H⟩ := ob_ H
  (try dsimp only at H)
  have HC11 := Aside0.mk H
  clear H
  go_enter Tryz.func15, Tryz.ntmps15
  go_upto_region 6 with (first | ((with_reducible refine avz (N := 3) rfl ?_); (try (refine bkz (by rfl) ?_; dsimp only)); refine bx_ 3 #[.int .u8 a0_0, .int .u8 a0_1, .int .u8 a0_2] 42 ?_; intro gb386 hg w12 hbox hb; have n_ := And.intro (hs_ HB hb) (And.intro (Aside0.mk (hbox)) (And.intro (ag_ HB gb386) (ag_ HB gb386))); clear HB; obtain ⟨HB, BK386, GW386, GE386⟩ := n_; clear hb hbox hg) | ((with_reducible refine avz (N := 5) rfl ?_); (try (refine bkz (by rfl) ?_; dsimp only)); refine bx_ 5 #[.int .u8 a2_0, .int .u8 a2_1, .int .u8 a2_2] 42 ?_; intro gb387 hg w13 hbox hb; have n_ := And.intro (bb_ BK386 hb) (And.intro (hs_ HB hb) (And.intro (Aside0.mk (hbox)) (And.intro (ag_ HB gb387) (And.intro (ag_ HB gb387) (And.intro (n1_ BK386 gb387) (n2_ BK386 gb387)))))); clear BK386 HB; obtain ⟨BK386, HB, BK387, GW387, GE387, NB386_387, NB387_386⟩ := n_; clear hb hbox hg) | ((with_reducible refine ajz (f := 26) rfl ?_); refine gl_ (some 16) Tryz.func26 #[] ?_; (with_reducible refine (bfz.calls k  t388 _ A4.out).mono ?_); rintro e w14 ⟨rfl, hb⟩; refine ⟨_, rfl, ?_⟩; have n_ := And.intro (bb_ BK386 hb) (And.intro (bb_ BK387 hb) (hs_ HB hb)); clear BK386 BK387 HB; obtain ⟨BK386, BK387, HB⟩ := n_; (try clear hb); have hnb15 := NB386_387.out; have hnc15 := NB387_386.out; obtain ⟨hcz16_0, hfz16_0, hcz16_1, hfz16_1, hcz16_2, hfz16_2⟩ := bc3_ BK386.out) | ((with_reducible refine ajz (f := 31) rfl ?_); refine gl_ (some 22) Tryz.func31 #[.agg #[.int .u8 a0_0, .int .u8 a0_1, .int .u8 a0_2]] ?_; (with_reducible refine (baz.calls a0_0 a0_1 a0_2 t389 t390 t391 _ A9.out).mono ?_); rintro e w17 ⟨rfl, hb⟩; refine ⟨_, rfl, ?_⟩; have n_ := And.intro (bb_ BK386 hb) (And.intro (bb_ BK387 hb) (hs_ HB hb)); clear BK386 BK387 HB; obtain ⟨BK386, BK387, HB⟩ := n_; (try clear hb)) | ((with_reducible refine avz (N := 8) rfl ?_); (try (refine bkz (by rfl) ?_; dsimp only)); refine bx_ 8 #[.int .i64 0, .int .i64 0, .int .i64 0] 23 ?_; intro gb392 hg w18 hbox hb; have n_ := And.intro (bb_ BK386 hb) (And.intro (bb_ BK387 hb) (And.intro (hs_ HB hb) (And.intro (Aside0.mk (hbox)) (And.intro (ag_ HB gb392) (And.intro (ag_ HB gb392) (And.intro (n1_ BK386 gb392) (And.intro (n2_ BK386 gb392) (And.intro (n1_ BK387 gb392) (n2_ BK387 gb392))))))))); clear BK386 BK387 HB; obtain ⟨BK386, BK387, HB, BK392, GW392, GE392, NB386_392, NB392_386, NB387_392, NB392_387⟩ := n_; clear hb hbox hg; have hnb19 := NB392_386.out; have hnc19 := NB386_392.out; have hnb20 := NB392_387.out; have hnc20 := NB387_392.out; obtain ⟨hcz21_0, hfz21_0, hcz21_1, hfz21_1, hcz21_2, hfz21_2⟩ := bc3_ BK392.out) | ((with_reducible refine ajz (f := 24) rfl ?_); refine gl_ (some 26) Tryz.func24 #[.agg #[.int .i64 t389, .int .i64 t390, .int .i64 t391], .slice A1 l1.length c1] ?_; (with_reducible refine (bFz.calls k t389 t390 t391 _ _ l1 t393 t396 _ (Kd.aGz HR1.out bl_) (HC1.out) A10.out).mono ?_); rintro e w22 ⟨v394, rfl, ho0, hb⟩; refine ⟨_, rfl, ?_⟩; have n_ := And.intro (Aside0.mk (Kd.ckz (Kd.b2z (ok' := fun k_ => k_ ≠ gb386 ∧ k_ ≠ gb387 ∧ k_ ≠ gb392) ho0 (fun k_ hk_ => ⟨(Kd.freshB (g := gb386) (o := .cells #[.int .u8 a0_0, .int .u8 a0_1, .int .u8 a0_2] 42 (0, 0)) (by (with_reducible repeat (first | refine adz ?_ _ | refine afz ?_ | refine acz ?_ _)); refine auz ?_ NB386_392.out _; (with_reducible repeat (first | refine adz ?_ _ | refine afz ?_ | refine acz ?_ _)); refine auz ?_ NB386_392.out _; (with_reducible repeat (first | refine adz ?_ _ | refine afz ?_ | refine acz ?_ _)); refine auz ?_ NB386_392.out _; (with_reducible repeat (first | refine adz ?_ _ | refine afz ?_ | refine acz ?_ _)); exact BK386.out) k_ hk_), (Kd.freshB (g := gb387) (o := .cells #[.int .u8 a2_0, .int .u8 a2_1, .int .u8 a2_2] 42 (0, 0)) (by (with_reducible repeat (first | refine adz ?_ _ | refine afz ?_ | refine acz ?_ _)); refine auz ?_ NB387_392.out _; (with_reducible repeat (first | refine adz ?_ _ | refine afz ?_ | refine acz ?_ _)); refine auz ?_ NB387_392.out _; (with_reducible repeat (first | refine adz ?_ _ | refine afz ?_ | refine acz ?_ _)); refine auz ?_ NB387_392.out _; (with_reducible repeat (first | refine adz ?_ _ | refine afz ?_ | refine acz ?_ _)); exact BK387.out) k_ hk_), (Kd.freshB (g := gb392) (o := .cells #[.int .i64 t389, .int .i64 t390, .int .i64 t391] 23 (0, 0)) (by (with_reducible repeat (first | refine adz ?_ _ | refine afz ?_ | refine acz ?_ _)); refine atz (cs := #[.int .i64 t389, .int .i64 t390, .int .i64 0]) ?_ 2 _ rfl; (with_reducible repeat (first | refine adz ?_ _ | refine afz ?_ | refine acz ?_ _)); refine atz (cs := #[.int .i64 t389, .int .i64 0, .int .i64 0]) ?_ 1 _ rfl; (with_reducible repeat (first | refine adz ?_ _ | refine afz ?_ | refine acz ?_ _)); refine atz (cs := #[.int .i64 0, .int .i64 0, .int .i64 0]) ?_ 0 _ rfl; (with_reducible repeat (first | refine adz ?_ _ | refine afz ?_ | refine acz ?_ _)); exact BK392.out) k_ hk_)⟩)) (aSz bl_))) (And.intro (Aside0.mk (agz (g := gb386) (o := .cells #[.int .u8 a0_0, .int .u8 a0_1, .int .u8 a0_2] 42 (0, 0)) (by (with_reducible repeat (first | refine adz ?_ _ | refine afz ?_ | refine acz ?_ _)); refine auz ?_ NB386_392.out _; (with_reducible repeat (first | refine adz ?_ _ | refine afz ?_ | refine acz ?_ _)); refine auz ?_ NB386_392.out _; (with_reducible repeat (first | refine adz ?_ _ | refine afz ?_ | refine acz ?_ _)); refine auz ?_ NB386_392.out _; (with_reducible repeat (first | refine adz ?_ _ | refine afz ?_ | refine acz ?_ _)); exact BK386.out) hb)) (And.intro (Aside0.mk (agz (g := gb387) (o := .cells #[.int .u8 a2_0, .int .u8 a2_1, .int .u8 a2_2] 42 (0, 0)) (by (with_reducible repeat (first | refine adz ?_ _ | refine afz ?_ | refine acz ?_ _)); refine auz ?_ NB387_392.out _; (with_reducible repeat (first | refine adz ?_ _ | refine afz ?_ | refine acz ?_ _)); refine auz ?_ NB387_392.out _; (with_reducible repeat (first | refine adz ?_ _ | refine afz ?_ | refine acz ?_ _)); refine auz ?_ NB387_392.out _; (with_reducible repeat (first | refine adz ?_ _ | refine afz ?_ | refine acz ?_ _)); exact BK387.out) hb)) (And.intro (Aside0.mk (agz (g := gb392) (o := .cells #[.int .i64 t389, .int .i64 t390, .int .i64 t391] 23 (0, 0)) (by (with_reducible repeat (first | refine adz ?_ _ | refine afz ?_ | refine acz ?_ _)); refine atz (cs := #[.int .i64 t389, .int .i64 t390, .int .i64 0]) ?_ 2 _ rfl; (with_reducible repeat (first | refine adz ?_ _ | refine afz ?_ | refine acz ?_ _)); refine atz (cs := #[.int .i64 t389, .int .i64 0, .int .i64 0]) ?_ 1 _ rfl; (with_reducible repeat (first | refine adz ?_ _ | refine afz ?_ | refine acz ?_ _)); refine atz (cs := #[.int .i64 0, .int .i64 0, .int .i64 0]) ?_ 0 _ rfl; (with_reducible repeat (first | refine adz ?_ _ | refine afz ?_ | refine acz ?_ _)); exact BK392.out) hb)) (hs_ HB hb)))); clear BK386 BK387 BK392 HB; obtain ⟨HO395, BK386, BK387, BK392, HB⟩ := n_; clear hb ho0))
  (try simp only [Act.put, List.setIfInBounds_toArray, List.set_cons_zero, List.set_cons_succ])
  go_cut [40] (fun v40 wc => ∃ (kq : Nat) (x40_10 : Bool), v40 = .bool x40_10 ∧ Aside0 (akz.j0 kq t388 t393 x40_10 a2_0 a2_1 a2_2 t389 t390 t391 = some r) ∧ Aside0 (kq ≤ k) ∧ Aside0 (Kd.N (Kd.slice 5 (Kd.int .u8)) 34 wc w.heap.size (fun k_ => k_ ≠ gb386 ∧ k_ ≠ gb387 ∧ k_ ≠ gb392) v394 t393) ∧ Aside0 (wc.heap[gb386]? = some (.cells #[.int .u8 a0_0, .int .u8 a0_1, .int .u8 a0_2] 42 (0, 0))) ∧ Aside0 (wc.heap[gb387]? = some (.cells #[.int .u8 a2_0, .int .u8 a2_1, .int .u8 a2_2] 42 (0, 0))) ∧ Aside0 (wc.heap[gb392]? = some (.cells #[.int .i64 t389, .int .i64 t390, .int .i64 t391] 23 (0, 0))) ∧ Aside0 (Below w.heap.size w wc))
  case first =>
   have H := HC11.out
   clear HC11
   by_cases c23 : t396 = 0
   rotate_left
   ·rw [if_neg c23] at H
    have c23b0 : (t396 == 0) = false := beq_eq_false_iff_ne.mpr c23
    have c23b1 : (t396 != 0) = true := bne_iff_ne.mpr c23
    (first | rw [c23b0] | (simp only [i64_w, i32_w]; rw [c23b0]) | skip)
    have H' := Aside0.mk H
    clear H
    go_wp2
    go_meet
    case rel => exact ⟨_, (true), sd_, H', ⟨by first | omega | exact Nat.le_refl _⟩, ⟨xd_ HO395.out⟩, ⟨bk_⟩, ⟨bk_⟩, ⟨bk_⟩, ⟨bl_⟩⟩
   rw [if_pos c23] at H
   have c23b0 : (t396 == 0) = true := beq_iff_eq.mpr c23
   have c23b1 : (t396 != 0) = false := bne_eq_false_iff_eq.mpr c23
   clear c23
   (first | rw [c23b0] | (simp only [i64_w, i32_w]; rw [c23b0]) | skip)
   have H' := Aside0.mk H
   clear H
   obtain ⟨Ao24, co24, eo24⟩ := Kd.cJz HO395.out
   subst eo24
   have hnb25 := NB392_386.out
   have hnc25 := NB386_392.out
   have hnb26 := NB392_387.out
   have hnc26 := NB387_392.out
   obtain ⟨hcz27_0, hfz27_0, hcz27_1, hfz27_1, hcz27_2, hfz27_2⟩ := bc3_ BK392.out
   go_wp2
   go_meet
   case rel => exact ⟨_, (((t393.length : Int) != (wrap64 (t390 + t391)))), sd_, H', ⟨by first | omega | exact Nat.le_refl _⟩, ⟨xd_ HO395.out⟩, ⟨bk_⟩, ⟨bk_⟩, ⟨bk_⟩, ⟨bl_⟩⟩
  case rest =>
   clear HC11
   try clear c1
   try clear c2
   try clear p2
   try clear c3
   try clear c5
   try clear c5b0
   try clear c5b1
   try clear p6
   try clear c15
   try clear c19
   try clear c20
   try clear c23
   try clear c23b0
   try clear c23b1
   try clear c24
   try clear c25
   try clear c26
   try clear hcz16_0
   try clear hcz16_1
   try clear hcz16_2
   try clear hcz21_0
   try clear hcz21_1
   try clear hcz21_2
   try clear hcz27_0
   try clear hcz27_1
   try clear hcz27_2
   try clear hfz16_0
   try clear hfz16_1
   try clear hfz16_2
   try clear hfz21_0
   try clear hfz21_1
   try clear hfz21_2
   try clear hfz27_0
   try clear hfz27_1
   try clear hfz27_2
   obtain ⟨kq, x40_10, rfl, HA, HJ10, HO_9, BK386, BK387, BK392, HB⟩ := hcut
   rcases kq with _ | kj10
   ·exact absurd HA.out (by simp [akz.j0])
   have H := HA.out
   clear HA
   simp only [akz.j0] at H
   by_cases c28 : x40_10 = true
   ·subst c28
    rw [if_pos rfl] at H
    exact absurd ((Option.some.inj H).trans hr_.out) (by simp)
   ·replace c28 := Bool.eq_false_iff.mpr c28
    subst c28
    rw [if_neg (show ¬ (false = true) by decide)] at H
    by_cases c29 : t390 = 0
    ·rw [if_pos c29] at H
     exact absurd H (by simp)
    ·rw [if_neg c29] at H
     have c29b0 : (t390 == 0) = false := beq_eq_false_iff_ne.mpr c29
     have c29b1 : (t390 != 0) = true := bne_iff_ne.mpr c29
     obtain ⟨t397, A30, H⟩ := ob_ H
     (try dsimp only at H)
     obtain ⟨⟨t400, t403⟩, A31, H⟩ := ob_ H
     (try dsimp only at H)
     obtain ⟨⟨t404, t407⟩, A32, H⟩ := ob_ H
     (try dsimp only at H)
     by_cases c33 : t388 = true
     rotate_left
     ·replace c33 := Bool.eq_false_iff.mpr c33
      subst c33
      rw [if_neg (show ¬ (false = true) by decide)] at H
      exact absurd ((Option.some.inj H).trans hr_.out) (by simp)
     subst c33
     rw [if_pos rfl] at H
     by_cases c34 : t403 = 5
     rotate_left
     ·rw [if_neg c34] at H
      have c34b0 : (t403 == 5) = false := beq_eq_false_iff_ne.mpr c34
      have c34b1 : (t403 != 5) = true := bne_iff_ne.mpr c34
      exact absurd ((Option.some.inj H).trans hr_.out) (by simp)
     rw [if_pos c34] at H
     have c34b0 : (t403 == 5) = true := beq_iff_eq.mpr c34
     have c34b1 : (t403 != 5) = false := bne_eq_false_iff_eq.mpr c34
     clear c34
     by_cases c35 : t407 = 5
     rotate_left
     ·rw [if_neg c35] at H
      have c35b0 : (t407 == 5) = false := beq_eq_false_iff_ne.mpr c35
      have c35b1 : (t407 != 5) = true := bne_iff_ne.mpr c35
      exact absurd ((Option.some.inj H).trans hr_.out) (by simp)
     rw [if_pos c35] at H
     have c35b0 : (t407 == 5) = true := beq_iff_eq.mpr c35
     have c35b1 : (t407 != 5) = false := bne_eq_false_iff_eq.mpr c35
     clear c35
     by_cases c36 : (t400.length : Int) = 0
     rotate_left
     ·rw [if_neg c36] at H
      have c36b0 : ((t400.length : Int) == 0) = false := beq_eq_false_iff_ne.mpr c36
      have c36b1 : ((t400.length : Int) != 0) = true := bne_iff_ne.mpr c36
      have c36b2 : ¬ (t400 = []) := fun h_ => c36 (by rw [h_]; rfl)
      exact absurd ((Option.some.inj H).trans hr_.out) (by simp)
     rw [if_pos c36] at H
     have c36b0 : ((t400.length : Int) == 0) = true := beq_iff_eq.mpr c36
     have c36b1 : ((t400.length : Int) != 0) = false := bne_eq_false_iff_eq.mpr c36
     clear c36
     obtain rfl := Option.some.inj H
     try go_wp2
     have n_ := And.intro (Aside0.mk (Kd.N_drew HO_9.out)) (And.intro (Aside0.mk (afz BK386.out)) (And.intro (Aside0.mk (afz BK387.out)) (And.intro (Aside0.mk (afz BK392.out)) (Aside0.mk (bKz HB.out)))))
     clear HO_9 BK386 BK387 BK392 HB
     obtain ⟨HO_9, BK386, BK387, BK392, HB⟩ := n_
     obtain ⟨Ao38, co38, eo38⟩ := Kd.cJz HO_9.out
     (first | subst eo38 | (injection eo38 with f1_ f2_ f3_; have f4_ := f1_.symm; have f5_ := f3_.symm; clear f1_ f2_ f3_; subst f4_; subst f5_))
     refine a9z (n := 20) (S := fun w' => w'.cell? ⟨gb392, 0, none⟩ = some (.int .i64 t389) ∧ w'.cell? ⟨gb392, 1, none⟩ = some (.int .i64 t390) ∧ w'.cell? ⟨gb392, 2, none⟩ = some (.int .i64 t391) ∧ w'.cell? ⟨gb387, 0, none⟩ = some (.int .u8 a2_0) ∧ w'.cell? ⟨gb387, 1, none⟩ = some (.int .u8 a2_1) ∧ w'.cell? ⟨gb387, 2, none⟩ = some (.int .u8 a2_2)) (ds := []) (bA 20 0) kr_ rfl rfl ⟨(aaz BK392.out 0).trans rfl, (aaz BK392.out 1).trans rfl, (aaz BK392.out 2).trans rfl, (aaz BK387.out 0).trans rfl, (aaz BK387.out 1).trans rfl, (aaz BK387.out 2).trans rfl⟩ (fun hHeld => ?_); refine with_tabW akz.tab8 akz.bits8 (fun HT_ HW_ => ?_)
     generalize wc.drew = w37 at HO_9 BK386 BK387 BK392 HB hHeld ⊢
     refine pv_ 0 41 1 HT_ ?_
     refine pv_ 1 42 3 HT_ ?_
     refine pv_ 2 43 7 HT_ ?_
     refine pv_ 5 46 39 HT_ ?_
     refine pv_ 8 49 295 HT_ ?_
     refine pv_ 12 53 4391 HT_ ?_
     refine pv_ 15 56 37159 HT_ ?_
     refine tw_ 3 44 37167 HT_ HW_ hHeld ?_
     refine pv_ 4 45 37183 HT_ ?_
     refine tw_ 6 47 37247 HT_ HW_ hHeld ?_
     refine pv_ 7 48 37375 HT_ ?_
     refine tw_ 9 50 37887 HT_ HW_ hHeld ?_
     refine pv_ 10 51 38911 HT_ ?_
     refine pv_ 11 52 40959 HT_ ?_
     refine tw_ 13 54 49151 HT_ HW_ hHeld ?_
     refine pv_ 14 55 65535 HT_ ?_
     refine tw_ 16 57 131071 HT_ HW_ hHeld ?_
     refine pv_ 17 58 262143 HT_ ?_
     refine one_ (i := 18) (N := some 59) (bA 20 524287) rfl rfl (one_of HT_.out kr_) (by decide) (fun K hK => ?_)
     refine goes_ Tryz.func32 kr_ rfl #[.int .i64 (t393.length : Int), .int .i64 (wrap64 ((wrap64 (t391 + 1)) + (Int.tmod (wrap64 (a2_0)) t390))), .int .i64 (wrap64 (a2_1)), .int .i64 (wrap64 (a2_2))] (by rfl) rfl rfl ar_ ?_
     with_reducible refine (aez.calls kj10 (t393.length : Int) (wrap64 ((wrap64 (t391 + 1)) + (Int.tmod (wrap64 (a2_0)) t390))) (wrap64 (a2_1)) (wrap64 (a2_2)) t397 _ A30.out).mono ?_
     rintro e w39 ⟨v398, rfl, ho0, hb⟩
     refine ⟨_, rfl, ?_⟩
     have n_ := And.intro (Aside0.mk (Kd.cQz (xd_ HO_9.out) (Kd.bXz ho0) hb)) (And.intro (Aside0.mk (Kd.bez ho0 (aSz bl_))) (And.intro (bb_ BK386 hb) (And.intro (bb_ BK387 hb) (And.intro (bb_ BK392 hb) (hs_ HB hb)))))
     clear HO_9 BK386 BK387 BK392 HB
     obtain ⟨HO_9, HO399, BK386, BK387, BK392, HB⟩ := n_
     (try clear hb)
     (try clear hb2)
     (try clear hk)
     (try clear hi)
     (try clear ho0)
     refine hK.out _ _ ⟨(aaz BK392.out 0).trans rfl, (aaz BK392.out 1).trans rfl, (aaz BK392.out 2).trans rfl, (aaz BK387.out 0).trans rfl, (aaz BK387.out 1).trans rfl, (aaz BK387.out 2).trans rfl⟩ (fun hHeld => ?_)
     clear hK K
     refine norm_ (a' := ?_) ?_ ?_
     rotate_left
     ·show Act.put _ (some 59) _ = _
      simp only [Act.put, List.setIfInBounds_toArray, List.set_cons_zero, List.set_cons_succ, i64_w, i32_w]
      rfl
     refine pv_ 19 11 1048575 HT_ ?_
     refine done_ (done_of HT_.out kr_) ?_
     have hnb40 := NB392_386.out
     have hnc40 := NB386_392.out
     have hnb41 := NB392_387.out
     have hnc41 := NB387_392.out
     obtain ⟨hcz42_0, hfz42_0, hcz42_1, hfz42_1, hcz42_2, hfz42_2⟩ := bc3_ BK392.out
     obtain ⟨Ao43, co43, eo43⟩ := Kd.aKz HO399.out
     subst eo43
     try go_wp2_with (first | ((with_reducible refine ajz (f := 29) rfl ?_); refine gl_ (some 64) Tryz.func29 #[.agg #[.int .i64 t389, .int .i64 t390, .int .i64 t391], .slice Ao38 t393.length co38, .slice Ao43 t397.length co43] ?_; (with_reducible refine (aOz.calls kj10 t389 t390 t391 _ _ t393 _ _ t397 t400 t403 _ (xd_ (Kd.bQz HO_9.out).2.2) ((Kd.bQz HO_9.out).2.1) (xd_ (Kd.aLz HO399.out).2.2) ((Kd.aLz HO399.out).2.1) A31.out).mono ?_); rintro e w44 ⟨v401, rfl, ho0, hb⟩; refine ⟨_, rfl, ?_⟩; have n_ := And.intro (Aside0.mk (Kd.cQz (xd_ HO_9.out) (Kd.S_base ho0) hb)) (And.intro (Aside0.mk (Kd.bLz (xd_ HO399.out) hb)) (And.intro (Aside0.mk (Kd.ckz (Kd.b2z (ok' := fun k_ => some k_ ≠ (.slice Ao38 t393.length co38 : Value).ownBlock ∧ some k_ ≠ (.slice Ao43 t397.length co43 : Value).ownBlock ∧ k_ ≠ gb386 ∧ k_ ≠ gb387 ∧ k_ ≠ gb392) (Kd.S_N (Kd.aZz ho0)) (fun k_ hk_ => ⟨(Kd.fresh' (Kd.N_lt (xd_ HO_9.out)) k_ hk_.2.1), (Kd.fresh' (Kd.R_lt (xd_ HO399.out)) k_ hk_.2.1), (Kd.freshB (g := gb386) (o := .cells #[.int .u8 a0_0, .int .u8 a0_1, .int .u8 a0_2] 42 (0, 0)) bk_ k_ hk_.2.1), (Kd.freshB (g := gb387) (o := .cells #[.int .u8 a2_0, .int .u8 a2_1, .int .u8 a2_2] 42 (0, 0)) bk_ k_ hk_.2.1), (Kd.freshB (g := gb392) (o := .cells #[.int .i64 t389, .int .i64 t390, .int .i64 t391] 23 (0, 0)) bk_ k_ hk_.2.1)⟩)) (aSz bl_))) (And.intro (bb_ BK386 hb) (And.intro (bb_ BK387 hb) (And.intro (bb_ BK392 hb) (hs_ HB hb)))))); clear HO_9 HO399 BK386 BK387 BK392 HB; obtain ⟨HO_9, HO399, HO402, BK386, BK387, BK392, HB⟩ := n_; clear hb ho0; obtain ⟨hcz45_0, hfz45_0, hcz45_1, hfz45_1, hcz45_2, hfz45_2⟩ := bc3_ BK392.out) | ((with_reducible refine ajz (f := 27) rfl ?_); refine gl_ (some 71) Tryz.func27 #[.agg #[.int .i64 t389, .int .i64 t390, .int .i64 t391], .slice Ao38 t393.length co38, .slice Ao43 t397.length co43] ?_; (with_reducible refine (aoz.calls kj10 t389 t390 t391 _ _ t393 _ _ t397 t404 t407 _ (xd_ (Kd.bQz HO_9.out).2.2) ((Kd.bQz HO_9.out).2.1) (xd_ (Kd.aLz HO399.out).2.2) ((Kd.aLz HO399.out).2.1) A32.out).mono ?_); rintro e w46 ⟨v405, rfl, ho0, hb⟩; refine ⟨_, rfl, ?_⟩; have n_ := And.intro (Aside0.mk (Kd.cQz (xd_ HO_9.out) (Kd.S_base ho0) hb)) (And.intro (Aside0.mk (Kd.bLz (xd_ HO399.out) hb)) (And.intro (Aside0.mk (Kd.cQz (xd_ HO402.out) (Kd.S_base ho0) hb)) (And.intro (Aside0.mk (Kd.ckz (Kd.b2z (ok' := fun k_ => some k_ ≠ (.slice Ao38 t393.length co38 : Value).ownBlock ∧ some k_ ≠ (.slice Ao43 t397.length co43 : Value).ownBlock ∧ some k_ ≠ (v401 : Value).ownBlock ∧ k_ ≠ gb386 ∧ k_ ≠ gb387 ∧ k_ ≠ gb392) (Kd.S_N (Kd.aZz ho0)) (fun k_ hk_ => ⟨(Kd.fresh' (Kd.N_lt (xd_ HO_9.out)) k_ hk_.2.1), (Kd.fresh' (Kd.R_lt (xd_ HO399.out)) k_ hk_.2.1), (Kd.fresh' (Kd.N_lt (xd_ HO402.out)) k_ hk_.2.1), (Kd.freshB (g := gb386) (o := .cells #[.int .u8 a0_0, .int .u8 a0_1, .int .u8 a0_2] 42 (0, 0)) bk_ k_ hk_.2.1), (Kd.freshB (g := gb387) (o := .cells #[.int .u8 a2_0, .int .u8 a2_1, .int .u8 a2_2] 42 (0, 0)) bk_ k_ hk_.2.1), (Kd.freshB (g := gb392) (o := .cells #[.int .i64 t389, .int .i64 t390, .int .i64 t391] 23 (0, 0)) bk_ k_ hk_.2.1)⟩)) (aSz bl_))) (And.intro (bb_ BK386 hb) (And.intro (bb_ BK387 hb) (And.intro (bb_ BK392 hb) (hs_ HB hb))))))); clear HO_9 HO399 HO402 BK386 BK387 BK392 HB; obtain ⟨HO_9, HO399, HO402, HO406, BK386, BK387, BK392, HB⟩ := n_; clear hb ho0; obtain ⟨Ao47, co47, eo47⟩ := Kd.cJz HO402.out; subst eo47; obtain ⟨Ao48, co48, eo48⟩ := Kd.cJz HO406.out; subst eo48))
     go_ret
     exact ⟨er_, bl_⟩
def xorB (a b : List Int) : List Int := List.zipWith (fun x y => Go.bits .xor .u8 x y) a b
def sumB (L : Nat) (rows : List (List Int)) : List Int := rows.foldl xorB (List.replicate L 0)
theorem dbz (a b : List Int) (h : a.length = b.length) : (xorB a b).length = b.length := by simp [xorB]; omega
theorem bRz {j : Nat} (h : j ≤ 1000000000) : wrap64 ((j : Int) + 1) = ((j + 1 : Nat) : Int) := by unfold wrap64; omega
theorem sum_l1 (rows : List (List Int)) (n : Int) (i : Nat) (acc row : List Int) (r : List Int × Int) (K : Nat) (hl : acc.length = row.length) (hL : row.length ≤ 100000000) (hi : i ≤ 100000000)
  (h : anz.l0 K (xorB acc row) rows n ((i + 1 : Nat) : Int) = some r) :
  ∀ (d j : Nat), j + d = row.length → anz.l1 (K + d + 1) ((xorB acc row).take j ++ acc.drop j) rows n (i : Int) row (row.length : Int) (j : Int) = some r
 | 0, j, hj => by
  obtain rfl : j = row.length := by omega
  unfold anz.l1
  rw [if_neg (by omega), bRz (by omega), List.take_of_length_le (by rw [dbz _ _ hl]; exact Nat.le_refl _), List.drop_of_length_le (by omega), List.append_nil]
  exact h
 | d + 1, j, hj => by
  have hlx := dbz _ _ hl
  have hjl : j < row.length := by omega
  have hlen : ((xorB acc row).take j ++ acc.drop j).length = row.length := by simp [hlx]; omega
  unfold anz.l1
  rw [if_pos (by omega), if_pos (by omega), if_pos (by omega), if_pos (by omega), bRz (by omega)]
  have hset : ((xorB acc row).take j ++ acc.drop j).set (j : Int).toNat (Go.bits .xor .u8 (rd ((xorB acc row).take j ++ acc.drop j) (j : Int)) (rd row (j : Int))) = (xorB acc row).take (j + 1) ++ acc.drop (j + 1) := by
   have e1 : rd ((xorB acc row).take j ++ acc.drop j) (j : Int) = acc.getD j 0 := by
    unfold rd
    rw [Int.toNat_natCast, List.getD_eq_getElem?_getD, List.getElem?_append_right (by simp [hlx]; omega), List.getElem?_drop]
    simp [hlx, Nat.min_eq_left (Nat.le_of_lt hjl)]
   have e2 : rd row (j : Int) = row.getD j 0 := by unfold rd; rw [Int.toNat_natCast]
   rw [e1, e2, Int.toNat_natCast]
   apply List.ext_getElem?
   intro q
   have hja : j < acc.length := by omega
   have hx : (xorB acc row)[j]? = some (Go.bits .xor .u8 (acc.getD j 0) (row.getD j 0)) := by
    unfold xorB
    rw [List.getElem?_zipWith, List.getElem?_eq_getElem hja, List.getElem?_eq_getElem hjl]
    simp [List.getD_eq_getElem?_getD, List.getElem?_eq_getElem hja, List.getElem?_eq_getElem hjl]
   rw [List.getElem?_set]
   by_cases hq : j = q
   ·subst hq
    rw [if_pos rfl, if_pos (by omega), List.getElem?_append_left (by simp [hlx]; omega), List.getElem?_take, if_pos (by omega), hx]
   ·rw [if_neg hq]
    by_cases hlt : q < j
    ·rw [List.getElem?_append_left (by simp [hlx]; omega), List.getElem?_append_left (by simp [hlx]; omega), List.getElem?_take, List.getElem?_take, if_pos hlt, if_pos (by omega)]
    ·rw [List.getElem?_append_right (by simp [hlx]; omega), List.getElem?_append_right (by simp [hlx]; omega), List.getElem?_drop, List.getElem?_drop]
     congr 1
     simp [hlx, Nat.min_eq_left (Nat.le_of_lt hjl), Nat.min_eq_left (show j + 1 ≤ row.length from hjl)]
     omega
  rw [hset]
  have := sum_l1 rows n i acc row r K hl hL hi h d (j + 1) (by omega)
  rw [show K + (d + 1) = K + d + 1 by omega]
  exact this
theorem sum_l0 (rows : List (List Int)) (L : Nat) (hL : L ≤ 100000000) (hn : rows.length ≤ 1000) (hr : ∀ r, r ∈ rows → r.length = L) :
  ∀ (m i : Nat) (acc : List Int), i + m = rows.length → acc.length = L → ∃ K, anz.l0 K acc rows (rows.length : Int) (i : Int) = some ((rows.drop i).foldl xorB acc, 0)
 | 0, i, acc, hi, ha => by
  refine ⟨1, ?_⟩
  unfold anz.l0
  rw [if_neg (by omega), List.drop_of_length_le (by omega)]; rfl
 | m + 1, i, acc, hi, ha => by
  obtain ⟨row, hrow⟩ : ∃ r, rows[i]? = some r := ⟨_, List.getElem?_eq_getElem (by omega)⟩
  have hrl := hr row (List.mem_of_getElem? hrow)
  have hd : rows.drop i = row :: rows.drop (i + 1) := by
   obtain ⟨h1, h2⟩ := List.getElem?_eq_some_iff.1 hrow
   rw [List.drop_eq_getElem_cons h1, h2]
  obtain ⟨K, hK⟩ := sum_l0 rows L hL hn hr m (i + 1) (xorB acc row) (by omega) (by rw [dbz _ _ (by omega)]; exact hrl)
  have h1 := sum_l1 rows (rows.length : Int) i acc row _ K (by omega) (by omega) (by omega) hK row.length 0 (by omega)
  refine ⟨K + row.length + 1 + 1, ?_⟩
  have hrd : rd_L1 rows (i : Int) = row := by unfold rd_L1; rw [Int.toNat_natCast, List.getD_eq_getElem?_getD, hrow]; rfl
  unfold anz.l0
  rw [if_pos (by omega), if_pos (by omega), if_pos (by omega), hrd, if_pos (by omega), hd]
  simpa using h1
theorem sum_ev (rows : List (List Int)) (L : Nat) (hL : L ≤ 100000000) (hn : rows.length ≤ 1000) (h0 : 0 < rows.length) (hr : ∀ r, r ∈ rows → r.length = L) : Ev (fun k => anz.f k rows) (sumB L rows, 0) := by
 obtain ⟨row, hrow⟩ : ∃ r, rows[0]? = some r := ⟨_, List.getElem?_eq_getElem h0⟩
 have hrl := hr row (List.mem_of_getElem? hrow)
 have hrd : rd_L1 rows 0 = row := by unfold rd_L1; rw [show (0 : Int).toNat = 0 from rfl, List.getD_eq_getElem?_getD, hrow]; rfl
 obtain ⟨K, hK⟩ := sum_l0 rows L hL hn hr rows.length 0 (List.replicate L 0) (by omega) (by simp)
 refine Ev.of (fun k => anz.mono _ k) (k := K) ?_
 unfold anz.f
 rw [if_pos (by omega), hrd, if_pos (by omega), if_pos (by omega), hrl, Int.toNat_natCast]
 simpa [sumB] using hK
theorem byteF_len (wb a : Int) : (byteF wb a).length = wN wb := by unfold byteF wN; split <;> rfl
theorem bytesF_len (wb : Int) : ∀ l : List Int, (bytesF wb l).length = l.length * wN wb
 | [] => by simp [bytesF]
 | a :: l => by
  have h1 := bytesF_len wb l
  have h3 : bytesF wb (a :: l) = byteF wb a ++ bytesF wb l := by unfold bytesF; rw [List.flatMap_cons]
  rw [h3, List.length_append, byteF_len, h1, List.length_cons, Nat.add_mul]
  omega
theorem mulB_len (wb c : Int) (b : List Int) (h : b.length % wN wb = 0) : (mulB wb c b).length = b.length := by
 unfold mulB
 rw [bytesF_len, List.length_map, dwz]
 exact Nat.div_mul_cancel (Nat.dvd_of_mod_eq_zero h)
def dotV (L : Nat) (wb : Int) (c : List Int) (rows : List (List Int)) : List Int := sumB L (List.zipWith (mulB wb) c rows)
theorem zip_len {wb : Int} {L : Nat} (hd : L % wN wb = 0) {c : List Int} {rows : List (List Int)} (hr : ∀ r, r ∈ rows → r.length = L) : ∀ r, r ∈ List.zipWith (mulB wb) c rows → r.length = L := by
 intro r h
 obtain ⟨i, hi, rfl⟩ := List.mem_iff_getElem.1 h
 rw [List.getElem_zipWith]
 rw [mulB_len _ _ _ (by rw [hr _ (List.getElem_mem ..)]; exact hd)]
 exact hr _ (List.getElem_mem ..)
theorem dot_ev (wb : Int) (L : Nat) (hL : L ≤ 1000000) (hd : L % wN wb = 0) (c : List Int) (rows : List (List Int)) (h0 : 0 < rows.length) (hc : c.length = rows.length) (hn : rows.length ≤ 1000) (hr : ∀ r, r ∈ rows → r.length = L) : Ev (fun k => dotB k wb c rows) (dotV L wb c rows, 0) := by
 have hall : rows.all (evB wb) = true := by
  rw [List.all_eq_true]
  intro r h
  unfold evB
  rw [hr r h, hd]; rfl
 refine Ev.congr (f := fun k => anz.f k (List.zipWith (mulB wb) c rows)) (fun k => by unfold dotB; rw [if_pos hall]) ?_
 exact sum_ev _ L (by omega) (by simp; omega) (by simp; omega) (zip_len hd hr)
theorem parl_ev (wb : Int) (L : Nat) (hL : L ≤ 1000000) (hd : L % wN wb = 0) (data : List (List Int)) (h0 : 0 < data.length) (hn : data.length ≤ 1000) (hr : ∀ r, r ∈ data → r.length = L) :
  ∀ (rs acc : List (List Int)), (∀ r, r ∈ rs → r.length = data.length) → Ev (fun k => alz.l k wb data rs acc) (acc ++ rs.map (fun c => dotV L wb c data), 0)
 | [], acc, _ => by
  simp only [alz.l, List.map_nil, List.append_nil]
  exact Ev.now _
 | row :: rs, acc, hc => by
  have h1 := dot_ev wb L hL hd row data h0 (hc row (List.mem_cons_self ..)) hn hr
  have h2 := parl_ev wb L hL hd data h0 hn hr rs (acc ++ [dotV L wb row data]) (fun r h => hc r (List.mem_cons_of_mem _ h))
  simp only [alz.l]
  refine Ev.bind h1 ?_
  rw [List.append_assoc] at h2
  simpa using h2
def parV (L : Nat) (p : Int) (K M : Nat) (data : List (List Int)) : List (List Int) := (parM p K M).map fun c => dotV L (pbits p) c data
theorem par_ev (p : Int) (K M L : Nat) (data : List (List Int)) (hmay : aiz.f p (K : Int) (M : Int) = some true) (hK : data.length = K) (hL : L ≤ 1000000) (hd : L % wN (pbits p) = 0) (hr : ∀ r, r ∈ data → r.length = L) :
  Ev (fun k => alz.f k p (K : Int) (M : Int) data) (parV L p K M data, 0) := by
 obtain ⟨p1, p2, k1, k2, m1, m2⟩ := bEz hmay
 have hgd := cxz p K M (by omega) (by omega) (by omega) (by omega)
 have hs : alz.small data = true := by
  simp only [alz.small, Bool.and_eq_true, decide_eq_true_eq, List.all_eq_true]
  exact ⟨by omega, fun r h => by rw [hr r h]; exact hL⟩
 have h1 := parl_ev (pbits p) L hL hd data (by omega) (by omega) hr (parM p K M) [] (fun r h => by rw [(hgd.1 r h).1, hK])
 refine Ev.congr (fun k => ?_) h1
 unfold alz.f
 rw [hmay, Option.bind_some, if_pos rfl, if_pos (by omega), if_pos hs, Int.toNat_natCast, Int.toNat_natCast]
def unitN (p : Int) : Nat := if p ≤ 2 then 8 else if p ≤ 4 then 16 else 1
def aheadN (p : Int) : Nat := if p = 5 then 4 else 0
theorem rule_eq {p : Int} (h1 : 1 ≤ p) (h2 : p ≤ 6) (k m : Int) : buz.f p k m = some ((unitN p : Int), (aheadN p : Int)) := by
 have : p = 1 ∨ p = 2 ∨ p = 3 ∨ p = 4 ∨ p = 5 ∨ p = 6 := by omega
 rcases this with rfl | rfl | rfl | rfl | rfl | rfl <;> rfl
theorem w64 {x : Int} (h0 : -1 ≤ x) (h1 : x < 1000000000) : wrap64 x = x := by unfold wrap64; omega
theorem drz (p : Int) : 1 ≤ unitN p ∧ unitN p ≤ 16 := by unfold unitN; split <;> (try split) <;> omega
theorem c4z (p : Int) : aheadN p ≤ 4 := by unfold aheadN; split <;> omega
def sizeN (p : Int) (K n : Nat) : Nat := unitN p * max ((n + aheadN p + unitN p * K - 1) / (unitN p * K)) 1
theorem sizeN_room (p : Int) (K n : Nat) (hK : 1 ≤ K) : n + aheadN p ≤ sizeN p K n * K := by
 have hu := (drz p).1
 unfold sizeN
 generalize n + aheadN p = t
 obtain ⟨s, hs⟩ : ∃ s, unitN p * K = s := ⟨_, rfl⟩
 have hs1 : 1 ≤ s := by rw [← hs]; exact Nat.mul_pos hu hK
 rw [hs]
 have h1 := Nat.div_add_mod (t + s - 1) s
 have h2 := Nat.mod_lt (t + s - 1) (show 0 < s from hs1)
 have h3 : s * ((t + s - 1) / s) ≤ s * max ((t + s - 1) / s) 1 := Nat.mul_le_mul_left _ (Nat.le_max_left _ _)
 have h4 : unitN p * max ((t + s - 1) / s) 1 * K = s * max ((t + s - 1) / s) 1 := by rw [← hs, Nat.mul_assoc, Nat.mul_comm (max _ _) K, ← Nat.mul_assoc]
 rw [h4]
 omega
theorem sizeN_pos (p : Int) (K n : Nat) : 1 ≤ sizeN p K n := by
 unfold sizeN
 exact Nat.mul_pos (drz p).1 (Nat.lt_of_lt_of_le Nat.one_pos (Nat.le_max_right _ _))
theorem sizeN_le (p : Int) (K n : Nat) (hK : 1 ≤ K) (hK2 : K ≤ 8) (hn : n ≤ 4096) : sizeN p K n ≤ 80000 := by
 have hu := drz p
 have ha := c4z p
 have h1 : (n + aheadN p + unitN p * K - 1) / (unitN p * K) ≤ 4300 := by
  have h2 : unitN p * K ≤ 16 * 8 := Nat.mul_le_mul hu.2 hK2
  exact Nat.le_trans (Nat.div_le_self _ _) (by omega)
 unfold sizeN
 exact Nat.le_trans (Nat.mul_le_mul hu.2 (show max ((n + aheadN p + unitN p * K - 1) / (unitN p * K)) 1 ≤ 4300 by omega)) (by omega)
theorem sizeN_even (p : Int) (K n : Nat) : sizeN p K n % wN (pbits p) = 0 := by
 unfold pbits
 by_cases h : p = 2
 ·subst h
  rw [if_pos rfl]
  show (8 * _) % 2 = 0
  omega
 ·rw [if_neg h]
  show _ % 1 = 0
  omega
theorem size_ev (p : Int) (K M n : Nat) (hmay : aiz.f p (K : Int) (M : Int) = some true) (hn : n ≤ 4096) : Ev (fun k => aBz.f k p (K : Int) (M : Int) (n : Int)) ((sizeN p K n : Int), 0) := by
 obtain ⟨p1, p2, k1, k2, m1, m2⟩ := bEz hmay
 have hu := drz p
 have ha := c4z p
 have hup : unitN p * K ≤ 16 * 8 := Nat.mul_le_mul hu.2 (by omega)
 have hu1 : 1 ≤ unitN p * K := Nat.mul_pos hu.1 (by omega)
 refine Ev.of (fun k => aBz.mono _ _ _ _ k) (k := 1) ?_
 unfold aBz.f
 rw [hmay, Option.bind_some, if_pos rfl, show decide ((n : Int) < 0) = false by simp]
 rw [aBz.j0]
 rw [if_neg (by decide), if_neg (by omega), rule_eq p1 p2, Option.bind_some]
 have w1 : wrap64 ((unitN p : Int) * (K : Int)) = ((unitN p * K : Nat) : Int) := by
  rw [← Int.natCast_mul]; unfold wrap64; omega
 dsimp only
 rw [w1, if_neg (by omega)]
 have w2 : wrap64 (wrap64 (wrap64 ((n : Int) + (aheadN p : Int)) + ((unitN p * K : Nat) : Int)) - 1) = ((n + aheadN p + unitN p * K - 1 : Nat) : Int) := by
  generalize unitN p * K = s at hup hu1 ⊢
  generalize aheadN p = a at ha ⊢
  rw [w64 (x := (n : Int) + (a : Int)) (by omega) (by omega), w64 (x := (n : Int) + (a : Int) + (s : Int)) (by omega) (by omega), w64 (x := (n : Int) + (a : Int) + (s : Int) - 1) (by omega) (by omega)]
  omega
 rw [w2, show Int.tdiv ((n + aheadN p + unitN p * K - 1 : Nat) : Int) ((unitN p * K : Nat) : Int) = (((n + aheadN p + unitN p * K - 1) / (unitN p * K) : Nat) : Int) from (Int.ofNat_tdiv _ _).symm]
 have hle := sizeN_le p K n (by omega) (by omega) hn
 unfold sizeN at hle ⊢
 have hq : (n + aheadN p + unitN p * K - 1) / (unitN p * K) ≤ 4300 := Nat.le_trans (Nat.div_le_self _ _) (by omega)
 generalize (n + aheadN p + unitN p * K - 1) / (unitN p * K) = q at hle hq ⊢
 have w3 : mx (wrap64 (q : Int)) 1 = ((max q 1 : Nat) : Int) := by
  rw [show wrap64 (q : Int) = (q : Int) by unfold wrap64; omega]
  unfold mx
  split <;> omega
 rw [w3, ← Int.natCast_mul]
 rw [show wrap64 ((unitN p * max q 1 : Nat) : Int) = ((unitN p * max q 1 : Nat) : Int) by unfold wrap64; omega]
theorem fill_some (size K : Nat) (hs : 1 ≤ size) : ∀ (cs : List Int) (i : Nat) (rows : List (List Int)), rows.length = K → (∀ r, r ∈ rows → r.length = size) → i + cs.length ≤ size * K →
  ∃ r, aIz.fill size cs i rows = some r ∧ r.length = K ∧ (∀ x, x ∈ r → x.length = size) ∧ (∀ P : Int → Prop, (∀ c, c ∈ cs → P c) → (∀ x, x ∈ rows → ∀ c, c ∈ x → P c) → ∀ x, x ∈ r → ∀ c, c ∈ x → P c)
 | [], i, rows, h1, h2, h3 => ⟨rows, rfl, h1, h2, fun P _ h => h⟩
 | c :: cs, i, rows, h1, h2, h3 => by
  have hlt : i / size < rows.length := by
   rw [h1]
   exact (Nat.div_lt_iff_lt_mul hs).2 (by rw [Nat.mul_comm]; simp at h3; omega)
  obtain ⟨row, hrow⟩ : ∃ r, rows[i / size]? = some r := ⟨_, List.getElem?_eq_getElem hlt⟩
  have hm := List.mem_of_getElem? hrow
  have hd : rows.getD (i / size) [] = row := by rw [List.getD_eq_getElem?_getD, hrow]; rfl
  obtain ⟨r, q1, q2, q3, q4⟩ := fill_some size K hs cs (i + 1) (rows.set (i / size) (row.set (i % size) c)) (by rw [List.length_set]; exact h1) (fun x hx => by
   rcases List.mem_or_eq_of_mem_set hx with hx | rfl
   ·exact h2 x hx
   ·rw [List.length_set]; exact h2 row hm) (by simp at h3; omega)
  refine ⟨r, ?_, q2, q3, fun P hc hr => q4 P (fun c hh => hc c (List.mem_cons_of_mem _ hh)) (fun x hx => ?_)⟩
  ·simp only [aIz.fill]
   rw [if_pos hlt, hd]
   exact q1
  ·rcases List.mem_or_eq_of_mem_set hx with hx | rfl
   ·exact hr x hx
   ·intro y hy
    rcases List.mem_or_eq_of_mem_set hy with hy | rfl
    ·exact hr row hm y hy
    ·exact hc _ (List.mem_cons_self ..)
theorem laidL_len (p : Int) (b : List Int) : (laidL (aheadN p) b).length = b.length + aheadN p := by
 unfold laidL four4
 have := c4z p
 simp; omega
theorem laidL_byte (a : Nat) (b : List Int) (hb : ∀ x, x ∈ b → 0 ≤ x ∧ x ≤ 255) : ∀ x, x ∈ laidL a b → 0 ≤ x ∧ x ≤ 255 := by
 intro x hx
 unfold laidL at hx
 rcases List.mem_append.1 hx with h | h
 ·have h := List.mem_of_mem_drop h
  simp only [four4, List.mem_cons, List.mem_nil_iff, or_false] at h
  rcases h with rfl | rfl | rfl | rfl <;> omega
 ·exact hb x h
theorem split_ev (p : Int) (K M : Nat) (b : List Int) (hmay : aiz.f p (K : Int) (M : Int) = some true) (hn : b.length ≤ 4096) :
  ∃ data, data.length = K ∧ (∀ r, r ∈ data → r.length = sizeN p K b.length) ∧ ((∀ x, x ∈ b → 0 ≤ x ∧ x ≤ 255) → ∀ r, r ∈ data → ∀ x, x ∈ r → 0 ≤ x ∧ x ≤ 255) ∧ aIz.fill (sizeN p K b.length) (laidL (aheadN p) b) 0 (List.replicate K (List.replicate (sizeN p K b.length) 0)) = some data ∧ Ev (fun k => aIz.f k p (K : Int) (M : Int) b) (data, 0) := by
 obtain ⟨p1, p2, k1, k2, m1, m2⟩ := bEz hmay
 have hz1 := sizeN_pos p K b.length
 have hz2 := sizeN_le p K b.length (by omega) (by omega) hn
 have hz3 := sizeN_room p K b.length (by omega)
 obtain ⟨data, q1, q2, q3, q4⟩ := fill_some (sizeN p K b.length) K hz1 (laidL (aheadN p) b) 0 (List.replicate K (List.replicate (sizeN p K b.length) 0)) (by simp) (fun r hr => by rw [List.eq_of_mem_replicate hr]; simp) (by rw [laidL_len]; omega)
 refine ⟨data, q2, q3, fun hb => q4 _ (laidL_byte _ b hb) (fun x hx c hc => by
  rw [List.eq_of_mem_replicate hx] at hc
  rw [List.eq_of_mem_replicate hc]
  omega), q1, ?_⟩
 obtain ⟨k0, hk0⟩ := size_ev p K M b.length hmay hn
 refine ⟨k0, fun k hk => ?_⟩
 have h1 : aBz.f k p (K : Int) (M : Int) (b.length : Int) = some ((sizeN p K b.length : Int), 0) := hk0 k hk
 show aIz.f k p (K : Int) (M : Int) b = some (data, 0)
 unfold aIz.f
 rw [h1, Option.bind_some, if_pos rfl, if_pos (by omega), if_pos (by omega), if_pos (by show (1 : Int) ≤ _; omega), if_pos (by show _ ≤ (100000 : Int); omega), if_pos (by omega), rule_eq p1 p2, Option.bind_some, if_pos (by have := c4z p; dsimp only; unfold aheadN; split <;> omega), Int.toNat_natCast, Int.toNat_natCast, Int.toNat_natCast, q1]
 rfl
theorem parV_len (L : Nat) (p : Int) (K M : Nat) (data : List (List Int)) (hmay : aiz.f p (K : Int) (M : Int) = some true) : (parV L p K M data).length = M := by
 obtain ⟨p1, p2, k1, k2, m1, m2⟩ := bEz hmay
 unfold parV
 rw [List.length_map, (cxz p K M (by omega) (by omega) (by omega) (by omega)).2]
theorem some_ev (a b c : Int) (ha : 0 ≤ a ∧ a ≤ 255) (hb : 0 ≤ b ∧ b ≤ 255) (hc : 0 ≤ c ∧ c ≤ 255) : ∃ (p : Int) (K M : Nat), baz.f a b c = some (p, (K : Int), (M : Int)) ∧ aiz.f p (K : Int) (M : Int) = some true ∧ (aiz.f 1 (K : Int) (M : Int) = some true) ∧ aiz.f 3 (K : Int) (mn (M : Int) 3) = some true := by
 have e1 : wrap64 (1 + Int.tmod (wrap64 a) 6) = 1 + a % 6 := by
  rw [show wrap64 a = a by unfold wrap64; omega, Int.tmod_eq_emod_of_nonneg (by omega)]; unfold wrap64; omega
 have e2 : wrap64 (1 + Int.tmod (wrap64 b) 8) = 1 + b % 8 := by
  rw [show wrap64 b = b by unfold wrap64; omega, Int.tmod_eq_emod_of_nonneg (by omega)]; unfold wrap64; omega
 have e3 : ∀ m : Int, 1 ≤ m → m ≤ 4 → wrap64 (1 + Int.tmod (wrap64 c) m) = 1 + c % m := fun m h1 h2 => by
  rw [show wrap64 c = c by unfold wrap64; omega, Int.tmod_eq_emod_of_nonneg (by omega)]
  have := Int.emod_nonneg c (show m ≠ 0 by omega)
  have := Int.emod_lt_of_pos c (show 0 < m by omega)
  unfold wrap64; omega
 unfold baz.f
 rw [e1, e2]
 obtain ⟨p, hp⟩ : ∃ p, 1 + a % 6 = p := ⟨_, rfl⟩
 obtain ⟨K, hK⟩ : ∃ K : Nat, 1 + b % 8 = (K : Int) := ⟨(1 + b % 8).toNat, by omega⟩
 have hK1 : 1 ≤ (K : Int) ∧ (K : Int) ≤ 8 := by omega
 rw [hp, hK]
 have case4 : ∀ (s : ByteArray) (x y z : Int) (m : Int), (m = 3 ∨ m = 4) → bmz.f p = some (s, x, y, z, m, true) → (∀ k M : Int, 1 ≤ k → k ≤ 8 → 1 ≤ M → M ≤ m → aiz.f p k M = some true) → ∃ (p' : Int) (K' M : Nat), ((bmz.f p).bind fun bt620 => (if bt620.2.2.2.2.1 = 0 then none else some (p, (K : Int), wrap64 (1 + Int.tmod (wrap64 c) bt620.2.2.2.2.1)))) = some (p', (K' : Int), (M : Int)) ∧ aiz.f p' (K' : Int) (M : Int) = some true ∧ (aiz.f 1 (K' : Int) (M : Int) = some true) ∧ aiz.f 3 (K' : Int) (mn (M : Int) 3) = some true := by
  intro s x y z m hm hof hmy
  have hcm : 0 ≤ c % m ∧ c % m < m := ⟨Int.emod_nonneg c (by omega), Int.emod_lt_of_pos c (by omega)⟩
  obtain ⟨M, hM⟩ : ∃ M : Nat, 1 + c % m = (M : Int) := ⟨(1 + c % m).toNat, by omega⟩
  have hM1 : 1 ≤ (M : Int) ∧ (M : Int) ≤ m := by omega
  refine ⟨p, K, M, ?_, hmy _ _ hK1.1 hK1.2 hM1.1 hM1.2, ?_, ?_⟩
  ·rw [hof, Option.bind_some]
   dsimp only
   rw [if_neg (by omega), e3 m (by omega) (by omega), hM]
  ·show (if (K : Int) ≥ 1 then (if (K : Int) ≤ 8 then (if (M : Int) ≥ 1 then some (decide ((M : Int) ≤ 4)) else some false) else some false) else some false) = some true
   rw [if_pos hK1.1, if_pos hK1.2, if_pos hM1.1]
   simp; omega
  ·show (if (K : Int) ≥ 1 then (if (K : Int) ≤ 8 then (if mn (M : Int) 3 ≥ 1 then some (decide (mn (M : Int) 3 ≤ 3)) else some false) else some false) else some false) = some true
   have hmn : 1 ≤ mn (M : Int) 3 ∧ mn (M : Int) 3 ≤ 3 := by unfold mn; split <;> omega
   rw [if_pos hK1.1, if_pos hK1.2, if_pos hmn.1]
   simp; omega
 have hmy : ∀ m : Int, (∀ k M : Int, aiz.f p k M = (if k ≥ 1 then (if k ≤ 8 then (if M ≥ 1 then some (decide (M ≤ m)) else some false) else some false) else some false)) → ∀ k M : Int, 1 ≤ k → k ≤ 8 → 1 ≤ M → M ≤ m → aiz.f p k M = some true := fun m h k M h1 h2 h3 h4 => by
  rw [h, if_pos h1, if_pos h2, if_pos h3]
  simpa using h4
 have hpc : p = 1 ∨ p = 2 ∨ p = 3 ∨ p = 4 ∨ p = 5 ∨ p = 6 := by omega
 clear hp e1 e2
 rcases hpc with rfl | rfl | rfl | rfl | rfl | rfl
 ·exact case4 _ _ _ _ 4 (.inr rfl) rfl (hmy 4 (fun _ _ => rfl))
 ·exact case4 _ _ _ _ 4 (.inr rfl) rfl (hmy 4 (fun _ _ => rfl))
 ·exact case4 _ _ _ _ 3 (.inl rfl) rfl (hmy 3 (fun _ _ => rfl))
 ·exact case4 _ _ _ _ 4 (.inr rfl) rfl (hmy 4 (fun _ _ => rfl))
 ·exact case4 _ _ _ _ 4 (.inr rfl) rfl (hmy 4 (fun _ _ => rfl))
 ·exact case4 _ _ _ _ 4 (.inr rfl) rfl (hmy 4 (fun _ _ => rfl))
end Go.Proofs.YtpdakdcmahlghaaGreat.XCo
end
