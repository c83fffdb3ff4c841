-- Joined by this work's own program (wip/tools/bundle.py) out of its texts: what this claim uses of them. Not trusted: Lean checks it.
import Derived.Lib.SlBytesConst
import Derived.Test.YtpdakdcmahlghaaGreatBReconAny16
section
namespace Go.Proofs.YtpdakdcmahlghaaGreat.XCo
open Go.RowKit Go.Proofs.YtpdakdcmahlghaaGreatW.PrintWords Go.Proofs.YtpdakdcmahlghaaGreatW.PrintLast Go.Proofs.YtpdakdcmahlghaaGreatW.PrintMore
attribute [local go_sem] aAz aBz aIz aJz atz auz aCz aDz
set_option linter.unusedVariables false
set_option linter.unusedSimpArgs false
attribute [local go_sem] Oper.semAt_some
def setAll (T : List (Nat × List Int)) (a : List (List Int)) : List (List Int) := T.foldl (fun a x => a.set x.1 x.2) a
theorem setAll_snoc (T : List (Nat × List Int)) (x : Nat × List Int) (a : List (List Int)) : setAll (T ++ [x]) a = (setAll T a).set x.1 x.2 := by simp [setAll]
def aGz.g (l : List (List Int)) (hv : List Bool) (d q : List (List Int)) (e : Int) : Option (List (List Int) × Int) :=
 if e = 0 then (if (d ++ q).length = l.length then (if hv.length = l.length then (if 1 ≤ d.length ∧ 1 ≤ q.length ∧ l.length ≤ 1000 then (if amz.small l = true then some (setAll (thereF 0 l hv) (d ++ q), 0) else none) else none) else none) else none) else none
def aGz.f (k : Nat) (a0_0 a0_1 a0_2 : Int) (l1 : List (List Int)) (l2 : List Bool) : Option (List (List Int) × Int) :=
 (akz.f k a0_0 a0_1 a0_2 l1 l2).bind fun d => if d.2 = 0 then ((amz.f k a0_0 a0_1 a0_2 d.1).bind fun q => aGz.g l1 l2 d.1 q.1 q.2) else some ([], d.2)
set_option maxRecDepth 100000 in
set_option maxHeartbeats 4000000 in
theorem aGz.bad (k : Nat) (p K M : Int) (A1 A2 : Option Addr) (c1 c2 : Nat) (l : List (List Int)) (hv : List Bool) (d1 : List (List Int)) (d2 : Int) (W : World)
  (hd : akz.f k p K M l hv = some (d1, d2)) (h0 : d2 ≠ 0) (hr1 : Kd.C (dM 5 .u8) W A1 l.length l) (hc1 : l.length ≤ c1) (hr2 : Kd.C Kd.bool W A2 hv.length hv) (hc2 : hv.length ≤ c2) :
  Calls Tryz.prog 29 #[.agg #[.int .i64 p, .int .i64 K, .int .i64 M], .slice A1 l.length c1, .slice A2 hv.length c2] W fun e w' => e = .returned (.tuple #[.slice none 0 0, .int .i64 d2]) ∧ Below W.heap.size W w' := by
 have HDA := Aside0.mk (fun (w1 : World) (hB : Below W.heap.size W w1) => akz.calls k p K M A1 c1 l A2 c2 hv d1 d2 w1 (Kd.aHz hr1 hB) hc1 (Kd.aHz hr2 hB) hc2 hd)
 generalize l.length = N at HDA ⊢
 generalize hv.length = N2 at HDA ⊢
 have hu := Tryz.underlying23
 have hb : (d2 != 0) = true := by simpa using h0
 have HB := Aside0.mk (abz (Below.refl W.heap.size W) (.cells #[.int .i64 p, .int .i64 K, .int .i64 M] 23))
 clear hd hr1 hc1 hr2 hc2 h0
 refine (callsIn_wide (n := 8)).1 (callsIn_of_wp_marks Tryz.func29 rfl trivial (wpIn_wide.2 ?_) rfl)
 simp only [Tryz.ntmps29, List.size_toArray, List.length_cons, List.length_nil, Nat.reduceAdd, Nat.reduceSub, Array.replicate_succ, Array.replicate_zero, List.push_toArray, List.append_toArray, List.nil_append, List.cons_append]
 go_wp2_with fail
 generalize W.alloc (.cells #[.int .i64 p, .int .i64 K, .int .i64 M] 23) = w0 at HB ⊢
 refine (HDA.out w0 HB.out).mono ?_
 rintro e w1 ⟨v, rfl, s1, hB1⟩
 obtain ⟨Av, cv, rfl⟩ := Kd.aPz (Kd.S_R s1)
 have HB1 := Aside0.mk (HB.out.trans (hB1.mono HB.out.size))
 generalize d1.length = nd at s1 ⊢
 clear hB1 HB HDA s1
 go_wp2
 refine bwz [] w1 (by simp) (fun D' hD' => by simp at hD') (fun w' hkp hsz hos htp hou => ?_)
 exact ⟨_, results_tmp2 rfl _ _ _, rfl, hos.trans HB1.out.os, htp.trans HB1.out.tape, hou.trans HB1.out.output, by rw [hsz]; exact HB1.out.size, fun q hq => (hkp q (Nat.lt_of_lt_of_le hq HB1.out.size) (by simp)).trans (HB1.out.block q hq)⟩
set_option maxRecDepth 100000 in
set_option maxHeartbeats 4000000 in
theorem aGz.go (k : Nat) (p K M : Int) (N0 : Nat) (A1 A2 : Option Addr) (c1 c2 : Nat) (l : List (List Int)) (hv : List Bool) (d1 q1 : List (List Int)) (W : World)
  (hd : akz.f k p K M l hv = some (d1, 0)) (hq : amz.f k p K M d1 = some (q1, 0)) (hN : l.length = N0) (hN2 : hv.length = N0) (hlen : d1.length + q1.length = N0) (hd0 : 1 ≤ d1.length) (hq0 : 1 ≤ q1.length) (hn1000 : N0 ≤ 1000) (hsm : ∀ r, r ∈ l → r.length ≤ 1000000)
  (hr1 : Kd.C (dM 5 .u8) W A1 l.length l) (hc1 : l.length ≤ c1) (hr2 : Kd.C Kd.bool W A2 hv.length hv) (hc2 : hv.length ≤ c2) :
  Calls Tryz.prog 29 #[.agg #[.int .i64 p, .int .i64 K, .int .i64 M], .slice A1 N0 c1, .slice A2 N0 c2] W fun e w' => ∃ v, e = .returned (.tuple #[v, .int .i64 0]) ∧ Kd.S (dM 5 .u8) 34 w' W.heap.size (fun _ => True) v (setAll (thereF 0 l hv) (d1 ++ q1)) ∧ Below W.heap.size W w' := by
 have HDA := Aside0.mk (fun (w1 : World) (hB : Below W.heap.size W w1) => akz.calls k p K M A1 c1 l A2 c2 hv d1 0 w1 (Kd.aHz hr1 hB) hc1 (Kd.aHz hr2 hB) hc2 hd)
 rw [hN, hN2] at HDA
 have HPA := Aside0.mk (fun (A : Option Addr) (c : Nat) (w1 : World) (hC : Kd.C (dM 5 .u8) w1 A d1.length d1) (hc : d1.length ≤ c) => amz.calls k p K M A c d1 q1 0 w1 hC hc hq)
 have HR1 := Aside0.mk hr1
 have HR2 := Aside0.mk hr2
 have HN := Aside0.mk hN
 have HN2 := Aside0.mk hN2
 have HSM := Aside0.mk hsm
 obtain ⟨nd, hnd⟩ : ∃ m, d1.length = m := ⟨_, rfl⟩
 obtain ⟨nq, hnq⟩ : ∃ m, q1.length = m := ⟨_, rfl⟩
 have HND := Aside0.mk hnd
 have HNQ := Aside0.mk hnq
 have HLEN := Aside0.mk (show nd + nq = N0 by omega)
 have hu := Tryz.underlying23
 have HB := Aside0.mk (abz (Below.refl W.heap.size W) (.cells #[.int .i64 p, .int .i64 K, .int .i64 M] 23))
 have HX := Aside0.mk (bIz W (.cells #[.int .i64 p, .int .i64 K, .int .i64 M] 23))
 have nd1 : 1 ≤ nd := by omega
 have nq1 : 1 ≤ nq := by omega
 rw [hnd] at HPA
 clear hd hq hN hN2 hlen hr1 hc1 hr2 hc2 hsm hd0 hq0 hnd hnq
 refine (callsIn_wide (n := 8)).1 (callsIn_of_wp_marks Tryz.func29 rfl trivial (wpIn_wide.2 ?_) rfl)
 simp only [Tryz.ntmps29, List.size_toArray, List.length_cons, List.length_nil, Nat.reduceAdd, Nat.reduceSub, Array.replicate_succ, Array.replicate_zero, List.push_toArray, List.append_toArray, List.nil_append, List.cons_append]
 go_wp2_with fail
 generalize W.alloc (.cells #[.int .i64 p, .int .i64 K, .int .i64 M] 23) = w0 at HB HX ⊢
 refine (HDA.out w0 HB.out).mono ?_
 rintro e w1 ⟨v1, rfl, s1, hB1⟩
 obtain ⟨Ad, cd, rfl, hcd, hCd⟩ := Kd.cyz (Kd.S_R s1)
 have HB1 := Aside0.mk (HB.out.trans (hB1.mono HB.out.size))
 have HX1 := Aside0.mk (aez HX.out hB1)
 rw [HND.out] at hCd hcd ⊢
 have HPC := Aside0.mk (HPA.out Ad cd w1 hCd hcd)
 have S1 := Aside0.mk s1
 have HBW0 := Aside0.mk (show W.heap.size ≤ w0.heap.size from HB.out.size)
 have q0 : w1.cell? ⟨W.heap.size, 0, none⟩ = some (.int .i64 p) := (aaz HX1.out 0).trans rfl
 have q1' : w1.cell? ⟨W.heap.size, 1, none⟩ = some (.int .i64 K) := (aaz HX1.out 1).trans rfl
 have q2 : w1.cell? ⟨W.heap.size, 2, none⟩ = some (.int .i64 M) := (aaz HX1.out 2).trans rfl
 clear hB1 HX HB HDA HPA s1 hCd hcd
 go_wp2_with fail
 refine HPC.out.mono ?_
 rintro e w2 ⟨v2, rfl, s2, hB2⟩
 obtain ⟨g2, cq, rfl, hg2, hg2l, -⟩ := Kd.N_form (Kd.S_N s2) (by rw [HNQ.out]; exact nq1)
 have HB2 := Aside0.mk (HB1.out.trans (hB2.mono HB1.out.size))
 have hs12 := Kd.cbz (Kd.coz (Kd.bBz (Kd.a4z S1.out) (ok' := fun k => k < w1.heap.size) (fun k hk => hk.2.2.1)) hB2) HBW0.out
 have hs22 := Kd.bBz (Kd.a4z s2) (ok' := fun k => w1.heap.size ≤ k) (fun k hk => hk.2.1)
 rw [HNQ.out] at hs22 ⊢
 rw [HND.out] at hs12
 have HS1 := Aside0.mk hs12
 have HS2 := Aside0.mk hs22
 have HBL := Aside0.mk (show nd + nq ≤ 1000 by have := HLEN.out; omega)
 have HLP := Aside0.mk (show 0 < (d1 ++ q1).length by rw [List.length_append, HND.out]; omega)
 have HLL := Aside0.mk (show (d1 ++ q1).length = N0 by rw [List.length_append, HND.out, HNQ.out]; exact HLEN.out)
 have HW1 := Aside0.mk (show W.heap.size ≤ w1.heap.size from HB1.out.size)
 clear s2 hB2 hs12 hs22 HPC q0 q1' q2 S1
 go_wp2_with ((with_reducible refine asz (b := .append) (xs := #[.tmp 30, .tmp 31]) rfl ?_); go_must (at_builtin; refine S_append_rows (dM 5 .u8) (w0 := W) W.heap.size w1.heap.size rfl (.tmp 30) (.tmp 31) 24 34 (.slice none 0 0) 24 rfl Tryz.underlying24 kr_ rfl (by decide) (by decide) _ d1 q1 g2 nq cq (fun k' => k' < w1.heap.size) (fun k' => w1.heap.size ≤ k') rfl rfl HS1.out HS2.out (fun k' h1 h2 => by omega) HW1.out HB2.out HB2.out.size ?aL ?_; (case aL => have := HBL.out; have := HND.out; omega)); intro v3 w3 ho3 hb3 hg3 hat3; obtain ⟨o3, cap3, rfl, -, -, -⟩ := Kd.N_form (Kd.S_N ho3) HLP.out; rw [HLL.out] at ho3 ⊢; have HO3 := Aside0.mk ho3; have HB3 := Aside0.mk hb3; clear ho3 hb3 hg3 hat3)
 have hth := there.calls A1 A2 N0 c1 N0 c2
 go_wp2_with (first | (go_at_call 58; refine (hth _).mono ?_; rintro e w' ⟨rfl, rfl⟩))
 clear hth
 obtain ⟨T, hT⟩ : ∃ T, thereF 0 l hv = T := ⟨_, rfl⟩
 have HTD := Aside0.mk hT
 have HTM := Aside0.mk (show ∀ x, x ∈ T → x.1 < N0 ∧ x.2.length ≤ 1000000 from fun x hx => by
  rw [← hT] at hx
  have h1 := thereF_lt 0 l hv x hx
  rw [HN.out] at h1
  exact ⟨by omega, HSM.out _ (egz 0 l hv x hx)⟩)
 clear hT
 have hX8 : (((w3.alloc (.cells #[.slice (some ⟨o3, 0, none⟩) N0 cap3] 24)).alloc (.cells #[.slice A1 N0 c1] 24)).alloc (.cells #[.slice A2 N0 c2] 38)).heap[w3.heap.size]? = some (.cells #[.slice (some ⟨o3, 0, none⟩) N0 cap3] 24 (0, 0)) := acz (acz (bIz w3 _) _) _
 have hXs : (((w3.alloc (.cells #[.slice (some ⟨o3, 0, none⟩) N0 cap3] 24)).alloc (.cells #[.slice A1 N0 c1] 24)).alloc (.cells #[.slice A2 N0 c2] 38)).heap[w3.heap.size + 1]? = some (.cells #[.slice A1 N0 c1] 24 (0, 0)) := acz (aWz _ _ _ (by simp)) _
 have hXh : (((w3.alloc (.cells #[.slice (some ⟨o3, 0, none⟩) N0 cap3] 24)).alloc (.cells #[.slice A1 N0 c1] 24)).alloc (.cells #[.slice A2 N0 c2] 38)).heap[w3.heap.size + 1 + 1]? = some (.cells #[.slice A2 N0 c2] 38 (0, 0)) := aWz _ _ _ (by simp)
 have hB4 : Below w3.heap.size w3 (((w3.alloc (.cells #[.slice (some ⟨o3, 0, none⟩) N0 cap3] 24)).alloc (.cells #[.slice A1 N0 c1] 24)).alloc (.cells #[.slice A2 N0 c2] 38)) := aSz (aSz (abz (Below.refl _ _) _) (abz (Below.refl _ _) _)) (abz (Below.refl _ _) _)
 have hsz : (((w3.alloc (.cells #[.slice (some ⟨o3, 0, none⟩) N0 cap3] 24)).alloc (.cells #[.slice A1 N0 c1] 24)).alloc (.cells #[.slice A2 N0 c2] 38)).heap.size = w3.heap.size + 1 + 1 + 1 := by simp
 generalize ((w3.alloc (.cells #[.slice (some ⟨o3, 0, none⟩) N0 cap3] 24)).alloc (.cells #[.slice A1 N0 c1] 24)).alloc (.cells #[.slice A2 N0 c2] 38) = w4 at hX8 hXs hXh hB4 hsz ⊢
 obtain ⟨b, hb⟩ : ∃ b, b = w3.heap.size := ⟨_, rfl⟩
 have hB4' := HB3.out.trans (hB4.mono HB3.out.size)
 have ho3 : o3 < b := hb ▸ Kd.S_lt HO3.out o3 (by simp [Value.ownBlock])
 have ho3b : W.heap.size ≤ o3 := Kd.cNz HO3.out o3 (by simp [Value.ownBlock])
 have HO4 := Aside0.mk (Kd.coz HO3.out hB4)
 rw [← hb] at hX8 hXs hXh hsz ⊢
 have HX8 := Aside0.mk hX8
 have HXS := Aside0.mk hXs
 have HXH := Aside0.mk hXh
 have HB4 := Aside0.mk hB4'
 have HSZ := Aside0.mk hsz
 have HFS := Aside0.mk (show Kd.F (dM 5 .u8) w4 (fun k => ¬ (k = o3)) A1 l.length l from Kd.bfz (Kd.bMz (C_F (Kd.d6z _ (Kd.heap_int _)) HR1.out) (fun k hk _ => hB4'.block k hk)) (fun k hk h => by have : k < W.heap.size := hk; omega))
 have HFH := Aside0.mk (show Kd.F Kd.bool w4 (fun k => ¬ (k = o3)) A2 hv.length hv from Kd.bfz (Kd.bMz (C_F Kd.heap_bool HR2.out) (fun k hk _ => hB4'.block k hk)) (fun k hk h => by have : k < W.heap.size := hk; omega))
 clear hX8 hXs hXh hsz hB4 hB4' hb HO3 HB3
 refine (wpIn_wide (n := 8)).1 ?_
 refine c0z (α := ThX) rfl (by omega) (gf := 93) (lb := #[.pointer (some ⟨b + 1, 0, none⟩), .pointer (some ⟨b + 1 + 1, 0, none⟩)]) rfl trivial (enters_of Tryz.func93 kr_ rfl)
  (there_seq (b + 1) (b + 1 + 1) w4.heap.size N0 c1 c2 (fun k => k = o3) A1 A2 l hv w4 w4 HFS.out HFH.out (Nat.le_refl _) (Nat.le_refl _) ⟨Nat.le_refl _, fun _ _ _ => rfl⟩ HN.out HN2.out (by omega) (by have := HLEN.out; omega) HXS.out HXH.out ⟨by have := HSZ.out; omega, by omega⟩ ⟨by have := HSZ.out; omega, by omega⟩) KpX.trans ?hKb (Below.refl _ _) (fun _ => rfl)
  (fun pre Wx => Kd.S (dM 5 .u8) 34 Wx W.heap.size (fun _ => True) (.slice (some ⟨o3, 0, none⟩) N0 cap3) (setAll (pre.map thK) (d1 ++ q1)) ∧ pre.map thK = T.take pre.length ∧ RX w4.heap.size o3 o3 o3 w4 Wx)
  ?hI ?hHd ?h0 (fun x => { tmps := #[.agg #[.int .i64 p, .int .i64 K, .int .i64 M], .slice A1 N0 c1, .slice A2 N0 c2, .pointer (some ⟨W.heap.size, 0, none⟩), undef, undef, .slice none 0 0, .int .i64 0, .slice Ad nd cd, .int .i64 0, .slice (some ⟨g2, 0, none⟩) nq cq, .pointer (some ⟨b, 0, none⟩), .int .i64 (x.1 : Int), .slice x.2.1 x.2.2.2.length x.2.2.1, .tuple #[.slice Ad nd cd, .int .i64 0], .agg #[.int .i64 p, .int .i64 K, .int .i64 M], .slice A1 N0 c1, .slice A2 N0 c2, .tuple #[.slice Ad nd cd, .int .i64 0], .slice Ad nd cd, .int .i64 0, .int .i64 0, .bool false, undef, .tuple #[.slice (some ⟨g2, 0, none⟩) nq cq, .int .i64 0], .agg #[.int .i64 p, .int .i64 K, .int .i64 M], .slice Ad nd cd, .tuple #[.slice (some ⟨g2, 0, none⟩) nq cq, .int .i64 0], .slice (some ⟨g2, 0, none⟩) nq cq, .int .i64 0, .slice Ad nd cd, .slice (some ⟨g2, 0, none⟩) nq cq, .slice (some ⟨o3, 0, none⟩) N0 cap3, .slice A1 N0 c1, .slice A2 N0 c2, .func (.func 93) #[] #[.pointer (some ⟨b + 1, 0, none⟩), .pointer (some ⟨b + 1 + 1, 0, none⟩)], .int .i64 (x.1 : Int), .slice x.2.1 x.2.2.2.length x.2.2.1, undef, undef, undef, undef, undef, undef, undef], defers := [] }) ?assign ?body ?done
 case hKb => exact fun Wx l o o' hl ho _ => ⟨(grownBy_putObj' Wx l o').size, fun k hk _ => World.putObj_heap_other (by omega)⟩
 case hI =>
  rintro s X Y r ⟨h1, h2, h6⟩ hg hr
  have hr' : ∀ q, r = some q → ∃ o : Obj, X.heap[q]? = some o ∧ o.isCells = false := fun q e => (hr q e).2
  refine ⟨c1z h1 (fun q oo hq ho => grownBy_keeps_cells hg hr' hq ho), h2, ⟨hg.os.trans h6.os, hg.tape.trans h6.tape, hg.output.trans h6.output, Nat.le_trans h6.size hg.size, fun k hk q1 q2 q3 => (hg.block k (Nat.lt_of_lt_of_le hk h6.size) (fun e => by have := (hr k e.symm).1; omega)).trans (h6.block k hk q1 q2 q3), fun k o ho hn => (hg.block k (Nat.lt_of_lt_of_le (apz ho) h6.size) (fun e => by have := (hr k e.symm).1; have := apz ho; omega)).trans (h6.walks k o ho hn)⟩⟩
 case hHd =>
  rintro m x - X Y r ⟨h0, h1, h2⟩ hg hr
  exact ⟨h0, h1, Kd.bMz h2 (fun k hk hlt => hg.block k hlt (fun e => by have := (hr k e.symm).1; have := hk.2; omega))⟩
 case h0 => exact ⟨HO4.out, rfl, RX.refl _ _ _ _ _⟩
 case assign =>
  intro l' x Wx K' hK
  gi_wp2
  exact hK
 case body =>
  rintro l' pre ⟨i, A', c', bb⟩ Wx ⟨h1, h2, h6⟩ ⟨hx0, hx1, hx2⟩ hlen
  dsimp only at hx0 hx1 hx2 ⊢
  rw [HTD.out] at hx0 hlen
  have hxm := HTM.out _ (List.mem_of_getElem? hx0)
  obtain ⟨nb, hnb⟩ : ∃ nb, bb.length = nb := ⟨_, rfl⟩
  have HNB := Aside0.mk hnb
  have hi : i < N0 := hxm.1
  have HTK := Aside0.mk (show (pre ++ [((i, A', c', bb) : ThX)]).map thK = T.take (pre ++ [((i, A', c', bb) : ThX)]).length by
   rw [List.map_append, h2, List.length_append, List.length_singleton, List.take_add_one, hx0]
   rfl)
  have HSA := Aside0.mk (show setAll ((pre ++ [((i, A', c', bb) : ThX)]).map thK) (d1 ++ q1) = (setAll (pre.map thK) (d1 ++ q1)).set i bb by
   rw [List.map_append]
   exact setAll_snoc _ _ _)
  have hcl := clone_b.calls A' c' bb Wx.drew (Kd.cjz (Kd.F_now hx2)) hxm.2
  rw [hnb] at hcl ⊢
  have HCL := Aside0.mk hcl
  have hc8 : Wx.drew.cell? ⟨b, 0, none⟩ = some (.slice (some ⟨o3, 0, none⟩) N0 cap3) := (aaz (h6.blk HX8.out (by have := HSZ.out; omega) (by omega) (by omega) (by omega)) 0).trans rfl
  have HH1 := Aside0.mk h1
  have HH6 := Aside0.mk h6
  have HSX := Aside0.mk (show w4.heap.size ≤ Wx.heap.size from h6.size)
  have i1 : (0 : Int) ≤ (i : Int) := by omega
  have i2 : (i : Int) < (N0 : Int) := by omega
  have hmo : Tryz.prog.follows .mixedOrders = true := by kernel_rfl
  have HFIN := Aside0.mk (show ∀ (w5 : World) (ua : Option Addr) (uc : Nat), Below Wx.heap.size Wx w5 → (Kd.int .u8).R 5 w5 Wx.heap.size (fun _ => True) (.slice ua nb uc) bb →
    ∃ v0, w5.cell? ⟨o3, i, none⟩ = some v0 ∧ w5.frozen? ⟨o3, i, none⟩ = false ∧ KeepsFrom w4.heap.size Wx (w5.setCell ⟨o3, i, none⟩ (.slice ua nb uc)) ∧ KpX w4.heap.size (fun k => k = o3) Wx (w5.setCell ⟨o3, i, none⟩ (.slice ua nb uc)) ∧ (fun pre Wx => Kd.S (dM 5 .u8) 34 Wx W.heap.size (fun _ => True) (.slice (some ⟨o3, 0, none⟩) N0 cap3) (setAll (pre.map thK) (d1 ++ q1)) ∧ pre.map thK = T.take pre.length ∧ RX w4.heap.size o3 o3 o3 w4 Wx) (pre ++ [((i, A', c', bb) : ThX)]) (w5.setCell ⟨o3, i, none⟩ (.slice ua nb uc)) by
   intro w5 ua uc hb5 hu
   obtain ⟨⟨v0, p1⟩, p2, p3⟩ := S_putrow HH1.out (Nat.le_trans HB4.out.size HSX.out) hb5 hu i hi
   have hsc : ∀ k, k ≠ o3 → (w5.setCell ⟨o3, i, none⟩ (.slice ua nb uc)).heap[k]? = w5.heap[k]? := fun k hk => Below.heap_setCell w5 ⟨o3, i, none⟩ (.slice ua nb uc) k hk
   obtain ⟨ocs, hocs⟩ := Kd.cVz HH1.out o3 (by simp [Value.ownBlock])
   have hRX : RX w4.heap.size o3 o3 o3 Wx (w5.setCell ⟨o3, i, none⟩ (.slice ua nb uc)) := ⟨hb5.os, hb5.tape, hb5.output, by simpa using hb5.size, fun k hk e1 _ _ => (hsc k e1).trans (hb5.block k (Nat.lt_of_lt_of_le hk HSX.out)), fun k o ho hn => (hsc k (fun e => by
    subst e
    rw [hocs] at ho; cases ho; cases hn)).trans ((hb5.block k (apz ho)).trans ho)⟩
   exact ⟨v0, p1, p2, ⟨hRX.size, fun k o _ ho hn => hRX.walks k o ho hn⟩, ⟨hRX.size, fun k hk he => hRX.block k hk he he he⟩, by rw [HSA.out]; exact p3, HTK.out, HH6.out.trans hRX⟩)
  clear h1 h2 h6 hx0 hx1 hx2 hlen hxm hcl hnb
  gi_wp2
  refine edz (m := 6) (S := fun w' => w'.cell? ⟨b, 0, none⟩ = some (.slice (some ⟨o3, 0, none⟩) N0 cap3)) (ds := [5]) (bA 6 0) kr_ rfl rfl kr_ (by rintro ⟨_, _, h⟩; exact h) (hc8) (fun hHeld => ?_)
  refine pu_ 1 39 2 ?_
  refine pu_ 2 40 6 ?_
  refine tk_ 0 38 7 hHeld ?_
  refine one_ (i := 3) (N := some 41) (bA 6 15) rfl rfl kr_ (by decide) (fun K hK => ?_)
  refine goes_ Tryz.func65 kr_ rfl #[.slice A' nb c'] (by rfl) rfl rfl am_ ?_
  with_reducible refine (HCL.out).mono ?_
  rintro e w5 ⟨u, rfl, hu, hb5⟩
  refine ⟨_, rfl, ?_⟩
  obtain ⟨ua, uc, rfl⟩ := Kd.aPz hu
  rw [HNB.out] at hu ⊢
  have hb5 := Below.trans (bPz (Below.refl Wx.heap.size Wx)) hb5
  obtain ⟨v0, p1, p2, p3⟩ := HFIN.out w5 ua uc hb5 hu
  have P3 := Aside0.mk p3
  have hc8' := alz (show Below Wx.heap.size Wx w5 from hb5) hc8
  clear p3 hu hb5
  refine hK.out _ _ (hc8') (fun hHeld => ?_)
  clear hK K
  refine norm_ (a' := ?_) ?_ ?_
  rotate_left
  ·show Act.put _ (some 41) _ = _
   simp only [Act.put, List.setIfInBounds_toArray, List.set_cons_zero, List.set_cons_succ, i64_w, i32_w]
   rfl
  refine pu_ 4 42 31 ?_
  refine last_ (i := 5) (N := none) (bA 6 63) rfl rfl kr_ (by decide) (fun K hK => ?_)
  refine skip_ (w1 := ?_) (by rfl) rfl ?_ ?_
  rotate_left
  ·go_simp
   rfl
  refine hK.out _ _ ?_
  clear hK K
  refine done_ kr_ ?_
  exact P3.out
 case done =>
  rintro D xs Wx hD hxs ⟨h1, h2, h6⟩ hDd
  rw [hxs] at h1
  have HFN := Aside0.mk h1
  have hB := HB4.out.trans (show Below W.heap.size w4 Wx from ⟨h6.os, h6.tape, h6.output, h6.size, fun k hk => h6.block k (by have := HSZ.out; omega) (by omega) (by omega) (by omega)⟩)
  have HBX := Aside0.mk hB
  have hc8 : Wx.cell? ⟨b, 0, none⟩ = some (.slice (some ⟨o3, 0, none⟩) N0 cap3) := (aaz (h6.blk HX8.out (by have := HSZ.out; omega) (by omega) (by omega) (by omega)) 0).trans rfl
  have HDD := Aside0.mk hDd
  have HDN := Aside0.mk hD
  clear h1 h2 h6 hDd hD hB hxs
  simp only [Exit.inBlock, Exit.then]
  go_wp2
  refine bwz [D] Wx (by simp) (fun D' hD' => by rw [List.mem_singleton] at hD'; rw [hD']; exact HDD.out) (fun w' hkp hsz hos htp hou => ?_)
  have hcc : ∀ (q : Nat) (oo : Obj), Wx.heap[q]? = some oo → oo.isCells = true → w'.heap[q]? = Wx.heap[q]? := fun q oo hq ho => hkp q (apz hq) (fun hm => by
   rw [List.mem_singleton] at hm
   subst hm
   rw [HDD.out] at hq; cases hq; cases ho)
  exact ⟨_, results_tmp2 rfl _ _ _, _, rfl, c1z HFN.out hcc, hos.trans HBX.out.os, htp.trans HBX.out.tape, hou.trans HBX.out.output, by rw [hsz]; exact HBX.out.size, fun q hq => (hkp q (Nat.lt_of_lt_of_le hq HBX.out.size) (fun hm => by
   rw [List.mem_singleton] at hm
   have := HDN.out; have := HB4.out.size
   omega)).trans (HBX.out.block q hq)⟩
theorem aGz.calls (k : Nat) (a0_0 a0_1 a0_2 : Int) (A1 : Option Addr) (c1 : Nat) (l1 : List (List Int)) (A2 : Option Addr) (c2 : Nat) (l2 : List Bool) (r1 : List (List Int)) (r2 : Int) (w : World) (hr1 : Kd.C (Kd.slice 5 (Kd.int .u8)) w A1 l1.length l1) (hc1 : l1.length ≤ c1) (hr2 : Kd.C Kd.bool w A2 l2.length l2) (hc2 : l2.length ≤ c2) (h : aGz.f k a0_0 a0_1 a0_2 l1 l2 = some (r1, r2)) :
  Calls Tryz.prog 29 #[.agg #[.int .i64 a0_0, .int .i64 a0_1, .int .i64 a0_2], .slice A1 l1.length c1, .slice A2 l2.length c2] w fun e w' => ∃ v0_ : Value, e = .returned (.tuple #[v0_, .int .i64 r2]) ∧ Kd.S (Kd.slice 5 (Kd.int .u8)) 34 w' w.heap.size (fun _ => True) v0_ r1 ∧ Below w.heap.size w w' := by
 unfold aGz.f at h
 obtain ⟨⟨d1, d2⟩, hd, h⟩ := Option.bind_eq_some_iff.1 h
 dsimp only at h
 by_cases h0 : d2 = 0
 ·subst h0
  rw [if_pos rfl] at h
  obtain ⟨⟨q1, q2⟩, hq, h⟩ := Option.bind_eq_some_iff.1 h
  unfold aGz.g at h
  dsimp only at h
  have cut : ∀ {p : Prop} [Decidable p] {a : Option (List (List Int) × Int)}, (if p then a else none) = some (r1, r2) → p ∧ a = some (r1, r2) := by
   intro p _ a hh
   by_cases hp : p
   ·rw [if_pos hp] at hh; exact ⟨hp, hh⟩
   ·rw [if_neg hp] at hh; cases hh
  obtain ⟨e1, h⟩ := cut h
  obtain ⟨e2, h⟩ := cut h
  obtain ⟨e3, h⟩ := cut h
  obtain ⟨e4, h⟩ := cut h
  obtain ⟨e5, h⟩ := cut h
  simp only [Option.some.injEq, Prod.mk.injEq] at h
  obtain ⟨rfl, rfl⟩ := h
  subst e1
  have hsm : ∀ r, r ∈ l1 → r.length ≤ 1000000 := by
   simp only [amz.small, Bool.and_eq_true, decide_eq_true_eq, List.all_eq_true] at e5
   exact e5.2
  have := aGz.go k a0_0 a0_1 a0_2 l1.length A1 A2 c1 c2 l1 l2 d1 q1 w hd hq rfl e3 (by rw [← List.length_append]; exact e2) e4.1 e4.2.1 e4.2.2 hsm hr1 hc1 hr2 hc2
  rw [← e3] at this ⊢
  rw [e3] at this ⊢
  exact this
 ·rw [if_neg h0] at h
  simp only [Option.some.injEq, Prod.mk.injEq] at h
  obtain ⟨rfl, rfl⟩ := h
  refine (aGz.bad k a0_0 a0_1 a0_2 A1 A2 c1 c2 l1 l2 d1 d2 w hd h0 hr1 hc1 hr2 hc2).mono ?_
  rintro e w' ⟨rfl, hB⟩
  exact ⟨_, rfl, Kd.S_nil _ _ _ _ _, hB⟩
end Go.Proofs.YtpdakdcmahlghaaGreat.XCo
end
section
namespace Go.Proofs.YtpdakdcmahlghaaGreat.XCo
open Go.RowKit Go.Proofs.YtpdakdcmahlghaaGreatW.PrintWords Go.Proofs.YtpdakdcmahlghaaGreatW.PrintLast Go.Proofs.YtpdakdcmahlghaaGreatW.PrintMore
attribute [local go_sem] aAz aBz aIz aJz atz auz aCz aDz
set_option linter.unusedVariables false
set_option linter.unusedSimpArgs false
def bqz.f (_ : Nat) : Option (Bool) := some true
theorem awake12.one : aGz.f 40 1 2 1 [[], [97, 98], [99, 100]] [false, true, true] = some ([[2, 6], [97, 98], [99, 100]], 0) := by kernel_rfl
theorem awake12.two : aGz.f 40 1 2 1 [[], [], [99, 100]] [false, false, true] = some ([], 5) := by kernel_rfl
theorem C_cells {W : World} {g : Nat} {vs : List Value} {xs : List (List Int)} (h : W.heap[g]? = some (.cells vs.toArray 34 (0, 0))) (hl : xs.length ≤ 1000) (hk : ∀ (j : Nat) (x : List Int), xs[j]? = some x → ∃ (A : Option Addr) (c : Nat), vs[j]? = some (.slice A x.length c) ∧ x.length ≤ c ∧ Kd.C (Kd.int .u8) W A x.length x) :
  Kd.C (Kd.slice 5 (Kd.int .u8)) W (some ⟨g, 0, none⟩) xs.length xs := by
 refine ⟨rfl, by omega, fun _ => ⟨_, rfl, fun j p hp => ?_⟩⟩
 obtain ⟨A, c, hv, hc, hC⟩ := hk j p hp
 refine ⟨[.slice A p.length c], rfl, ⟨A, c, rfl, hc, hC⟩, fun i u hu => ?_⟩
 cases i with
 | succ i => simp at hu
 | zero =>
  obtain rfl : Value.slice A p.length c = u := by simpa using hu
  rw [show (⟨g, 0, none⟩ : Addr).add (j * (Kd.slice 5 (Kd.int .u8)).sz + 0) = ⟨g, j, none⟩ from by
   show (⟨g, 0, none⟩ : Addr).add (j * 1 + 0) = _
   unfold Addr.add
   split <;> simp_all, aaz h j]
  simpa using hv
theorem C_bools {W : World} {g : Nat} {t : TypeId} {xs : List Bool} (h : W.heap[g]? = some (.cells (xs.map Value.bool).toArray t (0, 0))) (hl : xs.length ≤ 1000) : Kd.C Kd.bool W (some ⟨g, 0, none⟩) xs.length xs := by
 refine ⟨rfl, by omega, fun _ => ⟨_, rfl, fun j p hp => ⟨[.bool p], rfl, rfl, fun i u hu => ?_⟩⟩⟩
 cases i with
 | succ i => simp at hu
 | zero =>
  obtain rfl : Value.bool p = u := by simpa using hu
  rw [show (⟨g, 0, none⟩ : Addr).add (j * Kd.bool.sz + 0) = ⟨g, j, none⟩ from by
   show (⟨g, 0, none⟩ : Addr).add (j * 1 + 0) = _
   unfold Addr.add
   split <;> simp_all, aaz h j]
  simp [hp]
theorem C_nil8 (W : World) : Kd.C (Kd.int .u8) W none 0 [] := ⟨rfl, by omega, fun h => absurd h (by omega)⟩
set_option maxRecDepth 100000 in
set_option maxHeartbeats 4000000 in
theorem bqz.calls (k : Nat) (r : Bool) (w : World) (h : bqz.f k = some r) :
  Calls Tryz.prog 26 #[] w fun e w' => e = .returned (.bool r) ∧ Below w.heap.size w w' := by
  obtain rfl : true = r := by injection h
  clear h
  have kc := fun (w : World) (C : Array Value) (n c : Nat) => Lib.run_convert_bytes_const (P := Tryz.prog) w 34 5 C n c Tryz.underlying34 Tryz.underlying5
  have kd : ∀ (W : World) (o : Obj) (C : Array Value) (n c : Nat), Sem.run Tryz.prog (convert 34 34 (.slice (some ⟨W.heap.size + 1, 0, none⟩) n c)) ((W.alloc o).alloc (.cells C 5)) = Result.ok (.slice (some ⟨W.heap.size + 1, 0, none⟩) n c) ((W.alloc o).alloc (.cells C 5 (C.size, C.size + 1))) := fun W o C n c => by
    have h := kc (W.alloc o) C n c
    rw [World.size_alloc] at h
    exact h
  have ke : ∀ (W : World) (o o' : Obj) (C : Array Value) (n c : Nat), Sem.run Tryz.prog (convert 34 34 (.slice (some ⟨W.heap.size + 1 + 1, 0, none⟩) n c)) (((W.alloc o).alloc o').alloc (.cells C 5)) = Result.ok (.slice (some ⟨W.heap.size + 1 + 1, 0, none⟩) n c) (((W.alloc o).alloc o').alloc (.cells C 5 (C.size, C.size + 1))) := fun W o o' C n c => by
    have h := kc ((W.alloc o).alloc o') C n c
    rw [World.size_alloc, World.size_alloc] at h
    exact h
  have HR1 := Aside0.mk (fun (W : World) (A B : Option Addr) (hr : Kd.C (Kd.slice 5 (Kd.int .u8)) W A 3 [[], [97, 98], [99, 100]]) (hb : Kd.C Kd.bool W B 3 [false, true, true]) => aGz.calls 40 1 2 1 A 3 [[], [97, 98], [99, 100]] B 3 [false, true, true] [[2, 6], [97, 98], [99, 100]] 0 W hr (by decide) hb (by decide) awake12.one)
  have HR2 := Aside0.mk (fun (W : World) (A B : Option Addr) (hr : Kd.C (Kd.slice 5 (Kd.int .u8)) W A 3 [[], [], [99, 100]]) (hb : Kd.C Kd.bool W B 3 [false, false, true]) => aGz.calls 40 1 2 1 A 3 [[], [], [99, 100]] B 3 [false, false, true] [] 5 W hr (by decide) hb (by decide) awake12.two)
  have hu := Tryz.underlying23
  go_enter Tryz.func26, Tryz.ntmps26
  go_wp2_with fail
  have hX0 : (((((w.alloc (.cells #[.int .i64 1, .int .i64 2, .int .i64 1] 23)).alloc (.cells #[.int .u8 97, .int .u8 98] 5 (2, 3))).alloc (.cells #[.int .u8 99, .int .u8 100] 5 (2, 3))).alloc (.cells #[.slice none 0 0, .slice (some ⟨w.heap.size + 1, 0, none⟩) 2 2, .slice (some ⟨w.heap.size + 1 + 1, 0, none⟩) 2 2] 34)).alloc (.cells #[.bool false, .bool true, .bool true] 4)).heap[w.heap.size]? = some (.cells #[.int .i64 1, .int .i64 2, .int .i64 1] 23) := acz (acz (acz (acz (bIz w _) _) _) _) _
  have hX1 : (((((w.alloc (.cells #[.int .i64 1, .int .i64 2, .int .i64 1] 23)).alloc (.cells #[.int .u8 97, .int .u8 98] 5 (2, 3))).alloc (.cells #[.int .u8 99, .int .u8 100] 5 (2, 3))).alloc (.cells #[.slice none 0 0, .slice (some ⟨w.heap.size + 1, 0, none⟩) 2 2, .slice (some ⟨w.heap.size + 1 + 1, 0, none⟩) 2 2] 34)).alloc (.cells #[.bool false, .bool true, .bool true] 4)).heap[w.heap.size + 1]? = some (.cells #[.int .u8 97, .int .u8 98] 5 (2, 3)) := acz (acz (acz (aWz _ _ _ (by simp)) _) _) _
  have hX2 : (((((w.alloc (.cells #[.int .i64 1, .int .i64 2, .int .i64 1] 23)).alloc (.cells #[.int .u8 97, .int .u8 98] 5 (2, 3))).alloc (.cells #[.int .u8 99, .int .u8 100] 5 (2, 3))).alloc (.cells #[.slice none 0 0, .slice (some ⟨w.heap.size + 1, 0, none⟩) 2 2, .slice (some ⟨w.heap.size + 1 + 1, 0, none⟩) 2 2] 34)).alloc (.cells #[.bool false, .bool true, .bool true] 4)).heap[w.heap.size + 1 + 1]? = some (.cells #[.int .u8 99, .int .u8 100] 5 (2, 3)) := acz (acz (aWz _ _ _ (by simp)) _) _
  have hX3 : (((((w.alloc (.cells #[.int .i64 1, .int .i64 2, .int .i64 1] 23)).alloc (.cells #[.int .u8 97, .int .u8 98] 5 (2, 3))).alloc (.cells #[.int .u8 99, .int .u8 100] 5 (2, 3))).alloc (.cells #[.slice none 0 0, .slice (some ⟨w.heap.size + 1, 0, none⟩) 2 2, .slice (some ⟨w.heap.size + 1 + 1, 0, none⟩) 2 2] 34)).alloc (.cells #[.bool false, .bool true, .bool true] 4)).heap[w.heap.size + 1 + 1 + 1]? = some (.cells #[.slice none 0 0, .slice (some ⟨w.heap.size + 1, 0, none⟩) 2 2, .slice (some ⟨w.heap.size + 1 + 1, 0, none⟩) 2 2] 34) := acz (aWz _ _ _ (by simp)) _
  have hX4 : (((((w.alloc (.cells #[.int .i64 1, .int .i64 2, .int .i64 1] 23)).alloc (.cells #[.int .u8 97, .int .u8 98] 5 (2, 3))).alloc (.cells #[.int .u8 99, .int .u8 100] 5 (2, 3))).alloc (.cells #[.slice none 0 0, .slice (some ⟨w.heap.size + 1, 0, none⟩) 2 2, .slice (some ⟨w.heap.size + 1 + 1, 0, none⟩) 2 2] 34)).alloc (.cells #[.bool false, .bool true, .bool true] 4)).heap[w.heap.size + 1 + 1 + 1 + 1]? = some (.cells #[.bool false, .bool true, .bool true] 4) := aWz _ _ _ (by simp)
  have hB : Below w.heap.size w (((((w.alloc (.cells #[.int .i64 1, .int .i64 2, .int .i64 1] 23)).alloc (.cells #[.int .u8 97, .int .u8 98] 5 (2, 3))).alloc (.cells #[.int .u8 99, .int .u8 100] 5 (2, 3))).alloc (.cells #[.slice none 0 0, .slice (some ⟨w.heap.size + 1, 0, none⟩) 2 2, .slice (some ⟨w.heap.size + 1 + 1, 0, none⟩) 2 2] 34)).alloc (.cells #[.bool false, .bool true, .bool true] 4)) := abz (abz (abz (abz (abz (Below.refl _ _) _) _) _) _) _
  generalize ((((w.alloc (.cells #[.int .i64 1, .int .i64 2, .int .i64 1] 23)).alloc (.cells #[.int .u8 97, .int .u8 98] 5 (2, 3))).alloc (.cells #[.int .u8 99, .int .u8 100] 5 (2, 3))).alloc (.cells #[.slice none 0 0, .slice (some ⟨w.heap.size + 1, 0, none⟩) 2 2, .slice (some ⟨w.heap.size + 1 + 1, 0, none⟩) 2 2] 34)).alloc (.cells #[.bool false, .bool true, .bool true] 4) = w0 at hX0 hX1 hX2 hX3 hX4 hB ⊢
  have hcc := C_cells (vs := [.slice none 0 0, .slice (some ⟨w.heap.size + 1, 0, none⟩) 2 2, .slice (some ⟨w.heap.size + 1 + 1, 0, none⟩) 2 2]) (xs := [[], [97, 98], [99, 100]]) hX3 (by decide) (fun j x hx => by
    match j, hx with
    | 0, hx => obtain rfl : [] = x := by simpa using hx
               exact ⟨none, 0, rfl, Nat.le_refl _, C_nil8 _⟩
    | 1, hx => obtain rfl : [97, 98] = x := by simpa using hx
               exact ⟨_, 2, rfl, Nat.le_refl _, C_numsF (xs := [97, 98]) (fr := (2, 3)) hX1 (by decide)⟩
    | 2, hx => obtain rfl : [99, 100] = x := by simpa using hx
               exact ⟨_, 2, rfl, Nat.le_refl _, C_numsF (xs := [99, 100]) (fr := (2, 3)) hX2 (by decide)⟩
    | j + 3, hx => simp at hx)
  refine (HR1.out w0 _ _ hcc (C_bools (xs := [false, true, true]) hX4 (by decide))).mono ?_
  rintro e w1 ⟨v, rfl, s1, b1⟩
  have HB1 := Aside0.mk (hB.trans (b1.mono hB.size))
  have HX1 := Aside0.mk (aez hX0 b1)
  obtain ⟨gg, c, rfl, -, -, -⟩ := Kd.N_form (Kd.S_N s1) (by decide)
  obtain ⟨-, hc, hC⟩ := Kd.bmz (Kd.S_N s1)
  have HC := Aside0.mk hC
  obtain ⟨ad, A2, c2, he, e2, -, C2⟩ := biz hC 0 [2, 6] rfl
  obtain rfl := Option.some.inj he
  rw [bZz] at e2
  have HE2 := Aside0.mk e2
  have HC2 := Aside0.mk C2
  have hl3 : ([[2, 6], [97, 98], [99, 100]] : List (List Int)).length = 3 := rfl
  rw [hl3] at HC hc ⊢
  have hx0 : w1.cell? ⟨w.heap.size, 0, none⟩ = some (.int .i64 1) := (aaz HX1.out 0).trans rfl
  have hx1 : w1.cell? ⟨w.heap.size, 1, none⟩ = some (.int .i64 2) := (aaz HX1.out 1).trans rfl
  have hx2 : w1.cell? ⟨w.heap.size, 2, none⟩ = some (.int .i64 1) := (aaz HX1.out 2).trans rfl
  clear hX0 hX1 hX2 hX3 hX4 hB hcc s1 b1 hC he C2 e2 HR1 hl3
  go_wp2_with fail
  have hY1 : (((w1.alloc (.cells #[.int .u8 99, .int .u8 100] 5 (2, 3))).alloc (.cells #[.slice none 0 0, .slice none 0 0, .slice (some ⟨w1.heap.size, 0, none⟩) 2 2] 34)).alloc (.cells #[.bool false, .bool false, .bool true] 4)).heap[w1.heap.size]? = some (.cells #[.int .u8 99, .int .u8 100] 5 (2, 3)) := acz (acz (bIz w1 _) _) _
  have hY2 : (((w1.alloc (.cells #[.int .u8 99, .int .u8 100] 5 (2, 3))).alloc (.cells #[.slice none 0 0, .slice none 0 0, .slice (some ⟨w1.heap.size, 0, none⟩) 2 2] 34)).alloc (.cells #[.bool false, .bool false, .bool true] 4)).heap[w1.heap.size + 1]? = some (.cells #[.slice none 0 0, .slice none 0 0, .slice (some ⟨w1.heap.size, 0, none⟩) 2 2] 34) := acz (aWz _ _ _ (by simp)) _
  have hY3 : (((w1.alloc (.cells #[.int .u8 99, .int .u8 100] 5 (2, 3))).alloc (.cells #[.slice none 0 0, .slice none 0 0, .slice (some ⟨w1.heap.size, 0, none⟩) 2 2] 34)).alloc (.cells #[.bool false, .bool false, .bool true] 4)).heap[w1.heap.size + 1 + 1]? = some (.cells #[.bool false, .bool false, .bool true] 4) := aWz _ _ _ (by simp)
  have hB3 : Below w1.heap.size w1 (((w1.alloc (.cells #[.int .u8 99, .int .u8 100] 5 (2, 3))).alloc (.cells #[.slice none 0 0, .slice none 0 0, .slice (some ⟨w1.heap.size, 0, none⟩) 2 2] 34)).alloc (.cells #[.bool false, .bool false, .bool true] 4)) := abz (abz (abz (Below.refl _ _) _) _) _
  generalize ((w1.alloc (.cells #[.int .u8 99, .int .u8 100] 5 (2, 3))).alloc (.cells #[.slice none 0 0, .slice none 0 0, .slice (some ⟨w1.heap.size, 0, none⟩) 2 2] 34)).alloc (.cells #[.bool false, .bool false, .bool true] 4) = w3 at hY1 hY2 hY3 hB3 ⊢
  have hcc := C_cells (vs := [.slice none 0 0, .slice none 0 0, .slice (some ⟨w1.heap.size, 0, none⟩) 2 2]) (xs := [[], [], [99, 100]]) hY2 (by decide) (fun j x hx => by
    match j, hx with
    | 0, hx => obtain rfl : [] = x := by simpa using hx
               exact ⟨none, 0, rfl, Nat.le_refl _, C_nil8 _⟩
    | 1, hx => obtain rfl : [] = x := by simpa using hx
               exact ⟨none, 0, rfl, Nat.le_refl _, C_nil8 _⟩
    | 2, hx => obtain rfl : [99, 100] = x := by simpa using hx
               exact ⟨_, 2, rfl, Nat.le_refl _, C_numsF (xs := [99, 100]) (fr := (2, 3)) hY1 (by decide)⟩
    | j + 3, hx => simp at hx)
  refine (HR2.out w3 _ _ hcc (C_bools (xs := [false, false, true]) hY3 (by decide))).mono ?_
  rintro e w4 ⟨v4, rfl, s4, b4⟩
  obtain ⟨A4, c4, rfl⟩ := Kd.aPz (Kd.S_R s4)
  have hB4 := hB3.trans (b4.mono hB3.size)
  have HB4 := Aside0.mk (HB1.out.trans (hB4.mono HB1.out.size))
  have hst := Kd.C_string (P := Tryz.prog) (c := c2) Tryz.underlying34 Tryz.underlying5 Tryz.underlying9 (Kd.aHz HC2.out hB4)
  have hss : (strOfNums [2, 6] : ByteArray) = ⟨#[2, 6]⟩ := by kernel_rfl
  rw [hss] at hst
  have e2 : w4.cell? ⟨gg, 0, none⟩ = some (.slice A2 ([2, 6] : List Int).length c2) := alz hB4 HE2.out
  have hl2 : ([2, 6] : List Int).length = 2 := rfl
  rw [hl2] at hst e2
  clear hY1 hY2 hY3 hB3 hcc s4 b4 hB4 HR2 kc kd ke hx0 hx1 hx2 hss hl2
  go_wp2
  go_ret
  exact ⟨rfl, HB4.out⟩
def ajz.l0 : Nat → List (List Int) → List (List Int) → Int → Option (Bool)
 | 0, _, _, _ => none
 | k + 1, x0, x1, x5 => if x5 < (x0.length : Int) then (if 0 ≤ x5 then (if x5 < (x1.length : Int) then (if (strOfNums (x0.getD x5.toNat [])).toList = (strOfNums (x1.getD x5.toNat [])).toList then (ajz.l0 k x0 x1 (wrap64 (x5 + 1))) else (some false)) else (none)) else (none)) else (some true)
def ajz.f (k : Nat) (l0 : List (List Int)) (l1 : List (List Int)) : Option (Bool) := if (l0.length : Int) = (l1.length : Int) then (ajz.l0 k l0 l1 0) else (some false)
set_option maxRecDepth 100000 in
set_option maxHeartbeats 4000000 in
theorem ajz.calls (k : Nat) (A0 : Option Addr) (c0 : Nat) (l0 : List (List Int)) (A1 : Option Addr) (c1 : Nat) (l1 : List (List Int)) (r : Bool) (w : World) (hr0 : Kd.C (Kd.slice 5 (Kd.int .u8)) w A0 l0.length l0) (hc0 : l0.length ≤ c0) (hr1 : Kd.C (Kd.slice 5 (Kd.int .u8)) w A1 l1.length l1) (hc1 : l1.length ≤ c1) (h : ajz.f k l0 l1 = some r) :
  Calls Tryz.prog 21 #[.slice A0 l0.length c0, .slice A1 l1.length c1] w fun e w' => e = .returned (.bool r) ∧ Drawn0 w w' := by
 have HR0 := Aside0.mk hr0
 have HR1 := Aside0.mk hr1
 unfold ajz.f at h
 by_cases hl : (l0.length : Int) = (l1.length : Int)
 case neg =>
  rw [if_neg hl] at h
  obtain rfl := Option.some.inj h
  generalize l0.length = n0 at hl ⊢
  generalize l1.length = n1 at hl ⊢
  have b1 : ((n0 : Int) != (n1 : Int)) = true := bne_iff_ne.2 hl
  clear hl h hr0 hr1 hc0 hc1
  go_enter Tryz.func21, Tryz.ntmps21
  go_wp2
  go_ret
  exact ⟨rfl, Drawn0.refl _⟩
 rw [if_pos hl] at h
 obtain ⟨n, hn⟩ : ∃ n, l0.length = n := ⟨_, rfl⟩
 have hn1 : l1.length = n := by omega
 have HN0 := Aside0.mk hn
 have HN1 := Aside0.mk hn1
 have HH := Aside0.mk h
 have HM := Aside0.mk (show n ≤ 9223372036854775807 from hn ▸ hr0.2.1)
 rw [hn] at HR0 ⊢
 rw [hn1] at HR1 ⊢
 have b1 : ((n : Int) != (n : Int)) = false := by simp
 clear hl h hr0 hr1 hc0 hc1 hn hn1
 go_enter Tryz.func21, Tryz.ntmps21
 go_wp2
 go_loopw [5] (fun iv wr => ∃ i kk m : Nat, i ≤ n ∧ iv = .int .i64 (i : Int) ∧ wr = w.drewN m ∧ Aside0 (ajz.l0 kk l0 l1 (i : Int) = some r)) (fun iv _ => n - (intOf iv).toNat)
 case atStart => exact ⟨0, k, 0, Nat.zero_le _, rfl, rfl, HH⟩
 clear HH b1
 obtain ⟨i, kk, m, hi, rfl, hwm, HH⟩ := hrel
 have HWM := Aside0.mk hwm
 have HRA := Aside0.mk (show Kd.C (Kd.slice 5 (Kd.int .u8)) wr A0 n l0 by rw [hwm]; exact Kd.bhz HR0.out m)
 have HRB := Aside0.mk (show Kd.C (Kd.slice 5 (Kd.int .u8)) wr A1 n l1 by rw [hwm]; exact Kd.bhz HR1.out m)
 clear hwm
 obtain ⟨wq, rfl⟩ : ∃ wq, wq = wr := ⟨_, rfl⟩
 have h := HH.out
 rcases kk with _ | kk
 ·exact absurd h (by simp [ajz.l0])
 unfold ajz.l0 at h
 by_cases hlt : i < n
 ·obtain ⟨x, hx⟩ : ∃ x, l0[i]? = some x := ⟨_, List.getElem?_eq_getElem (by have := HN0.out; omega)⟩
  obtain ⟨y, hy⟩ : ∃ y, l1[i]? = some y := ⟨_, List.getElem?_eq_getElem (by have := HN1.out; omega)⟩
  rw [if_pos (by rw [HN0.out]; omega), if_pos (by omega), if_pos (by rw [HN1.out]; omega), Int.toNat_natCast, List.getD_eq_getElem?_getD, hx, List.getD_eq_getElem?_getD, hy] at h
  obtain ⟨ad, A', ca, rfl, hcx, -, hX⟩ := biz (HN0.out.symm ▸ HRA.out) i x hx
  obtain ⟨bd, B', cb, rfl, hcy, -, hY⟩ := biz (HN1.out.symm ▸ HRB.out) i y hy
  have hcv1 := Kd.C_string (P := Tryz.prog) (A := A') (c := ca) Tryz.underlying34 Tryz.underlying5 Tryz.underlying9 (Kd.bhz hX 1)
  have hcv2 := Kd.C_string (P := Tryz.prog) (A := B') (c := cb) Tryz.underlying34 Tryz.underlying5 Tryz.underlying9 (Kd.bhz hY 1)
  simp only [Option.getD_some] at h
  generalize x.length = xl at hcx hcv1
  generalize y.length = yl at hcy hcv2
  have i1 : (0 : Int) ≤ (i : Int) := by omega
  have i2 : (i : Int) < (n : Int) := by omega
  have hcv1' := hcv1
  have hcv2' := hcv2
  rw [show wq.drewN 1 = wq.drew from rfl] at hcv1' hcv2'
  clear hx hy hX hY hcv1 hcv2
  have HI2 := Aside0.mk (show wrap64 ((i : Int) + 1) = ((i + 1 : Nat) : Int) by have := HM.out; unfold wrap64; omega)
  by_cases heq : (strOfNums x).toList = (strOfNums y).toList
  ·rw [if_pos heq] at h
   have e1 : ((strOfNums x).toList == (strOfNums y).toList) = true := beq_iff_eq.2 heq
   have e2 : ((strOfNums x).toList != (strOfNums y).toList) = false := bne_eq_false_iff_eq.2 heq
   rw [HI2.out] at h
   have HH2 := Aside0.mk h
   clear heq h
   generalize strOfNums x = sx at hcv1' e1 e2
   generalize strOfNums y = sy at hcv2' e1 e2
   go_wp2_with fail
   refine bez (n := 11) (S := fun w' => w'.cell? (ad.add i) = some (.slice A' xl ca) ∧ w'.cell? (bd.add i) = some (.slice B' yl cb)) (ds := []) (bA 11 0) kr_ rfl rfl ⟨hcx, hcy⟩ (fun hHeld => ?_)
   refine pu_ 0 17 1 ?_
   refine pu_ 1 18 3 ?_
   refine pu_ 2 19 7 ?_
   refine pu_ 5 22 39 ?_
   refine pu_ 6 23 103 ?_
   refine pu_ 7 24 231 ?_
   refine tk_ 3 20 239 hHeld ?_
   refine tk_ 8 25 495 hHeld ?_
   refine join_ (σ := Unit) 1 (bA 11 1023) (fun _ => [(21, .string sx), (26, .string sy)]) (fun _ w' => w' = wq.drew) ?_ ?_
   rotate_left
   ·intro hCont
    refine two_ (i := 4) (j := 9) (Ni := some 21) (Nj := some 26) (bA 11 511) (bA 11 1007) rfl rfl rfl rfl kr_ (by decide) (by decide) (fun K hK => ?_) (fun K hK => ?_)
    ·skip
     refine btz (w1 := ?_) (v := ?_) (by rfl) rfl ?_ ?_
     rotate_left 2
     ·go_simp
      constructor
      ·rfl
      ·rfl
     refine hK.out _ _ ⟨hcx, hcy⟩ (fun hHeld => ?_)
     clear hK K
     refine norm_ (a' := ?_) ?_ ?_
     rotate_left
     ·show Act.put _ (some 21) _ = _
      simp only [Act.put, List.setIfInBounds_toArray, List.set_cons_zero, List.set_cons_succ, i64_w, i32_w]
      rfl
     refine one_ (i := 9) (N := some 26) (bA 11 1023) rfl rfl kr_ (by decide) (fun K hK => ?_)
     refine btz (w1 := ?_) (v := ?_) (by rfl) rfl ?_ ?_
     rotate_left 2
     ·go_simp
      constructor
      ·rfl
      ·rfl
     refine hK.out _ _ ⟨hcx, hcy⟩ (fun hHeld => ?_)
     clear hK K
     refine norm_ (a' := ?_) ?_ ?_
     rotate_left
     ·show Act.put _ (some 26) _ = _
      simp only [Act.put, List.setIfInBounds_toArray, List.set_cons_zero, List.set_cons_succ, i64_w, i32_w]
      rfl
     exact norm_ (by simp only [putAll, Act.put, List.setIfInBounds_toArray, List.set_cons_zero, List.set_cons_succ]) (hCont () _ rfl)
    ·skip
     refine btz (w1 := ?_) (v := ?_) (by rfl) rfl ?_ ?_
     rotate_left 2
     ·go_simp
      constructor
      ·rfl
      ·rfl
     refine hK.out _ _ ⟨hcx, hcy⟩ (fun hHeld => ?_)
     clear hK K
     refine norm_ (a' := ?_) ?_ ?_
     rotate_left
     ·show Act.put _ (some 26) _ = _
      simp only [Act.put, List.setIfInBounds_toArray, List.set_cons_zero, List.set_cons_succ, i64_w, i32_w]
      rfl
     refine one_ (i := 4) (N := some 21) (bA 11 1023) rfl rfl kr_ (by decide) (fun K hK => ?_)
     refine btz (w1 := ?_) (v := ?_) (by rfl) rfl ?_ ?_
     rotate_left 2
     ·go_simp
      constructor
      ·rfl
      ·rfl
     refine hK.out _ _ ⟨hcx, hcy⟩ (fun hHeld => ?_)
     clear hK K
     refine norm_ (a' := ?_) ?_ ?_
     rotate_left
     ·show Act.put _ (some 21) _ = _
      simp only [Act.put, List.setIfInBounds_toArray, List.set_cons_zero, List.set_cons_succ, i64_w, i32_w]
      rfl
     exact norm_ (by simp only [putAll, Act.put, List.setIfInBounds_toArray, List.set_cons_zero, List.set_cons_succ]) (hCont () _ rfl)
   rintro _ w' rfl
   have hHeld : wq.drew.cell? (ad.add i) = some (.slice A' xl ca) ∧ wq.drew.cell? (bd.add i) = some (.slice B' yl cb) := ⟨hcx, hcy⟩
   refine norm_ (a' := ?_) ?_ ?_
   rotate_left
   ·simp only [putAll, Act.put, List.setIfInBounds_toArray, List.set_cons_zero, List.set_cons_succ]
    rfl
   refine pu_ 10 27 2047 ?_
   refine done_ kr_ ?_
   go_wp2
   go_roundw
   case rel => exact ⟨i + 1, kk, m + 1, by omega, by rw [HI2.out], by rw [HWM.out]; rfl, HH2⟩
   case measure => rw [HI2.out]; simp [intOf]; omega
  ·rw [if_neg heq] at h
   obtain rfl := Option.some.inj h
   have e1 : ((strOfNums x).toList == (strOfNums y).toList) = false := beq_eq_false_iff_ne.2 heq
   have e2 : ((strOfNums x).toList != (strOfNums y).toList) = true := bne_iff_ne.2 heq
   clear heq h
   generalize strOfNums x = sx at hcv1' e1 e2
   generalize strOfNums y = sy at hcv2' e1 e2
   go_wp2_with fail
   refine bez (n := 11) (S := fun w' => w'.cell? (ad.add i) = some (.slice A' xl ca) ∧ w'.cell? (bd.add i) = some (.slice B' yl cb)) (ds := []) (bA 11 0) kr_ rfl rfl ⟨hcx, hcy⟩ (fun hHeld => ?_)
   refine pu_ 0 17 1 ?_
   refine pu_ 1 18 3 ?_
   refine pu_ 2 19 7 ?_
   refine pu_ 5 22 39 ?_
   refine pu_ 6 23 103 ?_
   refine pu_ 7 24 231 ?_
   refine tk_ 3 20 239 hHeld ?_
   refine tk_ 8 25 495 hHeld ?_
   refine join_ (σ := Unit) 1 (bA 11 1023) (fun _ => [(21, .string sx), (26, .string sy)]) (fun _ w' => w' = wq.drew) ?_ ?_
   rotate_left
   ·intro hCont
    refine two_ (i := 4) (j := 9) (Ni := some 21) (Nj := some 26) (bA 11 511) (bA 11 1007) rfl rfl rfl rfl kr_ (by decide) (by decide) (fun K hK => ?_) (fun K hK => ?_)
    ·skip
     refine btz (w1 := ?_) (v := ?_) (by rfl) rfl ?_ ?_
     rotate_left 2
     ·go_simp
      constructor
      ·rfl
      ·rfl
     refine hK.out _ _ ⟨hcx, hcy⟩ (fun hHeld => ?_)
     clear hK K
     refine norm_ (a' := ?_) ?_ ?_
     rotate_left
     ·show Act.put _ (some 21) _ = _
      simp only [Act.put, List.setIfInBounds_toArray, List.set_cons_zero, List.set_cons_succ, i64_w, i32_w]
      rfl
     refine one_ (i := 9) (N := some 26) (bA 11 1023) rfl rfl kr_ (by decide) (fun K hK => ?_)
     refine btz (w1 := ?_) (v := ?_) (by rfl) rfl ?_ ?_
     rotate_left 2
     ·go_simp
      constructor
      ·rfl
      ·rfl
     refine hK.out _ _ ⟨hcx, hcy⟩ (fun hHeld => ?_)
     clear hK K
     refine norm_ (a' := ?_) ?_ ?_
     rotate_left
     ·show Act.put _ (some 26) _ = _
      simp only [Act.put, List.setIfInBounds_toArray, List.set_cons_zero, List.set_cons_succ, i64_w, i32_w]
      rfl
     exact norm_ (by simp only [putAll, Act.put, List.setIfInBounds_toArray, List.set_cons_zero, List.set_cons_succ]) (hCont () _ rfl)
    ·skip
     refine btz (w1 := ?_) (v := ?_) (by rfl) rfl ?_ ?_
     rotate_left 2
     ·go_simp
      constructor
      ·rfl
      ·rfl
     refine hK.out _ _ ⟨hcx, hcy⟩ (fun hHeld => ?_)
     clear hK K
     refine norm_ (a' := ?_) ?_ ?_
     rotate_left
     ·show Act.put _ (some 26) _ = _
      simp only [Act.put, List.setIfInBounds_toArray, List.set_cons_zero, List.set_cons_succ, i64_w, i32_w]
      rfl
     refine one_ (i := 4) (N := some 21) (bA 11 1023) rfl rfl kr_ (by decide) (fun K hK => ?_)
     refine btz (w1 := ?_) (v := ?_) (by rfl) rfl ?_ ?_
     rotate_left 2
     ·go_simp
      constructor
      ·rfl
      ·rfl
     refine hK.out _ _ ⟨hcx, hcy⟩ (fun hHeld => ?_)
     clear hK K
     refine norm_ (a' := ?_) ?_ ?_
     rotate_left
     ·show Act.put _ (some 21) _ = _
      simp only [Act.put, List.setIfInBounds_toArray, List.set_cons_zero, List.set_cons_succ, i64_w, i32_w]
      rfl
     exact norm_ (by simp only [putAll, Act.put, List.setIfInBounds_toArray, List.set_cons_zero, List.set_cons_succ]) (hCont () _ rfl)
   rintro _ w' rfl
   have hHeld : wq.drew.cell? (ad.add i) = some (.slice A' xl ca) ∧ wq.drew.cell? (bd.add i) = some (.slice B' yl cb) := ⟨hcx, hcy⟩
   refine norm_ (a' := ?_) ?_ ?_
   rotate_left
   ·simp only [putAll, Act.put, List.setIfInBounds_toArray, List.set_cons_zero, List.set_cons_succ]
    rfl
   refine pu_ 10 27 2047 ?_
   refine done_ kr_ ?_
   go_wp2
   go_ret
   exact ⟨rfl, by rw [HWM.out]; exact ⟨m + 1, rfl⟩⟩
 ·rw [if_neg (by rw [HN0.out]; omega)] at h
  obtain rfl := Option.some.inj h
  clear h
  go_wp2
  go_ret
  exact ⟨rfl, m, HWM.out⟩
end Go.Proofs.YtpdakdcmahlghaaGreat.XCo
end
