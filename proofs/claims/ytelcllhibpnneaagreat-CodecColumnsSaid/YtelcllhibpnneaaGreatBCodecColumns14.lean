-- Joined by this work's own program (wip/tools/bundle.py) out of its texts: what this claim uses of them. Not trusted: Lean checks it.
import Derived.Laws.EntriesVeiled
import Derived.Test.YtelcllhibpnneaaGreatBCodecColumns13
section
namespace Go.Proofs.YtelcllhibpnneaaGreat.XCo
open Go.RowKit Go.Proofs.YtelcllhibpnneaaGreatW.PrintWords Go.Proofs.YtelcllhibpnneaaGreatW.PrintLast Go.Proofs.YtelcllhibpnneaaGreatW.PrintMore
attribute [local go_sem] max2_int min2_int max_two min_two max_three min_three max_four min_four
set_option linter.unusedVariables false
set_option linter.unusedSimpArgs false
theorem add_map (a k : Nat) : Option.map (fun x => x.add (k * (dM 3 .i64).sz)) (some (⟨a, 0, none⟩ : Addr)) = some ⟨a, k, none⟩ := by
 show some ((⟨a, 0, none⟩ : Addr).add (k * 1)) = _
 unfold Addr.add
 split <;> simp_all
theorem rawM_take (wb : Int) (a k : Nat) : (rawM wb (k + a) k).take k = rawM wb k k := by
 unfold rawM madeF
 rw [← List.map_take, List.take_range, Nat.min_eq_left (by omega)]
theorem sys_inv : ∀ k, k < 9 → ¬ (invF 8 (rawM 8 k k)).2 < k := by decide +kernel
theorem C_of_S {w : World} {B : Nat} {ok : Nat → Prop} {v : Value} {xs : List (List Int)} (h : Kd.S (dM 3 .i64) 66 w B ok v xs) : ∃ A c, v = .slice A xs.length c ∧ xs.length ≤ c ∧ Kd.C (dM 3 .i64) w A xs.length xs := Kd.S_reads h
def MatRes (M : List (List Int)) (m : Nat) (W : World) (g : Nat) (e : Ending) (w' : World) : Prop := ∃ A c, e = .returned (.tuple #[.slice A m c, .int .i64 0]) ∧ m ≤ c ∧ Kd.C (dM 3 .i64) w' A m M ∧ BB W w' g
def ParRes (M : List (List Int)) (m : Nat) (W : World) (e : Ending) (w' : World) : Prop := ∃ A c, e = .returned (.tuple #[.slice A m c, .int .i64 0]) ∧ m ≤ c ∧ Kd.C (dM 3 .i64) w' A m M ∧ Below W.heap.size W w'
theorem MatRes.of_S {W w' : World} {g : Nat} {v : Value} {M : List (List Int)} {m : Nat} (hM : M.length = m) (h : Kd.S (dM 3 .i64) 66 w' W.heap.size (fun _ => True) v M) (hb : BB W w' g) : MatRes M m W g (.returned (.tuple #[v, .int .i64 0])) w' := by
 obtain ⟨A, c, rfl, hl, hc⟩ := C_of_S h
 rw [hM] at hl hc ⊢
 exact ⟨A, c, rfl, hl, hc, hb⟩
def parM (p : Int) (k m : Nat) : List (List Int) :=
 if p = 1 then jvM 8 k m else if p = 2 then cauM 16 (runL 0 m) (runL m k) else if p = 3 then isalM 8 m k else if p = 4 then cauM 8 (runL k m) (runL 0 k) else (sysM 8 k m).drop k
theorem pfn1 (g k m : Nat) (W : World) (hF : Fresh W g 8) (h1 : 1 ≤ k) (h2 : 1 ≤ m) (h3 : k ≤ 8) (h4 : m ≤ 4) : Calls Tryz.prog 68 #[.pointer (some ⟨g, 0, none⟩), .int .i64 (k : Int), .int .i64 (m : Int)] W (MatRes (parM 1 k m) m W g) := by
 refine (jpar.calls g 8 (fun _ => False) k m W (.inl rfl) (hF.fd _ (fun h => h)) (fun _ h => h.elim) h1 h2 h3 h4).mono ?_
 rintro e w' ⟨A, c, rfl, q1, q2, q3, q4⟩
 exact ⟨A, c, rfl, q1, Kd.F_now q2, q4⟩
theorem pfn2 (g k m : Nat) (W : World) (hF : Fresh W g 16) (h1 : 1 ≤ k) (h2 : 1 ≤ m) (h3 : k ≤ 8) (h4 : m ≤ 4) : Calls Tryz.prog 69 #[.pointer (some ⟨g, 0, none⟩), .int .i64 (k : Int), .int .i64 (m : Int)] W (MatRes (parM 2 k m) m W g) := by
 refine (cOrig.calls g 16 (fun _ => False) k m W (.inr rfl) (hF.fd _ (fun h => h)) (fun _ h => h.elim) h1 h2 h3 h4).mono ?_
 rintro e w' ⟨v, rfl, q1, q2, q3⟩
 exact MatRes.of_S (M := parM 2 k m) (show (cauM 16 (runL 0 m) (runL m k)).length = m by simp [cauM, runL]) q1 q3
theorem pfn3 (g k m : Nat) (W : World) (hF : Fresh W g 8) (h1 : 1 ≤ k) (h2 : 1 ≤ m) (h3 : k ≤ 8) (h4 : m ≤ 4) : Calls Tryz.prog 70 #[.pointer (some ⟨g, 0, none⟩), .int .i64 (k : Int), .int .i64 (m : Int)] W (MatRes (parM 3 k m) m W g) := by
 refine (Isal.calls g 8 (fun _ => False) k m W (.inl rfl) (hF.fd _ (fun h => h)) (fun _ h => h.elim) h1 h2 (by omega) (by omega) (by omega)).mono ?_
 rintro e w' ⟨v, rfl, q1, q2, q3⟩
 exact MatRes.of_S (M := parM 3 k m) (show (isalM 8 m k).length = m by simp [isalM, madeF]) q1 q3
theorem pfn4 (g k m : Nat) (W : World) (hF : Fresh W g 8) (h1 : 1 ≤ k) (h2 : 1 ≤ m) (h3 : k ≤ 8) (h4 : m ≤ 4) : Calls Tryz.prog 71 #[.pointer (some ⟨g, 0, none⟩), .int .i64 (k : Int), .int .i64 (m : Int)] W (MatRes (parM 4 k m) m W g) := by
 refine (cIsal.calls g 8 (fun _ => False) k m W (.inl rfl) (hF.fd _ (fun h => h)) (fun _ h => h.elim) h1 h2 h3 h4).mono ?_
 rintro e w' ⟨v, rfl, q1, q2, q3⟩
 exact MatRes.of_S (M := parM 4 k m) (show (cauM 8 (runL k m) (runL 0 k)).length = m by simp [cauM, runL]) q1 q3
set_option maxRecDepth 100000 in
set_option maxHeartbeats 4000000 in
theorem behind.calls (g k m : Nat) (W : World) (hF : Fresh W g 8) (h1 : 1 ≤ k) (h2 : 1 ≤ m) (h3 : k ≤ 8) (h4 : m ≤ 4) : Calls Tryz.prog 72 #[.pointer (some ⟨g, 0, none⟩), .int .i64 (k : Int), .int .i64 (m : Int)] W (MatRes ((sysM 8 k m).drop k) m W g) := by
 have HS := Aside0.mk (System.calls g 8 (fun _ => False) k m W (.inl rfl) (hF.fd _ (fun h => h)) (fun _ h => h.elim) h1 h2 (by omega) (by omega) (by omega) (by rw [rawM_take]; exact sys_inv k (by omega)))
 have HL := Aside0.mk (show (sysM 8 k m).length = k + m by simp [sysM, mulF, rawM, madeF])
 generalize sysM 8 k m = M at HS HL ⊢
 obtain ⟨n, hn⟩ : ∃ n, k + m = n := ⟨_, rfl⟩
 rw [hn] at HL
 have hnm : n - k = m := by omega
 have e1 : (0 : Int) ≤ (k : Int) := by omega
 have e2 : (k : Int) ≤ (n : Int) := by omega
 have e3 : k < n := by omega
 clear hF h1 h2 h3 h4 hn
 go_enter Tryz.func72, Tryz.ntmps72
 go_wp2_with fail
 refine HS.out.mono ?_
 rintro e w1 ⟨v, rfl, q1, q2, q3⟩
 obtain ⟨a, c, rfl, -, -, -⟩ := Kd.S_form q1 (by rw [HL.out]; omega)
 obtain ⟨-, hl, hc⟩ := Kd.S_reads' q1
 have f1 : ¬ c = k := by have := HL.out; omega
 have HD := Aside0.mk (Kd.C_drop hc (m := k) (c := c) (by rw [HL.out]; omega) hl)
 rw [if_neg f1, List.length_drop, HL.out, hnm, add_map] at HD
 have HC := Aside0.mk (show m ≤ c - k by have := HL.out; omega)
 have HB := Aside0.mk q3
 rw [HL.out]
 clear q1 q2 q3 hl hc HS HL
 go_wp2
 go_ret2
 exact ⟨_, _, rfl, HC.out, HD.out, HB.out⟩
theorem pfn5 (g k m : Nat) (W : World) (hF : Fresh W g 8) (h1 : 1 ≤ k) (h2 : 1 ≤ m) (h3 : k ≤ 8) (h4 : m ≤ 4) : Calls Tryz.prog 72 #[.pointer (some ⟨g, 0, none⟩), .int .i64 (k : Int), .int .i64 (m : Int)] W (MatRes (parM 5 k m) m W g) := behind.calls g k m W hF h1 h2 h3 h4
theorem pfn6 (g k m : Nat) (W : World) (hF : Fresh W g 8) (h1 : 1 ≤ k) (h2 : 1 ≤ m) (h3 : k ≤ 8) (h4 : m ≤ 4) : Calls Tryz.prog 72 #[.pointer (some ⟨g, 0, none⟩), .int .i64 (k : Int), .int .i64 (m : Int)] W (MatRes (parM 6 k m) m W g) := behind.calls g k m W hF h1 h2 h3 h4
set_option maxRecDepth 100000 in
set_option maxHeartbeats 4000000 in
theorem pway1 (k m : Nat) (W : World) (h1 : 1 ≤ k) (h2 : 1 ≤ m) (h3 : k ≤ 8) (h4 : m ≤ 4) (hm : profile_May.f 1 (k : Int) (m : Int) = some true) :
  Calls Tryz.prog 35 #[.agg #[.int .i64 1, .int .i64 (k : Int), .int .i64 (m : Int)]] W (ParRes (parM 1 k m) m W) := by
 have HM := Aside0.mk hm
 have HP := Aside0.mk (fun g W' h => pfn1 g k m W' h h1 h2 h3 h4)
 have hfd := profile_Field.calls 1 (by decide)
 rw [show pbits 1 = 8 by simp [pbits]] at hfd
 have HFD := Aside0.mk hfd
 generalize parM 1 k m = res at HP ⊢
 have hb := heap_alloc_new W (.cells #[.int .i64 1, .int .i64 (k : Int), .int .i64 (m : Int)] 23)
 have HB := Aside0.mk (show Below W.heap.size W (W.alloc (.cells #[.int .i64 1, .int .i64 (k : Int), .int .i64 (m : Int)] 23)) from below_alloc (Below.refl _ _) _)
 have hu := Tryz.underlying23
 clear hm h1 h2 h3 h4 hfd
 go_enter Tryz.func35, Tryz.ntmps35
 go_wp2_with fail
 generalize W.alloc (.cells #[.int .i64 1, .int .i64 (k : Int), .int .i64 (m : Int)] 23) = w1 at HB hb ⊢
 have HX := Aside0.mk hb
 clear hb
 refine (profile_May.calls 1 (k : Int) (m : Int) true _ HM.out).mono ?_
 rintro e w2 ⟨rfl, hB2⟩
 have HB2 := Aside0.mk (HB.out.trans (hB2.mono HB.out.size))
 have HX2 := Aside0.mk (blk_below HX.out hB2)
 have HZ2 := Aside0.mk hB2.size
 obtain ⟨fb, hfb⟩ : ∃ fb, fb = W.heap.size := ⟨_, rfl⟩
 rw [← hfb] at HX2 ⊢
 clear hB2 hfb
 go_wp2_with fail
 have HA := Aside0.mk (heap_alloc_new w2 (.cells #[.func (.func 68) #[] #[], .func (.func 69) #[] #[], .func (.func 70) #[] #[], .func (.func 71) #[] #[], .func (.func 72) #[] #[], .func (.func 72) #[] #[]] 102))
 have HX3 := Aside0.mk (blk_below HX2.out (below_alloc (Below.refl w2.heap.size w2) (.cells #[.func (.func 68) #[] #[], .func (.func 69) #[] #[], .func (.func 70) #[] #[], .func (.func 71) #[] #[], .func (.func 72) #[] #[], .func (.func 72) #[] #[]] 102)))
 have HB3 := Aside0.mk (below_alloc HB2.out (.cells #[.func (.func 68) #[] #[], .func (.func 69) #[] #[], .func (.func 70) #[] #[], .func (.func 71) #[] #[], .func (.func 72) #[] #[], .func (.func 72) #[] #[]] 102))
 obtain ⟨ab, hab⟩ : ∃ ab, ab = w2.heap.size := ⟨_, rfl⟩
 rw [← hab] at HA ⊢
 clear hab HX2 HB2
 generalize w2.alloc (.cells #[.func (.func 68) #[] #[], .func (.func 69) #[] #[], .func (.func 70) #[] #[], .func (.func 71) #[] #[], .func (.func 72) #[] #[], .func (.func 72) #[] #[]] 102) = w3 at HA HX3 HB3 ⊢
 have c0 : w3.cell? ⟨fb, 0, none⟩ = some (.int .i64 1) := (blk_cell HX3.out 0).trans rfl
 have c1 : w3.cell? ⟨fb, 1, none⟩ = some (.int .i64 (k : Int)) := (blk_cell HX3.out 1).trans rfl
 have c2 : w3.cell? ⟨fb, 2, none⟩ = some (.int .i64 (m : Int)) := (blk_cell HX3.out 2).trans rfl
 have c3 : w3.cell? ⟨ab, 0, none⟩ = some (.func (.func 68) #[] #[]) := (blk_cell HA.out 0).trans rfl
 have hwq : wrap64 0 = 0 := by unfold wrap64; omega
 refine start_ (n := 17) (S := fun w' => w'.cell? ⟨fb, 0, none⟩ = some (.int .i64 1) ∧ w'.cell? ⟨fb, 1, none⟩ = some (.int .i64 (k : Int)) ∧ w'.cell? ⟨fb, 2, none⟩ = some (.int .i64 (m : Int)) ∧ w'.cell? ⟨ab, 0, none⟩ = some (.func (.func 68) #[] #[])) (ds := [12]) #[false, false, false, false, false, false, false, false, false, false, false, false, false, false, false, false, false] (by kernel_rfl) rfl rfl ⟨c0, c1, c2, c3⟩ (fun hHeld => ?_)
 refine pure_ (i := 0) (N := some 9) (v := ?_) (a' := ?_) #[true, false, false, false, false, false, false, false, false, false, false, false, false, false, false, false, false] rfl rfl (by kernel_rfl) (fun _ _ _ h => h) (Or.inl ⟨by rfl, ?_⟩) ?_ ?_
 rotate_left
 ·intro w'
  go_simp
  with_reducible rfl
 rotate_left
 ·simp only [Act.put, List.setIfInBounds_toArray, List.set_cons_zero, List.set_cons_succ, i64_w, i32_w]
  rfl
 refine pure_ (i := 5) (N := some 14) (v := ?_) (a' := ?_) #[true, false, false, false, false, true, false, false, false, false, false, false, false, false, false, false, false] rfl rfl (by kernel_rfl) (fun _ _ _ h => h) (Or.inl ⟨by rfl, ?_⟩) ?_ ?_
 rotate_left
 ·intro w'
  go_simp
  with_reducible rfl
 rotate_left
 ·simp only [Act.put, List.setIfInBounds_toArray, List.set_cons_zero, List.set_cons_succ, i64_w, i32_w]
  rfl
 refine pure_ (i := 8) (N := some 17) (v := ?_) (a' := ?_) #[true, false, false, false, false, true, false, false, true, false, false, false, false, false, false, false, false] rfl rfl (by kernel_rfl) (fun _ _ _ h => h) (Or.inl ⟨by rfl, ?_⟩) ?_ ?_
 rotate_left
 ·intro w'
  go_simp
  with_reducible rfl
 rotate_left
 ·simp only [Act.put, List.setIfInBounds_toArray, List.set_cons_zero, List.set_cons_succ, i64_w, i32_w]
  rfl
 refine pure_ (i := 10) (N := some 19) (v := ?_) (a' := ?_) #[true, false, false, false, false, true, false, false, true, false, true, false, false, false, false, false, false] rfl rfl (by kernel_rfl) (fun _ _ _ h => h) (Or.inl ⟨by rfl, ?_⟩) ?_ ?_
 rotate_left
 ·intro w'
  go_simp
  with_reducible rfl
 rotate_left
 ·simp only [Act.put, List.setIfInBounds_toArray, List.set_cons_zero, List.set_cons_succ, i64_w, i32_w]
  rfl
 refine take_ (i := 1) (N := some 10) (v := ?_) (a' := ?_) #[true, true, false, false, false, true, false, false, true, false, true, false, false, false, false, false, false] rfl rfl (by kernel_rfl) (fun _ _ _ h => h) (Or.inl ⟨by rfl, ?_⟩) hHeld ?_ ?_
 rotate_left
 ·rintro w' ⟨s0, s1, s2, s3⟩
  go_simp
  with_reducible rfl
 rotate_left
 ·simp only [Act.put, List.setIfInBounds_toArray, List.set_cons_zero, List.set_cons_succ, i64_w, i32_w]
  rfl
 refine pure_ (i := 2) (N := some 11) (v := ?_) (a' := ?_) #[true, true, true, false, false, true, false, false, true, false, true, false, false, false, false, false, false] rfl rfl (by kernel_rfl) (fun _ _ _ h => h) (Or.inl ⟨by rfl, ?_⟩) ?_ ?_
 rotate_left
 ·intro w'
  go_simp
  with_reducible rfl
 rotate_left
 ·simp only [Act.put, List.setIfInBounds_toArray, List.set_cons_zero, List.set_cons_succ, i64_w, i32_w]
  rfl
 refine pure_ (i := 3) (N := some 12) (v := ?_) (a' := ?_) #[true, true, true, true, false, true, false, false, true, false, true, false, false, false, false, false, false] rfl rfl (by kernel_rfl) (fun _ _ _ h => h) (Or.inl ⟨by rfl, ?_⟩) ?_ ?_
 rotate_left
 ·intro w'
  go_simp
  with_reducible rfl
 rotate_left
 ·simp only [Act.put, List.setIfInBounds_toArray, List.set_cons_zero, List.set_cons_succ, i64_w, i32_w]
  rfl
 refine take_ (i := 4) (N := some 13) (v := ?_) (a' := ?_) #[true, true, true, true, true, true, false, false, true, false, true, false, false, false, false, false, false] rfl rfl (by kernel_rfl) (fun _ _ _ h => h) (Or.inl ⟨by rfl, ?_⟩) hHeld ?_ ?_
 rotate_left
 ·rintro w' ⟨s0, s1, s2, s3⟩
  go_simp
  with_reducible rfl
 rotate_left
 ·simp only [Act.put, List.setIfInBounds_toArray, List.set_cons_zero, List.set_cons_succ, i64_w, i32_w]
  rfl
 refine take_ (i := 6) (N := some 15) (v := ?_) (a' := ?_) #[true, true, true, true, true, true, true, false, true, false, true, false, false, false, false, false, false] rfl rfl (by kernel_rfl) (fun _ _ _ h => h) (Or.inl ⟨by rfl, ?_⟩) hHeld ?_ ?_
 rotate_left
 ·rintro w' ⟨s0, s1, s2, s3⟩
  go_simp
  with_reducible rfl
 rotate_left
 ·simp only [Act.put, List.setIfInBounds_toArray, List.set_cons_zero, List.set_cons_succ, i64_w, i32_w]
  rfl
 refine take_ (i := 9) (N := some 18) (v := ?_) (a' := ?_) #[true, true, true, true, true, true, true, false, true, true, true, false, false, false, false, false, false] rfl rfl (by kernel_rfl) (fun _ _ _ h => h) (Or.inl ⟨by rfl, ?_⟩) hHeld ?_ ?_
 rotate_left
 ·rintro w' ⟨s0, s1, s2, s3⟩
  go_simp
  with_reducible rfl
 rotate_left
 ·simp only [Act.put, List.setIfInBounds_toArray, List.set_cons_zero, List.set_cons_succ, i64_w, i32_w]
  rfl
 refine take_ (i := 11) (N := some 20) (v := ?_) (a' := ?_) #[true, true, true, true, true, true, true, false, true, true, true, true, false, false, false, false, false] rfl rfl (by kernel_rfl) (fun _ _ _ h => h) (Or.inl ⟨by rfl, ?_⟩) hHeld ?_ ?_
 rotate_left
 ·rintro w' ⟨s0, s1, s2, s3⟩
  go_simp
  with_reducible rfl
 rotate_left
 ·simp only [Act.put, List.setIfInBounds_toArray, List.set_cons_zero, List.set_cons_succ, i64_w, i32_w]
  rfl
 refine one_ (i := 7) (N := some 16) #[true, true, true, true, true, true, true, true, true, true, true, true, false, false, false, false, false] rfl rfl (by kernel_rfl) (by decide) (fun K hK => ?_)
 refine goes_ Tryz.func36 (by kernel_rfl) rfl #[.int .i64 1] (by rfl) rfl rfl (by simp only [List.map_toArray, List.map_cons, List.map_nil]; rfl) ?_
 with_reducible refine (HFD.out w3.drew).mono ?_
 rintro e w4 ⟨g, rfl, q1, q2, q3⟩
 refine ⟨_, rfl, ?_⟩
 refine hK.out _ _ ⟨pw_cell_below q3 c0, pw_cell_below q3 c1, pw_cell_below q3 c2, pw_cell_below q3 c3⟩ (fun hHeld => ?_)
 clear hK K
 refine norm_ (a' := ?_) ?_ ?_
 rotate_left
 ·show Act.put _ (some 16) _ = _
  simp only [Act.put, List.setIfInBounds_toArray, List.set_cons_zero, List.set_cons_succ, i64_w, i32_w]
  rfl
 refine last_ (i := 12) (N := some 21) #[true, true, true, true, true, true, true, true, true, true, true, true, true, false, false, false, false] rfl rfl (by kernel_rfl) (by decide) (fun K hK => ?_)
 refine goesV_ Tryz.func68 (by kernel_rfl) rfl (.tmp 13) #[] #[] #[.pointer (some ⟨g, 0, none⟩), .int .i64 (k : Int), .int .i64 (m : Int)] (by rfl) (by rfl) rfl rfl (by simp only [List.map_toArray, List.map_cons, List.map_nil]; rfl) ?_
 with_reducible refine (HP.out g w4 q1).mono ?_
 rintro e w5 ⟨A, c, rfl, p1, p2, p3⟩
 refine ⟨_, rfl, ?_⟩
 refine hK.out _ _ ?_
 clear hK K
 refine norm_ (a' := ?_) ?_ ?_
 rotate_left
 ·show Act.put _ (some 21) _ = _
  simp only [Act.put, List.setIfInBounds_toArray, List.set_cons_zero, List.set_cons_succ, i64_w, i32_w]
  rfl
 refine pure_ (i := 13) (N := some 22) (v := ?_) (a' := ?_) #[true, true, true, true, true, true, true, true, true, true, true, true, true, true, false, false, false] rfl rfl (by kernel_rfl) (fun _ _ _ h => h) (Or.inl ⟨by rfl, ?_⟩) ?_ ?_
 rotate_left
 ·intro w'
  go_simp
  with_reducible rfl
 rotate_left
 ·simp only [Act.put, List.setIfInBounds_toArray, List.set_cons_zero, List.set_cons_succ, i64_w, i32_w]
  rfl
 refine pure_ (i := 14) (N := some 23) (v := ?_) (a' := ?_) #[true, true, true, true, true, true, true, true, true, true, true, true, true, true, true, false, false] rfl rfl (by kernel_rfl) (fun _ _ _ h => h) (Or.inl ⟨by rfl, ?_⟩) ?_ ?_
 rotate_left
 ·intro w'
  go_simp
  with_reducible rfl
 rotate_left
 ·simp only [Act.put, List.setIfInBounds_toArray, List.set_cons_zero, List.set_cons_succ, i64_w, i32_w]
  rfl
 refine pure_ (i := 15) (N := some 2) (v := ?_) (a' := ?_) #[true, true, true, true, true, true, true, true, true, true, true, true, true, true, true, true, false] rfl rfl (by kernel_rfl) (fun _ _ _ h => h) (Or.inl ⟨by rfl, ?_⟩) ?_ ?_
 rotate_left
 ·intro w'
  go_simp
  with_reducible rfl
 rotate_left
 ·simp only [Act.put, List.setIfInBounds_toArray, List.set_cons_zero, List.set_cons_succ, i64_w, i32_w]
  rfl
 refine pure_ (i := 16) (N := some 3) (v := ?_) (a' := ?_) #[true, true, true, true, true, true, true, true, true, true, true, true, true, true, true, true, true] rfl rfl (by kernel_rfl) (fun _ _ _ h => h) (Or.inl ⟨by rfl, ?_⟩) ?_ ?_
 rotate_left
 ·intro w'
  go_simp
  with_reducible rfl
 rotate_left
 ·simp only [Act.put, List.setIfInBounds_toArray, List.set_cons_zero, List.set_cons_succ, i64_w, i32_w]
  rfl
 refine done_ (by kernel_rfl) ?_
 clear hwq
 go_wp2
 go_ret2
 exact ⟨_, _, rfl, p1, p2, p3.below ((show Below W.heap.size W w3.drew from below_drew HB3.out).trans (q3.mono HB3.out.size)) (Nat.le_trans HB3.out.size q2)⟩
set_option maxRecDepth 100000 in
set_option maxHeartbeats 4000000 in
theorem pway2 (k m : Nat) (W : World) (h1 : 1 ≤ k) (h2 : 1 ≤ m) (h3 : k ≤ 8) (h4 : m ≤ 4) (hm : profile_May.f 2 (k : Int) (m : Int) = some true) :
  Calls Tryz.prog 35 #[.agg #[.int .i64 2, .int .i64 (k : Int), .int .i64 (m : Int)]] W (ParRes (parM 2 k m) m W) := by
 have HM := Aside0.mk hm
 have HP := Aside0.mk (fun g W' h => pfn2 g k m W' h h1 h2 h3 h4)
 have hfd := profile_Field.calls 2 (by decide)
 rw [show pbits 2 = 16 by simp [pbits]] at hfd
 have HFD := Aside0.mk hfd
 generalize parM 2 k m = res at HP ⊢
 have hb := heap_alloc_new W (.cells #[.int .i64 2, .int .i64 (k : Int), .int .i64 (m : Int)] 23)
 have HB := Aside0.mk (show Below W.heap.size W (W.alloc (.cells #[.int .i64 2, .int .i64 (k : Int), .int .i64 (m : Int)] 23)) from below_alloc (Below.refl _ _) _)
 have hu := Tryz.underlying23
 clear hm h1 h2 h3 h4 hfd
 go_enter Tryz.func35, Tryz.ntmps35
 go_wp2_with fail
 generalize W.alloc (.cells #[.int .i64 2, .int .i64 (k : Int), .int .i64 (m : Int)] 23) = w1 at HB hb ⊢
 have HX := Aside0.mk hb
 clear hb
 refine (profile_May.calls 2 (k : Int) (m : Int) true _ HM.out).mono ?_
 rintro e w2 ⟨rfl, hB2⟩
 have HB2 := Aside0.mk (HB.out.trans (hB2.mono HB.out.size))
 have HX2 := Aside0.mk (blk_below HX.out hB2)
 have HZ2 := Aside0.mk hB2.size
 obtain ⟨fb, hfb⟩ : ∃ fb, fb = W.heap.size := ⟨_, rfl⟩
 rw [← hfb] at HX2 ⊢
 clear hB2 hfb
 go_wp2_with fail
 have HA := Aside0.mk (heap_alloc_new w2 (.cells #[.func (.func 68) #[] #[], .func (.func 69) #[] #[], .func (.func 70) #[] #[], .func (.func 71) #[] #[], .func (.func 72) #[] #[], .func (.func 72) #[] #[]] 102))
 have HX3 := Aside0.mk (blk_below HX2.out (below_alloc (Below.refl w2.heap.size w2) (.cells #[.func (.func 68) #[] #[], .func (.func 69) #[] #[], .func (.func 70) #[] #[], .func (.func 71) #[] #[], .func (.func 72) #[] #[], .func (.func 72) #[] #[]] 102)))
 have HB3 := Aside0.mk (below_alloc HB2.out (.cells #[.func (.func 68) #[] #[], .func (.func 69) #[] #[], .func (.func 70) #[] #[], .func (.func 71) #[] #[], .func (.func 72) #[] #[], .func (.func 72) #[] #[]] 102))
 obtain ⟨ab, hab⟩ : ∃ ab, ab = w2.heap.size := ⟨_, rfl⟩
 rw [← hab] at HA ⊢
 clear hab HX2 HB2
 generalize w2.alloc (.cells #[.func (.func 68) #[] #[], .func (.func 69) #[] #[], .func (.func 70) #[] #[], .func (.func 71) #[] #[], .func (.func 72) #[] #[], .func (.func 72) #[] #[]] 102) = w3 at HA HX3 HB3 ⊢
 have c0 : w3.cell? ⟨fb, 0, none⟩ = some (.int .i64 2) := (blk_cell HX3.out 0).trans rfl
 have c1 : w3.cell? ⟨fb, 1, none⟩ = some (.int .i64 (k : Int)) := (blk_cell HX3.out 1).trans rfl
 have c2 : w3.cell? ⟨fb, 2, none⟩ = some (.int .i64 (m : Int)) := (blk_cell HX3.out 2).trans rfl
 have c3 : w3.cell? ⟨ab, 1, none⟩ = some (.func (.func 69) #[] #[]) := (blk_cell HA.out 1).trans rfl
 have hwq : wrap64 1 = 1 := by unfold wrap64; omega
 refine start_ (n := 17) (S := fun w' => w'.cell? ⟨fb, 0, none⟩ = some (.int .i64 2) ∧ w'.cell? ⟨fb, 1, none⟩ = some (.int .i64 (k : Int)) ∧ w'.cell? ⟨fb, 2, none⟩ = some (.int .i64 (m : Int)) ∧ w'.cell? ⟨ab, 1, none⟩ = some (.func (.func 69) #[] #[])) (ds := [12]) #[false, false, false, false, false, false, false, false, false, false, false, false, false, false, false, false, false] (by kernel_rfl) rfl rfl ⟨c0, c1, c2, c3⟩ (fun hHeld => ?_)
 refine pure_ (i := 0) (N := some 9) (v := ?_) (a' := ?_) #[true, false, false, false, false, false, false, false, false, false, false, false, false, false, false, false, false] rfl rfl (by kernel_rfl) (fun _ _ _ h => h) (Or.inl ⟨by rfl, ?_⟩) ?_ ?_
 rotate_left
 ·intro w'
  go_simp
  with_reducible rfl
 rotate_left
 ·simp only [Act.put, List.setIfInBounds_toArray, List.set_cons_zero, List.set_cons_succ, i64_w, i32_w]
  rfl
 refine pure_ (i := 5) (N := some 14) (v := ?_) (a' := ?_) #[true, false, false, false, false, true, false, false, false, false, false, false, false, false, false, false, false] rfl rfl (by kernel_rfl) (fun _ _ _ h => h) (Or.inl ⟨by rfl, ?_⟩) ?_ ?_
 rotate_left
 ·intro w'
  go_simp
  with_reducible rfl
 rotate_left
 ·simp only [Act.put, List.setIfInBounds_toArray, List.set_cons_zero, List.set_cons_succ, i64_w, i32_w]
  rfl
 refine pure_ (i := 8) (N := some 17) (v := ?_) (a' := ?_) #[true, false, false, false, false, true, false, false, true, false, false, false, false, false, false, false, false] rfl rfl (by kernel_rfl) (fun _ _ _ h => h) (Or.inl ⟨by rfl, ?_⟩) ?_ ?_
 rotate_left
 ·intro w'
  go_simp
  with_reducible rfl
 rotate_left
 ·simp only [Act.put, List.setIfInBounds_toArray, List.set_cons_zero, List.set_cons_succ, i64_w, i32_w]
  rfl
 refine pure_ (i := 10) (N := some 19) (v := ?_) (a' := ?_) #[true, false, false, false, false, true, false, false, true, false, true, false, false, false, false, false, false] rfl rfl (by kernel_rfl) (fun _ _ _ h => h) (Or.inl ⟨by rfl, ?_⟩) ?_ ?_
 rotate_left
 ·intro w'
  go_simp
  with_reducible rfl
 rotate_left
 ·simp only [Act.put, List.setIfInBounds_toArray, List.set_cons_zero, List.set_cons_succ, i64_w, i32_w]
  rfl
 refine take_ (i := 1) (N := some 10) (v := ?_) (a' := ?_) #[true, true, false, false, false, true, false, false, true, false, true, false, false, false, false, false, false] rfl rfl (by kernel_rfl) (fun _ _ _ h => h) (Or.inl ⟨by rfl, ?_⟩) hHeld ?_ ?_
 rotate_left
 ·rintro w' ⟨s0, s1, s2, s3⟩
  go_simp
  with_reducible rfl
 rotate_left
 ·simp only [Act.put, List.setIfInBounds_toArray, List.set_cons_zero, List.set_cons_succ, i64_w, i32_w]
  rfl
 refine pure_ (i := 2) (N := some 11) (v := ?_) (a' := ?_) #[true, true, true, false, false, true, false, false, true, false, true, false, false, false, false, false, false] rfl rfl (by kernel_rfl) (fun _ _ _ h => h) (Or.inl ⟨by rfl, ?_⟩) ?_ ?_
 rotate_left
 ·intro w'
  go_simp
  with_reducible rfl
 rotate_left
 ·simp only [Act.put, List.setIfInBounds_toArray, List.set_cons_zero, List.set_cons_succ, i64_w, i32_w]
  rfl
 refine pure_ (i := 3) (N := some 12) (v := ?_) (a' := ?_) #[true, true, true, true, false, true, false, false, true, false, true, false, false, false, false, false, false] rfl rfl (by kernel_rfl) (fun _ _ _ h => h) (Or.inl ⟨by rfl, ?_⟩) ?_ ?_
 rotate_left
 ·intro w'
  go_simp
  with_reducible rfl
 rotate_left
 ·simp only [Act.put, List.setIfInBounds_toArray, List.set_cons_zero, List.set_cons_succ, i64_w, i32_w]
  rfl
 refine take_ (i := 4) (N := some 13) (v := ?_) (a' := ?_) #[true, true, true, true, true, true, false, false, true, false, true, false, false, false, false, false, false] rfl rfl (by kernel_rfl) (fun _ _ _ h => h) (Or.inl ⟨by rfl, ?_⟩) hHeld ?_ ?_
 rotate_left
 ·rintro w' ⟨s0, s1, s2, s3⟩
  go_simp
  with_reducible rfl
 rotate_left
 ·simp only [Act.put, List.setIfInBounds_toArray, List.set_cons_zero, List.set_cons_succ, i64_w, i32_w]
  rfl
 refine take_ (i := 6) (N := some 15) (v := ?_) (a' := ?_) #[true, true, true, true, true, true, true, false, true, false, true, false, false, false, false, false, false] rfl rfl (by kernel_rfl) (fun _ _ _ h => h) (Or.inl ⟨by rfl, ?_⟩) hHeld ?_ ?_
 rotate_left
 ·rintro w' ⟨s0, s1, s2, s3⟩
  go_simp
  with_reducible rfl
 rotate_left
 ·simp only [Act.put, List.setIfInBounds_toArray, List.set_cons_zero, List.set_cons_succ, i64_w, i32_w]
  rfl
 refine take_ (i := 9) (N := some 18) (v := ?_) (a' := ?_) #[true, true, true, true, true, true, true, false, true, true, true, false, false, false, false, false, false] rfl rfl (by kernel_rfl) (fun _ _ _ h => h) (Or.inl ⟨by rfl, ?_⟩) hHeld ?_ ?_
 rotate_left
 ·rintro w' ⟨s0, s1, s2, s3⟩
  go_simp
  with_reducible rfl
 rotate_left
 ·simp only [Act.put, List.setIfInBounds_toArray, List.set_cons_zero, List.set_cons_succ, i64_w, i32_w]
  rfl
 refine take_ (i := 11) (N := some 20) (v := ?_) (a' := ?_) #[true, true, true, true, true, true, true, false, true, true, true, true, false, false, false, false, false] rfl rfl (by kernel_rfl) (fun _ _ _ h => h) (Or.inl ⟨by rfl, ?_⟩) hHeld ?_ ?_
 rotate_left
 ·rintro w' ⟨s0, s1, s2, s3⟩
  go_simp
  with_reducible rfl
 rotate_left
 ·simp only [Act.put, List.setIfInBounds_toArray, List.set_cons_zero, List.set_cons_succ, i64_w, i32_w]
  rfl
 refine one_ (i := 7) (N := some 16) #[true, true, true, true, true, true, true, true, true, true, true, true, false, false, false, false, false] rfl rfl (by kernel_rfl) (by decide) (fun K hK => ?_)
 refine goes_ Tryz.func36 (by kernel_rfl) rfl #[.int .i64 2] (by rfl) rfl rfl (by simp only [List.map_toArray, List.map_cons, List.map_nil]; rfl) ?_
 with_reducible refine (HFD.out w3.drew).mono ?_
 rintro e w4 ⟨g, rfl, q1, q2, q3⟩
 refine ⟨_, rfl, ?_⟩
 refine hK.out _ _ ⟨pw_cell_below q3 c0, pw_cell_below q3 c1, pw_cell_below q3 c2, pw_cell_below q3 c3⟩ (fun hHeld => ?_)
 clear hK K
 refine norm_ (a' := ?_) ?_ ?_
 rotate_left
 ·show Act.put _ (some 16) _ = _
  simp only [Act.put, List.setIfInBounds_toArray, List.set_cons_zero, List.set_cons_succ, i64_w, i32_w]
  rfl
 refine last_ (i := 12) (N := some 21) #[true, true, true, true, true, true, true, true, true, true, true, true, true, false, false, false, false] rfl rfl (by kernel_rfl) (by decide) (fun K hK => ?_)
 refine goesV_ Tryz.func69 (by kernel_rfl) rfl (.tmp 13) #[] #[] #[.pointer (some ⟨g, 0, none⟩), .int .i64 (k : Int), .int .i64 (m : Int)] (by rfl) (by rfl) rfl rfl (by simp only [List.map_toArray, List.map_cons, List.map_nil]; rfl) ?_
 with_reducible refine (HP.out g w4 q1).mono ?_
 rintro e w5 ⟨A, c, rfl, p1, p2, p3⟩
 refine ⟨_, rfl, ?_⟩
 refine hK.out _ _ ?_
 clear hK K
 refine norm_ (a' := ?_) ?_ ?_
 rotate_left
 ·show Act.put _ (some 21) _ = _
  simp only [Act.put, List.setIfInBounds_toArray, List.set_cons_zero, List.set_cons_succ, i64_w, i32_w]
  rfl
 refine pure_ (i := 13) (N := some 22) (v := ?_) (a' := ?_) #[true, true, true, true, true, true, true, true, true, true, true, true, true, true, false, false, false] rfl rfl (by kernel_rfl) (fun _ _ _ h => h) (Or.inl ⟨by rfl, ?_⟩) ?_ ?_
 rotate_left
 ·intro w'
  go_simp
  with_reducible rfl
 rotate_left
 ·simp only [Act.put, List.setIfInBounds_toArray, List.set_cons_zero, List.set_cons_succ, i64_w, i32_w]
  rfl
 refine pure_ (i := 14) (N := some 23) (v := ?_) (a' := ?_) #[true, true, true, true, true, true, true, true, true, true, true, true, true, true, true, false, false] rfl rfl (by kernel_rfl) (fun _ _ _ h => h) (Or.inl ⟨by rfl, ?_⟩) ?_ ?_
 rotate_left
 ·intro w'
  go_simp
  with_reducible rfl
 rotate_left
 ·simp only [Act.put, List.setIfInBounds_toArray, List.set_cons_zero, List.set_cons_succ, i64_w, i32_w]
  rfl
 refine pure_ (i := 15) (N := some 2) (v := ?_) (a' := ?_) #[true, true, true, true, true, true, true, true, true, true, true, true, true, true, true, true, false] rfl rfl (by kernel_rfl) (fun _ _ _ h => h) (Or.inl ⟨by rfl, ?_⟩) ?_ ?_
 rotate_left
 ·intro w'
  go_simp
  with_reducible rfl
 rotate_left
 ·simp only [Act.put, List.setIfInBounds_toArray, List.set_cons_zero, List.set_cons_succ, i64_w, i32_w]
  rfl
 refine pure_ (i := 16) (N := some 3) (v := ?_) (a' := ?_) #[true, true, true, true, true, true, true, true, true, true, true, true, true, true, true, true, true] rfl rfl (by kernel_rfl) (fun _ _ _ h => h) (Or.inl ⟨by rfl, ?_⟩) ?_ ?_
 rotate_left
 ·intro w'
  go_simp
  with_reducible rfl
 rotate_left
 ·simp only [Act.put, List.setIfInBounds_toArray, List.set_cons_zero, List.set_cons_succ, i64_w, i32_w]
  rfl
 refine done_ (by kernel_rfl) ?_
 clear hwq
 go_wp2
 go_ret2
 exact ⟨_, _, rfl, p1, p2, p3.below ((show Below W.heap.size W w3.drew from below_drew HB3.out).trans (q3.mono HB3.out.size)) (Nat.le_trans HB3.out.size q2)⟩
set_option maxRecDepth 100000 in
set_option maxHeartbeats 4000000 in
theorem pway3 (k m : Nat) (W : World) (h1 : 1 ≤ k) (h2 : 1 ≤ m) (h3 : k ≤ 8) (h4 : m ≤ 4) (hm : profile_May.f 3 (k : Int) (m : Int) = some true) :
  Calls Tryz.prog 35 #[.agg #[.int .i64 3, .int .i64 (k : Int), .int .i64 (m : Int)]] W (ParRes (parM 3 k m) m W) := by
 have HM := Aside0.mk hm
 have HP := Aside0.mk (fun g W' h => pfn3 g k m W' h h1 h2 h3 h4)
 have hfd := profile_Field.calls 3 (by decide)
 rw [show pbits 3 = 8 by simp [pbits]] at hfd
 have HFD := Aside0.mk hfd
 generalize parM 3 k m = res at HP ⊢
 have hb := heap_alloc_new W (.cells #[.int .i64 3, .int .i64 (k : Int), .int .i64 (m : Int)] 23)
 have HB := Aside0.mk (show Below W.heap.size W (W.alloc (.cells #[.int .i64 3, .int .i64 (k : Int), .int .i64 (m : Int)] 23)) from below_alloc (Below.refl _ _) _)
 have hu := Tryz.underlying23
 clear hm h1 h2 h3 h4 hfd
 go_enter Tryz.func35, Tryz.ntmps35
 go_wp2_with fail
 generalize W.alloc (.cells #[.int .i64 3, .int .i64 (k : Int), .int .i64 (m : Int)] 23) = w1 at HB hb ⊢
 have HX := Aside0.mk hb
 clear hb
 refine (profile_May.calls 3 (k : Int) (m : Int) true _ HM.out).mono ?_
 rintro e w2 ⟨rfl, hB2⟩
 have HB2 := Aside0.mk (HB.out.trans (hB2.mono HB.out.size))
 have HX2 := Aside0.mk (blk_below HX.out hB2)
 have HZ2 := Aside0.mk hB2.size
 obtain ⟨fb, hfb⟩ : ∃ fb, fb = W.heap.size := ⟨_, rfl⟩
 rw [← hfb] at HX2 ⊢
 clear hB2 hfb
 go_wp2_with fail
 have HA := Aside0.mk (heap_alloc_new w2 (.cells #[.func (.func 68) #[] #[], .func (.func 69) #[] #[], .func (.func 70) #[] #[], .func (.func 71) #[] #[], .func (.func 72) #[] #[], .func (.func 72) #[] #[]] 102))
 have HX3 := Aside0.mk (blk_below HX2.out (below_alloc (Below.refl w2.heap.size w2) (.cells #[.func (.func 68) #[] #[], .func (.func 69) #[] #[], .func (.func 70) #[] #[], .func (.func 71) #[] #[], .func (.func 72) #[] #[], .func (.func 72) #[] #[]] 102)))
 have HB3 := Aside0.mk (below_alloc HB2.out (.cells #[.func (.func 68) #[] #[], .func (.func 69) #[] #[], .func (.func 70) #[] #[], .func (.func 71) #[] #[], .func (.func 72) #[] #[], .func (.func 72) #[] #[]] 102))
 obtain ⟨ab, hab⟩ : ∃ ab, ab = w2.heap.size := ⟨_, rfl⟩
 rw [← hab] at HA ⊢
 clear hab HX2 HB2
 generalize w2.alloc (.cells #[.func (.func 68) #[] #[], .func (.func 69) #[] #[], .func (.func 70) #[] #[], .func (.func 71) #[] #[], .func (.func 72) #[] #[], .func (.func 72) #[] #[]] 102) = w3 at HA HX3 HB3 ⊢
 have c0 : w3.cell? ⟨fb, 0, none⟩ = some (.int .i64 3) := (blk_cell HX3.out 0).trans rfl
 have c1 : w3.cell? ⟨fb, 1, none⟩ = some (.int .i64 (k : Int)) := (blk_cell HX3.out 1).trans rfl
 have c2 : w3.cell? ⟨fb, 2, none⟩ = some (.int .i64 (m : Int)) := (blk_cell HX3.out 2).trans rfl
 have c3 : w3.cell? ⟨ab, 2, none⟩ = some (.func (.func 70) #[] #[]) := (blk_cell HA.out 2).trans rfl
 have hwq : wrap64 2 = 2 := by unfold wrap64; omega
 refine start_ (n := 17) (S := fun w' => w'.cell? ⟨fb, 0, none⟩ = some (.int .i64 3) ∧ w'.cell? ⟨fb, 1, none⟩ = some (.int .i64 (k : Int)) ∧ w'.cell? ⟨fb, 2, none⟩ = some (.int .i64 (m : Int)) ∧ w'.cell? ⟨ab, 2, none⟩ = some (.func (.func 70) #[] #[])) (ds := [12]) #[false, false, false, false, false, false, false, false, false, false, false, false, false, false, false, false, false] (by kernel_rfl) rfl rfl ⟨c0, c1, c2, c3⟩ (fun hHeld => ?_)
 refine pure_ (i := 0) (N := some 9) (v := ?_) (a' := ?_) #[true, false, false, false, false, false, false, false, false, false, false, false, false, false, false, false, false] rfl rfl (by kernel_rfl) (fun _ _ _ h => h) (Or.inl ⟨by rfl, ?_⟩) ?_ ?_
 rotate_left
 ·intro w'
  go_simp
  with_reducible rfl
 rotate_left
 ·simp only [Act.put, List.setIfInBounds_toArray, List.set_cons_zero, List.set_cons_succ, i64_w, i32_w]
  rfl
 refine pure_ (i := 5) (N := some 14) (v := ?_) (a' := ?_) #[true, false, false, false, false, true, false, false, false, false, false, false, false, false, false, false, false] rfl rfl (by kernel_rfl) (fun _ _ _ h => h) (Or.inl ⟨by rfl, ?_⟩) ?_ ?_
 rotate_left
 ·intro w'
  go_simp
  with_reducible rfl
 rotate_left
 ·simp only [Act.put, List.setIfInBounds_toArray, List.set_cons_zero, List.set_cons_succ, i64_w, i32_w]
  rfl
 refine pure_ (i := 8) (N := some 17) (v := ?_) (a' := ?_) #[true, false, false, false, false, true, false, false, true, false, false, false, false, false, false, false, false] rfl rfl (by kernel_rfl) (fun _ _ _ h => h) (Or.inl ⟨by rfl, ?_⟩) ?_ ?_
 rotate_left
 ·intro w'
  go_simp
  with_reducible rfl
 rotate_left
 ·simp only [Act.put, List.setIfInBounds_toArray, List.set_cons_zero, List.set_cons_succ, i64_w, i32_w]
  rfl
 refine pure_ (i := 10) (N := some 19) (v := ?_) (a' := ?_) #[true, false, false, false, false, true, false, false, true, false, true, false, false, false, false, false, false] rfl rfl (by kernel_rfl) (fun _ _ _ h => h) (Or.inl ⟨by rfl, ?_⟩) ?_ ?_
 rotate_left
 ·intro w'
  go_simp
  with_reducible rfl
 rotate_left
 ·simp only [Act.put, List.setIfInBounds_toArray, List.set_cons_zero, List.set_cons_succ, i64_w, i32_w]
  rfl
 refine take_ (i := 1) (N := some 10) (v := ?_) (a' := ?_) #[true, true, false, false, false, true, false, false, true, false, true, false, false, false, false, false, false] rfl rfl (by kernel_rfl) (fun _ _ _ h => h) (Or.inl ⟨by rfl, ?_⟩) hHeld ?_ ?_
 rotate_left
 ·rintro w' ⟨s0, s1, s2, s3⟩
  go_simp
  with_reducible rfl
 rotate_left
 ·simp only [Act.put, List.setIfInBounds_toArray, List.set_cons_zero, List.set_cons_succ, i64_w, i32_w]
  rfl
 refine pure_ (i := 2) (N := some 11) (v := ?_) (a' := ?_) #[true, true, true, false, false, true, false, false, true, false, true, false, false, false, false, false, false] rfl rfl (by kernel_rfl) (fun _ _ _ h => h) (Or.inl ⟨by rfl, ?_⟩) ?_ ?_
 rotate_left
 ·intro w'
  go_simp
  with_reducible rfl
 rotate_left
 ·simp only [Act.put, List.setIfInBounds_toArray, List.set_cons_zero, List.set_cons_succ, i64_w, i32_w]
  rfl
 refine pure_ (i := 3) (N := some 12) (v := ?_) (a' := ?_) #[true, true, true, true, false, true, false, false, true, false, true, false, false, false, false, false, false] rfl rfl (by kernel_rfl) (fun _ _ _ h => h) (Or.inl ⟨by rfl, ?_⟩) ?_ ?_
 rotate_left
 ·intro w'
  go_simp
  with_reducible rfl
 rotate_left
 ·simp only [Act.put, List.setIfInBounds_toArray, List.set_cons_zero, List.set_cons_succ, i64_w, i32_w]
  rfl
 refine take_ (i := 4) (N := some 13) (v := ?_) (a' := ?_) #[true, true, true, true, true, true, false, false, true, false, true, false, false, false, false, false, false] rfl rfl (by kernel_rfl) (fun _ _ _ h => h) (Or.inl ⟨by rfl, ?_⟩) hHeld ?_ ?_
 rotate_left
 ·rintro w' ⟨s0, s1, s2, s3⟩
  go_simp
  with_reducible rfl
 rotate_left
 ·simp only [Act.put, List.setIfInBounds_toArray, List.set_cons_zero, List.set_cons_succ, i64_w, i32_w]
  rfl
 refine take_ (i := 6) (N := some 15) (v := ?_) (a' := ?_) #[true, true, true, true, true, true, true, false, true, false, true, false, false, false, false, false, false] rfl rfl (by kernel_rfl) (fun _ _ _ h => h) (Or.inl ⟨by rfl, ?_⟩) hHeld ?_ ?_
 rotate_left
 ·rintro w' ⟨s0, s1, s2, s3⟩
  go_simp
  with_reducible rfl
 rotate_left
 ·simp only [Act.put, List.setIfInBounds_toArray, List.set_cons_zero, List.set_cons_succ, i64_w, i32_w]
  rfl
 refine take_ (i := 9) (N := some 18) (v := ?_) (a' := ?_) #[true, true, true, true, true, true, true, false, true, true, true, false, false, false, false, false, false] rfl rfl (by kernel_rfl) (fun _ _ _ h => h) (Or.inl ⟨by rfl, ?_⟩) hHeld ?_ ?_
 rotate_left
 ·rintro w' ⟨s0, s1, s2, s3⟩
  go_simp
  with_reducible rfl
 rotate_left
 ·simp only [Act.put, List.setIfInBounds_toArray, List.set_cons_zero, List.set_cons_succ, i64_w, i32_w]
  rfl
 refine take_ (i := 11) (N := some 20) (v := ?_) (a' := ?_) #[true, true, true, true, true, true, true, false, true, true, true, true, false, false, false, false, false] rfl rfl (by kernel_rfl) (fun _ _ _ h => h) (Or.inl ⟨by rfl, ?_⟩) hHeld ?_ ?_
 rotate_left
 ·rintro w' ⟨s0, s1, s2, s3⟩
  go_simp
  with_reducible rfl
 rotate_left
 ·simp only [Act.put, List.setIfInBounds_toArray, List.set_cons_zero, List.set_cons_succ, i64_w, i32_w]
  rfl
 refine one_ (i := 7) (N := some 16) #[true, true, true, true, true, true, true, true, true, true, true, true, false, false, false, false, false] rfl rfl (by kernel_rfl) (by decide) (fun K hK => ?_)
 refine goes_ Tryz.func36 (by kernel_rfl) rfl #[.int .i64 3] (by rfl) rfl rfl (by simp only [List.map_toArray, List.map_cons, List.map_nil]; rfl) ?_
 with_reducible refine (HFD.out w3.drew).mono ?_
 rintro e w4 ⟨g, rfl, q1, q2, q3⟩
 refine ⟨_, rfl, ?_⟩
 refine hK.out _ _ ⟨pw_cell_below q3 c0, pw_cell_below q3 c1, pw_cell_below q3 c2, pw_cell_below q3 c3⟩ (fun hHeld => ?_)
 clear hK K
 refine norm_ (a' := ?_) ?_ ?_
 rotate_left
 ·show Act.put _ (some 16) _ = _
  simp only [Act.put, List.setIfInBounds_toArray, List.set_cons_zero, List.set_cons_succ, i64_w, i32_w]
  rfl
 refine last_ (i := 12) (N := some 21) #[true, true, true, true, true, true, true, true, true, true, true, true, true, false, false, false, false] rfl rfl (by kernel_rfl) (by decide) (fun K hK => ?_)
 refine goesV_ Tryz.func70 (by kernel_rfl) rfl (.tmp 13) #[] #[] #[.pointer (some ⟨g, 0, none⟩), .int .i64 (k : Int), .int .i64 (m : Int)] (by rfl) (by rfl) rfl rfl (by simp only [List.map_toArray, List.map_cons, List.map_nil]; rfl) ?_
 with_reducible refine (HP.out g w4 q1).mono ?_
 rintro e w5 ⟨A, c, rfl, p1, p2, p3⟩
 refine ⟨_, rfl, ?_⟩
 refine hK.out _ _ ?_
 clear hK K
 refine norm_ (a' := ?_) ?_ ?_
 rotate_left
 ·show Act.put _ (some 21) _ = _
  simp only [Act.put, List.setIfInBounds_toArray, List.set_cons_zero, List.set_cons_succ, i64_w, i32_w]
  rfl
 refine pure_ (i := 13) (N := some 22) (v := ?_) (a' := ?_) #[true, true, true, true, true, true, true, true, true, true, true, true, true, true, false, false, false] rfl rfl (by kernel_rfl) (fun _ _ _ h => h) (Or.inl ⟨by rfl, ?_⟩) ?_ ?_
 rotate_left
 ·intro w'
  go_simp
  with_reducible rfl
 rotate_left
 ·simp only [Act.put, List.setIfInBounds_toArray, List.set_cons_zero, List.set_cons_succ, i64_w, i32_w]
  rfl
 refine pure_ (i := 14) (N := some 23) (v := ?_) (a' := ?_) #[true, true, true, true, true, true, true, true, true, true, true, true, true, true, true, false, false] rfl rfl (by kernel_rfl) (fun _ _ _ h => h) (Or.inl ⟨by rfl, ?_⟩) ?_ ?_
 rotate_left
 ·intro w'
  go_simp
  with_reducible rfl
 rotate_left
 ·simp only [Act.put, List.setIfInBounds_toArray, List.set_cons_zero, List.set_cons_succ, i64_w, i32_w]
  rfl
 refine pure_ (i := 15) (N := some 2) (v := ?_) (a' := ?_) #[true, true, true, true, true, true, true, true, true, true, true, true, true, true, true, true, false] rfl rfl (by kernel_rfl) (fun _ _ _ h => h) (Or.inl ⟨by rfl, ?_⟩) ?_ ?_
 rotate_left
 ·intro w'
  go_simp
  with_reducible rfl
 rotate_left
 ·simp only [Act.put, List.setIfInBounds_toArray, List.set_cons_zero, List.set_cons_succ, i64_w, i32_w]
  rfl
 refine pure_ (i := 16) (N := some 3) (v := ?_) (a' := ?_) #[true, true, true, true, true, true, true, true, true, true, true, true, true, true, true, true, true] rfl rfl (by kernel_rfl) (fun _ _ _ h => h) (Or.inl ⟨by rfl, ?_⟩) ?_ ?_
 rotate_left
 ·intro w'
  go_simp
  with_reducible rfl
 rotate_left
 ·simp only [Act.put, List.setIfInBounds_toArray, List.set_cons_zero, List.set_cons_succ, i64_w, i32_w]
  rfl
 refine done_ (by kernel_rfl) ?_
 clear hwq
 go_wp2
 go_ret2
 exact ⟨_, _, rfl, p1, p2, p3.below ((show Below W.heap.size W w3.drew from below_drew HB3.out).trans (q3.mono HB3.out.size)) (Nat.le_trans HB3.out.size q2)⟩
set_option maxRecDepth 100000 in
set_option maxHeartbeats 4000000 in
theorem pway4 (k m : Nat) (W : World) (h1 : 1 ≤ k) (h2 : 1 ≤ m) (h3 : k ≤ 8) (h4 : m ≤ 4) (hm : profile_May.f 4 (k : Int) (m : Int) = some true) :
  Calls Tryz.prog 35 #[.agg #[.int .i64 4, .int .i64 (k : Int), .int .i64 (m : Int)]] W (ParRes (parM 4 k m) m W) := by
 have HM := Aside0.mk hm
 have HP := Aside0.mk (fun g W' h => pfn4 g k m W' h h1 h2 h3 h4)
 have hfd := profile_Field.calls 4 (by decide)
 rw [show pbits 4 = 8 by simp [pbits]] at hfd
 have HFD := Aside0.mk hfd
 generalize parM 4 k m = res at HP ⊢
 have hb := heap_alloc_new W (.cells #[.int .i64 4, .int .i64 (k : Int), .int .i64 (m : Int)] 23)
 have HB := Aside0.mk (show Below W.heap.size W (W.alloc (.cells #[.int .i64 4, .int .i64 (k : Int), .int .i64 (m : Int)] 23)) from below_alloc (Below.refl _ _) _)
 have hu := Tryz.underlying23
 clear hm h1 h2 h3 h4 hfd
 go_enter Tryz.func35, Tryz.ntmps35
 go_wp2_with fail
 generalize W.alloc (.cells #[.int .i64 4, .int .i64 (k : Int), .int .i64 (m : Int)] 23) = w1 at HB hb ⊢
 have HX := Aside0.mk hb
 clear hb
 refine (profile_May.calls 4 (k : Int) (m : Int) true _ HM.out).mono ?_
 rintro e w2 ⟨rfl, hB2⟩
 have HB2 := Aside0.mk (HB.out.trans (hB2.mono HB.out.size))
 have HX2 := Aside0.mk (blk_below HX.out hB2)
 have HZ2 := Aside0.mk hB2.size
 obtain ⟨fb, hfb⟩ : ∃ fb, fb = W.heap.size := ⟨_, rfl⟩
 rw [← hfb] at HX2 ⊢
 clear hB2 hfb
 go_wp2_with fail
 have HA := Aside0.mk (heap_alloc_new w2 (.cells #[.func (.func 68) #[] #[], .func (.func 69) #[] #[], .func (.func 70) #[] #[], .func (.func 71) #[] #[], .func (.func 72) #[] #[], .func (.func 72) #[] #[]] 102))
 have HX3 := Aside0.mk (blk_below HX2.out (below_alloc (Below.refl w2.heap.size w2) (.cells #[.func (.func 68) #[] #[], .func (.func 69) #[] #[], .func (.func 70) #[] #[], .func (.func 71) #[] #[], .func (.func 72) #[] #[], .func (.func 72) #[] #[]] 102)))
 have HB3 := Aside0.mk (below_alloc HB2.out (.cells #[.func (.func 68) #[] #[], .func (.func 69) #[] #[], .func (.func 70) #[] #[], .func (.func 71) #[] #[], .func (.func 72) #[] #[], .func (.func 72) #[] #[]] 102))
 obtain ⟨ab, hab⟩ : ∃ ab, ab = w2.heap.size := ⟨_, rfl⟩
 rw [← hab] at HA ⊢
 clear hab HX2 HB2
 generalize w2.alloc (.cells #[.func (.func 68) #[] #[], .func (.func 69) #[] #[], .func (.func 70) #[] #[], .func (.func 71) #[] #[], .func (.func 72) #[] #[], .func (.func 72) #[] #[]] 102) = w3 at HA HX3 HB3 ⊢
 have c0 : w3.cell? ⟨fb, 0, none⟩ = some (.int .i64 4) := (blk_cell HX3.out 0).trans rfl
 have c1 : w3.cell? ⟨fb, 1, none⟩ = some (.int .i64 (k : Int)) := (blk_cell HX3.out 1).trans rfl
 have c2 : w3.cell? ⟨fb, 2, none⟩ = some (.int .i64 (m : Int)) := (blk_cell HX3.out 2).trans rfl
 have c3 : w3.cell? ⟨ab, 3, none⟩ = some (.func (.func 71) #[] #[]) := (blk_cell HA.out 3).trans rfl
 have hwq : wrap64 3 = 3 := by unfold wrap64; omega
 refine start_ (n := 17) (S := fun w' => w'.cell? ⟨fb, 0, none⟩ = some (.int .i64 4) ∧ w'.cell? ⟨fb, 1, none⟩ = some (.int .i64 (k : Int)) ∧ w'.cell? ⟨fb, 2, none⟩ = some (.int .i64 (m : Int)) ∧ w'.cell? ⟨ab, 3, none⟩ = some (.func (.func 71) #[] #[])) (ds := [12]) #[false, false, false, false, false, false, false, false, false, false, false, false, false, false, false, false, false] (by kernel_rfl) rfl rfl ⟨c0, c1, c2, c3⟩ (fun hHeld => ?_)
 refine pure_ (i := 0) (N := some 9) (v := ?_) (a' := ?_) #[true, false, false, false, false, false, false, false, false, false, false, false, false, false, false, false, false] rfl rfl (by kernel_rfl) (fun _ _ _ h => h) (Or.inl ⟨by rfl, ?_⟩) ?_ ?_
 rotate_left
 ·intro w'
  go_simp
  with_reducible rfl
 rotate_left
 ·simp only [Act.put, List.setIfInBounds_toArray, List.set_cons_zero, List.set_cons_succ, i64_w, i32_w]
  rfl
 refine pure_ (i := 5) (N := some 14) (v := ?_) (a' := ?_) #[true, false, false, false, false, true, false, false, false, false, false, false, false, false, false, false, false] rfl rfl (by kernel_rfl) (fun _ _ _ h => h) (Or.inl ⟨by rfl, ?_⟩) ?_ ?_
 rotate_left
 ·intro w'
  go_simp
  with_reducible rfl
 rotate_left
 ·simp only [Act.put, List.setIfInBounds_toArray, List.set_cons_zero, List.set_cons_succ, i64_w, i32_w]
  rfl
 refine pure_ (i := 8) (N := some 17) (v := ?_) (a' := ?_) #[true, false, false, false, false, true, false, false, true, false, false, false, false, false, false, false, false] rfl rfl (by kernel_rfl) (fun _ _ _ h => h) (Or.inl ⟨by rfl, ?_⟩) ?_ ?_
 rotate_left
 ·intro w'
  go_simp
  with_reducible rfl
 rotate_left
 ·simp only [Act.put, List.setIfInBounds_toArray, List.set_cons_zero, List.set_cons_succ, i64_w, i32_w]
  rfl
 refine pure_ (i := 10) (N := some 19) (v := ?_) (a' := ?_) #[true, false, false, false, false, true, false, false, true, false, true, false, false, false, false, false, false] rfl rfl (by kernel_rfl) (fun _ _ _ h => h) (Or.inl ⟨by rfl, ?_⟩) ?_ ?_
 rotate_left
 ·intro w'
  go_simp
  with_reducible rfl
 rotate_left
 ·simp only [Act.put, List.setIfInBounds_toArray, List.set_cons_zero, List.set_cons_succ, i64_w, i32_w]
  rfl
 refine take_ (i := 1) (N := some 10) (v := ?_) (a' := ?_) #[true, true, false, false, false, true, false, false, true, false, true, false, false, false, false, false, false] rfl rfl (by kernel_rfl) (fun _ _ _ h => h) (Or.inl ⟨by rfl, ?_⟩) hHeld ?_ ?_
 rotate_left
 ·rintro w' ⟨s0, s1, s2, s3⟩
  go_simp
  with_reducible rfl
 rotate_left
 ·simp only [Act.put, List.setIfInBounds_toArray, List.set_cons_zero, List.set_cons_succ, i64_w, i32_w]
  rfl
 refine pure_ (i := 2) (N := some 11) (v := ?_) (a' := ?_) #[true, true, true, false, false, true, false, false, true, false, true, false, false, false, false, false, false] rfl rfl (by kernel_rfl) (fun _ _ _ h => h) (Or.inl ⟨by rfl, ?_⟩) ?_ ?_
 rotate_left
 ·intro w'
  go_simp
  with_reducible rfl
 rotate_left
 ·simp only [Act.put, List.setIfInBounds_toArray, List.set_cons_zero, List.set_cons_succ, i64_w, i32_w]
  rfl
 refine pure_ (i := 3) (N := some 12) (v := ?_) (a' := ?_) #[true, true, true, true, false, true, false, false, true, false, true, false, false, false, false, false, false] rfl rfl (by kernel_rfl) (fun _ _ _ h => h) (Or.inl ⟨by rfl, ?_⟩) ?_ ?_
 rotate_left
 ·intro w'
  go_simp
  with_reducible rfl
 rotate_left
 ·simp only [Act.put, List.setIfInBounds_toArray, List.set_cons_zero, List.set_cons_succ, i64_w, i32_w]
  rfl
 refine take_ (i := 4) (N := some 13) (v := ?_) (a' := ?_) #[true, true, true, true, true, true, false, false, true, false, true, false, false, false, false, false, false] rfl rfl (by kernel_rfl) (fun _ _ _ h => h) (Or.inl ⟨by rfl, ?_⟩) hHeld ?_ ?_
 rotate_left
 ·rintro w' ⟨s0, s1, s2, s3⟩
  go_simp
  with_reducible rfl
 rotate_left
 ·simp only [Act.put, List.setIfInBounds_toArray, List.set_cons_zero, List.set_cons_succ, i64_w, i32_w]
  rfl
 refine take_ (i := 6) (N := some 15) (v := ?_) (a' := ?_) #[true, true, true, true, true, true, true, false, true, false, true, false, false, false, false, false, false] rfl rfl (by kernel_rfl) (fun _ _ _ h => h) (Or.inl ⟨by rfl, ?_⟩) hHeld ?_ ?_
 rotate_left
 ·rintro w' ⟨s0, s1, s2, s3⟩
  go_simp
  with_reducible rfl
 rotate_left
 ·simp only [Act.put, List.setIfInBounds_toArray, List.set_cons_zero, List.set_cons_succ, i64_w, i32_w]
  rfl
 refine take_ (i := 9) (N := some 18) (v := ?_) (a' := ?_) #[true, true, true, true, true, true, true, false, true, true, true, false, false, false, false, false, false] rfl rfl (by kernel_rfl) (fun _ _ _ h => h) (Or.inl ⟨by rfl, ?_⟩) hHeld ?_ ?_
 rotate_left
 ·rintro w' ⟨s0, s1, s2, s3⟩
  go_simp
  with_reducible rfl
 rotate_left
 ·simp only [Act.put, List.setIfInBounds_toArray, List.set_cons_zero, List.set_cons_succ, i64_w, i32_w]
  rfl
 refine take_ (i := 11) (N := some 20) (v := ?_) (a' := ?_) #[true, true, true, true, true, true, true, false, true, true, true, true, false, false, false, false, false] rfl rfl (by kernel_rfl) (fun _ _ _ h => h) (Or.inl ⟨by rfl, ?_⟩) hHeld ?_ ?_
 rotate_left
 ·rintro w' ⟨s0, s1, s2, s3⟩
  go_simp
  with_reducible rfl
 rotate_left
 ·simp only [Act.put, List.setIfInBounds_toArray, List.set_cons_zero, List.set_cons_succ, i64_w, i32_w]
  rfl
 refine one_ (i := 7) (N := some 16) #[true, true, true, true, true, true, true, true, true, true, true, true, false, false, false, false, false] rfl rfl (by kernel_rfl) (by decide) (fun K hK => ?_)
 refine goes_ Tryz.func36 (by kernel_rfl) rfl #[.int .i64 4] (by rfl) rfl rfl (by simp only [List.map_toArray, List.map_cons, List.map_nil]; rfl) ?_
 with_reducible refine (HFD.out w3.drew).mono ?_
 rintro e w4 ⟨g, rfl, q1, q2, q3⟩
 refine ⟨_, rfl, ?_⟩
 refine hK.out _ _ ⟨pw_cell_below q3 c0, pw_cell_below q3 c1, pw_cell_below q3 c2, pw_cell_below q3 c3⟩ (fun hHeld => ?_)
 clear hK K
 refine norm_ (a' := ?_) ?_ ?_
 rotate_left
 ·show Act.put _ (some 16) _ = _
  simp only [Act.put, List.setIfInBounds_toArray, List.set_cons_zero, List.set_cons_succ, i64_w, i32_w]
  rfl
 refine last_ (i := 12) (N := some 21) #[true, true, true, true, true, true, true, true, true, true, true, true, true, false, false, false, false] rfl rfl (by kernel_rfl) (by decide) (fun K hK => ?_)
 refine goesV_ Tryz.func71 (by kernel_rfl) rfl (.tmp 13) #[] #[] #[.pointer (some ⟨g, 0, none⟩), .int .i64 (k : Int), .int .i64 (m : Int)] (by rfl) (by rfl) rfl rfl (by simp only [List.map_toArray, List.map_cons, List.map_nil]; rfl) ?_
 with_reducible refine (HP.out g w4 q1).mono ?_
 rintro e w5 ⟨A, c, rfl, p1, p2, p3⟩
 refine ⟨_, rfl, ?_⟩
 refine hK.out _ _ ?_
 clear hK K
 refine norm_ (a' := ?_) ?_ ?_
 rotate_left
 ·show Act.put _ (some 21) _ = _
  simp only [Act.put, List.setIfInBounds_toArray, List.set_cons_zero, List.set_cons_succ, i64_w, i32_w]
  rfl
 refine pure_ (i := 13) (N := some 22) (v := ?_) (a' := ?_) #[true, true, true, true, true, true, true, true, true, true, true, true, true, true, false, false, false] rfl rfl (by kernel_rfl) (fun _ _ _ h => h) (Or.inl ⟨by rfl, ?_⟩) ?_ ?_
 rotate_left
 ·intro w'
  go_simp
  with_reducible rfl
 rotate_left
 ·simp only [Act.put, List.setIfInBounds_toArray, List.set_cons_zero, List.set_cons_succ, i64_w, i32_w]
  rfl
 refine pure_ (i := 14) (N := some 23) (v := ?_) (a' := ?_) #[true, true, true, true, true, true, true, true, true, true, true, true, true, true, true, false, false] rfl rfl (by kernel_rfl) (fun _ _ _ h => h) (Or.inl ⟨by rfl, ?_⟩) ?_ ?_
 rotate_left
 ·intro w'
  go_simp
  with_reducible rfl
 rotate_left
 ·simp only [Act.put, List.setIfInBounds_toArray, List.set_cons_zero, List.set_cons_succ, i64_w, i32_w]
  rfl
 refine pure_ (i := 15) (N := some 2) (v := ?_) (a' := ?_) #[true, true, true, true, true, true, true, true, true, true, true, true, true, true, true, true, false] rfl rfl (by kernel_rfl) (fun _ _ _ h => h) (Or.inl ⟨by rfl, ?_⟩) ?_ ?_
 rotate_left
 ·intro w'
  go_simp
  with_reducible rfl
 rotate_left
 ·simp only [Act.put, List.setIfInBounds_toArray, List.set_cons_zero, List.set_cons_succ, i64_w, i32_w]
  rfl
 refine pure_ (i := 16) (N := some 3) (v := ?_) (a' := ?_) #[true, true, true, true, true, true, true, true, true, true, true, true, true, true, true, true, true] rfl rfl (by kernel_rfl) (fun _ _ _ h => h) (Or.inl ⟨by rfl, ?_⟩) ?_ ?_
 rotate_left
 ·intro w'
  go_simp
  with_reducible rfl
 rotate_left
 ·simp only [Act.put, List.setIfInBounds_toArray, List.set_cons_zero, List.set_cons_succ, i64_w, i32_w]
  rfl
 refine done_ (by kernel_rfl) ?_
 clear hwq
 go_wp2
 go_ret2
 exact ⟨_, _, rfl, p1, p2, p3.below ((show Below W.heap.size W w3.drew from below_drew HB3.out).trans (q3.mono HB3.out.size)) (Nat.le_trans HB3.out.size q2)⟩
set_option maxRecDepth 100000 in
set_option maxHeartbeats 4000000 in
theorem pway5 (k m : Nat) (W : World) (h1 : 1 ≤ k) (h2 : 1 ≤ m) (h3 : k ≤ 8) (h4 : m ≤ 4) (hm : profile_May.f 5 (k : Int) (m : Int) = some true) :
  Calls Tryz.prog 35 #[.agg #[.int .i64 5, .int .i64 (k : Int), .int .i64 (m : Int)]] W (ParRes (parM 5 k m) m W) := by
 have HM := Aside0.mk hm
 have HP := Aside0.mk (fun g W' h => pfn5 g k m W' h h1 h2 h3 h4)
 have hfd := profile_Field.calls 5 (by decide)
 rw [show pbits 5 = 8 by simp [pbits]] at hfd
 have HFD := Aside0.mk hfd
 generalize parM 5 k m = res at HP ⊢
 have hb := heap_alloc_new W (.cells #[.int .i64 5, .int .i64 (k : Int), .int .i64 (m : Int)] 23)
 have HB := Aside0.mk (show Below W.heap.size W (W.alloc (.cells #[.int .i64 5, .int .i64 (k : Int), .int .i64 (m : Int)] 23)) from below_alloc (Below.refl _ _) _)
 have hu := Tryz.underlying23
 clear hm h1 h2 h3 h4 hfd
 go_enter Tryz.func35, Tryz.ntmps35
 go_wp2_with fail
 generalize W.alloc (.cells #[.int .i64 5, .int .i64 (k : Int), .int .i64 (m : Int)] 23) = w1 at HB hb ⊢
 have HX := Aside0.mk hb
 clear hb
 refine (profile_May.calls 5 (k : Int) (m : Int) true _ HM.out).mono ?_
 rintro e w2 ⟨rfl, hB2⟩
 have HB2 := Aside0.mk (HB.out.trans (hB2.mono HB.out.size))
 have HX2 := Aside0.mk (blk_below HX.out hB2)
 have HZ2 := Aside0.mk hB2.size
 obtain ⟨fb, hfb⟩ : ∃ fb, fb = W.heap.size := ⟨_, rfl⟩
 rw [← hfb] at HX2 ⊢
 clear hB2 hfb
 go_wp2_with fail
 have HA := Aside0.mk (heap_alloc_new w2 (.cells #[.func (.func 68) #[] #[], .func (.func 69) #[] #[], .func (.func 70) #[] #[], .func (.func 71) #[] #[], .func (.func 72) #[] #[], .func (.func 72) #[] #[]] 102))
 have HX3 := Aside0.mk (blk_below HX2.out (below_alloc (Below.refl w2.heap.size w2) (.cells #[.func (.func 68) #[] #[], .func (.func 69) #[] #[], .func (.func 70) #[] #[], .func (.func 71) #[] #[], .func (.func 72) #[] #[], .func (.func 72) #[] #[]] 102)))
 have HB3 := Aside0.mk (below_alloc HB2.out (.cells #[.func (.func 68) #[] #[], .func (.func 69) #[] #[], .func (.func 70) #[] #[], .func (.func 71) #[] #[], .func (.func 72) #[] #[], .func (.func 72) #[] #[]] 102))
 obtain ⟨ab, hab⟩ : ∃ ab, ab = w2.heap.size := ⟨_, rfl⟩
 rw [← hab] at HA ⊢
 clear hab HX2 HB2
 generalize w2.alloc (.cells #[.func (.func 68) #[] #[], .func (.func 69) #[] #[], .func (.func 70) #[] #[], .func (.func 71) #[] #[], .func (.func 72) #[] #[], .func (.func 72) #[] #[]] 102) = w3 at HA HX3 HB3 ⊢
 have c0 : w3.cell? ⟨fb, 0, none⟩ = some (.int .i64 5) := (blk_cell HX3.out 0).trans rfl
 have c1 : w3.cell? ⟨fb, 1, none⟩ = some (.int .i64 (k : Int)) := (blk_cell HX3.out 1).trans rfl
 have c2 : w3.cell? ⟨fb, 2, none⟩ = some (.int .i64 (m : Int)) := (blk_cell HX3.out 2).trans rfl
 have c3 : w3.cell? ⟨ab, 4, none⟩ = some (.func (.func 72) #[] #[]) := (blk_cell HA.out 4).trans rfl
 have hwq : wrap64 4 = 4 := by unfold wrap64; omega
 refine start_ (n := 17) (S := fun w' => w'.cell? ⟨fb, 0, none⟩ = some (.int .i64 5) ∧ w'.cell? ⟨fb, 1, none⟩ = some (.int .i64 (k : Int)) ∧ w'.cell? ⟨fb, 2, none⟩ = some (.int .i64 (m : Int)) ∧ w'.cell? ⟨ab, 4, none⟩ = some (.func (.func 72) #[] #[])) (ds := [12]) #[false, false, false, false, false, false, false, false, false, false, false, false, false, false, false, false, false] (by kernel_rfl) rfl rfl ⟨c0, c1, c2, c3⟩ (fun hHeld => ?_)
 refine pure_ (i := 0) (N := some 9) (v := ?_) (a' := ?_) #[true, false, false, false, false, false, false, false, false, false, false, false, false, false, false, false, false] rfl rfl (by kernel_rfl) (fun _ _ _ h => h) (Or.inl ⟨by rfl, ?_⟩) ?_ ?_
 rotate_left
 ·intro w'
  go_simp
  with_reducible rfl
 rotate_left
 ·simp only [Act.put, List.setIfInBounds_toArray, List.set_cons_zero, List.set_cons_succ, i64_w, i32_w]
  rfl
 refine pure_ (i := 5) (N := some 14) (v := ?_) (a' := ?_) #[true, false, false, false, false, true, false, false, false, false, false, false, false, false, false, false, false] rfl rfl (by kernel_rfl) (fun _ _ _ h => h) (Or.inl ⟨by rfl, ?_⟩) ?_ ?_
 rotate_left
 ·intro w'
  go_simp
  with_reducible rfl
 rotate_left
 ·simp only [Act.put, List.setIfInBounds_toArray, List.set_cons_zero, List.set_cons_succ, i64_w, i32_w]
  rfl
 refine pure_ (i := 8) (N := some 17) (v := ?_) (a' := ?_) #[true, false, false, false, false, true, false, false, true, false, false, false, false, false, false, false, false] rfl rfl (by kernel_rfl) (fun _ _ _ h => h) (Or.inl ⟨by rfl, ?_⟩) ?_ ?_
 rotate_left
 ·intro w'
  go_simp
  with_reducible rfl
 rotate_left
 ·simp only [Act.put, List.setIfInBounds_toArray, List.set_cons_zero, List.set_cons_succ, i64_w, i32_w]
  rfl
 refine pure_ (i := 10) (N := some 19) (v := ?_) (a' := ?_) #[true, false, false, false, false, true, false, false, true, false, true, false, false, false, false, false, false] rfl rfl (by kernel_rfl) (fun _ _ _ h => h) (Or.inl ⟨by rfl, ?_⟩) ?_ ?_
 rotate_left
 ·intro w'
  go_simp
  with_reducible rfl
 rotate_left
 ·simp only [Act.put, List.setIfInBounds_toArray, List.set_cons_zero, List.set_cons_succ, i64_w, i32_w]
  rfl
 refine take_ (i := 1) (N := some 10) (v := ?_) (a' := ?_) #[true, true, false, false, false, true, false, false, true, false, true, false, false, false, false, false, false] rfl rfl (by kernel_rfl) (fun _ _ _ h => h) (Or.inl ⟨by rfl, ?_⟩) hHeld ?_ ?_
 rotate_left
 ·rintro w' ⟨s0, s1, s2, s3⟩
  go_simp
  with_reducible rfl
 rotate_left
 ·simp only [Act.put, List.setIfInBounds_toArray, List.set_cons_zero, List.set_cons_succ, i64_w, i32_w]
  rfl
 refine pure_ (i := 2) (N := some 11) (v := ?_) (a' := ?_) #[true, true, true, false, false, true, false, false, true, false, true, false, false, false, false, false, false] rfl rfl (by kernel_rfl) (fun _ _ _ h => h) (Or.inl ⟨by rfl, ?_⟩) ?_ ?_
 rotate_left
 ·intro w'
  go_simp
  with_reducible rfl
 rotate_left
 ·simp only [Act.put, List.setIfInBounds_toArray, List.set_cons_zero, List.set_cons_succ, i64_w, i32_w]
  rfl
 refine pure_ (i := 3) (N := some 12) (v := ?_) (a' := ?_) #[true, true, true, true, false, true, false, false, true, false, true, false, false, false, false, false, false] rfl rfl (by kernel_rfl) (fun _ _ _ h => h) (Or.inl ⟨by rfl, ?_⟩) ?_ ?_
 rotate_left
 ·intro w'
  go_simp
  with_reducible rfl
 rotate_left
 ·simp only [Act.put, List.setIfInBounds_toArray, List.set_cons_zero, List.set_cons_succ, i64_w, i32_w]
  rfl
 refine take_ (i := 4) (N := some 13) (v := ?_) (a' := ?_) #[true, true, true, true, true, true, false, false, true, false, true, false, false, false, false, false, false] rfl rfl (by kernel_rfl) (fun _ _ _ h => h) (Or.inl ⟨by rfl, ?_⟩) hHeld ?_ ?_
 rotate_left
 ·rintro w' ⟨s0, s1, s2, s3⟩
  go_simp
  with_reducible rfl
 rotate_left
 ·simp only [Act.put, List.setIfInBounds_toArray, List.set_cons_zero, List.set_cons_succ, i64_w, i32_w]
  rfl
 refine take_ (i := 6) (N := some 15) (v := ?_) (a' := ?_) #[true, true, true, true, true, true, true, false, true, false, true, false, false, false, false, false, false] rfl rfl (by kernel_rfl) (fun _ _ _ h => h) (Or.inl ⟨by rfl, ?_⟩) hHeld ?_ ?_
 rotate_left
 ·rintro w' ⟨s0, s1, s2, s3⟩
  go_simp
  with_reducible rfl
 rotate_left
 ·simp only [Act.put, List.setIfInBounds_toArray, List.set_cons_zero, List.set_cons_succ, i64_w, i32_w]
  rfl
 refine take_ (i := 9) (N := some 18) (v := ?_) (a' := ?_) #[true, true, true, true, true, true, true, false, true, true, true, false, false, false, false, false, false] rfl rfl (by kernel_rfl) (fun _ _ _ h => h) (Or.inl ⟨by rfl, ?_⟩) hHeld ?_ ?_
 rotate_left
 ·rintro w' ⟨s0, s1, s2, s3⟩
  go_simp
  with_reducible rfl
 rotate_left
 ·simp only [Act.put, List.setIfInBounds_toArray, List.set_cons_zero, List.set_cons_succ, i64_w, i32_w]
  rfl
 refine take_ (i := 11) (N := some 20) (v := ?_) (a' := ?_) #[true, true, true, true, true, true, true, false, true, true, true, true, false, false, false, false, false] rfl rfl (by kernel_rfl) (fun _ _ _ h => h) (Or.inl ⟨by rfl, ?_⟩) hHeld ?_ ?_
 rotate_left
 ·rintro w' ⟨s0, s1, s2, s3⟩
  go_simp
  with_reducible rfl
 rotate_left
 ·simp only [Act.put, List.setIfInBounds_toArray, List.set_cons_zero, List.set_cons_succ, i64_w, i32_w]
  rfl
 refine one_ (i := 7) (N := some 16) #[true, true, true, true, true, true, true, true, true, true, true, true, false, false, false, false, false] rfl rfl (by kernel_rfl) (by decide) (fun K hK => ?_)
 refine goes_ Tryz.func36 (by kernel_rfl) rfl #[.int .i64 5] (by rfl) rfl rfl (by simp only [List.map_toArray, List.map_cons, List.map_nil]; rfl) ?_
 with_reducible refine (HFD.out w3.drew).mono ?_
 rintro e w4 ⟨g, rfl, q1, q2, q3⟩
 refine ⟨_, rfl, ?_⟩
 refine hK.out _ _ ⟨pw_cell_below q3 c0, pw_cell_below q3 c1, pw_cell_below q3 c2, pw_cell_below q3 c3⟩ (fun hHeld => ?_)
 clear hK K
 refine norm_ (a' := ?_) ?_ ?_
 rotate_left
 ·show Act.put _ (some 16) _ = _
  simp only [Act.put, List.setIfInBounds_toArray, List.set_cons_zero, List.set_cons_succ, i64_w, i32_w]
  rfl
 refine last_ (i := 12) (N := some 21) #[true, true, true, true, true, true, true, true, true, true, true, true, true, false, false, false, false] rfl rfl (by kernel_rfl) (by decide) (fun K hK => ?_)
 refine goesV_ Tryz.func72 (by kernel_rfl) rfl (.tmp 13) #[] #[] #[.pointer (some ⟨g, 0, none⟩), .int .i64 (k : Int), .int .i64 (m : Int)] (by rfl) (by rfl) rfl rfl (by simp only [List.map_toArray, List.map_cons, List.map_nil]; rfl) ?_
 with_reducible refine (HP.out g w4 q1).mono ?_
 rintro e w5 ⟨A, c, rfl, p1, p2, p3⟩
 refine ⟨_, rfl, ?_⟩
 refine hK.out _ _ ?_
 clear hK K
 refine norm_ (a' := ?_) ?_ ?_
 rotate_left
 ·show Act.put _ (some 21) _ = _
  simp only [Act.put, List.setIfInBounds_toArray, List.set_cons_zero, List.set_cons_succ, i64_w, i32_w]
  rfl
 refine pure_ (i := 13) (N := some 22) (v := ?_) (a' := ?_) #[true, true, true, true, true, true, true, true, true, true, true, true, true, true, false, false, false] rfl rfl (by kernel_rfl) (fun _ _ _ h => h) (Or.inl ⟨by rfl, ?_⟩) ?_ ?_
 rotate_left
 ·intro w'
  go_simp
  with_reducible rfl
 rotate_left
 ·simp only [Act.put, List.setIfInBounds_toArray, List.set_cons_zero, List.set_cons_succ, i64_w, i32_w]
  rfl
 refine pure_ (i := 14) (N := some 23) (v := ?_) (a' := ?_) #[true, true, true, true, true, true, true, true, true, true, true, true, true, true, true, false, false] rfl rfl (by kernel_rfl) (fun _ _ _ h => h) (Or.inl ⟨by rfl, ?_⟩) ?_ ?_
 rotate_left
 ·intro w'
  go_simp
  with_reducible rfl
 rotate_left
 ·simp only [Act.put, List.setIfInBounds_toArray, List.set_cons_zero, List.set_cons_succ, i64_w, i32_w]
  rfl
 refine pure_ (i := 15) (N := some 2) (v := ?_) (a' := ?_) #[true, true, true, true, true, true, true, true, true, true, true, true, true, true, true, true, false] rfl rfl (by kernel_rfl) (fun _ _ _ h => h) (Or.inl ⟨by rfl, ?_⟩) ?_ ?_
 rotate_left
 ·intro w'
  go_simp
  with_reducible rfl
 rotate_left
 ·simp only [Act.put, List.setIfInBounds_toArray, List.set_cons_zero, List.set_cons_succ, i64_w, i32_w]
  rfl
 refine pure_ (i := 16) (N := some 3) (v := ?_) (a' := ?_) #[true, true, true, true, true, true, true, true, true, true, true, true, true, true, true, true, true] rfl rfl (by kernel_rfl) (fun _ _ _ h => h) (Or.inl ⟨by rfl, ?_⟩) ?_ ?_
 rotate_left
 ·intro w'
  go_simp
  with_reducible rfl
 rotate_left
 ·simp only [Act.put, List.setIfInBounds_toArray, List.set_cons_zero, List.set_cons_succ, i64_w, i32_w]
  rfl
 refine done_ (by kernel_rfl) ?_
 clear hwq
 go_wp2
 go_ret2
 exact ⟨_, _, rfl, p1, p2, p3.below ((show Below W.heap.size W w3.drew from below_drew HB3.out).trans (q3.mono HB3.out.size)) (Nat.le_trans HB3.out.size q2)⟩
set_option maxRecDepth 100000 in
set_option maxHeartbeats 4000000 in
theorem pway6 (k m : Nat) (W : World) (h1 : 1 ≤ k) (h2 : 1 ≤ m) (h3 : k ≤ 8) (h4 : m ≤ 4) (hm : profile_May.f 6 (k : Int) (m : Int) = some true) :
  Calls Tryz.prog 35 #[.agg #[.int .i64 6, .int .i64 (k : Int), .int .i64 (m : Int)]] W (ParRes (parM 6 k m) m W) := by
 have HM := Aside0.mk hm
 have HP := Aside0.mk (fun g W' h => pfn6 g k m W' h h1 h2 h3 h4)
 have hfd := profile_Field.calls 6 (by decide)
 rw [show pbits 6 = 8 by simp [pbits]] at hfd
 have HFD := Aside0.mk hfd
 generalize parM 6 k m = res at HP ⊢
 have hb := heap_alloc_new W (.cells #[.int .i64 6, .int .i64 (k : Int), .int .i64 (m : Int)] 23)
 have HB := Aside0.mk (show Below W.heap.size W (W.alloc (.cells #[.int .i64 6, .int .i64 (k : Int), .int .i64 (m : Int)] 23)) from below_alloc (Below.refl _ _) _)
 have hu := Tryz.underlying23
 clear hm h1 h2 h3 h4 hfd
 go_enter Tryz.func35, Tryz.ntmps35
 go_wp2_with fail
 generalize W.alloc (.cells #[.int .i64 6, .int .i64 (k : Int), .int .i64 (m : Int)] 23) = w1 at HB hb ⊢
 have HX := Aside0.mk hb
 clear hb
 refine (profile_May.calls 6 (k : Int) (m : Int) true _ HM.out).mono ?_
 rintro e w2 ⟨rfl, hB2⟩
 have HB2 := Aside0.mk (HB.out.trans (hB2.mono HB.out.size))
 have HX2 := Aside0.mk (blk_below HX.out hB2)
 have HZ2 := Aside0.mk hB2.size
 obtain ⟨fb, hfb⟩ : ∃ fb, fb = W.heap.size := ⟨_, rfl⟩
 rw [← hfb] at HX2 ⊢
 clear hB2 hfb
 go_wp2_with fail
 have HA := Aside0.mk (heap_alloc_new w2 (.cells #[.func (.func 68) #[] #[], .func (.func 69) #[] #[], .func (.func 70) #[] #[], .func (.func 71) #[] #[], .func (.func 72) #[] #[], .func (.func 72) #[] #[]] 102))
 have HX3 := Aside0.mk (blk_below HX2.out (below_alloc (Below.refl w2.heap.size w2) (.cells #[.func (.func 68) #[] #[], .func (.func 69) #[] #[], .func (.func 70) #[] #[], .func (.func 71) #[] #[], .func (.func 72) #[] #[], .func (.func 72) #[] #[]] 102)))
 have HB3 := Aside0.mk (below_alloc HB2.out (.cells #[.func (.func 68) #[] #[], .func (.func 69) #[] #[], .func (.func 70) #[] #[], .func (.func 71) #[] #[], .func (.func 72) #[] #[], .func (.func 72) #[] #[]] 102))
 obtain ⟨ab, hab⟩ : ∃ ab, ab = w2.heap.size := ⟨_, rfl⟩
 rw [← hab] at HA ⊢
 clear hab HX2 HB2
 generalize w2.alloc (.cells #[.func (.func 68) #[] #[], .func (.func 69) #[] #[], .func (.func 70) #[] #[], .func (.func 71) #[] #[], .func (.func 72) #[] #[], .func (.func 72) #[] #[]] 102) = w3 at HA HX3 HB3 ⊢
 have c0 : w3.cell? ⟨fb, 0, none⟩ = some (.int .i64 6) := (blk_cell HX3.out 0).trans rfl
 have c1 : w3.cell? ⟨fb, 1, none⟩ = some (.int .i64 (k : Int)) := (blk_cell HX3.out 1).trans rfl
 have c2 : w3.cell? ⟨fb, 2, none⟩ = some (.int .i64 (m : Int)) := (blk_cell HX3.out 2).trans rfl
 have c3 : w3.cell? ⟨ab, 5, none⟩ = some (.func (.func 72) #[] #[]) := (blk_cell HA.out 5).trans rfl
 have hwq : wrap64 5 = 5 := by unfold wrap64; omega
 refine start_ (n := 17) (S := fun w' => w'.cell? ⟨fb, 0, none⟩ = some (.int .i64 6) ∧ w'.cell? ⟨fb, 1, none⟩ = some (.int .i64 (k : Int)) ∧ w'.cell? ⟨fb, 2, none⟩ = some (.int .i64 (m : Int)) ∧ w'.cell? ⟨ab, 5, none⟩ = some (.func (.func 72) #[] #[])) (ds := [12]) #[false, false, false, false, false, false, false, false, false, false, false, false, false, false, false, false, false] (by kernel_rfl) rfl rfl ⟨c0, c1, c2, c3⟩ (fun hHeld => ?_)
 refine pure_ (i := 0) (N := some 9) (v := ?_) (a' := ?_) #[true, false, false, false, false, false, false, false, false, false, false, false, false, false, false, false, false] rfl rfl (by kernel_rfl) (fun _ _ _ h => h) (Or.inl ⟨by rfl, ?_⟩) ?_ ?_
 rotate_left
 ·intro w'
  go_simp
  with_reducible rfl
 rotate_left
 ·simp only [Act.put, List.setIfInBounds_toArray, List.set_cons_zero, List.set_cons_succ, i64_w, i32_w]
  rfl
 refine pure_ (i := 5) (N := some 14) (v := ?_) (a' := ?_) #[true, false, false, false, false, true, false, false, false, false, false, false, false, false, false, false, false] rfl rfl (by kernel_rfl) (fun _ _ _ h => h) (Or.inl ⟨by rfl, ?_⟩) ?_ ?_
 rotate_left
 ·intro w'
  go_simp
  with_reducible rfl
 rotate_left
 ·simp only [Act.put, List.setIfInBounds_toArray, List.set_cons_zero, List.set_cons_succ, i64_w, i32_w]
  rfl
 refine pure_ (i := 8) (N := some 17) (v := ?_) (a' := ?_) #[true, false, false, false, false, true, false, false, true, false, false, false, false, false, false, false, false] rfl rfl (by kernel_rfl) (fun _ _ _ h => h) (Or.inl ⟨by rfl, ?_⟩) ?_ ?_
 rotate_left
 ·intro w'
  go_simp
  with_reducible rfl
 rotate_left
 ·simp only [Act.put, List.setIfInBounds_toArray, List.set_cons_zero, List.set_cons_succ, i64_w, i32_w]
  rfl
 refine pure_ (i := 10) (N := some 19) (v := ?_) (a' := ?_) #[true, false, false, false, false, true, false, false, true, false, true, false, false, false, false, false, false] rfl rfl (by kernel_rfl) (fun _ _ _ h => h) (Or.inl ⟨by rfl, ?_⟩) ?_ ?_
 rotate_left
 ·intro w'
  go_simp
  with_reducible rfl
 rotate_left
 ·simp only [Act.put, List.setIfInBounds_toArray, List.set_cons_zero, List.set_cons_succ, i64_w, i32_w]
  rfl
 refine take_ (i := 1) (N := some 10) (v := ?_) (a' := ?_) #[true, true, false, false, false, true, false, false, true, false, true, false, false, false, false, false, false] rfl rfl (by kernel_rfl) (fun _ _ _ h => h) (Or.inl ⟨by rfl, ?_⟩) hHeld ?_ ?_
 rotate_left
 ·rintro w' ⟨s0, s1, s2, s3⟩
  go_simp
  with_reducible rfl
 rotate_left
 ·simp only [Act.put, List.setIfInBounds_toArray, List.set_cons_zero, List.set_cons_succ, i64_w, i32_w]
  rfl
 refine pure_ (i := 2) (N := some 11) (v := ?_) (a' := ?_) #[true, true, true, false, false, true, false, false, true, false, true, false, false, false, false, false, false] rfl rfl (by kernel_rfl) (fun _ _ _ h => h) (Or.inl ⟨by rfl, ?_⟩) ?_ ?_
 rotate_left
 ·intro w'
  go_simp
  with_reducible rfl
 rotate_left
 ·simp only [Act.put, List.setIfInBounds_toArray, List.set_cons_zero, List.set_cons_succ, i64_w, i32_w]
  rfl
 refine pure_ (i := 3) (N := some 12) (v := ?_) (a' := ?_) #[true, true, true, true, false, true, false, false, true, false, true, false, false, false, false, false, false] rfl rfl (by kernel_rfl) (fun _ _ _ h => h) (Or.inl ⟨by rfl, ?_⟩) ?_ ?_
 rotate_left
 ·intro w'
  go_simp
  with_reducible rfl
 rotate_left
 ·simp only [Act.put, List.setIfInBounds_toArray, List.set_cons_zero, List.set_cons_succ, i64_w, i32_w]
  rfl
 refine take_ (i := 4) (N := some 13) (v := ?_) (a' := ?_) #[true, true, true, true, true, true, false, false, true, false, true, false, false, false, false, false, false] rfl rfl (by kernel_rfl) (fun _ _ _ h => h) (Or.inl ⟨by rfl, ?_⟩) hHeld ?_ ?_
 rotate_left
 ·rintro w' ⟨s0, s1, s2, s3⟩
  go_simp
  with_reducible rfl
 rotate_left
 ·simp only [Act.put, List.setIfInBounds_toArray, List.set_cons_zero, List.set_cons_succ, i64_w, i32_w]
  rfl
 refine take_ (i := 6) (N := some 15) (v := ?_) (a' := ?_) #[true, true, true, true, true, true, true, false, true, false, true, false, false, false, false, false, false] rfl rfl (by kernel_rfl) (fun _ _ _ h => h) (Or.inl ⟨by rfl, ?_⟩) hHeld ?_ ?_
 rotate_left
 ·rintro w' ⟨s0, s1, s2, s3⟩
  go_simp
  with_reducible rfl
 rotate_left
 ·simp only [Act.put, List.setIfInBounds_toArray, List.set_cons_zero, List.set_cons_succ, i64_w, i32_w]
  rfl
 refine take_ (i := 9) (N := some 18) (v := ?_) (a' := ?_) #[true, true, true, true, true, true, true, false, true, true, true, false, false, false, false, false, false] rfl rfl (by kernel_rfl) (fun _ _ _ h => h) (Or.inl ⟨by rfl, ?_⟩) hHeld ?_ ?_
 rotate_left
 ·rintro w' ⟨s0, s1, s2, s3⟩
  go_simp
  with_reducible rfl
 rotate_left
 ·simp only [Act.put, List.setIfInBounds_toArray, List.set_cons_zero, List.set_cons_succ, i64_w, i32_w]
  rfl
 refine take_ (i := 11) (N := some 20) (v := ?_) (a' := ?_) #[true, true, true, true, true, true, true, false, true, true, true, true, false, false, false, false, false] rfl rfl (by kernel_rfl) (fun _ _ _ h => h) (Or.inl ⟨by rfl, ?_⟩) hHeld ?_ ?_
 rotate_left
 ·rintro w' ⟨s0, s1, s2, s3⟩
  go_simp
  with_reducible rfl
 rotate_left
 ·simp only [Act.put, List.setIfInBounds_toArray, List.set_cons_zero, List.set_cons_succ, i64_w, i32_w]
  rfl
 refine one_ (i := 7) (N := some 16) #[true, true, true, true, true, true, true, true, true, true, true, true, false, false, false, false, false] rfl rfl (by kernel_rfl) (by decide) (fun K hK => ?_)
 refine goes_ Tryz.func36 (by kernel_rfl) rfl #[.int .i64 6] (by rfl) rfl rfl (by simp only [List.map_toArray, List.map_cons, List.map_nil]; rfl) ?_
 with_reducible refine (HFD.out w3.drew).mono ?_
 rintro e w4 ⟨g, rfl, q1, q2, q3⟩
 refine ⟨_, rfl, ?_⟩
 refine hK.out _ _ ⟨pw_cell_below q3 c0, pw_cell_below q3 c1, pw_cell_below q3 c2, pw_cell_below q3 c3⟩ (fun hHeld => ?_)
 clear hK K
 refine norm_ (a' := ?_) ?_ ?_
 rotate_left
 ·show Act.put _ (some 16) _ = _
  simp only [Act.put, List.setIfInBounds_toArray, List.set_cons_zero, List.set_cons_succ, i64_w, i32_w]
  rfl
 refine last_ (i := 12) (N := some 21) #[true, true, true, true, true, true, true, true, true, true, true, true, true, false, false, false, false] rfl rfl (by kernel_rfl) (by decide) (fun K hK => ?_)
 refine goesV_ Tryz.func72 (by kernel_rfl) rfl (.tmp 13) #[] #[] #[.pointer (some ⟨g, 0, none⟩), .int .i64 (k : Int), .int .i64 (m : Int)] (by rfl) (by rfl) rfl rfl (by simp only [List.map_toArray, List.map_cons, List.map_nil]; rfl) ?_
 with_reducible refine (HP.out g w4 q1).mono ?_
 rintro e w5 ⟨A, c, rfl, p1, p2, p3⟩
 refine ⟨_, rfl, ?_⟩
 refine hK.out _ _ ?_
 clear hK K
 refine norm_ (a' := ?_) ?_ ?_
 rotate_left
 ·show Act.put _ (some 21) _ = _
  simp only [Act.put, List.setIfInBounds_toArray, List.set_cons_zero, List.set_cons_succ, i64_w, i32_w]
  rfl
 refine pure_ (i := 13) (N := some 22) (v := ?_) (a' := ?_) #[true, true, true, true, true, true, true, true, true, true, true, true, true, true, false, false, false] rfl rfl (by kernel_rfl) (fun _ _ _ h => h) (Or.inl ⟨by rfl, ?_⟩) ?_ ?_
 rotate_left
 ·intro w'
  go_simp
  with_reducible rfl
 rotate_left
 ·simp only [Act.put, List.setIfInBounds_toArray, List.set_cons_zero, List.set_cons_succ, i64_w, i32_w]
  rfl
 refine pure_ (i := 14) (N := some 23) (v := ?_) (a' := ?_) #[true, true, true, true, true, true, true, true, true, true, true, true, true, true, true, false, false] rfl rfl (by kernel_rfl) (fun _ _ _ h => h) (Or.inl ⟨by rfl, ?_⟩) ?_ ?_
 rotate_left
 ·intro w'
  go_simp
  with_reducible rfl
 rotate_left
 ·simp only [Act.put, List.setIfInBounds_toArray, List.set_cons_zero, List.set_cons_succ, i64_w, i32_w]
  rfl
 refine pure_ (i := 15) (N := some 2) (v := ?_) (a' := ?_) #[true, true, true, true, true, true, true, true, true, true, true, true, true, true, true, true, false] rfl rfl (by kernel_rfl) (fun _ _ _ h => h) (Or.inl ⟨by rfl, ?_⟩) ?_ ?_
 rotate_left
 ·intro w'
  go_simp
  with_reducible rfl
 rotate_left
 ·simp only [Act.put, List.setIfInBounds_toArray, List.set_cons_zero, List.set_cons_succ, i64_w, i32_w]
  rfl
 refine pure_ (i := 16) (N := some 3) (v := ?_) (a' := ?_) #[true, true, true, true, true, true, true, true, true, true, true, true, true, true, true, true, true] rfl rfl (by kernel_rfl) (fun _ _ _ h => h) (Or.inl ⟨by rfl, ?_⟩) ?_ ?_
 rotate_left
 ·intro w'
  go_simp
  with_reducible rfl
 rotate_left
 ·simp only [Act.put, List.setIfInBounds_toArray, List.set_cons_zero, List.set_cons_succ, i64_w, i32_w]
  rfl
 refine done_ (by kernel_rfl) ?_
 clear hwq
 go_wp2
 go_ret2
 exact ⟨_, _, rfl, p1, p2, p3.below ((show Below W.heap.size W w3.drew from below_drew HB3.out).trans (q3.mono HB3.out.size)) (Nat.le_trans HB3.out.size q2)⟩
end Go.Proofs.YtelcllhibpnneaaGreat.XCo
end
section
namespace Go.Proofs.YtelcllhibpnneaaGreat.XCo
open Go.RowKit Go.Proofs.YtelcllhibpnneaaGreatW.PrintWords Go.Proofs.YtelcllhibpnneaaGreatW.PrintLast Go.Proofs.YtelcllhibpnneaaGreatW.PrintMore
attribute [local go_sem] max2_int min2_int max_two min_two max_three min_three max_four min_four
set_option linter.unusedVariables false
set_option linter.unusedSimpArgs false
theorem ginv_range {wb : Int} (hw : wb = 8 ∨ wb = 16) (a : Int) : 0 ≤ ginv wb a ∧ ginv wb a < fsize wb := by
 unfold ginv
 split
 ·rcases hw with rfl | rfl
  ·exact pow_range (.inl rfl) a 254
  ·exact pow_range (.inr rfl) a 65534
 ·rcases hw with rfl | rfl <;> decide
theorem cauM_good {wb : Int} (hw : wb = 8 ∨ wb = 16) (x y : List Int) : ∀ r, r ∈ cauM wb x y → Good wb y.length r := by
 intro r hr
 obtain ⟨a, -, rfl⟩ := List.mem_map.1 hr
 refine ⟨by simp, fun z hz => ?_⟩
 obtain ⟨b, -, rfl⟩ := List.mem_map.1 hz
 exact ginv_range hw _
theorem set_good {wb : Int} {L : Nat} {r : List Int} (h : Good wb L r) (j : Nat) {x : Int} (hx : 0 ≤ x ∧ x < fsize wb) : Good wb L (r.set j x) := by
 refine ⟨by rw [List.length_set]; exact h.1, fun y hy => ?_⟩
 rcases List.mem_or_eq_of_mem_set hy with h1 | rfl
 ·exact h.2 y h1
 ·exact hx
theorem getD_good {wb : Int} (hw : wb = 8 ∨ wb = 16) {L : Nat} {r : List Int} (h : Good wb L r) (j : Nat) : 0 ≤ r.getD j 0 ∧ r.getD j 0 < fsize wb := by
 rw [List.getD_eq_getElem?_getD]
 cases e : r[j]? with
 | none => rcases hw with rfl | rfl <;> decide
 | some x => exact h.2 x (List.mem_of_getElem? e)
theorem dotF_range {wb : Int} (hw : wb = 8 ∨ wb = 16) : ∀ (a b : List Int) (s : Int), (0 ≤ s ∧ s < fsize wb) → 0 ≤ dotF wb a b s ∧ dotF wb a b s < fsize wb
 | [], _, s, h => by unfold dotF; exact h
 | _ :: _, [], s, h => by unfold dotF; exact h
 | x :: a, y :: b, s, h => by unfold dotF; exact dotF_range hw a b _ (xor_range hw h (gmul_range hw _ _))
theorem sysM_good (k m : Nat) : ∀ r, r ∈ sysM 8 k m → Good 8 k r := by
 intro r hr
 unfold sysM mulF at hr
 obtain ⟨row, -, rfl⟩ := List.mem_map.1 hr
 refine ⟨by simp [transp], fun z hz => ?_⟩
 obtain ⟨col, -, rfl⟩ := List.mem_map.1 hz
 exact dotF_range (.inl rfl) _ _ 0 (by decide)
section
variable {wb : Int} (hw : wb = 8 ∨ wb = 16) {L : Nat}
include hw
theorem swpF_good {i : Nat} {rows : List (List Int)} (h : ∀ r, r ∈ rows → Good wb L r) : ∀ r, r ∈ swpF i rows → Good wb L r := by
 unfold swpF
 split
 ·exact h
 ·intro r hr
  obtain ⟨q, hq, rfl⟩ := List.mem_map.1 hr
  exact set_good (set_good (h q hq) _ (getD_good hw (h q hq) _)) _ (getD_good hw (h q hq) _)
theorem sclF_good {c : Int} {f j : Nat} {rows : List (List Int)} (h : ∀ r, r ∈ rows → Good wb L r) : ∀ r, r ∈ sclF wb c f j rows → Good wb L r := by
 intro r hr
 unfold sclF sclTo at hr
 rcases List.mem_append.1 hr with hr | hr
 ·exact h r (List.mem_of_mem_take hr)
 ·rcases List.mem_append.1 hr with hr | hr
  ·obtain ⟨q, hq, rfl⟩ := List.mem_map.1 hr
   exact set_good (h q (List.mem_of_mem_drop (List.mem_of_mem_take hq))) _ (gmul_range hw _ _)
  ·exact h r (List.mem_of_mem_drop (List.mem_of_mem_drop hr))
theorem cutF_good {i : Nat} : ∀ (cs : List Int) (j : Nat) (rows : List (List Int)), (∀ r, r ∈ rows → Good wb L r) → ∀ r, r ∈ cutF wb i cs j rows → Good wb L r
 | [], _, _, h => h
 | c :: cs, j, rows, h => by
  unfold cutF
  refine cutF_good cs (j + 1) _ ?_
  unfold cutCol
  split
  ·exact h
  ·intro r hr
   obtain ⟨q, hq, rfl⟩ := List.mem_map.1 hr
   exact set_good (h q hq) _ (xor_range hw (getD_good hw (h q hq) _) (gmul_range hw _ _))
theorem stepsF_good {rows : List (List Int)} (h : ∀ r, r ∈ rows → Good wb L r) : ∀ i, ∀ r, r ∈ stepsF wb i rows → Good wb L r
 | 0 => h
 | i + 1 => by
  unfold stepsF stepF
  exact cutF_good hw _ _ _ (sclF_good hw (swpF_good hw (stepsF_good h i)))
theorem colsF_good {k : Nat} {rows : List (List Int)} (h : ∀ r, r ∈ rows → Good wb L r) : ∀ j, ∀ r, r ∈ colsF wb k j rows → Good wb L r
 | 0 => h
 | j + 1 => by
  unfold colsF
  exact sclF_good hw (colsF_good h j)
end
theorem jvM_good {wb : Int} (hw : wb = 8 ∨ wb = 16) (k m : Nat) (h1 : 1 ≤ k) (h2 : 1 ≤ m) : (∀ r, r ∈ jvM wb k m → Good wb k r) ∧ (jvM wb k m).length = m := by
 have he : ∀ r, r ∈ extM wb k m → Good wb k r := by
  intro r hr
  unfold extM at hr
  rcases List.mem_append.1 hr with hr | hr
  ·exact madeF_good _ (fun i j => pow_range hw _ _) _ _ r hr
  ·rw [List.mem_singleton.1 hr]
   unfold lastU
   refine set_good ⟨by simp, fun x hx => ?_⟩ _ (by rcases hw with rfl | rfl <;> decide)
   rw [(List.mem_replicate.1 hx).2]
   rcases hw with rfl | rfl <;> decide
 have hc := colsF_good hw (k := k) (stepsF_good hw he k) k
 have hl : (colsF wb k k (stepsF wb k (extM wb k m))).length = k + m := by
  rw [(colsF_each (wb := wb) (k := k) (stepsF_each (wb := wb) (extM_each wb k m h1 h2).1 k).1 k).2, (stepsF_each (wb := wb) (extM_each wb k m h1 h2).1 k).2, (extM_each wb k m h1 h2).2]
 unfold jvM
 generalize colsF wb k k (stepsF wb k (extM wb k m)) = R at hc hl
 refine ⟨fun r hr => ?_, by simp [hl]; omega⟩
 rcases List.mem_append.1 hr with hr | hr
 ·exact hc r (List.mem_of_mem_drop (List.mem_of_mem_take hr))
 ·obtain ⟨q, hq, rfl⟩ := List.mem_map.1 hr
  have hg := hc q (List.mem_of_mem_drop (List.mem_of_mem_drop hq))
  refine ⟨by unfold rowInv; rw [List.length_map]; exact hg.1, fun x hx => ?_⟩
  obtain ⟨y, -, rfl⟩ := List.mem_map.1 hx
  exact gmul_range hw _ _
theorem parM_good (p : Int) (k m : Nat) (h1 : 1 ≤ k) (h2 : 1 ≤ m) (h3 : k ≤ 8) (h4 : m ≤ 4) : (∀ r, r ∈ parM p k m → Good (pbits p) k r) ∧ (parM p k m).length = m := by
 unfold parM pbits
 by_cases e1 : p = 1
 ·subst e1
  exact jvM_good (.inl rfl) k m h1 h2
 ·rw [if_neg e1]
  by_cases e2 : p = 2
  ·rw [if_pos e2, if_pos e2]
   refine ⟨fun r hr => ?_, by simp [cauM, runL]⟩
   have := cauM_good (.inr rfl) _ _ r hr
   rwa [runL_length] at this
  ·rw [if_neg e2, if_neg e2]
   by_cases e3 : p = 3
   ·rw [if_pos e3]
    exact ⟨madeF_good _ (fun i j => pow_range (.inl rfl) _ _) m k, by simp [isalM, madeF]⟩
   ·rw [if_neg e3]
    by_cases e4 : p = 4
    ·rw [if_pos e4]
     refine ⟨fun r hr => ?_, by simp [cauM, runL]⟩
     have := cauM_good (.inl rfl) _ _ r hr
     rwa [runL_length] at this
    ·rw [if_neg e4]
     exact ⟨fun r hr => sysM_good k m r (List.mem_of_mem_drop hr), by simp [sysM, mulF, rawM, madeF]⟩
end Go.Proofs.YtelcllhibpnneaaGreat.XCo
end
section
namespace Go.Proofs.YtelcllhibpnneaaGreat.XCo
open Go.RowKit Go.Proofs.YtelcllhibpnneaaGreatW.PrintWords Go.Proofs.YtelcllhibpnneaaGreatW.PrintLast Go.Proofs.YtelcllhibpnneaaGreatW.PrintMore
attribute [local go_sem] max2_int min2_int max_two min_two max_three min_three max_four min_four
set_option linter.unusedVariables false
set_option linter.unusedSimpArgs false
theorem may_true {p k m : Int} (h : profile_May.f p k m = some true) : 1 ≤ p ∧ p ≤ 6 ∧ 1 ≤ k ∧ k ≤ 8 ∧ 1 ≤ m ∧ m ≤ 4 := by
 unfold profile_May.f at h
 by_cases hp : 1 ≤ p ∧ p ≤ 6
 ·obtain ⟨h1, h2⟩ := hp
  have : p = 1 ∨ p = 2 ∨ p = 3 ∨ p = 4 ∨ p = 5 ∨ p = 6 := by omega
  rcases this with rfl | rfl | rfl | rfl | rfl | rfl
  all_goals
   simp only [profile_Of.f] at h
   by_cases c1 : k ≥ 1
   ·by_cases c2 : k ≤ 8
    ·by_cases c3 : m ≥ 1
     ·simp [c1, c2, c3] at h
      omega
     ·simp [c1, c2, c3] at h
    ·simp [c1, c2] at h
   ·simp [c1] at h
 ·have : profile_Of.f p = some (ByteArray.empty, 0, 0, 0, 0, false) := by
   unfold profile_Of.f
   simp only [not_and] at hp
   repeat (first | rw [if_neg (by omega)] | rfl)
  rw [this] at h
  simp at h
theorem may_some (p k m : Int) : ∃ b, profile_May.f p k m = some b := by
 unfold profile_May.f
 obtain ⟨x, hx⟩ : ∃ x, profile_Of.f p = some x := by
  unfold profile_Of.f
  repeat' split
  all_goals exact ⟨_, rfl⟩
 rw [hx]
 simp only [Option.bind_some]
 repeat' split
 all_goals exact ⟨_, rfl⟩
theorem profile_Parity.ok (p k m : Int) (W : World) (h : profile_May.f p k m = some true) :
  Calls Tryz.prog 35 #[.agg #[.int .i64 p, .int .i64 k, .int .i64 m]] W (ParRes (parM p k.toNat m.toNat) m.toNat W) := by
 obtain ⟨p1, p2, k1, k2, m1, m2⟩ := may_true h
 obtain ⟨k, rfl⟩ := Int.eq_ofNat_of_zero_le (show 0 ≤ k by omega)
 obtain ⟨m, rfl⟩ := Int.eq_ofNat_of_zero_le (show 0 ≤ m by omega)
 simp only [Int.toNat_natCast]
 have : p = 1 ∨ p = 2 ∨ p = 3 ∨ p = 4 ∨ p = 5 ∨ p = 6 := by omega
 rcases this with rfl | rfl | rfl | rfl | rfl | rfl
 ·exact pway1 k m W (by omega) (by omega) (by omega) (by omega) h
 ·exact pway2 k m W (by omega) (by omega) (by omega) (by omega) h
 ·exact pway3 k m W (by omega) (by omega) (by omega) (by omega) h
 ·exact pway4 k m W (by omega) (by omega) (by omega) (by omega) h
 ·exact pway5 k m W (by omega) (by omega) (by omega) (by omega) h
 ·exact pway6 k m W (by omega) (by omega) (by omega) (by omega) h
set_option maxRecDepth 100000 in
set_option maxHeartbeats 4000000 in
theorem profile_Parity.no (p k m : Int) (W : World) (h : profile_May.f p k m = some false) :
  Calls Tryz.prog 35 #[.agg #[.int .i64 p, .int .i64 k, .int .i64 m]] W fun e w' => e = .returned (.tuple #[.slice none 0 0, .int .i64 1]) ∧ Below W.heap.size W w' := by
 have HM := Aside0.mk h
 have HB := Aside0.mk (show Below W.heap.size W (W.alloc (.cells #[.int .i64 p, .int .i64 k, .int .i64 m] 23)) from below_alloc (Below.refl _ _) _)
 have hu := Tryz.underlying23
 clear h
 go_enter Tryz.func35, Tryz.ntmps35
 go_wp2_with fail
 refine (profile_May.calls p k m false _ HM.out).mono ?_
 rintro e w2 ⟨rfl, hB2⟩
 have HB2 := Aside0.mk (HB.out.trans (hB2.mono HB.out.size))
 clear hB2
 go_wp2
 go_ret2
 exact ⟨rfl, HB2.out⟩
end Go.Proofs.YtelcllhibpnneaaGreat.XCo
end
