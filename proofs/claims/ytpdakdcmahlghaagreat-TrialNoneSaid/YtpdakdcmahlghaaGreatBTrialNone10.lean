-- Joined by this work's own program (wip/tools/bundle.py) out of its texts: what this claim uses of them. Not trusted: Lean checks it.
import Derived.Laws.EntriesVeiled
import Derived.Test.YtpdakdcmahlghaaGreatBTrialNone9
section
namespace Go.Proofs.YtpdakdcmahlghaaGreat.XCo
open Go.RowKit Go.Proofs.YtpdakdcmahlghaaGreatW.PrintWords Go.Proofs.YtpdakdcmahlghaaGreatW.PrintLast Go.Proofs.YtpdakdcmahlghaaGreatW.PrintMore
attribute [local go_sem] aDz aEz aLz aMz auz avz aFz aGz
set_option linter.unusedVariables false
set_option linter.unusedSimpArgs false
theorem add_map (a k : Nat) : Option.map (fun x => x.add (k * (dM 3 .i64).sz)) (some (⟨a, 0, none⟩ : Addr)) = some ⟨a, k, none⟩ := by
 show some ((⟨a, 0, none⟩ : Addr).add (k * 1)) = _
 unfold Addr.add
 split <;> simp_all
theorem rawM_take (wb : Int) (a k : Nat) : (rawM wb (k + a) k).take k = rawM wb k k := by
 unfold rawM madeF
 rw [← List.map_take, List.take_range, Nat.min_eq_left (by omega)]
theorem sys_inv : ∀ k, k < 9 → ¬ (invF 8 (rawM 8 k k)).2 < k := by decide +kernel
def MatRes (M : List (List Int)) (m : Nat) (W : World) (g : Nat) (e : Ending) (w' : World) : Prop := ∃ A c, e = .returned (.tuple #[.slice A m c, .int .i64 0]) ∧ m ≤ c ∧ Kd.F (dM 3 .i64) w' (fun q => W.heap.size ≤ q) A m M ∧ BB W w' g
def ParRes (M : List (List Int)) (m : Nat) (W : World) (e : Ending) (w' : World) : Prop := ∃ A c, e = .returned (.tuple #[.slice A m c, .int .i64 0]) ∧ m ≤ c ∧ Kd.F (dM 3 .i64) w' (fun q => W.heap.size ≤ q) A m M ∧ Below W.heap.size W w'
theorem MatRes.of_S {W w' : World} {g : Nat} {v : Value} {M : List (List Int)} {m : Nat} (hM : M.length = m) (h : Kd.S (dM 3 .i64) 57 w' W.heap.size (fun _ => True) v M) (hb : BB W w' g) : MatRes M m W g (.returned (.tuple #[v, .int .i64 0])) w' := by
 obtain ⟨A, c, rfl, hl, hc⟩ := S_F (Kd.bxz (Kd.bcz h) (fun q hq => hq.2.1))
 rw [hM] at hl hc ⊢
 exact ⟨A, c, rfl, hl, hc, hb⟩
def parM (p : Int) (k m : Nat) : List (List Int) :=
 if p = 1 then jvM 8 k m else if p = 2 then cauM 16 (runL 0 m) (runL m k) else if p = 3 then isalM 8 m k else if p = 4 then cauM 8 (runL k m) (runL 0 k) else (sysM 8 k m).drop k
theorem pfn1 (g k m : Nat) (W : World) (hF : Fresh W g 8) (h1 : 1 ≤ k) (h2 : 1 ≤ m) (h3 : k ≤ 8) (h4 : m ≤ 4) : Calls Tryz.prog 76 #[.pointer (some ⟨g, 0, none⟩), .int .i64 (k : Int), .int .i64 (m : Int)] W (MatRes (parM 1 k m) m W g) := by
 refine (jpar.calls g 8 (fun _ => False) k m W (.inl rfl) (hF.fd _ (fun h => h)) (fun _ h => h.elim) h1 h2 h3 h4).mono ?_
 rintro e w' ⟨A, c, rfl, q1, q2, q3, q4⟩
 exact ⟨A, c, rfl, q1, Kd.bDz q2 (fun q hq => hq.2), q4⟩
theorem pfn2 (g k m : Nat) (W : World) (hF : Fresh W g 16) (h1 : 1 ≤ k) (h2 : 1 ≤ m) (h3 : k ≤ 8) (h4 : m ≤ 4) : Calls Tryz.prog 77 #[.pointer (some ⟨g, 0, none⟩), .int .i64 (k : Int), .int .i64 (m : Int)] W (MatRes (parM 2 k m) m W g) := by
 refine (cOrig.calls g 16 (fun _ => False) k m W (.inr rfl) (hF.fd _ (fun h => h)) (fun _ h => h.elim) h1 h2 h3 h4).mono ?_
 rintro e w' ⟨v, rfl, q1, q2, q3⟩
 exact MatRes.of_S (M := parM 2 k m) (show (cauM 16 (runL 0 m) (runL m k)).length = m by simp [cauM, runL]) q1 q3
theorem pfn3 (g k m : Nat) (W : World) (hF : Fresh W g 8) (h1 : 1 ≤ k) (h2 : 1 ≤ m) (h3 : k ≤ 8) (h4 : m ≤ 4) : Calls Tryz.prog 78 #[.pointer (some ⟨g, 0, none⟩), .int .i64 (k : Int), .int .i64 (m : Int)] W (MatRes (parM 3 k m) m W g) := by
 refine (Isal.calls g 8 (fun _ => False) k m W (.inl rfl) (hF.fd _ (fun h => h)) (fun _ h => h.elim) h1 h2 (by omega) (by omega) (by omega)).mono ?_
 rintro e w' ⟨v, rfl, q1, q2, q3⟩
 exact MatRes.of_S (M := parM 3 k m) (show (isalM 8 m k).length = m by simp [isalM, madeF]) q1 q3
theorem pfn4 (g k m : Nat) (W : World) (hF : Fresh W g 8) (h1 : 1 ≤ k) (h2 : 1 ≤ m) (h3 : k ≤ 8) (h4 : m ≤ 4) : Calls Tryz.prog 79 #[.pointer (some ⟨g, 0, none⟩), .int .i64 (k : Int), .int .i64 (m : Int)] W (MatRes (parM 4 k m) m W g) := by
 refine (cIsal.calls g 8 (fun _ => False) k m W (.inl rfl) (hF.fd _ (fun h => h)) (fun _ h => h.elim) h1 h2 h3 h4).mono ?_
 rintro e w' ⟨v, rfl, q1, q2, q3⟩
 exact MatRes.of_S (M := parM 4 k m) (show (cauM 8 (runL k m) (runL 0 k)).length = m by simp [cauM, runL]) q1 q3
set_option maxRecDepth 100000 in
set_option maxHeartbeats 4000000 in
theorem behind.calls (g k m : Nat) (W : World) (hF : Fresh W g 8) (h1 : 1 ≤ k) (h2 : 1 ≤ m) (h3 : k ≤ 8) (h4 : m ≤ 4) : Calls Tryz.prog 80 #[.pointer (some ⟨g, 0, none⟩), .int .i64 (k : Int), .int .i64 (m : Int)] W (MatRes ((sysM 8 k m).drop k) m W g) := by
 have HS := Aside0.mk (System.calls g 8 (fun _ => False) k m W (.inl rfl) (hF.fd _ (fun h => h)) (fun _ h => h.elim) h1 h2 (by omega) (by omega) (by omega) (by rw [rawM_take]; exact sys_inv k (by omega)))
 have HL := Aside0.mk (show (sysM 8 k m).length = k + m by simp [sysM, mulF, rawM, madeF])
 generalize sysM 8 k m = M at HS HL ⊢
 obtain ⟨n, hn⟩ : ∃ n, k + m = n := ⟨_, rfl⟩
 rw [hn] at HL
 have hnm : n - k = m := by omega
 have e1 : (0 : Int) ≤ (k : Int) := by omega
 have e2 : (k : Int) ≤ (n : Int) := by omega
 have e3 : k < n := by omega
 clear hF h1 h2 h3 h4 hn
 go_enter Tryz.func80, Tryz.ntmps80
 go_wp2_with fail
 refine HS.out.mono ?_
 rintro e w1 ⟨v, rfl, q1, q2, q3⟩
 obtain ⟨a, c, rfl, -, -, -⟩ := Kd.S_form q1 (by rw [HL.out]; omega)
 obtain ⟨-, hl, hc⟩ := Kd.S_reads' q1
 have f1 : ¬ c = k := by have := HL.out; omega
 have hf := Kd.S_F (Kd.bxz (Kd.bcz q1) (fun q hq => hq.2.1))
 have HD := Aside0.mk (Kd.F_imp hf (fun W' hc' => Kd.C_drop hc' (m := k) (c := c) (by rw [HL.out]; omega) hl))
 rw [if_neg f1, List.length_drop, HL.out, hnm, add_map] at HD
 have HC := Aside0.mk (show m ≤ c - k by have := HL.out; omega)
 have HB := Aside0.mk q3
 rw [HL.out]
 clear q1 q2 q3 hl hc hf HS HL
 go_wp2
 go_ret2
 exact ⟨_, _, rfl, HC.out, HD.out, HB.out⟩
theorem pfn5 (g k m : Nat) (W : World) (hF : Fresh W g 8) (h1 : 1 ≤ k) (h2 : 1 ≤ m) (h3 : k ≤ 8) (h4 : m ≤ 4) : Calls Tryz.prog 80 #[.pointer (some ⟨g, 0, none⟩), .int .i64 (k : Int), .int .i64 (m : Int)] W (MatRes (parM 5 k m) m W g) := behind.calls g k m W hF h1 h2 h3 h4
theorem pfn6 (g k m : Nat) (W : World) (hF : Fresh W g 8) (h1 : 1 ≤ k) (h2 : 1 ≤ m) (h3 : k ≤ 8) (h4 : m ≤ 4) : Calls Tryz.prog 80 #[.pointer (some ⟨g, 0, none⟩), .int .i64 (k : Int), .int .i64 (m : Int)] W (MatRes (parM 6 k m) m W g) := behind.calls g k m W hF h1 h2 h3 h4
set_option maxRecDepth 100000 in
set_option maxHeartbeats 4000000 in
theorem pway1 (k m : Nat) (W : World) (h1 : 1 ≤ k) (h2 : 1 ≤ m) (h3 : k ≤ 8) (h4 : m ≤ 4) (hm : adz.f 1 (k : Int) (m : Int) = some true) :
  Calls Tryz.prog 44 #[.agg #[.int .i64 1, .int .i64 (k : Int), .int .i64 (m : Int)]] W (ParRes (parM 1 k m) m W) := by
 have HM := Aside0.mk hm
 have HP := Aside0.mk (fun g W' h => pfn1 g k m W' h h1 h2 h3 h4)
 have hfd := bwz.calls 1 (by decide)
 rw [show pbits 1 = 8 by simp [pbits]] at hfd
 have HFD := Aside0.mk hfd
 generalize parM 1 k m = res at HP ⊢
 have hb := heap_alloc_new W (.cells #[.int .i64 1, .int .i64 (k : Int), .int .i64 (m : Int)] 23)
 have HB := Aside0.mk (show Below W.heap.size W (W.alloc (.cells #[.int .i64 1, .int .i64 (k : Int), .int .i64 (m : Int)] 23)) from abz (Below.refl _ _) _)
 have hu := Tryz.underlying23
 clear hm h1 h2 h3 h4 hfd
 go_enter Tryz.func44, Tryz.ntmps44
 go_wp2_with fail
 generalize W.alloc (.cells #[.int .i64 1, .int .i64 (k : Int), .int .i64 (m : Int)] 23) = w1 at HB hb ⊢
 have HX := Aside0.mk hb
 clear hb
 refine (adz.calls 1 (k : Int) (m : Int) true _ HM.out).mono ?_
 rintro e w2 ⟨rfl, hB2⟩
 have HB2 := Aside0.mk (HB.out.trans (hB2.mono HB.out.size))
 have HX2 := Aside0.mk (aez HX.out hB2)
 have HZ2 := Aside0.mk hB2.size
 obtain ⟨fb, hfb⟩ : ∃ fb, fb = W.heap.size := ⟨_, rfl⟩
 rw [← hfb] at HX2 ⊢
 clear hB2 hfb
 go_wp2_with fail
 have HA := Aside0.mk (heap_alloc_new w2 (.cells #[.func (.func 76) #[] #[], .func (.func 77) #[] #[], .func (.func 78) #[] #[], .func (.func 79) #[] #[], .func (.func 80) #[] #[], .func (.func 80) #[] #[]] 113))
 have HX3 := Aside0.mk (aez HX2.out (abz (Below.refl w2.heap.size w2) (.cells #[.func (.func 76) #[] #[], .func (.func 77) #[] #[], .func (.func 78) #[] #[], .func (.func 79) #[] #[], .func (.func 80) #[] #[], .func (.func 80) #[] #[]] 113)))
 have HB3 := Aside0.mk (abz HB2.out (.cells #[.func (.func 76) #[] #[], .func (.func 77) #[] #[], .func (.func 78) #[] #[], .func (.func 79) #[] #[], .func (.func 80) #[] #[], .func (.func 80) #[] #[]] 113))
 obtain ⟨ab, hab⟩ : ∃ ab, ab = w2.heap.size := ⟨_, rfl⟩
 rw [← hab] at HA ⊢
 clear hab HX2 HB2
 generalize w2.alloc (.cells #[.func (.func 76) #[] #[], .func (.func 77) #[] #[], .func (.func 78) #[] #[], .func (.func 79) #[] #[], .func (.func 80) #[] #[], .func (.func 80) #[] #[]] 113) = w3 at HA HX3 HB3 ⊢
 have c0 : w3.cell? ⟨fb, 0, none⟩ = some (.int .i64 1) := (aaz HX3.out 0).trans rfl
 have c1 : w3.cell? ⟨fb, 1, none⟩ = some (.int .i64 (k : Int)) := (aaz HX3.out 1).trans rfl
 have c2 : w3.cell? ⟨fb, 2, none⟩ = some (.int .i64 (m : Int)) := (aaz HX3.out 2).trans rfl
 have c3 : w3.cell? ⟨ab, 0, none⟩ = some (.func (.func 76) #[] #[]) := (aaz HA.out 0).trans rfl
 have hwq : wrap64 0 = 0 := by unfold wrap64; omega
 refine bdz (n := 17) (S := fun w' => w'.cell? ⟨fb, 0, none⟩ = some (.int .i64 1) ∧ w'.cell? ⟨fb, 1, none⟩ = some (.int .i64 (k : Int)) ∧ w'.cell? ⟨fb, 2, none⟩ = some (.int .i64 (m : Int)) ∧ w'.cell? ⟨ab, 0, none⟩ = some (.func (.func 76) #[] #[])) (ds := [12]) (bA 17 0) kr_ rfl rfl ⟨c0, c1, c2, c3⟩ (fun hHeld => ?_)
 refine pu_ 0 9 1 ?_
 refine pu_ 5 14 33 ?_
 refine pu_ 8 17 289 ?_
 refine pu_ 10 19 1313 ?_
 refine tk_ 1 10 1315 hHeld ?_
 refine pu_ 2 11 1319 ?_
 refine pu_ 3 12 1327 ?_
 refine tk_ 4 13 1343 hHeld ?_
 refine tk_ 6 15 1407 hHeld ?_
 refine tk_ 9 18 1919 hHeld ?_
 refine tk_ 11 20 3967 hHeld ?_
 refine one_ (i := 7) (N := some 16) (bA 17 4095) rfl rfl kr_ (by decide) (fun K hK => ?_)
 refine goes_ Tryz.func45 kr_ rfl #[.int .i64 1] (by rfl) rfl rfl am_ ?_
 with_reducible refine (HFD.out w3.drew).mono ?_
 rintro e w4 ⟨g, rfl, q1, q2, q3⟩
 refine ⟨_, rfl, ?_⟩
 refine hK.out _ _ ⟨akz q3 c0, akz q3 c1, akz q3 c2, akz q3 c3⟩ (fun hHeld => ?_)
 clear hK K
 refine norm_ (a' := ?_) ?_ ?_
 rotate_left
 ·show Act.put _ (some 16) _ = _
  simp only [Act.put, List.setIfInBounds_toArray, List.set_cons_zero, List.set_cons_succ, i64_w, i32_w]
  rfl
 refine last_ (i := 12) (N := some 21) (bA 17 8191) rfl rfl kr_ (by decide) (fun K hK => ?_)
 refine goesV_ Tryz.func76 kr_ rfl (.tmp 13) #[] #[] #[.pointer (some ⟨g, 0, none⟩), .int .i64 (k : Int), .int .i64 (m : Int)] (by rfl) (by rfl) rfl rfl am_ ?_
 with_reducible refine (HP.out g w4 q1).mono ?_
 rintro e w5 ⟨A, c, rfl, p1, p2, p3⟩
 refine ⟨_, rfl, ?_⟩
 refine hK.out _ _ ?_
 clear hK K
 refine norm_ (a' := ?_) ?_ ?_
 rotate_left
 ·show Act.put _ (some 21) _ = _
  simp only [Act.put, List.setIfInBounds_toArray, List.set_cons_zero, List.set_cons_succ, i64_w, i32_w]
  rfl
 refine pu_ 13 22 16383 ?_
 refine pu_ 14 23 32767 ?_
 refine pu_ 15 2 65535 ?_
 refine pu_ 16 3 131071 ?_
 refine done_ kr_ ?_
 clear hwq
 go_wp2
 go_ret2
 exact ⟨_, _, rfl, p1, Kd.bDz p2 (fun q hq => Nat.le_trans HB3.out.size (Nat.le_trans q3.size hq)), p3.below ((show Below W.heap.size W w3.drew from a3z HB3.out).trans (q3.mono HB3.out.size)) (Nat.le_trans HB3.out.size q2)⟩
set_option maxRecDepth 100000 in
set_option maxHeartbeats 4000000 in
theorem pway2 (k m : Nat) (W : World) (h1 : 1 ≤ k) (h2 : 1 ≤ m) (h3 : k ≤ 8) (h4 : m ≤ 4) (hm : adz.f 2 (k : Int) (m : Int) = some true) :
  Calls Tryz.prog 44 #[.agg #[.int .i64 2, .int .i64 (k : Int), .int .i64 (m : Int)]] W (ParRes (parM 2 k m) m W) := by
 have HM := Aside0.mk hm
 have HP := Aside0.mk (fun g W' h => pfn2 g k m W' h h1 h2 h3 h4)
 have hfd := bwz.calls 2 (by decide)
 rw [show pbits 2 = 16 by simp [pbits]] at hfd
 have HFD := Aside0.mk hfd
 generalize parM 2 k m = res at HP ⊢
 have hb := heap_alloc_new W (.cells #[.int .i64 2, .int .i64 (k : Int), .int .i64 (m : Int)] 23)
 have HB := Aside0.mk (show Below W.heap.size W (W.alloc (.cells #[.int .i64 2, .int .i64 (k : Int), .int .i64 (m : Int)] 23)) from abz (Below.refl _ _) _)
 have hu := Tryz.underlying23
 clear hm h1 h2 h3 h4 hfd
 go_enter Tryz.func44, Tryz.ntmps44
 go_wp2_with fail
 generalize W.alloc (.cells #[.int .i64 2, .int .i64 (k : Int), .int .i64 (m : Int)] 23) = w1 at HB hb ⊢
 have HX := Aside0.mk hb
 clear hb
 refine (adz.calls 2 (k : Int) (m : Int) true _ HM.out).mono ?_
 rintro e w2 ⟨rfl, hB2⟩
 have HB2 := Aside0.mk (HB.out.trans (hB2.mono HB.out.size))
 have HX2 := Aside0.mk (aez HX.out hB2)
 have HZ2 := Aside0.mk hB2.size
 obtain ⟨fb, hfb⟩ : ∃ fb, fb = W.heap.size := ⟨_, rfl⟩
 rw [← hfb] at HX2 ⊢
 clear hB2 hfb
 go_wp2_with fail
 have HA := Aside0.mk (heap_alloc_new w2 (.cells #[.func (.func 76) #[] #[], .func (.func 77) #[] #[], .func (.func 78) #[] #[], .func (.func 79) #[] #[], .func (.func 80) #[] #[], .func (.func 80) #[] #[]] 113))
 have HX3 := Aside0.mk (aez HX2.out (abz (Below.refl w2.heap.size w2) (.cells #[.func (.func 76) #[] #[], .func (.func 77) #[] #[], .func (.func 78) #[] #[], .func (.func 79) #[] #[], .func (.func 80) #[] #[], .func (.func 80) #[] #[]] 113)))
 have HB3 := Aside0.mk (abz HB2.out (.cells #[.func (.func 76) #[] #[], .func (.func 77) #[] #[], .func (.func 78) #[] #[], .func (.func 79) #[] #[], .func (.func 80) #[] #[], .func (.func 80) #[] #[]] 113))
 obtain ⟨ab, hab⟩ : ∃ ab, ab = w2.heap.size := ⟨_, rfl⟩
 rw [← hab] at HA ⊢
 clear hab HX2 HB2
 generalize w2.alloc (.cells #[.func (.func 76) #[] #[], .func (.func 77) #[] #[], .func (.func 78) #[] #[], .func (.func 79) #[] #[], .func (.func 80) #[] #[], .func (.func 80) #[] #[]] 113) = w3 at HA HX3 HB3 ⊢
 have c0 : w3.cell? ⟨fb, 0, none⟩ = some (.int .i64 2) := (aaz HX3.out 0).trans rfl
 have c1 : w3.cell? ⟨fb, 1, none⟩ = some (.int .i64 (k : Int)) := (aaz HX3.out 1).trans rfl
 have c2 : w3.cell? ⟨fb, 2, none⟩ = some (.int .i64 (m : Int)) := (aaz HX3.out 2).trans rfl
 have c3 : w3.cell? ⟨ab, 1, none⟩ = some (.func (.func 77) #[] #[]) := (aaz HA.out 1).trans rfl
 have hwq : wrap64 1 = 1 := by unfold wrap64; omega
 refine bdz (n := 17) (S := fun w' => w'.cell? ⟨fb, 0, none⟩ = some (.int .i64 2) ∧ w'.cell? ⟨fb, 1, none⟩ = some (.int .i64 (k : Int)) ∧ w'.cell? ⟨fb, 2, none⟩ = some (.int .i64 (m : Int)) ∧ w'.cell? ⟨ab, 1, none⟩ = some (.func (.func 77) #[] #[])) (ds := [12]) (bA 17 0) kr_ rfl rfl ⟨c0, c1, c2, c3⟩ (fun hHeld => ?_)
 refine pu_ 0 9 1 ?_
 refine pu_ 5 14 33 ?_
 refine pu_ 8 17 289 ?_
 refine pu_ 10 19 1313 ?_
 refine tk_ 1 10 1315 hHeld ?_
 refine pu_ 2 11 1319 ?_
 refine pu_ 3 12 1327 ?_
 refine tk_ 4 13 1343 hHeld ?_
 refine tk_ 6 15 1407 hHeld ?_
 refine tk_ 9 18 1919 hHeld ?_
 refine tk_ 11 20 3967 hHeld ?_
 refine one_ (i := 7) (N := some 16) (bA 17 4095) rfl rfl kr_ (by decide) (fun K hK => ?_)
 refine goes_ Tryz.func45 kr_ rfl #[.int .i64 2] (by rfl) rfl rfl am_ ?_
 with_reducible refine (HFD.out w3.drew).mono ?_
 rintro e w4 ⟨g, rfl, q1, q2, q3⟩
 refine ⟨_, rfl, ?_⟩
 refine hK.out _ _ ⟨akz q3 c0, akz q3 c1, akz q3 c2, akz q3 c3⟩ (fun hHeld => ?_)
 clear hK K
 refine norm_ (a' := ?_) ?_ ?_
 rotate_left
 ·show Act.put _ (some 16) _ = _
  simp only [Act.put, List.setIfInBounds_toArray, List.set_cons_zero, List.set_cons_succ, i64_w, i32_w]
  rfl
 refine last_ (i := 12) (N := some 21) (bA 17 8191) rfl rfl kr_ (by decide) (fun K hK => ?_)
 refine goesV_ Tryz.func77 kr_ rfl (.tmp 13) #[] #[] #[.pointer (some ⟨g, 0, none⟩), .int .i64 (k : Int), .int .i64 (m : Int)] (by rfl) (by rfl) rfl rfl am_ ?_
 with_reducible refine (HP.out g w4 q1).mono ?_
 rintro e w5 ⟨A, c, rfl, p1, p2, p3⟩
 refine ⟨_, rfl, ?_⟩
 refine hK.out _ _ ?_
 clear hK K
 refine norm_ (a' := ?_) ?_ ?_
 rotate_left
 ·show Act.put _ (some 21) _ = _
  simp only [Act.put, List.setIfInBounds_toArray, List.set_cons_zero, List.set_cons_succ, i64_w, i32_w]
  rfl
 refine pu_ 13 22 16383 ?_
 refine pu_ 14 23 32767 ?_
 refine pu_ 15 2 65535 ?_
 refine pu_ 16 3 131071 ?_
 refine done_ kr_ ?_
 clear hwq
 go_wp2
 go_ret2
 exact ⟨_, _, rfl, p1, Kd.bDz p2 (fun q hq => Nat.le_trans HB3.out.size (Nat.le_trans q3.size hq)), p3.below ((show Below W.heap.size W w3.drew from a3z HB3.out).trans (q3.mono HB3.out.size)) (Nat.le_trans HB3.out.size q2)⟩
set_option maxRecDepth 100000 in
set_option maxHeartbeats 4000000 in
theorem pway3 (k m : Nat) (W : World) (h1 : 1 ≤ k) (h2 : 1 ≤ m) (h3 : k ≤ 8) (h4 : m ≤ 4) (hm : adz.f 3 (k : Int) (m : Int) = some true) :
  Calls Tryz.prog 44 #[.agg #[.int .i64 3, .int .i64 (k : Int), .int .i64 (m : Int)]] W (ParRes (parM 3 k m) m W) := by
 have HM := Aside0.mk hm
 have HP := Aside0.mk (fun g W' h => pfn3 g k m W' h h1 h2 h3 h4)
 have hfd := bwz.calls 3 (by decide)
 rw [show pbits 3 = 8 by simp [pbits]] at hfd
 have HFD := Aside0.mk hfd
 generalize parM 3 k m = res at HP ⊢
 have hb := heap_alloc_new W (.cells #[.int .i64 3, .int .i64 (k : Int), .int .i64 (m : Int)] 23)
 have HB := Aside0.mk (show Below W.heap.size W (W.alloc (.cells #[.int .i64 3, .int .i64 (k : Int), .int .i64 (m : Int)] 23)) from abz (Below.refl _ _) _)
 have hu := Tryz.underlying23
 clear hm h1 h2 h3 h4 hfd
 go_enter Tryz.func44, Tryz.ntmps44
 go_wp2_with fail
 generalize W.alloc (.cells #[.int .i64 3, .int .i64 (k : Int), .int .i64 (m : Int)] 23) = w1 at HB hb ⊢
 have HX := Aside0.mk hb
 clear hb
 refine (adz.calls 3 (k : Int) (m : Int) true _ HM.out).mono ?_
 rintro e w2 ⟨rfl, hB2⟩
 have HB2 := Aside0.mk (HB.out.trans (hB2.mono HB.out.size))
 have HX2 := Aside0.mk (aez HX.out hB2)
 have HZ2 := Aside0.mk hB2.size
 obtain ⟨fb, hfb⟩ : ∃ fb, fb = W.heap.size := ⟨_, rfl⟩
 rw [← hfb] at HX2 ⊢
 clear hB2 hfb
 go_wp2_with fail
 have HA := Aside0.mk (heap_alloc_new w2 (.cells #[.func (.func 76) #[] #[], .func (.func 77) #[] #[], .func (.func 78) #[] #[], .func (.func 79) #[] #[], .func (.func 80) #[] #[], .func (.func 80) #[] #[]] 113))
 have HX3 := Aside0.mk (aez HX2.out (abz (Below.refl w2.heap.size w2) (.cells #[.func (.func 76) #[] #[], .func (.func 77) #[] #[], .func (.func 78) #[] #[], .func (.func 79) #[] #[], .func (.func 80) #[] #[], .func (.func 80) #[] #[]] 113)))
 have HB3 := Aside0.mk (abz HB2.out (.cells #[.func (.func 76) #[] #[], .func (.func 77) #[] #[], .func (.func 78) #[] #[], .func (.func 79) #[] #[], .func (.func 80) #[] #[], .func (.func 80) #[] #[]] 113))
 obtain ⟨ab, hab⟩ : ∃ ab, ab = w2.heap.size := ⟨_, rfl⟩
 rw [← hab] at HA ⊢
 clear hab HX2 HB2
 generalize w2.alloc (.cells #[.func (.func 76) #[] #[], .func (.func 77) #[] #[], .func (.func 78) #[] #[], .func (.func 79) #[] #[], .func (.func 80) #[] #[], .func (.func 80) #[] #[]] 113) = w3 at HA HX3 HB3 ⊢
 have c0 : w3.cell? ⟨fb, 0, none⟩ = some (.int .i64 3) := (aaz HX3.out 0).trans rfl
 have c1 : w3.cell? ⟨fb, 1, none⟩ = some (.int .i64 (k : Int)) := (aaz HX3.out 1).trans rfl
 have c2 : w3.cell? ⟨fb, 2, none⟩ = some (.int .i64 (m : Int)) := (aaz HX3.out 2).trans rfl
 have c3 : w3.cell? ⟨ab, 2, none⟩ = some (.func (.func 78) #[] #[]) := (aaz HA.out 2).trans rfl
 have hwq : wrap64 2 = 2 := by unfold wrap64; omega
 refine bdz (n := 17) (S := fun w' => w'.cell? ⟨fb, 0, none⟩ = some (.int .i64 3) ∧ w'.cell? ⟨fb, 1, none⟩ = some (.int .i64 (k : Int)) ∧ w'.cell? ⟨fb, 2, none⟩ = some (.int .i64 (m : Int)) ∧ w'.cell? ⟨ab, 2, none⟩ = some (.func (.func 78) #[] #[])) (ds := [12]) (bA 17 0) kr_ rfl rfl ⟨c0, c1, c2, c3⟩ (fun hHeld => ?_)
 refine pu_ 0 9 1 ?_
 refine pu_ 5 14 33 ?_
 refine pu_ 8 17 289 ?_
 refine pu_ 10 19 1313 ?_
 refine tk_ 1 10 1315 hHeld ?_
 refine pu_ 2 11 1319 ?_
 refine pu_ 3 12 1327 ?_
 refine tk_ 4 13 1343 hHeld ?_
 refine tk_ 6 15 1407 hHeld ?_
 refine tk_ 9 18 1919 hHeld ?_
 refine tk_ 11 20 3967 hHeld ?_
 refine one_ (i := 7) (N := some 16) (bA 17 4095) rfl rfl kr_ (by decide) (fun K hK => ?_)
 refine goes_ Tryz.func45 kr_ rfl #[.int .i64 3] (by rfl) rfl rfl am_ ?_
 with_reducible refine (HFD.out w3.drew).mono ?_
 rintro e w4 ⟨g, rfl, q1, q2, q3⟩
 refine ⟨_, rfl, ?_⟩
 refine hK.out _ _ ⟨akz q3 c0, akz q3 c1, akz q3 c2, akz q3 c3⟩ (fun hHeld => ?_)
 clear hK K
 refine norm_ (a' := ?_) ?_ ?_
 rotate_left
 ·show Act.put _ (some 16) _ = _
  simp only [Act.put, List.setIfInBounds_toArray, List.set_cons_zero, List.set_cons_succ, i64_w, i32_w]
  rfl
 refine last_ (i := 12) (N := some 21) (bA 17 8191) rfl rfl kr_ (by decide) (fun K hK => ?_)
 refine goesV_ Tryz.func78 kr_ rfl (.tmp 13) #[] #[] #[.pointer (some ⟨g, 0, none⟩), .int .i64 (k : Int), .int .i64 (m : Int)] (by rfl) (by rfl) rfl rfl am_ ?_
 with_reducible refine (HP.out g w4 q1).mono ?_
 rintro e w5 ⟨A, c, rfl, p1, p2, p3⟩
 refine ⟨_, rfl, ?_⟩
 refine hK.out _ _ ?_
 clear hK K
 refine norm_ (a' := ?_) ?_ ?_
 rotate_left
 ·show Act.put _ (some 21) _ = _
  simp only [Act.put, List.setIfInBounds_toArray, List.set_cons_zero, List.set_cons_succ, i64_w, i32_w]
  rfl
 refine pu_ 13 22 16383 ?_
 refine pu_ 14 23 32767 ?_
 refine pu_ 15 2 65535 ?_
 refine pu_ 16 3 131071 ?_
 refine done_ kr_ ?_
 clear hwq
 go_wp2
 go_ret2
 exact ⟨_, _, rfl, p1, Kd.bDz p2 (fun q hq => Nat.le_trans HB3.out.size (Nat.le_trans q3.size hq)), p3.below ((show Below W.heap.size W w3.drew from a3z HB3.out).trans (q3.mono HB3.out.size)) (Nat.le_trans HB3.out.size q2)⟩
set_option maxRecDepth 100000 in
set_option maxHeartbeats 4000000 in
theorem pway4 (k m : Nat) (W : World) (h1 : 1 ≤ k) (h2 : 1 ≤ m) (h3 : k ≤ 8) (h4 : m ≤ 4) (hm : adz.f 4 (k : Int) (m : Int) = some true) :
  Calls Tryz.prog 44 #[.agg #[.int .i64 4, .int .i64 (k : Int), .int .i64 (m : Int)]] W (ParRes (parM 4 k m) m W) := by
 have HM := Aside0.mk hm
 have HP := Aside0.mk (fun g W' h => pfn4 g k m W' h h1 h2 h3 h4)
 have hfd := bwz.calls 4 (by decide)
 rw [show pbits 4 = 8 by simp [pbits]] at hfd
 have HFD := Aside0.mk hfd
 generalize parM 4 k m = res at HP ⊢
 have hb := heap_alloc_new W (.cells #[.int .i64 4, .int .i64 (k : Int), .int .i64 (m : Int)] 23)
 have HB := Aside0.mk (show Below W.heap.size W (W.alloc (.cells #[.int .i64 4, .int .i64 (k : Int), .int .i64 (m : Int)] 23)) from abz (Below.refl _ _) _)
 have hu := Tryz.underlying23
 clear hm h1 h2 h3 h4 hfd
 go_enter Tryz.func44, Tryz.ntmps44
 go_wp2_with fail
 generalize W.alloc (.cells #[.int .i64 4, .int .i64 (k : Int), .int .i64 (m : Int)] 23) = w1 at HB hb ⊢
 have HX := Aside0.mk hb
 clear hb
 refine (adz.calls 4 (k : Int) (m : Int) true _ HM.out).mono ?_
 rintro e w2 ⟨rfl, hB2⟩
 have HB2 := Aside0.mk (HB.out.trans (hB2.mono HB.out.size))
 have HX2 := Aside0.mk (aez HX.out hB2)
 have HZ2 := Aside0.mk hB2.size
 obtain ⟨fb, hfb⟩ : ∃ fb, fb = W.heap.size := ⟨_, rfl⟩
 rw [← hfb] at HX2 ⊢
 clear hB2 hfb
 go_wp2_with fail
 have HA := Aside0.mk (heap_alloc_new w2 (.cells #[.func (.func 76) #[] #[], .func (.func 77) #[] #[], .func (.func 78) #[] #[], .func (.func 79) #[] #[], .func (.func 80) #[] #[], .func (.func 80) #[] #[]] 113))
 have HX3 := Aside0.mk (aez HX2.out (abz (Below.refl w2.heap.size w2) (.cells #[.func (.func 76) #[] #[], .func (.func 77) #[] #[], .func (.func 78) #[] #[], .func (.func 79) #[] #[], .func (.func 80) #[] #[], .func (.func 80) #[] #[]] 113)))
 have HB3 := Aside0.mk (abz HB2.out (.cells #[.func (.func 76) #[] #[], .func (.func 77) #[] #[], .func (.func 78) #[] #[], .func (.func 79) #[] #[], .func (.func 80) #[] #[], .func (.func 80) #[] #[]] 113))
 obtain ⟨ab, hab⟩ : ∃ ab, ab = w2.heap.size := ⟨_, rfl⟩
 rw [← hab] at HA ⊢
 clear hab HX2 HB2
 generalize w2.alloc (.cells #[.func (.func 76) #[] #[], .func (.func 77) #[] #[], .func (.func 78) #[] #[], .func (.func 79) #[] #[], .func (.func 80) #[] #[], .func (.func 80) #[] #[]] 113) = w3 at HA HX3 HB3 ⊢
 have c0 : w3.cell? ⟨fb, 0, none⟩ = some (.int .i64 4) := (aaz HX3.out 0).trans rfl
 have c1 : w3.cell? ⟨fb, 1, none⟩ = some (.int .i64 (k : Int)) := (aaz HX3.out 1).trans rfl
 have c2 : w3.cell? ⟨fb, 2, none⟩ = some (.int .i64 (m : Int)) := (aaz HX3.out 2).trans rfl
 have c3 : w3.cell? ⟨ab, 3, none⟩ = some (.func (.func 79) #[] #[]) := (aaz HA.out 3).trans rfl
 have hwq : wrap64 3 = 3 := by unfold wrap64; omega
 refine bdz (n := 17) (S := fun w' => w'.cell? ⟨fb, 0, none⟩ = some (.int .i64 4) ∧ w'.cell? ⟨fb, 1, none⟩ = some (.int .i64 (k : Int)) ∧ w'.cell? ⟨fb, 2, none⟩ = some (.int .i64 (m : Int)) ∧ w'.cell? ⟨ab, 3, none⟩ = some (.func (.func 79) #[] #[])) (ds := [12]) (bA 17 0) kr_ rfl rfl ⟨c0, c1, c2, c3⟩ (fun hHeld => ?_)
 refine pu_ 0 9 1 ?_
 refine pu_ 5 14 33 ?_
 refine pu_ 8 17 289 ?_
 refine pu_ 10 19 1313 ?_
 refine tk_ 1 10 1315 hHeld ?_
 refine pu_ 2 11 1319 ?_
 refine pu_ 3 12 1327 ?_
 refine tk_ 4 13 1343 hHeld ?_
 refine tk_ 6 15 1407 hHeld ?_
 refine tk_ 9 18 1919 hHeld ?_
 refine tk_ 11 20 3967 hHeld ?_
 refine one_ (i := 7) (N := some 16) (bA 17 4095) rfl rfl kr_ (by decide) (fun K hK => ?_)
 refine goes_ Tryz.func45 kr_ rfl #[.int .i64 4] (by rfl) rfl rfl am_ ?_
 with_reducible refine (HFD.out w3.drew).mono ?_
 rintro e w4 ⟨g, rfl, q1, q2, q3⟩
 refine ⟨_, rfl, ?_⟩
 refine hK.out _ _ ⟨akz q3 c0, akz q3 c1, akz q3 c2, akz q3 c3⟩ (fun hHeld => ?_)
 clear hK K
 refine norm_ (a' := ?_) ?_ ?_
 rotate_left
 ·show Act.put _ (some 16) _ = _
  simp only [Act.put, List.setIfInBounds_toArray, List.set_cons_zero, List.set_cons_succ, i64_w, i32_w]
  rfl
 refine last_ (i := 12) (N := some 21) (bA 17 8191) rfl rfl kr_ (by decide) (fun K hK => ?_)
 refine goesV_ Tryz.func79 kr_ rfl (.tmp 13) #[] #[] #[.pointer (some ⟨g, 0, none⟩), .int .i64 (k : Int), .int .i64 (m : Int)] (by rfl) (by rfl) rfl rfl am_ ?_
 with_reducible refine (HP.out g w4 q1).mono ?_
 rintro e w5 ⟨A, c, rfl, p1, p2, p3⟩
 refine ⟨_, rfl, ?_⟩
 refine hK.out _ _ ?_
 clear hK K
 refine norm_ (a' := ?_) ?_ ?_
 rotate_left
 ·show Act.put _ (some 21) _ = _
  simp only [Act.put, List.setIfInBounds_toArray, List.set_cons_zero, List.set_cons_succ, i64_w, i32_w]
  rfl
 refine pu_ 13 22 16383 ?_
 refine pu_ 14 23 32767 ?_
 refine pu_ 15 2 65535 ?_
 refine pu_ 16 3 131071 ?_
 refine done_ kr_ ?_
 clear hwq
 go_wp2
 go_ret2
 exact ⟨_, _, rfl, p1, Kd.bDz p2 (fun q hq => Nat.le_trans HB3.out.size (Nat.le_trans q3.size hq)), p3.below ((show Below W.heap.size W w3.drew from a3z HB3.out).trans (q3.mono HB3.out.size)) (Nat.le_trans HB3.out.size q2)⟩
set_option maxRecDepth 100000 in
set_option maxHeartbeats 4000000 in
theorem pway5 (k m : Nat) (W : World) (h1 : 1 ≤ k) (h2 : 1 ≤ m) (h3 : k ≤ 8) (h4 : m ≤ 4) (hm : adz.f 5 (k : Int) (m : Int) = some true) :
  Calls Tryz.prog 44 #[.agg #[.int .i64 5, .int .i64 (k : Int), .int .i64 (m : Int)]] W (ParRes (parM 5 k m) m W) := by
 have HM := Aside0.mk hm
 have HP := Aside0.mk (fun g W' h => pfn5 g k m W' h h1 h2 h3 h4)
 have hfd := bwz.calls 5 (by decide)
 rw [show pbits 5 = 8 by simp [pbits]] at hfd
 have HFD := Aside0.mk hfd
 generalize parM 5 k m = res at HP ⊢
 have hb := heap_alloc_new W (.cells #[.int .i64 5, .int .i64 (k : Int), .int .i64 (m : Int)] 23)
 have HB := Aside0.mk (show Below W.heap.size W (W.alloc (.cells #[.int .i64 5, .int .i64 (k : Int), .int .i64 (m : Int)] 23)) from abz (Below.refl _ _) _)
 have hu := Tryz.underlying23
 clear hm h1 h2 h3 h4 hfd
 go_enter Tryz.func44, Tryz.ntmps44
 go_wp2_with fail
 generalize W.alloc (.cells #[.int .i64 5, .int .i64 (k : Int), .int .i64 (m : Int)] 23) = w1 at HB hb ⊢
 have HX := Aside0.mk hb
 clear hb
 refine (adz.calls 5 (k : Int) (m : Int) true _ HM.out).mono ?_
 rintro e w2 ⟨rfl, hB2⟩
 have HB2 := Aside0.mk (HB.out.trans (hB2.mono HB.out.size))
 have HX2 := Aside0.mk (aez HX.out hB2)
 have HZ2 := Aside0.mk hB2.size
 obtain ⟨fb, hfb⟩ : ∃ fb, fb = W.heap.size := ⟨_, rfl⟩
 rw [← hfb] at HX2 ⊢
 clear hB2 hfb
 go_wp2_with fail
 have HA := Aside0.mk (heap_alloc_new w2 (.cells #[.func (.func 76) #[] #[], .func (.func 77) #[] #[], .func (.func 78) #[] #[], .func (.func 79) #[] #[], .func (.func 80) #[] #[], .func (.func 80) #[] #[]] 113))
 have HX3 := Aside0.mk (aez HX2.out (abz (Below.refl w2.heap.size w2) (.cells #[.func (.func 76) #[] #[], .func (.func 77) #[] #[], .func (.func 78) #[] #[], .func (.func 79) #[] #[], .func (.func 80) #[] #[], .func (.func 80) #[] #[]] 113)))
 have HB3 := Aside0.mk (abz HB2.out (.cells #[.func (.func 76) #[] #[], .func (.func 77) #[] #[], .func (.func 78) #[] #[], .func (.func 79) #[] #[], .func (.func 80) #[] #[], .func (.func 80) #[] #[]] 113))
 obtain ⟨ab, hab⟩ : ∃ ab, ab = w2.heap.size := ⟨_, rfl⟩
 rw [← hab] at HA ⊢
 clear hab HX2 HB2
 generalize w2.alloc (.cells #[.func (.func 76) #[] #[], .func (.func 77) #[] #[], .func (.func 78) #[] #[], .func (.func 79) #[] #[], .func (.func 80) #[] #[], .func (.func 80) #[] #[]] 113) = w3 at HA HX3 HB3 ⊢
 have c0 : w3.cell? ⟨fb, 0, none⟩ = some (.int .i64 5) := (aaz HX3.out 0).trans rfl
 have c1 : w3.cell? ⟨fb, 1, none⟩ = some (.int .i64 (k : Int)) := (aaz HX3.out 1).trans rfl
 have c2 : w3.cell? ⟨fb, 2, none⟩ = some (.int .i64 (m : Int)) := (aaz HX3.out 2).trans rfl
 have c3 : w3.cell? ⟨ab, 4, none⟩ = some (.func (.func 80) #[] #[]) := (aaz HA.out 4).trans rfl
 have hwq : wrap64 4 = 4 := by unfold wrap64; omega
 refine bdz (n := 17) (S := fun w' => w'.cell? ⟨fb, 0, none⟩ = some (.int .i64 5) ∧ w'.cell? ⟨fb, 1, none⟩ = some (.int .i64 (k : Int)) ∧ w'.cell? ⟨fb, 2, none⟩ = some (.int .i64 (m : Int)) ∧ w'.cell? ⟨ab, 4, none⟩ = some (.func (.func 80) #[] #[])) (ds := [12]) (bA 17 0) kr_ rfl rfl ⟨c0, c1, c2, c3⟩ (fun hHeld => ?_)
 refine pu_ 0 9 1 ?_
 refine pu_ 5 14 33 ?_
 refine pu_ 8 17 289 ?_
 refine pu_ 10 19 1313 ?_
 refine tk_ 1 10 1315 hHeld ?_
 refine pu_ 2 11 1319 ?_
 refine pu_ 3 12 1327 ?_
 refine tk_ 4 13 1343 hHeld ?_
 refine tk_ 6 15 1407 hHeld ?_
 refine tk_ 9 18 1919 hHeld ?_
 refine tk_ 11 20 3967 hHeld ?_
 refine one_ (i := 7) (N := some 16) (bA 17 4095) rfl rfl kr_ (by decide) (fun K hK => ?_)
 refine goes_ Tryz.func45 kr_ rfl #[.int .i64 5] (by rfl) rfl rfl am_ ?_
 with_reducible refine (HFD.out w3.drew).mono ?_
 rintro e w4 ⟨g, rfl, q1, q2, q3⟩
 refine ⟨_, rfl, ?_⟩
 refine hK.out _ _ ⟨akz q3 c0, akz q3 c1, akz q3 c2, akz q3 c3⟩ (fun hHeld => ?_)
 clear hK K
 refine norm_ (a' := ?_) ?_ ?_
 rotate_left
 ·show Act.put _ (some 16) _ = _
  simp only [Act.put, List.setIfInBounds_toArray, List.set_cons_zero, List.set_cons_succ, i64_w, i32_w]
  rfl
 refine last_ (i := 12) (N := some 21) (bA 17 8191) rfl rfl kr_ (by decide) (fun K hK => ?_)
 refine goesV_ Tryz.func80 kr_ rfl (.tmp 13) #[] #[] #[.pointer (some ⟨g, 0, none⟩), .int .i64 (k : Int), .int .i64 (m : Int)] (by rfl) (by rfl) rfl rfl am_ ?_
 with_reducible refine (HP.out g w4 q1).mono ?_
 rintro e w5 ⟨A, c, rfl, p1, p2, p3⟩
 refine ⟨_, rfl, ?_⟩
 refine hK.out _ _ ?_
 clear hK K
 refine norm_ (a' := ?_) ?_ ?_
 rotate_left
 ·show Act.put _ (some 21) _ = _
  simp only [Act.put, List.setIfInBounds_toArray, List.set_cons_zero, List.set_cons_succ, i64_w, i32_w]
  rfl
 refine pu_ 13 22 16383 ?_
 refine pu_ 14 23 32767 ?_
 refine pu_ 15 2 65535 ?_
 refine pu_ 16 3 131071 ?_
 refine done_ kr_ ?_
 clear hwq
 go_wp2
 go_ret2
 exact ⟨_, _, rfl, p1, Kd.bDz p2 (fun q hq => Nat.le_trans HB3.out.size (Nat.le_trans q3.size hq)), p3.below ((show Below W.heap.size W w3.drew from a3z HB3.out).trans (q3.mono HB3.out.size)) (Nat.le_trans HB3.out.size q2)⟩
set_option maxRecDepth 100000 in
set_option maxHeartbeats 4000000 in
theorem pway6 (k m : Nat) (W : World) (h1 : 1 ≤ k) (h2 : 1 ≤ m) (h3 : k ≤ 8) (h4 : m ≤ 4) (hm : adz.f 6 (k : Int) (m : Int) = some true) :
  Calls Tryz.prog 44 #[.agg #[.int .i64 6, .int .i64 (k : Int), .int .i64 (m : Int)]] W (ParRes (parM 6 k m) m W) := by
 have HM := Aside0.mk hm
 have HP := Aside0.mk (fun g W' h => pfn6 g k m W' h h1 h2 h3 h4)
 have hfd := bwz.calls 6 (by decide)
 rw [show pbits 6 = 8 by simp [pbits]] at hfd
 have HFD := Aside0.mk hfd
 generalize parM 6 k m = res at HP ⊢
 have hb := heap_alloc_new W (.cells #[.int .i64 6, .int .i64 (k : Int), .int .i64 (m : Int)] 23)
 have HB := Aside0.mk (show Below W.heap.size W (W.alloc (.cells #[.int .i64 6, .int .i64 (k : Int), .int .i64 (m : Int)] 23)) from abz (Below.refl _ _) _)
 have hu := Tryz.underlying23
 clear hm h1 h2 h3 h4 hfd
 go_enter Tryz.func44, Tryz.ntmps44
 go_wp2_with fail
 generalize W.alloc (.cells #[.int .i64 6, .int .i64 (k : Int), .int .i64 (m : Int)] 23) = w1 at HB hb ⊢
 have HX := Aside0.mk hb
 clear hb
 refine (adz.calls 6 (k : Int) (m : Int) true _ HM.out).mono ?_
 rintro e w2 ⟨rfl, hB2⟩
 have HB2 := Aside0.mk (HB.out.trans (hB2.mono HB.out.size))
 have HX2 := Aside0.mk (aez HX.out hB2)
 have HZ2 := Aside0.mk hB2.size
 obtain ⟨fb, hfb⟩ : ∃ fb, fb = W.heap.size := ⟨_, rfl⟩
 rw [← hfb] at HX2 ⊢
 clear hB2 hfb
 go_wp2_with fail
 have HA := Aside0.mk (heap_alloc_new w2 (.cells #[.func (.func 76) #[] #[], .func (.func 77) #[] #[], .func (.func 78) #[] #[], .func (.func 79) #[] #[], .func (.func 80) #[] #[], .func (.func 80) #[] #[]] 113))
 have HX3 := Aside0.mk (aez HX2.out (abz (Below.refl w2.heap.size w2) (.cells #[.func (.func 76) #[] #[], .func (.func 77) #[] #[], .func (.func 78) #[] #[], .func (.func 79) #[] #[], .func (.func 80) #[] #[], .func (.func 80) #[] #[]] 113)))
 have HB3 := Aside0.mk (abz HB2.out (.cells #[.func (.func 76) #[] #[], .func (.func 77) #[] #[], .func (.func 78) #[] #[], .func (.func 79) #[] #[], .func (.func 80) #[] #[], .func (.func 80) #[] #[]] 113))
 obtain ⟨ab, hab⟩ : ∃ ab, ab = w2.heap.size := ⟨_, rfl⟩
 rw [← hab] at HA ⊢
 clear hab HX2 HB2
 generalize w2.alloc (.cells #[.func (.func 76) #[] #[], .func (.func 77) #[] #[], .func (.func 78) #[] #[], .func (.func 79) #[] #[], .func (.func 80) #[] #[], .func (.func 80) #[] #[]] 113) = w3 at HA HX3 HB3 ⊢
 have c0 : w3.cell? ⟨fb, 0, none⟩ = some (.int .i64 6) := (aaz HX3.out 0).trans rfl
 have c1 : w3.cell? ⟨fb, 1, none⟩ = some (.int .i64 (k : Int)) := (aaz HX3.out 1).trans rfl
 have c2 : w3.cell? ⟨fb, 2, none⟩ = some (.int .i64 (m : Int)) := (aaz HX3.out 2).trans rfl
 have c3 : w3.cell? ⟨ab, 5, none⟩ = some (.func (.func 80) #[] #[]) := (aaz HA.out 5).trans rfl
 have hwq : wrap64 5 = 5 := by unfold wrap64; omega
 refine bdz (n := 17) (S := fun w' => w'.cell? ⟨fb, 0, none⟩ = some (.int .i64 6) ∧ w'.cell? ⟨fb, 1, none⟩ = some (.int .i64 (k : Int)) ∧ w'.cell? ⟨fb, 2, none⟩ = some (.int .i64 (m : Int)) ∧ w'.cell? ⟨ab, 5, none⟩ = some (.func (.func 80) #[] #[])) (ds := [12]) (bA 17 0) kr_ rfl rfl ⟨c0, c1, c2, c3⟩ (fun hHeld => ?_)
 refine pu_ 0 9 1 ?_
 refine pu_ 5 14 33 ?_
 refine pu_ 8 17 289 ?_
 refine pu_ 10 19 1313 ?_
 refine tk_ 1 10 1315 hHeld ?_
 refine pu_ 2 11 1319 ?_
 refine pu_ 3 12 1327 ?_
 refine tk_ 4 13 1343 hHeld ?_
 refine tk_ 6 15 1407 hHeld ?_
 refine tk_ 9 18 1919 hHeld ?_
 refine tk_ 11 20 3967 hHeld ?_
 refine one_ (i := 7) (N := some 16) (bA 17 4095) rfl rfl kr_ (by decide) (fun K hK => ?_)
 refine goes_ Tryz.func45 kr_ rfl #[.int .i64 6] (by rfl) rfl rfl am_ ?_
 with_reducible refine (HFD.out w3.drew).mono ?_
 rintro e w4 ⟨g, rfl, q1, q2, q3⟩
 refine ⟨_, rfl, ?_⟩
 refine hK.out _ _ ⟨akz q3 c0, akz q3 c1, akz q3 c2, akz q3 c3⟩ (fun hHeld => ?_)
 clear hK K
 refine norm_ (a' := ?_) ?_ ?_
 rotate_left
 ·show Act.put _ (some 16) _ = _
  simp only [Act.put, List.setIfInBounds_toArray, List.set_cons_zero, List.set_cons_succ, i64_w, i32_w]
  rfl
 refine last_ (i := 12) (N := some 21) (bA 17 8191) rfl rfl kr_ (by decide) (fun K hK => ?_)
 refine goesV_ Tryz.func80 kr_ rfl (.tmp 13) #[] #[] #[.pointer (some ⟨g, 0, none⟩), .int .i64 (k : Int), .int .i64 (m : Int)] (by rfl) (by rfl) rfl rfl am_ ?_
 with_reducible refine (HP.out g w4 q1).mono ?_
 rintro e w5 ⟨A, c, rfl, p1, p2, p3⟩
 refine ⟨_, rfl, ?_⟩
 refine hK.out _ _ ?_
 clear hK K
 refine norm_ (a' := ?_) ?_ ?_
 rotate_left
 ·show Act.put _ (some 21) _ = _
  simp only [Act.put, List.setIfInBounds_toArray, List.set_cons_zero, List.set_cons_succ, i64_w, i32_w]
  rfl
 refine pu_ 13 22 16383 ?_
 refine pu_ 14 23 32767 ?_
 refine pu_ 15 2 65535 ?_
 refine pu_ 16 3 131071 ?_
 refine done_ kr_ ?_
 clear hwq
 go_wp2
 go_ret2
 exact ⟨_, _, rfl, p1, Kd.bDz p2 (fun q hq => Nat.le_trans HB3.out.size (Nat.le_trans q3.size hq)), p3.below ((show Below W.heap.size W w3.drew from a3z HB3.out).trans (q3.mono HB3.out.size)) (Nat.le_trans HB3.out.size q2)⟩
end Go.Proofs.YtpdakdcmahlghaaGreat.XCo
end
section
namespace Go.Proofs.YtpdakdcmahlghaaGreat.XCo
open Go.RowKit Go.Proofs.YtpdakdcmahlghaaGreatW.PrintWords Go.Proofs.YtpdakdcmahlghaaGreatW.PrintLast Go.Proofs.YtpdakdcmahlghaaGreatW.PrintMore
attribute [local go_sem] aDz aEz aLz aMz auz avz aFz aGz
set_option linter.unusedVariables false
set_option linter.unusedSimpArgs false
theorem dqz {wb : Int} (hw : wb = 8 ∨ wb = 16) (a : Int) : 0 ≤ ginv wb a ∧ ginv wb a < fsize wb := by
 unfold ginv
 split
 ·rcases hw with rfl | rfl
  ·exact czz (.inl rfl) a 254
  ·exact czz (.inr rfl) a 65534
 ·rcases hw with rfl | rfl <;> decide
theorem cauM_good {wb : Int} (hw : wb = 8 ∨ wb = 16) (x y : List Int) : ∀ r, r ∈ cauM wb x y → Good wb y.length r := by
 intro r hr
 obtain ⟨a, -, rfl⟩ := List.mem_map.1 hr
 refine ⟨by simp, fun z hz => ?_⟩
 obtain ⟨b, -, rfl⟩ := List.mem_map.1 hz
 exact dqz hw _
theorem cXz {wb : Int} {L : Nat} {r : List Int} (h : Good wb L r) (j : Nat) {x : Int} (hx : 0 ≤ x ∧ x < fsize wb) : Good wb L (r.set j x) := by
 refine ⟨by rw [List.length_set]; exact h.1, fun y hy => ?_⟩
 rcases List.mem_or_eq_of_mem_set hy with h1 | rfl
 ·exact h.2 y h1
 ·exact hx
theorem getD_good {wb : Int} (hw : wb = 8 ∨ wb = 16) {L : Nat} {r : List Int} (h : Good wb L r) (j : Nat) : 0 ≤ r.getD j 0 ∧ r.getD j 0 < fsize wb := by
 rw [List.getD_eq_getElem?_getD]
 cases e : r[j]? with
 | none => rcases hw with rfl | rfl <;> decide
 | some x => exact h.2 x (List.mem_of_getElem? e)
theorem dotF_range {wb : Int} (hw : wb = 8 ∨ wb = 16) : ∀ (a b : List Int) (s : Int), (0 ≤ s ∧ s < fsize wb) → 0 ≤ dotF wb a b s ∧ dotF wb a b s < fsize wb
 | [], _, s, h => by unfold dotF; exact h
 | _ :: _, [], s, h => by unfold dotF; exact h
 | x :: a, y :: b, s, h => by unfold dotF; exact dotF_range hw a b _ (c5z hw h (a6z hw _ _))
theorem sysM_good (k m : Nat) : ∀ r, r ∈ sysM 8 k m → Good 8 k r := by
 intro r hr
 unfold sysM mulF at hr
 obtain ⟨row, -, rfl⟩ := List.mem_map.1 hr
 refine ⟨by simp [transp], fun z hz => ?_⟩
 obtain ⟨col, -, rfl⟩ := List.mem_map.1 hz
 exact dotF_range (.inl rfl) _ _ 0 (by decide)
section
variable {wb : Int} (hw : wb = 8 ∨ wb = 16) {L : Nat}
include hw
theorem swpF_good {i : Nat} {rows : List (List Int)} (h : ∀ r, r ∈ rows → Good wb L r) : ∀ r, r ∈ swpF i rows → Good wb L r := by
 unfold swpF
 split
 ·exact h
 ·intro r hr
  obtain ⟨q, hq, rfl⟩ := List.mem_map.1 hr
  exact cXz (cXz (h q hq) _ (getD_good hw (h q hq) _)) _ (getD_good hw (h q hq) _)
theorem sclF_good {c : Int} {f j : Nat} {rows : List (List Int)} (h : ∀ r, r ∈ rows → Good wb L r) : ∀ r, r ∈ sclF wb c f j rows → Good wb L r := by
 intro r hr
 unfold sclF sclTo at hr
 rcases List.mem_append.1 hr with hr | hr
 ·exact h r (List.mem_of_mem_take hr)
 ·rcases List.mem_append.1 hr with hr | hr
  ·obtain ⟨q, hq, rfl⟩ := List.mem_map.1 hr
   exact cXz (h q (List.mem_of_mem_drop (List.mem_of_mem_take hq))) _ (a6z hw _ _)
  ·exact h r (List.mem_of_mem_drop (List.mem_of_mem_drop hr))
theorem cutF_good {i : Nat} : ∀ (cs : List Int) (j : Nat) (rows : List (List Int)), (∀ r, r ∈ rows → Good wb L r) → ∀ r, r ∈ cutF wb i cs j rows → Good wb L r
 | [], _, _, h => h
 | c :: cs, j, rows, h => by
  unfold cutF
  refine cutF_good cs (j + 1) _ ?_
  unfold cutCol
  split
  ·exact h
  ·intro r hr
   obtain ⟨q, hq, rfl⟩ := List.mem_map.1 hr
   exact cXz (h q hq) _ (c5z hw (getD_good hw (h q hq) _) (a6z hw _ _))
theorem stepsF_good {rows : List (List Int)} (h : ∀ r, r ∈ rows → Good wb L r) : ∀ i, ∀ r, r ∈ stepsF wb i rows → Good wb L r
 | 0 => h
 | i + 1 => by
  unfold stepsF stepF
  exact cutF_good hw _ _ _ (sclF_good hw (swpF_good hw (stepsF_good h i)))
theorem colsF_good {k : Nat} {rows : List (List Int)} (h : ∀ r, r ∈ rows → Good wb L r) : ∀ j, ∀ r, r ∈ colsF wb k j rows → Good wb L r
 | 0 => h
 | j + 1 => by
  unfold colsF
  exact sclF_good hw (colsF_good h j)
end
theorem jvM_good {wb : Int} (hw : wb = 8 ∨ wb = 16) (k m : Nat) (h1 : 1 ≤ k) (h2 : 1 ≤ m) : (∀ r, r ∈ jvM wb k m → Good wb k r) ∧ (jvM wb k m).length = m := by
 have he : ∀ r, r ∈ extM wb k m → Good wb k r := by
  intro r hr
  unfold extM at hr
  rcases List.mem_append.1 hr with hr | hr
  ·exact dpz _ (fun i j => czz hw _ _) _ _ r hr
  ·rw [List.mem_singleton.1 hr]
   unfold lastU
   refine cXz ⟨by simp, fun x hx => ?_⟩ _ (by rcases hw with rfl | rfl <;> decide)
   rw [(List.mem_replicate.1 hx).2]
   rcases hw with rfl | rfl <;> decide
 have hc := colsF_good hw (k := k) (stepsF_good hw he k) k
 have hl : (colsF wb k k (stepsF wb k (extM wb k m))).length = k + m := by
  rw [(doz (wb := wb) (k := k) (cpz (wb := wb) (c9z wb k m h1 h2).1 k).1 k).2, (cpz (wb := wb) (c9z wb k m h1 h2).1 k).2, (c9z wb k m h1 h2).2]
 unfold jvM
 generalize colsF wb k k (stepsF wb k (extM wb k m)) = R at hc hl
 refine ⟨fun r hr => ?_, by simp [hl]; omega⟩
 rcases List.mem_append.1 hr with hr | hr
 ·exact hc r (List.mem_of_mem_drop (List.mem_of_mem_take hr))
 ·obtain ⟨q, hq, rfl⟩ := List.mem_map.1 hr
  have hg := hc q (List.mem_of_mem_drop (List.mem_of_mem_drop hq))
  refine ⟨by unfold rowInv; rw [List.length_map]; exact hg.1, fun x hx => ?_⟩
  obtain ⟨y, -, rfl⟩ := List.mem_map.1 hx
  exact a6z hw _ _
theorem daz (p : Int) (k m : Nat) (h1 : 1 ≤ k) (h2 : 1 ≤ m) (h3 : k ≤ 8) (h4 : m ≤ 4) : (∀ r, r ∈ parM p k m → Good (pbits p) k r) ∧ (parM p k m).length = m := by
 unfold parM pbits
 by_cases e1 : p = 1
 ·subst e1
  exact jvM_good (.inl rfl) k m h1 h2
 ·rw [if_neg e1]
  by_cases e2 : p = 2
  ·rw [if_pos e2, if_pos e2]
   refine ⟨fun r hr => ?_, by simp [cauM, runL]⟩
   have := cauM_good (.inr rfl) _ _ r hr
   rwa [aUz] at this
  ·rw [if_neg e2, if_neg e2]
   by_cases e3 : p = 3
   ·rw [if_pos e3]
    exact ⟨dpz _ (fun i j => czz (.inl rfl) _ _) m k, by simp [isalM, madeF]⟩
   ·rw [if_neg e3]
    by_cases e4 : p = 4
    ·rw [if_pos e4]
     refine ⟨fun r hr => ?_, by simp [cauM, runL]⟩
     have := cauM_good (.inl rfl) _ _ r hr
     rwa [aUz] at this
    ·rw [if_neg e4]
     exact ⟨fun r hr => sysM_good k m r (List.mem_of_mem_drop hr), by simp [sysM, mulF, rawM, madeF]⟩
end Go.Proofs.YtpdakdcmahlghaaGreat.XCo
end
section
namespace Go.Proofs.YtpdakdcmahlghaaGreat.XCo
open Go.RowKit Go.Proofs.YtpdakdcmahlghaaGreatW.PrintWords Go.Proofs.YtpdakdcmahlghaaGreatW.PrintLast Go.Proofs.YtpdakdcmahlghaaGreatW.PrintMore
attribute [local go_sem] aDz aEz aLz aMz auz avz aFz aGz
set_option linter.unusedVariables false
set_option linter.unusedSimpArgs false
theorem bjz {p k m : Int} (h : adz.f p k m = some true) : 1 ≤ p ∧ p ≤ 6 ∧ 1 ≤ k ∧ k ≤ 8 ∧ 1 ≤ m ∧ m ≤ 4 := by
 unfold adz.f at h
 by_cases hp : 1 ≤ p ∧ p ≤ 6
 ·obtain ⟨h1, h2⟩ := hp
  have : p = 1 ∨ p = 2 ∨ p = 3 ∨ p = 4 ∨ p = 5 ∨ p = 6 := by omega
  rcases this with rfl | rfl | rfl | rfl | rfl | rfl
  all_goals
   simp only [alz.f] at h
   by_cases c1 : k ≥ 1
   ·by_cases c2 : k ≤ 8
    ·by_cases c3 : m ≥ 1
     ·simp [c1, c2, c3] at h
      omega
     ·simp [c1, c2, c3] at h
    ·simp [c1, c2] at h
   ·simp [c1] at h
 ·have : alz.f p = some (ByteArray.empty, 0, 0, 0, 0, false) := by
   unfold alz.f
   simp only [not_and] at hp
   repeat (first | rw [if_neg (by omega)] | rfl)
  rw [this] at h
  simp at h
theorem drz (p k m : Int) : ∃ b, adz.f p k m = some b := by
 unfold adz.f
 obtain ⟨x, hx⟩ : ∃ x, alz.f p = some x := by
  unfold alz.f
  repeat' split
  all_goals exact ⟨_, rfl⟩
 rw [hx]
 simp only [Option.bind_some]
 repeat' split
 all_goals exact ⟨_, rfl⟩
theorem bSz.ok (p k m : Int) (W : World) (h : adz.f p k m = some true) :
  Calls Tryz.prog 44 #[.agg #[.int .i64 p, .int .i64 k, .int .i64 m]] W (ParRes (parM p k.toNat m.toNat) m.toNat W) := by
 obtain ⟨p1, p2, k1, k2, m1, m2⟩ := bjz h
 obtain ⟨k, rfl⟩ := Int.eq_ofNat_of_zero_le (show 0 ≤ k by omega)
 obtain ⟨m, rfl⟩ := Int.eq_ofNat_of_zero_le (show 0 ≤ m by omega)
 simp only [Int.toNat_natCast]
 have : p = 1 ∨ p = 2 ∨ p = 3 ∨ p = 4 ∨ p = 5 ∨ p = 6 := by omega
 rcases this with rfl | rfl | rfl | rfl | rfl | rfl
 ·exact pway1 k m W (by omega) (by omega) (by omega) (by omega) h
 ·exact pway2 k m W (by omega) (by omega) (by omega) (by omega) h
 ·exact pway3 k m W (by omega) (by omega) (by omega) (by omega) h
 ·exact pway4 k m W (by omega) (by omega) (by omega) (by omega) h
 ·exact pway5 k m W (by omega) (by omega) (by omega) (by omega) h
 ·exact pway6 k m W (by omega) (by omega) (by omega) (by omega) h
set_option maxRecDepth 100000 in
set_option maxHeartbeats 4000000 in
theorem bSz.no (p k m : Int) (W : World) (h : adz.f p k m = some false) :
  Calls Tryz.prog 44 #[.agg #[.int .i64 p, .int .i64 k, .int .i64 m]] W fun e w' => e = .returned (.tuple #[.slice none 0 0, .int .i64 1]) ∧ Below W.heap.size W w' := by
 have HM := Aside0.mk h
 have HB := Aside0.mk (show Below W.heap.size W (W.alloc (.cells #[.int .i64 p, .int .i64 k, .int .i64 m] 23)) from abz (Below.refl _ _) _)
 have hu := Tryz.underlying23
 clear h
 go_enter Tryz.func44, Tryz.ntmps44
 go_wp2_with fail
 refine (adz.calls p k m false _ HM.out).mono ?_
 rintro e w2 ⟨rfl, hB2⟩
 have HB2 := Aside0.mk (HB.out.trans (hB2.mono HB.out.size))
 clear hB2
 go_wp2
 go_ret2
 exact ⟨rfl, HB2.out⟩
def wN (wb : Int) : Nat := if wb = 8 then 1 else 2
def wTo (n : Nat) (b : List Int) : Nat → List Int
 | 0 => List.replicate (b.length / n) 0
 | i + 1 => if i % n = 0 then (wTo n b i).set (i / n) (wrap64 (b.getD i 0)) else (wTo n b i).set (i / n) (wrap64 ((wTo n b i).getD (i / n) 0 + wrap64 (256 * wrap64 (b.getD i 0))))
def wordsF (wb : Int) (b : List Int) : List Int := wTo (wN wb) b b.length
theorem cGz (n : Nat) (b : List Int) : ∀ i, (wTo n b i).length = b.length / n
 | 0 => List.length_replicate
 | i + 1 => by unfold wTo; split <;> rw [List.length_set, cGz n b i]
set_option maxRecDepth 100000 in
set_option maxHeartbeats 1000000 in
theorem rwidth.calls (g : Nat) (wb p : Int) (S : Nat → Prop) (W : World) (hw : wb = 8 ∨ wb = 16) (hF : Fd W g wb p S) :
  Calls Tryz.prog 149 #[.pointer (some ⟨g, 0, none⟩)] W fun e w' => e = .returned (.int .i64 (wN wb : Nat)) ∧ Drawn0 W w' := by
 have HF := Aside0.mk hF
 clear hF
 rcases hw with rfl | rfl
 all_goals
  go_enter Tryz.func149, Tryz.ntmps149
  go_wp2_with fail
  refine (gf_Bits.calls g _ p S _ HF.out).mono ?_
  rintro e w1 ⟨rfl, m1, rfl⟩
  go_wp2
  go_ret
  exact ⟨by simp [wN], Drawn0.step (Drawn0.refl _) _⟩
set_option maxRecDepth 100000 in
set_option maxHeartbeats 1000000 in
theorem rin.calls (g : Nat) (wb p a : Int) (S : Nat → Prop) (W : World) (hw : wb = 8 ∨ wb = 16) (hF : Fd W g wb p S) :
  Calls Tryz.prog 102 #[.pointer (some ⟨g, 0, none⟩), .int .i64 a] W fun e w' => e = .returned (.bool (inF wb a)) ∧ Drawn0 W w' := by
 have HF := Aside0.mk hF
 have HW := Aside0.mk hw
 clear hF hw
 by_cases h : 0 ≤ a
 ·have h1 : decide (0 ≤ a) = true := decide_eq_true h
  go_enter Tryz.func102, Tryz.ntmps102
  go_wp2_with fail
  refine (cPz.calls g _ p S _ HF.out HW.out).mono ?_
  rintro e w1 ⟨rfl, m1, rfl⟩
  go_wp2
  go_ret
  exact ⟨by simp [inF, h], Drawn0.step (Drawn0.refl _) _⟩
 ·have h1 : decide (0 ≤ a) = false := decide_eq_false h
  go_enter Tryz.func102, Tryz.ntmps102
  go_wp2
  go_ret
  exact ⟨by rw [show inF wb a = false by unfold inF; rw [h1]; rfl]; rfl, Drawn0.refl _⟩
set_option maxRecDepth 100000 in
set_option maxHeartbeats 2000000 in
theorem rWords.bad (g : Nat) (wb p : Int) (S : Nat → Prop) (A : Option Addr) (c : Nat) (b : List Int) (W : World) (hw : wb = 8 ∨ wb = 16) (hF : Fd W g wb p S) (hl : b.length ≤ 1000000) (hd : b.length % wN wb ≠ 0) :
  Calls Tryz.prog 101 #[.pointer (some ⟨g, 0, none⟩), .slice A b.length c] W fun e w' => e = .returned (.tuple #[.slice none 0 0, .int .i64 1]) ∧ Drawn0 W w' := by
 have HC := Aside0.mk (rwidth.calls g wb p S W hw hF)
 rcases hw with rfl | rfl
 ·simp [wN] at hd
  exact absurd (Nat.mod_one _) hd
 ·have hd1 : ((b.length : Int) % 2 == 0) = false := by simp [wN] at hd; simp; omega
  have hd2 : ((b.length : Int) % 2 != 0) = true := by simp [wN] at hd; simp; omega
  generalize b.length = n at hl hd hd1 hd2 ⊢
  have HN := Aside0.mk (show wN 16 = 2 from rfl)
  rw [HN.out] at HC
  clear hF hd
  go_enter Tryz.func101, Tryz.ntmps101
  go_wp2_with fail
  refine HC.out.mono ?_
  rintro e w1 ⟨rfl, m1, rfl⟩
  go_wp2
  go_ret2
  exact ⟨rfl, Drawn0.step (Drawn0.refl _) _⟩
theorem bJz {W w : World} {n lb : Nat} (h : Below n W w) (hl : n ≤ lb) (j : Nat) (u : Value) : Below n W (w.setCell ⟨lb, j, none⟩ u) :=
 ⟨h.os, h.tape, h.output, by simpa using h.size, fun i hi => (Below.heap_setCell w ⟨lb, j, none⟩ u i (by show i ≠ lb; omega)).trans (h.block i hi)⟩
def WordsOk (W : World) (l : List Int) (e : Ending) (w' : World) : Prop := ∃ lb, e = .returned (.tuple #[.slice (some ⟨lb, 0, none⟩) l.length l.length, .int .i64 0]) ∧ w'.heap[lb]? = some (.cells (nums .i64 l).toArray 3 (0, 0)) ∧ W.heap.size ≤ lb ∧ Below W.heap.size W w'
set_option maxRecDepth 100000 in
set_option maxHeartbeats 2000000 in
theorem rWords.ok8 (g : Nat) (p : Int) (S : Nat → Prop) (A : Option Addr) (c : Nat) (b : List Int) (W : World) (hF : Fd W g 8 p S) (hb : Kd.C (Kd.int .u8) W A b.length b) (hl : b.length ≤ 1000000) :
  Calls Tryz.prog 101 #[.pointer (some ⟨g, 0, none⟩), .slice A b.length c] W (WordsOk W (wordsF 8 b)) := by
 have HC := Aside0.mk (rwidth.calls g 8 p S W (.inl rfl) hF)
 have HN := Aside0.mk (show wN 8 = 1 from rfl)
 rw [HN.out] at HC
 have HB := Aside0.mk hb
 have HT := Aside0.mk (show ∀ i, (wTo 1 b i).length = b.length from fun i => by rw [cGz, Nat.div_one])
 obtain ⟨res, hres⟩ : ∃ r, wordsF 8 b = r := ⟨_, rfl⟩
 have HRES := Aside0.mk (show wTo 1 b b.length = res from hres)
 rw [hres]
 have HRL := Aside0.mk (show res.length = b.length by rw [← HRES.out, HT.out])
 obtain ⟨n, hn⟩ : ∃ n, b.length = n := ⟨_, rfl⟩
 have HLEN := Aside0.mk hn
 rw [hn] at HB HT HRES HRL hl ⊢
 have hmk := c7z n hl
 clear hF hb hres hn
 go_enter Tryz.func101, Tryz.ntmps101
 go_wp2_with fail
 refine HC.out.mono ?_
 rintro e w1 ⟨rfl, m1, rfl⟩
 go_wp2
 have HB1 := Aside0.mk (show Below W.heap.size W ((W.drewN m1).alloc (.cells (nums .i64 (List.replicate n 0)).toArray 3)) from abz (amz (Below.refl _ _) _) _)
 have HX1 := Aside0.mk (show ((W.drewN m1).alloc (.cells (nums .i64 (List.replicate n 0)).toArray 3)).heap[W.heap.size]? = some (.cells (nums .i64 (wTo 1 b 0)).toArray 3 (0, 0)) by
  have : wTo 1 b 0 = List.replicate n 0 := by rw [wTo, Nat.div_one, HLEN.out]
  rw [this]; exact heap_alloc_new _ _)
 obtain ⟨lb, hlb⟩ : ∃ lb, lb = W.heap.size := ⟨_, rfl⟩
 have HLB := Aside0.mk (show W.heap.size ≤ lb by omega)
 rw [← hlb] at HX1 ⊢
 clear hmk hlb HC
 generalize (W.drewN m1).alloc (.cells (nums .i64 (List.replicate n 0)).toArray 3) = w2 at HB1 HX1 ⊢
 have HLI := Aside0.mk (show lb < 9223372036854775807 → True from fun _ => trivial)
 go_loopw [28] (fun iv wr => ∃ k : Nat, k ≤ n ∧ iv = .int .i64 (k : Int) ∧ Aside0 (wr.heap[lb]? = some (.cells (nums .i64 (wTo 1 b k)).toArray 3 (0, 0))) ∧ Aside0 (Below W.heap.size W wr)) (fun iv _ => n - (intOf iv).toNat)
 case atStart => exact ⟨0, Nat.zero_le _, rfl, HX1, HB1⟩
 clear HX1 HB1
 obtain ⟨w3, rfl⟩ : ∃ w3, w3 = wr := ⟨_, rfl⟩
 obtain ⟨k, hk, rfl, HX, HBE⟩ := hrel
 by_cases hlt : k < n
 ·obtain ⟨x, hx⟩ : ∃ x, b[k]? = some x := ⟨_, List.getElem?_eq_getElem (by have := HLEN.out; omega)⟩
  obtain ⟨ad, rfl, hc1⟩ := buz (Kd.arz (HLEN.out.symm ▸ HB.out) HBE.out) k x hx
  obtain ⟨y, hy⟩ : ∃ y, (wTo 1 b k)[k]? = some y := ⟨_, List.getElem?_eq_getElem (by rw [HT.out]; omega)⟩
  have hcy : w3.cell? ⟨lb, k, none⟩ = some (.int .i64 y) := (aaz HX.out k).trans (clz .i64 _ _ _ hy)
  have hfy := ayz HX.out k
  have HST := Aside0.mk (show (wTo 1 b k).set k (wrap64 x) = wTo 1 b (k + 1) by
   have : b.getD k 0 = x := by rw [List.getD_eq_getElem?_getD, hx]; rfl
   rw [wTo, if_pos (Nat.mod_one _), Nat.div_one, this])
  have k1 : (0 : Int) ≤ (k : Int) := by omega
  have k2 : (k : Int) < (n : Int) := by omega
  clear hx hy
  go_wp2
  refine ⟨⟨k + 1, by omega, by go_num, ⟨bWz HX.out k _ HST.out⟩, ⟨bJz HBE.out HLB.out _ _⟩⟩, by simp [intOf]; omega⟩
 ·obtain rfl : k = n := by omega
  go_wp2
  go_ret2
  exact ⟨lb, by rw [HRL.out]; rfl, by rw [← HRES.out]; exact HX.out, HLB.out, HBE.out⟩
set_option maxRecDepth 100000 in
set_option maxHeartbeats 2000000 in
theorem rWords.ok16 (g : Nat) (p : Int) (S : Nat → Prop) (A : Option Addr) (c : Nat) (b : List Int) (W : World) (hF : Fd W g 16 p S) (hb : Kd.C (Kd.int .u8) W A b.length b) (hl : b.length ≤ 1000000) (hd : b.length % 2 = 0) :
  Calls Tryz.prog 101 #[.pointer (some ⟨g, 0, none⟩), .slice A b.length c] W (WordsOk W (wordsF 16 b)) := by
 have HC := Aside0.mk (rwidth.calls g 16 p S W (.inr rfl) hF)
 have HN := Aside0.mk (show wN 16 = 2 from rfl)
 rw [HN.out] at HC
 have HB := Aside0.mk hb
 have HT := Aside0.mk (show ∀ i, (wTo 2 b i).length = b.length / 2 from fun i => cGz _ _ _)
 obtain ⟨res, hres⟩ : ∃ r, wordsF 16 b = r := ⟨_, rfl⟩
 have HRES := Aside0.mk (show wTo 2 b b.length = res from hres)
 rw [hres]
 have HRL := Aside0.mk (show res.length = b.length / 2 by rw [← HRES.out, HT.out])
 obtain ⟨n, hn⟩ : ∃ n, b.length = n := ⟨_, rfl⟩
 have HLEN := Aside0.mk hn
 rw [hn] at HB HT HRES HRL hl ⊢
 obtain ⟨q, hq⟩ : ∃ q, n / 2 = q := ⟨_, rfl⟩
 rw [hq] at HRL HT
 have HQ := Aside0.mk hq
 have d1 : ((n : Int) % 2 != 0) = false := by rw [hn] at hd; simp; omega
 have d2 : (n : Int) / 2 = (q : Int) := by omega
 have HD := Aside0.mk (show n = 2 * q by rw [hn] at hd; omega)
 have hmk := c7z q (by omega)
 clear hF hb hres hn hq hd
 go_enter Tryz.func101, Tryz.ntmps101
 go_wp2_with fail
 refine HC.out.mono ?_
 rintro e w1 ⟨rfl, m1, rfl⟩
 go_wp2
 have HB1 := Aside0.mk (show Below W.heap.size W ((W.drewN m1).alloc (.cells (nums .i64 (List.replicate q 0)).toArray 3)) from abz (amz (Below.refl _ _) _) _)
 have HX1 := Aside0.mk (show ((W.drewN m1).alloc (.cells (nums .i64 (List.replicate q 0)).toArray 3)).heap[W.heap.size]? = some (.cells (nums .i64 (wTo 2 b 0)).toArray 3 (0, 0)) by
  have : wTo 2 b 0 = List.replicate q 0 := by rw [wTo, HLEN.out, HQ.out]
  rw [this]; exact heap_alloc_new _ _)
 obtain ⟨lb, hlb⟩ : ∃ lb, lb = W.heap.size := ⟨_, rfl⟩
 have HLB := Aside0.mk (show W.heap.size ≤ lb by omega)
 rw [← hlb] at HX1 ⊢
 clear hmk hlb HC d1 d2
 generalize (W.drewN m1).alloc (.cells (nums .i64 (List.replicate q 0)).toArray 3) = w2 at HB1 HX1 ⊢
 have HLI := Aside0.mk (show lb < 9223372036854775807 → True from fun _ => trivial)
 go_loopw [28] (fun iv wr => ∃ k : Nat, k ≤ n ∧ iv = .int .i64 (k : Int) ∧ Aside0 (wr.heap[lb]? = some (.cells (nums .i64 (wTo 2 b k)).toArray 3 (0, 0))) ∧ Aside0 (Below W.heap.size W wr)) (fun iv _ => n - (intOf iv).toNat)
 case atStart => exact ⟨0, Nat.zero_le _, rfl, HX1, HB1⟩
 clear HX1 HB1
 obtain ⟨w3, rfl⟩ : ∃ w3, w3 = wr := ⟨_, rfl⟩
 obtain ⟨k, hk, rfl, HX, HBE⟩ := hrel
 by_cases hlt : k < n
 ·obtain ⟨x, hx⟩ : ∃ x, b[k]? = some x := ⟨_, List.getElem?_eq_getElem (by have := HLEN.out; omega)⟩
  obtain ⟨ad, rfl, hc1⟩ := buz (Kd.arz (HLEN.out.symm ▸ HB.out) HBE.out) k x hx
  obtain ⟨j, hj⟩ : ∃ j, k / 2 = j := ⟨_, rfl⟩
  have hjq : j < q := by have := HD.out; omega
  obtain ⟨y, hy⟩ : ∃ y, (wTo 2 b k)[j]? = some y := ⟨_, List.getElem?_eq_getElem (by rw [HT.out]; exact hjq)⟩
  have hcy : w3.cell? ⟨lb, j, none⟩ = some (.int .i64 y) := (aaz HX.out j).trans (clz .i64 _ _ _ hy)
  have hfy := ayz HX.out j
  have hgx : b.getD k 0 = x := by rw [List.getD_eq_getElem?_getD, hx]; rfl
  have hgy : (wTo 2 b k).getD j 0 = y := by rw [List.getD_eq_getElem?_getD, hy]; rfl
  have d3 : (k : Int) / 2 = (j : Int) := by omega
  have k1 : (0 : Int) ≤ (k : Int) := by omega
  have k2 : (k : Int) < (n : Int) := by omega
  have j1 : (0 : Int) ≤ (j : Int) := by omega
  have j2 : (j : Int) < (q : Int) := by omega
  by_cases h2 : k % 2 = 0
  ·have HST := Aside0.mk (show (wTo 2 b k).set j (wrap64 x) = wTo 2 b (k + 1) by
    rw [wTo, if_pos h2, hj, hgx])
   have d4 : ((k : Int) % 2 == 0) = true := by simp; omega
   clear hx hy hj hgx hgy h2
   go_wp2
   refine ⟨⟨k + 1, by omega, by go_num, ⟨bWz HX.out j _ HST.out⟩, ⟨bJz HBE.out HLB.out _ _⟩⟩, by simp [intOf]; omega⟩
  ·have HST := Aside0.mk (show (wTo 2 b k).set j (wrap64 (y + wrap64 (256 * wrap64 x))) = wTo 2 b (k + 1) by
    rw [wTo, if_neg h2, hj, hgx, hgy])
   have d4 : ((k : Int) % 2 == 0) = false := by simp; omega
   clear hx hy hj hgx hgy h2
   go_wp2
   refine ⟨⟨k + 1, by omega, by go_num, ⟨bWz HX.out j _ HST.out⟩, ⟨bJz HBE.out HLB.out _ _⟩⟩, by simp [intOf]; omega⟩
 ·obtain rfl : k = n := by omega
  go_wp2
  go_ret2
  exact ⟨lb, by rw [HRL.out]; rfl, by rw [← HRES.out]; exact HX.out, HLB.out, HBE.out⟩
def byteF (wb a : Int) : List Int := if wb = 8 then [a % 256] else [a % 256, a / 256 % 256]
def bytesF (wb : Int) (l : List Int) : List Int := l.flatMap (byteF wb)
theorem bytesF_take (wb : Int) (l : List Int) (k : Nat) (a : Int) (h : l[k]? = some a) : bytesF wb (l.take (k + 1)) = bytesF wb (l.take k) ++ byteF wb a := by
 unfold bytesF
 rw [List.take_add_one, h, List.flatMap_append]; simp
theorem dtz (wb : Int) : ∀ l : List Int, (bytesF wb l).length ≤ 2 * l.length
 | [] => by simp [bytesF]
 | a :: l => by
  have h1 := dtz wb l
  have h2 : (byteF wb a).length ≤ 2 := by unfold byteF; split <;> simp
  have h3 : bytesF wb (a :: l) = byteF wb a ++ bytesF wb l := by unfold bytesF; rw [List.flatMap_cons]
  rw [h3, List.length_append, List.length_cons]
  omega
set_option maxRecDepth 100000 in
set_option maxHeartbeats 4000000 in
theorem rBytes.calls (g : Nat) (wb p : Int) (S : Nat → Prop) (A : Option Addr) (c : Nat) (l : List Int) (W : World) (hw : wb = 8 ∨ wb = 16) (hF : Fd W g wb p S) (hl : Kd.C (Kd.int .i64) W A l.length l) (hlen : l.length ≤ 1000000) (hin : ∀ a, a ∈ l → 0 ≤ a ∧ a < fsize wb) :
  Calls Tryz.prog 104 #[.pointer (some ⟨g, 0, none⟩), .slice A l.length c] W fun e w' => ∃ v, e = .returned (.tuple #[v, .int .i64 0]) ∧ (Kd.int .u8).R 5 w' W.heap.size (fun _ => True) v (bytesF wb l) ∧ Below W.heap.size W w' := by
 have HF := Aside0.mk hF
 have HW := Aside0.mk hw
 have HL := Aside0.mk hl
 have HIN := Aside0.mk hin
 obtain ⟨n, hn⟩ : ∃ n, l.length = n := ⟨_, rfl⟩
 have HLEN := Aside0.mk hn
 rw [hn] at hlen HL ⊢
 clear hF hw hl hin hn
 go_enter Tryz.func104, Tryz.ntmps104
 go_wp2
 go_loopw [6, 13] (fun v iv wr => ∃ k : Nat, k ≤ n ∧ iv = .int .i64 (k : Int) ∧ Aside0 ((Kd.int .u8).R 5 wr W.heap.size (fun _ => True) v (bytesF wb (l.take k))) ∧ Aside0 (Below W.heap.size W wr)) (fun _ iv _ => n - (intOf iv).toNat)
 case atStart => exact ⟨0, Nat.zero_le _, rfl, ⟨Kd.R_nil _ _ _ _ _⟩, ⟨Below.refl _ _⟩⟩
 obtain ⟨w3, rfl⟩ : ∃ w3, w3 = wr := ⟨_, rfl⟩
 obtain ⟨k, hk, rfl, HR, HB⟩ := hrel
 by_cases hlt : k < n
 ·obtain ⟨a, ha⟩ : ∃ x, l[k]? = some x := ⟨_, List.getElem?_eq_getElem (by have := HLEN.out; omega)⟩
  obtain ⟨ad, rfl, hc1⟩ := buz (Kd.arz (HLEN.out.symm ▸ HL.out) HB.out) k a ha
  have hr := HIN.out a (List.mem_of_getElem? ha)
  have HT := Aside0.mk (bytesF_take wb l k a ha)
  have HLL := Aside0.mk (show (bytesF wb (l.take k)).length ≤ 3000000 by
   have h1 := dtz wb (l.take k)
   have h2 := List.length_take_le k l
   omega)
  have hr1 := hr.1
  have hr2 : a < 65536 := by have := hr.2; rcases HW.out with rfl | rfl <;> simp [fsize] at this <;> omega
  have HI := Aside0.mk (show inF wb a = true by unfold inF; rw [decide_eq_true hr.1, decide_eq_true hr.2]; rfl)
  have HRI := Aside0.mk (rin.calls g wb p a S w3 HW.out (HF.out.below HB.out))
  rw [HI.out] at HRI
  have HBI := Aside0.mk (fun w' (h : Below W.heap.size W w') => gf_Bits.calls g wb p S w' (HF.out.below h))
  have HZ := Aside0.mk (show W.heap.size ≤ w3.heap.size from HB.out.size)
  generalize bytesF wb (l.take k) = pre at HR HT HLL
  clear ha hr
  go_wp2_with fail
  refine HRI.out.mono ?_
  rintro e w4 ⟨rfl, m4, rfl⟩
  have HR4 := Aside0.mk (Kd.b3z HR.out m4)
  have HB4 := Aside0.mk (amz HB.out m4)
  have HZ4 := Aside0.mk (show W.heap.size ≤ (w3.drewN m4).heap.size from HZ.out)
  generalize w3.drewN m4 = w4 at HR4 HB4 HZ4 ⊢
  clear HRI
  have e1 : 0 ≤ a % 256 := by omega
  have e2 : 0 ≤ a / 256 := by omega
  have HTW := Aside0.mk (show byteF 8 a = [a % 256] ∧ byteF 16 a = [a % 256] ++ [a / 256] from ⟨by simp [byteF], by simp [byteF]; omega⟩)
  have HL2 := Aside0.mk (show (pre ++ [a % 256]).length ≤ 3000001 by have := HLL.out; simp; omega)
  rcases HW.out with rfl | rfl
  ·rw [HTW.out.1] at HT
   go_wp2_with ((with_reducible refine aqz (b := .append) (xs := #[.tmp 21, .tmp 24]) rfl ?_); go_must (at_builtin; refine Kd.bzz (Kd.int .u8) (w0 := w4) W.heap.size rfl (.tmp 21) (.tmp 24) 34 5 (.int .u8 0) 1 rfl Tryz.underlying34 kr_ rfl (by decide) (by decide) _ _ (a % 256) [.int .u8 (a % 256)] (fun _ => True) (fun _ => False) rfl rfl rfl (fun _ h => h.elim) (fun _ _ => trivial) HR4.out (Below.refl _ _) HZ4.out ?aL ?_; (case aL => have := HLL.out; omega)); intro v5 w5 ho hb hg hat; have HR5 := Aside0.mk ho; have HB5 := Aside0.mk hb; clear ho hb hg hat; skip)
   have HB6 := Aside0.mk (HB4.out.trans HB5.out)
   go_wp2_with fail
   refine (HBI.out w5 HB6.out).mono ?_
   rintro e w7 ⟨rfl, m7, rfl⟩
   go_wp2
   go_roundw
   case rel => exact ⟨k + 1, by omega, by go_num, ⟨by rw [HT.out]; exact Kd.b3z HR5.out m7⟩, ⟨amz HB6.out m7⟩⟩
   case measure => simp [intOf]; omega
  ·rw [HTW.out.2, ← List.append_assoc] at HT
   go_wp2_with ((with_reducible refine aqz (b := .append) (xs := #[.tmp 21, .tmp 24]) rfl ?_); go_must (at_builtin; refine Kd.bzz (Kd.int .u8) (w0 := w4) W.heap.size rfl (.tmp 21) (.tmp 24) 34 5 (.int .u8 0) 1 rfl Tryz.underlying34 kr_ rfl (by decide) (by decide) _ _ (a % 256) [.int .u8 (a % 256)] (fun _ => True) (fun _ => False) rfl rfl rfl (fun _ h => h.elim) (fun _ _ => trivial) HR4.out (Below.refl _ _) HZ4.out ?aL ?_; (case aL => have := HLL.out; omega)); intro v5 w5 ho hb hg hat; have HR5 := Aside0.mk ho; have HB5 := Aside0.mk hb; clear ho hb hg hat; skip)
   have HB6 := Aside0.mk (HB4.out.trans HB5.out)
   go_wp2_with fail
   refine (HBI.out w5 HB6.out).mono ?_
   rintro e w7 ⟨rfl, m7, rfl⟩
   have HR8 := Aside0.mk (Kd.b3z HR5.out m7)
   have HB8 := Aside0.mk (amz HB6.out m7)
   have HZ8 := Aside0.mk (show W.heap.size ≤ (w5.drewN m7).heap.size from HB6.out.size)
   generalize w5.drewN m7 = w8 at HR8 HB8 HZ8 ⊢
   generalize pre ++ [a % 256] = pre2 at HR8 HL2 HT
   clear HR5 HB5
   go_wp2_with ((with_reducible refine aqz (b := .append) (xs := #[.tmp 29, .tmp 33]) rfl ?_); go_must (at_builtin; refine Kd.bzz (Kd.int .u8) (w0 := w8) W.heap.size rfl (.tmp 29) (.tmp 33) 34 5 (.int .u8 0) 1 rfl Tryz.underlying34 kr_ rfl (by decide) (by decide) _ _ (a / 256) [.int .u8 (a / 256)] (fun _ => True) (fun _ => False) rfl rfl rfl (fun _ h => h.elim) (fun _ _ => trivial) HR8.out (Below.refl _ _) HZ8.out ?aL ?_; (case aL => have := HL2.out; omega)); intro v9 w9 ho hb hg hat; have HR9 := Aside0.mk ho; have HB9 := Aside0.mk hb; clear ho hb hg hat; skip)
   go_roundw
   case rel => exact ⟨k + 1, by omega, by go_num, ⟨by rw [HT.out]; exact HR9.out⟩, ⟨HB8.out.trans HB9.out⟩⟩
   case measure => simp [intOf]; omega
 ·obtain rfl : k = n := by omega
  have HE := Aside0.mk (show l.take k = l from List.take_of_length_le (by have := HLEN.out; omega))
  rw [HE.out] at HR
  go_wp2
  go_ret2
  exact ⟨_, rfl, HR.out, HB.out⟩
def mapTo (f : Int → Int) (row : List Int) (j : Nat) : List Int := (row.take j).map f ++ row.drop j
theorem mapTo_zero (f : Int → Int) (row : List Int) : mapTo f row 0 = row := by simp [mapTo]
theorem mapTo_full (f : Int → Int) (row : List Int) : mapTo f row row.length = row.map f := by simp [mapTo]
theorem mapTo_at (f : Int → Int) (row : List Int) (j : Nat) (x : Int) (h : row[j]? = some x) : (mapTo f row j)[j]? = some x := by
 have hi := (List.getElem?_eq_some_iff.1 h).1
 unfold mapTo
 rw [List.getElem?_append_right (by simp; omega)]
 simp only [List.length_map, List.length_take, List.getElem?_drop]
 rw [show j + (j - min j row.length) = j by omega]
 exact h
theorem mapTo_step (f : Int → Int) (row : List Int) (j : Nat) (x : Int) (h : row[j]? = some x) : (mapTo f row j).set j (f x) = mapTo f row (j + 1) := by
 obtain ⟨hi, e⟩ := List.getElem?_eq_some_iff.1 h
 unfold mapTo
 rw [List.set_append_right _ _ (by simp; omega), List.length_map, List.length_take, show j - min j row.length = 0 by omega, List.drop_eq_getElem_cons hi, List.set_cons_zero, List.take_add_one, h, List.map_append, List.append_assoc]
 rfl
def mulB (wb c : Int) (b : List Int) : List Int := bytesF wb ((wordsF wb b).map (gmul wb c))
theorem duz (wb : Int) (b : List Int) : (wordsF wb b).length = b.length / wN wb := cGz _ _ _
theorem rWords.ok (g : Nat) (wb p : Int) (S : Nat → Prop) (A : Option Addr) (c : Nat) (b : List Int) (W : World) (hw : wb = 8 ∨ wb = 16) (hF : Fd W g wb p S) (hb : Kd.C (Kd.int .u8) W A b.length b) (hl : b.length ≤ 1000000) (hd : b.length % wN wb = 0) :
  Calls Tryz.prog 101 #[.pointer (some ⟨g, 0, none⟩), .slice A b.length c] W (WordsOk W (wordsF wb b)) := by
 rcases hw with rfl | rfl
 ·exact rWords.ok8 g p S A c b W hF hb hl
 ·exact rWords.ok16 g p S A c b W hF hb hl hd
set_option maxRecDepth 100000 in
set_option maxHeartbeats 2000000 in
theorem rMul.badw (g : Nat) (wb p c : Int) (S : Nat → Prop) (A : Option Addr) (cc : Nat) (b : List Int) (W : World) (hw : wb = 8 ∨ wb = 16) (hF : Fd W g wb p S) (hl : b.length ≤ 1000000) (hd : b.length % wN wb ≠ 0) :
  Calls Tryz.prog 69 #[.pointer (some ⟨g, 0, none⟩), .int .i64 c, .slice A b.length cc] W fun e w' => e = .returned (.tuple #[.slice none 0 0, .int .i64 1]) ∧ Drawn0 W w' := by
 have HC := Aside0.mk (rWords.bad g wb p S A cc b W hw hF hl hd)
 clear hw hF hl hd
 go_enter Tryz.func69, Tryz.ntmps69
 go_wp2_with fail
 refine HC.out.mono ?_
 rintro e w1 ⟨rfl, m1, rfl⟩
 go_wp2
 go_ret2
 exact ⟨rfl, Drawn0.step (Drawn0.refl _) _⟩
set_option maxRecDepth 100000 in
set_option maxHeartbeats 4000000 in
theorem rMul.ok (g : Nat) (wb c : Int) (S : Nat → Prop) (A : Option Addr) (cc : Nat) (b : List Int) (W : World) (hw : wb = 8 ∨ wb = 16) (hF : Fd W g wb (fpoly wb) S) (hS : ∀ k, S k → k < W.heap.size) (hb : Kd.C (Kd.int .u8) W A b.length b) (hl : b.length ≤ 1000000) (hd : b.length % wN wb = 0) (hc : inF wb c = true) :
  Calls Tryz.prog 69 #[.pointer (some ⟨g, 0, none⟩), .int .i64 c, .slice A b.length cc] W fun e w' => ∃ v, e = .returned (.tuple #[v, .int .i64 0]) ∧ (Kd.int .u8).R 5 w' W.heap.size (fun _ => True) v (mulB wb c b) ∧ Fd w' g wb (fpoly wb) S ∧ BB W w' g := by
 have HWD := Aside0.mk (rWords.ok g wb (fpoly wb) S A cc b W hw hF hb hl hd)
 have HF0 := Aside0.mk hF
 have HW := Aside0.mk hw
 have HS := Aside0.mk hS
 have HCI := Aside0.mk hc
 have hwl : (wordsF wb b).length ≤ 1000000 := by
  rw [duz]; exact Nat.le_trans (Nat.div_le_self _ _) hl
 obtain ⟨res, hres⟩ : ∃ r, mulB wb c b = r := ⟨_, rfl⟩
 have HRES := Aside0.mk hres
 rw [hres]
 unfold mulB at HRES
 generalize wordsF wb b = l at HWD hwl HRES
 generalize b.length = bl at HWD ⊢
 clear hF hw hS hc hres hb hl hd
 obtain ⟨n, hn⟩ : ∃ n, l.length = n := ⟨_, rfl⟩
 have HLEN := Aside0.mk hn
 rw [hn] at hwl
 clear hn
 go_enter Tryz.func69, Tryz.ntmps69
 go_wp2_with fail
 refine HWD.out.mono ?_
 rintro e w1 ⟨lb, rfl, q1, q2, q3⟩
 rw [HLEN.out]
 have HX1 := Aside0.mk (show w1.heap[lb]? = some (.cells (nums .i64 (mapTo (gmul wb c) l 0)).toArray 3 (0, 0)) by rw [mapTo_zero]; exact q1)
 have HLB := Aside0.mk q2
 have HB1 := Aside0.mk (BB.of_below q3 g)
 have HF1 := Aside0.mk (show Fd w1 g wb (fpoly wb) (fun q => S q ∨ q = lb) from ((HF0.out.more).below q3).thin (fun q _ hs => hs.elim .inl (fun e => .inr (by omega))))
 have HGL := Aside0.mk (show lb ≠ g by have := HF0.out.lt; omega)
 have HRN := Aside0.mk (rin.calls g wb (fpoly wb) c (fun q => S q ∨ q = lb) w1 HW.out HF1.out)
 rw [HCI.out] at HRN
 clear q1 q2 q3 HWD HF0
 go_wp2_with fail
 refine HRN.out.mono ?_
 rintro e w2 ⟨rfl, m2, rfl⟩
 have HX2 := Aside0.mk (show (w1.drewN m2).heap[lb]? = some (.cells (nums .i64 (mapTo (gmul wb c) l 0)).toArray 3 (0, 0)) from HX1.out)
 have HB2 := Aside0.mk (HB1.out.drewN m2)
 have HF2 := Aside0.mk (HF1.out.drewN m2)
 generalize w1.drewN m2 = w2 at HX2 HB2 HF2 ⊢
 clear HX1 HB1 HF1 HRN
 go_wp2
 go_loopw [28] (fun iv wr => ∃ k : Nat, k ≤ n ∧ iv = .int .i64 (k : Int) ∧ Aside0 (wr.heap[lb]? = some (.cells (nums .i64 (mapTo (gmul wb c) l k)).toArray 3 (0, 0))) ∧ Aside0 (BB W wr g) ∧ Aside0 (Fd wr g wb (fpoly wb) (fun q => S q ∨ q = lb))) (fun iv _ => n - (intOf iv).toNat)
 case atStart => exact ⟨0, Nat.zero_le _, rfl, HX2, HB2, HF2⟩
 clear HX2 HB2 HF2
 obtain ⟨w3, rfl⟩ : ∃ w3, w3 = wr := ⟨_, rfl⟩
 obtain ⟨k, hk, rfl, HX, HB, HF⟩ := hrel
 by_cases hlt : k < n
 ·obtain ⟨x, hx⟩ : ∃ x, l[k]? = some x := ⟨_, List.getElem?_eq_getElem (by have := HLEN.out; omega)⟩
  have hcx : w3.cell? ⟨lb, k, none⟩ = some (.int .i64 x) := (aaz HX.out k).trans (clz .i64 _ _ _ (mapTo_at _ _ _ _ hx))
  have HST := Aside0.mk (mapTo_step (gmul wb c) l k x hx)
  have HMU := Aside0.mk (btz.calls g (fun q => S q ∨ q = lb) wb c x w3 HW.out HF.out (fun q hq => by
   rcases hq with hq | rfl
   ·exact Nat.lt_of_lt_of_le (HS.out q hq) HB.out.size
   ·exact apz HX.out))
  have HXB := Aside0.mk (show ∀ w4, BB w3 w4 g → w4.heap[lb]? = some (.cells (nums .i64 (mapTo (gmul wb c) l k)).toArray 3 (0, 0)) from fun w4 h => (h.block lb (apz HX.out) HGL.out).trans HX.out)
  have HAT := Aside0.mk (mapTo_at (gmul wb c) l k x hx)
  have k1 : (0 : Int) ≤ (k : Int) := by omega
  have k2 : (k : Int) < (n : Int) := by omega
  clear hx
  go_wp2_with fail
  refine HMU.out.mono ?_
  rintro e w4 ⟨rfl, f1, f2⟩
  have HX4 := Aside0.mk (HXB.out w4 f2)
  have hc4 : w4.cell? ⟨lb, k, none⟩ = some (.int .i64 x) := (aaz HX4.out k).trans (clz .i64 _ _ _ HAT.out)
  have hf4 := ayz HX4.out k
  have HX5 := Aside0.mk (bWz HX4.out k (gmul wb c x) HST.out)
  have HB5 := Aside0.mk ((HB.out.trans f2).new HLB.out k (.int .i64 (gmul wb c x)))
  have HF5 := Aside0.mk (f1.set (q := ⟨lb, k, none⟩) (.inr rfl) (.int .i64 (gmul wb c x)))
  clear f1 f2 hcx HMU
  go_wp2
  go_roundw
  case rel => exact ⟨k + 1, by omega, by go_num, HX5, HB5, HF5⟩
  case measure => simp [intOf]; omega
 ·obtain rfl : k = n := by omega
  have HE := Aside0.mk (show mapTo (gmul wb c) l k = l.map (gmul wb c) by rw [← HLEN.out]; exact mapTo_full _ _)
  rw [HE.out] at HX
  have hC := C_nums HX.out (by simp; have := HLEN.out; omega)
  rw [List.length_map, HLEN.out] at hC
  have HBY := rBytes.calls g wb (fpoly wb) (fun q => S q ∨ q = lb) (some ⟨lb, 0, none⟩) k (l.map (gmul wb c)) w3 HW.out HF.out (by rw [List.length_map, HLEN.out]; exact hC) (by rw [List.length_map, HLEN.out]; omega) (fun a ha => by
   obtain ⟨y, -, rfl⟩ := List.mem_map.1 ha
   exact a6z HW.out _ _)
  rw [HRES.out, List.length_map, HLEN.out] at HBY
  have HBYS := Aside0.mk HBY
  clear hC HBY
  go_wp2_with fail
  refine HBYS.out.mono ?_
  rintro e w4 ⟨v, rfl, r1, r2⟩
  have R1 := Aside0.mk (Kd.baz r1 HB.out.size)
  have R2 := Aside0.mk (HF.out.below r2)
  have R3 := Aside0.mk (HB.out.trans (BB.of_below r2 g))
  clear r1 r2
  go_wp2
  go_ret2
  exact ⟨_, rfl, R1.out, R2.out.thin (fun q _ h => .inl h), R3.out⟩
def evB (wb : Int) (b : List Int) : Bool := b.length % wN wb == 0
def dotB (K : Nat) (wb : Int) (c : List Int) (rows : List (List Int)) : Option (List Int × Int) := if rows.all (evB wb) = true then agz.f K (List.zipWith (mulB wb) c rows) else some ([], 1)
theorem S_joinK {k : IntKind} {wq w2 : World} {g B e t gt : Nat} {gcs : Array Value} {u uv : Value} {xs : List (List Int)} {R : List Int} (HO : Kd.S (dM e k) t wq B (fun _ => True) u xs) (hg : wq.heap[g]? = some (.cells gcs gt (0, 0))) (ht : ∀ q, q ∈ t :: (dM e k).E → q ≠ gt) (hb : BB wq w2 g) (hR : (Kd.int k).R e w2 wq.heap.size (fun _ => True) uv R) (hB : B ≤ wq.heap.size) :
    Kd.S (dM e k) t w2 B (fun k' => True ∧ ¬ wq.heap.size ≤ k') u xs ∧ (dM e k).M w2 B (fun k' => wq.heap.size ≤ k') R [uv] ∧ (∀ k', wq.heap.size ≤ k' → True ∧ some k' ≠ u.ownBlock) :=
  ⟨Kd.bxz (Kd.S_move (Kd.bcz (Kd.ciz HO hg ht)) (fun q hq => hb.block q hq.2.2.1 hq.1.2)) (fun q hq => ⟨trivial, by have := hq.2.2.1; omega⟩),
   ⟨_, rfl, Kd.baz (Kd.a0z (Kd.bfz hR) (fun q hq => hq.2.1)) hB⟩,
   fun q hq => ⟨trivial, fun e => by have := Kd.R_lt (Kd.S_R HO) q e.symm; omega⟩⟩
theorem BB.then_below {W a b : World} {g : Nat} (h : BB W a g) (k : Below W.heap.size a b) : BB W b g :=
 ⟨k.os.trans h.os, k.tape.trans h.tape, k.output.trans h.output, Nat.le_trans h.size k.size, fun i hi hg => (k.block i hi).trans (h.block i hi hg)⟩
theorem Fd.grown {W W1 : World} {g : Nat} {wb p : Int} {S : Nat → Prop} {v : Value} {t : Nat} (h : Fd W g wb p S) (hg : W.grownBy W1 v.ownBlock) (ht : ∀ k, v.ownBlock = some k → ∃ cells, W.heap[k]? = some (.cells cells t (0, 0))) (h1 : t ≠ 172) (h2 : t ≠ 3) : Fd W1 g wb p S := by
 have key : ∀ (k : Nat) (cs : Array Value) (q : Nat), q ≠ t → W.heap[k]? = some (.cells cs q (0, 0)) → W1.heap[k]? = some (.cells cs q (0, 0)) := fun k cs q hq hk => (hg.block k (apz hk) (fun e => by
  obtain ⟨c2, hc2⟩ := ht k e.symm
  rw [hk] at hc2
  injection hc2 with hc2
  injection hc2 with _ hc2
  exact hq hc2)).trans hk
 obtain ⟨n1, h | ⟨e1, e2, a, b, ha, hb, hc, n2, n3⟩⟩ := h
 ·exact ⟨n1, .inl (key _ _ _ (Ne.symm h1) h)⟩
 ·exact ⟨n1, .inr ⟨e1, e2, a, b, key _ _ _ (Ne.symm h1) ha, key _ _ _ (Ne.symm h2) hb, key _ _ _ (Ne.symm h2) hc, n2, n3⟩⟩
theorem zip_take_succ {α β γ : Type} (f : α → β → γ) (a : List α) (b : List β) (k : Nat) (x : α) (y : β) (hx : a[k]? = some x) (hy : b[k]? = some y) : List.zipWith f (a.take (k + 1)) (b.take (k + 1)) = List.zipWith f (a.take k) (b.take k) ++ [f x y] := by
 have h1 := (List.getElem?_eq_some_iff.1 hx).1
 have h2 := (List.getElem?_eq_some_iff.1 hy).1
 rw [List.take_add_one, List.take_add_one, hx, hy, List.zipWith_append (by simp; omega)]
 rfl
set_option maxRecDepth 100000 in
set_option maxHeartbeats 4000000 in
theorem rDot.calls (g : Nat) (wb : Int) (S : Nat → Prop) (C A : Option Addr) (cc ca K : Nat) (c : List Int) (rows : List (List Int)) (r1 : List Int) (r2 : Int) (W : World) (hw : wb = 8 ∨ wb = 16) (hF : Fd W g wb (fpoly wb) S) (hS : ∀ k, S k → k < W.heap.size)
  (hc : Kd.F (Kd.int .i64) W (NotG g) C c.length c) (hr : Kd.F (dM 5 .u8) W (NotG g) A rows.length rows) (hin : ∀ x, x ∈ c → inF wb x = true) (hlen : c.length = rows.length) (h0 : 0 < rows.length) (hsz : ∀ r, r ∈ rows → r.length ≤ 1000000) (hn : rows.length ≤ 1000) (h : dotB K wb c rows = some (r1, r2)) :
  Calls Tryz.prog 47 #[.pointer (some ⟨g, 0, none⟩), .slice C c.length cc, .slice A rows.length ca] W fun e w' => ∃ v, e = .returned (.tuple #[v, .int .i64 r2]) ∧ (Kd.int .u8).R 5 w' W.heap.size (fun _ => True) v r1 ∧ Fd w' g wb (fpoly wb) S ∧ BB W w' g := by
 have HF0 := Aside0.mk hF
 have HW := Aside0.mk hw
 have HS := Aside0.mk hS
 have HC := Aside0.mk hc
 have HR := Aside0.mk hr
 have HIN := Aside0.mk hin
 have HSZ := Aside0.mk hsz
 have HH := Aside0.mk h
 obtain ⟨n, hnn⟩ : ∃ n, rows.length = n := ⟨_, rfl⟩
 have HL1 := Aside0.mk (hlen.trans hnn)
 have HL2 := Aside0.mk hnn
 rw [hlen] at HC ⊢
 rw [hnn] at HC HR hn h0 ⊢
 have z1 : ((n : Int) == 0) = false := by simp; omega
 have z2 : ((n : Int) != (n : Int)) = false := by simp
 clear hw hF hS hc hr hin hsz h hlen hnn
 go_enter Tryz.func47, Tryz.ntmps47
 go_wp2
 go_loopw [8, 25] (fun v iv wr => ∃ k : Nat, k ≤ n ∧ iv = .int .i64 (k : Int) ∧ Aside0 (Kd.S (dM 5 .u8) 34 wr W.heap.size (fun _ => True) v (List.zipWith (mulB wb) (c.take k) (rows.take k))) ∧ Aside0 (BB W wr g) ∧ Aside0 (Fd wr g wb (fpoly wb) S) ∧ Aside0 ((rows.take k).all (evB wb) = true)) (fun _ iv _ => n - (intOf iv).toNat)
 case atStart => exact ⟨0, Nat.zero_le _, rfl, ⟨Kd.S_nil _ _ _ _ _⟩, ⟨BB.refl _ _⟩, HF0, ⟨rfl⟩⟩
 clear HF0 z1 z2
 obtain ⟨w3, rfl⟩ : ∃ w3, w3 = wr := ⟨_, rfl⟩
 obtain ⟨k, hk, rfl, HO, HB, HF, HEV⟩ := hrel
 by_cases hlt : k < n
 ·obtain ⟨x, hx⟩ : ∃ x, c[k]? = some x := ⟨_, List.getElem?_eq_getElem (by have := HL1.out; omega)⟩
  obtain ⟨b, hb⟩ : ∃ b, rows[k]? = some b := ⟨_, List.getElem?_eq_getElem (by have := HL2.out; omega)⟩
  obtain ⟨ad, A', c', rfl, hcb, hlb, hCb⟩ := bhz (Kd.F_now (F_bb (HL2.out.symm ▸ HR.out) HB.out)) k b hb
  obtain ⟨cd, rfl, hcx⟩ := buz (Kd.F_now (F_bb (HL1.out.symm ▸ HC.out) HB.out)) k x hx
  have HCB := Aside0.mk hCb
  have HI := Aside0.mk (HIN.out x (List.mem_of_getElem? hx))
  have HBL := Aside0.mk (HSZ.out b (List.mem_of_getElem? hb))
  have HZ := Aside0.mk (zip_take_succ (mulB wb) c rows k x b hx hb)
  have HEV1 := Aside0.mk (show (rows.take (k + 1)).all (evB wb) = ((rows.take k).all (evB wb) && evB wb b) by rw [List.take_add_one, hb]; simp)
  have HALL := Aside0.mk (show evB wb b = false → rows.all (evB wb) = false from fun h => by
   rw [List.all_eq_false]
   exact ⟨b, List.mem_of_getElem? hb, by rw [h]; decide⟩)
  have HS3 := Aside0.mk (show ∀ q, S q → q < w3.heap.size from fun q hq => Nat.lt_of_lt_of_le (HS.out q hq) HB.out.size)
  have k1 : (0 : Int) ≤ (k : Int) := by omega
  have k2 : (k : Int) < (n : Int) := by omega
  clear hx hb hlb hCb
  by_cases hev : evB wb b = true
  ·have HMU := Aside0.mk (rMul.ok g wb x S A' c' b w3 HW.out HF.out HS3.out HCB.out HBL.out (by simpa [evB] using hev) HI.out)
   have HE2 := Aside0.mk (show (rows.take (k + 1)).all (evB wb) = true by rw [HEV1.out, HEV.out, hev]; rfl)
   clear hev
   go_wp2_with fail
   refine HMU.out.mono ?_
   rintro e w4 ⟨v4, rfl, q1, q2, q3⟩
   obtain ⟨gcs, hgcs⟩ := Fd.cells HF.out
   have hj := S_joinK HO.out hgcs (by decide) q3 q1 HB.out.size
   have HLZ := Aside0.mk (show (List.zipWith (mulB wb) (c.take k) (rows.take k)).length ≤ 1000 by simp; omega)
   obtain ⟨va, vc, rfl⟩ := Kd.aWz q1
   generalize List.zipWith (mulB wb) (c.take k) (rows.take k) = pre at HO hj HLZ HZ
   generalize (mulB wb x b).length = nm at *
   generalize mulB wb x b = R at hj HZ
   have HS1 := Aside0.mk hj.1
   have HM1 := Aside0.mk hj.2.1
   have HOK := Aside0.mk hj.2.2
   have HSW := Aside0.mk (show W.heap.size ≤ w4.heap.size from Nat.le_trans HB.out.size q3.size)
   have HB4 := Aside0.mk (HB.out.trans q3)
   have HF4 := Aside0.mk q2
   have HTY := Aside0.mk (Kd.cOz hj.1)
   clear q1 q2 q3 hj hgcs HMU HCB hcb hcx HO
   go_wp2_with ((with_reducible refine aqz (b := .append) (xs := #[.tmp 43, .tmp 45]) rfl ?_); go_must (at_builtin; refine Kd.bAz (dM 5 .u8) (w0 := w4) W.heap.size rfl (.tmp 43) (.tmp 45) 24 34 (.slice none 0 0) 24 rfl Tryz.underlying24 kr_ rfl (by decide) (by decide) _ _ R [.slice va nm vc] (fun _ => True) (fun k' => w3.heap.size ≤ k') rfl rfl HM1.out HOK.out (fun _ _ => trivial) HS1.out (Below.refl _ _) HSW.out ?aL ?_; (case aL => have := HLZ.out; omega)); intro v2 w5 ho2 hb2 hg2 hat2; have HO5 := Aside0.mk ho2; have HB5 := Aside0.mk hb2; have HG5 := Aside0.mk (show w4.grownBy w5 u8.ownBlock from hg2); clear ho2 hb2 hg2 hat2)
   go_roundw
   case rel => exact ⟨k + 1, by omega, by go_num, ⟨by rw [HZ.out]; exact HO5.out⟩, ⟨HB4.out.then_below HB5.out⟩, ⟨HF4.out.grown HG5.out HTY.out (by decide) (by decide)⟩, HE2⟩
   case measure => simp [intOf]; omega
  ·have hev' : evB wb b = false := by simpa using hev
   have HMU := Aside0.mk (rMul.badw g wb (fpoly wb) x S A' c' b w3 HW.out HF.out HBL.out (by simpa [evB] using hev'))
   have HRES := Aside0.mk (show r1 = [] ∧ r2 = 1 by
    have h := HH.out
    unfold dotB at h
    rw [if_neg (by rw [HALL.out hev']; decide)] at h
    simp only [Option.some.injEq, Prod.mk.injEq] at h
    exact ⟨h.1.symm, h.2.symm⟩)
   clear hev hev'
   go_wp2_with fail
   refine HMU.out.mono ?_
   rintro e w4 ⟨rfl, m4, rfl⟩
   go_wp2
   go_ret2
   refine ⟨.slice none 0 0, ?_, ?_, HF.out.drewN m4, HB.out.drewN m4⟩
   ·rw [HRES.out.2]; rfl
   ·rw [HRES.out.1]; exact Kd.R_nil _ _ _ _ _
 ·obtain rfl : k = n := by omega
  have e1 : c.take k = c := List.take_of_length_le (by rw [HL1.out]; exact Nat.le_refl _)
  have e2 : rows.take k = rows := List.take_of_length_le (by rw [HL2.out]; exact Nat.le_refl _)
  rw [e1, e2] at HO
  rw [e2] at HEV
  have h := HH.out
  unfold dotB at h
  rw [if_pos HEV.out] at h
  have HSUM := Aside0.mk h
  generalize List.zipWith (mulB wb) c rows = pr at HO HSUM
  obtain ⟨PA, pc, rfl, hpl, hpc⟩ := Kd.S_reads HO.out
  have HPS := Aside0.mk (agz.calls K PA pc pr r1 r2 w3 hpc hpl HSUM.out)
  clear h e1 e2 hpl hpc
  generalize pr.length = np at *
  go_wp2_with fail
  refine HPS.out.mono ?_
  rintro e w4 ⟨v, rfl, s1, s2⟩
  have R1 := Aside0.mk (Kd.baz s1 HB.out.size)
  have R2 := Aside0.mk (HF.out.below s2)
  have R3 := Aside0.mk (HB.out.trans (BB.of_below s2 g))
  clear s1 s2
  go_wp2
  go_ret2
  exact ⟨_, rfl, R1.out, R2.out, R3.out⟩
end Go.Proofs.YtpdakdcmahlghaaGreat.XCo
end
