-- Joined by this work's own program (wip/tools/bundle.py) out of its texts: what this claim uses of them. Not trusted: Lean checks it.
import Derived.Test.YtpdakdcmahlghaaGreatBTrialNone10
section
namespace Go.Proofs.YtpdakdcmahlghaaGreat.XCo
open Go.RowKit Go.Proofs.YtpdakdcmahlghaaGreatW.PrintWords Go.Proofs.YtpdakdcmahlghaaGreatW.PrintLast Go.Proofs.YtpdakdcmahlghaaGreatW.PrintMore
attribute [local go_sem] aDz aEz aLz aMz auz avz aFz aGz
set_option linter.unusedVariables false
set_option linter.unusedSimpArgs false
def ahz.l (K : Nat) (wb : Int) (data : List (List Int)) : List (List Int) → List (List Int) → Option (List (List Int) × Int)
 | [], acc => some (acc, 0)
 | row :: rs, acc => (dotB K wb row data).bind fun t => if t.2 = 0 then ahz.l K wb data rs (acc ++ [t.1]) else some ([], 1)
def ahz.small (l : List (List Int)) : Bool := decide (l.length ≤ 1000) && l.all (fun r => decide (r.length ≤ 1000000))
def ahz.f (k : Nat) (a0_0 a0_1 a0_2 : Int) (l1 : List (List Int)) : Option (List (List Int) × Int) :=
 (adz.f a0_0 a0_1 a0_2).bind fun b => if b = true then (if (l1.length : Int) = a0_1 then (if ahz.small l1 = true then ahz.l k (pbits a0_0) l1 (parM a0_0 a0_1.toNat a0_2.toNat) [] else none) else some ([], 1)) else some ([], 1)
theorem C_F {α : Type} {d : Kd α} (hd : Kd.Heap d) {W : World} {A : Option Addr} {n : Nat} {xs : List α} (h : d.C W A n xs) : Kd.F d W (fun k => k < W.heap.size) A n xs := fun W' hW => hd.C (fun k hk => hW k hk hk) h
set_option maxRecDepth 100000 in
set_option maxHeartbeats 4000000 in
theorem codec_Parity1.calls (g bf bd : Nat) (wb : Int) (S : Nat → Prop) (C A : Option Addr) (cc ca K : Nat) (c : List Int) (rows : List (List Int)) (r1 : List Int) (r2 : Int) (W : World) (hw : wb = 8 ∨ wb = 16) (hF : Fd W g wb (fpoly wb) S) (hS : ∀ k, S k → k < W.heap.size)
  (hbf : W.heap[bf]? = some (.cells #[.pointer (some ⟨g, 0, none⟩)] 72 (0, 0))) (hbd : W.heap[bd]? = some (.cells #[.slice A rows.length ca] 24 (0, 0)))
  (hc : Kd.F (Kd.int .i64) W (NotG g) C c.length c) (hr : Kd.F (dM 5 .u8) W (NotG g) A rows.length rows) (hin : ∀ x, x ∈ c → inF wb x = true) (hlen : c.length = rows.length) (h0 : 0 < rows.length) (hsz : ∀ r, r ∈ rows → r.length ≤ 1000000) (hn : rows.length ≤ 1000) (h : dotB K wb c rows = some (r1, r2)) :
  Calls Tryz.prog 46 #[.slice C c.length cc, .pointer (some ⟨bf, 0, none⟩), .pointer (some ⟨bd, 0, none⟩)] W fun e w' => ∃ v, e = .returned (.tuple #[v, .int .i64 r2]) ∧ (Kd.int .u8).R 5 w' W.heap.size (fun _ => True) v r1 ∧ Fd w' g wb (fpoly wb) S ∧ BB W w' g := by
 have HD := Aside0.mk (rDot.calls g wb S C A cc ca K c rows r1 r2 W hw hF hS hc hr hin hlen h0 hsz hn h)
 have c1 : W.cell? ⟨bf, 0, none⟩ = some (.pointer (some ⟨g, 0, none⟩)) := (aaz hbf 0).trans rfl
 have c2 : W.cell? ⟨bd, 0, none⟩ = some (.slice A rows.length ca) := (aaz hbd 0).trans rfl
 generalize rows.length = n at HD c2
 generalize c.length = m at HD ⊢
 clear hw hF hS hbf hbd hc hr hin hlen h0 hsz hn h
 go_enter Tryz.func46, Tryz.ntmps46
 go_wp2_with fail
 refine HD.out.mono ?_
 rintro e w1 ⟨v, rfl, q1, q2, q3⟩
 have Q1 := Aside0.mk q1
 have Q2 := Aside0.mk q2
 have Q3 := Aside0.mk q3
 clear q1 q2 q3
 go_wp2
 go_ret2
 exact ⟨_, rfl, Q1.out, Q2.out, Q3.out⟩
set_option maxRecDepth 100000 in
set_option maxHeartbeats 4000000 in
theorem ahz.nomay (p k m : Int) (A : Option Addr) (c : Nat) (l : List (List Int)) (W : World) (h : adz.f p k m = some false) :
  Calls Tryz.prog 19 #[.agg #[.int .i64 p, .int .i64 k, .int .i64 m], .slice A l.length c] W fun e w' => e = .returned (.tuple #[.slice none 0 0, .int .i64 1]) ∧ Below W.heap.size W w' := by
 have HP := Aside0.mk (fun w => bSz.no p k m w h)
 have hu := Tryz.underlying23
 generalize l.length = n
 clear h
 go_enter Tryz.func19, Tryz.ntmps19
 go_wp2_with fail
 refine (HP.out _).mono ?_
 rintro e w1 ⟨rfl, hB⟩
 have HB := Aside0.mk (show Below W.heap.size W w1 from (abz (abz (Below.refl _ _) _) _).trans (hB.mono (by simp; omega)))
 clear hB
 go_wp2
 go_ret2
 exact ⟨rfl, HB.out⟩
set_option maxRecDepth 100000 in
set_option maxHeartbeats 4000000 in
theorem ahz.nolen (p k m : Int) (A : Option Addr) (c : Nat) (l : List (List Int)) (W : World) (h : adz.f p k m = some true) (hl : (l.length : Int) ≠ k) :
  Calls Tryz.prog 19 #[.agg #[.int .i64 p, .int .i64 k, .int .i64 m], .slice A l.length c] W fun e w' => e = .returned (.tuple #[.slice none 0 0, .int .i64 1]) ∧ Below W.heap.size W w' := by
 have HP := Aside0.mk (fun w => bSz.ok p k m w h)
 have hu := Tryz.underlying23
 generalize l.length = n at hl ⊢
 generalize parM p k.toNat m.toNat = M at HP
 have hne : ((n : Int) != k) = true := by simpa using hl
 have hb1 := heap_alloc_new W (.cells #[.int .i64 p, .int .i64 k, .int .i64 m] 23)
 have hb2 := heap_alloc_new (W.alloc (.cells #[.int .i64 p, .int .i64 k, .int .i64 m] 23)) (.cells #[.slice A n c] 24)
 have hb1' : ((W.alloc (.cells #[.int .i64 p, .int .i64 k, .int .i64 m] 23)).alloc (.cells #[.slice A n c] 24)).heap[W.heap.size]? = some (.cells #[.int .i64 p, .int .i64 k, .int .i64 m] 23 (0, 0)) := aez hb1 (abz (Below.refl _ _) _)
 have HX1 := Aside0.mk hb1'
 have HX2 := Aside0.mk hb2
 have HB := Aside0.mk (show Below W.heap.size W ((W.alloc (.cells #[.int .i64 p, .int .i64 k, .int .i64 m] 23)).alloc (.cells #[.slice A n c] 24)) from abz (abz (Below.refl _ _) _) _)
 clear h hl hb1 hb2 hb1'
 go_enter Tryz.func19, Tryz.ntmps19
 go_wp2_with fail
 generalize (W.alloc (.cells #[.int .i64 p, .int .i64 k, .int .i64 m] 23)).alloc (.cells #[.slice A n c] 24) = w1 at HX1 HX2 HB ⊢
 refine (HP.out w1).mono ?_
 rintro e w2 ⟨B, bc, rfl, -, -, hB⟩
 have HB2 := Aside0.mk (HB.out.trans (hB.mono HB.out.size))
 have c1 : w2.cell? ⟨W.heap.size, 1, none⟩ = some (.int .i64 k) := (aaz (aez HX1.out hB) 1).trans rfl
 have c2 : w2.cell? ⟨W.heap.size + 1, 0, none⟩ = some (.slice A n c) := by
  have := (aaz (aez HX2.out hB) 0)
  simp at this
  exact this
 clear hB
 go_wp2
 go_ret2
 exact ⟨rfl, HB2.out⟩
set_option maxRecDepth 100000 in
set_option maxHeartbeats 4000000 in
theorem ahz.go (K : Nat) (p k m : Int) (A : Option Addr) (c : Nat) (l : List (List Int)) (r1 : List (List Int)) (r2 : Int) (W : World) (h : adz.f p k m = some true) (hl : (l.length : Int) = k) (hr : Kd.C (dM 5 .u8) W A l.length l) (hsm : ahz.small l = true)
  (hL : ahz.l K (pbits p) l (parM p k.toNat m.toNat) [] = some (r1, r2)) :
  Calls Tryz.prog 19 #[.agg #[.int .i64 p, .int .i64 k, .int .i64 m], .slice A l.length c] W fun e w' => ∃ v, e = .returned (.tuple #[v, .int .i64 r2]) ∧ Kd.S (dM 5 .u8) 34 w' W.heap.size (fun _ => True) v r1 ∧ Below W.heap.size W w' := by
 obtain ⟨p1, p2, k1, k2, m1, m2⟩ := bjz h
 have HP := Aside0.mk (fun w => bSz.ok p k m w h)
 have HFD := Aside0.mk (bwz.calls p ⟨p1, p2⟩)
 have HPB := Aside0.mk (pbits_or p)
 have hgd := daz p k.toNat m.toNat (by omega) (by omega) (by omega) (by omega)
 have HSM := Aside0.mk (show l.length ≤ 1000 ∧ ∀ r, r ∈ l → r.length ≤ 1000000 by
  simp only [ahz.small, Bool.and_eq_true, decide_eq_true_eq, List.all_eq_true] at hsm
  exact hsm)
 have hu := Tryz.underlying23
 obtain ⟨n, hn⟩ : ∃ n, l.length = n := ⟨_, rfl⟩
 have HLN := Aside0.mk hn
 obtain rfl : k = (n : Int) := by omega
 simp only [Int.toNat_natCast] at HP hgd hL
 obtain ⟨mm, hmm⟩ : ∃ mm, m.toNat = mm := ⟨_, rfl⟩
 rw [hmm] at HP hgd hL
 have mm4 : mm ≤ 4 := by omega
 have HGD := Aside0.mk hgd
 have HL := Aside0.mk hL
 have HR := Aside0.mk (C_F (Kd.heap_slice _ (Kd.heap_int _)) hr)
 rw [hn] at HR ⊢
 generalize parM p n mm = M at HP HGD HL
 generalize pbits p = wb at HFD HPB HL HGD
 have hself : ((n : Int) != (n : Int)) = false := by simp
 have n1 : 1 ≤ n := by omega
 have n2 : n ≤ 8 := by omega
 have HW := Aside0.mk (show W.heap.size = W.heap.size from rfl)
 have hb1 := heap_alloc_new W (.cells #[.int .i64 p, .int .i64 (n : Int), .int .i64 m] 23)
 have hb2 := heap_alloc_new (W.alloc (.cells #[.int .i64 p, .int .i64 (n : Int), .int .i64 m] 23)) (.cells #[.slice A n c] 24)
 have hb1' : ((W.alloc (.cells #[.int .i64 p, .int .i64 (n : Int), .int .i64 m] 23)).alloc (.cells #[.slice A n c] 24)).heap[W.heap.size]? = some (.cells #[.int .i64 p, .int .i64 (n : Int), .int .i64 m] 23 (0, 0)) := aez hb1 (abz (Below.refl _ _) _)
 have HX1 := Aside0.mk hb1'
 have HX2 := Aside0.mk (show ((W.alloc (.cells #[.int .i64 p, .int .i64 (n : Int), .int .i64 m] 23)).alloc (.cells #[.slice A n c] 24)).heap[W.heap.size + 1]? = some (.cells #[.slice A n c] 24 (0, 0)) by simpa using hb2)
 have HB := Aside0.mk (show Below W.heap.size W ((W.alloc (.cells #[.int .i64 p, .int .i64 (n : Int), .int .i64 m] 23)).alloc (.cells #[.slice A n c] 24)) from abz (abz (Below.refl _ _) _) _)
 clear h hl hb1 hb2 hb1' hgd hL hr hn p1 p2 k1 k2 hmm hsm
 go_enter Tryz.func19, Tryz.ntmps19
 go_wp2_with fail
 generalize (W.alloc (.cells #[.int .i64 p, .int .i64 (n : Int), .int .i64 m] 23)).alloc (.cells #[.slice A n c] 24) = w1 at HX1 HX2 HB ⊢
 refine (HP.out w1).mono ?_
 rintro e w2 ⟨B, bc, rfl, -, hC2, hB⟩
 have HB2 := Aside0.mk (HB.out.trans (hB.mono HB.out.size))
 have HY1 := Aside0.mk (aez HX1.out hB)
 have HY2 := Aside0.mk (aez HX2.out hB)
 have HM2 := Aside0.mk (Kd.bDz (Kd.F_bound hC2) (fun q hq => hq.2))
 have c0 : w2.cell? ⟨W.heap.size, 0, none⟩ = some (.int .i64 p) := (aaz HY1.out 0).trans rfl
 have c1 : w2.cell? ⟨W.heap.size, 1, none⟩ = some (.int .i64 (n : Int)) := (aaz HY1.out 1).trans rfl
 have c2 : w2.cell? ⟨W.heap.size + 1, 0, none⟩ = some (.slice A n c) := (aaz HY2.out 0).trans rfl
 have HML := Aside0.mk (show M.length = mm from HGD.out.2)
 clear hB hC2 HP HX1 HX2 HB
 have hmf : ∀ (fn : Fn) (first cap : Array Value) (w : World), (Instr.makeFunc fn first cap).run Tryz.prog w = .ok (.func fn first cap) w := fun _ _ _ _ => rfl
 go_wp2_with fail
 refine (HFD.out w2).mono ?_
 rintro e w3 ⟨g, rfl, q1, q2, q3⟩
 have HB3 := Aside0.mk (HB2.out.trans (q3.mono HB2.out.size))
 have HZ2 := Aside0.mk (aez HY2.out q3)
 have HFR := Aside0.mk (q1.fd (fun _ => False) (fun h => h))
 have HM3 := Aside0.mk (show Kd.F (dM 3 .i64) w3 (NotG g) B mm M from Kd.bDz (Kd.bLz HM2.out q3) (fun q hq => by show q ≠ g; omega))
 have HD3 := Aside0.mk (show Kd.F (dM 5 .u8) w3 (NotG g) A n l from Kd.bDz (Kd.F_step HR.out (fun q hq _ => HB3.out.block q hq)) (fun q hq => by show q ≠ g; have := HB2.out.size; omega))
 have HG3 := Aside0.mk (show W.heap.size ≤ g from Nat.le_trans HB2.out.size q2)
 have HGN := Aside0.mk (show W.heap.size + 1 ≠ g by have := apz HY2.out; omega)
 clear q1 q2 q3 c0 c1 c2 HM2 HR HY1 HY2 HB2 HFD
 go_wp2
 obtain ⟨bf, hbf⟩ : ∃ bf, bf = w3.heap.size := ⟨_, rfl⟩
 obtain ⟨bd, hbd⟩ : ∃ bd, bd = W.heap.size + 1 := ⟨_, rfl⟩
 have HT := abz (Below.refl w3.heap.size w3) (.cells #[.pointer (some ⟨g, 0, none⟩)] 72)
 have HBF := Aside0.mk (show (w3.alloc (.cells #[.pointer (some ⟨g, 0, none⟩)] 72)).heap[bf]? = some (.cells #[.pointer (some ⟨g, 0, none⟩)] 72 (0, 0)) by rw [hbf]; exact heap_alloc_new _ _)
 have HBD := Aside0.mk (show (w3.alloc (.cells #[.pointer (some ⟨g, 0, none⟩)] 72)).heap[bd]? = some (.cells #[.slice A n c] 24 (0, 0)) by rw [hbd]; exact aez HZ2.out HT)
 have HB5 := Aside0.mk (abz HB3.out (.cells #[.pointer (some ⟨g, 0, none⟩)] 72))
 have HF5 := Aside0.mk (HFR.out.alloc (.cells #[.pointer (some ⟨g, 0, none⟩)] 72))
 have HM5 := Aside0.mk (Kd.F_alloc HM3.out (.cells #[.pointer (some ⟨g, 0, none⟩)] 72))
 have HD5 := Aside0.mk (Kd.F_alloc HD3.out (.cells #[.pointer (some ⟨g, 0, none⟩)] 72))
 have HN1 := Aside0.mk (show bf ≠ g by have := HFR.out.lt; omega)
 have HN2 := Aside0.mk (show bd ≠ g by rw [hbd]; exact HGN.out)
 rw [← hbf, ← hbd]
 clear HT hbf hbd HB3 HZ2 HFR HM3 HD3 HGN
 generalize w3.alloc (.cells #[.pointer (some ⟨g, 0, none⟩)] 72) = w5 at HBF HBD HB5 HF5 HM5 HD5 ⊢
 go_loopw [10, 35] (fun v iv wr => ∃ (k : Nat) (acc : List (List Int)), k ≤ mm ∧ iv = .int .i64 (k : Int) ∧ Aside0 (Kd.S (dM 5 .u8) 34 wr w5.heap.size (fun _ => True) v acc) ∧ Aside0 (BB w5 wr g) ∧ Aside0 (Fd wr g wb (fpoly wb) (fun _ => False)) ∧ Aside0 (ahz.l K wb l (M.drop k) acc = some (r1, r2)) ∧ acc.length ≤ k) (fun _ iv _ => mm - (intOf iv).toNat)
 case atStart => exact ⟨0, [], Nat.zero_le _, rfl, ⟨Kd.S_nil _ _ _ _ _⟩, ⟨BB.refl _ _⟩, HF5, HL, Nat.zero_le _⟩
 clear HF5 HL
 obtain ⟨w6, rfl⟩ : ∃ w6, w6 = wr := ⟨_, rfl⟩
 obtain ⟨k, acc, hk, rfl, HO, HB, HF, HL, hacc⟩ := hrel
 by_cases hlt : k < mm
 ·obtain ⟨row, hrow⟩ : ∃ x, M[k]? = some x := ⟨_, List.getElem?_eq_getElem (by have := HML.out; omega)⟩
  have hdr : M.drop k = row :: M.drop (k + 1) := by
   obtain ⟨h1, h2⟩ := List.getElem?_eq_some_iff.1 hrow
   rw [List.drop_eq_getElem_cons h1, h2]
  have hl := HL.out
  rw [hdr, ahz.l] at hl
  obtain ⟨⟨t1, t2⟩, hd, hl2⟩ := Option.bind_eq_some_iff.1 hl
  have hgr := HGD.out.1 row (List.mem_of_getElem? hrow)
  have HRL := Aside0.mk hgr.1
  have hFM := F_bb HM5.out HB.out
  rw [← HML.out] at hFM
  obtain ⟨ad, A', c', rfl, hcr, hlr, -⟩ := bhz (Kd.F_now hFM) k row hrow
  obtain ⟨A2, c2, hcr2, hlr2, hFr⟩ := row_atF hFM k row hrow
  obtain ⟨rfl, rfl⟩ : A' = A2 ∧ c' = c2 := by
   rw [hcr] at hcr2
   injection hcr2 with e
   injection e with e1 e2 e3
   exact ⟨e1, e3⟩
  have HDC := Aside0.mk (codec_Parity1.calls g bf bd wb (fun _ => False) A' A c' c K row l t1 t2 w6 HPB.out HF.out (fun _ h => h.elim) ((HB.out.block bf (apz HBF.out) HN1.out).trans HBF.out) (by rw [HLN.out]; exact (HB.out.block bd (apz HBD.out) HN2.out).trans HBD.out) hFr (by rw [HLN.out]; exact F_bb HD5.out HB.out) (fun x hx => by
   have := hgr.2 x hx
   simp [inF, this]) (by rw [HRL.out, HLN.out]) (by rw [HLN.out]; omega) HSM.out.2 HSM.out.1 hd)
  have HL2 := Aside0.mk hl2
  rw [HRL.out] at HDC hcr
  have k1 : (0 : Int) ≤ (k : Int) := by omega
  have k2 : (k : Int) < (mm : Int) := by omega
  clear hrow hdr hl hl2 hd hgr hFM hlr hcr2 hlr2 hFr
  go_wp2_with fail
  refine HDC.out.mono ?_
  rintro e w7 ⟨v7, rfl, q1, q2, q3⟩
  by_cases ht2 : t2 = 0
  ·subst ht2
   have HL3 := HL2.out
   rw [if_pos rfl] at HL3
   have HL4 := Aside0.mk HL3
   obtain ⟨gcs, hgcs⟩ := Fd.cells HF.out
   have hj := S_joinK HO.out hgcs (by decide) q3 q1 HB.out.size
   obtain ⟨va, vc, rfl⟩ := Kd.aWz q1
   generalize t1.length = nm at *
   have HS1 := Aside0.mk hj.1
   have HM1 := Aside0.mk hj.2.1
   have HOK := Aside0.mk hj.2.2
   have HSW := Aside0.mk (show w5.heap.size ≤ w7.heap.size from Nat.le_trans HB.out.size q3.size)
   have HB7 := Aside0.mk (HB.out.trans q3)
   have HF7 := Aside0.mk q2
   have HTY := Aside0.mk (Kd.cOz hj.1)
   have hal : acc.length ≤ 100 := by omega
   clear q1 q2 q3 hj hgcs HDC hcr HO HL3 HL2
   have HAL := Aside0.mk hal
   have HAC := Aside0.mk hacc
   clear hal hacc
   go_wp2_with ((with_reducible refine aqz (b := .append) (xs := #[.tmp 47, .tmp 49]) rfl ?_); go_must (at_builtin; refine Kd.bAz (dM 5 .u8) (w0 := w7) w5.heap.size rfl (.tmp 47) (.tmp 49) 24 34 (.slice none 0 0) 24 rfl Tryz.underlying24 kr_ rfl (by decide) (by decide) _ _ t1 [.slice va nm vc] (fun _ => True) (fun k' => w6.heap.size ≤ k') rfl rfl HM1.out HOK.out (fun _ _ => trivial) HS1.out (Below.refl _ _) HSW.out ?aL ?_; (case aL => have := HAL.out; omega)); intro v2 w8 ho2 hb2 hg2 hat2; have HO8 := Aside0.mk ho2; have HB8 := Aside0.mk hb2; have HG8 := Aside0.mk (show w7.grownBy w8 u10.ownBlock from hg2); clear ho2 hb2 hg2 hat2)
   go_roundw
   case rel => exact ⟨k + 1, acc ++ [t1], by omega, by go_num, HO8, ⟨HB7.out.then_below HB8.out⟩, ⟨HF7.out.grown HG8.out HTY.out (by decide) (by decide)⟩, HL4, by have := HAC.out; simp; omega⟩
   case measure => simp [intOf]; omega
  ·have hb2 : (t2 != 0) = true := by simpa using ht2
   have HRES := Aside0.mk (show r1 = [] ∧ r2 = 1 by
    have h := HL2.out
    rw [if_neg ht2] at h
    simp only [Option.some.injEq, Prod.mk.injEq] at h
    exact ⟨h.1.symm, h.2.symm⟩)
   have HB7 := Aside0.mk (HB.out.trans q3)
   clear q1 q2 q3 ht2 HDC hcr
   go_wp2
   go_ret2
   refine ⟨.slice none 0 0, ?_, ?_, HB7.out.below HB5.out HG3.out⟩
   ·rw [HRES.out.2]; rfl
   ·rw [HRES.out.1]; exact Kd.S_nil _ _ _ _ _
 ·obtain rfl : k = mm := by omega
  have h := HL.out
  rw [List.drop_of_length_le (by rw [HML.out]; exact Nat.le_refl _), ahz.l] at h
  simp only [Option.some.injEq, Prod.mk.injEq] at h
  obtain ⟨rfl, rfl⟩ := h
  go_wp2
  go_ret2
  exact ⟨_, rfl, Kd.chz HO.out HB5.out.size, HB.out.below HB5.out HG3.out⟩
theorem ahz.calls (k : Nat) (a0_0 : Int) (a0_1 : Int) (a0_2 : Int) (A1 : Option Addr) (c1 : Nat) (l1 : List (List Int)) (r1 : List (List Int)) (r2 : Int) (w : World) (hr1 : Kd.C (Kd.slice 5 (Kd.int .u8)) w A1 l1.length l1) (hc1 : l1.length ≤ c1) (h : ahz.f k a0_0 a0_1 a0_2 l1 = some (r1, r2)) :
 Calls Tryz.prog 19 #[.agg #[.int .i64 a0_0, .int .i64 a0_1, .int .i64 a0_2], .slice A1 l1.length c1] w fun e w' => ∃ v0_ : Value, e = .returned (.tuple #[v0_, .int .i64 r2]) ∧ Kd.S (Kd.slice 5 (Kd.int .u8)) 34 w' w.heap.size (fun _ => True) v0_ r1 ∧ Below w.heap.size w w' := by
 unfold ahz.f at h
 obtain ⟨b, hb⟩ := drz a0_0 a0_1 a0_2
 rw [hb] at h
 simp only [Option.bind_some] at h
 have bad : ∀ (hh : some (([] : List (List Int)), (1 : Int)) = some (r1, r2)) (hc : Calls Tryz.prog 19 #[.agg #[.int .i64 a0_0, .int .i64 a0_1, .int .i64 a0_2], .slice A1 l1.length c1] w fun e w' => e = .returned (.tuple #[.slice none 0 0, .int .i64 1]) ∧ Below w.heap.size w w'), Calls Tryz.prog 19 #[.agg #[.int .i64 a0_0, .int .i64 a0_1, .int .i64 a0_2], .slice A1 l1.length c1] w fun e w' => ∃ v0_ : Value, e = .returned (.tuple #[v0_, .int .i64 r2]) ∧ Kd.S (Kd.slice 5 (Kd.int .u8)) 34 w' w.heap.size (fun _ => True) v0_ r1 ∧ Below w.heap.size w w' := by
  intro hh hc
  simp only [Option.some.injEq, Prod.mk.injEq] at hh
  obtain ⟨rfl, rfl⟩ := hh
  refine hc.mono ?_
  rintro e w' ⟨rfl, hB⟩
  exact ⟨_, rfl, Kd.S_nil _ _ _ _ _, hB⟩
 cases b with
 | false => exact bad (by simpa using h) (ahz.nomay a0_0 a0_1 a0_2 A1 c1 l1 w hb)
 | true =>
  rw [if_pos rfl] at h
  by_cases hl : (l1.length : Int) = a0_1
  ·rw [if_pos hl] at h
   by_cases hs : ahz.small l1 = true
   ·rw [if_pos hs] at h
    exact ahz.go k a0_0 a0_1 a0_2 A1 c1 l1 r1 r2 w hb hl hr1 hs h
   ·rw [if_neg hs] at h; cases h
  ·rw [if_neg hl] at h
   exact bad h (ahz.nolen a0_0 a0_1 a0_2 A1 c1 l1 w hb hl)
def ajz.l0 : Nat → List Int → List Int → Int → Int → Option (Bool)
 | 0, _, _, _, _ => none
 | k + 1, x0, x1, x12, x13 => if x13 < x12 then (if 0 ≤ x13 then (if x13 < (x0.length : Int) then (if x13 < (x1.length : Int) then (if (rd x0 x13) = (rd x1 x13) then (ajz.l0 k x0 x1 x12 (wrap64 (x13 + 1))) else (some false)) else (none)) else (none)) else (none)) else (some true)
def ajz.f (k : Nat) (l0 : List Int) (l1 : List Int) : Option (Bool) := if (l0.length : Int) = (l1.length : Int) then (ajz.l0 k l0 l1 (l0.length : Int) 0) else (some false)
set_option maxHeartbeats 8000000 in
set_option maxRecDepth 100000 in
theorem ajz.calls (k : Nat) (A0 : Option Addr) (c0 : Nat) (l0 : List Int) (A1 : Option Addr) (c1 : Nat) (l1 : List Int) (r : Bool) (w : World) (hr0 : Kd.C (Kd.int .u8) w A0 l0.length l0) (hc0 : l0.length ≤ c0) (hr1 : Kd.C (Kd.int .u8) w A1 l1.length l1) (hc1 : l1.length ≤ c1) (h : ajz.f k l0 l1 = some r) :
  Calls Tryz.prog 54 #[.slice A0 l0.length c0, .slice A1 l1.length c1] w fun e w' => e = .returned (.bool r) ∧ Drawn0 w w' := by
 have HR0 := Aside0.mk hr0
 have HC0 := Aside0.mk hc0
 clear hr0 hc0
 have HR1 := Aside0.mk hr1
 have HC1 := Aside0.mk hc1
 clear hr1 hc1
 have H := h
 clear h
 unfold ajz.f at H
 by_cases c3 : (l0.length : Int) = (l1.length : Int)
 rotate_left
 ·rw [if_neg c3] at H
  have c3b0 : ((l0.length : Int) == (l1.length : Int)) = false := beq_eq_false_iff_ne.mpr c3
  have c3b1 : ((l0.length : Int) != (l1.length : Int)) = true := bne_iff_ne.mpr c3
  have c3b2 : (l0.length == l1.length) = false := by first | simpa using c3 | (simp at c3 ⊢; omega)
  obtain rfl := Option.some.inj H
  go_enter Tryz.func54, Tryz.ntmps54
  go_wp2
  repeat (go_quiet (fail); try go_wp2)
  go_ret
  exact ⟨sd_, dn_⟩
 rw [if_pos c3] at H
 have c3b0 : ((l0.length : Int) == (l1.length : Int)) = true := beq_iff_eq.mpr c3
 have c3b1 : ((l0.length : Int) != (l1.length : Int)) = false := bne_eq_false_iff_eq.mpr c3
 have c3b2 : (l0.length == l1.length) = true := by first | simpa using c3 | (simp at c3 ⊢; omega)
 clear c3
 have H' := Aside0.mk H
 clear H
 go_enter Tryz.func54, Tryz.ntmps54
 go_wp2
 repeat (go_quiet (fail); try go_wp2)
 go_loopg [13] k (fun kq v13 w' => ∃ (x13_1 : Int), v13 = .int .i64 x13_1 ∧ Aside0 (ajz.l0 kq l0 l1 (l0.length : Int) x13_1 = some r) ∧ Aside0 (kq ≤ k) ∧ Drawn0 w w')
 case atStart => exact ⟨(0), sd_, H', ⟨Nat.le_refl _⟩, dn_⟩
 clear H'
 try clear c1
 try clear p2
 try clear c3
 try clear c3b0
 try clear c3b1
 try clear c3b2
 obtain ⟨x13_1, rfl, HA, HK1, ⟨m1, rfl⟩⟩ := hrel
 rcases gk with _ | k1
 ·exact absurd HA.out (by simp [ajz.l0])
 have H := HA.out
 clear HA
 simp only [ajz.l0] at H
 by_cases c4 : x13_1 < (l0.length : Int)
 rotate_left
 ·rw [if_neg c4] at H
  have c4b0 := decide_eq_false c4
  clear c4
  obtain rfl := Option.some.inj H
  go_wp2
  repeat (go_quiet (fail); try go_wp2)
  go_ret
  exact ⟨sd_, dn_⟩
 rw [if_pos c4] at H
 have c4b0 := decide_eq_true c4
 clear c4
 by_cases c5 : 0 ≤ x13_1
 rotate_left
 ·rw [if_neg c5] at H
  exact absurd H (by simp)
 rw [if_pos c5] at H
 have c5b0 := decide_eq_true c5
 clear c5
 by_cases c6 : x13_1 < (l0.length : Int)
 rotate_left
 ·rw [if_neg c6] at H
  exact absurd H (by simp)
 rw [if_pos c6] at H
 have c6b0 := decide_eq_true c6
 clear c6
 by_cases c7 : x13_1 < (l1.length : Int)
 rotate_left
 ·rw [if_neg c7] at H
  exact absurd H (by simp)
 rw [if_pos c7] at H
 have c7b0 := decide_eq_true c7
 clear c7
 by_cases c8 : (rd l0 x13_1) = (rd l1 x13_1)
 rotate_left
 ·rw [if_neg c8] at H
  have c8b0 : ((rd l0 x13_1) == (rd l1 x13_1)) = false := beq_eq_false_iff_ne.mpr c8
  have c8b1 : ((rd l0 x13_1) != (rd l1 x13_1)) = true := bne_iff_ne.mpr c8
  obtain rfl := Option.some.inj H
  have p117 : 0 ≤ (x13_1 : Int) := of_decide_eq_true as_
  have q117 : x13_1 < (l0.length : Int) := of_decide_eq_true as_
  obtain ⟨ad117, e117, hx117_0⟩ := Kd.bTz HR0.out x13_1 p117 q117
  cases e117
  replace p117 := eq_true p117
  replace q117 := eq_true q117
  have p118 : 0 ≤ (x13_1 : Int) := of_decide_eq_true as_
  have q118 : x13_1 < (l1.length : Int) := of_decide_eq_true as_
  obtain ⟨ad118, e118, hx118_0⟩ := Kd.bTz HR1.out x13_1 p118 q118
  cases e118
  replace p118 := eq_true p118
  replace q118 := eq_true q118
  go_wp2
  repeat (go_quiet (fail); try go_wp2)
  go_ret
  exact ⟨sd_, dn_⟩
 rw [if_pos c8] at H
 have c8b0 : ((rd l0 x13_1) == (rd l1 x13_1)) = true := beq_iff_eq.mpr c8
 have c8b1 : ((rd l0 x13_1) != (rd l1 x13_1)) = false := bne_eq_false_iff_eq.mpr c8
 clear c8
 have H' := Aside0.mk H
 clear H
 have p117 : 0 ≤ (x13_1 : Int) := of_decide_eq_true as_
 have q117 : x13_1 < (l0.length : Int) := of_decide_eq_true as_
 obtain ⟨ad117, e117, hx117_0⟩ := Kd.bTz HR0.out x13_1 p117 q117
 cases e117
 replace p117 := eq_true p117
 replace q117 := eq_true q117
 have p118 : 0 ≤ (x13_1 : Int) := of_decide_eq_true as_
 have q118 : x13_1 < (l1.length : Int) := of_decide_eq_true as_
 obtain ⟨ad118, e118, hx118_0⟩ := Kd.bTz HR1.out x13_1 p118 q118
 cases e118
 replace p118 := eq_true p118
 replace q118 := eq_true q118
 go_wp2
 repeat (go_quiet (fail); try go_wp2)
 go_roundg k1
 case measure => have := HK1.out; omega
 case rel => exact ⟨(wrap64 (x13_1 + 1)), sd_, H', ⟨by have := HK1.out; omega⟩, dn_⟩
def eqRows (k : Nat) : List (List Int) → List (List Int) → Option Bool
 | [], [] => some true
 | x :: xs, y :: ys => (ajz.f k x y).bind fun b => if b = true then eqRows k xs ys else some false
 | _, _ => some false
def eqFunc (k : Nat) (p q : List (List Int)) : Option Bool := if p.length = q.length then (if p.length ≤ 1000000 then eqRows k p q else none) else some false
set_option maxRecDepth 100000 in
set_option maxHeartbeats 1600000 in
theorem eqFunc.calls (K : Nat) (A B : Option Addr) (ca cb : Nat) (p q : List (List Int)) (r : Bool) (W : World) (hA : Kd.C (dM 5 .u8) W A p.length p) (hB : Kd.C (dM 5 .u8) W B q.length q) (h : eqFunc K p q = some r) :
  Calls Tryz.prog 53 #[.slice A p.length ca, .slice B q.length cb, .func (.func 54) #[] #[]] W fun e w' => e = .returned (.bool r) ∧ Below W.heap.size W w' := by
 unfold eqFunc at h
 by_cases hl : p.length = q.length
 ·rw [if_pos hl] at h
  by_cases hsm : p.length ≤ 1000000
  ·rw [if_pos hsm] at h
   have HA := Aside0.mk hA
   have HBq := Aside0.mk hB
   obtain ⟨n, hn⟩ : ∃ n, q.length = n := ⟨_, rfl⟩
   have HN := Aside0.mk (show p.length = n ∧ q.length = n from ⟨hl.trans hn, hn⟩)
   have hnn : n ≤ 1000000 := by omega
   rw [hl, hn]
   have HR := Aside0.mk h
   have hself : ((n : Int) != (n : Int)) = false := by simp
   clear h hA hB hl hn
   go_enter Tryz.func53, Tryz.ntmps53
   go_wp2
   go_loopw [17] (fun iv wr => ∃ i : Nat, i ≤ n ∧ iv = .int .i64 (i : Int) ∧ Aside0 (Below W.heap.size W wr) ∧ Aside0 (eqRows K (p.drop i) (q.drop i) = some r)) (fun iv _ => n - (intOf iv).toNat)
   case atStart => exact ⟨0, Nat.zero_le _, rfl, ⟨Below.refl _ _⟩, ⟨by simpa using HR.out⟩⟩
   clear HR
   obtain ⟨w6, rfl⟩ : ∃ w6, w6 = wr := ⟨_, rfl⟩
   obtain ⟨i, hi, rfl, HB, HE⟩ := hrel
   by_cases hlt : i < n
   ·obtain ⟨x, hx⟩ : ∃ x, p[i]? = some x := ⟨_, List.getElem?_eq_getElem (by have := HN.out.1; omega)⟩
    obtain ⟨y, hy⟩ : ∃ y, q[i]? = some y := ⟨_, List.getElem?_eq_getElem (by have := HN.out.2; omega)⟩
    obtain ⟨a1, A1, c1, rfl, e1, l1, C1⟩ := bhz (Kd.arz HA.out HB.out) i x hx
    obtain ⟨a2, A2, c2, rfl, e2, l2, C2⟩ := bhz (Kd.arz HBq.out HB.out) i y hy
    have hd1 : p.drop i = x :: p.drop (i + 1) := by
     obtain ⟨h1, h2⟩ := List.getElem?_eq_some_iff.1 hx
     rw [List.drop_eq_getElem_cons h1, h2]
    have hd2 : q.drop i = y :: q.drop (i + 1) := by
     obtain ⟨h1, h2⟩ := List.getElem?_eq_some_iff.1 hy
     rw [List.drop_eq_getElem_cons h1, h2]
    have he := HE.out
    rw [hd1, hd2, eqRows] at he
    obtain ⟨b, hb, he⟩ := Option.bind_eq_some_iff.1 he
    have HC := Aside0.mk (ajz.calls K A1 c1 x A2 c2 y b w6 C1 l1 C2 l2 hb)
    have i1 : (0 : Int) ≤ (i : Int) := by omega
    have i2 : (i : Int) < (n : Int) := by omega
    have HE2 := Aside0.mk he
    clear hd1 hd2 hb he C1 C2 l1 l2 hx hy HE
    cases b with
    | true =>
     go_wp2_with fail
     refine HC.out.mono ?_
     rintro e w9 ⟨rfl, m9, rfl⟩
     have HB9 := Aside0.mk (amz HB.out m9)
     go_wp2
     go_roundw
     case rel => exact ⟨i + 1, by omega, by go_num, HB9, ⟨by simpa using HE2.out⟩⟩
     case measure => simp [intOf]; omega
    | false =>
     have HRR := Aside0.mk (show r = false by have := HE2.out; rw [if_neg (by decide)] at this; cases this; rfl)
     go_wp2_with fail
     refine HC.out.mono ?_
     rintro e w9 ⟨rfl, m9, rfl⟩
     have HB9 := Aside0.mk (amz HB.out m9)
     go_wp2
     go_ret
     exact ⟨by rw [HRR.out]; rfl, HB9.out⟩
   ·obtain rfl : i = n := by omega
    have HRR := Aside0.mk (show r = true by
     have := HE.out
     rw [List.drop_of_length_le (by rw [HN.out.1]; exact Nat.le_refl _), List.drop_of_length_le (by rw [HN.out.2]; exact Nat.le_refl _), eqRows] at this
     cases this; rfl)
    go_wp2
    go_ret
    exact ⟨by rw [HRR.out]; rfl, HB.out⟩
  ·rw [if_neg hsm] at h; cases h
 ·rw [if_neg hl] at h
  cases h
  have hne : ((p.length : Int) != (q.length : Int)) = true := by simpa using fun h => hl (by omega)
  generalize p.length = n1 at hne ⊢
  generalize q.length = n2 at hne ⊢
  clear hA hB hl
  go_enter Tryz.func53, Tryz.ntmps53
  go_wp2
  go_ret
  exact ⟨rfl, Below.refl _ _⟩
def aNz.f (k : Nat) (a0_0 a0_1 a0_2 : Int) (l1 : List (List Int)) : Option Bool :=
 (adz.f a0_0 a0_1 a0_2).bind fun b => if b = true then (if (l1.length : Int) = a0_1 + a0_2 then ((ahz.f k a0_0 a0_1 a0_2 (l1.take a0_1.toNat)).bind fun t => if t.2 = 0 then eqFunc k t.1 (l1.drop a0_1.toNat) else some false) else some false) else some false
theorem cut_to3 {P : Program} (t e : TypeId) {i : TypeInfo} (ht : P.underlying t = some (.slice e)) (hi : P.info? e = some i) (A : Option Addr) (n c j : Nat) (hm : j ≤ n) (hc : n ≤ c) :
  ∀ W : World, (Instr.slice t (.slice A n c) none (some (.int .i64 (j : Int))) (some (.int .i64 (j : Int)))).run P W = .ok (.slice A j j) W := by
 intro W
 have hel : P.elem t = e := by simp [Program.elem, ht]
 have hu : P.underlying t = some (.slice (P.elem t)) := by rw [hel]; exact ht
 have ha : (A.map fun x => x.add 0) = A := by cases A <;> simp [Addr.add]
 have h1 : (j : Int) ≤ (c : Int) := by omega
 simp [Instr.slice, run_underlying hu, Instr.sliceBounds, run_sliceBound, h1, hel, sizeOf, typeInfo, hi, sliced, Result.andThen, ha]
set_option maxRecDepth 100000 in
set_option maxHeartbeats 1600000 in
theorem aNz.nomay (a0_0 a0_1 a0_2 : Int) (A1 : Option Addr) (c1 n : Nat) (w : World) (h : adz.f a0_0 a0_1 a0_2 = some false) :
  Calls Tryz.prog 22 #[.agg #[.int .i64 a0_0, .int .i64 a0_1, .int .i64 a0_2], .slice A1 n c1] w fun e w' => e = .returned (.bool false) ∧ Below w.heap.size w w' := by
 have HM := Aside0.mk (fun w => adz.calls a0_0 a0_1 a0_2 false w h)
 have hu := Tryz.underlying23
 have HB := Aside0.mk (abz (Below.refl w.heap.size w) (.cells #[.int .i64 a0_0, .int .i64 a0_1, .int .i64 a0_2] 23))
 clear h
 go_enter Tryz.func22, Tryz.ntmps22
 go_wp2_with fail
 generalize w.alloc (.cells #[.int .i64 a0_0, .int .i64 a0_1, .int .i64 a0_2] 23) = w0 at HB ⊢
 refine (HM.out w0).mono ?_
 rintro e w1 ⟨rfl, hB1⟩
 have HB1 := Aside0.mk (HB.out.trans (hB1.mono HB.out.size))
 clear hB1
 go_wp2
 go_ret
 exact ⟨rfl, HB1.out⟩
set_option maxRecDepth 100000 in
set_option maxHeartbeats 1600000 in
theorem aNz.nolen (a0_0 a0_1 a0_2 : Int) (A1 : Option Addr) (c1 n : Nat) (w : World) (h : adz.f a0_0 a0_1 a0_2 = some true) (hk : 1 ≤ a0_1 ∧ a0_1 ≤ 1000 ∧ 1 ≤ a0_2 ∧ a0_2 ≤ 1000) (hn : (n : Int) ≠ a0_1 + a0_2) :
  Calls Tryz.prog 22 #[.agg #[.int .i64 a0_0, .int .i64 a0_1, .int .i64 a0_2], .slice A1 n c1] w fun e w' => e = .returned (.bool false) ∧ Below w.heap.size w w' := by
 have HM := Aside0.mk (fun w => adz.calls a0_0 a0_1 a0_2 true w h)
 have hu := Tryz.underlying23
 have HB := Aside0.mk (abz (Below.refl w.heap.size w) (.cells #[.int .i64 a0_0, .int .i64 a0_1, .int .i64 a0_2] 23))
 have HX := Aside0.mk (heap_alloc_new w (.cells #[.int .i64 a0_0, .int .i64 a0_1, .int .i64 a0_2] 23))
 have hs : IntKind.i64.wrap (a0_1 + a0_2) = a0_1 + a0_2 := by rw [IntKind.wrap_i64]; omega
 have hne : ((n : Int) != a0_1 + a0_2) = true := by simpa using hn
 clear h hk hn
 go_enter Tryz.func22, Tryz.ntmps22
 go_wp2_with fail
 generalize w.alloc (.cells #[.int .i64 a0_0, .int .i64 a0_1, .int .i64 a0_2] 23) = w0 at HB HX ⊢
 refine (HM.out w0).mono ?_
 rintro e w1 ⟨rfl, hB1⟩
 have HB1 := Aside0.mk (HB.out.trans (hB1.mono HB.out.size))
 have HX1 := aez HX.out hB1
 have q1 : w1.cell? ⟨w.heap.size, 1, none⟩ = some (.int .i64 a0_1) := (aaz HX1 1).trans rfl
 have q2 : w1.cell? ⟨w.heap.size, 2, none⟩ = some (.int .i64 a0_2) := (aaz HX1 2).trans rfl
 clear hB1 HX HX1
 go_wp2
 go_ret
 exact ⟨rfl, HB1.out⟩
set_option maxRecDepth 100000 in
set_option maxHeartbeats 1600000 in
theorem aNz.go (k : Nat) (a0_0 : Int) (kk M n : Nat) (A1 : Option Addr) (c1 : Nat) (l1 t1 : List (List Int)) (t2 : Int) (r : Bool) (w : World) (h : adz.f a0_0 (kk : Int) (M : Int) = some true) (hk : 1 ≤ kk ∧ kk ≤ 1000 ∧ 1 ≤ M ∧ M ≤ 1000) (hn : n = kk + M) (hln : l1.length = n) (hc : n ≤ c1)
  (hr : Kd.C (dM 5 .u8) w A1 l1.length l1) (hp : ahz.f k a0_0 (kk : Int) (M : Int) (l1.take kk) = some (t1, t2)) (he : t2 = 0 → eqFunc k t1 (l1.drop kk) = some r) (he2 : t2 ≠ 0 → r = false) :
  Calls Tryz.prog 22 #[.agg #[.int .i64 a0_0, .int .i64 (kk : Int), .int .i64 (M : Int)], .slice A1 n c1] w fun e w' => e = .returned (.bool r) ∧ Below w.heap.size w w' := by
 have HM := Aside0.mk (fun w => adz.calls a0_0 (kk : Int) (M : Int) true w h)
 have HE := Aside0.mk he
 have HE2 := Aside0.mk he2
 have HP := Aside0.mk hp
 have HR := Aside0.mk hr
 have HLN := Aside0.mk hln
 have hu := Tryz.underlying23
 have hu2 := Tryz.underlying24
 have HB := Aside0.mk (abz (Below.refl w.heap.size w) (.cells #[.int .i64 a0_0, .int .i64 (kk : Int), .int .i64 (M : Int)] 23))
 have HX := Aside0.mk (heap_alloc_new w (.cells #[.int .i64 a0_0, .int .i64 (kk : Int), .int .i64 (M : Int)] 23))
 have hs : IntKind.i64.wrap ((kk : Int) + (M : Int)) = ((kk + M : Nat) : Int) := by rw [IntKind.wrap_i64]; omega
 have hne : ((n : Int) != ((kk + M : Nat) : Int)) = false := by rw [hn]; simp
 have hKn : kk ≤ n := by omega
 clear h hk hn he he2 hp hr hln
 go_enter Tryz.func22, Tryz.ntmps22
 go_wp2_with fail
 generalize w.alloc (.cells #[.int .i64 a0_0, .int .i64 (kk : Int), .int .i64 (M : Int)] 23) = w0 at HB HX ⊢
 refine (HM.out w0).mono ?_
 rintro e w1 ⟨rfl, hB1⟩
 have HB1 := Aside0.mk (HB.out.trans (hB1.mono HB.out.size))
 have HX1 := Aside0.mk (aez HX.out hB1)
 have q0 : w1.cell? ⟨w.heap.size, 0, none⟩ = some (.int .i64 a0_0) := (aaz HX1.out 0).trans rfl
 have q1 : w1.cell? ⟨w.heap.size, 1, none⟩ = some (.int .i64 (kk : Int)) := (aaz HX1.out 1).trans rfl
 have q2 : w1.cell? ⟨w.heap.size, 2, none⟩ = some (.int .i64 (M : Int)) := (aaz HX1.out 2).trans rfl
 have hinfo : (Tryz.prog.info? 34).map (fun i => i.size) = some 1 := by kernel_rfl
 obtain ⟨inf, hinf, hsz⟩ := Option.map_eq_some_iff.1 hinfo
 have hcut := cut_to3 (P := Tryz.prog) 24 34 hu2 hinf A1 n c1 kk hKn hc
 have htk : (l1.take kk).length = kk := by rw [List.length_take, HLN.out]; omega
 have HPA := Aside0.mk (show Calls Tryz.prog 19 #[.agg #[.int .i64 a0_0, .int .i64 (kk : Int), .int .i64 (M : Int)], .slice A1 kk kk] w1.drew _ from by
  have h1 := ahz.calls k a0_0 (kk : Int) (M : Int) A1 kk (l1.take kk) t1 t2 w1.drew (Kd.C_take (Kd.arz HR.out HB1.out.drew) (by rw [HLN.out]; exact hKn)) (by omega) HP.out
  rw [htk] at h1
  exact h1)
 have hmo : Tryz.prog.follows .mixedOrders = true := by kernel_rfl
 have hdl : (l1.drop kk).length = n - kk := by rw [List.length_drop, HLN.out]
 have hcut2 := cut_from (P := Tryz.prog) 24 34 .i64 hu2 hinf 1 hsz A1 n c1 (kk : Int) (by omega) (by omega)
 have hdr := Kd.C_drop (m := kk) (c := c1) HR.out (by rw [HLN.out]; exact hKn) (by rw [HLN.out]; exact hc)
 rw [show (dM 5 .u8).sz = 1 from rfl, hdl] at hdr
 simp only [Int.toNat_natCast] at hcut2
 generalize (if c1 = kk then A1 else Option.map (fun x => x.add (kk * 1)) A1) = A4 at hcut2 hdr
 have HDR := Aside0.mk hdr
 have HDL := Aside0.mk hdl
 obtain ⟨c4, hc4⟩ : ∃ c4, c1 - kk = c4 := ⟨_, rfl⟩
 obtain ⟨n4, hn4⟩ : ∃ n4, n - kk = n4 := ⟨_, rfl⟩
 rw [hc4, hn4] at hcut2
 rw [hn4] at HDR HDL
 clear hB1 HX HB HM hinfo hinf htk HP hsz hdl hdr hc4 hn4
 go_wp2_with fail
 refine bdz (n := 13) (S := fun w' => w'.cell? ⟨w.heap.size, 0, none⟩ = some (.int .i64 a0_0) ∧ w'.cell? ⟨w.heap.size, 1, none⟩ = some (.int .i64 (kk : Int)) ∧ w'.cell? ⟨w.heap.size, 2, none⟩ = some (.int .i64 (M : Int))) (ds := []) (bA 13 0) kr_ rfl rfl ⟨q0, q1, q2⟩ (fun hHeld => ?_)
 refine pu_ 1 22 2 ?_
 refine pu_ 2 23 6 ?_
 refine pu_ 4 25 22 ?_
 refine tk_ 0 21 23 hHeld ?_
 refine tk_ 3 24 31 hHeld ?_
 refine tk_ 5 26 63 hHeld ?_
 refine pu_ 6 27 127 ?_
 refine one_ (i := 7) (N := some 28) (bA 13 255) rfl rfl kr_ (by decide) (fun K hK => ?_)
 refine goes_ Tryz.func19 kr_ rfl #[.agg #[.int .i64 a0_0, .int .i64 (kk : Int), .int .i64 (M : Int)], .slice A1 kk kk] (by rfl) rfl rfl am_ ?_
 with_reducible refine (HPA.out).mono ?_
 rintro e w2 ⟨v, rfl, p3, p4⟩
 refine ⟨_, rfl, ?_⟩
 have P3 := Aside0.mk p3
 have HB2 := Aside0.mk (HB1.out.drew.trans (p4.mono HB1.out.drew.size))
 have HX2 := Aside0.mk (aez (show w1.drew.heap[w.heap.size]? = _ from HX1.out) p4)
 clear p3 p4
 refine hK.out _ _ ⟨(aaz HX2.out 0).trans rfl, (aaz HX2.out 1).trans rfl, (aaz HX2.out 2).trans rfl⟩ (fun hHeld => ?_)
 clear hK K
 refine norm_ (a' := ?_) ?_ ?_
 rotate_left
 ·show Act.put _ (some 28) _ = _
  simp only [Act.put, List.setIfInBounds_toArray, List.set_cons_zero, List.set_cons_succ, i64_w, i32_w]
  rfl
 refine pu_ 8 20 511 ?_
 refine pu_ 9 29 1023 ?_
 refine pu_ 10 30 2047 ?_
 refine pu_ 11 5 4095 ?_
 refine pu_ 12 6 8191 ?_
 refine done_ kr_ ?_
 have q1 : w2.cell? ⟨w.heap.size, 1, none⟩ = some (.int .i64 (kk : Int)) := hHeld.2.1
 obtain ⟨A2, c2, rfl, l2, C2⟩ := Kd.S_reads P3.out
 by_cases ht : t2 = 0
 ·subst ht
  have HEQ := Aside0.mk (show Calls Tryz.prog 53 #[.slice A2 t1.length c2, .slice A4 n4 c4, .func (.func 54) #[] #[]] w2 _ from by
   have h1 := eqFunc.calls k A2 A4 c2 c4 t1 (l1.drop kk) r w2 C2 (by have := Kd.arz HDR.out (HB2.out); rw [HDL.out]; exact this) (HE.out rfl)
   rw [HDL.out] at h1
   exact h1)
  generalize t1.length = m1 at HEQ l2 ⊢
  clear C2 P3 HPA
  go_wp2_with fail
  refine HEQ.out.mono ?_
  rintro e w3 ⟨rfl, q3⟩
  have HB3 := Aside0.mk (HB2.out.trans (q3.mono HB2.out.size))
  clear q3
  go_wp2
  go_ret
  exact ⟨by cases r <;> rfl, HB3.out⟩
 ·have hne2 : (t2 == 0) = false := by simpa using ht
  have HRR := Aside0.mk (HE2.out ht)
  generalize t1.length = m1 at l2 ⊢
  clear C2 P3 HPA
  go_wp2
  go_ret
  exact ⟨by rw [HRR.out]; rfl, HB2.out⟩
theorem aNz.calls (k : Nat) (a0_0 : Int) (a0_1 : Int) (a0_2 : Int) (A1 : Option Addr) (c1 : Nat) (l1 : List (List Int)) (r : Bool) (w : World) (hr1 : Kd.C (Kd.slice 5 (Kd.int .u8)) w A1 l1.length l1) (hc1 : l1.length ≤ c1) (h : aNz.f k a0_0 a0_1 a0_2 l1 = some r) :
 Calls Tryz.prog 22 #[.agg #[.int .i64 a0_0, .int .i64 a0_1, .int .i64 a0_2], .slice A1 l1.length c1] w fun e w' => e = .returned (.bool r) ∧ Below w.heap.size w w' := by
 unfold aNz.f at h
 obtain ⟨b, hb⟩ := drz a0_0 a0_1 a0_2
 rw [hb] at h
 simp only [Option.bind_some] at h
 cases b with
 | false =>
  rw [if_neg (by decide)] at h
  cases h
  exact aNz.nomay a0_0 a0_1 a0_2 A1 c1 l1.length w hb
 | true =>
  rw [if_pos rfl] at h
  obtain ⟨p1, p2, k1, k2, m1, m2⟩ := bjz hb
  by_cases hl : (l1.length : Int) = a0_1 + a0_2
  ·rw [if_pos hl] at h
   obtain ⟨kk, rfl⟩ : ∃ kk : Nat, a0_1 = (kk : Int) := ⟨a0_1.toNat, by omega⟩
   obtain ⟨M, rfl⟩ : ∃ M : Nat, a0_2 = (M : Int) := ⟨a0_2.toNat, by omega⟩
   rw [Int.toNat_natCast] at h
   obtain ⟨⟨t1, t2⟩, hp, h⟩ := Option.bind_eq_some_iff.1 h
   exact aNz.go k a0_0 kk M l1.length A1 c1 l1 t1 t2 r w hb (by omega) (by omega) rfl hc1 hr1 hp (fun ht => by dsimp only at h; rwa [if_pos ht] at h) (fun ht => by dsimp only at h; rw [if_neg ht] at h; cases h; rfl)
  ·rw [if_neg hl] at h
   cases h
   exact aNz.nolen a0_0 a0_1 a0_2 A1 c1 l1.length w hb (by omega) hl
end Go.Proofs.YtpdakdcmahlghaaGreat.XCo
end
section
namespace Go.Proofs.YtpdakdcmahlghaaGreat.XCo
open Go.RowKit Go.Proofs.YtpdakdcmahlghaaGreatW.PrintWords Go.Proofs.YtpdakdcmahlghaaGreatW.PrintLast Go.Proofs.YtpdakdcmahlghaaGreatW.PrintMore
attribute [local go_sem] aDz aEz aLz aMz auz avz aFz aGz
set_option linter.unusedVariables false
set_option linter.unusedSimpArgs false
section
variable {F : Fence} {n : Nat} {P : Program}
def SeqN {α : Type} (F : Fence) (n : Nat) (P : Program) (g : Nat) (lb : Array Value) (encs : α → Array Value) (Hd : Nat → α → World → Prop) (Kp : World → World → Prop) (S : List α → Prop) (M : Nat) (w : World) : Prop :=
 ∀ (l : Nat) (J : List α → World → Prop) (W : World), Below w.heap.size w W → (∀ s A B, J s A → A.grownBy B none → J s B) →
  (∀ pre x W1, J pre W1 → Hd pre.length x W1 → pre.length < M → YieldAt F (n - 1) P l (encs x) W1 fun e W' => e = .returned (.bool true) ∧ J (pre ++ [x]) W' ∧ Kp W1 W') →
  J [] W → CallsIn F n P g (#[.func (.yield l) #[] #[]] ++ lb) W fun e W' => (∃ v, e = .returned v) ∧ ∃ xs, S xs ∧ J xs W'
def plainPostN {α : Type} (B : Nat) (Kp : World → World → Prop) (I : List α → World → Prop) (xs : List α) (W : World) : Exit → Act → World → Prop
 | .normal, _, W' => KeepsFrom B W W' ∧ Kp W W' ∧ I xs W'
 | _, _, _ => False
theorem wpIn_range_nth {α : Type} {g : Operand} {ps : Array Tmp} {assign body : Code} {Q : Exit → Act → World → Prop} {a : Act} {w : World}
  (hro : F.round = none) (h1 : 1 ≤ n) {gf : Nat} {lb : Array Value} (hg : a.eval g = .func (.func gf) #[] lb) (hFg : F.fn gf) (eg : ∀ args w, (callFunc gf args).run P w = .ok (.enter gf args) w)
  {encs : α → Array Value} {Hd : Nat → α → World → Prop} {Kp : World → World → Prop} {S : List α → Prop} {M : Nat} {w0 : World} (hseq : SeqN F (n - 1) P gf lb encs Hd Kp S M w0)
  (hKt : ∀ {A B C : World}, Kp A B → Kp B C → Kp A C) (hKb : ∀ (W : World) (l : Nat) (o o' : Obj), w.heap.size ≤ l → W.heap[l]? = some o → o.isCells = false → Kp W (W.putObj l o')) (hb0 : Below w0.heap.size w0 w) (hps : ∀ x, (encs x).size = ps.size)
  (I : List α → World → Prop) (hI : OwnFrom w.heap.size I) (hHd : ∀ m x, OwnFrom w.heap.size (fun (_ : Unit) W => Hd m x W)) (h0 : I [] w) (a₁ : α → Act)
  (hassign : ∀ (l : Nat) (x : α) (W : World) (K : Act → World → Prop), K (a₁ x) W →
   assign.wpIn (F.inRound l) (n - 1 - 1) P (Exit.then K (fun _ _ _ => False)) { tmps := (ps.zip (encs x)).foldl (fun t (p, v) => t.setIfInBounds p v) a.tmps, defers := [] } W)
  (hbody : ∀ (l : Nat) (pre : List α) (x : α) (W : World), I pre W → Hd pre.length x W → pre.length < M → body.wpIn (F.inRound l) (n - 1 - 1) P (plainPostN w.heap.size Kp I (pre ++ [x]) W) (a₁ x) W)
  (hdone : ∀ (D : Nat) (xs : List α) (W : World), w.heap.size ≤ D → S xs → I xs W → W.heap[D]? = some (.deferred (some [])) → Q .normal { a with defers := { target := .collected D, args := #[] } :: a.defers } W) :
  (Code.rangeFunc g ps assign body).wpIn F n P Q a w := by
 refine wpIn_rangeFunc fun fn hfn => ?_
 rw [hro]
 obtain ⟨L, hL⟩ : ∃ L : LoopState → Option Code → Loop, L = fun st pe => { state := st, pending := pe, fn, tmps := a.tmps, params := ps, assign, body, defers := w.heap.size } := ⟨_, rfl⟩
 obtain ⟨V, hV⟩ : ∃ V, (w.alloc (.deferred (some []))).alloc (.loop (L .ready none)) = V := ⟨_, rfl⟩
 have vl : V.heap[w.heap.size + 1]? = some (.loop (L .ready none)) := by
  rw [← hV]; have := World.alloc_heap_new (w.alloc (.deferred (some []))) (.loop (L .ready none)); rwa [World.size_alloc] at this
 have vd : V.heap[w.heap.size]? = some (.deferred (some [])) := by
  rw [← hV]; exact (Below.heap_alloc _ _ _ (by simp)).trans (World.alloc_heap_new w _)
 refine ⟨w.heap.size + 1, [{ target := .collected w.heap.size, args := #[] }], V, { target := .fn (.func gf) lb, args := #[.func (.yield (w.heap.size + 1)) #[] #[]] }, V, gf,
  #[.func (.yield (w.heap.size + 1)) #[] #[]] ++ lb, V, by rw [← hV, hL]; exact run_enterLoop_outer _ _ _ _ _, by simp only [resolve, hg]; simp [go_sem], ?_, by simp [invoke, go_sem, eg], fun _ => h1, ?_⟩
 ·intro f' hf'
  simp [Target.leads] at hf'
  subst hf'
  exact hFg
 refine (hseq (w.heap.size + 1) (fun pre W => (I pre W ∧ w.heap.size + 1 < W.heap.size) ∧ W.heap[w.heap.size + 1]? = some (.loop (L .ready none)) ∧ W.heap[w.heap.size]? = some (.deferred (some []))) V ?_ ?_ ?_ ?_).mono ?_
 ·rw [← hV]; exact hb0.trans ((((Below.refl _ w).alloc (Nat.le_refl _) _).alloc (by simp) _).mono hb0.size)
 ·rintro s A B ⟨⟨i1, i2⟩, i3, i4⟩ hgr
  exact ⟨⟨hI s A B none i1 hgr (fun r e => by cases e), Nat.lt_of_lt_of_le i2 hgr.size⟩, (hgr.block _ i2 (by simp)).trans i3, (hgr.block _ (by omega) (by simp)).trans i4⟩
 ·rintro pre x W ⟨⟨i1, i2⟩, i3, i4⟩ hx hlen
  have hy := run_yield (P := P) (args := encs x) i3 (by rw [hL]; exact hps x)
  rw [hL] at hy
  refine ⟨fn, _, assign, body, hy, roundIn_of_wpIn hfn (hassign _ x W _ ?_)⟩
  refine ⟨_, run_beginRound i3 (by rw [hL]), ?_⟩
  have l2 : (W.putObj (w.heap.size + 1) (.loop { L .ready none with state := .busy })).heap[w.heap.size + 1]? = some (.loop { L .ready none with state := .busy }) := World.putObj_heap_same i2
  have d2 : (W.putObj (w.heap.size + 1) (.loop { L .ready none with state := .busy })).heap[w.heap.size]? = some (.deferred (some [])) := (World.putObj_heap_other (by omega)).trans i4
  have k2 : Kp W (W.putObj (w.heap.size + 1) (.loop { L .ready none with state := .busy })) := hKb _ _ _ _ (by omega) i3 rfl
  refine wpIn_mono (hbody _ pre x _ (hI.putObj _ i1 (by omega) i3 rfl) ((hHd _ x).putObj (s := ()) _ hx (by omega) i3 rfl) hlen) ?_
  rintro e a3 W3 hp
  cases e with
  | normal =>
   obtain ⟨q1, q2, q3⟩ := hp
   have l3 := q1.same _ _ (by omega) l2 rfl
   have d3 := q1.same _ _ (Nat.le_refl _) d2 rfl
   have hr := run_endRound (P := P) none l3
   have hlt := (Array.getElem?_eq_some_iff.1 l3).1
   refine ⟨_, _, hr, rfl, ⟨⟨hI.putObj _ q3 (by omega) l3 rfl, Nat.lt_of_lt_of_le hlt (grownBy_putObj' _ _ _).size⟩, ?_, (World.putObj_heap_other (by omega)).trans d3⟩, hKt (hKt k2 q2) (hKb _ _ _ _ (by omega) l3 rfl)⟩
   rw [World.putObj_heap_same hlt, hL]
   rfl
  | ret => exact hp.elim
  | exit id => exact hp.elim
  | goto t => exact hp.elim
  | panic ch => exact hp.elim
  | outgrown => exact hp.elim
 ·refine ⟨⟨?_, ?_⟩, vl, vd⟩
  ·rw [← hV]; exact hI.alloc _ (hI.alloc _ h0)
  ·rw [← hV]; simp
 ·rintro e W2 ⟨⟨v, rfl⟩, xs, hS, ⟨i1, i2⟩, i3, i4⟩
  exact ⟨none, _, by have := run_endLoop (P := P) i3 (by rw [hL]; simp); rw [hL] at this; exact this, hdone _ xs _ (Nat.le_refl _) hS (hI.putObj _ i1 (by omega) i3 rfl) ((World.putObj_heap_other (by omega)).trans i4)⟩
end
end Go.Proofs.YtpdakdcmahlghaaGreat.XCo
end
section
namespace Go.Proofs.YtpdakdcmahlghaaGreat.XCo
open Go.RowKit Go.Proofs.YtpdakdcmahlghaaGreatW.PrintWords Go.Proofs.YtpdakdcmahlghaaGreatW.PrintLast Go.Proofs.YtpdakdcmahlghaaGreatW.PrintMore
attribute [local go_sem] aDz aEz aLz aMz auz avz aFz aGz
set_option linter.unusedVariables false
set_option linter.unusedSimpArgs false
attribute [local go_sem] Oper.semAt_some
def four4 (n : Int) : List Int := [n / 256 / 256 / 256 % 256, n / 256 / 256 % 256, n / 256 % 256, n % 256]
def laidL (ahead : Nat) (b : List Int) : List Int := (four4 (b.length : Int)).drop (4 - ahead) ++ b
def KpC (ex : Nat → Prop) (W W' : World) : Prop := W.heap.size ≤ W'.heap.size ∧ ∀ (k : Nat) (o : Obj), W.heap[k]? = some o → o.isCells = true → ¬ ex k → W'.heap[k]? = some o
theorem KpC.trans {ex : Nat → Prop} {A B C : World} (h : KpC ex A B) (k : KpC ex B C) : KpC ex A C := ⟨Nat.le_trans h.1 k.1, fun i o hi ho he => k.2 i o (h.2 i o hi ho he) ho he⟩
theorem KpC.refl (ex : Nat → Prop) (A : World) : KpC ex A A := ⟨Nat.le_refl _, fun _ _ h _ _ => h⟩
theorem KpC.of_below {ex : Nat → Prop} {A B : World} (h : Below A.heap.size A B) : KpC ex A B := ⟨h.size, fun k o hk _ _ => (h.block k (apz hk)).trans hk⟩
def ItN (all : List Int) (m : Nat) (x : Nat × Int) (_ : World) : Prop := x.1 = m ∧ all[m]? = some x.2
set_option maxRecDepth 100000 in
theorem laid.calls (ahead : Int) (A : Option Addr) (n c : Nat) (W : World) : Calls Tryz.prog 90 #[.int .i64 ahead, .slice A n c] W fun e w' => e = .returned (.func (.func 134) #[] #[.pointer (some ⟨W.heap.size + 1, 0, none⟩), .pointer (some ⟨W.heap.size, 0, none⟩)]) ∧ w' = (W.alloc (.cells #[.int .i64 ahead] 3)).alloc (.cells #[.slice A n c] 34) := by
 have hmf : ∀ (fn : Fn) (first cap : Array Value) (w : World), (Instr.makeFunc fn first cap).run Tryz.prog w = .ok (.func fn first cap) w := fun _ _ _ _ => rfl
 go_enter Tryz.func90, Tryz.ntmps90
 go_wp2
 go_ret
 exact ⟨by simp, rfl⟩
theorem C_numsK {k : IntKind} {w : World} {g : Nat} {t : TypeId} {xs : List Int} (h : w.heap[g]? = some (.cells (nums k xs).toArray t (0, 0))) (hl : xs.length ≤ 9223372036854775807) : Kd.C (Kd.int k) w (some ⟨g, 0, none⟩) xs.length xs := by
 refine ⟨rfl, hl, fun _ => ⟨_, rfl, fun j p hp => ⟨[.int k p], rfl, rfl, fun i u hu => ?_⟩⟩⟩
 obtain ⟨hj, rfl⟩ := List.getElem?_eq_some_iff.1 hp
 cases i with
 | succ i => simp at hu
 | zero =>
  obtain rfl : Value.int k xs[j] = u := by simpa using hu
  have e : (⟨g, 0, none⟩ : Addr).add (j * (Kd.int k).sz + 0) = ⟨g, j, none⟩ := by
   show (⟨g, 0, none⟩ : Addr).add (j * 1 + 0) = _
   unfold Addr.add
   split <;> simp_all
  rw [e, aaz h j]
  simp [nums, hj]
theorem C_twoB {w : World} {g cx cy : Nat} {X Y : Option Addr} {x y : List Int} (h : w.heap[g]? = some (.cells #[.slice X x.length cx, .slice Y y.length cy] 34 (0, 0))) (h1 : x.length ≤ cx) (h2 : y.length ≤ cy) (hx : Kd.C (Kd.int .u8) w X x.length x) (hy : Kd.C (Kd.int .u8) w Y y.length y) : Kd.C (Kd.slice 5 (Kd.int .u8)) w (some ⟨g, 0, none⟩) [x, y].length [x, y] := by
 have ad : ∀ j, (⟨g, 0, none⟩ : Addr).add (j * 1 + 0) = ⟨g, j, none⟩ := fun j => by
  unfold Addr.add
  split <;> simp_all
 refine ⟨rfl, by simp, fun _ => ⟨_, rfl, fun j p hp => ?_⟩⟩
 match j, hp with
 | 0, hp =>
  obtain rfl : x = p := by simpa using hp
  refine ⟨[.slice X x.length cx], rfl, ⟨X, cx, rfl, h1, hx⟩, fun i u hu => ?_⟩
  cases i with
  | succ i => simp at hu
  | zero =>
   obtain rfl : Value.slice X x.length cx = u := by simpa using hu
   rw [show (⟨g, 0, none⟩ : Addr).add (0 * (Kd.slice 5 (Kd.int .u8)).sz + 0) = ⟨g, 0, none⟩ from ad 0, aaz h 0]; rfl
 | 1, hp =>
  obtain rfl : y = p := by simpa using hp
  refine ⟨[.slice Y y.length cy], rfl, ⟨Y, cy, rfl, h2, hy⟩, fun i u hu => ?_⟩
  cases i with
  | succ i => simp at hu
  | zero =>
   obtain rfl : Value.slice Y y.length cy = u := by simpa using hu
   rw [show (⟨g, 0, none⟩ : Addr).add (1 * (Kd.slice 5 (Kd.int .u8)).sz + 0) = ⟨g, 1, none⟩ from ad 1, aaz h 1]; rfl
 | j + 2, hp => simp at hp
set_option maxRecDepth 100000 in
set_option maxHeartbeats 4000000 in
theorem laid1_in0 (l b1 b2 n c : Nat) (ex : Nat → Prop) (A : Option Addr) (b : List Int) (W : World) (J : List (Nat × Int) → World → Prop)
  (hb : Kd.C (Kd.int .u8) W A b.length b) (hn : b.length = n) (hnc : n ≤ c) (hnn : n ≤ 100000) (hB1 : W.heap[b1]? = some (.cells #[.int .i64 0] 3 (0, 0))) (hB2 : W.heap[b2]? = some (.cells #[.slice A n c] 34 (0, 0))) (hex : ∀ k, ex k → k < W.heap.size) (hJ : ∀ s X Y, J s X → X.grownBy Y none → J s Y)
  (hY : ∀ pre x W1, J pre W1 → ItN (laidL 0 b) pre.length x W1 → pre.length < (laidL 0 b).length → YieldAt Fence.wide (7 - 1) Tryz.prog l #[.int .i64 (x.1 : Int), .int .u8 x.2] W1 fun e W' => e = .returned (.bool true) ∧ J (pre ++ [x]) W' ∧ KpC ex W1 W') (hJ0 : J [] W) :
  CallsIn Fence.wide 7 Tryz.prog 134 #[.func (.yield l) #[] #[], .pointer (some ⟨b2, 0, none⟩), .pointer (some ⟨b1, 0, none⟩)] W fun e W' => (∃ v, e = .returned v) ∧ ∃ xs : List (Nat × Int), xs.map Prod.snd = laidL 0 b ∧ xs.length = (laidL 0 b).length ∧ J xs W' := by
 obtain ⟨all, hall⟩ : ∃ all, laidL 0 b = all := ⟨_, rfl⟩
 have HAL0 := Aside0.mk hall
 rw [hall] at hY ⊢
 clear hall
 have hc1 : W.cell? ⟨b1, 0, none⟩ = some (.int .i64 0) := (aaz hB1 0).trans rfl
 have hc2 : W.cell? ⟨b2, 0, none⟩ = some (.slice A n c) := (aaz hB2 0).trans rfl
 have HB := Aside0.mk hb
 have HN := Aside0.mk hn
 have HEX := Aside0.mk hex
 have HJ := Aside0.mk hJ
 have HY := Aside0.mk hY
 have HJ0 := Aside0.mk hJ0
 have HB1 := Aside0.mk hB1
 have HB2 := Aside0.mk hB2
 have n0 : (0 : Int) ≤ (n : Int) := by omega
 have d1 : (0 : Int) ≤ (n : Int) / 256 := by omega
 have d2 : (0 : Int) ≤ (n : Int) / 256 / 256 := by omega
 have d3 : (0 : Int) ≤ (n : Int) / 256 / 256 / 256 := by omega
 clear hb hn hex hJ hY hJ0 hB1 hB2
 refine callsIn_of_wp Tryz.func134 rfl trivial ?_ rfl
 simp only [Tryz.ntmps134, List.size_toArray, List.length_cons, List.length_nil, Nat.reduceAdd, Nat.reduceSub, Array.replicate_succ, Array.replicate_zero, List.push_toArray, List.append_toArray, List.nil_append, List.cons_append]
 gi_wp2
 have hf4 : four4 (n : Int) = [(n : Int) / 256 / 256 / 256, (n : Int) / 256 / 256, (n : Int) / 256 % 256, (n : Int) % 256] := by unfold four4; simp; omega
 have HF4 := Aside0.mk hf4
 generalize (n : Int) / 256 / 256 / 256 = f0 at *
 generalize (n : Int) / 256 / 256 = f1 at *
 generalize (n : Int) / 256 % 256 = f2 at *
 generalize (n : Int) % 256 = f3 at *
 generalize (n : Int) / 256 = f5 at *
 have HFB := Aside0.mk (heap_alloc_new W (.cells #[.int .u8 f0, .int .u8 f1, .int .u8 f2, .int .u8 f3] 43))
 have HBW := Aside0.mk (abz (Below.refl W.heap.size W) (.cells #[.int .u8 f0, .int .u8 f1, .int .u8 f2, .int .u8 f3] 43))
 have hz1 := World.size_alloc W (.cells #[.int .u8 f0, .int .u8 f1, .int .u8 f2, .int .u8 f3] 43)
 have HSZ := Aside0.mk hz1
 clear hf4 d1 d2 d3 hz1
 generalize W.alloc (.cells #[.int .u8 f0, .int .u8 f1, .int .u8 f2, .int .u8 f3] 43) = w1 at HFB HBW HSZ ⊢
 obtain ⟨fb, hfb⟩ : ∃ fb, fb = W.heap.size := ⟨_, rfl⟩
 have HFE := Aside0.mk hfb
 rw [← hfb] at HFB ⊢
 clear hfb
 have e1 : w1.cell? ⟨b1, 0, none⟩ = some (.int .i64 0) := (aaz (aez HB1.out HBW.out) 0).trans rfl
 have e2 : w1.cell? ⟨b2, 0, none⟩ = some (.slice A n c) := (aaz (aez HB2.out HBW.out) 0).trans rfl
 have hw4 : wrap64 4 = 4 := by unfold wrap64; omega
 have hw0 : wrap64 0 = 0 := by unfold wrap64; omega
 clear hc1 hc2
 have HALL := Aside0.mk (show [[], b].flatten = all by
  rw [← HAL0.out]
  unfold laidL
  rw [HN.out, HF4.out]
  simp)
 have HALN := Aside0.mk (show all.length = n + 0 by rw [← HALL.out]; simp [HN.out]; try omega)
 have hcc := C_twoB (w := (w1.alloc (.cells #[.slice (some ⟨fb, 0, none⟩) 0 0, .slice A n c] 34)).drew) (g := w1.heap.size) (x := []) (y := b) (X := some ⟨fb, 0, none⟩) (cx := 0) (Y := A) (cy := c) (by rw [HN.out]; exact heap_alloc_new _ _) (by simp) (by rw [HN.out]; exact hnc) ⟨rfl, by simp, fun h => absurd h (by decide)⟩ (Kd.b4z (Kd.arz (Kd.arz HB.out HBW.out) (abz (Below.refl _ _) _)) 1)
 have HCON := Aside0.mk (concat_b.calls (some ⟨w1.heap.size, 0, none⟩) 2 [[], b] (w1.alloc (.cells #[.slice (some ⟨fb, 0, none⟩) 0 0, .slice A n c] 34)).drew hcc (by simp) (by rw [HALL.out, HALN.out]; omega))
 rw [HALL.out, show [[], b].length = 2 from rfl] at HCON
 clear hcc
 refine (wpIn_wide (n := 7)).2 ?_
 refine bdz (n := 8) (S := fun w' => w'.cell? ⟨b1, 0, none⟩ = some (.int .i64 0) ∧ w'.cell? ⟨b2, 0, none⟩ = some (.slice A n c)) (ds := [5]) (bA 8 0) kr_ rfl rfl ⟨e1, e2⟩ (fun hHeld => ?_)
 refine pu_ 7 32 128 ?_
 refine tk_ 0 25 129 hHeld ?_
 refine pu_ 1 26 131 ?_
 refine pu_ 2 27 135 ?_
 refine tk_ 3 28 143 hHeld ?_
 refine one_ (i := 4) (N := some 29) (bA 8 159) rfl rfl kr_ (by decide) (fun K hK => ?_)
 refine caz (w1 := ?_) (v := ?_) (by rfl) rfl ?_ ?_
 rotate_left 2
 ·go_simp
  constructor
  ·rfl
  ·rfl
 refine hK.out _ _ ⟨(World.cell?_alloc_past _ _ _ (World.block_lt_of_cell? _ _ e1)).trans e1, (World.cell?_alloc_past _ _ _ (World.block_lt_of_cell? _ _ e2)).trans e2⟩ (fun hHeld => ?_)
 clear hK K
 refine norm_ (a' := ?_) ?_ ?_
 rotate_left
 ·show Act.put _ (some 29) _ = _
  simp only [Act.put, List.setIfInBounds_toArray, List.set_cons_zero, List.set_cons_succ, i64_w, i32_w]
  rfl
 refine last_ (i := 5) (N := some 30) (bA 8 191) rfl rfl kr_ (by decide) (fun K hK => ?_)
 refine goes_ Tryz.func135 kr_ rfl #[.slice (some ⟨w1.heap.size, 0, none⟩) 2 2] (by rfl) rfl rfl am_ ?_
 with_reducible refine (HCON.out).mono ?_
 rintro e w4 ⟨v4, rfl, r1, r2⟩
 refine ⟨_, rfl, ?_⟩
 obtain ⟨va, vc, rfl⟩ := Kd.aWz r1
 have R1 := Aside0.mk r1
 have R2 := Aside0.mk r2
 clear r1 r2
 refine hK.out _ _ ?_
 clear hK K
 refine norm_ (a' := ?_) ?_ ?_
 rotate_left
 ·show Act.put _ (some 30) _ = _
  simp only [Act.put, List.setIfInBounds_toArray, List.set_cons_zero, List.set_cons_succ, i64_w, i32_w]
  rfl
 refine pu_ 6 31 255 ?_
 refine done_ kr_ ?_
 have HW4 := Aside0.mk (show Below W.heap.size W w4 from HBW.out.trans ((show Below w1.heap.size w1 w4 from (show Below w1.heap.size w1 (w1.alloc (.cells #[.slice (some ⟨fb, 0, none⟩) 0 0, .slice A n c] 34)).drew from a3z (abz (Below.refl _ _) _)).trans (R2.out.mono (by simp))).mono HBW.out.size))
 have hR1 := R1.out
 have HR4 := Aside0.mk (show ∀ w5, KpC ex w4 w5 → Kd.C (Kd.int .u8) w5 va all.length all from fun w5 hk => (Kd.aQz (Kd.bMz (Kd.cLz rfl hR1) (fun k hk2 => by
  obtain ⟨cells, hc⟩ := Kd.R_typed hR1 k hk2.symm
  have h1 := Kd.cuz hR1 k hk2.symm
  exact (hk.2 k _ hc rfl (fun e => by have := HEX.out k e; have h3 := HBW.out.size; simp at h1; omega)).trans hc.symm))).2.2)
 have HJ4 := Aside0.mk (show J [] w4 from HJ.out _ W w4 HJ0.out ⟨HW4.out.os, HW4.out.tape, HW4.out.output, HW4.out.size, fun i hi _ => HW4.out.block i hi⟩)
 obtain ⟨N, hN⟩ : ∃ N, all.length = N := ⟨_, rfl⟩
 have HNN := Aside0.mk hN
 have hNb : N ≤ 1000000 := by have := HALN.out; omega
 rw [hN] at HR4 HY ⊢
 clear hR1 hN e1 e2 hw4 hw0 HCON HALL HF4
 gi_wp2
 gi_loopw [32] (fun iv wr => ∃ (k : Nat) (pre : List (Nat × Int)), k ≤ N ∧ iv = .int .i64 (k : Int) ∧ Aside0 (pre.map Prod.snd = all.take k) ∧ Aside0 (J pre wr) ∧ Aside0 (KpC ex w4 wr)) (fun iv _ => N - (intOf iv).toNat)
 case atStart => exact ⟨0, [], Nat.zero_le _, rfl, ⟨rfl⟩, HJ4, ⟨KpC.refl _ _⟩⟩
 clear HJ4
 obtain ⟨w5, rfl⟩ : ∃ w', w' = wr := ⟨_, rfl⟩
 obtain ⟨k, pre, hk, rfl, HP, HJP, HK⟩ := hrel
 by_cases hlt : k < N
 ·obtain ⟨x, hx⟩ : ∃ x, all[k]? = some x := ⟨_, List.getElem?_eq_getElem (by have := HNN.out; omega)⟩
  obtain ⟨ad, rfl, hcx⟩ := buz (HNN.out.symm ▸ HR4.out w5 HK.out) k x hx
  have hpl : pre.length = k := by have := congrArg List.length HP.out; simp at this; have := HNN.out; omega
  obtain ⟨fn, tmps, assign, body, hy, hR⟩ := HY.out pre (k, x) w5 HJP.out (by rw [hpl]; exact ⟨rfl, hx⟩) (by omega)
  have HRR := Aside0.mk hR
  have HP2 := Aside0.mk (show (pre ++ [(k, x)]).map Prod.snd = all.take (k + 1) by rw [List.map_append, HP.out, List.take_add_one, hx]; rfl)
  have k1 : (0 : Int) ≤ (k : Int) := by omega
  have k2 : (k : Int) < (N : Int) := by omega
  dsimp only at hy
  clear hR hx hpl
  gi_wp2
  refine HRR.out.mono ?_
  rintro e w6 ⟨rfl, hJ3, hk3⟩
  have HJ3 := Aside0.mk hJ3
  have HK3 := Aside0.mk (HK.out.trans hk3)
  clear hy hJ3 hk3 hcx
  gi_wp2
  go_roundw
  case rel => exact ⟨k + 1, pre ++ [(k, x)], by omega, by go_num, HP2, HJ3, HK3⟩
  case measure => simp [intOf]; omega
 ·obtain rfl : k = N := by omega
  have HE := Aside0.mk (show pre.map Prod.snd = all by rw [HP.out, List.take_of_length_le (by rw [HNN.out]; exact Nat.le_refl _)])
  gi_wp2
  go_end0
  exact ⟨⟨_, rfl⟩, pre, HE.out, by rw [← HE.out, List.length_map], HJP.out⟩
set_option maxRecDepth 100000 in
set_option maxHeartbeats 4000000 in
theorem laid1_in4 (l b1 b2 n c : Nat) (ex : Nat → Prop) (A : Option Addr) (b : List Int) (W : World) (J : List (Nat × Int) → World → Prop)
  (hb : Kd.C (Kd.int .u8) W A b.length b) (hn : b.length = n) (hnc : n ≤ c) (hnn : n ≤ 100000) (hB1 : W.heap[b1]? = some (.cells #[.int .i64 4] 3 (0, 0))) (hB2 : W.heap[b2]? = some (.cells #[.slice A n c] 34 (0, 0))) (hex : ∀ k, ex k → k < W.heap.size) (hJ : ∀ s X Y, J s X → X.grownBy Y none → J s Y)
  (hY : ∀ pre x W1, J pre W1 → ItN (laidL 4 b) pre.length x W1 → pre.length < (laidL 4 b).length → YieldAt Fence.wide (7 - 1) Tryz.prog l #[.int .i64 (x.1 : Int), .int .u8 x.2] W1 fun e W' => e = .returned (.bool true) ∧ J (pre ++ [x]) W' ∧ KpC ex W1 W') (hJ0 : J [] W) :
  CallsIn Fence.wide 7 Tryz.prog 134 #[.func (.yield l) #[] #[], .pointer (some ⟨b2, 0, none⟩), .pointer (some ⟨b1, 0, none⟩)] W fun e W' => (∃ v, e = .returned v) ∧ ∃ xs : List (Nat × Int), xs.map Prod.snd = laidL 4 b ∧ xs.length = (laidL 4 b).length ∧ J xs W' := by
 obtain ⟨all, hall⟩ : ∃ all, laidL 4 b = all := ⟨_, rfl⟩
 have HAL0 := Aside0.mk hall
 rw [hall] at hY ⊢
 clear hall
 have hc1 : W.cell? ⟨b1, 0, none⟩ = some (.int .i64 4) := (aaz hB1 0).trans rfl
 have hc2 : W.cell? ⟨b2, 0, none⟩ = some (.slice A n c) := (aaz hB2 0).trans rfl
 have HB := Aside0.mk hb
 have HN := Aside0.mk hn
 have HEX := Aside0.mk hex
 have HJ := Aside0.mk hJ
 have HY := Aside0.mk hY
 have HJ0 := Aside0.mk hJ0
 have HB1 := Aside0.mk hB1
 have HB2 := Aside0.mk hB2
 have n0 : (0 : Int) ≤ (n : Int) := by omega
 have d1 : (0 : Int) ≤ (n : Int) / 256 := by omega
 have d2 : (0 : Int) ≤ (n : Int) / 256 / 256 := by omega
 have d3 : (0 : Int) ≤ (n : Int) / 256 / 256 / 256 := by omega
 clear hb hn hex hJ hY hJ0 hB1 hB2
 refine callsIn_of_wp Tryz.func134 rfl trivial ?_ rfl
 simp only [Tryz.ntmps134, List.size_toArray, List.length_cons, List.length_nil, Nat.reduceAdd, Nat.reduceSub, Array.replicate_succ, Array.replicate_zero, List.push_toArray, List.append_toArray, List.nil_append, List.cons_append]
 gi_wp2
 have hf4 : four4 (n : Int) = [(n : Int) / 256 / 256 / 256, (n : Int) / 256 / 256, (n : Int) / 256 % 256, (n : Int) % 256] := by unfold four4; simp; omega
 have HF4 := Aside0.mk hf4
 generalize (n : Int) / 256 / 256 / 256 = f0 at *
 generalize (n : Int) / 256 / 256 = f1 at *
 generalize (n : Int) / 256 % 256 = f2 at *
 generalize (n : Int) % 256 = f3 at *
 generalize (n : Int) / 256 = f5 at *
 have HFB := Aside0.mk (heap_alloc_new W (.cells #[.int .u8 f0, .int .u8 f1, .int .u8 f2, .int .u8 f3] 43))
 have HBW := Aside0.mk (abz (Below.refl W.heap.size W) (.cells #[.int .u8 f0, .int .u8 f1, .int .u8 f2, .int .u8 f3] 43))
 have hz1 := World.size_alloc W (.cells #[.int .u8 f0, .int .u8 f1, .int .u8 f2, .int .u8 f3] 43)
 have HSZ := Aside0.mk hz1
 clear hf4 d1 d2 d3 hz1
 generalize W.alloc (.cells #[.int .u8 f0, .int .u8 f1, .int .u8 f2, .int .u8 f3] 43) = w1 at HFB HBW HSZ ⊢
 obtain ⟨fb, hfb⟩ : ∃ fb, fb = W.heap.size := ⟨_, rfl⟩
 have HFE := Aside0.mk hfb
 rw [← hfb] at HFB ⊢
 clear hfb
 have e1 : w1.cell? ⟨b1, 0, none⟩ = some (.int .i64 4) := (aaz (aez HB1.out HBW.out) 0).trans rfl
 have e2 : w1.cell? ⟨b2, 0, none⟩ = some (.slice A n c) := (aaz (aez HB2.out HBW.out) 0).trans rfl
 have hw4 : wrap64 4 = 4 := by unfold wrap64; omega
 have hw0 : wrap64 0 = 0 := by unfold wrap64; omega
 clear hc1 hc2
 have HALL := Aside0.mk (show [[f0, f1, f2, f3], b].flatten = all by
  rw [← HAL0.out]
  unfold laidL
  rw [HN.out, HF4.out]
  simp)
 have HALN := Aside0.mk (show all.length = n + 4 by rw [← HALL.out]; simp [HN.out]; try omega)
 have hcc := C_twoB (w := (w1.alloc (.cells #[.slice (some ⟨fb, 0, none⟩) 4 4, .slice A n c] 34)).drew) (g := w1.heap.size) (x := [f0, f1, f2, f3]) (y := b) (X := some ⟨fb, 0, none⟩) (cx := 4) (Y := A) (cy := c) (by rw [HN.out]; exact heap_alloc_new _ _) (by simp) (by rw [HN.out]; exact hnc) (C_numsK (k := .u8) (xs := [f0, f1, f2, f3]) (w := (w1.alloc (.cells #[.slice (some ⟨fb, 0, none⟩) 4 4, .slice A n c] 34)).drew) (aez HFB.out (a3z (abz (Below.refl _ _) _))) (by simp)) (Kd.b4z (Kd.arz (Kd.arz HB.out HBW.out) (abz (Below.refl _ _) _)) 1)
 have HCON := Aside0.mk (concat_b.calls (some ⟨w1.heap.size, 0, none⟩) 2 [[f0, f1, f2, f3], b] (w1.alloc (.cells #[.slice (some ⟨fb, 0, none⟩) 4 4, .slice A n c] 34)).drew hcc (by simp) (by rw [HALL.out, HALN.out]; omega))
 rw [HALL.out, show [[f0, f1, f2, f3], b].length = 2 from rfl] at HCON
 clear hcc
 refine (wpIn_wide (n := 7)).2 ?_
 refine bdz (n := 8) (S := fun w' => w'.cell? ⟨b1, 0, none⟩ = some (.int .i64 4) ∧ w'.cell? ⟨b2, 0, none⟩ = some (.slice A n c)) (ds := [5]) (bA 8 0) kr_ rfl rfl ⟨e1, e2⟩ (fun hHeld => ?_)
 refine pu_ 7 32 128 ?_
 refine tk_ 0 25 129 hHeld ?_
 refine pu_ 1 26 131 ?_
 refine pu_ 2 27 135 ?_
 refine tk_ 3 28 143 hHeld ?_
 refine one_ (i := 4) (N := some 29) (bA 8 159) rfl rfl kr_ (by decide) (fun K hK => ?_)
 refine caz (w1 := ?_) (v := ?_) (by rfl) rfl ?_ ?_
 rotate_left 2
 ·go_simp
  constructor
  ·rfl
  ·rfl
 refine hK.out _ _ ⟨(World.cell?_alloc_past _ _ _ (World.block_lt_of_cell? _ _ e1)).trans e1, (World.cell?_alloc_past _ _ _ (World.block_lt_of_cell? _ _ e2)).trans e2⟩ (fun hHeld => ?_)
 clear hK K
 refine norm_ (a' := ?_) ?_ ?_
 rotate_left
 ·show Act.put _ (some 29) _ = _
  simp only [Act.put, List.setIfInBounds_toArray, List.set_cons_zero, List.set_cons_succ, i64_w, i32_w]
  rfl
 refine last_ (i := 5) (N := some 30) (bA 8 191) rfl rfl kr_ (by decide) (fun K hK => ?_)
 refine goes_ Tryz.func135 kr_ rfl #[.slice (some ⟨w1.heap.size, 0, none⟩) 2 2] (by rfl) rfl rfl am_ ?_
 with_reducible refine (HCON.out).mono ?_
 rintro e w4 ⟨v4, rfl, r1, r2⟩
 refine ⟨_, rfl, ?_⟩
 obtain ⟨va, vc, rfl⟩ := Kd.aWz r1
 have R1 := Aside0.mk r1
 have R2 := Aside0.mk r2
 clear r1 r2
 refine hK.out _ _ ?_
 clear hK K
 refine norm_ (a' := ?_) ?_ ?_
 rotate_left
 ·show Act.put _ (some 30) _ = _
  simp only [Act.put, List.setIfInBounds_toArray, List.set_cons_zero, List.set_cons_succ, i64_w, i32_w]
  rfl
 refine pu_ 6 31 255 ?_
 refine done_ kr_ ?_
 have HW4 := Aside0.mk (show Below W.heap.size W w4 from HBW.out.trans ((show Below w1.heap.size w1 w4 from (show Below w1.heap.size w1 (w1.alloc (.cells #[.slice (some ⟨fb, 0, none⟩) 4 4, .slice A n c] 34)).drew from a3z (abz (Below.refl _ _) _)).trans (R2.out.mono (by simp))).mono HBW.out.size))
 have hR1 := R1.out
 have HR4 := Aside0.mk (show ∀ w5, KpC ex w4 w5 → Kd.C (Kd.int .u8) w5 va all.length all from fun w5 hk => (Kd.aQz (Kd.bMz (Kd.cLz rfl hR1) (fun k hk2 => by
  obtain ⟨cells, hc⟩ := Kd.R_typed hR1 k hk2.symm
  have h1 := Kd.cuz hR1 k hk2.symm
  exact (hk.2 k _ hc rfl (fun e => by have := HEX.out k e; have h3 := HBW.out.size; simp at h1; omega)).trans hc.symm))).2.2)
 have HJ4 := Aside0.mk (show J [] w4 from HJ.out _ W w4 HJ0.out ⟨HW4.out.os, HW4.out.tape, HW4.out.output, HW4.out.size, fun i hi _ => HW4.out.block i hi⟩)
 obtain ⟨N, hN⟩ : ∃ N, all.length = N := ⟨_, rfl⟩
 have HNN := Aside0.mk hN
 have hNb : N ≤ 1000000 := by have := HALN.out; omega
 rw [hN] at HR4 HY ⊢
 clear hR1 hN e1 e2 hw4 hw0 HCON HALL HF4
 gi_wp2
 gi_loopw [32] (fun iv wr => ∃ (k : Nat) (pre : List (Nat × Int)), k ≤ N ∧ iv = .int .i64 (k : Int) ∧ Aside0 (pre.map Prod.snd = all.take k) ∧ Aside0 (J pre wr) ∧ Aside0 (KpC ex w4 wr)) (fun iv _ => N - (intOf iv).toNat)
 case atStart => exact ⟨0, [], Nat.zero_le _, rfl, ⟨rfl⟩, HJ4, ⟨KpC.refl _ _⟩⟩
 clear HJ4
 obtain ⟨w5, rfl⟩ : ∃ w', w' = wr := ⟨_, rfl⟩
 obtain ⟨k, pre, hk, rfl, HP, HJP, HK⟩ := hrel
 by_cases hlt : k < N
 ·obtain ⟨x, hx⟩ : ∃ x, all[k]? = some x := ⟨_, List.getElem?_eq_getElem (by have := HNN.out; omega)⟩
  obtain ⟨ad, rfl, hcx⟩ := buz (HNN.out.symm ▸ HR4.out w5 HK.out) k x hx
  have hpl : pre.length = k := by have := congrArg List.length HP.out; simp at this; have := HNN.out; omega
  obtain ⟨fn, tmps, assign, body, hy, hR⟩ := HY.out pre (k, x) w5 HJP.out (by rw [hpl]; exact ⟨rfl, hx⟩) (by omega)
  have HRR := Aside0.mk hR
  have HP2 := Aside0.mk (show (pre ++ [(k, x)]).map Prod.snd = all.take (k + 1) by rw [List.map_append, HP.out, List.take_add_one, hx]; rfl)
  have k1 : (0 : Int) ≤ (k : Int) := by omega
  have k2 : (k : Int) < (N : Int) := by omega
  dsimp only at hy
  clear hR hx hpl
  gi_wp2
  refine HRR.out.mono ?_
  rintro e w6 ⟨rfl, hJ3, hk3⟩
  have HJ3 := Aside0.mk hJ3
  have HK3 := Aside0.mk (HK.out.trans hk3)
  clear hy hJ3 hk3 hcx
  gi_wp2
  go_roundw
  case rel => exact ⟨k + 1, pre ++ [(k, x)], by omega, by go_num, HP2, HJ3, HK3⟩
  case measure => simp [intOf]; omega
 ·obtain rfl : k = N := by omega
  have HE := Aside0.mk (show pre.map Prod.snd = all by rw [HP.out, List.take_of_length_le (by rw [HNN.out]; exact Nat.le_refl _)])
  gi_wp2
  go_end0
  exact ⟨⟨_, rfl⟩, pre, HE.out, by rw [← HE.out, List.length_map], HJP.out⟩
theorem laid_seq (ahead b1 b2 n c : Nat) (hah : ahead = 0 ∨ ahead = 4) (ex : Nat → Prop) (A : Option Addr) (b : List Int) (w : World)
  (hb : Kd.C (Kd.int .u8) w A b.length b) (hn : b.length = n) (hnc : n ≤ c) (hnn : n ≤ 100000) (hB1 : w.heap[b1]? = some (.cells #[.int .i64 (ahead : Int)] 3 (0, 0))) (hB2 : w.heap[b2]? = some (.cells #[.slice A n c] 34 (0, 0))) (hex : ∀ k, ex k → k < w.heap.size) :
  SeqN Fence.wide 7 Tryz.prog 134 #[.pointer (some ⟨b2, 0, none⟩), .pointer (some ⟨b1, 0, none⟩)] (fun x : Nat × Int => #[.int .i64 (x.1 : Int), .int .u8 x.2]) (ItN (laidL ahead b)) (KpC ex) (fun xs => xs.map Prod.snd = laidL ahead b ∧ xs.length = (laidL ahead b).length) (laidL ahead b).length w := by
 intro l J W hW hJ hY hJ0
 have h1 := aez hB1 hW
 have h2 := aez hB2 hW
 have h3 := Kd.arz hb hW
 have h4 : ∀ k, ex k → k < W.heap.size := fun k hk => Nat.lt_of_lt_of_le (hex k hk) hW.size
 rcases hah with rfl | rfl
 ·refine (laid1_in0 l b1 b2 n c ex A b W J h3 hn hnc hnn h1 h2 h4 hJ hY hJ0).mono ?_
  rintro e W' ⟨hv, xs, q1, q2, q3⟩
  exact ⟨hv, xs, ⟨q1, q2⟩, q3⟩
 ·refine (laid1_in4 l b1 b2 n c ex A b W J h3 hn hnc hnn h1 h2 h4 hJ hY hJ0).mono ?_
  rintro e W' ⟨hv, xs, q1, q2, q3⟩
  exact ⟨hv, xs, ⟨q1, q2⟩, q3⟩
end Go.Proofs.YtpdakdcmahlghaaGreat.XCo
end
section
namespace Go.Proofs.YtpdakdcmahlghaaGreat.XCo
open Go.RowKit Go.Proofs.YtpdakdcmahlghaaGreatW.PrintWords Go.Proofs.YtpdakdcmahlghaaGreatW.PrintLast Go.Proofs.YtpdakdcmahlghaaGreatW.PrintMore
attribute [local go_sem] aDz aEz aLz aMz auz avz aFz aGz
set_option linter.unusedVariables false
set_option linter.unusedSimpArgs false
def regOnly (K : Act → World → Prop) : Exit → Act → World → Prop
 | .normal, a, w => K a w
 | _, _, _ => False
theorem regOnly_normal {K : Act → World → Prop} {a : Act} {w : World} (h : K a w) : regOnly K .normal a w := h
theorem regOnly_ {P : Program} {c : Code} {Q : Exit → Act → World → Prop} {a : Act} {w : World} (h : c.wp P (regOnly (Q .normal)) a w) : c.wp P Q a w :=
 wp_mono h fun e a w h => by
  cases e with
  | normal => exact h
  | _ => exact h.elim
theorem S_new {e t : Nat} {k : IntKind} {W : World} {base o n cap : Nat} {ok : Nat → Prop} {rows : List (List Int)} (h : Kd.S (dM e k) t W base ok (.slice (some ⟨o, 0, none⟩) n cap) rows) (hb : base ≤ W.heap.size) (hok : ∀ q, W.heap.size ≤ q → ok q) (i : Nat) (hi : i < n) (xs : List Int) (hl : xs.length ≤ 1000000) :
  Kd.S (dM e k) t (((W.alloc (.cells (nums k xs).toArray e)).setCell ⟨o, i, none⟩ (.slice (some ⟨W.heap.size, 0, none⟩) xs.length xs.length))) base ok (.slice (some ⟨o, 0, none⟩) n cap) (rows.set i xs) := by
 have hlt : o < W.heap.size := Kd.S_lt h o (by simp [Value.ownBlock])
 have h1 : Kd.S (dM e k) t (W.alloc (.cells (nums k xs).toArray e)) base (fun q => ok q ∧ ¬ (q = W.heap.size)) (.slice (some ⟨o, 0, none⟩) n cap) rows := Kd.cNz (Kd.bxz (Kd.bcz h) (fun q hq => ⟨hq.1, by have := hq.2.2.1; omega⟩)) _
 obtain ⟨oki, c, hcl, hM, hcc, hfr, hoki, hH⟩ := Kd.S_elem h1 ([] : List Int) (i : Int) (by omega) (by omega)
 obtain ⟨u, rfl, hu⟩ := hM
 have hn0 : (W.alloc (.cells (nums k xs).toArray e)).heap[W.heap.size]? = some (.cells (nums k xs).toArray e (0, 0)) := heap_alloc_new _ _
 have hR : (Kd.int k).R e (W.alloc (.cells (nums k xs).toArray e)) base (fun q => q = W.heap.size) (.slice (some ⟨W.heap.size, 0, none⟩) xs.length xs.length) xs := by
  have h2 : (Kd.int k).R e (W.alloc (.cells (nums k xs).toArray e)) base (fun _ => True) (.slice (some ⟨W.heap.size, 0, none⟩) xs.length xs.length) xs :=
   bIz ⟨by rw [nums_length, Nat.mul_one], .inr ⟨_, xs.length, _, rfl, hb, hn0, Nat.le_refl _, by unfold maxLen; omega, by simp [nums_length], by simp; rw [List.take_of_length_le (by rw [nums_length]; exact Nat.le_refl _)]⟩⟩
  exact Kd.a0z (Kd.cLz rfl h2) (fun q hq => by simpa [Value.ownBlock] using hq)
 have h3 := (Kd.S_seg hH (by omega) (by omega) (seg := [.slice (some ⟨W.heap.size, 0, none⟩) xs.length xs.length]) (j := 0) (Nat.le_refl _) (x' := xs) (okp := fun q => q = W.heap.size) ⟨_, rfl, hR⟩ (fun q hq => .inr hq) (fun q hq => ⟨hok q (by omega), by omega⟩)).1
 rw [Int.toNat_natCast, show (dM e k).sz = 1 from rfl, Nat.mul_one, Nat.add_zero] at h3
 exact h3
theorem S_put2 {e t : Nat} {k : IntKind} {W : World} {base o n cap : Nat} {ok : Nat → Prop} {rows : List (List Int)} (h : Kd.S (dM e k) t W base ok (.slice (some ⟨o, 0, none⟩) n cap) rows) (i j : Nat) (row : List Int) (hr : rows[i]? = some row) (hj : j < row.length) (x : Int) :
  ∃ g c y, W.cell? ⟨o, i, none⟩ = some (.slice (some ⟨g, 0, none⟩) row.length c) ∧ W.cell? ⟨g, j, none⟩ = some (.int k y) ∧ W.frozen? ⟨g, j, none⟩ = false ∧ ok g ∧ g ≠ o ∧ Kd.S (dM e k) t (W.setCell ⟨g, j, none⟩ (.int k x)) base ok (.slice (some ⟨o, 0, none⟩) n cap) (rows.set i (row.set j x)) := by
 have hil := (List.getElem?_eq_some_iff.1 hr).1
 have hn := (Kd.S_reads' h).1
 obtain ⟨oki, c, hcl, hM, hcc, hoki, hback⟩ := Kd.S_borrow h ([] : List Int) (i : Int) (by omega) (by omega)
 rw [Int.toNat_natCast, List.getD_eq_getElem?_getD, hr] at hM
 obtain ⟨u, rfl, hu⟩ := hM
 have hu' : (Kd.int k).R e W base oki u row := hu
 obtain ⟨g, cg, rfl, -, -, -⟩ := Kd.b7z hu' (by omega)
 have hc0 := hcc 0 _ rfl
 rw [Int.toNat_natCast, show (dM e k).sz = 1 from rfl, Nat.mul_one, Nat.add_zero] at hc0
 have e1 : (⟨o, 0, none⟩ : Addr).add i = ⟨o, i, none⟩ := by
  unfold Addr.add
  split <;> simp_all
 rw [e1] at hc0
 obtain ⟨hcell, hfroz⟩ := Kd.R_cell (0 : Int) hu' (j : Int) (by omega) (by omega)
 rw [Int.toNat_natCast] at hcell hfroz
 have hgo : oki g := hu'.1 g (by simp [Value.ownBlock])
 obtain ⟨hp1, hp2⟩ := Kd.R_put hu' (j : Int) x
 rw [Int.toNat_natCast] at hp1 hp2
 have hS := hback (x' := row.set j x) hp2 (fun q hq => by
  injection hq with hq
  subst hq; exact hgo) (show (dM e k).M _ _ _ (row.set j x) [.slice (some ⟨g, 0, none⟩) row.length cg] from ⟨_, rfl, hp1⟩)
 rw [Int.toNat_natCast] at hS
 exact ⟨g, cg, _, hc0, hcell, hfroz, (hoki g hgo).1, fun e => (hoki g hgo).2 (by simp [Value.ownBlock, e]), hS⟩
theorem S_keepK {k : IntKind} {X Y : World} {base : Nat} {ok : Nat → Prop} {v : Value} {xs : List (List Int)} {e t : Nat} (h : Kd.S (dM e k) t X base ok v xs) (hm : ∀ (q : Nat) (o : Obj), X.heap[q]? = some o → o.isCells = true → Y.heap[q]? = X.heap[q]?) : Kd.S (dM e k) t Y base ok v xs := by
 refine Kd.bxz (Kd.S_move (Kd.bcz h) (fun q hq => ?_)) (fun q hq => hq.1)
 obtain ⟨-, -, hlt, z, -, cells, hc⟩ := hq
 exact hm q _ hc rfl
set_option maxRecDepth 100000 in
theorem make_bytes (n : Nat) (hn : n ≤ 1000000) (W : World) : (Instr.makeSlice 34 (.int .i64 (n : Int)) (.int .i64 (n : Int))).run Tryz.prog W = .ok (.slice (some ⟨W.heap.size, 0, none⟩) n n) (W.alloc (.cells (nums .u8 (List.replicate n 0)).toArray 5)) := by
 have hinfo : (Tryz.prog.info? 5).map (fun i => (i.zero, i.size, i.bytes)) = some (some (.int .u8 0), 1, 1) := by kernel_rfl
 obtain ⟨i, hi, he⟩ := Option.map_eq_some_iff.1 hinfo
 injection he with hz he
 injection he with hs hb
 have h := run_make (P := Tryz.prog) W 34 5 i (.int .u8 0) Tryz.underlying34 hi hz .i64 .i64 n n (by omega) (by omega) (by rw [hb]; omega) (by omega)
 rw [hs, Int.toNat_natCast, Nat.mul_one] at h
 rw [h]
 have : madeCells (Value.int .u8 0).cells n = (nums .u8 (List.replicate n 0)).toArray := by
  apply Array.ext'
  simp [madeCells, nums, Value.cells]
  apply List.ext_getElem
  ·simp
  ·intro i h1 h2; simp [Nat.mod_one]
 rw [this]
def madeTo (K size i : Nat) : List (List Int) := List.replicate i (List.replicate size 0) ++ List.replicate (K - i) []
theorem madeTo_step (K size i : Nat) (hi : i < K) : (madeTo K size i).set i (List.replicate size 0) = madeTo K size (i + 1) := by
 unfold madeTo
 rw [List.set_append_right _ _ (by simp), List.length_replicate, Nat.sub_self, show K - i = (K - (i + 1)) + 1 by omega, List.replicate_succ, List.set_cons_zero, List.replicate_succ' (n := i), List.append_assoc]
 rfl
theorem madeTo_zero (K size : Nat) : madeTo K size 0 = List.replicate K [] := by simp [madeTo]
theorem madeTo_full (K size : Nat) : madeTo K size K = List.replicate K (List.replicate size 0) := by simp [madeTo]
theorem S_cell {e t : Nat} {k : IntKind} {W : World} {base o n cap : Nat} {ok : Nat → Prop} {rows : List (List Int)} (h : Kd.S (dM e k) t W base ok (.slice (some ⟨o, 0, none⟩) n cap) rows) (i : Nat) (hi : i < n) : ∃ v, W.cell? ⟨o, i, none⟩ = some v ∧ W.frozen? ⟨o, i, none⟩ = false := by
 obtain ⟨oki, c, hcl, hM, hcc, hfr, hoki, hH⟩ := Kd.S_elem h ([] : List Int) (i : Int) (by omega) (by omega)
 obtain ⟨u, rfl, hu⟩ := hM
 have h0 := hcc 0 _ rfl
 have h1 := hfr 0
 rw [Int.toNat_natCast, show (dM e k).sz = 1 from rfl, Nat.mul_one, Nat.add_zero] at h0 h1
 exact ⟨_, h0, h1⟩
end Go.Proofs.YtpdakdcmahlghaaGreat.XCo
end
