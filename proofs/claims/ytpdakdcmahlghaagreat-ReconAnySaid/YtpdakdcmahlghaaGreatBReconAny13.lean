-- Joined by this work's own program (wip/tools/bundle.py) out of its texts: what this claim uses of them. Not trusted: Lean checks it.
import Derived.Test.YtpdakdcmahlghaaGreatBReconAny12
section
namespace Go.Proofs.YtpdakdcmahlghaaGreat.XCo
open Go.RowKit Go.Proofs.YtpdakdcmahlghaaGreatW.PrintWords Go.Proofs.YtpdakdcmahlghaaGreatW.PrintLast Go.Proofs.YtpdakdcmahlghaaGreatW.PrintMore
attribute [local go_sem] aAz aBz aIz aJz atz auz aCz aDz
set_option linter.unusedVariables false
set_option linter.unusedSimpArgs false
def amz.l (K : Nat) (wb : Int) (data : List (List Int)) : List (List Int) → List (List Int) → Option (List (List Int) × Int)
 | [], acc => some (acc, 0)
 | row :: rs, acc => (dotB K wb row data).bind fun t => if t.2 = 0 then amz.l K wb data rs (acc ++ [t.1]) else some ([], 1)
def amz.small (l : List (List Int)) : Bool := decide (l.length ≤ 1000) && l.all (fun r => decide (r.length ≤ 1000000))
def amz.f (k : Nat) (a0_0 a0_1 a0_2 : Int) (l1 : List (List Int)) : Option (List (List Int) × Int) :=
 (aiz.f a0_0 a0_1 a0_2).bind fun b => if b = true then (if (l1.length : Int) = a0_1 then (if amz.small l1 = true then amz.l k (pbits a0_0) l1 (parM a0_0 a0_1.toNat a0_2.toNat) [] else none) else some ([], 1)) else some ([], 1)
theorem C_F {α : Type} {d : Kd α} (hd : Kd.Heap d) {W : World} {A : Option Addr} {n : Nat} {xs : List α} (h : d.C W A n xs) : Kd.F d W (fun k => k < W.heap.size) A n xs := fun W' hW => hd.C (fun k hk => hW k hk hk) h
set_option maxRecDepth 100000 in
set_option maxHeartbeats 4000000 in
theorem codec_Parity1.calls (g bf bd : Nat) (wb : Int) (S : Nat → Prop) (C A : Option Addr) (cc ca K : Nat) (c : List Int) (rows : List (List Int)) (r1 : List Int) (r2 : Int) (W : World) (hw : wb = 8 ∨ wb = 16) (hF : Fd W g wb (fpoly wb) S) (hS : ∀ k, S k → k < W.heap.size)
  (hbf : W.heap[bf]? = some (.cells #[.pointer (some ⟨g, 0, none⟩)] 72 (0, 0))) (hbd : W.heap[bd]? = some (.cells #[.slice A rows.length ca] 24 (0, 0)))
  (hc : Kd.F (Kd.int .i64) W (NotG g) C c.length c) (hr : Kd.F (dM 5 .u8) W (NotG g) A rows.length rows) (hin : ∀ x, x ∈ c → inF wb x = true) (hlen : c.length = rows.length) (h0 : 0 < rows.length) (hsz : ∀ r, r ∈ rows → r.length ≤ 1000000) (hn : rows.length ≤ 1000) (h : dotB K wb c rows = some (r1, r2)) :
  Calls Tryz.prog 46 #[.slice C c.length cc, .pointer (some ⟨bf, 0, none⟩), .pointer (some ⟨bd, 0, none⟩)] W fun e w' => ∃ v, e = .returned (.tuple #[v, .int .i64 r2]) ∧ (Kd.int .u8).R 5 w' W.heap.size (fun _ => True) v r1 ∧ Fd w' g wb (fpoly wb) S ∧ BB W w' g := by
 have HD := Aside0.mk (rDot.calls g wb S C A cc ca K c rows r1 r2 W hw hF hS hc hr hin hlen h0 hsz hn h)
 have c1 : W.cell? ⟨bf, 0, none⟩ = some (.pointer (some ⟨g, 0, none⟩)) := (aaz hbf 0).trans rfl
 have c2 : W.cell? ⟨bd, 0, none⟩ = some (.slice A rows.length ca) := (aaz hbd 0).trans rfl
 generalize rows.length = n at HD c2
 generalize c.length = m at HD ⊢
 clear hw hF hS hbf hbd hc hr hin hlen h0 hsz hn h
 go_enter Tryz.func46, Tryz.ntmps46
 go_wp2_with fail
 refine HD.out.mono ?_
 rintro e w1 ⟨v, rfl, q1, q2, q3⟩
 have Q1 := Aside0.mk q1
 have Q2 := Aside0.mk q2
 have Q3 := Aside0.mk q3
 clear q1 q2 q3
 go_wp2
 go_ret2
 exact ⟨_, rfl, Q1.out, Q2.out, Q3.out⟩
set_option maxRecDepth 100000 in
set_option maxHeartbeats 4000000 in
theorem amz.nomay (p k m : Int) (A : Option Addr) (c : Nat) (l : List (List Int)) (W : World) (h : aiz.f p k m = some false) :
  Calls Tryz.prog 19 #[.agg #[.int .i64 p, .int .i64 k, .int .i64 m], .slice A l.length c] W fun e w' => e = .returned (.tuple #[.slice none 0 0, .int .i64 1]) ∧ Below W.heap.size W w' := by
 have HP := Aside0.mk (fun w => cdz.no p k m w h)
 have hu := Tryz.underlying23
 generalize l.length = n
 clear h
 go_enter Tryz.func19, Tryz.ntmps19
 go_wp2_with fail
 refine (HP.out _).mono ?_
 rintro e w1 ⟨rfl, hB⟩
 have HB := Aside0.mk (show Below W.heap.size W w1 from (abz (abz (Below.refl _ _) _) _).trans (hB.mono (by simp; omega)))
 clear hB
 go_wp2
 go_ret2
 exact ⟨rfl, HB.out⟩
set_option maxRecDepth 100000 in
set_option maxHeartbeats 4000000 in
theorem amz.nolen (p k m : Int) (A : Option Addr) (c : Nat) (l : List (List Int)) (W : World) (h : aiz.f p k m = some true) (hl : (l.length : Int) ≠ k) :
  Calls Tryz.prog 19 #[.agg #[.int .i64 p, .int .i64 k, .int .i64 m], .slice A l.length c] W fun e w' => e = .returned (.tuple #[.slice none 0 0, .int .i64 1]) ∧ Below W.heap.size W w' := by
 have HP := Aside0.mk (fun w => cdz.ok p k m w h)
 have hu := Tryz.underlying23
 generalize l.length = n at hl ⊢
 generalize parM p k.toNat m.toNat = M at HP
 have hne : ((n : Int) != k) = true := by simpa using hl
 have hb1 := heap_alloc_new W (.cells #[.int .i64 p, .int .i64 k, .int .i64 m] 23)
 have hb2 := heap_alloc_new (W.alloc (.cells #[.int .i64 p, .int .i64 k, .int .i64 m] 23)) (.cells #[.slice A n c] 24)
 have hb1' : ((W.alloc (.cells #[.int .i64 p, .int .i64 k, .int .i64 m] 23)).alloc (.cells #[.slice A n c] 24)).heap[W.heap.size]? = some (.cells #[.int .i64 p, .int .i64 k, .int .i64 m] 23 (0, 0)) := aez hb1 (abz (Below.refl _ _) _)
 have HX1 := Aside0.mk hb1'
 have HX2 := Aside0.mk hb2
 have HB := Aside0.mk (show Below W.heap.size W ((W.alloc (.cells #[.int .i64 p, .int .i64 k, .int .i64 m] 23)).alloc (.cells #[.slice A n c] 24)) from abz (abz (Below.refl _ _) _) _)
 clear h hl hb1 hb2 hb1'
 go_enter Tryz.func19, Tryz.ntmps19
 go_wp2_with fail
 generalize (W.alloc (.cells #[.int .i64 p, .int .i64 k, .int .i64 m] 23)).alloc (.cells #[.slice A n c] 24) = w1 at HX1 HX2 HB ⊢
 refine (HP.out w1).mono ?_
 rintro e w2 ⟨B, bc, rfl, -, -, hB⟩
 have HB2 := Aside0.mk (HB.out.trans (hB.mono HB.out.size))
 have c1 : w2.cell? ⟨W.heap.size, 1, none⟩ = some (.int .i64 k) := (aaz (aez HX1.out hB) 1).trans rfl
 have c2 : w2.cell? ⟨W.heap.size + 1, 0, none⟩ = some (.slice A n c) := by
  have := (aaz (aez HX2.out hB) 0)
  simp at this
  exact this
 clear hB
 go_wp2
 go_ret2
 exact ⟨rfl, HB2.out⟩
set_option maxRecDepth 100000 in
set_option maxHeartbeats 4000000 in
theorem amz.go (K : Nat) (p k m : Int) (A : Option Addr) (c : Nat) (l : List (List Int)) (r1 : List (List Int)) (r2 : Int) (W : World) (h : aiz.f p k m = some true) (hl : (l.length : Int) = k) (hr : Kd.C (dM 5 .u8) W A l.length l) (hsm : amz.small l = true)
  (hL : amz.l K (pbits p) l (parM p k.toNat m.toNat) [] = some (r1, r2)) :
  Calls Tryz.prog 19 #[.agg #[.int .i64 p, .int .i64 k, .int .i64 m], .slice A l.length c] W fun e w' => ∃ v, e = .returned (.tuple #[v, .int .i64 r2]) ∧ Kd.S (dM 5 .u8) 34 w' W.heap.size (fun _ => True) v r1 ∧ Below W.heap.size W w' := by
 obtain ⟨p1, p2, k1, k2, m1, m2⟩ := boz h
 have HP := Aside0.mk (fun w => cdz.ok p k m w h)
 have HFD := Aside0.mk (bxz.calls p ⟨p1, p2⟩)
 have HPB := Aside0.mk (d8z p)
 have hgd := cxz p k.toNat m.toNat (by omega) (by omega) (by omega) (by omega)
 have HSM := Aside0.mk (show l.length ≤ 1000 ∧ ∀ r, r ∈ l → r.length ≤ 1000000 by
  simp only [amz.small, Bool.and_eq_true, decide_eq_true_eq, List.all_eq_true] at hsm
  exact hsm)
 have hu := Tryz.underlying23
 obtain ⟨n, hn⟩ : ∃ n, l.length = n := ⟨_, rfl⟩
 have HLN := Aside0.mk hn
 obtain rfl : k = (n : Int) := by omega
 simp only [Int.toNat_natCast] at HP hgd hL
 obtain ⟨mm, hmm⟩ : ∃ mm, m.toNat = mm := ⟨_, rfl⟩
 rw [hmm] at HP hgd hL
 have mm4 : mm ≤ 4 := by omega
 have HGD := Aside0.mk hgd
 have HL := Aside0.mk hL
 have HR := Aside0.mk (C_F (Kd.d6z _ (Kd.heap_int _)) hr)
 rw [hn] at HR ⊢
 generalize parM p n mm = M at HP HGD HL
 generalize pbits p = wb at HFD HPB HL HGD
 have hself : ((n : Int) != (n : Int)) = false := by simp
 have n1 : 1 ≤ n := by omega
 have n2 : n ≤ 8 := by omega
 have HW := Aside0.mk (show W.heap.size = W.heap.size from rfl)
 have hb1 := heap_alloc_new W (.cells #[.int .i64 p, .int .i64 (n : Int), .int .i64 m] 23)
 have hb2 := heap_alloc_new (W.alloc (.cells #[.int .i64 p, .int .i64 (n : Int), .int .i64 m] 23)) (.cells #[.slice A n c] 24)
 have hb1' : ((W.alloc (.cells #[.int .i64 p, .int .i64 (n : Int), .int .i64 m] 23)).alloc (.cells #[.slice A n c] 24)).heap[W.heap.size]? = some (.cells #[.int .i64 p, .int .i64 (n : Int), .int .i64 m] 23 (0, 0)) := aez hb1 (abz (Below.refl _ _) _)
 have HX1 := Aside0.mk hb1'
 have HX2 := Aside0.mk (show ((W.alloc (.cells #[.int .i64 p, .int .i64 (n : Int), .int .i64 m] 23)).alloc (.cells #[.slice A n c] 24)).heap[W.heap.size + 1]? = some (.cells #[.slice A n c] 24 (0, 0)) by simpa using hb2)
 have HB := Aside0.mk (show Below W.heap.size W ((W.alloc (.cells #[.int .i64 p, .int .i64 (n : Int), .int .i64 m] 23)).alloc (.cells #[.slice A n c] 24)) from abz (abz (Below.refl _ _) _) _)
 clear h hl hb1 hb2 hb1' hgd hL hr hn p1 p2 k1 k2 hmm hsm
 go_enter Tryz.func19, Tryz.ntmps19
 go_wp2_with fail
 generalize (W.alloc (.cells #[.int .i64 p, .int .i64 (n : Int), .int .i64 m] 23)).alloc (.cells #[.slice A n c] 24) = w1 at HX1 HX2 HB ⊢
 refine (HP.out w1).mono ?_
 rintro e w2 ⟨B, bc, rfl, -, hC2, hB⟩
 have HB2 := Aside0.mk (HB.out.trans (hB.mono HB.out.size))
 have HY1 := Aside0.mk (aez HX1.out hB)
 have HY2 := Aside0.mk (aez HX2.out hB)
 have HM2 := Aside0.mk (Kd.bfz (Kd.cWz hC2) (fun q hq => hq.2))
 have c0 : w2.cell? ⟨W.heap.size, 0, none⟩ = some (.int .i64 p) := (aaz HY1.out 0).trans rfl
 have c1 : w2.cell? ⟨W.heap.size, 1, none⟩ = some (.int .i64 (n : Int)) := (aaz HY1.out 1).trans rfl
 have c2 : w2.cell? ⟨W.heap.size + 1, 0, none⟩ = some (.slice A n c) := (aaz HY2.out 0).trans rfl
 have HML := Aside0.mk (show M.length = mm from HGD.out.2)
 clear hB hC2 HP HX1 HX2 HB
 have hmf : ∀ (fn : Fn) (first cap : Array Value) (w : World), (Instr.makeFunc fn first cap).run Tryz.prog w = .ok (.func fn first cap) w := fun _ _ _ _ => rfl
 go_wp2_with fail
 refine (HFD.out w2).mono ?_
 rintro e w3 ⟨g, rfl, q1, q2, q3⟩
 have HB3 := Aside0.mk (HB2.out.trans (q3.mono HB2.out.size))
 have HZ2 := Aside0.mk (aez HY2.out q3)
 have HFR := Aside0.mk (q1.fd (fun _ => False) (fun h => h))
 have HM3 := Aside0.mk (show Kd.F (dM 3 .i64) w3 (NotG g) B mm M from Kd.bfz (Kd.ccz HM2.out q3) (fun q hq => by show q ≠ g; omega))
 have HD3 := Aside0.mk (show Kd.F (dM 5 .u8) w3 (NotG g) A n l from Kd.bfz (Kd.bMz HR.out (fun q hq _ => HB3.out.block q hq)) (fun q hq => by show q ≠ g; have := HB2.out.size; omega))
 have HG3 := Aside0.mk (show W.heap.size ≤ g from Nat.le_trans HB2.out.size q2)
 have HGN := Aside0.mk (show W.heap.size + 1 ≠ g by have := apz HY2.out; omega)
 clear q1 q2 q3 c0 c1 c2 HM2 HR HY1 HY2 HB2 HFD
 go_wp2
 obtain ⟨bf, hbf⟩ : ∃ bf, bf = w3.heap.size := ⟨_, rfl⟩
 obtain ⟨bd, hbd⟩ : ∃ bd, bd = W.heap.size + 1 := ⟨_, rfl⟩
 have HT := abz (Below.refl w3.heap.size w3) (.cells #[.pointer (some ⟨g, 0, none⟩)] 72)
 have HBF := Aside0.mk (show (w3.alloc (.cells #[.pointer (some ⟨g, 0, none⟩)] 72)).heap[bf]? = some (.cells #[.pointer (some ⟨g, 0, none⟩)] 72 (0, 0)) by rw [hbf]; exact heap_alloc_new _ _)
 have HBD := Aside0.mk (show (w3.alloc (.cells #[.pointer (some ⟨g, 0, none⟩)] 72)).heap[bd]? = some (.cells #[.slice A n c] 24 (0, 0)) by rw [hbd]; exact aez HZ2.out HT)
 have HB5 := Aside0.mk (abz HB3.out (.cells #[.pointer (some ⟨g, 0, none⟩)] 72))
 have HF5 := Aside0.mk (HFR.out.alloc (.cells #[.pointer (some ⟨g, 0, none⟩)] 72))
 have HM5 := Aside0.mk (Kd.F_alloc HM3.out (.cells #[.pointer (some ⟨g, 0, none⟩)] 72))
 have HD5 := Aside0.mk (Kd.F_alloc HD3.out (.cells #[.pointer (some ⟨g, 0, none⟩)] 72))
 have HN1 := Aside0.mk (show bf ≠ g by have := HFR.out.lt; omega)
 have HN2 := Aside0.mk (show bd ≠ g by rw [hbd]; exact HGN.out)
 rw [← hbf, ← hbd]
 clear HT hbf hbd HB3 HZ2 HFR HM3 HD3 HGN
 generalize w3.alloc (.cells #[.pointer (some ⟨g, 0, none⟩)] 72) = w5 at HBF HBD HB5 HF5 HM5 HD5 ⊢
 go_loopw [10, 35] (fun v iv wr => ∃ (k : Nat) (acc : List (List Int)), k ≤ mm ∧ iv = .int .i64 (k : Int) ∧ Aside0 (Kd.S (dM 5 .u8) 34 wr w5.heap.size (fun _ => True) v acc) ∧ Aside0 (BB w5 wr g) ∧ Aside0 (Fd wr g wb (fpoly wb) (fun _ => False)) ∧ Aside0 (amz.l K wb l (M.drop k) acc = some (r1, r2)) ∧ acc.length ≤ k) (fun _ iv _ => mm - (intOf iv).toNat)
 case atStart => exact ⟨0, [], Nat.zero_le _, rfl, ⟨Kd.S_nil _ _ _ _ _⟩, ⟨BB.refl _ _⟩, HF5, HL, Nat.zero_le _⟩
 clear HF5 HL
 obtain ⟨w6, rfl⟩ : ∃ w6, w6 = wr := ⟨_, rfl⟩
 obtain ⟨k, acc, hk, rfl, HO, HB, HF, HL, hacc⟩ := hrel
 by_cases hlt : k < mm
 ·obtain ⟨row, hrow⟩ : ∃ x, M[k]? = some x := ⟨_, List.getElem?_eq_getElem (by have := HML.out; omega)⟩
  have hdr : M.drop k = row :: M.drop (k + 1) := by
   obtain ⟨h1, h2⟩ := List.getElem?_eq_some_iff.1 hrow
   rw [List.drop_eq_getElem_cons h1, h2]
  have hl := HL.out
  rw [hdr, amz.l] at hl
  obtain ⟨⟨t1, t2⟩, hd, hl2⟩ := Option.bind_eq_some_iff.1 hl
  have hgr := HGD.out.1 row (List.mem_of_getElem? hrow)
  have HRL := Aside0.mk hgr.1
  have hFM := F_bb HM5.out HB.out
  rw [← HML.out] at hFM
  obtain ⟨ad, A', c', rfl, hcr, hlr, -⟩ := biz (Kd.F_now hFM) k row hrow
  obtain ⟨A2, c2, hcr2, hlr2, hFr⟩ := row_atF hFM k row hrow
  obtain ⟨rfl, rfl⟩ : A' = A2 ∧ c' = c2 := by
   rw [hcr] at hcr2
   injection hcr2 with e
   injection e with e1 e2 e3
   exact ⟨e1, e3⟩
  have HDC := Aside0.mk (codec_Parity1.calls g bf bd wb (fun _ => False) A' A c' c K row l t1 t2 w6 HPB.out HF.out (fun _ h => h.elim) ((HB.out.block bf (apz HBF.out) HN1.out).trans HBF.out) (by rw [HLN.out]; exact (HB.out.block bd (apz HBD.out) HN2.out).trans HBD.out) hFr (by rw [HLN.out]; exact F_bb HD5.out HB.out) (fun x hx => by
   have := hgr.2 x hx
   simp [inF, this]) (by rw [HRL.out, HLN.out]) (by rw [HLN.out]; omega) HSM.out.2 HSM.out.1 hd)
  have HL2 := Aside0.mk hl2
  rw [HRL.out] at HDC hcr
  have k1 : (0 : Int) ≤ (k : Int) := by omega
  have k2 : (k : Int) < (mm : Int) := by omega
  clear hrow hdr hl hl2 hd hgr hFM hlr hcr2 hlr2 hFr
  go_wp2_with fail
  refine HDC.out.mono ?_
  rintro e w7 ⟨v7, rfl, q1, q2, q3⟩
  by_cases ht2 : t2 = 0
  ·subst ht2
   have HL3 := HL2.out
   rw [if_pos rfl] at HL3
   have HL4 := Aside0.mk HL3
   obtain ⟨gcs, hgcs⟩ := Fd.cells HF.out
   have hj := S_joinK HO.out hgcs (by decide) q3 q1 HB.out.size
   obtain ⟨va, vc, rfl⟩ := Kd.aPz q1
   generalize t1.length = nm at *
   have HS1 := Aside0.mk hj.1
   have HM1 := Aside0.mk hj.2.1
   have HOK := Aside0.mk hj.2.2
   have HSW := Aside0.mk (show w5.heap.size ≤ w7.heap.size from Nat.le_trans HB.out.size q3.size)
   have HB7 := Aside0.mk (HB.out.trans q3)
   have HF7 := Aside0.mk q2
   have HTY := Aside0.mk (Kd.cVz hj.1)
   have hal : acc.length ≤ 100 := by omega
   clear q1 q2 q3 hj hgcs HDC hcr HO HL3 HL2
   have HAL := Aside0.mk hal
   have HAC := Aside0.mk hacc
   clear hal hacc
   go_wp2_with ((with_reducible refine asz (b := .append) (xs := #[.tmp 47, .tmp 49]) rfl ?_); go_must (at_builtin; refine Kd.bCz (dM 5 .u8) (w0 := w7) w5.heap.size rfl (.tmp 47) (.tmp 49) 24 34 (.slice none 0 0) 24 rfl Tryz.underlying24 kr_ rfl (by decide) (by decide) _ _ t1 [.slice va nm vc] (fun _ => True) (fun k' => w6.heap.size ≤ k') rfl rfl HM1.out HOK.out (fun _ _ => trivial) HS1.out (Below.refl _ _) HSW.out ?aL ?_; (case aL => have := HAL.out; omega)); intro v2 w8 ho2 hb2 hg2 hat2; have HO8 := Aside0.mk ho2; have HB8 := Aside0.mk hb2; have HG8 := Aside0.mk (show w7.grownBy w8 u10.ownBlock from hg2); clear ho2 hb2 hg2 hat2)
   go_roundw
   case rel => exact ⟨k + 1, acc ++ [t1], by omega, by go_num, HO8, ⟨HB7.out.then_below HB8.out⟩, ⟨HF7.out.grown HG8.out HTY.out (by decide) (by decide)⟩, HL4, by have := HAC.out; simp; omega⟩
   case measure => simp [intOf]; omega
  ·have hb2 : (t2 != 0) = true := by simpa using ht2
   have HRES := Aside0.mk (show r1 = [] ∧ r2 = 1 by
    have h := HL2.out
    rw [if_neg ht2] at h
    simp only [Option.some.injEq, Prod.mk.injEq] at h
    exact ⟨h.1.symm, h.2.symm⟩)
   have HB7 := Aside0.mk (HB.out.trans q3)
   clear q1 q2 q3 ht2 HDC hcr
   go_wp2
   go_ret2
   refine ⟨.slice none 0 0, ?_, ?_, HB7.out.below HB5.out HG3.out⟩
   ·rw [HRES.out.2]; rfl
   ·rw [HRES.out.1]; exact Kd.S_nil _ _ _ _ _
 ·obtain rfl : k = mm := by omega
  have h := HL.out
  rw [List.drop_of_length_le (by rw [HML.out]; exact Nat.le_refl _), amz.l] at h
  simp only [Option.some.injEq, Prod.mk.injEq] at h
  obtain ⟨rfl, rfl⟩ := h
  go_wp2
  go_ret2
  exact ⟨_, rfl, Kd.cbz HO.out HB5.out.size, HB.out.below HB5.out HG3.out⟩
theorem amz.calls (k : Nat) (a0_0 : Int) (a0_1 : Int) (a0_2 : Int) (A1 : Option Addr) (c1 : Nat) (l1 : List (List Int)) (r1 : List (List Int)) (r2 : Int) (w : World) (hr1 : Kd.C (Kd.slice 5 (Kd.int .u8)) w A1 l1.length l1) (hc1 : l1.length ≤ c1) (h : amz.f k a0_0 a0_1 a0_2 l1 = some (r1, r2)) :
 Calls Tryz.prog 19 #[.agg #[.int .i64 a0_0, .int .i64 a0_1, .int .i64 a0_2], .slice A1 l1.length c1] w fun e w' => ∃ v0_ : Value, e = .returned (.tuple #[v0_, .int .i64 r2]) ∧ Kd.S (Kd.slice 5 (Kd.int .u8)) 34 w' w.heap.size (fun _ => True) v0_ r1 ∧ Below w.heap.size w w' := by
 unfold amz.f at h
 obtain ⟨b, hb⟩ := may_some a0_0 a0_1 a0_2
 rw [hb] at h
 simp only [Option.bind_some] at h
 have bad : ∀ (hh : some (([] : List (List Int)), (1 : Int)) = some (r1, r2)) (hc : Calls Tryz.prog 19 #[.agg #[.int .i64 a0_0, .int .i64 a0_1, .int .i64 a0_2], .slice A1 l1.length c1] w fun e w' => e = .returned (.tuple #[.slice none 0 0, .int .i64 1]) ∧ Below w.heap.size w w'), Calls Tryz.prog 19 #[.agg #[.int .i64 a0_0, .int .i64 a0_1, .int .i64 a0_2], .slice A1 l1.length c1] w fun e w' => ∃ v0_ : Value, e = .returned (.tuple #[v0_, .int .i64 r2]) ∧ Kd.S (Kd.slice 5 (Kd.int .u8)) 34 w' w.heap.size (fun _ => True) v0_ r1 ∧ Below w.heap.size w w' := by
  intro hh hc
  simp only [Option.some.injEq, Prod.mk.injEq] at hh
  obtain ⟨rfl, rfl⟩ := hh
  refine hc.mono ?_
  rintro e w' ⟨rfl, hB⟩
  exact ⟨_, rfl, Kd.S_nil _ _ _ _ _, hB⟩
 cases b with
 | false => exact bad (by simpa using h) (amz.nomay a0_0 a0_1 a0_2 A1 c1 l1 w hb)
 | true =>
  rw [if_pos rfl] at h
  by_cases hl : (l1.length : Int) = a0_1
  ·rw [if_pos hl] at h
   by_cases hs : amz.small l1 = true
   ·rw [if_pos hs] at h
    exact amz.go k a0_0 a0_1 a0_2 A1 c1 l1 r1 r2 w hb hl hr1 hs h
   ·rw [if_neg hs] at h; cases h
  ·rw [if_neg hl] at h
   exact bad h (amz.nolen a0_0 a0_1 a0_2 A1 c1 l1 w hb hl)
def aQz.l0 : Nat → List Int → List Int → Int → Int → Option (Bool)
 | 0, _, _, _, _ => none
 | k + 1, x0, x1, x12, x13 => if x13 < x12 then (if 0 ≤ x13 then (if x13 < (x0.length : Int) then (if x13 < (x1.length : Int) then (if (rd x0 x13) = (rd x1 x13) then (aQz.l0 k x0 x1 x12 (wrap64 (x13 + 1))) else (some false)) else (none)) else (none)) else (none)) else (some true)
def aQz.f (k : Nat) (l0 : List Int) (l1 : List Int) : Option (Bool) := if (l0.length : Int) = (l1.length : Int) then (aQz.l0 k l0 l1 (l0.length : Int) 0) else (some false)
def eqRows (k : Nat) : List (List Int) → List (List Int) → Option Bool
 | [], [] => some true
 | x :: xs, y :: ys => (aQz.f k x y).bind fun b => if b = true then eqRows k xs ys else some false
 | _, _ => some false
def eqFunc (k : Nat) (p q : List (List Int)) : Option Bool := if p.length = q.length then (if p.length ≤ 1000000 then eqRows k p q else none) else some false
def cez.f (k : Nat) (a0_0 a0_1 a0_2 : Int) (l1 : List (List Int)) : Option Bool :=
 (aiz.f a0_0 a0_1 a0_2).bind fun b => if b = true then (if (l1.length : Int) = a0_1 + a0_2 then ((amz.f k a0_0 a0_1 a0_2 (l1.take a0_1.toNat)).bind fun t => if t.2 = 0 then eqFunc k t.1 (l1.drop a0_1.toNat) else some false) else some false) else some false
end Go.Proofs.YtpdakdcmahlghaaGreat.XCo
end
section
namespace Go.Proofs.YtpdakdcmahlghaaGreat.XCo
open Go.RowKit Go.Proofs.YtpdakdcmahlghaaGreatW.PrintWords Go.Proofs.YtpdakdcmahlghaaGreatW.PrintLast Go.Proofs.YtpdakdcmahlghaaGreatW.PrintMore
attribute [local go_sem] aAz aBz aIz aJz atz auz aCz aDz
set_option linter.unusedVariables false
set_option linter.unusedSimpArgs false
section
variable {F : Fence} {n : Nat} {P : Program}
def SeqN {α : Type} (F : Fence) (n : Nat) (P : Program) (g : Nat) (lb : Array Value) (encs : α → Array Value) (Hd : Nat → α → World → Prop) (Kp : World → World → Prop) (S : List α → Prop) (M : Nat) (w : World) : Prop :=
 ∀ (l : Nat) (J : List α → World → Prop) (W : World), Below w.heap.size w W → (∀ s A B, J s A → A.grownBy B none → J s B) →
  (∀ pre x W1, J pre W1 → Hd pre.length x W1 → pre.length < M → YieldAt F (n - 1) P l (encs x) W1 fun e W' => e = .returned (.bool true) ∧ J (pre ++ [x]) W' ∧ Kp W1 W') →
  J [] W → CallsIn F n P g (#[.func (.yield l) #[] #[]] ++ lb) W fun e W' => (∃ v, e = .returned v) ∧ ∃ xs, S xs ∧ J xs W'
def plainPostN {α : Type} (B : Nat) (Kp : World → World → Prop) (I : List α → World → Prop) (xs : List α) (W : World) : Exit → Act → World → Prop
 | .normal, _, W' => KeepsFrom B W W' ∧ Kp W W' ∧ I xs W'
 | _, _, _ => False
theorem c0z {α : Type} {g : Operand} {ps : Array Tmp} {assign body : Code} {Q : Exit → Act → World → Prop} {a : Act} {w : World}
  (hro : F.round = none) (h1 : 1 ≤ n) {gf : Nat} {lb : Array Value} (hg : a.eval g = .func (.func gf) #[] lb) (hFg : F.fn gf) (eg : ∀ args w, (callFunc gf args).run P w = .ok (.enter gf args) w)
  {encs : α → Array Value} {Hd : Nat → α → World → Prop} {Kp : World → World → Prop} {S : List α → Prop} {M : Nat} {w0 : World} (hseq : SeqN F (n - 1) P gf lb encs Hd Kp S M w0)
  (hKt : ∀ {A B C : World}, Kp A B → Kp B C → Kp A C) (hKb : ∀ (W : World) (l : Nat) (o o' : Obj), w.heap.size ≤ l → W.heap[l]? = some o → o.isCells = false → Kp W (W.putObj l o')) (hb0 : Below w0.heap.size w0 w) (hps : ∀ x, (encs x).size = ps.size)
  (I : List α → World → Prop) (hI : OwnFrom w.heap.size I) (hHd : ∀ m x, OwnFrom w.heap.size (fun (_ : Unit) W => Hd m x W)) (h0 : I [] w) (a₁ : α → Act)
  (hassign : ∀ (l : Nat) (x : α) (W : World) (K : Act → World → Prop), K (a₁ x) W →
   assign.wpIn (F.inRound l) (n - 1 - 1) P (Exit.then K (fun _ _ _ => False)) { tmps := (ps.zip (encs x)).foldl (fun t (p, v) => t.setIfInBounds p v) a.tmps, defers := [] } W)
  (hbody : ∀ (l : Nat) (pre : List α) (x : α) (W : World), I pre W → Hd pre.length x W → pre.length < M → body.wpIn (F.inRound l) (n - 1 - 1) P (plainPostN w.heap.size Kp I (pre ++ [x]) W) (a₁ x) W)
  (hdone : ∀ (D : Nat) (xs : List α) (W : World), w.heap.size ≤ D → S xs → I xs W → W.heap[D]? = some (.deferred (some [])) → Q .normal { a with defers := { target := .collected D, args := #[] } :: a.defers } W) :
  (Code.rangeFunc g ps assign body).wpIn F n P Q a w := by
 refine wpIn_rangeFunc fun fn hfn => ?_
 rw [hro]
 obtain ⟨L, hL⟩ : ∃ L : LoopState → Option Code → Loop, L = fun st pe => { state := st, pending := pe, fn, tmps := a.tmps, params := ps, assign, body, defers := w.heap.size } := ⟨_, rfl⟩
 obtain ⟨V, hV⟩ : ∃ V, (w.alloc (.deferred (some []))).alloc (.loop (L .ready none)) = V := ⟨_, rfl⟩
 have vl : V.heap[w.heap.size + 1]? = some (.loop (L .ready none)) := by
  rw [← hV]; have := World.alloc_heap_new (w.alloc (.deferred (some []))) (.loop (L .ready none)); rwa [World.size_alloc] at this
 have vd : V.heap[w.heap.size]? = some (.deferred (some [])) := by
  rw [← hV]; exact (Below.heap_alloc _ _ _ (by simp)).trans (World.alloc_heap_new w _)
 refine ⟨w.heap.size + 1, [{ target := .collected w.heap.size, args := #[] }], V, { target := .fn (.func gf) lb, args := #[.func (.yield (w.heap.size + 1)) #[] #[]] }, V, gf,
  #[.func (.yield (w.heap.size + 1)) #[] #[]] ++ lb, V, by rw [← hV, hL]; exact run_enterLoop_outer _ _ _ _ _, by simp only [resolve, hg]; simp [go_sem], ?_, by simp [invoke, go_sem, eg], fun _ => h1, ?_⟩
 ·intro f' hf'
  simp [Target.leads] at hf'
  subst hf'
  exact hFg
 refine (hseq (w.heap.size + 1) (fun pre W => (I pre W ∧ w.heap.size + 1 < W.heap.size) ∧ W.heap[w.heap.size + 1]? = some (.loop (L .ready none)) ∧ W.heap[w.heap.size]? = some (.deferred (some []))) V ?_ ?_ ?_ ?_).mono ?_
 ·rw [← hV]; exact hb0.trans ((((Below.refl _ w).alloc (Nat.le_refl _) _).alloc (by simp) _).mono hb0.size)
 ·rintro s A B ⟨⟨i1, i2⟩, i3, i4⟩ hgr
  exact ⟨⟨hI s A B none i1 hgr (fun r e => by cases e), Nat.lt_of_lt_of_le i2 hgr.size⟩, (hgr.block _ i2 (by simp)).trans i3, (hgr.block _ (by omega) (by simp)).trans i4⟩
 ·rintro pre x W ⟨⟨i1, i2⟩, i3, i4⟩ hx hlen
  have hy := run_yield (P := P) (args := encs x) i3 (by rw [hL]; exact hps x)
  rw [hL] at hy
  refine ⟨fn, _, assign, body, hy, roundIn_of_wpIn hfn (hassign _ x W _ ?_)⟩
  refine ⟨_, run_beginRound i3 (by rw [hL]), ?_⟩
  have l2 : (W.putObj (w.heap.size + 1) (.loop { L .ready none with state := .busy })).heap[w.heap.size + 1]? = some (.loop { L .ready none with state := .busy }) := World.putObj_heap_same i2
  have d2 : (W.putObj (w.heap.size + 1) (.loop { L .ready none with state := .busy })).heap[w.heap.size]? = some (.deferred (some [])) := (World.putObj_heap_other (by omega)).trans i4
  have k2 : Kp W (W.putObj (w.heap.size + 1) (.loop { L .ready none with state := .busy })) := hKb _ _ _ _ (by omega) i3 rfl
  refine wpIn_mono (hbody _ pre x _ (hI.putObj _ i1 (by omega) i3 rfl) ((hHd _ x).putObj (s := ()) _ hx (by omega) i3 rfl) hlen) ?_
  rintro e a3 W3 hp
  cases e with
  | normal =>
   obtain ⟨q1, q2, q3⟩ := hp
   have l3 := q1.same _ _ (by omega) l2 rfl
   have d3 := q1.same _ _ (Nat.le_refl _) d2 rfl
   have hr := run_endRound (P := P) none l3
   have hlt := (Array.getElem?_eq_some_iff.1 l3).1
   refine ⟨_, _, hr, rfl, ⟨⟨hI.putObj _ q3 (by omega) l3 rfl, Nat.lt_of_lt_of_le hlt (grownBy_putObj' _ _ _).size⟩, ?_, (World.putObj_heap_other (by omega)).trans d3⟩, hKt (hKt k2 q2) (hKb _ _ _ _ (by omega) l3 rfl)⟩
   rw [World.putObj_heap_same hlt, hL]
   rfl
  | ret => exact hp.elim
  | exit id => exact hp.elim
  | goto t => exact hp.elim
  | panic ch => exact hp.elim
  | outgrown => exact hp.elim
 ·refine ⟨⟨?_, ?_⟩, vl, vd⟩
  ·rw [← hV]; exact hI.alloc _ (hI.alloc _ h0)
  ·rw [← hV]; simp
 ·rintro e W2 ⟨⟨v, rfl⟩, xs, hS, ⟨i1, i2⟩, i3, i4⟩
  exact ⟨none, _, by have := run_endLoop (P := P) i3 (by rw [hL]; simp); rw [hL] at this; exact this, hdone _ xs _ (Nat.le_refl _) hS (hI.putObj _ i1 (by omega) i3 rfl) ((World.putObj_heap_other (by omega)).trans i4)⟩
end
end Go.Proofs.YtpdakdcmahlghaaGreat.XCo
end
section
namespace Go.Proofs.YtpdakdcmahlghaaGreat.XCo
open Go.RowKit Go.Proofs.YtpdakdcmahlghaaGreatW.PrintWords Go.Proofs.YtpdakdcmahlghaaGreatW.PrintLast Go.Proofs.YtpdakdcmahlghaaGreatW.PrintMore
attribute [local go_sem] aAz aBz aIz aJz atz auz aCz aDz
set_option linter.unusedVariables false
set_option linter.unusedSimpArgs false
attribute [local go_sem] Oper.semAt_some
def four4 (n : Int) : List Int := [n / 256 / 256 / 256 % 256, n / 256 / 256 % 256, n / 256 % 256, n % 256]
def laidL (ahead : Nat) (b : List Int) : List Int := (four4 (b.length : Int)).drop (4 - ahead) ++ b
def KpC (ex : Nat → Prop) (W W' : World) : Prop := W.heap.size ≤ W'.heap.size ∧ ∀ (k : Nat) (o : Obj), W.heap[k]? = some o → o.isCells = true → ¬ ex k → W'.heap[k]? = some o
theorem KpC.trans {ex : Nat → Prop} {A B C : World} (h : KpC ex A B) (k : KpC ex B C) : KpC ex A C := ⟨Nat.le_trans h.1 k.1, fun i o hi ho he => k.2 i o (h.2 i o hi ho he) ho he⟩
theorem KpC.refl (ex : Nat → Prop) (A : World) : KpC ex A A := ⟨Nat.le_refl _, fun _ _ h _ _ => h⟩
theorem KpC.of_below {ex : Nat → Prop} {A B : World} (h : Below A.heap.size A B) : KpC ex A B := ⟨h.size, fun k o hk _ _ => (h.block k (apz hk)).trans hk⟩
def ItN (all : List Int) (m : Nat) (x : Nat × Int) (_ : World) : Prop := x.1 = m ∧ all[m]? = some x.2
set_option maxRecDepth 100000 in
theorem laid.calls (ahead : Int) (A : Option Addr) (n c : Nat) (W : World) : Calls Tryz.prog 90 #[.int .i64 ahead, .slice A n c] W fun e w' => e = .returned (.func (.func 134) #[] #[.pointer (some ⟨W.heap.size + 1, 0, none⟩), .pointer (some ⟨W.heap.size, 0, none⟩)]) ∧ w' = (W.alloc (.cells #[.int .i64 ahead] 3)).alloc (.cells #[.slice A n c] 34) := by
 have hmf : ∀ (fn : Fn) (first cap : Array Value) (w : World), (Instr.makeFunc fn first cap).run Tryz.prog w = .ok (.func fn first cap) w := fun _ _ _ _ => rfl
 go_enter Tryz.func90, Tryz.ntmps90
 go_wp2
 go_ret
 exact ⟨by simp, rfl⟩
theorem C_numsK {k : IntKind} {w : World} {g : Nat} {t : TypeId} {xs : List Int} (h : w.heap[g]? = some (.cells (nums k xs).toArray t (0, 0))) (hl : xs.length ≤ 9223372036854775807) : Kd.C (Kd.int k) w (some ⟨g, 0, none⟩) xs.length xs := by
 refine ⟨rfl, hl, fun _ => ⟨_, rfl, fun j p hp => ⟨[.int k p], rfl, rfl, fun i u hu => ?_⟩⟩⟩
 obtain ⟨hj, rfl⟩ := List.getElem?_eq_some_iff.1 hp
 cases i with
 | succ i => simp at hu
 | zero =>
  obtain rfl : Value.int k xs[j] = u := by simpa using hu
  have e : (⟨g, 0, none⟩ : Addr).add (j * (Kd.int k).sz + 0) = ⟨g, j, none⟩ := by
   show (⟨g, 0, none⟩ : Addr).add (j * 1 + 0) = _
   unfold Addr.add
   split <;> simp_all
  rw [e, aaz h j]
  simp [nums, hj]
theorem C_twoB {w : World} {g cx cy : Nat} {X Y : Option Addr} {x y : List Int} (h : w.heap[g]? = some (.cells #[.slice X x.length cx, .slice Y y.length cy] 34 (0, 0))) (h1 : x.length ≤ cx) (h2 : y.length ≤ cy) (hx : Kd.C (Kd.int .u8) w X x.length x) (hy : Kd.C (Kd.int .u8) w Y y.length y) : Kd.C (Kd.slice 5 (Kd.int .u8)) w (some ⟨g, 0, none⟩) [x, y].length [x, y] := by
 have ad : ∀ j, (⟨g, 0, none⟩ : Addr).add (j * 1 + 0) = ⟨g, j, none⟩ := fun j => by
  unfold Addr.add
  split <;> simp_all
 refine ⟨rfl, by simp, fun _ => ⟨_, rfl, fun j p hp => ?_⟩⟩
 match j, hp with
 | 0, hp =>
  obtain rfl : x = p := by simpa using hp
  refine ⟨[.slice X x.length cx], rfl, ⟨X, cx, rfl, h1, hx⟩, fun i u hu => ?_⟩
  cases i with
  | succ i => simp at hu
  | zero =>
   obtain rfl : Value.slice X x.length cx = u := by simpa using hu
   rw [show (⟨g, 0, none⟩ : Addr).add (0 * (Kd.slice 5 (Kd.int .u8)).sz + 0) = ⟨g, 0, none⟩ from ad 0, aaz h 0]; rfl
 | 1, hp =>
  obtain rfl : y = p := by simpa using hp
  refine ⟨[.slice Y y.length cy], rfl, ⟨Y, cy, rfl, h2, hy⟩, fun i u hu => ?_⟩
  cases i with
  | succ i => simp at hu
  | zero =>
   obtain rfl : Value.slice Y y.length cy = u := by simpa using hu
   rw [show (⟨g, 0, none⟩ : Addr).add (1 * (Kd.slice 5 (Kd.int .u8)).sz + 0) = ⟨g, 1, none⟩ from ad 1, aaz h 1]; rfl
 | j + 2, hp => simp at hp
set_option maxRecDepth 100000 in
set_option maxHeartbeats 4000000 in
theorem laid1_in0 (l b1 b2 n c : Nat) (ex : Nat → Prop) (A : Option Addr) (b : List Int) (W : World) (J : List (Nat × Int) → World → Prop)
  (hb : Kd.C (Kd.int .u8) W A b.length b) (hn : b.length = n) (hnc : n ≤ c) (hnn : n ≤ 100000) (hB1 : W.heap[b1]? = some (.cells #[.int .i64 0] 3 (0, 0))) (hB2 : W.heap[b2]? = some (.cells #[.slice A n c] 34 (0, 0))) (hex : ∀ k, ex k → k < W.heap.size) (hJ : ∀ s X Y, J s X → X.grownBy Y none → J s Y)
  (hY : ∀ pre x W1, J pre W1 → ItN (laidL 0 b) pre.length x W1 → pre.length < (laidL 0 b).length → YieldAt Fence.wide (7 - 1) Tryz.prog l #[.int .i64 (x.1 : Int), .int .u8 x.2] W1 fun e W' => e = .returned (.bool true) ∧ J (pre ++ [x]) W' ∧ KpC ex W1 W') (hJ0 : J [] W) :
  CallsIn Fence.wide 7 Tryz.prog 134 #[.func (.yield l) #[] #[], .pointer (some ⟨b2, 0, none⟩), .pointer (some ⟨b1, 0, none⟩)] W fun e W' => (∃ v, e = .returned v) ∧ ∃ xs : List (Nat × Int), xs.map Prod.snd = laidL 0 b ∧ xs.length = (laidL 0 b).length ∧ J xs W' := by
 obtain ⟨all, hall⟩ : ∃ all, laidL 0 b = all := ⟨_, rfl⟩
 have HAL0 := Aside0.mk hall
 rw [hall] at hY ⊢
 clear hall
 have hc1 : W.cell? ⟨b1, 0, none⟩ = some (.int .i64 0) := (aaz hB1 0).trans rfl
 have hc2 : W.cell? ⟨b2, 0, none⟩ = some (.slice A n c) := (aaz hB2 0).trans rfl
 have HB := Aside0.mk hb
 have HN := Aside0.mk hn
 have HEX := Aside0.mk hex
 have HJ := Aside0.mk hJ
 have HY := Aside0.mk hY
 have HJ0 := Aside0.mk hJ0
 have HB1 := Aside0.mk hB1
 have HB2 := Aside0.mk hB2
 have n0 : (0 : Int) ≤ (n : Int) := by omega
 have d1 : (0 : Int) ≤ (n : Int) / 256 := by omega
 have d2 : (0 : Int) ≤ (n : Int) / 256 / 256 := by omega
 have d3 : (0 : Int) ≤ (n : Int) / 256 / 256 / 256 := by omega
 clear hb hn hex hJ hY hJ0 hB1 hB2
 refine callsIn_of_wp Tryz.func134 rfl trivial ?_ rfl
 simp only [Tryz.ntmps134, List.size_toArray, List.length_cons, List.length_nil, Nat.reduceAdd, Nat.reduceSub, Array.replicate_succ, Array.replicate_zero, List.push_toArray, List.append_toArray, List.nil_append, List.cons_append]
 gi_wp2
 have hf4 : four4 (n : Int) = [(n : Int) / 256 / 256 / 256, (n : Int) / 256 / 256, (n : Int) / 256 % 256, (n : Int) % 256] := by unfold four4; simp; omega
 have HF4 := Aside0.mk hf4
 generalize (n : Int) / 256 / 256 / 256 = f0 at *
 generalize (n : Int) / 256 / 256 = f1 at *
 generalize (n : Int) / 256 % 256 = f2 at *
 generalize (n : Int) % 256 = f3 at *
 generalize (n : Int) / 256 = f5 at *
 have HFB := Aside0.mk (heap_alloc_new W (.cells #[.int .u8 f0, .int .u8 f1, .int .u8 f2, .int .u8 f3] 43))
 have HBW := Aside0.mk (abz (Below.refl W.heap.size W) (.cells #[.int .u8 f0, .int .u8 f1, .int .u8 f2, .int .u8 f3] 43))
 have hz1 := World.size_alloc W (.cells #[.int .u8 f0, .int .u8 f1, .int .u8 f2, .int .u8 f3] 43)
 have HSZ := Aside0.mk hz1
 clear hf4 d1 d2 d3 hz1
 generalize W.alloc (.cells #[.int .u8 f0, .int .u8 f1, .int .u8 f2, .int .u8 f3] 43) = w1 at HFB HBW HSZ ⊢
 obtain ⟨fb, hfb⟩ : ∃ fb, fb = W.heap.size := ⟨_, rfl⟩
 have HFE := Aside0.mk hfb
 rw [← hfb] at HFB ⊢
 clear hfb
 have e1 : w1.cell? ⟨b1, 0, none⟩ = some (.int .i64 0) := (aaz (aez HB1.out HBW.out) 0).trans rfl
 have e2 : w1.cell? ⟨b2, 0, none⟩ = some (.slice A n c) := (aaz (aez HB2.out HBW.out) 0).trans rfl
 have hw4 : wrap64 4 = 4 := by unfold wrap64; omega
 have hw0 : wrap64 0 = 0 := by unfold wrap64; omega
 clear hc1 hc2
 have HALL := Aside0.mk (show [[], b].flatten = all by
  rw [← HAL0.out]
  unfold laidL
  rw [HN.out, HF4.out]
  simp)
 have HALN := Aside0.mk (show all.length = n + 0 by rw [← HALL.out]; simp [HN.out]; try omega)
 have hcc := C_twoB (w := (w1.alloc (.cells #[.slice (some ⟨fb, 0, none⟩) 0 0, .slice A n c] 34)).drew) (g := w1.heap.size) (x := []) (y := b) (X := some ⟨fb, 0, none⟩) (cx := 0) (Y := A) (cy := c) (by rw [HN.out]; exact heap_alloc_new _ _) (by simp) (by rw [HN.out]; exact hnc) ⟨rfl, by simp, fun h => absurd h (by decide)⟩ (Kd.bhz (Kd.aHz (Kd.aHz HB.out HBW.out) (abz (Below.refl _ _) _)) 1)
 have HCON := Aside0.mk (concat_b.calls (some ⟨w1.heap.size, 0, none⟩) 2 [[], b] (w1.alloc (.cells #[.slice (some ⟨fb, 0, none⟩) 0 0, .slice A n c] 34)).drew hcc (by simp) (by rw [HALL.out, HALN.out]; omega))
 rw [HALL.out, show [[], b].length = 2 from rfl] at HCON
 clear hcc
 refine (wpIn_wide (n := 7)).2 ?_
 refine bez (n := 8) (S := fun w' => w'.cell? ⟨b1, 0, none⟩ = some (.int .i64 0) ∧ w'.cell? ⟨b2, 0, none⟩ = some (.slice A n c)) (ds := [5]) (bA 8 0) kr_ rfl rfl ⟨e1, e2⟩ (fun hHeld => ?_)
 refine pu_ 7 32 128 ?_
 refine tk_ 0 25 129 hHeld ?_
 refine pu_ 1 26 131 ?_
 refine pu_ 2 27 135 ?_
 refine tk_ 3 28 143 hHeld ?_
 refine one_ (i := 4) (N := some 29) (bA 8 159) rfl rfl kr_ (by decide) (fun K hK => ?_)
 refine btz (w1 := ?_) (v := ?_) (by rfl) rfl ?_ ?_
 rotate_left 2
 ·go_simp
  constructor
  ·rfl
  ·rfl
 refine hK.out _ _ ⟨(World.cell?_alloc_past _ _ _ (World.block_lt_of_cell? _ _ e1)).trans e1, (World.cell?_alloc_past _ _ _ (World.block_lt_of_cell? _ _ e2)).trans e2⟩ (fun hHeld => ?_)
 clear hK K
 refine norm_ (a' := ?_) ?_ ?_
 rotate_left
 ·show Act.put _ (some 29) _ = _
  simp only [Act.put, List.setIfInBounds_toArray, List.set_cons_zero, List.set_cons_succ, i64_w, i32_w]
  rfl
 refine last_ (i := 5) (N := some 30) (bA 8 191) rfl rfl kr_ (by decide) (fun K hK => ?_)
 refine goes_ Tryz.func135 kr_ rfl #[.slice (some ⟨w1.heap.size, 0, none⟩) 2 2] (by rfl) rfl rfl am_ ?_
 with_reducible refine (HCON.out).mono ?_
 rintro e w4 ⟨v4, rfl, r1, r2⟩
 refine ⟨_, rfl, ?_⟩
 obtain ⟨va, vc, rfl⟩ := Kd.aPz r1
 have R1 := Aside0.mk r1
 have R2 := Aside0.mk r2
 clear r1 r2
 refine hK.out _ _ ?_
 clear hK K
 refine norm_ (a' := ?_) ?_ ?_
 rotate_left
 ·show Act.put _ (some 30) _ = _
  simp only [Act.put, List.setIfInBounds_toArray, List.set_cons_zero, List.set_cons_succ, i64_w, i32_w]
  rfl
 refine pu_ 6 31 255 ?_
 refine done_ kr_ ?_
 have HW4 := Aside0.mk (show Below W.heap.size W w4 from HBW.out.trans ((show Below w1.heap.size w1 w4 from (show Below w1.heap.size w1 (w1.alloc (.cells #[.slice (some ⟨fb, 0, none⟩) 0 0, .slice A n c] 34)).drew from blz (abz (Below.refl _ _) _)).trans (R2.out.mono (by simp))).mono HBW.out.size))
 have hR1 := R1.out
 have HR4 := Aside0.mk (show ∀ w5, KpC ex w4 w5 → Kd.C (Kd.int .u8) w5 va all.length all from fun w5 hk => (Kd.aKz (Kd.bzz (Kd.cnz rfl hR1) (fun k hk2 => by
  obtain ⟨cells, hc⟩ := Kd.cmz hR1 k hk2.symm
  have h1 := Kd.b4z hR1 k hk2.symm
  exact (hk.2 k _ hc rfl (fun e => by have := HEX.out k e; have h3 := HBW.out.size; simp at h1; omega)).trans hc.symm))).2.2)
 have HJ4 := Aside0.mk (show J [] w4 from HJ.out _ W w4 HJ0.out ⟨HW4.out.os, HW4.out.tape, HW4.out.output, HW4.out.size, fun i hi _ => HW4.out.block i hi⟩)
 obtain ⟨N, hN⟩ : ∃ N, all.length = N := ⟨_, rfl⟩
 have HNN := Aside0.mk hN
 have hNb : N ≤ 1000000 := by have := HALN.out; omega
 rw [hN] at HR4 HY ⊢
 clear hR1 hN e1 e2 hw4 hw0 HCON HALL HF4
 gi_wp2
 gi_loopw [32] (fun iv wr => ∃ (k : Nat) (pre : List (Nat × Int)), k ≤ N ∧ iv = .int .i64 (k : Int) ∧ Aside0 (pre.map Prod.snd = all.take k) ∧ Aside0 (J pre wr) ∧ Aside0 (KpC ex w4 wr)) (fun iv _ => N - (intOf iv).toNat)
 case atStart => exact ⟨0, [], Nat.zero_le _, rfl, ⟨rfl⟩, HJ4, ⟨KpC.refl _ _⟩⟩
 clear HJ4
 obtain ⟨w5, rfl⟩ : ∃ w', w' = wr := ⟨_, rfl⟩
 obtain ⟨k, pre, hk, rfl, HP, HJP, HK⟩ := hrel
 by_cases hlt : k < N
 ·obtain ⟨x, hx⟩ : ∃ x, all[k]? = some x := ⟨_, List.getElem?_eq_getElem (by have := HNN.out; omega)⟩
  obtain ⟨ad, rfl, hcx⟩ := bVz (HNN.out.symm ▸ HR4.out w5 HK.out) k x hx
  have hpl : pre.length = k := by have := congrArg List.length HP.out; simp at this; have := HNN.out; omega
  obtain ⟨fn, tmps, assign, body, hy, hR⟩ := HY.out pre (k, x) w5 HJP.out (by rw [hpl]; exact ⟨rfl, hx⟩) (by omega)
  have HRR := Aside0.mk hR
  have HP2 := Aside0.mk (show (pre ++ [(k, x)]).map Prod.snd = all.take (k + 1) by rw [List.map_append, HP.out, List.take_add_one, hx]; rfl)
  have k1 : (0 : Int) ≤ (k : Int) := by omega
  have k2 : (k : Int) < (N : Int) := by omega
  dsimp only at hy
  clear hR hx hpl
  gi_wp2
  refine HRR.out.mono ?_
  rintro e w6 ⟨rfl, hJ3, hk3⟩
  have HJ3 := Aside0.mk hJ3
  have HK3 := Aside0.mk (HK.out.trans hk3)
  clear hy hJ3 hk3 hcx
  gi_wp2
  go_roundw
  case rel => exact ⟨k + 1, pre ++ [(k, x)], by omega, by go_num, HP2, HJ3, HK3⟩
  case measure => simp [intOf]; omega
 ·obtain rfl : k = N := by omega
  have HE := Aside0.mk (show pre.map Prod.snd = all by rw [HP.out, List.take_of_length_le (by rw [HNN.out]; exact Nat.le_refl _)])
  gi_wp2
  go_end0
  exact ⟨⟨_, rfl⟩, pre, HE.out, by rw [← HE.out, List.length_map], HJP.out⟩
set_option maxRecDepth 100000 in
set_option maxHeartbeats 4000000 in
theorem laid1_in4 (l b1 b2 n c : Nat) (ex : Nat → Prop) (A : Option Addr) (b : List Int) (W : World) (J : List (Nat × Int) → World → Prop)
  (hb : Kd.C (Kd.int .u8) W A b.length b) (hn : b.length = n) (hnc : n ≤ c) (hnn : n ≤ 100000) (hB1 : W.heap[b1]? = some (.cells #[.int .i64 4] 3 (0, 0))) (hB2 : W.heap[b2]? = some (.cells #[.slice A n c] 34 (0, 0))) (hex : ∀ k, ex k → k < W.heap.size) (hJ : ∀ s X Y, J s X → X.grownBy Y none → J s Y)
  (hY : ∀ pre x W1, J pre W1 → ItN (laidL 4 b) pre.length x W1 → pre.length < (laidL 4 b).length → YieldAt Fence.wide (7 - 1) Tryz.prog l #[.int .i64 (x.1 : Int), .int .u8 x.2] W1 fun e W' => e = .returned (.bool true) ∧ J (pre ++ [x]) W' ∧ KpC ex W1 W') (hJ0 : J [] W) :
  CallsIn Fence.wide 7 Tryz.prog 134 #[.func (.yield l) #[] #[], .pointer (some ⟨b2, 0, none⟩), .pointer (some ⟨b1, 0, none⟩)] W fun e W' => (∃ v, e = .returned v) ∧ ∃ xs : List (Nat × Int), xs.map Prod.snd = laidL 4 b ∧ xs.length = (laidL 4 b).length ∧ J xs W' := by
 obtain ⟨all, hall⟩ : ∃ all, laidL 4 b = all := ⟨_, rfl⟩
 have HAL0 := Aside0.mk hall
 rw [hall] at hY ⊢
 clear hall
 have hc1 : W.cell? ⟨b1, 0, none⟩ = some (.int .i64 4) := (aaz hB1 0).trans rfl
 have hc2 : W.cell? ⟨b2, 0, none⟩ = some (.slice A n c) := (aaz hB2 0).trans rfl
 have HB := Aside0.mk hb
 have HN := Aside0.mk hn
 have HEX := Aside0.mk hex
 have HJ := Aside0.mk hJ
 have HY := Aside0.mk hY
 have HJ0 := Aside0.mk hJ0
 have HB1 := Aside0.mk hB1
 have HB2 := Aside0.mk hB2
 have n0 : (0 : Int) ≤ (n : Int) := by omega
 have d1 : (0 : Int) ≤ (n : Int) / 256 := by omega
 have d2 : (0 : Int) ≤ (n : Int) / 256 / 256 := by omega
 have d3 : (0 : Int) ≤ (n : Int) / 256 / 256 / 256 := by omega
 clear hb hn hex hJ hY hJ0 hB1 hB2
 refine callsIn_of_wp Tryz.func134 rfl trivial ?_ rfl
 simp only [Tryz.ntmps134, List.size_toArray, List.length_cons, List.length_nil, Nat.reduceAdd, Nat.reduceSub, Array.replicate_succ, Array.replicate_zero, List.push_toArray, List.append_toArray, List.nil_append, List.cons_append]
 gi_wp2
 have hf4 : four4 (n : Int) = [(n : Int) / 256 / 256 / 256, (n : Int) / 256 / 256, (n : Int) / 256 % 256, (n : Int) % 256] := by unfold four4; simp; omega
 have HF4 := Aside0.mk hf4
 generalize (n : Int) / 256 / 256 / 256 = f0 at *
 generalize (n : Int) / 256 / 256 = f1 at *
 generalize (n : Int) / 256 % 256 = f2 at *
 generalize (n : Int) % 256 = f3 at *
 generalize (n : Int) / 256 = f5 at *
 have HFB := Aside0.mk (heap_alloc_new W (.cells #[.int .u8 f0, .int .u8 f1, .int .u8 f2, .int .u8 f3] 43))
 have HBW := Aside0.mk (abz (Below.refl W.heap.size W) (.cells #[.int .u8 f0, .int .u8 f1, .int .u8 f2, .int .u8 f3] 43))
 have hz1 := World.size_alloc W (.cells #[.int .u8 f0, .int .u8 f1, .int .u8 f2, .int .u8 f3] 43)
 have HSZ := Aside0.mk hz1
 clear hf4 d1 d2 d3 hz1
 generalize W.alloc (.cells #[.int .u8 f0, .int .u8 f1, .int .u8 f2, .int .u8 f3] 43) = w1 at HFB HBW HSZ ⊢
 obtain ⟨fb, hfb⟩ : ∃ fb, fb = W.heap.size := ⟨_, rfl⟩
 have HFE := Aside0.mk hfb
 rw [← hfb] at HFB ⊢
 clear hfb
 have e1 : w1.cell? ⟨b1, 0, none⟩ = some (.int .i64 4) := (aaz (aez HB1.out HBW.out) 0).trans rfl
 have e2 : w1.cell? ⟨b2, 0, none⟩ = some (.slice A n c) := (aaz (aez HB2.out HBW.out) 0).trans rfl
 have hw4 : wrap64 4 = 4 := by unfold wrap64; omega
 have hw0 : wrap64 0 = 0 := by unfold wrap64; omega
 clear hc1 hc2
 have HALL := Aside0.mk (show [[f0, f1, f2, f3], b].flatten = all by
  rw [← HAL0.out]
  unfold laidL
  rw [HN.out, HF4.out]
  simp)
 have HALN := Aside0.mk (show all.length = n + 4 by rw [← HALL.out]; simp [HN.out]; try omega)
 have hcc := C_twoB (w := (w1.alloc (.cells #[.slice (some ⟨fb, 0, none⟩) 4 4, .slice A n c] 34)).drew) (g := w1.heap.size) (x := [f0, f1, f2, f3]) (y := b) (X := some ⟨fb, 0, none⟩) (cx := 4) (Y := A) (cy := c) (by rw [HN.out]; exact heap_alloc_new _ _) (by simp) (by rw [HN.out]; exact hnc) (C_numsK (k := .u8) (xs := [f0, f1, f2, f3]) (w := (w1.alloc (.cells #[.slice (some ⟨fb, 0, none⟩) 4 4, .slice A n c] 34)).drew) (aez HFB.out (blz (abz (Below.refl _ _) _))) (by simp)) (Kd.bhz (Kd.aHz (Kd.aHz HB.out HBW.out) (abz (Below.refl _ _) _)) 1)
 have HCON := Aside0.mk (concat_b.calls (some ⟨w1.heap.size, 0, none⟩) 2 [[f0, f1, f2, f3], b] (w1.alloc (.cells #[.slice (some ⟨fb, 0, none⟩) 4 4, .slice A n c] 34)).drew hcc (by simp) (by rw [HALL.out, HALN.out]; omega))
 rw [HALL.out, show [[f0, f1, f2, f3], b].length = 2 from rfl] at HCON
 clear hcc
 refine (wpIn_wide (n := 7)).2 ?_
 refine bez (n := 8) (S := fun w' => w'.cell? ⟨b1, 0, none⟩ = some (.int .i64 4) ∧ w'.cell? ⟨b2, 0, none⟩ = some (.slice A n c)) (ds := [5]) (bA 8 0) kr_ rfl rfl ⟨e1, e2⟩ (fun hHeld => ?_)
 refine pu_ 7 32 128 ?_
 refine tk_ 0 25 129 hHeld ?_
 refine pu_ 1 26 131 ?_
 refine pu_ 2 27 135 ?_
 refine tk_ 3 28 143 hHeld ?_
 refine one_ (i := 4) (N := some 29) (bA 8 159) rfl rfl kr_ (by decide) (fun K hK => ?_)
 refine btz (w1 := ?_) (v := ?_) (by rfl) rfl ?_ ?_
 rotate_left 2
 ·go_simp
  constructor
  ·rfl
  ·rfl
 refine hK.out _ _ ⟨(World.cell?_alloc_past _ _ _ (World.block_lt_of_cell? _ _ e1)).trans e1, (World.cell?_alloc_past _ _ _ (World.block_lt_of_cell? _ _ e2)).trans e2⟩ (fun hHeld => ?_)
 clear hK K
 refine norm_ (a' := ?_) ?_ ?_
 rotate_left
 ·show Act.put _ (some 29) _ = _
  simp only [Act.put, List.setIfInBounds_toArray, List.set_cons_zero, List.set_cons_succ, i64_w, i32_w]
  rfl
 refine last_ (i := 5) (N := some 30) (bA 8 191) rfl rfl kr_ (by decide) (fun K hK => ?_)
 refine goes_ Tryz.func135 kr_ rfl #[.slice (some ⟨w1.heap.size, 0, none⟩) 2 2] (by rfl) rfl rfl am_ ?_
 with_reducible refine (HCON.out).mono ?_
 rintro e w4 ⟨v4, rfl, r1, r2⟩
 refine ⟨_, rfl, ?_⟩
 obtain ⟨va, vc, rfl⟩ := Kd.aPz r1
 have R1 := Aside0.mk r1
 have R2 := Aside0.mk r2
 clear r1 r2
 refine hK.out _ _ ?_
 clear hK K
 refine norm_ (a' := ?_) ?_ ?_
 rotate_left
 ·show Act.put _ (some 30) _ = _
  simp only [Act.put, List.setIfInBounds_toArray, List.set_cons_zero, List.set_cons_succ, i64_w, i32_w]
  rfl
 refine pu_ 6 31 255 ?_
 refine done_ kr_ ?_
 have HW4 := Aside0.mk (show Below W.heap.size W w4 from HBW.out.trans ((show Below w1.heap.size w1 w4 from (show Below w1.heap.size w1 (w1.alloc (.cells #[.slice (some ⟨fb, 0, none⟩) 4 4, .slice A n c] 34)).drew from blz (abz (Below.refl _ _) _)).trans (R2.out.mono (by simp))).mono HBW.out.size))
 have hR1 := R1.out
 have HR4 := Aside0.mk (show ∀ w5, KpC ex w4 w5 → Kd.C (Kd.int .u8) w5 va all.length all from fun w5 hk => (Kd.aKz (Kd.bzz (Kd.cnz rfl hR1) (fun k hk2 => by
  obtain ⟨cells, hc⟩ := Kd.cmz hR1 k hk2.symm
  have h1 := Kd.b4z hR1 k hk2.symm
  exact (hk.2 k _ hc rfl (fun e => by have := HEX.out k e; have h3 := HBW.out.size; simp at h1; omega)).trans hc.symm))).2.2)
 have HJ4 := Aside0.mk (show J [] w4 from HJ.out _ W w4 HJ0.out ⟨HW4.out.os, HW4.out.tape, HW4.out.output, HW4.out.size, fun i hi _ => HW4.out.block i hi⟩)
 obtain ⟨N, hN⟩ : ∃ N, all.length = N := ⟨_, rfl⟩
 have HNN := Aside0.mk hN
 have hNb : N ≤ 1000000 := by have := HALN.out; omega
 rw [hN] at HR4 HY ⊢
 clear hR1 hN e1 e2 hw4 hw0 HCON HALL HF4
 gi_wp2
 gi_loopw [32] (fun iv wr => ∃ (k : Nat) (pre : List (Nat × Int)), k ≤ N ∧ iv = .int .i64 (k : Int) ∧ Aside0 (pre.map Prod.snd = all.take k) ∧ Aside0 (J pre wr) ∧ Aside0 (KpC ex w4 wr)) (fun iv _ => N - (intOf iv).toNat)
 case atStart => exact ⟨0, [], Nat.zero_le _, rfl, ⟨rfl⟩, HJ4, ⟨KpC.refl _ _⟩⟩
 clear HJ4
 obtain ⟨w5, rfl⟩ : ∃ w', w' = wr := ⟨_, rfl⟩
 obtain ⟨k, pre, hk, rfl, HP, HJP, HK⟩ := hrel
 by_cases hlt : k < N
 ·obtain ⟨x, hx⟩ : ∃ x, all[k]? = some x := ⟨_, List.getElem?_eq_getElem (by have := HNN.out; omega)⟩
  obtain ⟨ad, rfl, hcx⟩ := bVz (HNN.out.symm ▸ HR4.out w5 HK.out) k x hx
  have hpl : pre.length = k := by have := congrArg List.length HP.out; simp at this; have := HNN.out; omega
  obtain ⟨fn, tmps, assign, body, hy, hR⟩ := HY.out pre (k, x) w5 HJP.out (by rw [hpl]; exact ⟨rfl, hx⟩) (by omega)
  have HRR := Aside0.mk hR
  have HP2 := Aside0.mk (show (pre ++ [(k, x)]).map Prod.snd = all.take (k + 1) by rw [List.map_append, HP.out, List.take_add_one, hx]; rfl)
  have k1 : (0 : Int) ≤ (k : Int) := by omega
  have k2 : (k : Int) < (N : Int) := by omega
  dsimp only at hy
  clear hR hx hpl
  gi_wp2
  refine HRR.out.mono ?_
  rintro e w6 ⟨rfl, hJ3, hk3⟩
  have HJ3 := Aside0.mk hJ3
  have HK3 := Aside0.mk (HK.out.trans hk3)
  clear hy hJ3 hk3 hcx
  gi_wp2
  go_roundw
  case rel => exact ⟨k + 1, pre ++ [(k, x)], by omega, by go_num, HP2, HJ3, HK3⟩
  case measure => simp [intOf]; omega
 ·obtain rfl : k = N := by omega
  have HE := Aside0.mk (show pre.map Prod.snd = all by rw [HP.out, List.take_of_length_le (by rw [HNN.out]; exact Nat.le_refl _)])
  gi_wp2
  go_end0
  exact ⟨⟨_, rfl⟩, pre, HE.out, by rw [← HE.out, List.length_map], HJP.out⟩
theorem laid_seq (ahead b1 b2 n c : Nat) (hah : ahead = 0 ∨ ahead = 4) (ex : Nat → Prop) (A : Option Addr) (b : List Int) (w : World)
  (hb : Kd.C (Kd.int .u8) w A b.length b) (hn : b.length = n) (hnc : n ≤ c) (hnn : n ≤ 100000) (hB1 : w.heap[b1]? = some (.cells #[.int .i64 (ahead : Int)] 3 (0, 0))) (hB2 : w.heap[b2]? = some (.cells #[.slice A n c] 34 (0, 0))) (hex : ∀ k, ex k → k < w.heap.size) :
  SeqN Fence.wide 7 Tryz.prog 134 #[.pointer (some ⟨b2, 0, none⟩), .pointer (some ⟨b1, 0, none⟩)] (fun x : Nat × Int => #[.int .i64 (x.1 : Int), .int .u8 x.2]) (ItN (laidL ahead b)) (KpC ex) (fun xs => xs.map Prod.snd = laidL ahead b ∧ xs.length = (laidL ahead b).length) (laidL ahead b).length w := by
 intro l J W hW hJ hY hJ0
 have h1 := aez hB1 hW
 have h2 := aez hB2 hW
 have h3 := Kd.aHz hb hW
 have h4 : ∀ k, ex k → k < W.heap.size := fun k hk => Nat.lt_of_lt_of_le (hex k hk) hW.size
 rcases hah with rfl | rfl
 ·refine (laid1_in0 l b1 b2 n c ex A b W J h3 hn hnc hnn h1 h2 h4 hJ hY hJ0).mono ?_
  rintro e W' ⟨hv, xs, q1, q2, q3⟩
  exact ⟨hv, xs, ⟨q1, q2⟩, q3⟩
 ·refine (laid1_in4 l b1 b2 n c ex A b W J h3 hn hnc hnn h1 h2 h4 hJ hY hJ0).mono ?_
  rintro e W' ⟨hv, xs, q1, q2, q3⟩
  exact ⟨hv, xs, ⟨q1, q2⟩, q3⟩
end Go.Proofs.YtpdakdcmahlghaaGreat.XCo
end
section
namespace Go.Proofs.YtpdakdcmahlghaaGreat.XCo
open Go.RowKit Go.Proofs.YtpdakdcmahlghaaGreatW.PrintWords Go.Proofs.YtpdakdcmahlghaaGreatW.PrintLast Go.Proofs.YtpdakdcmahlghaaGreatW.PrintMore
attribute [local go_sem] aAz aBz aIz aJz atz auz aCz aDz
set_option linter.unusedVariables false
set_option linter.unusedSimpArgs false
def regOnly (K : Act → World → Prop) : Exit → Act → World → Prop
 | .normal, a, w => K a w
 | _, _, _ => False
theorem d2z {K : Act → World → Prop} {a : Act} {w : World} (h : K a w) : regOnly K .normal a w := h
theorem regOnly_ {P : Program} {c : Code} {Q : Exit → Act → World → Prop} {a : Act} {w : World} (h : c.wp P (regOnly (Q .normal)) a w) : c.wp P Q a w :=
 wp_mono h fun e a w h => by
  cases e with
  | normal => exact h
  | _ => exact h.elim
theorem S_new {e t : Nat} {k : IntKind} {W : World} {base o n cap : Nat} {ok : Nat → Prop} {rows : List (List Int)} (h : Kd.S (dM e k) t W base ok (.slice (some ⟨o, 0, none⟩) n cap) rows) (hb : base ≤ W.heap.size) (hok : ∀ q, W.heap.size ≤ q → ok q) (i : Nat) (hi : i < n) (xs : List Int) (hl : xs.length ≤ 1000000) :
  Kd.S (dM e k) t (((W.alloc (.cells (nums k xs).toArray e)).setCell ⟨o, i, none⟩ (.slice (some ⟨W.heap.size, 0, none⟩) xs.length xs.length))) base ok (.slice (some ⟨o, 0, none⟩) n cap) (rows.set i xs) := by
 have hlt : o < W.heap.size := Kd.S_lt h o (by simp [Value.ownBlock])
 have h1 : Kd.S (dM e k) t (W.alloc (.cells (nums k xs).toArray e)) base (fun q => ok q ∧ ¬ (q = W.heap.size)) (.slice (some ⟨o, 0, none⟩) n cap) rows := Kd.dpz (Kd.bBz (Kd.a4z h) (fun q hq => ⟨hq.1, by have := hq.2.2.1; omega⟩)) _
 obtain ⟨oki, c, hcl, hM, hcc, hfr, hoki, hH⟩ := Kd.S_elem h1 ([] : List Int) (i : Int) (by omega) (by omega)
 obtain ⟨u, rfl, hu⟩ := hM
 have hn0 : (W.alloc (.cells (nums k xs).toArray e)).heap[W.heap.size]? = some (.cells (nums k xs).toArray e (0, 0)) := heap_alloc_new _ _
 have hR : (Kd.int k).R e (W.alloc (.cells (nums k xs).toArray e)) base (fun q => q = W.heap.size) (.slice (some ⟨W.heap.size, 0, none⟩) xs.length xs.length) xs := by
  have h2 : (Kd.int k).R e (W.alloc (.cells (nums k xs).toArray e)) base (fun _ => True) (.slice (some ⟨W.heap.size, 0, none⟩) xs.length xs.length) xs :=
   b6z ⟨by rw [nums_length, Nat.mul_one], .inr ⟨_, xs.length, _, rfl, hb, hn0, Nat.le_refl _, by unfold maxLen; omega, by simp [nums_length], by simp; rw [List.take_of_length_le (by rw [nums_length]; exact Nat.le_refl _)]⟩⟩
  exact Kd.aVz (Kd.cnz rfl h2) (fun q hq => by simpa [Value.ownBlock] using hq)
 have h3 := (Kd.S_seg hH (by omega) (by omega) (seg := [.slice (some ⟨W.heap.size, 0, none⟩) xs.length xs.length]) (j := 0) (Nat.le_refl _) (x' := xs) (okp := fun q => q = W.heap.size) ⟨_, rfl, hR⟩ (fun q hq => .inr hq) (fun q hq => ⟨hok q (by omega), by omega⟩)).1
 rw [Int.toNat_natCast, show (dM e k).sz = 1 from rfl, Nat.mul_one, Nat.add_zero] at h3
 exact h3
theorem S_put2 {e t : Nat} {k : IntKind} {W : World} {base o n cap : Nat} {ok : Nat → Prop} {rows : List (List Int)} (h : Kd.S (dM e k) t W base ok (.slice (some ⟨o, 0, none⟩) n cap) rows) (i j : Nat) (row : List Int) (hr : rows[i]? = some row) (hj : j < row.length) (x : Int) :
  ∃ g c y, W.cell? ⟨o, i, none⟩ = some (.slice (some ⟨g, 0, none⟩) row.length c) ∧ W.cell? ⟨g, j, none⟩ = some (.int k y) ∧ W.frozen? ⟨g, j, none⟩ = false ∧ ok g ∧ g ≠ o ∧ Kd.S (dM e k) t (W.setCell ⟨g, j, none⟩ (.int k x)) base ok (.slice (some ⟨o, 0, none⟩) n cap) (rows.set i (row.set j x)) := by
 have hil := (List.getElem?_eq_some_iff.1 hr).1
 have hn := (Kd.S_reads' h).1
 obtain ⟨oki, c, hcl, hM, hcc, hoki, hback⟩ := Kd.S_borrow h ([] : List Int) (i : Int) (by omega) (by omega)
 rw [Int.toNat_natCast, List.getD_eq_getElem?_getD, hr] at hM
 obtain ⟨u, rfl, hu⟩ := hM
 have hu' : (Kd.int k).R e W base oki u row := hu
 obtain ⟨g, cg, rfl, -, -, -⟩ := Kd.cCz hu' (by omega)
 have hc0 := hcc 0 _ rfl
 rw [Int.toNat_natCast, show (dM e k).sz = 1 from rfl, Nat.mul_one, Nat.add_zero] at hc0
 have e1 : (⟨o, 0, none⟩ : Addr).add i = ⟨o, i, none⟩ := by
  unfold Addr.add
  split <;> simp_all
 rw [e1] at hc0
 obtain ⟨hcell, hfroz⟩ := Kd.R_cell (0 : Int) hu' (j : Int) (by omega) (by omega)
 rw [Int.toNat_natCast] at hcell hfroz
 have hgo : oki g := hu'.1 g (by simp [Value.ownBlock])
 obtain ⟨hp1, hp2⟩ := Kd.R_put hu' (j : Int) x
 rw [Int.toNat_natCast] at hp1 hp2
 have hS := hback (x' := row.set j x) hp2 (fun q hq => by
  injection hq with hq
  subst hq; exact hgo) (show (dM e k).M _ _ _ (row.set j x) [.slice (some ⟨g, 0, none⟩) row.length cg] from ⟨_, rfl, hp1⟩)
 rw [Int.toNat_natCast] at hS
 exact ⟨g, cg, _, hc0, hcell, hfroz, (hoki g hgo).1, fun e => (hoki g hgo).2 (by simp [Value.ownBlock, e]), hS⟩
theorem c1z {k : IntKind} {X Y : World} {base : Nat} {ok : Nat → Prop} {v : Value} {xs : List (List Int)} {e t : Nat} (h : Kd.S (dM e k) t X base ok v xs) (hm : ∀ (q : Nat) (o : Obj), X.heap[q]? = some o → o.isCells = true → Y.heap[q]? = X.heap[q]?) : Kd.S (dM e k) t Y base ok v xs := by
 refine Kd.bBz (Kd.S_move (Kd.a4z h) (fun q hq => ?_)) (fun q hq => hq.1)
 obtain ⟨-, -, hlt, z, -, cells, hc⟩ := hq
 exact hm q _ hc rfl
set_option maxRecDepth 100000 in
theorem make_bytes (n : Nat) (hn : n ≤ 1000000) (W : World) : (Instr.makeSlice 34 (.int .i64 (n : Int)) (.int .i64 (n : Int))).run Tryz.prog W = .ok (.slice (some ⟨W.heap.size, 0, none⟩) n n) (W.alloc (.cells (nums .u8 (List.replicate n 0)).toArray 5)) := by
 have hinfo : (Tryz.prog.info? 5).map (fun i => (i.zero, i.size, i.bytes)) = some (some (.int .u8 0), 1, 1) := by kernel_rfl
 obtain ⟨i, hi, he⟩ := Option.map_eq_some_iff.1 hinfo
 injection he with hz he
 injection he with hs hb
 have h := run_make (P := Tryz.prog) W 34 5 i (.int .u8 0) Tryz.underlying34 hi hz .i64 .i64 n n (by omega) (by omega) (by rw [hb]; omega) (by omega)
 rw [hs, Int.toNat_natCast, Nat.mul_one] at h
 rw [h]
 have : madeCells (Value.int .u8 0).cells n = (nums .u8 (List.replicate n 0)).toArray := by
  apply Array.ext'
  simp [madeCells, nums, Value.cells]
  apply List.ext_getElem
  ·simp
  ·intro i h1 h2; simp [Nat.mod_one]
 rw [this]
def madeTo (K size i : Nat) : List (List Int) := List.replicate i (List.replicate size 0) ++ List.replicate (K - i) []
theorem madeTo_step (K size i : Nat) (hi : i < K) : (madeTo K size i).set i (List.replicate size 0) = madeTo K size (i + 1) := by
 unfold madeTo
 rw [List.set_append_right _ _ (by simp), List.length_replicate, Nat.sub_self, show K - i = (K - (i + 1)) + 1 by omega, List.replicate_succ, List.set_cons_zero, List.replicate_succ' (n := i), List.append_assoc]
 rfl
theorem madeTo_zero (K size : Nat) : madeTo K size 0 = List.replicate K [] := by simp [madeTo]
theorem madeTo_full (K size : Nat) : madeTo K size K = List.replicate K (List.replicate size 0) := by simp [madeTo]
theorem S_cell {e t : Nat} {k : IntKind} {W : World} {base o n cap : Nat} {ok : Nat → Prop} {rows : List (List Int)} (h : Kd.S (dM e k) t W base ok (.slice (some ⟨o, 0, none⟩) n cap) rows) (i : Nat) (hi : i < n) : ∃ v, W.cell? ⟨o, i, none⟩ = some v ∧ W.frozen? ⟨o, i, none⟩ = false := by
 obtain ⟨oki, c, hcl, hM, hcc, hfr, hoki, hH⟩ := Kd.S_elem h ([] : List Int) (i : Int) (by omega) (by omega)
 obtain ⟨u, rfl, hu⟩ := hM
 have h0 := hcc 0 _ rfl
 have h1 := hfr 0
 rw [Int.toNat_natCast, show (dM e k).sz = 1 from rfl, Nat.mul_one, Nat.add_zero] at h0 h1
 exact ⟨_, h0, h1⟩
end Go.Proofs.YtpdakdcmahlghaaGreat.XCo
end
section
namespace Go.Proofs.YtpdakdcmahlghaaGreat.XCo
open Go.RowKit Go.Proofs.YtpdakdcmahlghaaGreatW.PrintWords Go.Proofs.YtpdakdcmahlghaaGreatW.PrintLast Go.Proofs.YtpdakdcmahlghaaGreatW.PrintMore
attribute [local go_sem] aAz aBz aIz aJz atz auz aCz aDz
set_option linter.unusedVariables false
set_option linter.unusedSimpArgs false
attribute [local go_sem] Oper.semAt_some
def aMz.fill (size : Nat) : List Int → Nat → List (List Int) → Option (List (List Int))
 | [], _, rows => some rows
 | c :: cs, i, rows => if i / size < rows.length then aMz.fill size cs (i + 1) (rows.set (i / size) ((rows.getD (i / size) []).set (i % size) c)) else none
def aMz.f (k : Nat) (a0_0 a0_1 a0_2 : Int) (l1 : List Int) : Option (List (List Int) × Int) :=
 (aEz.f k a0_0 a0_1 a0_2 (l1.length : Int)).bind fun s => if s.2 = 0 then (if 1 ≤ a0_1 then (if a0_1 ≤ 1000 then (if 1 ≤ s.1 then (if s.1 ≤ 100000 then (if l1.length ≤ 100000 then
  (bQz.f a0_0 a0_1 a0_2).bind fun u => (if u.2 = 0 ∨ u.2 = 4 then (aMz.fill s.1.toNat (laidL u.2.toNat l1) 0 (List.replicate a0_1.toNat (List.replicate s.1.toNat 0))).bind fun r => some (r, 0) else none)
  else none) else none) else none) else none) else none) else some ([], s.2)
set_option maxRecDepth 100000 in
set_option maxHeartbeats 4000000 in
theorem aMz.bad (k : Nat) (a0_0 a0_1 a0_2 : Int) (A1 : Option Addr) (c1 : Nat) (l1 : List Int) (s1 s2 : Int) (w : World) (h : aEz.f k a0_0 a0_1 a0_2 (l1.length : Int) = some (s1, s2)) (hs : s2 ≠ 0) :
  Calls Tryz.prog 55 #[.agg #[.int .i64 a0_0, .int .i64 a0_1, .int .i64 a0_2], .slice A1 l1.length c1] w fun e w' => e = .returned (.tuple #[.slice none 0 0, .int .i64 s2]) ∧ Below w.heap.size w w' := by
 have HZ := Aside0.mk (fun w => aEz.calls k a0_0 a0_1 a0_2 (l1.length : Int) s1 s2 w h)
 have hu := Tryz.underlying23
 have hb : (s2 != 0) = true := by simpa using hs
 generalize l1.length = n at HZ ⊢
 clear h hs
 go_enter Tryz.func55, Tryz.ntmps55
 go_wp2_with fail
 refine (HZ.out _).mono ?_
 rintro e w1 ⟨rfl, hB⟩
 have HB := Aside0.mk (show Below w.heap.size w w1 from (abz (Below.refl _ _) _).trans (hB.mono (by simp)))
 clear hB
 go_wp2
 go_ret2
 exact ⟨rfl, abz HB.out _⟩
set_option maxRecDepth 100000 in
set_option maxHeartbeats 4000000 in
theorem aMz.go (k : Nat) (a0_0 a0_2 : Int) (K size ahead n : Nat) (A1 : Option Addr) (c1 : Nat) (l1 : List Int) (u1 : Int) (res : List (List Int)) (w : World) (hr1 : Kd.C (Kd.int .u8) w A1 l1.length l1) (hc1 : n ≤ c1) (hn : l1.length = n) (hn2 : n ≤ 100000)
  (h : aEz.f k a0_0 (K : Int) a0_2 (n : Int) = some ((size : Int), 0)) (hK : 1 ≤ K) (hK2 : K ≤ 1000) (hs : 1 ≤ size) (hs2 : size ≤ 100000) (hru : bQz.f a0_0 (K : Int) a0_2 = some (u1, (ahead : Int))) (hah : ahead = 0 ∨ ahead = 4)
  (hf : aMz.fill size (laidL ahead l1) 0 (List.replicate K (List.replicate size 0)) = some res) :
  Calls Tryz.prog 55 #[.agg #[.int .i64 a0_0, .int .i64 (K : Int), .int .i64 a0_2], .slice A1 n c1] w fun e w' => ∃ v, e = .returned (.tuple #[v, .int .i64 0]) ∧ Kd.S (dM 5 .u8) 34 w' w.heap.size (fun _ => True) v res ∧ Below w.heap.size w w' := by
 have HZ := Aside0.mk (fun w => aEz.calls k a0_0 (K : Int) a0_2 (n : Int) (size : Int) 0 w h)
 have HRU := Aside0.mk (fun w => bQz.calls a0_0 (K : Int) a0_2 u1 (ahead : Int) w hru)
 have HR1 := Aside0.mk hr1
 have HN := Aside0.mk hn
 have HF := Aside0.mk hf
 have HAH := Aside0.mk hah
 have hu := Tryz.underlying23
 have hbx := heap_alloc_new w (.cells #[.int .i64 a0_0, .int .i64 (K : Int), .int .i64 a0_2] 23)
 have HBX := Aside0.mk hbx
 have HB0 := Aside0.mk (abz (Below.refl w.heap.size w) (.cells #[.int .i64 a0_0, .int .i64 (K : Int), .int .i64 a0_2] 23))
 clear h hru hr1 hn hf hah hbx
 refine (callsIn_wide (n := 8)).1 (callsIn_of_wp_marks Tryz.func55 rfl trivial (wpIn_wide.2 ?_) rfl)
 simp only [Tryz.ntmps55, List.size_toArray, List.length_cons, List.length_nil, Nat.reduceAdd, Nat.reduceSub, Array.replicate_succ, Array.replicate_zero, List.push_toArray, List.append_toArray, List.nil_append, List.cons_append]
 go_wp2_with fail
 generalize w.alloc (.cells #[.int .i64 a0_0, .int .i64 (K : Int), .int .i64 a0_2] 23) = w0 at HBX HB0 ⊢
 refine (HZ.out w0).mono ?_
 rintro e w1 ⟨rfl, hB1⟩
 have HB1 := Aside0.mk (HB0.out.trans (hB1.mono HB0.out.size))
 have HX1 := Aside0.mk (aez HBX.out hB1)
 have hcK : (w1.alloc (.cells #[.int .i64 (size : Int)] 3)).cell? ⟨w.heap.size, 1, none⟩ = some (.int .i64 (K : Int)) := (aaz (aez HX1.out (abz (Below.refl _ _) _)) 1).trans rfl
 have HSB1 := Aside0.mk (heap_alloc_new w1 (.cells #[.int .i64 (size : Int)] 3))
 have HB2 := Aside0.mk (abz HB1.out (.cells #[.int .i64 (size : Int)] 3))
 have HX2 := Aside0.mk (aez HX1.out (abz (Below.refl _ _) (.cells #[.int .i64 (size : Int)] 3)))
 have HSBW := Aside0.mk (show w.heap.size ≤ w1.heap.size from HB1.out.size)
 have HBASE := Aside0.mk (show w.heap.size ≤ (w1.alloc (.cells #[.int .i64 (size : Int)] 3)).heap.size from HB2.out.size)
 clear hB1 HBX HB0 HZ HB1 HX1
 go_wp2_with ((with_reducible refine ayz (N := 26) rfl ?_); go_must (refine Kd.S_make (dM 5 .u8) (w0 := w) w.heap.size 34 rfl rfl 24 (.tmp 25) (.tmp 25) rfl (K : Int) rfl rfl Tryz.underlying24 (.slice none 0 0) 24 kr_ rfl (by decide) (by decide) ([] : List Int) (ok := fun _ => True) (okp := fun _ => True) ⟨_, rfl, Kd.R_nil _ _ _ _ _⟩ (fun _ h => h) trivial (by omega) (by omega) HB2.out HBASE.out ?_); intro v2 w2 ho hb hg hat; rw [Int.toNat_natCast] at ho; obtain ⟨o, cap, rfl, -, -, -⟩ := Kd.S_form ho (by rw [List.length_replicate]; exact hK); have HO2 := Aside0.mk ho; have HB3 := Aside0.mk hb; have HG2 := Aside0.mk hg; clear ho hb hg hat)
 rw [List.length_replicate] at HO2
 obtain ⟨sb, hsb⟩ : ∃ sb, w1.heap.size = sb := ⟨_, rfl⟩
 obtain ⟨lbx, hlbx⟩ : ∃ lbx, w2.heap.size = lbx := ⟨_, rfl⟩
 have hz2 : sb < lbx := by
  have h1 := HG2.out.size
  simp at h1; omega
 have hwl : w.heap.size < sb := by
  have h1 := apz HX2.out
  have h2 := HSBW.out
  have h3 : w.heap.size ≠ w1.heap.size := fun e => by
   have h4 := HSB1.out
   rw [← e] at h4
   rw [HX2.out] at h4
   injection h4 with h4
   injection h4 with h5 h6
   exact absurd h6 (by decide)
  omega
 have HX3 := Aside0.mk (show (w2.alloc (.cells #[.slice (some ⟨o, 0, none⟩) K cap] 24)).heap[w.heap.size]? = some (.cells #[.int .i64 a0_0, .int .i64 (K : Int), .int .i64 a0_2] 23 (0, 0)) from aez ((HG2.out.block _ (apz HX2.out) (by simp)).trans HX2.out) (abz (Below.refl _ _) _))
 have HSB3 := Aside0.mk (show (w2.alloc (.cells #[.slice (some ⟨o, 0, none⟩) K cap] 24)).heap[sb]? = some (.cells #[.int .i64 (size : Int)] 3 (0, 0)) by rw [← hsb]; exact aez ((HG2.out.block _ (apz HSB1.out) (by simp)).trans HSB1.out) (abz (Below.refl _ _) _))
 have HLB3 := Aside0.mk (show (w2.alloc (.cells #[.slice (some ⟨o, 0, none⟩) K cap] 24)).heap[lbx]? = some (.cells #[.slice (some ⟨o, 0, none⟩) K cap] 24 (0, 0)) by rw [← hlbx]; exact heap_alloc_new _ _)
 have HO3 := Aside0.mk (show Kd.S (dM 5 .u8) 34 (w2.alloc (.cells #[.slice (some ⟨o, 0, none⟩) K cap] 24)) w.heap.size (fun _ => True) (.slice (some ⟨o, 0, none⟩) K cap) (madeTo K size 0) by rw [madeTo_zero]; exact Kd.dpz HO2.out _)
 have HB4 := Aside0.mk (abz HB3.out (.cells #[.slice (some ⟨o, 0, none⟩) K cap] 24))
 rw [hsb, hlbx]
 have HZ2 := Aside0.mk hz2
 have HWL := Aside0.mk hwl
 clear hsb hlbx HO2 HB3 HG2 HX2 HSB1 HB2 hcK HSBW HBASE hz2 hwl
 generalize w2.alloc (.cells #[.slice (some ⟨o, 0, none⟩) K cap] 24) = w3 at HX3 HSB3 HLB3 HO3 HB4 ⊢
 have hmk := make_bytes size (by omega)
 go_loopw [29] (fun iv wr => ∃ i : Nat, i ≤ K ∧ iv = .int .i64 (i : Int) ∧ Aside0 (Kd.S (dM 5 .u8) 34 wr w.heap.size (fun _ => True) (.slice (some ⟨o, 0, none⟩) K cap) (madeTo K size i)) ∧ Aside0 (Below w.heap.size w wr) ∧ Aside0 (wr.heap[w.heap.size]? = some (.cells #[.int .i64 a0_0, .int .i64 (K : Int), .int .i64 a0_2] 23 (0, 0))) ∧ Aside0 (wr.heap[sb]? = some (.cells #[.int .i64 (size : Int)] 3 (0, 0))) ∧ Aside0 (wr.heap[lbx]? = some (.cells #[.slice (some ⟨o, 0, none⟩) K cap] 24 (0, 0)))) (fun iv _ => K - (intOf iv).toNat)
 case atStart => exact ⟨0, Nat.zero_le _, rfl, HO3, HB4, HX3, HSB3, HLB3⟩
 clear HO3 HB4 HX3 HSB3 HLB3
 obtain ⟨wq, rfl⟩ : ∃ w', w' = wr := ⟨_, rfl⟩
 obtain ⟨i, hi, rfl, HO, HB, HX, HSB, HLB⟩ := hrel
 by_cases hlt : i < K
 ·have e1 : wq.cell? ⟨lbx, 0, none⟩ = some (.slice (some ⟨o, 0, none⟩) K cap) := (aaz HLB.out 0).trans rfl
  have e2 : wq.cell? ⟨sb, 0, none⟩ = some (.int .i64 (size : Int)) := (aaz HSB.out 0).trans rfl
  have HO5 := Aside0.mk (S_new HO.out HB.out.size (fun _ _ => trivial) i hlt (List.replicate size 0) (by simp; omega))
  rw [List.length_replicate, madeTo_step K size i hlt] at HO5
  obtain ⟨v0, hcv, hfv⟩ := S_cell (Kd.dpz HO.out (.cells (nums .u8 (List.replicate size 0)).toArray 5)) i hlt
  have hol : o ≠ lbx ∧ o ≠ sb ∧ o ≠ w.heap.size := by
   obtain ⟨cs, hcs⟩ := Kd.cVz HO.out o (by simp [Value.ownBlock])
   refine ⟨?_, ?_, ?_⟩
   ·rintro rfl
    rw [HLB.out] at hcs
    injection hcs with hcs
    injection hcs with _ hcs
    exact absurd hcs (by decide)
   ·rintro rfl
    rw [HSB.out] at hcs
    injection hcs with hcs
    injection hcs with _ hcs
    exact absurd hcs (by decide)
   ·rintro rfl
    rw [HX.out] at hcs
    injection hcs with hcs
    injection hcs with _ hcs
    exact absurd hcs (by decide)
  have hbo : w.heap.size ≤ o := Kd.cNz HO.out o (by simp [Value.ownBlock])
  have HB5 := Aside0.mk (clz (abz HB.out (.cells (nums .u8 (List.replicate size 0)).toArray 5)) hbo i (.slice (some ⟨wq.heap.size, 0, none⟩) size size))
  have HX5 := Aside0.mk (axz (aez HX.out (abz (Below.refl _ _) (.cells (nums .u8 (List.replicate size 0)).toArray 5))) (p := ⟨o, i, none⟩) (Ne.symm hol.2.2) (.slice (some ⟨wq.heap.size, 0, none⟩) size size))
  have HSB5 := Aside0.mk (axz (aez HSB.out (abz (Below.refl _ _) (.cells (nums .u8 (List.replicate size 0)).toArray 5))) (p := ⟨o, i, none⟩) (Ne.symm hol.2.1) (.slice (some ⟨wq.heap.size, 0, none⟩) size size))
  have HLB5 := Aside0.mk (axz (aez HLB.out (abz (Below.refl _ _) (.cells (nums .u8 (List.replicate size 0)).toArray 5))) (p := ⟨o, i, none⟩) (Ne.symm hol.1) (.slice (some ⟨wq.heap.size, 0, none⟩) size size))
  have i1 : (0 : Int) ≤ (i : Int) := by omega
  have i2 : (i : Int) < (K : Int) := by omega
  clear hol hbo
  go_wp2_with fail
  refine regOnly_ ?_
  refine bez (n := 6) (S := fun w' => w'.cell? ⟨lbx, 0, none⟩ = some (.slice (some ⟨o, 0, none⟩) K cap) ∧ w'.cell? ⟨sb, 0, none⟩ = some (.int .i64 (size : Int))) (ds := [5]) (bA 6 0) kr_ rfl rfl ⟨e1, e2⟩ (fun hHeld => ?_)
  refine pu_ 1 33 2 ?_
  refine tk_ 0 32 3 hHeld ?_
  refine tk_ 2 34 7 hHeld ?_
  refine one_ (i := 3) (N := some 35) (bA 6 15) rfl rfl kr_ (by decide) (fun K hK => ?_)
  refine btz (w1 := ?_) (v := ?_) (by rfl) rfl ?_ ?_
  rotate_left 2
  ·go_simp
   constructor
   ·rfl
   ·rfl
  refine hK.out _ _ ⟨(World.cell?_alloc_past _ _ _ (World.block_lt_of_cell? _ _ e1)).trans e1, (World.cell?_alloc_past _ _ _ (World.block_lt_of_cell? _ _ e2)).trans e2⟩ (fun hHeld => ?_)
  clear hK K
  refine norm_ (a' := ?_) ?_ ?_
  rotate_left
  ·show Act.put _ (some 35) _ = _
   simp only [Act.put, List.setIfInBounds_toArray, List.set_cons_zero, List.set_cons_succ, i64_w, i32_w]
   rfl
  refine pu_ 4 36 31 ?_
  refine last_ (i := 5) (N := none) (bA 6 63) rfl rfl kr_ (by decide) (fun K hK => ?_)
  refine skip_ (w1 := ?_) (by rfl) rfl ?_ ?_
  rotate_left
  ·go_simp
   rfl
  refine hK.out _ _ ?_
  clear hK K
  refine done_ kr_ ?_
  refine d2z ?_
  go_wp2
  exact ⟨⟨i + 1, by omega, by simp [i64_w], Aside0.mk HO5.out, Aside0.mk HB5.out.drew, Aside0.mk HX5.out, Aside0.mk HSB5.out, Aside0.mk HLB5.out⟩, by simp [intOf]; omega⟩
 ·obtain rfl : i = K := by omega
  have hfull := HO.out
  rw [madeTo_full] at hfull
  have HO4 := Aside0.mk hfull
  have q0 : wq.cell? ⟨w.heap.size, 0, none⟩ = some (.int .i64 a0_0) := (aaz HX.out 0).trans rfl
  have q1 : wq.cell? ⟨w.heap.size, 1, none⟩ = some (.int .i64 (i : Int)) := (aaz HX.out 1).trans rfl
  have q2 : wq.cell? ⟨w.heap.size, 2, none⟩ = some (.int .i64 a0_2) := (aaz HX.out 2).trans rfl
  have hself : ((i : Int) < (i : Int)) = False := by simp
  clear hi hlt hmk hfull HO
  go_wp2_with fail
  refine (HRU.out wq).mono ?_
  rintro e w4 ⟨rfl, hB4⟩
  have HB5 := Aside0.mk (HB.out.trans (hB4.mono HB.out.size))
  have HO5 := Aside0.mk (Kd.coz HO4.out hB4)
  have HX5 := Aside0.mk (aez HX.out hB4)
  have HSB5 := Aside0.mk (aez HSB.out hB4)
  have HLB5 := Aside0.mk (aez HLB.out hB4)
  clear hB4 q0 q1 q2 HB HO4 HX HSB HLB HRU
  have hld := laid.calls (ahead : Int) A1 n c1
  go_wp2_with ((go_at_call 90; refine (hld _).mono ?_; rintro e w' ⟨rfl, rfl⟩))
  clear hld
  have hX10 : ((w4.alloc (.cells #[.int .i64 (ahead : Int)] 3)).alloc (.cells #[.slice A1 n c1] 34)).heap[w4.heap.size]? = some (.cells #[.int .i64 (ahead : Int)] 3 (0, 0)) := acz (bIz w4 _) _
  have hX11 : ((w4.alloc (.cells #[.int .i64 (ahead : Int)] 3)).alloc (.cells #[.slice A1 n c1] 34)).heap[w4.heap.size + 1]? = some (.cells #[.slice A1 n c1] 34 (0, 0)) := aWz _ _ _ (by simp)
  have hB6 : Below w4.heap.size w4 ((w4.alloc (.cells #[.int .i64 (ahead : Int)] 3)).alloc (.cells #[.slice A1 n c1] 34)) := aSz (abz (Below.refl _ _) _) (abz (Below.refl _ _) _)
  have hsz : ((w4.alloc (.cells #[.int .i64 (ahead : Int)] 3)).alloc (.cells #[.slice A1 n c1] 34)).heap.size = w4.heap.size + 2 := by simp
  generalize (w4.alloc (.cells #[.int .i64 (ahead : Int)] 3)).alloc (.cells #[.slice A1 n c1] 34) = w5 at hX10 hX11 hB6 hsz ⊢
  obtain ⟨b, hb⟩ : ∃ b, b = w4.heap.size := ⟨_, rfl⟩
  rw [← hb] at hX10 hX11 hsz hB6 ⊢
  have hwb : w.heap.size ≤ b := hb ▸ HB5.out.size
  have hB6' : Below w.heap.size w w5 := HB5.out.trans (hB6.mono hwb)
  have hR5 : Kd.C (Kd.int .u8) w5 A1 l1.length l1 := Kd.aHz HR1.out hB6'
  have hlt1 : lbx < b := hb ▸ apz HLB5.out
  have hS6 : Kd.S (dM 5 .u8) 34 w5 w.heap.size (fun k => w.heap.size ≤ k ∧ k < b ∧ k ≠ sb ∧ k ≠ lbx) (.slice (some ⟨o, 0, none⟩) i cap) (List.replicate i (List.replicate size 0)) := by
   have h1 := Kd.a4z (Kd.cUz (Kd.cUz HO5.out HSB5.out (by decide)) HLB5.out (by decide))
   have h2 := Kd.coz h1 (hb ▸ hB6 : Below w4.heap.size w4 w5)
   refine Kd.bBz h2 (fun q hq => ?_)
   simp only [← hb] at hq
   exact ⟨hq.2.1, hq.2.2.1, hq.1.1.2, hq.1.2⟩
  have HSB6 := Aside0.mk (aez HSB5.out (hb ▸ hB6))
  have HLB6 := Aside0.mk (aez HLB5.out (hb ▸ hB6))
  have HX10 := Aside0.mk hX10
  have HX11 := Aside0.mk hX11
  have HB6 := Aside0.mk hB6'
  have HR5 := Aside0.mk hR5
  have HS6 := Aside0.mk hS6
  have HSZ := Aside0.mk hsz
  have HWB := Aside0.mk hwb
  have HLT := Aside0.mk hlt1
  clear hX10 hX11 hB6 hB6' hR5 hS6 hsz hwb hlt1 HB5 HO5 HX5 HSB5 HLB5 hb
  refine (wpIn_wide (n := 8)).1 ?_
  refine c0z (α := Nat × Int) rfl (by omega) (gf := 134) (lb := #[.pointer (some ⟨b + 1, 0, none⟩), .pointer (some ⟨b, 0, none⟩)]) rfl trivial (enters_of Tryz.func134 kr_ rfl)
   (laid_seq ahead b (b + 1) n c1 HAH.out (fun k => w.heap.size ≤ k ∧ k < b ∧ k ≠ sb ∧ k ≠ lbx) A1 l1 w5 HR5.out HN.out hc1 hn2 HX10.out HX11.out (fun k hk => by have := HSZ.out; have := hk.2.1; omega)) KpC.trans ?hKb (Below.refl _ _) (fun _ => rfl)
   (fun pre Wx => ∃ rows, Kd.S (dM 5 .u8) 34 Wx w.heap.size (fun k => w.heap.size ≤ k ∧ k < b ∧ k ≠ sb ∧ k ≠ lbx) (.slice (some ⟨o, 0, none⟩) i cap) rows ∧ Wx.heap[sb]? = some (.cells #[.int .i64 (size : Int)] 3 (0, 0)) ∧ Wx.heap[lbx]? = some (.cells #[.slice (some ⟨o, 0, none⟩) i cap] 24 (0, 0)) ∧ rows.length = i ∧ (∀ r, r ∈ rows → r.length = size) ∧ aMz.fill size ((laidL ahead l1).drop pre.length) pre.length rows = some res ∧ Below w.heap.size w Wx ∧ w5.heap.size ≤ Wx.heap.size)
   ?hI ?hHd ?h0 (fun x => { tmps := #[.agg #[.int .i64 a0_0, .int .i64 (i : Int), .int .i64 a0_2], .slice A1 n c1, .pointer (some ⟨w.heap.size, 0, none⟩), undef, .slice none 0 0, .int .i64 0, .pointer (some ⟨sb, 0, none⟩), .int .i64 0, .pointer (some ⟨lbx, 0, none⟩), u9, .int .i64 u1, .int .i64 (ahead : Int), .int .i64 (x.1 : Int), .int .u8 x.2, .tuple #[.int .i64 (size : Int), .int .i64 0], .agg #[.int .i64 a0_0, .int .i64 (i : Int), .int .i64 a0_2], .slice A1 n c1, .int .i64 (n : Int), .tuple #[.int .i64 (size : Int), .int .i64 0], .int .i64 (size : Int), .int .i64 0, .int .i64 0, .bool false, undef, .pointer (some ⟨w.heap.size, 1, none⟩), .int .i64 (i : Int), .slice (some ⟨o, 0, none⟩) i cap, .slice (some ⟨o, 0, none⟩) i cap, .int .i64 (i : Int), .int .i64 (i : Int), .bool false, u31, u32, u33, u34, u35, u36, u37, .tuple #[.int .i64 u1, .int .i64 (ahead : Int)], .agg #[.int .i64 a0_0, .int .i64 (i : Int), .int .i64 a0_2], .tuple #[.int .i64 u1, .int .i64 (ahead : Int)], .int .i64 u1, .int .i64 (ahead : Int), .int .i64 (ahead : Int), .slice A1 n c1, .func (.func 134) #[] #[.pointer (some ⟨b + 1, 0, none⟩), .pointer (some ⟨b, 0, none⟩)], .int .i64 (x.1 : Int), .int .u8 x.2, undef, undef, undef, undef, undef, undef, undef, undef, undef, undef, undef, undef], defers := [] }) ?assign ?body ?done
  case hKb =>
   intro Wx l o1 o2 hl ho hno
   refine ⟨(grownBy_putObj' Wx l o2).size, fun k oo hk hcc _ => ?_⟩
   have hne : k ≠ l := by rintro rfl; rw [hk] at ho; cases ho; rw [hcc] at hno; cases hno
   exact (World.putObj_heap_other hne).trans hk
  case hI =>
   rintro s X Y r ⟨rows, h1, h2, h3, h4, h5, h6, h7, h8⟩ hg hr
   have hr' : ∀ q, r = some q → ∃ o : Obj, X.heap[q]? = some o ∧ o.isCells = false := fun q e => (hr q e).2
   have hcc : ∀ (q : Nat) (oo : Obj), X.heap[q]? = some oo → oo.isCells = true → Y.heap[q]? = X.heap[q]? := fun q oo hq ho => grownBy_keeps_cells hg hr' hq ho
   exact ⟨rows, c1z h1 hcc, (hcc _ _ h2 rfl).trans h2, (hcc _ _ h3 rfl).trans h3, h4, h5, h6, ⟨hg.os.trans h7.os, hg.tape.trans h7.tape, hg.output.trans h7.output, Nat.le_trans h7.size hg.size, fun q hq => (hg.block q (Nat.lt_of_lt_of_le hq h7.size) (fun e => by have := (hr q e.symm).1; have := HSZ.out; have := HWB.out; omega)).trans (h7.block q hq)⟩, Nat.le_trans h8 hg.size⟩
  case hHd =>
   intro m x s X Y r h hg hr
   exact h
  case h0 =>
   refine ⟨_, HS6.out, HSB6.out, HLB6.out, by simp, fun r hr => by rw [List.eq_of_mem_replicate hr]; simp, ?_, HB6.out, Nat.le_refl _⟩
   simpa using HF.out
  case assign =>
   intro l x Wx K hK
   gi_wp2
   exact hK
  case body =>
   rintro l pre ⟨x, c⟩ Wx ⟨rows, h1, h2, h3, h4, h5, h6, h7, h8⟩ ⟨hx0, hx1⟩ hlen
   dsimp only at hx0 hx1
   have hdr : (laidL ahead l1).drop pre.length = c :: (laidL ahead l1).drop (pre.length + 1) := by
    obtain ⟨hl, he⟩ := List.getElem?_eq_some_iff.1 hx1
    rw [List.drop_eq_getElem_cons hl, he]
   rw [hdr, ← hx0] at h6
   simp only [aMz.fill] at h6
   have hq : x / size < rows.length := by
    by_cases hh : x / size < rows.length
    ·exact hh
    ·rw [if_neg hh] at h6; cases h6
   rw [if_pos hq] at h6
   obtain ⟨row, hrow⟩ : ∃ r, rows[x / size]? = some r := ⟨_, List.getElem?_eq_getElem hq⟩
   have hrl : row.length = size := h5 row (List.mem_of_getElem? hrow)
   have hrd : rows.getD (x / size) [] = row := by rw [List.getD_eq_getElem?_getD, hrow]; rfl
   rw [hrd] at h6
   have hj : x % size < size := Nat.mod_lt _ hs
   obtain ⟨g, cg, y, k1, k2, k3, kok, kne, kS⟩ := S_put2 h1 (x / size) (x % size) row hrow (by rw [hrl]; exact hj) c
   have e1 : Wx.cell? ⟨lbx, 0, none⟩ = some (.slice (some ⟨o, 0, none⟩) i cap) := (aaz h3 0).trans rfl
   have e2 : Wx.cell? ⟨sb, 0, none⟩ = some (.int .i64 (size : Int)) := (aaz h2 0).trans rfl
   rw [hrl] at k1
   rw [h4] at hq
   have hx100 : x ≤ 100004 := by
    have hl : (laidL ahead l1).length ≤ 100004 := by
     have := HN.out
     unfold laidL four4
     simp; omega
    omega
   have d1 : Int.tdiv (x : Int) (size : Int) = ((x / size : Nat) : Int) := by rw [Int.ofNat_tdiv]
   have d2 : Int.tmod (x : Int) (size : Int) = ((x % size : Nat) : Int) := by rw [Int.ofNat_tmod]
   obtain ⟨qx, hqx⟩ : ∃ qx, x / size = qx := ⟨_, rfl⟩
   obtain ⟨rx, hrx⟩ : ∃ rx, x % size = rx := ⟨_, rfl⟩
   have hqle : qx ≤ x := hqx ▸ Nat.div_le_self _ _
   rw [hqx] at d1 hq k1 kS h6 hrow
   rw [hrx] at d2 hj k2 k3 kS h6
   have i1 : (0 : Int) ≤ (qx : Int) := by omega
   have i2 : (qx : Int) < (i : Int) := by omega
   have i3 : (0 : Int) ≤ (rx : Int) := by omega
   have i4 : (rx : Int) < (size : Int) := by omega
   have i5 : ¬ (size = 0) := by omega
   have i6 : IntKind.i64.wrap (qx : Int) = (qx : Int) := by rw [IntKind.wrap_i64]; omega
   have HEND := Aside0.mk (show KeepsFrom w5.heap.size Wx (Wx.setCell ⟨g, rx, none⟩ (.int .u8 c)) ∧ KpC (fun k => w.heap.size ≤ k ∧ k < b ∧ k ≠ sb ∧ k ≠ lbx) Wx (Wx.setCell ⟨g, rx, none⟩ (.int .u8 c)) ∧ ∃ rows, Kd.S (dM 5 .u8) 34 (Wx.setCell ⟨g, rx, none⟩ (.int .u8 c)) w.heap.size (fun k => w.heap.size ≤ k ∧ k < b ∧ k ≠ sb ∧ k ≠ lbx) (.slice (some ⟨o, 0, none⟩) i cap) rows ∧ (Wx.setCell ⟨g, rx, none⟩ (.int .u8 c)).heap[sb]? = some (.cells #[.int .i64 (size : Int)] 3 (0, 0)) ∧ (Wx.setCell ⟨g, rx, none⟩ (.int .u8 c)).heap[lbx]? = some (.cells #[.slice (some ⟨o, 0, none⟩) i cap] 24 (0, 0)) ∧ rows.length = i ∧ (∀ r, r ∈ rows → r.length = size) ∧ aMz.fill size ((laidL ahead l1).drop (pre ++ [(x, c)]).length) (pre ++ [(x, c)]).length rows = some res ∧ Below w.heap.size w (Wx.setCell ⟨g, rx, none⟩ (.int .u8 c)) ∧ w5.heap.size ≤ (Wx.setCell ⟨g, rx, none⟩ (.int .u8 c)).heap.size by
    have hsc : ∀ k, k ≠ g → (Wx.setCell ⟨g, rx, none⟩ (.int .u8 c)).heap[k]? = Wx.heap[k]? := fun k hk => Below.heap_setCell Wx ⟨g, rx, none⟩ _ k hk
    refine ⟨⟨by simp, fun k oo hk hko hno => ?_⟩, ⟨by simp, fun k oo hk hcc he => (hsc k (by rintro rfl; exact he kok)).trans hk⟩, _, kS, (hsc _ (by rintro rfl; exact kok.2.2.1 rfl)).trans h2, (hsc _ (by rintro rfl; exact kok.2.2.2 rfl)).trans h3, by rw [List.length_set]; exact h4, ?_, ?_, clz h7 kok.1 rx _, by simpa using h8⟩
    ·exact (hsc k (by rintro rfl; have := kok.2.1; have := HSZ.out; omega)).trans hko
    ·intro r hr
     rcases List.mem_or_eq_of_mem_set hr with hr | rfl
     ·exact h5 r hr
     ·rw [List.length_set]; exact hrl
    ·rw [List.length_append, List.length_singleton, ← hx0]
     exact h6)
   have hmo : Tryz.prog.follows .mixedOrders = true := by kernel_rfl
   clear h1 h2 h3 h4 h5 h6 h7 h8 hx0 hx1 hlen hdr hrow hrl hrd kok kne kS hqx hrx
   gi_wp2
   refine edz (m := 12) (S := fun w' => w'.cell? ⟨lbx, 0, none⟩ = some (.slice (some ⟨o, 0, none⟩) i cap) ∧ w'.cell? ⟨sb, 0, none⟩ = some (.int .i64 (size : Int)) ∧ w'.cell? ⟨o, qx, none⟩ = some (.slice (some ⟨g, 0, none⟩) size cg)) (ds := [11]) (bA 12 0) kr_ rfl rfl kr_ (by rintro ⟨_, _, h⟩; exact h) ⟨e1, e2, k1⟩ (fun hHeld => ?_)
   refine pu_ 1 49 2 ?_
   refine pu_ 6 54 66 ?_
   refine pu_ 9 57 578 ?_
   refine tk_ 0 48 579 hHeld ?_
   refine tk_ 2 50 583 hHeld ?_
   refine pu_ 3 51 591 ?_
   refine pu_ 4 52 607 ?_
   refine tk_ 5 53 639 hHeld ?_
   refine tk_ 7 55 767 hHeld ?_
   refine pu_ 8 56 1023 ?_
   refine pu_ 10 58 2047 ?_
   refine last_ (i := 11) (N := none) (bA 12 4095) rfl rfl kr_ (by decide) (fun K hK => ?_)
   refine skip_ (w1 := ?_) (by rfl) rfl ?_ ?_
   rotate_left
   ·go_simp
    rfl
   refine hK.out _ _ ?_
   clear hK K
   refine done_ kr_ ?_
   obtain ⟨q1, q2, rows, p1, p2, p3, p4, p5, p6, p7, p8⟩ := HEND.out
   refine And.intro ⟨q1.1, q1.2⟩ (And.intro ⟨q2.1, q2.2⟩ ⟨rows, Kd.S_drew p1, p2, p3, p4, p5, p6, p7.drew, p8⟩)
  case done =>
   rintro D xs Wx hD ⟨hxs, hlen⟩ ⟨rows, h1, h2, h3, h4, h5, h6, h7, h8⟩ hDd
   rw [hlen, List.drop_length] at h6
   obtain rfl : rows = res := by simpa [aMz.fill] using h6
   have e1 : Wx.cell? ⟨lbx, 0, none⟩ = some (.slice (some ⟨o, 0, none⟩) i cap) := (aaz h3 0).trans rfl
   have H1 := Aside0.mk h1
   have H7 := Aside0.mk h7
   have H8 := Aside0.mk h8
   have HDD := Aside0.mk hDd
   have HDN := Aside0.mk hD
   clear h1 h2 h3 h4 h5 h6 h7 h8 hDd hD hxs hlen
   simp only [Exit.inBlock, Exit.then]
   go_wp2
   refine bwz [D] Wx (by simp) (fun D' hD' => by rw [List.mem_singleton] at hD'; rw [hD']; exact HDD.out) (fun w' hkp hsz hos htp hou => ?_)
   have hcc : ∀ (q : Nat) (oo : Obj), Wx.heap[q]? = some oo → oo.isCells = true → w'.heap[q]? = Wx.heap[q]? := fun q oo hq ho => hkp q (apz hq) (fun hm => by
    rw [List.mem_singleton] at hm
    subst hm
    rw [HDD.out] at hq; cases hq; cases ho)
   refine ⟨_, results_tmp2 rfl _ _ _, _, rfl, c1z (Kd.bBz H1.out (fun _ _ => trivial)) hcc, hos.trans H7.out.os, htp.trans H7.out.tape, hou.trans H7.out.output, by rw [hsz]; exact H7.out.size, fun q hq => (hkp q (Nat.lt_of_lt_of_le hq H7.out.size) (fun hm => by
    rw [List.mem_singleton] at hm
    have := HDN.out; have := HSZ.out; have := HWB.out; omega)).trans (H7.out.block q hq)⟩
theorem aMz.calls (k : Nat) (a0_0 : Int) (a0_1 : Int) (a0_2 : Int) (A1 : Option Addr) (c1 : Nat) (l1 : List Int) (r1 : List (List Int)) (r2 : Int) (w : World) (hr1 : Kd.C (Kd.int .u8) w A1 l1.length l1) (hc1 : l1.length ≤ c1) (h : aMz.f k a0_0 a0_1 a0_2 l1 = some (r1, r2)) :
 Calls Tryz.prog 55 #[.agg #[.int .i64 a0_0, .int .i64 a0_1, .int .i64 a0_2], .slice A1 l1.length c1] w fun e w' => ∃ v0_ : Value, e = .returned (.tuple #[v0_, .int .i64 r2]) ∧ Kd.S (Kd.slice 5 (Kd.int .u8)) 34 w' w.heap.size (fun _ => True) v0_ r1 ∧ Below w.heap.size w w' := by
 unfold aMz.f at h
 obtain ⟨⟨s1, s2⟩, hz, h⟩ := Option.bind_eq_some_iff.1 h
 by_cases hs : s2 = 0
 ·subst hs
  dsimp only at h
  rw [if_pos rfl] at h
  have cut : ∀ {p : Prop} [Decidable p] {a : Option (List (List Int) × Int)}, (if p then a else none) = some (r1, r2) → p ∧ a = some (r1, r2) := by
   intro p _ a hh
   by_cases hp : p
   ·rw [if_pos hp] at hh; exact ⟨hp, hh⟩
   ·rw [if_neg hp] at hh; cases hh
  obtain ⟨q1, h⟩ := cut h
  obtain ⟨q2, h⟩ := cut h
  obtain ⟨q3, h⟩ := cut h
  obtain ⟨q4, h⟩ := cut h
  obtain ⟨q5, h⟩ := cut h
  obtain ⟨⟨u1, u2⟩, hu, h⟩ := Option.bind_eq_some_iff.1 h
  obtain ⟨q6, h⟩ := cut h
  obtain ⟨r, hf, h⟩ := Option.bind_eq_some_iff.1 h
  simp only [Option.some.injEq, Prod.mk.injEq] at h
  obtain ⟨rfl, rfl⟩ := h
  obtain ⟨K, rfl⟩ : ∃ K : Nat, a0_1 = (K : Int) := ⟨a0_1.toNat, by omega⟩
  obtain ⟨size, rfl⟩ : ∃ s : Nat, s1 = (s : Int) := ⟨s1.toNat, by omega⟩
  dsimp only at q6 hf q3 q4
  obtain ⟨ahead, rfl⟩ : ∃ s : Nat, u2 = (s : Int) := ⟨u2.toNat, by omega⟩
  simp only [Int.toNat_natCast] at hf
  exact aMz.go k a0_0 a0_2 K size ahead l1.length A1 c1 l1 u1 r w hr1 hc1 rfl q5 hz (by omega) (by omega) (by omega) (by omega) hu (by omega) hf
 ·dsimp only at h
  rw [if_neg hs] at h
  simp only [Option.some.injEq, Prod.mk.injEq] at h
  obtain ⟨rfl, rfl⟩ := h
  refine (aMz.bad k a0_0 a0_1 a0_2 A1 c1 l1 s1 s2 w hz hs).mono ?_
  rintro e w' ⟨rfl, hB⟩
  exact ⟨_, rfl, Kd.S_nil _ _ _ _ _, hB⟩
end Go.Proofs.YtpdakdcmahlghaaGreat.XCo
end
