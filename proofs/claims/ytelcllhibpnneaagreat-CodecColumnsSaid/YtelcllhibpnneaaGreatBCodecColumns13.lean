-- Joined by this work's own program (wip/tools/bundle.py) out of its texts: what this claim uses of them. Not trusted: Lean checks it.
import Derived.Test.YtelcllhibpnneaaGreatBCodecColumns12
section
namespace Go.Proofs.YtelcllhibpnneaaGreat.XCo
open Go.RowKit Go.Proofs.YtelcllhibpnneaaGreatW.PrintWords Go.Proofs.YtelcllhibpnneaaGreatW.PrintLast Go.Proofs.YtelcllhibpnneaaGreatW.PrintMore
attribute [local go_sem] max2_int min2_int max_two min_two max_three min_three max_four min_four
set_option linter.unusedVariables false
set_option linter.unusedSimpArgs false
attribute [local go_sem] Oper.semAt_some
def mulF (wb : Int) (a b : List (List Int)) (co : Nat) : List (List Int) := a.map fun row => (transp b co).map fun col => dotF wb row col 0
set_option maxRecDepth 100000 in
set_option maxHeartbeats 4000000 in
theorem matrix_Mul.calls (g : Nat) (wb : Int) (S : Nat → Prop) (A B : Option Addr) (ca cb co : Nat) (a b_ : List (List Int)) (W : World) (hw : wb = 8 ∨ wb = 16) (hMa : MayOk wb a b_.length) (hMb : MayOk wb b_ co) (hF : Fd W g wb (fpoly wb) S) (hS : ∀ k, S k → k < W.heap.size)
  (ha : Kd.F (dM 3 .i64) W (NotG g) A a.length a) (hb : Kd.F (dM 3 .i64) W (NotG g) B b_.length b_) :
  Calls Tryz.prog 151 #[.pointer (some ⟨g, 0, none⟩), .slice A a.length ca, .slice B b_.length cb] W fun e w' => ∃ v, e = .returned (.tuple #[v, .int .i64 0]) ∧ Kd.S (dM 3 .i64) 66 w' W.heap.size (fun _ => True) v (mulF wb a b_ co) ∧ Fd w' g wb (fpoly wb) S ∧ BB W w' g := by
 have HMA := Aside0.mk hMa
 have HMB := Aside0.mk hMb
 have HW := Aside0.mk hw
 have HF := Aside0.mk hF
 have HS := Aside0.mk hS
 have HA := Aside0.mk ha
 have HB := Aside0.mk hb
 obtain ⟨r0, hr0⟩ : ∃ r, a[0]? = some r := ⟨_, List.getElem?_eq_getElem (by have := hMa.n1; omega)⟩
 obtain ⟨ad, A1, c1, rfl, -, -, -⟩ := row_at (Kd.F_now ha) 0 r0 hr0
 have hrl := (hMa.each r0 (List.mem_of_getElem? hr0)).1
 have HR0 := Aside0.mk hr0
 have na : (0 : Int) < (a.length : Int) := by have := hMa.n1; omega
 have na20 : a.length ≤ 20 := hMa.n2
 obtain ⟨n, hn⟩ : ∃ n, n = a.length := ⟨_, rfl⟩
 obtain ⟨m, hm⟩ : ∃ m, m = b_.length := ⟨_, rfl⟩
 have HN := Aside0.mk hn
 have HM := Aside0.mk hm
 have HL0 := Aside0.mk hrl
 rw [← hn] at na na20 ⊢
 rw [← hm]
 have hself : ((m : Int) != (m : Int)) = false := by simp
 clear hw hMa hMb hF hS ha hb hr0 hrl hn hm
 refine (callsIn_wide (n := 8)).1 (callsIn_of_wp_marks Tryz.func151 rfl trivial (wpIn_wide.2 ?_) rfl)
 simp only [Tryz.ntmps151, List.size_toArray, List.length_cons, List.length_nil, Nat.reduceAdd, Nat.reduceSub, Array.replicate_succ, Array.replicate_zero, List.push_toArray, List.append_toArray, List.nil_append, List.cons_append]
 have HMY1 := Aside0.mk (fun W1 (h : Below W.heap.size W W1) => matrix_May.ok g S wb (fpoly wb) (some ad) ca m a W1 HW.out (HM.out ▸ HMA.out) (HF.out.below h) (Kd.C_below (Kd.F_now HA.out) h))
 have HMY2 := Aside0.mk (fun W1 (h : Below W.heap.size W W1) => matrix_May.ok g S wb (fpoly wb) B cb co b_ W1 HW.out HMB.out (HF.out.below h) (Kd.C_below (Kd.F_now HB.out) h))
 rw [← HN.out] at HMY1
 rw [← HM.out] at HMY2
 have HBX := Aside0.mk (show Below W.heap.size W (W.alloc (.cells #[.pointer (some ⟨g, 0, none⟩)] 64)) from below_alloc (Below.refl _ _) _)
 have hbx : (W.alloc (.cells #[.pointer (some ⟨g, 0, none⟩)] 64)).heap[W.heap.size]? = some (.cells #[.pointer (some ⟨g, 0, none⟩)] 64 (0, 0)) := heap_alloc_new _ _
 go_wp2_with fail
 generalize W.alloc (.cells #[.pointer (some ⟨g, 0, none⟩)] 64) = w1 at HBX hbx ⊢
 have HX := Aside0.mk hbx
 refine (HMY1.out w1 HBX.out).mono ?_
 rintro e w2 ⟨rfl, hB2⟩
 have HB2 := Aside0.mk (HBX.out.trans (hB2.mono HBX.out.size))
 have HX2 := Aside0.mk (blk_below HX.out hB2)
 have hx2 : w2.cell? ⟨W.heap.size, 0, none⟩ = some (.pointer (some ⟨g, 0, none⟩)) := (blk_cell HX2.out 0).trans rfl
 clear hB2 hbx HMY1
 go_wp2_with fail
 refine (HMY2.out w2 HB2.out).mono ?_
 rintro e w3 ⟨rfl, hB3⟩
 have HB3 := Aside0.mk (HB2.out.trans (hB3.mono HB2.out.size))
 have HX3 := Aside0.mk (blk_below HX2.out hB3)
 have hx3 : w3.cell? ⟨W.heap.size, 0, none⟩ = some (.pointer (some ⟨g, 0, none⟩)) := (blk_cell HX3.out 0).trans rfl
 obtain ⟨ad', A2, c2, he, hcell, -, -⟩ := row_at (Kd.C_below (Kd.F_now HA.out) HB3.out) 0 r0 HR0.out
 obtain rfl : ad = ad' := Option.some.inj he
 rw [addr_zero, HL0.out, ← HM.out] at hcell
 clear hB3 hx2 HMY2 he
 go_wp2
 refine wp_loop (fun a' wr => ∃ (u8 u10 u11 u12 u34 u35 u36 u37 u38 u39 u40 u41 u42 u43 u44 u45 u46 u47 u48 u49 u50 u51 u52 u53 : Value) (k : Nat) (Ds : List Nat), a' = { tmps := #[.pointer (some ⟨g, 0, none⟩), .slice (some ad) n ca, .slice B m cb, .pointer (some ⟨W.heap.size, 0, none⟩), undef, undef, .slice none 0 0, .int .i64 0, u8, undef, u10, u11, u12, .pointer (some ⟨g, 0, none⟩), .slice (some ad) n ca, .bool true, .bool false, .bool false, .pointer (some ⟨g, 0, none⟩), .slice B m cb, .bool true, .bool false, .bool false, .bool false, .slice (some ad) n ca, .pointer (some ad), .slice A2 m c2, .int .i64 (m : Int), .slice B m cb, .int .i64 (m : Int), .bool false, .bool false, .slice (some ad) n ca, .int .i64 (n : Int), u34, u35, u36, u37, u38, u39, u40, u41, u42, u43, u44, u45, u46, u47, u48, u49, u50, u51, u52, u53], defers := Ds.map fun D => { target := .collected D, args := #[] } } ∧ u34 = .int .i64 (k : Int) ∧ k ≤ n ∧ Ds.Nodup ∧
  Aside0 ((∀ D, D ∈ Ds → wr.heap[D]? = some (.deferred (some []))) ∧ (∀ D, D ∈ Ds → W.heap.size < D)) ∧ Aside0 (Kd.S (dM 3 .i64) 66 wr W.heap.size (fun _ => True) u8 (mulF wb (a.take k) b_ co)) ∧ Aside0 (Fd wr g wb (fpoly wb) (fun k => S k ∨ k = W.heap.size ∨ some k = u8.ownBlock)) ∧ Aside0 (BB W wr g) ∧ Aside0 (wr.heap[W.heap.size]? = some (.cells #[.pointer (some ⟨g, 0, none⟩)] 64 (0, 0)))) (fun a' _ => n - (intOf (a'.tmps.getD 34 undef)).toNat) ?atStart ?round
 case atStart => exact ⟨.slice none 0 0, undef, undef, undef, .int .i64 0, undef, undef, undef, undef, undef, undef, undef, undef, undef, undef, undef, undef, undef, undef, undef, undef, undef, undef, undef, 0, [], rfl, rfl, by omega, List.nodup_nil, ⟨fun _ h => by simp at h, fun _ h => by simp at h⟩, ⟨Kd.S_nil _ _ _ _ _⟩, ⟨((HF.out.more).below HB3.out).thin (fun k _ hs => hs.elim .inl (fun h => h.elim (fun e => .inr (by omega)) (fun e => by simp [Value.ownBlock] at e)))⟩, ⟨BB.of_below HB3.out g⟩, HX3⟩
 case round =>
  clear hcell hx3
  rintro a' wr ⟨u8, u10, u11, u12, u34, u35, u36, u37, u38, u39, u40, u41, u42, u43, u44, u45, u46, u47, u48, u49, u50, u51, u52, u53, k, Ds, rfl, rfl, hk, hnd, HD, HO, HFd, HBB, HXb⟩
  by_cases hlt : k < n
  ·obtain ⟨row, hrow⟩ : ∃ r, a[k]? = some r := ⟨_, List.getElem?_eq_getElem (by have := HN.out; omega)⟩
   have hFa := F_bb HA.out HBB.out
   obtain ⟨A', c', hcr, hle, hFr⟩ := row_atF hFa k row hrow
   have i1 : (0 : Int) ≤ (k : Int) := by omega
   have i2 : (k : Int) < (n : Int) := by omega
   have HFR := Aside0.mk hFr
   have HRW := Aside0.mk hrow
   have hrl := (HMA.out.each row (List.mem_of_getElem? hrow)).1
   rw [← HM.out] at hrl
   have HRL := Aside0.mk hrl
   have hle2 : m ≤ c' := by omega
   rw [hrl] at hcr
   clear hFa hrow hrl hle hFr
   have hcs := columns.calls B m cb
   go_wp2_with (first | (go_at_call 173; refine (hcs _).mono ?_; rintro e w' ⟨rfl, rfl⟩))
   have hX10 : (((wr.alloc (.cells #[.slice A' m c'] 66)).alloc (.cells #[.slice none 0 0] 66)).alloc (.cells #[.slice B m cb] 61)).heap[wr.heap.size]? = some (.cells #[.slice A' m c'] 66 (0, 0)) := blk_alloc (blk_alloc (blk_new wr _) _) _
   have hX11 : (((wr.alloc (.cells #[.slice A' m c'] 66)).alloc (.cells #[.slice none 0 0] 66)).alloc (.cells #[.slice B m cb] 61)).heap[wr.heap.size + 1]? = some (.cells #[.slice none 0 0] 66 (0, 0)) := blk_alloc (blk_new_at _ _ _ (by simp)) _
   have hX12 : (((wr.alloc (.cells #[.slice A' m c'] 66)).alloc (.cells #[.slice none 0 0] 66)).alloc (.cells #[.slice B m cb] 61)).heap[wr.heap.size + 1 + 1]? = some (.cells #[.slice B m cb] 61 (0, 0)) := blk_new_at _ _ _ (by simp)
   have hB4 : Below wr.heap.size wr (((wr.alloc (.cells #[.slice A' m c'] 66)).alloc (.cells #[.slice none 0 0] 66)).alloc (.cells #[.slice B m cb] 61)) := below_step (below_step (below_alloc (Below.refl _ _) _) (below_alloc (Below.refl _ _) _)) (below_alloc (Below.refl _ _) _)
   have hsz : (((wr.alloc (.cells #[.slice A' m c'] 66)).alloc (.cells #[.slice none 0 0] 66)).alloc (.cells #[.slice B m cb] 61)).heap.size = wr.heap.size + 1 + 1 + 1 := by simp
   generalize ((wr.alloc (.cells #[.slice A' m c'] 66)).alloc (.cells #[.slice none 0 0] 66)).alloc (.cells #[.slice B m cb] 61) = w4 at *
   obtain ⟨b, hb⟩ : ∃ b, b = wr.heap.size := ⟨_, rfl⟩
   rw [← hb] at hX10 hX11 hX12 hsz ⊢
   have HX10 := Aside0.mk hX10
   have HX11 := Aside0.mk hX11
   have HX12 := Aside0.mk hX12
   have HB4 := Aside0.mk hB4
   have HSZ := Aside0.mk hsz
   have HWB := Aside0.mk (show W.heap.size < b from hb ▸ blk_lt HXb.out)
   have hgl : g < W.heap.size := HF.out.lt
   have HFB := Aside0.mk (show Kd.F (dM 3 .i64) w4 (fun k => ¬ (k = g ∨ k = b + 1)) B b_.length b_ by
    have h1 := Kd.F_bound HB.out
    have h2 := Kd.F_step (W1 := wr) h1 (fun k hk hlt => HBB.out.block k hlt hk.1)
    have h3 := Kd.F_below h2 (show Below wr.heap.size wr w4 from hB4)
    exact Kd.F_mono h3 (fun k hk h => h.elim hk.1 (fun e => by have := hk.2; have := HWB.out; omega)))
   have HFR4 := Aside0.mk (show Kd.F (Kd.int .i64) w4 (fun k => k ≠ g ∧ k < b) A' row.length row from by
    rw [hb]
    exact Kd.F_below (Kd.F_bound HFR.out) hB4)
   have HXb4 := Aside0.mk (blk_below HXb.out hB4)
   have HF4 := Aside0.mk (((HFd.out.more).below hB4).thin (S' := fun k => (S k ∨ k = W.heap.size ∨ some k = u8.ownBlock) ∨ k = b + 1 ∨ some k = (Value.slice none 0 0).ownBlock) (fun k _ hs => hs.elim .inl (fun h => h.elim (fun e => .inr (by omega)) (fun e => by simp [Value.ownBlock] at e))))
   have HBE := Aside0.mk hb
   clear hcs hcr hX10 hX11 hX12 hB4 hb
   refine (wpIn_wide (n := 8)).1 ?_
   refine wpIn_range_handed (α := List Int × Nat) rfl (by omega) (gf := 185) (lb := #[.pointer (some ⟨b + 1 + 1, 0, none⟩)]) rfl trivial (enters_of Tryz.func185 (by kernel_rfl) rfl)
    (columns_seq (b + 1 + 1) w4.heap.size co cb (fun k => k = g ∨ k = b + 1) B b_ w4 w4 ?hf (Nat.le_refl _) (Nat.le_refl _) ⟨Nat.le_refl _, fun _ _ _ => rfl⟩ HMB.out.n1 (by have := HMB.out.n2; omega) (fun r hr => (HMB.out.each r hr).1) (by have := HMB.out.c2; omega) ?hx12 (by omega) (by have := HWB.out; omega)) KpX.trans ?hKb (Below.refl _ _) (fun _ => rfl)
    (fun pre Wx => ∃ v, Wx.heap[b + 1]? = some (.cells #[v] 66 (0, 0)) ∧ (Kd.int .i64).R 3 Wx w4.heap.size (fun _ => True) v (pre.map fun x => dotF wb row x.1 0) ∧ Fd Wx g wb (fpoly wb) (fun k => (S k ∨ k = W.heap.size ∨ some k = u8.ownBlock) ∨ k = b + 1 ∨ some k = v.ownBlock) ∧ BS w4 Wx g (fun k => k = b + 1))
    ?hI ?hHd ?h0 (fun x => { tmps := #[.pointer (some ⟨g, 0, none⟩), .slice (some ad) n ca, .slice B m cb, .pointer (some ⟨W.heap.size, 0, none⟩), undef, undef, .slice none 0 0, .int .i64 0, u8, undef, .pointer (some ⟨b, 0, none⟩), .pointer (some ⟨b + 1, 0, none⟩), .slice (some ⟨x.2, 0, none⟩) x.1.length x.1.length, .pointer (some ⟨g, 0, none⟩), .slice (some ad) n ca, .bool true, .bool false, .bool false, .pointer (some ⟨g, 0, none⟩), .slice B m cb, .bool true, .bool false, .bool false, .bool false, .slice (some ad) n ca, .pointer (some ad), .slice A2 m c2, .int .i64 (m : Int), .slice B m cb, .int .i64 (m : Int), .bool false, .bool false, .slice (some ad) n ca, .int .i64 (n : Int), .int .i64 (k : Int), .bool true, .pointer (some (ad.add k)), .slice A' m c', .slice B m cb, .func (.func 185) #[] #[.pointer (some ⟨b + 1 + 1, 0, none⟩)], .slice (some ⟨x.2, 0, none⟩) x.1.length x.1.length, u41, u42, u43, u44, u45, u46, u47, u48, u49, u50, u51, u52, u53], defers := [] }) ?assign ?body ?done
   case hf => exact HFB.out
   case hx12 => rw [← HM.out]; exact HX12.out
   case hKb => exact fun Wx l o o' hl ho _ => ⟨(grownBy_putObj' Wx l o').size, fun k hk _ => World.putObj_heap_other (by omega)⟩
   case hI =>
    rintro s X Y r ⟨v, h1, h2, h3, h4⟩ hg hr
    have hr' : ∀ q, r = some q → ∃ o : Obj, X.heap[q]? = some o ∧ o.isCells = false := fun q e => (hr q e).2
    exact ⟨v, (grownBy_keeps_cells hg hr' h1 rfl).trans h1, R_noncells h2 hg hr', Fd_noncells h3 hg hr', ⟨hg.os.trans h4.os, hg.tape.trans h4.tape, hg.output.trans h4.output, Nat.le_trans h4.size hg.size, fun i hi hgi hs => (hg.block i (Nat.lt_of_lt_of_le hi h4.size) (fun e => by have := (hr i e.symm).1; omega)).trans (h4.block i hi hgi hs)⟩⟩
   case hHd =>
    rintro x - X Y r ⟨h0, h1⟩ hg hr
    exact ⟨h0, (grownBy_keeps_cells hg (fun q e => (hr q e).2) h1 rfl).trans h1⟩
   case h0 => exact ⟨_, HX11.out, Kd.R_nil _ _ _ _ _, HF4.out, BS.refl _ _ _⟩
   case assign =>
    intro l x Wx K hK
    gi_wp2
    exact hK
   case body =>
    rintro l pre ⟨col, cbk⟩ Wx ⟨v, h1, h2, h3, h4⟩ ⟨hx0, hx1⟩ hlen
    dsimp only at hx0 hx1
    have hgl4 : g < w4.heap.size := by have := HWB.out; omega
    have hc11 : Wx.cell? ⟨b + 1, 0, none⟩ = some v := (blk_cell h1 0).trans rfl
    have hc3 : Wx.cell? ⟨W.heap.size, 0, none⟩ = some (.pointer (some ⟨g, 0, none⟩)) := (blk_cell (h4.blk HXb4.out (by omega) (by have := HWB.out; omega)) 0).trans rfl
    have hc10 : Wx.cell? ⟨b, 0, none⟩ = some (.slice A' m c') := (blk_cell (h4.blk HX10.out (by have := HWB.out; omega) (by omega)) 0).trans rfl
    obtain ⟨gcs, hgcs⟩ := h3.cells
    have hFrow : Kd.F (Kd.int .i64) Wx (NotG g) A' row.length row := Kd.F_mono (Kd.F_step HFR4.out (fun k hk hlt => h4.block k hlt hk.1 (by have := hk.2; omega))) (fun k hk => hk.1)
    have hFcol := F_block hgcs (by decide) hx1 (by rw [hx0]; have := HMB.out.n2; omega)
    have hSS : ∀ k, ((S k ∨ k = W.heap.size ∨ some k = u8.ownBlock) ∨ k = b + 1 ∨ some k = v.ownBlock) → k < Wx.heap.size := by
     have s1 := h4.size
     have s2 := HWB.out
     have s3 := HBE.out
     rintro k ((hk | hk | hk) | hk | hk)
     ·have := HS.out k hk; omega
     ·omega
     ·have := Kd.R_lt (Kd.S_R HO.out) k hk.symm; omega
     ·omega
     ·exact Kd.R_lt h2 k hk.symm
    have hdot := matrix_dot.calls g _ wb A' (some ⟨cbk, 0, none⟩) c' col.length row col Wx.drew HW.out (Fd.drew h3) hSS (by rw [HRL.out]; have := HMB.out.n2; have := HM.out; omega) (by rw [HRL.out, hx0, HM.out]; exact Nat.le_refl _) (Kd.F_drew hFrow) (Kd.F_drew hFcol)
    rw [HRL.out] at hdot
    have HDOT := Aside0.mk hdot
    have hbase := Kd.R_base h2
    have HEND := Aside0.mk (show ∀ w6, Fd w6 g wb (fpoly wb) (fun k => (S k ∨ k = W.heap.size ∨ some k = u8.ownBlock) ∨ k = b + 1 ∨ some k = v.ownBlock) → BB Wx w6 g → ∃ v1 w7, (∃ ua nn uc, v1 = .slice ua nn uc) ∧ (Builtin.append_ #[66, 66] 66 #[v, .slice (some ⟨w6.heap.size, 0, none⟩) 1 1]).run Tryz.prog (w6.alloc (.cells #[.int .i64 (dotF wb row col 0)] 3)) = .ok v1 w7 ∧
      w6.cell? ⟨b + 1, 0, none⟩ = some v ∧ w6.cell? ⟨W.heap.size, 0, none⟩ = some (.pointer (some ⟨g, 0, none⟩)) ∧ w6.cell? ⟨b, 0, none⟩ = some (.slice A' m c') ∧ w7.cell? ⟨b + 1, 0, none⟩ = some v ∧ w7.frozen? ⟨b + 1, 0, none⟩ = false ∧
      (KeepsFrom w4.heap.size Wx (w7.setCell ⟨b + 1, 0, none⟩ v1) ∧ KpX w4.heap.size (fun k => k = g ∨ k = b + 1) Wx (w7.setCell ⟨b + 1, 0, none⟩ v1) ∧
       ∃ v', (w7.setCell ⟨b + 1, 0, none⟩ v1).heap[b + 1]? = some (.cells #[v'] 66 (0, 0)) ∧ (Kd.int .i64).R 3 (w7.setCell ⟨b + 1, 0, none⟩ v1) w4.heap.size (fun _ => True) v' ((pre ++ [(col, cbk)]).map fun x => dotF wb row x.1 0) ∧ Fd (w7.setCell ⟨b + 1, 0, none⟩ v1) g wb (fpoly wb) (fun k => (S k ∨ k = W.heap.size ∨ some k = u8.ownBlock) ∨ k = b + 1 ∨ some k = v'.ownBlock) ∧ BS w4 (w7.setCell ⟨b + 1, 0, none⟩ v1) g (fun k => k = b + 1)) by
     intro w6 q1 q3
     have s1 := h4.size
     have s2 := HWB.out
     have s3 := q3.size
     have g1 : w6.heap[b + 1]? = some (.cells #[v] 66 (0, 0)) := (q3.block _ (blk_lt h1) (by omega)).trans h1
     have r0 := Kd.R_mono (Kd.R_step (w1 := w6) (Kd.R_types h2 hgcs (by decide)) (fun k hk hlt => q3.block k hlt hk.2)) (ok' := fun _ => True) (fun _ _ => trivial)
     obtain ⟨v1, w7, hrun, r7, g7, a7⟩ := append_int_run (dotF wb row col 0) r0 (by omega) (by have := HMB.out.c2; simp; omega)
     have hne : some (b + 1) ≠ v.ownBlock := fun e => by have := hbase _ e.symm; omega
     have g2 : w7.heap[b + 1]? = some (.cells #[v] 66 (0, 0)) := (g7.block _ (blk_lt g1) hne).trans g1
     have hsc : ∀ k, k ≠ b + 1 → (w7.setCell ⟨b + 1, 0, none⟩ v1).heap[k]? = w7.heap[k]? := fun k hk => Below.heap_setCell w7 ⟨b + 1, 0, none⟩ v1 k hk
     have hfar : ∀ k, k < w4.heap.size → k ≠ g → k ≠ b + 1 → (w7.setCell ⟨b + 1, 0, none⟩ v1).heap[k]? = Wx.heap[k]? := fun k hk hkg hkb => (hsc k hkb).trans ((g7.block k (by omega) (fun e => by have := hbase _ e.symm; omega)).trans (q3.block k (by omega) hkg))
     have hsl : ∃ ua nn uc, v1 = .slice ua nn uc := by obtain ⟨ua, uc, h⟩ := Kd.R_slice r7; exact ⟨ua, _, uc, h⟩
     refine ⟨v1, w7, hsl, hrun, (blk_cell g1 0).trans rfl, ?_, ?_, (blk_cell g2 0).trans rfl, blk_frozen g2 0, ?_, ?_, v1, blk_put g2 0 v1 rfl, ?_, ?_, ?_⟩
     ·exact (World.cell?_of_block (q3.block _ (World.block_lt_of_cell? _ _ hc3) (by show W.heap.size ≠ g; omega))).trans hc3
     ·exact (World.cell?_of_block (q3.block _ (World.block_lt_of_cell? _ _ hc10) (by show b ≠ g; omega))).trans hc10
     ·refine ⟨by have := g7.size; simp; omega, fun k o hk hko hno => ?_⟩
      have n1 : k ≠ g := by rintro rfl; rw [hgcs] at hko; cases hko; cases hno
      have n2 : k ≠ b + 1 := by rintro rfl; rw [h1] at hko; cases hko; cases hno
      have hk6 : w6.heap[k]? = some o := (q3.block k (blk_lt hko) n1).trans hko
      have n3 : some k ≠ v.ownBlock := fun e => by
       obtain ⟨cells, hc⟩ := Kd.R_typed r0 k e.symm
       rw [hc] at hk6; cases hk6; cases hno
      exact (hsc k n2).trans ((g7.block k (blk_lt hk6) n3).trans hk6)
     ·exact ⟨by have := g7.size; simp; omega, fun k hk he => hfar k hk (fun e => he (.inl e)) (fun e => he (.inr e))⟩
     ·rw [List.map_append]
      exact Kd.R_mono (Kd.R_move (Kd.R_bound r7) (fun k hk => hsc k (by have := hk.2.1; omega))) (fun _ _ => trivial)
     ·refine ((q1.grow (fun k e => .inr (.inr e.symm)) g7).set (q := ⟨b + 1, 0, none⟩) (.inl (.inr (.inl rfl))) v1).thin (fun k hk hs => ?_)
      rcases hs with hs | hs | hs
      ·exact .inl (.inl hs)
      ·exact .inl (.inr (.inl hs))
      ·rcases a7 with a7 | ⟨bb, a7, hbb⟩
       ·exact .inl (.inr (.inr (hs.trans a7)))
       ·rw [a7] at hs; cases hs; exact .inr hbb
     ·exact ⟨g7.os.trans (q3.os.trans h4.os), g7.tape.trans (q3.tape.trans h4.tape), g7.output.trans (q3.output.trans h4.output), by have := g7.size; simp; omega, fun k hk hkg hs => (hfar k hk hkg hs).trans (h4.block k hk hkg hs)⟩)
    have hmo : Tryz.prog.follows .mixedOrders = true := by kernel_rfl
    clear h1 h2 h3 h4 hx0 hx1 hlen hgcs hFrow hFcol hSS hdot hbase hgl4
    gi_wp2
    refine startIn_ (m := 8) (S := fun w' => w'.cell? ⟨b + 1, 0, none⟩ = some v ∧ w'.cell? ⟨W.heap.size, 0, none⟩ = some (.pointer (some ⟨g, 0, none⟩)) ∧ w'.cell? ⟨b, 0, none⟩ = some (.slice A' m c')) (ds := [6, 7]) #[false, false, false, false, false, false, false, false] (by kernel_rfl) rfl rfl (by kernel_rfl) (by rintro ⟨_, _, h⟩; exact h) ⟨hc11, hc3, hc10⟩ (fun hHeld => ?_)
    refine pure_ (i := 3) (N := some 44) (v := ?_) (a' := ?_) #[false, false, false, true, false, false, false, false] rfl rfl (by kernel_rfl) (fun _ _ _ h => h) (Or.inl ⟨by rfl, ?_⟩) ?_ ?_
    rotate_left
    ·intro w'
     go_simp
     with_reducible rfl
    rotate_left
    ·simp only [Act.put, List.setIfInBounds_toArray, List.set_cons_zero, List.set_cons_succ, i64_w, i32_w]
     rfl
    refine take_ (i := 0) (N := some 41) (v := ?_) (a' := ?_) #[true, false, false, true, false, false, false, false] rfl rfl (by kernel_rfl) (fun _ _ _ h => h) (Or.inl ⟨by rfl, ?_⟩) hHeld ?_ ?_
    rotate_left
    ·rintro w' ⟨s0, s1, s2⟩
     go_simp
     with_reducible rfl
    rotate_left
    ·simp only [Act.put, List.setIfInBounds_toArray, List.set_cons_zero, List.set_cons_succ, i64_w, i32_w]
     rfl
    refine take_ (i := 1) (N := some 42) (v := ?_) (a' := ?_) #[true, true, false, true, false, false, false, false] rfl rfl (by kernel_rfl) (fun _ _ _ h => h) (Or.inl ⟨by rfl, ?_⟩) hHeld ?_ ?_
    rotate_left
    ·rintro w' ⟨s0, s1, s2⟩
     go_simp
     with_reducible rfl
    rotate_left
    ·simp only [Act.put, List.setIfInBounds_toArray, List.set_cons_zero, List.set_cons_succ, i64_w, i32_w]
     rfl
    refine take_ (i := 2) (N := some 43) (v := ?_) (a' := ?_) #[true, true, true, true, false, false, false, false] rfl rfl (by kernel_rfl) (fun _ _ _ h => h) (Or.inl ⟨by rfl, ?_⟩) hHeld ?_ ?_
    rotate_left
    ·rintro w' ⟨s0, s1, s2⟩
     go_simp
     with_reducible rfl
    rotate_left
    ·simp only [Act.put, List.setIfInBounds_toArray, List.set_cons_zero, List.set_cons_succ, i64_w, i32_w]
     rfl
    refine one_ (i := 4) (N := some 45) #[true, true, true, true, true, false, false, false] rfl rfl (by kernel_rfl) (by decide) (fun K hK => ?_)
    refine goes_ Tryz.func174 (by kernel_rfl) rfl #[.pointer (some ⟨g, 0, none⟩), .slice A' m c', .slice (some ⟨cbk, 0, none⟩) col.length col.length] (by rfl) rfl rfl (by simp only [List.map_toArray, List.map_cons, List.map_nil]; rfl) ?_
    with_reducible refine (HDOT.out).mono ?_
    rintro e w6 ⟨rfl, q1, q2⟩
    refine ⟨_, rfl, ?_⟩
    obtain ⟨v1, w7, ⟨ua, nn, uc, rfl⟩, hrun, r1, r2, r3, r4, r5, r6⟩ := HEND.out w6 q1 ⟨q2.os, q2.tape, q2.output, q2.size, q2.block⟩
    have R6 := Aside0.mk r6
    clear q1 q2 r6
    refine hK.out _ _ ⟨r1, r2, r3⟩ (fun hHeld => ?_)
    clear hK K
    refine norm_ (a' := ?_) ?_ ?_
    rotate_left
    ·show Act.put _ (some 45) _ = _
     simp only [Act.put, List.setIfInBounds_toArray, List.set_cons_zero, List.set_cons_succ, i64_w, i32_w]
     rfl
    refine one_ (i := 5) (N := some 46) #[true, true, true, true, true, true, false, false] rfl rfl (by kernel_rfl) (by decide) (fun K hK => ?_)
    refine value_ (w1 := ?_) (v := ?_) (by rfl) rfl ?_ ?_
    rotate_left 2
    ·go_simp
     constructor
     ·rfl
     ·rfl
    refine hK.out _ _ ⟨(World.cell?_alloc_past _ _ _ (World.block_lt_of_cell? _ _ r1)).trans r1, (World.cell?_alloc_past _ _ _ (World.block_lt_of_cell? _ _ r2)).trans r2, (World.cell?_alloc_past _ _ _ (World.block_lt_of_cell? _ _ r3)).trans r3⟩ (fun hHeld => ?_)
    clear hK K
    refine norm_ (a' := ?_) ?_ ?_
    rotate_left
    ·show Act.put _ (some 46) _ = _
     simp only [Act.put, List.setIfInBounds_toArray, List.set_cons_zero, List.set_cons_succ, i64_w, i32_w]
     rfl
    refine last_ (i := 6) (N := some 47) #[true, true, true, true, true, true, true, false] rfl rfl (by kernel_rfl) (by decide) (fun K hK => ?_)
    refine value_ (w1 := w7) (v := .slice ua nn uc) (by rfl) rfl (by simp [execOp, resolve, Deferred.ofValue, invoke, builtin, Act.eval, hrun, Result.andThen]) ?_
    refine hK.out _ _ ?_
    clear hK K
    refine norm_ (a' := ?_) ?_ ?_
    rotate_left
    ·show Act.put _ (some 47) _ = _
     simp only [Act.put, List.setIfInBounds_toArray, List.set_cons_zero, List.set_cons_succ, i64_w, i32_w]
     rfl
    refine last_ (i := 7) (N := none) #[true, true, true, true, true, true, true, true] rfl rfl (by kernel_rfl) (by decide) (fun K hK => ?_)
    refine skip_ (w1 := ?_) (by rfl) rfl ?_ ?_
    rotate_left
    ·go_simp
     rfl
    refine hK.out _ _ ?_
    clear hK K
    refine done_ (by kernel_rfl) ?_
    exact R6.out
   case done =>
    rintro D xs Wx hD hxs ⟨v, h1, h2, h3, h4⟩ hDd
    have hmap : (xs.map fun x => dotF wb row x.1 0) = (transp b_ co).map fun col => dotF wb row col 0 := by rw [← hxs, List.map_map]; rfl
    rw [hmap] at h2
    have hRl : ((transp b_ co).map fun col => dotF wb row col 0).length = co := by simp [transp]
    have HZ := Aside0.mk (show mulF wb (a.take (k + 1)) b_ co = mulF wb (a.take k) b_ co ++ [(transp b_ co).map fun col => dotF wb row col 0] by
     unfold mulF
     rw [List.take_add_one, HRW.out]; simp)
    generalize ((transp b_ co).map fun col => dotF wb row col 0) = R at h2 hRl HZ
    obtain ⟨va, vc, rfl⟩ := Kd.R_slice h2
    rw [hRl] at h1 h2 h3
    have s1 := h4.size
    have s2 := HWB.out
    have s3 := HBE.out
    obtain ⟨gcs, hgcs⟩ := HFd.out.cells
    have hlz : (mulF wb (a.take k) b_ co).length ≤ 1000 := by simp [mulF]; omega
    have HLZ := Aside0.mk hlz
    have hwx : ∀ q, q < b → q ≠ g → Wx.heap[q]? = wr.heap[q]? := fun q hq hqg => (h4.block q (by omega) hqg (by omega)).trans (HB4.out.block q (by omega))
    have HS1 := Aside0.mk (show Kd.S (dM 3 .i64) 66 Wx W.heap.size (fun k' => True ∧ ¬ b ≤ k') u8 (mulF wb (a.take k) b_ co) from
     Kd.S_mono (Kd.S_move (Kd.S_bound (Kd.S_types HO.out hgcs (by decide))) (fun q hq => hwx q (by have := hq.2.2.1; omega) hq.1.2)) (fun q hq => ⟨trivial, by have := hq.2.2.1; omega⟩))
    have HM1 := Aside0.mk (show (dM 3 .i64).M Wx W.heap.size (fun k' => b ≤ k') R [.slice va co vc] from ⟨_, rfl, Kd.R_lower (Kd.R_mono (Kd.R_bound h2) (fun q hq => by have := hq.2.1; omega)) (by omega)⟩)
    have HOK := Aside0.mk (show ∀ k', b ≤ k' → True ∧ some k' ≠ u8.ownBlock from fun q hq => ⟨trivial, fun e => by have := Kd.R_lt (Kd.S_R HO.out) q e.symm; omega⟩)
    have hc11 : Wx.cell? ⟨b + 1, 0, none⟩ = some (.slice va co vc) := (blk_cell h1 0).trans rfl
    have H3 := Aside0.mk h3
    have HWX := Aside0.mk hwx
    have H4 := Aside0.mk h4
    have HDD := Aside0.mk hDd
    have HDN := Aside0.mk hD
    have HSW := Aside0.mk (show W.heap.size ≤ Wx.heap.size by omega)
    clear h1 h2 h3 h4 hxs hmap hRl hgcs hlz hwx hDd hD s1 s2 s3
    simp only [Exit.inBlock, Exit.then]
    go_wp2_with ((with_reducible refine gate_builtin (b := .append) (xs := #[.tmp 48, .tmp 50]) rfl ?_); go_must (at_builtin; refine Kd.S_append (dM 3 .i64) (w0 := Wx) W.heap.size rfl (.tmp 48) (.tmp 50) 61 66 (.slice none 0 0) 24 rfl Tryz.underlying61 (by kernel_rfl) rfl (by decide) (by decide) _ _ R [.slice va co vc] (fun _ => True) (fun k' => b ≤ k') rfl rfl HM1.out HOK.out (fun _ _ => trivial) HS1.out (Below.refl _ _) HSW.out ?aL ?_; (case aL => have := HLZ.out; omega)); intro v2 w8 ho2 hb2 hg2 hat2; have HO2 := Aside0.mk ho2; have HB2 := Aside0.mk hb2; have HG2 := Aside0.mk hg2; have HA2 := Aside0.mk hat2; clear ho2 hb2 hg2 hat2)
    have hg : Wx.grownBy w8 u8.ownBlock := HG2.out
    have hat : v2.ownBlock = u8.ownBlock ∨ ∃ b, v2.ownBlock = some b ∧ Wx.heap.size ≤ b := HA2.out
    have s1 := H4.out.size
    have s2 := HWB.out
    have s3 := HBE.out
    have hty := Kd.S_typed HS1.out
    obtain ⟨gcs, hgcs⟩ := HFd.out.cells
    have hDo : some D ≠ u8.ownBlock := fun e => by
     obtain ⟨cells, hc⟩ := hty D e.symm
     have h := HDD.out
     rw [hc] at h; cases h
    have hDs : ∀ D', D' ∈ Ds → w8.heap[D']? = some (.deferred (some [])) ∧ D' < b := fun D' hD' => by
     have h1 := HD.out.1 D' hD'
     have h2 := blk_lt h1
     have h3 : D' ≠ g := by rintro rfl; rw [hgcs] at h1; cases h1
     have h4 := (HWX.out D' (by omega) h3).trans h1
     have h5 : some D' ≠ u8.ownBlock := fun e => by
      obtain ⟨cells, hc⟩ := hty D' e.symm
      rw [hc] at h4; cases h4
     exact ⟨(hg.block D' (blk_lt h4) h5).trans h4, by omega⟩
    have hXx : Wx.heap[W.heap.size]? = some (.cells #[.pointer (some ⟨g, 0, none⟩)] 64 (0, 0)) := (HWX.out _ (by omega) (by omega)).trans HXb.out
    have hXo : some W.heap.size ≠ u8.ownBlock := fun e => by
     obtain ⟨cells, hc⟩ := hty _ e.symm
     rw [hc] at hXx
     injection hXx with hXx
     injection hXx with _ hXx
     exact absurd hXx (by decide)
    have hbs := Kd.R_base (Kd.S_R HS1.out)
    refine ⟨⟨_, _, _, _, _, _, _, _, _, _, _, _, _, _, _, _, _, _, _, _, _, _, _, _, k + 1, D :: Ds, rfl, rfl, by omega, List.nodup_cons.2 ⟨fun h => by have := (hDs D h).2; have := HDN.out; omega, hnd⟩, ⟨fun D' hD' => ?_, fun D' hD' => ?_⟩, ⟨by rw [HZ.out]; exact HO2.out⟩, ⟨?_⟩, ⟨?_⟩, ⟨(hg.block _ (blk_lt hXx) hXo).trans hXx⟩⟩, by simp [intOf]; omega⟩
    ·rcases List.mem_cons.1 hD' with rfl | hD'
     ·exact (hg.block _ (blk_lt HDD.out) hDo).trans HDD.out
     ·exact (hDs D' hD').1
    ·rcases List.mem_cons.1 hD' with rfl | hD'
     ·have := HDN.out; omega
     ·exact HD.out.2 D' hD'
    ·refine (H3.out.grow (fun k e => .inl (.inr (.inr e.symm))) hg).thin (fun q hq hs => ?_)
     rcases hs with hs | hs | hs
     ·exact .inl (.inl (.inl hs))
     ·exact .inl (.inl (.inr (.inl hs)))
     ·rcases hat with hat | ⟨bb, hat, hbb⟩
      ·exact .inl (.inl (.inr (.inr (hs.trans hat))))
      ·rw [hat] at hs; cases hs; exact .inr hbb
    ·have q := H4.out
     exact ⟨hg.os.trans (q.os.trans (HB4.out.os.trans HBB.out.os)), hg.tape.trans (q.tape.trans (HB4.out.tape.trans HBB.out.tape)), hg.output.trans (q.output.trans (HB4.out.output.trans HBB.out.output)), by have := hg.size; omega, fun i hi hig => (hg.block i (by omega) (fun e => by have := hbs i e.symm; omega)).trans ((HWX.out i (by omega) hig).trans (HBB.out.block i hi hig))⟩
  ·obtain rfl : k = n := by omega
   have HFN := Aside0.mk HO.out
   rw [List.take_of_length_le (by rw [← HN.out]; exact Nat.le_refl _)] at HFN
   go_wp2
   refine leaves_marks Ds wr hnd HD.out.1 (fun w' hkp hsz hos htp hou => ?_)
   have hcc : ∀ (q : Nat) (o : Obj), wr.heap[q]? = some o → o.isCells = true → w'.heap[q]? = wr.heap[q]? := fun q o hq ho => hkp q (blk_lt hq) (fun hm => by
    have h1 := HD.out.1 q hm
    rw [hq] at h1; cases h1; cases ho)
   refine ⟨_, results_tmp2 rfl _ _ _, _, rfl, S_keepC HFN.out hcc, (Fd_keepC HFd.out hcc).thin (fun q _ hq => .inl hq), hos.trans HBB.out.os, htp.trans HBB.out.tape, hou.trans HBB.out.output, by rw [hsz]; exact HBB.out.size, fun i hi hig => (hkp i (Nat.lt_of_lt_of_le hi HBB.out.size) (fun hm => by have := HD.out.2 i hm; omega)).trans (HBB.out.block i hi hig)⟩
end Go.Proofs.YtelcllhibpnneaaGreat.XCo
end
section
namespace Go.Proofs.YtelcllhibpnneaaGreat.XCo
open Go.RowKit Go.Proofs.YtelcllhibpnneaaGreatW.PrintWords Go.Proofs.YtelcllhibpnneaaGreatW.PrintLast Go.Proofs.YtelcllhibpnneaaGreatW.PrintMore
attribute [local go_sem] max2_int min2_int max_two min_two max_three min_three max_four min_four
set_option linter.unusedVariables false
set_option linter.unusedSimpArgs false
section
variable {P : Program} {ops : Array Oper} {Q : Exit → Act → World → Prop}
theorem goesV_ {oi : Oper} {N : Option Tmp} {a : Act} {w : World} {K : Act → World → Prop} {f : FuncId} {fn : Func} {ao : Array Operand} {ts : Array TypeId} (hf : P.funcs[f]? = some fn) (hname : (fn.name == "runtime.NumGoroutine") = false) (hb : fn.body.isSome = true) (x : Operand) (fst cap args : Array Value)
  (hx : a.eval x = .func (.func f) fst cap) (hw : Region.wanted oi (yielded ops a.tmps) = true) (hN : oi.dst = N) (hop : oi.op = .call { callee := .value x, args := ao, argTypes := ts }) (hargs : fst ++ ao.map a.eval ++ cap = args)
  (h : Calls P f args w fun e w' => ∃ v, e = .returned v ∧ K (a.put N v) w') : if Region.wanted oi (yielded ops a.tmps) = true then Oper.wp P oi a w K Q else K (a.put N undef) w := by
 refine call_ f args hw hN ?_ h
 have he := enters_ hf hname hb args w
 unfold execOp
 simp only [hop, resolve, hx, Deferred.ofValue]
 subst hargs
 simpa [invoke] using he
end
end Go.Proofs.YtelcllhibpnneaaGreat.XCo
end
section
namespace Go.Proofs.YtelcllhibpnneaaGreat.XCo
open Go.RowKit Go.Proofs.YtelcllhibpnneaaGreatW.PrintWords Go.Proofs.YtelcllhibpnneaaGreatW.PrintLast Go.Proofs.YtelcllhibpnneaaGreatW.PrintMore
attribute [local go_sem] max2_int min2_int max_two min_two max_three min_three max_four min_four
set_option linter.unusedVariables false
set_option linter.unusedSimpArgs false
theorem S_F {w : World} {e t B : Nat} {k : IntKind} {ok : Nat → Prop} {v : Value} {xs : List (List Int)} (h : Kd.S (dM e k) t w B ok v xs) : ∃ A c, v = .slice A xs.length c ∧ xs.length ≤ c ∧ Kd.F (dM e k) w ok A xs.length xs := by
 have hR := Kd.S_R h
 obtain ⟨A, c, rfl, hle, -⟩ := Kd.R_reads hR
 exact ⟨A, c, rfl, hle, fun W' hW => (Kd.R_reads' (Kd.R_step hR hW)).2.2⟩
theorem S_FG {w : World} {g B : Nat} {wb p : Int} {S : Nat → Prop} {v : Value} {xs : List (List Int)} (h : Kd.S (dM 3 .i64) 66 w B (fun _ => True) v xs) (hF : Fd w g wb p S) : ∃ A c, v = .slice A xs.length c ∧ xs.length ≤ c ∧ Kd.F (dM 3 .i64) w (NotG g) A xs.length xs := by
 obtain ⟨gcs, hg⟩ := Fd.cells hF
 obtain ⟨A, c, e, hle, hf⟩ := S_F (Kd.S_types h hg (by decide))
 exact ⟨A, c, e, hle, Kd.F_mono hf (fun q hq => hq.2)⟩
def rawM (wb : Int) (rows cols : Nat) : List (List Int) := madeF (fun (i j : Nat) => gpow wb (i : Int) (j : Int)) rows cols
def isalM (wb : Int) (rows cols : Nat) : List (List Int) := madeF (fun (i j : Nat) => gpow wb (gpow wb 2 (i : Int)) (j : Int)) rows cols
set_option maxRecDepth 100000 in
set_option maxHeartbeats 4000000 in
theorem Raw.calls (g : Nat) (wb : Int) (S : Nat → Prop) (rows cols : Nat) (W : World) (hw : wb = 8 ∨ wb = 16) (hF : Fd W g wb (fpoly wb) S) (hS : ∀ k, S k → k < W.heap.size) (h1 : 1 ≤ rows) (h2 : rows ≤ 20) (h3 : 1 ≤ cols) (h4 : cols ≤ 20) :
  Calls Tryz.prog 150 #[.pointer (some ⟨g, 0, none⟩), .int .i64 (rows : Int), .int .i64 (cols : Int)] W fun e w' => ∃ v, e = .returned (.tuple #[v, .int .i64 0]) ∧ Kd.S (dM 3 .i64) 66 w' W.heap.size (fun _ => True) v (rawM wb rows cols) ∧ Fd w' g wb (fpoly wb) S ∧ BB W w' g := by
 have HM := Aside0.mk (madeRaw.calls g W.heap.size wb S rows cols (W.alloc (.cells #[.pointer (some ⟨g, 0, none⟩)] 64)) hw (hF.alloc _) (fun k hk => by have := hS k hk; simp; omega) (heap_alloc_new _ _) (by omega) (by omega))
 have e1 : ¬ (rows : Int) < 1 := by omega
 have e2 : ¬ (20 : Int) < (rows : Int) := by omega
 have e3 : ¬ (cols : Int) < 1 := by omega
 have e4 : ¬ (20 : Int) < (cols : Int) := by omega
 have hmf : ∀ (fn : Fn) (first cap : Array Value) (w : World), (Instr.makeFunc fn first cap).run Tryz.prog w = .ok (.func fn first cap) w := fun _ _ _ _ => rfl
 clear hF hS hw h1 h2 h3 h4
 go_enter Tryz.func150, Tryz.ntmps150
 go_wp2_with (first | (go_at_call 110; refine HM.out.mono ?_; rintro e w3 ⟨v, rfl, q1, q2, q3⟩))
 go_ret2
 exact ⟨_, rfl, Kd.S_lower q1 (by simp), q2, (BB.alloc (BB.refl W g) _).trans q3⟩
set_option maxRecDepth 100000 in
set_option maxHeartbeats 4000000 in
theorem Isal.calls (g : Nat) (wb : Int) (S : Nat → Prop) (k m : Nat) (W : World) (hw : wb = 8 ∨ wb = 16) (hF : Fd W g wb (fpoly wb) S) (hS : ∀ k, S k → k < W.heap.size) (h1 : 1 ≤ k) (h2 : 1 ≤ m) (h3 : k < 20) (h4 : m < 20) (h5 : k + m ≤ 20) :
  Calls Tryz.prog 70 #[.pointer (some ⟨g, 0, none⟩), .int .i64 (k : Int), .int .i64 (m : Int)] W fun e w' => ∃ v, e = .returned (.tuple #[v, .int .i64 0]) ∧ Kd.S (dM 3 .i64) 66 w' W.heap.size (fun _ => True) v (isalM wb m k) ∧ Fd w' g wb (fpoly wb) S ∧ BB W w' g := by
 have HM := Aside0.mk (madeIsal.calls g W.heap.size wb S m k (W.alloc (.cells #[.pointer (some ⟨g, 0, none⟩)] 64)) hw (hF.alloc _) (fun k hk => by have := hS k hk; simp; omega) (heap_alloc_new _ _) (by omega) (by omega))
 have HT := Aside0.mk (fits.calls g k m (W.alloc (.cells #[.pointer (some ⟨g, 0, none⟩)] 64)) h1 h2 h3 h4 h5)
 have hmf : ∀ (fn : Fn) (first cap : Array Value) (w : World), (Instr.makeFunc fn first cap).run Tryz.prog w = .ok (.func fn first cap) w := fun _ _ _ _ => rfl
 clear hF hS hw h1 h2 h3 h4 h5
 go_enter Tryz.func70, Tryz.ntmps70
 go_wp2_with (first | (go_at_call 109; refine HT.out.mono ?_; rintro e w3 ⟨rfl, rfl⟩) | (go_at_call 110; refine HM.out.mono ?_; rintro e w3 ⟨v, rfl, q1, q2, q3⟩))
 go_ret2
 exact ⟨_, rfl, Kd.S_lower q1 (by simp), q2, (BB.alloc (BB.refl W g) _).trans q3⟩
theorem madeF_good {wb : Int} (tf : Nat → Nat → Int) (h : ∀ i j, 0 ≤ tf i j ∧ tf i j < fsize wb) (rows cols : Nat) : ∀ r, r ∈ madeF tf rows cols → Good wb cols r := by
 intro r hr
 simp only [madeF, List.mem_map] at hr
 obtain ⟨i, -, rfl⟩ := hr
 refine ⟨by simp, fun x hx => ?_⟩
 simp only [List.mem_map] at hx
 obtain ⟨j, -, rfl⟩ := hx
 exact h i j
theorem rawM_good {wb : Int} (hw : wb = 8 ∨ wb = 16) (rows cols : Nat) : ∀ r, r ∈ rawM wb rows cols → Good wb cols r := madeF_good _ (fun i j => pow_range hw _ _) rows cols
theorem rawM_length (wb : Int) (rows cols : Nat) : (rawM wb rows cols).length = rows := by simp [rawM, madeF]
def invM (wb : Int) (rows : List (List Int)) : List (List Int) := (invF wb rows).1.map (·.drop rows.length)
theorem invM_good {wb : Int} (hw : wb = 8 ∨ wb = 16) (rows : List (List Int)) (h : ∀ r, r ∈ rows → Good wb rows.length r) : (∀ r, r ∈ invM wb rows → Good wb rows.length r) ∧ (invM wb rows).length = rows.length := by
 have h1 := invF_good hw rows h
 refine ⟨fun r hr => ?_, by simp [invM, h1.2]⟩
 simp only [invM, List.mem_map] at hr
 obtain ⟨q, hq, rfl⟩ := hr
 have h2 := h1.1 q hq
 exact ⟨by rw [List.length_drop, h2.1]; omega, fun x hx => h2.2 x (List.mem_of_mem_drop hx)⟩
def sysM (wb : Int) (k m : Nat) : List (List Int) := mulF wb (rawM wb (k + m) k) (invM wb ((rawM wb (k + m) k).take k)) k
set_option maxRecDepth 100000 in
set_option maxHeartbeats 4000000 in
theorem System.calls (g : Nat) (wb : Int) (S : Nat → Prop) (k m : Nat) (W : World) (hw : wb = 8 ∨ wb = 16) (hF : Fd W g wb (fpoly wb) S) (hS : ∀ k, S k → k < W.heap.size) (h1 : 1 ≤ k) (h2 : 1 ≤ m) (h3 : k < 20) (h4 : m < 20) (h5 : k + m ≤ 20) (hinv : ¬ (invF wb ((rawM wb (k + m) k).take k)).2 < k) :
  Calls Tryz.prog 113 #[.pointer (some ⟨g, 0, none⟩), .int .i64 (k : Int), .int .i64 (m : Int)] W fun e w' => ∃ v, e = .returned (.tuple #[v, .int .i64 0]) ∧ Kd.S (dM 3 .i64) 66 w' W.heap.size (fun _ => True) v (sysM wb k m) ∧ Fd w' g wb (fpoly wb) S ∧ BB W w' g := by
 have HT := Aside0.mk (fits.calls g k m W h1 h2 h3 h4 h5)
 have hraw := Raw.calls g wb S (k + m) k W hw hF hS (by omega) h5 h1 (by omega)
 have HN := Aside0.mk (rawM_length wb (k + m) k)
 have HG := Aside0.mk (rawM_good hw (k + m) k)
 have HW := Aside0.mk hw
 have HS := Aside0.mk hS
 have HI := Aside0.mk hinv
 have hsum : wrap64 ((k : Int) + (m : Int)) = (k : Int) + (m : Int) := by unfold wrap64; omega
 rw [show ((k + m : Nat) : Int) = (k : Int) + (m : Int) by omega] at hraw
 have HX := Aside0.mk (show mulF wb (rawM wb (k + m) k) (invM wb ((rawM wb (k + m) k).take k)) k = sysM wb k m from rfl)
 generalize sysM wb k m = res at HX ⊢
 generalize rawM wb (k + m) k = raw at hraw HN HG HI HX
 have HRAW := Aside0.mk hraw
 clear hraw hinv hF hS hw
 go_enter Tryz.func113, Tryz.ntmps113
 go_wp2_with (first | (go_at_call 109; refine HT.out.mono ?_; rintro e w3 ⟨rfl, rfl⟩))
 go_wp2_with fail
 refine HRAW.out.mono ?_
 rintro e w1 ⟨v1, rfl, q1, q2, q3⟩
 obtain ⟨o, cap, rfl, -, -, -⟩ := Kd.S_form q1 (by rw [HN.out]; omega)
 obtain ⟨A, c, he, hle, hf⟩ := S_FG q1 q2
 injection he with he1 he2 he3
 subst he1
 subst he3
 rw [HN.out] at hle ⊢
 have HF1 := Aside0.mk q2
 have HB1 := Aside0.mk q3
 have HFR := Aside0.mk hf
 have htl : (raw.take k).length = k := by rw [List.length_take, HN.out]; omega
 have hgt : ∀ r, r ∈ raw.take k → Good wb k r := fun r hr => HG.out r (List.mem_of_mem_take hr)
 have HSB := Aside0.mk (show ∀ q, S q → q < w1.heap.size from fun q hq => Nat.lt_of_lt_of_le (HS.out q hq) q3.size)
 have hiv := Inverse.calls g wb S (some ⟨o, 0, none⟩) cap (raw.take k) w1 HW.out ⟨by omega, by omega, by omega, by omega, fun r hr => by rw [htl]; exact hgt r hr⟩ q2 HSB.out (by have := Kd.F_now (Kd.F_take hf (show k ≤ raw.length by rw [HN.out]; omega)); exact this)
 have HIG := Aside0.mk (invM_good HW.out (raw.take k) (by rw [htl]; exact hgt))
 rw [htl] at hiv HIG
 rw [if_neg HI.out] at hiv
 have HIV := Aside0.mk (show Calls Tryz.prog 89 #[.pointer (some ⟨g, 0, none⟩), .slice (some ⟨o, 0, none⟩) k cap] w1 fun e w' => ∃ v, e = .returned (.tuple #[v, .int .i64 0]) ∧ Kd.S (dM 3 .i64) 66 w' w1.heap.size (fun _ => True) v (invM wb (raw.take k)) ∧ Fd w' g wb (fpoly wb) S ∧ BB w1 w' g from hiv.mono (by
  rintro e w' ⟨v, e1, e2, e3, e4⟩
  rw [if_neg HI.out] at e2
  refine ⟨v, e1, ?_, e3, e4⟩
  unfold invM
  rw [htl]
  exact e2))
 have i1 : (0 : Int) ≤ (k : Int) := by omega
 have i2 : (k : Int) ≤ (cap : Int) := by omega
 clear q1 q2 q3 hf htl hgt hiv he2
 go_wp2_with fail
 refine HIV.out.mono ?_
 rintro e w2 ⟨v2, rfl, q1, q2, q3⟩
 obtain ⟨A2, c2, rfl, hle2, hf2⟩ := S_FG q1 q2
 have hil := HIG.out.2
 have hmul := matrix_Mul.calls g wb S (some ⟨o, 0, none⟩) A2 cap c2 k raw (invM wb (raw.take k)) w2 HW.out ⟨by rw [HN.out]; omega, by rw [HN.out]; omega, by omega, by omega, fun r hr => by rw [hil]; exact HG.out r hr⟩ ⟨by omega, by omega, by omega, by omega, fun r hr => HIG.out.1 r hr⟩ q2 (fun q hq => Nat.lt_of_lt_of_le (HSB.out q hq) q3.size) (F_bb HFR.out q3) hf2
 rw [HX.out, HN.out, hil] at hmul
 rw [hil]
 have HML := Aside0.mk hmul
 have HB2 := Aside0.mk (HB1.out.trans q3)
 have HZ := Aside0.mk (Nat.le_trans HB1.out.size q3.size)
 clear q1 q2 q3 hf2 hil hmul hle2
 go_wp2_with (first | (go_at_call 151; refine HML.out.mono ?_; rintro e w5 ⟨v5, rfl, q1, q2, q3⟩))
 go_ret2
 exact ⟨_, rfl, Kd.S_lower q1 HZ.out, q2, HB2.out.trans q3⟩
end Go.Proofs.YtelcllhibpnneaaGreat.XCo
end
