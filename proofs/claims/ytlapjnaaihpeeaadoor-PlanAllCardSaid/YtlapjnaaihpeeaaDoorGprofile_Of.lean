-- WRITTEN BY this work's own program (wip/tools/xprint.py). Not trusted: Lean checks it.
import Derived.Test.YtlapjnaaihpeeaaDoorXPl0
import Derived.Laws.CopyOwn
namespace Go.Proofs.YtlapjnaaihpeeaaDoor.XPl
open Go.RowKit Go.Proofs.YtlapjnaaihpeeaaDoorW.PrintWords Go.Proofs.YtlapjnaaihpeeaaDoorW.PrintLast Go.Proofs.YtlapjnaaihpeeaaDoorW.PrintMore
attribute [local go_sem] max2_int min2_int max_two min_two max_three min_three max_four min_four   -- for this text's walks alone
set_option linter.unusedVariables false
set_option linter.unusedSimpArgs false

/-! ### profile_Of: given by hand -/
def profile_Of.f (a0 : Int) : Option (ByteArray × Int × Int × Int × Int × Bool) :=
  if a0 = 1 then some (⟨#[106, 118]⟩, 8, 285, 106, 4, true) else if a0 = 2 then some (⟨#[106, 99]⟩, 16, 69643, 106, 4, true)
  else if a0 = 3 then some (⟨#[105, 114]⟩, 8, 285, 105, 3, true) else if a0 = 4 then some (⟨#[105, 99]⟩, 8, 285, 105, 4, true)
  else if a0 = 5 then some (⟨#[98, 98]⟩, 8, 285, 98, 4, true) else if a0 = 6 then some (⟨#[107, 112]⟩, 8, 285, 112, 4, true)
  else some (⟨#[]⟩, 0, 0, 0, 0, false)
theorem profile_Of.low (a0 : Int) (w : World) (h : a0 < 1) :
    Calls Tryd.prog 30 #[.int .i64 a0] w fun e w' => e = .returned (.tuple #[.agg #[.string ⟨#[]⟩, .int .i64 0, .int .u32 0, .int .u8 0, .int .i64 0], .bool false]) ∧ Below w.heap.size w w' := by
  go_enter Tryd.func30, Tryd.ntmps30
  go_wp2
  exact bodyPost_ret (v := .tuple #[.agg #[.string ⟨#[]⟩, .int .i64 0, .int .u32 0, .int .u8 0, .int .i64 0], .bool false]) (by simp [results, Tryd.results30, go_sem]) rfl ⟨rfl, (Below.refl _ _).alloc (Nat.le_refl _) _⟩
theorem profile_Of.high (a0 : Int) (w : World) (h : 6 < a0) :
    Calls Tryd.prog 30 #[.int .i64 a0] w fun e w' => e = .returned (.tuple #[.agg #[.string ⟨#[]⟩, .int .i64 0, .int .u32 0, .int .u8 0, .int .i64 0], .bool false]) ∧ Below w.heap.size w w' := by
  have h1 : ¬ a0 < 1 := by omega
  go_enter Tryd.func30, Tryd.ntmps30
  go_wp2
  exact bodyPost_ret (v := .tuple #[.agg #[.string ⟨#[]⟩, .int .i64 0, .int .u32 0, .int .u8 0, .int .i64 0], .bool false]) (by simp [results, Tryd.results30, go_sem]) rfl ⟨rfl, (Below.refl _ _).alloc (Nat.le_refl _) _⟩
def profile_table.v : Value := .agg #[.string ⟨#[106, 118]⟩, .int .i64 8, .int .u32 285, .int .u8 106, .int .i64 4, .string ⟨#[106, 99]⟩, .int .i64 16, .int .u32 69643, .int .u8 106, .int .i64 4, .string ⟨#[105, 114]⟩, .int .i64 8, .int .u32 285, .int .u8 105, .int .i64 3, .string ⟨#[105, 99]⟩, .int .i64 8, .int .u32 285, .int .u8 105, .int .i64 4, .string ⟨#[98, 98]⟩, .int .i64 8, .int .u32 285, .int .u8 98, .int .i64 4, .string ⟨#[107, 112]⟩, .int .i64 8, .int .u32 285, .int .u8 112, .int .i64 4]
theorem profile_table.any (w : World) :
    Calls Tryd.prog 34 #[] w fun e w' => e = .returned profile_table.v ∧ Below w.heap.size w w' := by
  go_enter Tryd.func34, Tryd.ntmps34
  go_wp2_with ((with_reducible refine gate_store rfl ?_); refine wpList_store_row rfl 75 _ _ rfl w.heap.size _ rfl rfl 75 _ (heap_alloc_new _ _) (by kernel_rfl) rfl (by kernel_rfl) ?_)
  exact bodyPost_ret (results_cell_row Tryd.results34 _ _ w.heap.size _ _ (0, 0) _ rfl (setRow_heap _ _ _ _ _ _ (heap_alloc_new _ _)) Tryd.underlying75 rfl (by kernel_rfl)) rfl ⟨rfl, below_setRow ((Below.refl _ _).alloc (Nat.le_refl _) _) (Nat.le_refl _) _⟩
theorem profile_Of.at1 (w : World) :
    Calls Tryd.prog 30 #[.int .i64 1] w fun e w' => e = .returned (.tuple #[.agg #[.string ⟨#[106, 118]⟩, .int .i64 8, .int .u32 285, .int .u8 106, .int .i64 4], .bool true]) ∧ Below w.heap.size w w' := by
  have hi : ∀ w, (Instr.index 75 profile_table.v (.int .i64 0)).run Tryd.prog w = .ok (.agg #[.string ⟨#[106, 118]⟩, .int .i64 8, .int .u32 285, .int .u8 106, .int .i64 4]) w := fun _ => by kernel_rfl
  go_enter Tryd.func30, Tryd.ntmps30
  go_wp2_with fail
  refine (profile_table.any _).mono ?_
  rintro e w1 ⟨rfl, hb⟩
  have hh : w1.heap[w.heap.size]? = some (.cells #[.string ⟨#[]⟩, .int .i64 0, .int .u32 0, .int .u8 0, .int .i64 0] 68 (0, 0)) := (hb.block _ (by simp)).trans (heap_alloc_new _ _)
  go_wp2_with ((with_reducible refine gate_store rfl ?_); (refine wpList_store_row rfl 68 _ _ rfl w.heap.size _ rfl rfl 68 _ hh (by kernel_rfl) rfl (by kernel_rfl) ?_))
  refine bodyPost_ret (v := .tuple #[.agg #[.string ⟨#[106, 118]⟩, .int .i64 8, .int .u32 285, .int .u8 106, .int .i64 4], .bool true]) ?_ rfl ⟨rfl, below_setRow (((Below.refl _ _).alloc (Nat.le_refl _) _).trans (hb.mono (by simp))) (Nat.le_refl _) _⟩
  rw [results_cell_tmp Tryd.results30]
  simp only [Array.getD_eq_getD_getElem?, List.getElem?_toArray, List.getElem?_cons_succ, List.getElem?_cons_zero, Option.getD_some, asAddr, Sem.run_pure, Result.andThen_ok]
  rw [run_loadVar_row _ w.heap.size 68 68 _ (0, 0) _ (setRow_heap _ _ _ _ _ _ hh) Tryd.underlying68 rfl (by kernel_rfl)]
  rfl
theorem profile_Of.at2 (w : World) :
    Calls Tryd.prog 30 #[.int .i64 2] w fun e w' => e = .returned (.tuple #[.agg #[.string ⟨#[106, 99]⟩, .int .i64 16, .int .u32 69643, .int .u8 106, .int .i64 4], .bool true]) ∧ Below w.heap.size w w' := by
  have hi : ∀ w, (Instr.index 75 profile_table.v (.int .i64 1)).run Tryd.prog w = .ok (.agg #[.string ⟨#[106, 99]⟩, .int .i64 16, .int .u32 69643, .int .u8 106, .int .i64 4]) w := fun _ => by kernel_rfl
  go_enter Tryd.func30, Tryd.ntmps30
  go_wp2_with fail
  refine (profile_table.any _).mono ?_
  rintro e w1 ⟨rfl, hb⟩
  have hh : w1.heap[w.heap.size]? = some (.cells #[.string ⟨#[]⟩, .int .i64 0, .int .u32 0, .int .u8 0, .int .i64 0] 68 (0, 0)) := (hb.block _ (by simp)).trans (heap_alloc_new _ _)
  go_wp2_with ((with_reducible refine gate_store rfl ?_); (refine wpList_store_row rfl 68 _ _ rfl w.heap.size _ rfl rfl 68 _ hh (by kernel_rfl) rfl (by kernel_rfl) ?_))
  refine bodyPost_ret (v := .tuple #[.agg #[.string ⟨#[106, 99]⟩, .int .i64 16, .int .u32 69643, .int .u8 106, .int .i64 4], .bool true]) ?_ rfl ⟨rfl, below_setRow (((Below.refl _ _).alloc (Nat.le_refl _) _).trans (hb.mono (by simp))) (Nat.le_refl _) _⟩
  rw [results_cell_tmp Tryd.results30]
  simp only [Array.getD_eq_getD_getElem?, List.getElem?_toArray, List.getElem?_cons_succ, List.getElem?_cons_zero, Option.getD_some, asAddr, Sem.run_pure, Result.andThen_ok]
  rw [run_loadVar_row _ w.heap.size 68 68 _ (0, 0) _ (setRow_heap _ _ _ _ _ _ hh) Tryd.underlying68 rfl (by kernel_rfl)]
  rfl
theorem profile_Of.at3 (w : World) :
    Calls Tryd.prog 30 #[.int .i64 3] w fun e w' => e = .returned (.tuple #[.agg #[.string ⟨#[105, 114]⟩, .int .i64 8, .int .u32 285, .int .u8 105, .int .i64 3], .bool true]) ∧ Below w.heap.size w w' := by
  have hi : ∀ w, (Instr.index 75 profile_table.v (.int .i64 2)).run Tryd.prog w = .ok (.agg #[.string ⟨#[105, 114]⟩, .int .i64 8, .int .u32 285, .int .u8 105, .int .i64 3]) w := fun _ => by kernel_rfl
  go_enter Tryd.func30, Tryd.ntmps30
  go_wp2_with fail
  refine (profile_table.any _).mono ?_
  rintro e w1 ⟨rfl, hb⟩
  have hh : w1.heap[w.heap.size]? = some (.cells #[.string ⟨#[]⟩, .int .i64 0, .int .u32 0, .int .u8 0, .int .i64 0] 68 (0, 0)) := (hb.block _ (by simp)).trans (heap_alloc_new _ _)
  go_wp2_with ((with_reducible refine gate_store rfl ?_); (refine wpList_store_row rfl 68 _ _ rfl w.heap.size _ rfl rfl 68 _ hh (by kernel_rfl) rfl (by kernel_rfl) ?_))
  refine bodyPost_ret (v := .tuple #[.agg #[.string ⟨#[105, 114]⟩, .int .i64 8, .int .u32 285, .int .u8 105, .int .i64 3], .bool true]) ?_ rfl ⟨rfl, below_setRow (((Below.refl _ _).alloc (Nat.le_refl _) _).trans (hb.mono (by simp))) (Nat.le_refl _) _⟩
  rw [results_cell_tmp Tryd.results30]
  simp only [Array.getD_eq_getD_getElem?, List.getElem?_toArray, List.getElem?_cons_succ, List.getElem?_cons_zero, Option.getD_some, asAddr, Sem.run_pure, Result.andThen_ok]
  rw [run_loadVar_row _ w.heap.size 68 68 _ (0, 0) _ (setRow_heap _ _ _ _ _ _ hh) Tryd.underlying68 rfl (by kernel_rfl)]
  rfl
theorem profile_Of.at4 (w : World) :
    Calls Tryd.prog 30 #[.int .i64 4] w fun e w' => e = .returned (.tuple #[.agg #[.string ⟨#[105, 99]⟩, .int .i64 8, .int .u32 285, .int .u8 105, .int .i64 4], .bool true]) ∧ Below w.heap.size w w' := by
  have hi : ∀ w, (Instr.index 75 profile_table.v (.int .i64 3)).run Tryd.prog w = .ok (.agg #[.string ⟨#[105, 99]⟩, .int .i64 8, .int .u32 285, .int .u8 105, .int .i64 4]) w := fun _ => by kernel_rfl
  go_enter Tryd.func30, Tryd.ntmps30
  go_wp2_with fail
  refine (profile_table.any _).mono ?_
  rintro e w1 ⟨rfl, hb⟩
  have hh : w1.heap[w.heap.size]? = some (.cells #[.string ⟨#[]⟩, .int .i64 0, .int .u32 0, .int .u8 0, .int .i64 0] 68 (0, 0)) := (hb.block _ (by simp)).trans (heap_alloc_new _ _)
  go_wp2_with ((with_reducible refine gate_store rfl ?_); (refine wpList_store_row rfl 68 _ _ rfl w.heap.size _ rfl rfl 68 _ hh (by kernel_rfl) rfl (by kernel_rfl) ?_))
  refine bodyPost_ret (v := .tuple #[.agg #[.string ⟨#[105, 99]⟩, .int .i64 8, .int .u32 285, .int .u8 105, .int .i64 4], .bool true]) ?_ rfl ⟨rfl, below_setRow (((Below.refl _ _).alloc (Nat.le_refl _) _).trans (hb.mono (by simp))) (Nat.le_refl _) _⟩
  rw [results_cell_tmp Tryd.results30]
  simp only [Array.getD_eq_getD_getElem?, List.getElem?_toArray, List.getElem?_cons_succ, List.getElem?_cons_zero, Option.getD_some, asAddr, Sem.run_pure, Result.andThen_ok]
  rw [run_loadVar_row _ w.heap.size 68 68 _ (0, 0) _ (setRow_heap _ _ _ _ _ _ hh) Tryd.underlying68 rfl (by kernel_rfl)]
  rfl
theorem profile_Of.at5 (w : World) :
    Calls Tryd.prog 30 #[.int .i64 5] w fun e w' => e = .returned (.tuple #[.agg #[.string ⟨#[98, 98]⟩, .int .i64 8, .int .u32 285, .int .u8 98, .int .i64 4], .bool true]) ∧ Below w.heap.size w w' := by
  have hi : ∀ w, (Instr.index 75 profile_table.v (.int .i64 4)).run Tryd.prog w = .ok (.agg #[.string ⟨#[98, 98]⟩, .int .i64 8, .int .u32 285, .int .u8 98, .int .i64 4]) w := fun _ => by kernel_rfl
  go_enter Tryd.func30, Tryd.ntmps30
  go_wp2_with fail
  refine (profile_table.any _).mono ?_
  rintro e w1 ⟨rfl, hb⟩
  have hh : w1.heap[w.heap.size]? = some (.cells #[.string ⟨#[]⟩, .int .i64 0, .int .u32 0, .int .u8 0, .int .i64 0] 68 (0, 0)) := (hb.block _ (by simp)).trans (heap_alloc_new _ _)
  go_wp2_with ((with_reducible refine gate_store rfl ?_); (refine wpList_store_row rfl 68 _ _ rfl w.heap.size _ rfl rfl 68 _ hh (by kernel_rfl) rfl (by kernel_rfl) ?_))
  refine bodyPost_ret (v := .tuple #[.agg #[.string ⟨#[98, 98]⟩, .int .i64 8, .int .u32 285, .int .u8 98, .int .i64 4], .bool true]) ?_ rfl ⟨rfl, below_setRow (((Below.refl _ _).alloc (Nat.le_refl _) _).trans (hb.mono (by simp))) (Nat.le_refl _) _⟩
  rw [results_cell_tmp Tryd.results30]
  simp only [Array.getD_eq_getD_getElem?, List.getElem?_toArray, List.getElem?_cons_succ, List.getElem?_cons_zero, Option.getD_some, asAddr, Sem.run_pure, Result.andThen_ok]
  rw [run_loadVar_row _ w.heap.size 68 68 _ (0, 0) _ (setRow_heap _ _ _ _ _ _ hh) Tryd.underlying68 rfl (by kernel_rfl)]
  rfl
theorem profile_Of.at6 (w : World) :
    Calls Tryd.prog 30 #[.int .i64 6] w fun e w' => e = .returned (.tuple #[.agg #[.string ⟨#[107, 112]⟩, .int .i64 8, .int .u32 285, .int .u8 112, .int .i64 4], .bool true]) ∧ Below w.heap.size w w' := by
  have hi : ∀ w, (Instr.index 75 profile_table.v (.int .i64 5)).run Tryd.prog w = .ok (.agg #[.string ⟨#[107, 112]⟩, .int .i64 8, .int .u32 285, .int .u8 112, .int .i64 4]) w := fun _ => by kernel_rfl
  go_enter Tryd.func30, Tryd.ntmps30
  go_wp2_with fail
  refine (profile_table.any _).mono ?_
  rintro e w1 ⟨rfl, hb⟩
  have hh : w1.heap[w.heap.size]? = some (.cells #[.string ⟨#[]⟩, .int .i64 0, .int .u32 0, .int .u8 0, .int .i64 0] 68 (0, 0)) := (hb.block _ (by simp)).trans (heap_alloc_new _ _)
  go_wp2_with ((with_reducible refine gate_store rfl ?_); (refine wpList_store_row rfl 68 _ _ rfl w.heap.size _ rfl rfl 68 _ hh (by kernel_rfl) rfl (by kernel_rfl) ?_))
  refine bodyPost_ret (v := .tuple #[.agg #[.string ⟨#[107, 112]⟩, .int .i64 8, .int .u32 285, .int .u8 112, .int .i64 4], .bool true]) ?_ rfl ⟨rfl, below_setRow (((Below.refl _ _).alloc (Nat.le_refl _) _).trans (hb.mono (by simp))) (Nat.le_refl _) _⟩
  rw [results_cell_tmp Tryd.results30]
  simp only [Array.getD_eq_getD_getElem?, List.getElem?_toArray, List.getElem?_cons_succ, List.getElem?_cons_zero, Option.getD_some, asAddr, Sem.run_pure, Result.andThen_ok]
  rw [run_loadVar_row _ w.heap.size 68 68 _ (0, 0) _ (setRow_heap _ _ _ _ _ _ hh) Tryd.underlying68 rfl (by kernel_rfl)]
  rfl
theorem profile_Of.calls (a0 : Int) (r1 : ByteArray) (r2 : Int) (r3 : Int) (r4 : Int) (r5 : Int) (r6 : Bool) (w : World) (h : profile_Of.f a0 = some (r1, r2, r3, r4, r5, r6)) :
    Calls Tryd.prog 30 #[.int .i64 a0] w fun e w' => e = .returned (.tuple #[.agg #[.string r1, .int .i64 r2, .int .u32 r3, .int .u8 r4, .int .i64 r5], .bool r6]) ∧ Below w.heap.size w w' := by
  unfold profile_Of.f at h
  by_cases h1 : a0 = 1
  · subst h1; simp at h; obtain ⟨rfl, rfl, rfl, rfl, rfl, rfl⟩ := h; exact profile_Of.at1 w
  rw [if_neg h1] at h
  by_cases h2 : a0 = 2
  · subst h2; simp at h; obtain ⟨rfl, rfl, rfl, rfl, rfl, rfl⟩ := h; exact profile_Of.at2 w
  rw [if_neg h2] at h
  by_cases h3 : a0 = 3
  · subst h3; simp at h; obtain ⟨rfl, rfl, rfl, rfl, rfl, rfl⟩ := h; exact profile_Of.at3 w
  rw [if_neg h3] at h
  by_cases h4 : a0 = 4
  · subst h4; simp at h; obtain ⟨rfl, rfl, rfl, rfl, rfl, rfl⟩ := h; exact profile_Of.at4 w
  rw [if_neg h4] at h
  by_cases h5 : a0 = 5
  · subst h5; simp at h; obtain ⟨rfl, rfl, rfl, rfl, rfl, rfl⟩ := h; exact profile_Of.at5 w
  rw [if_neg h5] at h
  by_cases h6 : a0 = 6
  · subst h6; simp at h; obtain ⟨rfl, rfl, rfl, rfl, rfl, rfl⟩ := h; exact profile_Of.at6 w
  rw [if_neg h6] at h
  simp at h; obtain ⟨rfl, rfl, rfl, rfl, rfl, rfl⟩ := h
  by_cases h0 : a0 < 1
  · exact profile_Of.low a0 w h0
  · exact profile_Of.high a0 w (by omega)

end Go.Proofs.YtlapjnaaihpeeaaDoor.XPl
