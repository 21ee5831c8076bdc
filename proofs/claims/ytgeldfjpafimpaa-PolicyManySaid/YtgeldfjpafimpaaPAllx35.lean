-- laid by a program of this session (tprint.py) out of the translation and of texts typed by hand; Lean checks it
import Derived.Test.YtgeldfjpafimpaaPAllx0
import Derived.MapKept
namespace Go.Proofs.Ytgeldfjpafimpaa.PAll
open Go.RowKit Go.Proofs.YtgeldfjpafimpaaW.PrintWords Go.Proofs.YtgeldfjpafimpaaW.PrintLast Go.Proofs.YtgeldfjpafimpaaW.PrintMore
attribute [local go_sem] max2_int min2_int max_two min_two max_three min_three max_four min_four   -- for this text's walks alone
set_option linter.unusedVariables false
set_option linter.unusedSimpArgs false

/-! ### policy_kinds: function 49 -/
theorem push_set (h : Array Obj) (o o' : Obj) : (h.push o).setIfInBounds h.size o' = h.push o' := by
  apply Array.toList_inj.1
  rw [Array.toList_setIfInBounds, Array.toList_push, Array.toList_push, List.set_append_right _ _ (by simp)]
  simp
theorem alloc_set (W : World) (o o' : Obj) : ({ heap := (W.alloc o).heap.setIfInBounds W.heap.size o', tape := W.tape, drawn := W.drawn, os := W.os, output := W.output } : World) = W.alloc o' := by
  show ({ heap := (W.heap.push o).setIfInBounds W.heap.size o', tape := W.tape, drawn := W.drawn, os := W.os, output := W.output } : World) = { heap := W.heap.push o', tape := W.tape, drawn := W.drawn, os := W.os, output := W.output }
  rw [push_set]
theorem alloc_at (W : World) (o : Obj) : (W.alloc o).heap[W.heap.size]? = some o := by
  show (W.heap.push o)[W.heap.size]? = some o
  simp
theorem kPut (n : Int) (es : Array MapEntry) (clock : Nat) (hf : Instr.findNow (.int .i64) (.int .i64 n) es.toList 0 = some none) (v : Value) (W : World) :
    (Instr.mapUpdate 79 (.map (some W.heap.size)) (.int .i64 n) v).run Try.prog (W.alloc (.map es clock)) = .ok () (W.alloc (.map (es.push { key := .int .i64 n, val := v, born := clock }) (clock + 1))) := by
  have hb : (W.alloc (.map es clock)).heap[W.heap.size]? = some (.map es clock) := alloc_at W _
  have hm := Try.underlying79
  have hd := Try.underlying3
  have hc := MapKept.run_checkKey (P := Try.prog) (w := W.alloc (.map es clock)) (k := .int .i64 n) hd (by simp [MapKept.IsKey]) false 9999
  have he : ∀ o, ({ W.alloc (.map es clock) with heap := (W.alloc (.map es clock)).heap.setIfInBounds W.heap.size o } : World) = W.alloc o := fun o => alloc_set W _ o
  unfold Instr.mapUpdate
  simp only [Sem.run_bind, run_underlying hm, Result.andThen, MapKept.run_getObj_map hb, hc, MapKept.run_findKey hd hf, MapKept.run_setObj_map _ hb, he]
/-- The map of kinds. -/
def kMap : Obj := .map #[{ key := .int .i64 1, val := .agg #[.func (Fn.func 64) #[] #[], .nilFunc], born := 0 }, { key := .int .i64 2, val := .agg #[.func (Fn.func 66) #[] #[], .nilFunc], born := 1 }, { key := .int .i64 3, val := .agg #[.nilFunc, .func (Fn.func 68) #[] #[]], born := 2 }, { key := .int .i64 4, val := .agg #[.func (Fn.func 70) #[] #[], .nilFunc], born := 3 }] 4
theorem policy_kinds.calls (w : World) :
    Calls Try.prog 49 #[] w fun e w' => e = .returned (.map (some w.heap.size)) ∧ w' = w.alloc kMap := by
  have hmm := @run_makeMap Try.prog
  have h1 := kPut 1 #[] 0 (by rfl)
  have h2 : ∀ v v1 W, _ := fun v v1 W => kPut 2 #[{ key := .int .i64 1, val := v, born := 0 }] 1 (by rfl) v1 W
  have h3 : ∀ v v1 v2 W, _ := fun v v1 v2 W => kPut 3 #[{ key := .int .i64 1, val := v, born := 0 }, { key := .int .i64 2, val := v1, born := 1 }] 2 (by rfl) v2 W
  have h4 : ∀ v v1 v2 v3 W, _ := fun v v1 v2 v3 W => kPut 4 #[{ key := .int .i64 1, val := v, born := 0 }, { key := .int .i64 2, val := v1, born := 1 }, { key := .int .i64 3, val := v2, born := 2 }] 3 (by rfl) v3 W
  simp only [List.push_toArray, List.nil_append, List.cons_append] at h1 h2 h3 h4
  go_enter Try.func49, Try.ntmps49
  go_wp2
  go_ret
  exact ⟨rfl, rfl⟩
theorem kLook (n : Int) (i : Nat) (v : Value) (hf : ∀ es clock, kMap = .map es clock → es.isEmpty = false ∧ Instr.findNow (.int .i64) (.int .i64 n) es.toList 0 = some (some (i, v))) (b : Nat) (W : World) (hb : W.heap[b]? = some kMap) :
    (Instr.lookup 79 (.map (some b)) (.int .i64 n) false).run Try.prog W = .ok v W := by
  have hm := Try.underlying79
  have hd := Try.underlying3
  have hc := MapKept.run_checkKey (P := Try.prog) (w := W) (k := .int .i64 n) hd (by simp [MapKept.IsKey])
  obtain ⟨es, clock, hk⟩ : ∃ es clock, kMap = .map es clock := ⟨_, _, rfl⟩
  obtain ⟨he, hf⟩ := hf es clock hk
  rw [hk] at hb
  unfold Instr.lookup
  simp only [Sem.run_bind, run_underlying hm, Result.andThen, MapKept.run_getObj_map hb, hc, MapKept.run_findKey hd hf, Sem.run_pure]
  rfl
theorem kLook1 (b : Nat) (W : World) (hb : W.heap[b]? = some kMap) : (Instr.lookup 79 (.map (some b)) (.int .i64 1) false).run Try.prog W = .ok (.agg #[.func (Fn.func 64) #[] #[], .nilFunc]) W := kLook 1 0 _ (fun es clock h => by cases h; exact ⟨rfl, rfl⟩) b W hb
theorem kLook2 (b : Nat) (W : World) (hb : W.heap[b]? = some kMap) : (Instr.lookup 79 (.map (some b)) (.int .i64 2) false).run Try.prog W = .ok (.agg #[.func (Fn.func 66) #[] #[], .nilFunc]) W := kLook 2 1 _ (fun es clock h => by cases h; exact ⟨rfl, rfl⟩) b W hb
theorem kLook3 (b : Nat) (W : World) (hb : W.heap[b]? = some kMap) : (Instr.lookup 79 (.map (some b)) (.int .i64 3) false).run Try.prog W = .ok (.agg #[.nilFunc, .func (Fn.func 68) #[] #[]]) W := kLook 3 2 _ (fun es clock h => by cases h; exact ⟨rfl, rfl⟩) b W hb
theorem kLook4 (b : Nat) (W : World) (hb : W.heap[b]? = some kMap) : (Instr.lookup 79 (.map (some b)) (.int .i64 4) false).run Try.prog W = .ok (.agg #[.func (Fn.func 70) #[] #[], .nilFunc]) W := kLook 4 3 _ (fun es clock h => by cases h; exact ⟨rfl, rfl⟩) b W hb
theorem kLook0 (n : Int) (h1 : n ≠ 1) (h2 : n ≠ 2) (h3 : n ≠ 3) (h4 : n ≠ 4) (b : Nat) (W : World) (hb : W.heap[b]? = some kMap) :
    (Instr.lookup 79 (.map (some b)) (.int .i64 n) false).run Try.prog W = .ok (.agg #[.nilFunc, .nilFunc]) W := by
  have hm := Try.underlying79
  have hd := Try.underlying3
  have hc := MapKept.run_checkKey (P := Try.prog) (w := W) (k := .int .i64 n) hd (by simp [MapKept.IsKey])
  have hf : ∀ es clock, kMap = .map es clock → Instr.findNow (.int .i64) (.int .i64 n) es.toList 0 = some none := fun es clock h => by
    cases h
    have b1 : (n == 1) = false := by simpa using h1
    have b2 : (n == 2) = false := by simpa using h2
    have b3 : (n == 3) = false := by simpa using h3
    have b4 : (n == 4) = false := by simpa using h4
    simp [Instr.findNow, Instr.sameNow, b1, b2, b3, b4]
  obtain ⟨es, clock, hk⟩ : ∃ es clock, kMap = .map es clock := ⟨_, _, rfl⟩
  have hf := hf es clock hk
  rw [hk] at hb
  have hz : (zeroValue 78).run Try.prog W = .ok (.agg #[.nilFunc, .nilFunc]) W := by kernel_rfl
  unfold Instr.lookup
  simp only [Sem.run_bind, run_underlying hm, Result.andThen, MapKept.run_getObj_map hb, hc, MapKept.run_findKey hd hf, Sem.run_pure, hz]
  rfl

end Go.Proofs.Ytgeldfjpafimpaa.PAll
