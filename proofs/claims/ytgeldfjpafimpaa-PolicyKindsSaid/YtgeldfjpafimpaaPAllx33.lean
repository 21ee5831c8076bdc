-- laid by a program of this session (tprint.py) out of the translation and of texts typed by hand; Lean checks it
import Derived.Test.YtgeldfjpafimpaaPAllx0
import Derived.Test.YtgeldfjpafimpaaPAllx32
import Derived.RangeFuncNested
import Derived.RangeFuncBound
import Derived.RangeFuncCalls
import Derived.RangeFuncLeaves
import Derived.RangeFuncBox
import Derived.Shelf.Abstract
import Derived.Shelf.RegionOpen
import Derived.OwnWalkIn
import Derived.TacticsInMore
import Derived.LoopNIn
import Derived.LoopIn
namespace Go.Proofs.Ytgeldfjpafimpaa.PAll
open Go.RowKit Go.Proofs.YtgeldfjpafimpaaW.PrintWords Go.Proofs.YtgeldfjpafimpaaW.PrintLast Go.Proofs.YtgeldfjpafimpaaW.PrintMore
attribute [local go_sem] max2_int min2_int max_two min_two max_three min_three max_four min_four   -- for this text's walks alone
set_option linter.unusedVariables false
set_option linter.unusedSimpArgs false

/-! ### sched_Want: function 71 -/
attribute [local go_sem] Oper.semAt_some
def backS (zs : List S71) (at_ : Int) : Int := match zs.reverse.find? (fun s => decide (s.f0 ≤ at_)) with
  | some s => s.f1
  | none => 0
def sched_Want.f (a0 : Int) (l1 : List (S71)) (a2 : Int) : Option (Int) := (sched_At.f a0 a2).bind fun t => some (backS l1 t)

def uptoS {α : Type} (f : Nat → α) (k : Nat) : List α := (List.range k).map f
theorem uptoS_succ {α : Type} (f : Nat → α) (k : Nat) : uptoS f (k + 1) = uptoS f k ++ [f k] := by simp [uptoS, List.range_succ]
theorem uptoS_length {α : Type} (f : Nat → α) (k : Nat) : (uptoS f k).length = k := by simp [uptoS]
def fSl (zs : List S71) (len : Nat) (j : Nat) : Int × S71 := ((len : Int) - 1 - (j : Int), rd_T71 zs ((len : Int) - 1 - (j : Int)))
theorem fSl_at (zs : List S71) (len : Nat) (x : Int) (h1 : x < (len : Int)) : fSl zs len ((len : Int) - 1 - x).toNat = (x, rd_T71 zs x) := by
  unfold fSl
  rw [Int.toNat_of_nonneg (by omega)]
  rw [show (len : Int) - 1 - ((len : Int) - 1 - x) = x by omega]
theorem uptoS_step (zs : List S71) (len : Nat) (x : Int) (h0 : 0 ≤ x) (h1 : x < (len : Int)) :
    uptoS (fSl zs len) ((len : Int) - 1 - (x - 1)).toNat = uptoS (fSl zs len) ((len : Int) - 1 - x).toNat ++ [(x, rd_T71 zs x)] := by
  rw [show ((len : Int) - 1 - (x - 1)).toNat = ((len : Int) - 1 - x).toNat + 1 by omega, uptoS_succ, fSl_at zs len x h1]

set_option maxRecDepth 100000 in
set_option maxHeartbeats 2000000 in
theorem backS1_in (F : Fence) (n : Nat) (h7 : F.fn 90) (hro : F.round = none) (hn : 1 ≤ n) (l Bs : Nat) (A : Option Addr) (len cap : Nat) (zs : List S71) (w0 : World) (hBs0 : Bs < w0.heap.size)
    (hC : Kd.C k71 w0 A len zs) (J Jx : List (Int × S71) → World → Prop)
    (hY : ∀ pre x W, J pre W → pre.length < len → YieldAt F (n - 1) Try.prog l #[.int .i64 x.1, .agg #[.int .i64 x.2.f0, .int .i64 x.2.f1]] W fun e W' =>
      (e = .returned (.bool true) ∧ J (pre ++ [x]) W' ∧ Below w0.heap.size W W') ∨ (e = .returned (.bool false) ∧ Jx (pre ++ [x]) W'))
    (W : World) (hW : Below w0.heap.size w0 W) (hBs : w0.cell? ⟨Bs, 0, none⟩ = some (.slice A len cap)) (h0 : J [] W) :
    CallsIn F n Try.prog 90 #[.func (.yield l) #[] #[], .pointer (some ⟨Bs, 0, none⟩)] W fun e W' => (∃ v, e = .returned v) ∧
      ((∃ ys, ys = uptoS (fSl zs len) len ∧ J ys W') ∨ (∃ pre, (∃ k, k ≤ len ∧ pre = uptoS (fSl zs len) k) ∧ Jx pre W')) := by
  have hlen : len ≤ 9223372036854775807 := hC.2.1
  have hb0 := (hW.cell (p := ⟨Bs, 0, none⟩) hBs0).trans hBs
  refine callsIn_of_wp Try.func90 rfl h7 ?_ hro
  simp only [Try.ntmps90, List.size_toArray, List.length_cons, List.length_nil, Nat.reduceAdd, Nat.reduceSub, Array.replicate_succ, Array.replicate_zero, List.push_toArray, List.append_toArray, List.nil_append, List.cons_append]
  have hz0 : (0 : Int) ≤ (len : Int) := by omega
  have hz1 : (len : Int) ≤ 9223372036854775807 := by omega
  gi_wp2
  gi_loopw [3] (fun i wr => ∃ x : Int, i = .int .i64 x ∧ -1 ≤ x ∧ x < (len : Int) ∧ J (uptoS (fSl zs len) ((len : Int) - 1 - x).toNat) wr ∧ Below w0.heap.size w0 wr)
    (fun i _ => (intOf i + 1).toNat)
  case atStart => exact ⟨(len : Int) - 1, by first | rfl | simp, by omega, by omega, by rw [show ((len : Int) - 1 - ((len : Int) - 1)).toNat = 0 by omega]; exact h0, hW⟩
  case round =>
    obtain ⟨x, rfl, hx0, hx1, hJs, hnx⟩ := hrel
    have hbs := (hnx.cell (p := ⟨Bs, 0, none⟩) hBs0).trans hBs
    have hCr := Kd.C_below hC hnx
    by_cases hlt : 0 ≤ x
    · obtain ⟨ad, e, hc0, hc1⟩ := at_T71 hCr x hlt hx1
      cases e
      obtain ⟨fn, tmps, assign, body, hy, hR⟩ := hY _ (x, rd_T71 zs x) wr hJs (by rw [uptoS_length]; omega)
      dsimp only at hy
      gi_wp2
      refine hR.mono ?_
      rintro e W3 (⟨rfl, hJ3, hk3⟩ | ⟨rfl, hJx3⟩)
      · gi_wp2
        go_roundw
        case rel => exact ⟨x - 1, by first | rfl | simp, by omega, by omega, by rw [uptoS_step zs len x hlt hx1]; exact hJ3, hnx.trans hk3⟩
        case measure => simp [intOf]; omega
      · gi_wp2
        refine bodyPost_ret (results_none rfl _ _ _) rfl ?_
        exact ⟨⟨_, rfl⟩, .inr ⟨_, ⟨((len : Int) - 1 - (x - 1)).toNat, by omega, (uptoS_step zs len x hlt hx1).symm⟩, hJx3⟩⟩
    · obtain rfl : x = -1 := by omega
      gi_wp2
      go_end0
      rw [show ((len : Int) - 1 - -1).toNat = len by omega] at hJs
      exact ⟨⟨_, rfl⟩, .inl hJs⟩

set_option maxHeartbeats 1000000 in
theorem backS_in (F : Fence) (n : Nat) (h5 : F.fn 83) (hro : F.round = none) (a : Option Addr) (len cap : Nat) (w : World) :
    CallsIn F n Try.prog 83 #[.slice a len cap] w fun e w' => e = .returned (.func (.func 90) #[] #[.pointer (some ⟨w.heap.size, 0, none⟩)]) ∧ w' = w.alloc (.cells #[.slice a len cap] 43) := by
  refine callsIn_of_wp Try.func83 rfl h5 ?_ hro
  simp only [Try.ntmps83, List.size_toArray, List.length_cons, List.length_nil, Nat.reduceAdd, Nat.reduceSub, Array.replicate_succ, Array.replicate_zero, List.push_toArray, List.append_toArray, List.nil_append, List.cons_append]
  gi_wp2
  go_ret
  exact ⟨rfl, rfl⟩

theorem backS_stops (F : Fence) (n : Nat) (h8 : F.fn 90) (hro : F.round = none) (hn : 1 ≤ n) (Bs : Nat) (A : Option Addr) (len cap : Nat) (zs : List S71) (w : World) (hBs : Bs < w.heap.size)
    (hc : w.cell? ⟨Bs, 0, none⟩ = some (.slice A len cap)) (hC : Kd.C k71 w A len zs) :
    SeqStopsK F n Try.prog 90 #[.pointer (some ⟨Bs, 0, none⟩)] (fun x : Int × S71 => #[Value.int .i64 x.1, .agg #[.int .i64 x.2.f0, .int .i64 x.2.f1]]) (Below w.heap.size) (fun ys => ys = uptoS (fSl zs len) len)
      (fun pre => ∃ k, k ≤ len ∧ pre = uptoS (fSl zs len) k) len w := fun l J Jx W hW _ _ hY h0 =>
  backS1_in F n h8 hro hn l Bs A len cap zs w hBs hC J Jx hY W hW hc h0

theorem backS_none (zs : List S71) (at_ : Int) (h : ∀ p ∈ uptoS (fSl zs zs.length) zs.length, ¬ p.2.f0 ≤ at_) : backS zs at_ = 0 := by
  unfold backS
  rw [List.find?_eq_none.2 ?_]
  intro s hs
  rw [List.mem_reverse, List.mem_iff_getElem] at hs
  obtain ⟨i, hi, rfl⟩ := hs
  have := h (fSl zs zs.length (zs.length - 1 - i)) (by simp only [uptoS, List.mem_map, List.mem_range]; exact ⟨_, by omega, rfl⟩)
  simp only [fSl] at this
  rw [show (zs.length : Int) - 1 - ((zs.length - 1 - i : Nat) : Int) = (i : Int) by omega] at this
  simpa [rd_T71, hi] using this

theorem backS_some (zs : List S71) (at_ : Int) (k : Nat) (hk : k < zs.length) (h : ∀ p ∈ uptoS (fSl zs zs.length) k, ¬ p.2.f0 ≤ at_) (hp : (fSl zs zs.length k).2.f0 ≤ at_) : backS zs at_ = (fSl zs zs.length k).2.f1 := by
  unfold backS
  have e : zs.reverse[k]? = some (fSl zs zs.length k).2 := by
    rw [List.getElem?_reverse hk]
    simp only [fSl, rd_T71]
    rw [show ((zs.length : Int) - 1 - (k : Int)).toNat = zs.length - 1 - k by omega]
    rw [List.getD_eq_getElem?_getD, List.getElem?_eq_getElem (by omega)]
    rfl
  rw [show zs.reverse.find? (fun s => decide (s.f0 ≤ at_)) = some (fSl zs zs.length k).2 from ?_]
  rw [List.find?_eq_some_iff_getElem]
  refine ⟨by simpa using hp, k, by simpa using hk, ?_, ?_⟩
  · rw [List.getElem?_eq_getElem (by simpa using hk)] at e
    exact Option.some.inj e
  · intro j hj
    have := h (fSl zs zs.length j) (by simp only [uptoS, List.mem_map, List.mem_range]; exact ⟨_, hj, rfl⟩)
    simp only [List.getElem_reverse]
    simp only [fSl, rd_T71] at this
    rw [show ((zs.length : Int) - 1 - (j : Int)).toNat = zs.length - 1 - j by omega] at this
    rw [List.getD_eq_getElem?_getD, List.getElem?_eq_getElem (by omega)] at this
    simpa using this

def SwIni (t : Int) (pre : List (Int × S71)) : Prop := ∀ p ∈ pre, ¬ p.2.f0 ≤ t
def SwLast (t : Int) (pre : List (Int × S71)) (v : Int) : Prop := ∃ ini last, pre = ini ++ [last] ∧ (∀ p ∈ ini, ¬ p.2.f0 ≤ t) ∧ last.2.f0 ≤ t ∧ v = last.2.f1
theorem swIni_snoc {t : Int} {pre : List (Int × S71)} {x : Int × S71} (h : SwIni t pre) (hx : ¬ x.2.f0 ≤ t) : SwIni t (pre ++ [x]) :=
  fun p hp => (List.mem_append.1 hp).elim (h p) (fun e => by rw [List.mem_singleton.1 e]; exact hx)
/-- BLOCK B is the box of an element. -/
def BlkS (W : World) (B : Nat) (s : S71) : Prop := W.heap[B]? = some (.cells #[.int .i64 s.f0, .int .i64 s.f1] 71 (0, 0))
theorem blkS_own (B : Nat) (s : S71) : Own (fun (_ : Unit) W => BlkS W B s) := fun _ X Y row hs hg hrow => (grownBy_keeps_cells hg hrow hs rfl).trans hs

set_option maxRecDepth 100000 in
set_option maxHeartbeats 2000000 in
theorem sched_Want.calls (a0 : Int) (A1 : Option Addr) (c1 : Nat) (l1 : List (S71)) (a2 : Int) (r : Int) (w : World) (hr1 : Kd.C k71 w A1 l1.length l1) (hc1 : l1.length ≤ c1) (h : sched_Want.f a0 l1 a2 = some r) :
    Calls Try.prog 71 #[.int .i64 a0, .slice A1 l1.length c1, .int .i64 a2] w fun e w' => e = .returned (.int .i64 r) ∧ Below w.heap.size w w' := by
  obtain ⟨t, ht0, hr⟩ := Option.bind_eq_some_iff.mp h
  obtain rfl := Option.some.inj hr
  have ht := Aside0.mk ht0
  clear ht0 hr h
  have HR1 := Aside0.mk hr1
  clear hr1
  refine (callsIn_wide (n := 3)).1 ?_
  have h1 : 1 ≤ 3 := by omega
  have hro : Fence.wide.round = none := rfl
  refine callsIn_of_wp_marks Try.func71 rfl trivial ?_ hro
  simp only [Try.ntmps71, List.size_toArray, List.length_cons, List.length_nil, Nat.reduceAdd, Nat.reduceSub, Array.replicate_succ, Array.replicate_zero, List.push_toArray, List.append_toArray, List.nil_append, List.cons_append]
  gi_wp2_with (first | (refine ⟨trivial, ?_⟩; gi_at_call 82; refine (callsIn_wide.2 (sched_At.calls a0 a2 t _ ht.out)).mono ?_; rintro e w' ⟨rfl, ⟨nd, rfl⟩⟩) | (refine ⟨trivial, ?_⟩; gi_at_call 83; refine (backS_in _ 2 trivial hro _ _ _ _).mono ?_; rintro e w' ⟨rfl, rfl⟩))
  have bR : Boxed (((((w.alloc (.cells #[.int .i64 0] 3)).drewN nd).alloc (.cells #[.int .i64 t] 2)).alloc (.cells #[.slice A1 l1.length c1] 43))) w.heap.size 3 (.int .i64 0) := ((show Boxed ((w.alloc (.cells #[.int .i64 0] 3)).drewN nd) w.heap.size 3 (.int .i64 0) from Boxed.new w 3 (.int .i64 0)).alloc _).alloc _
  have bT : Boxed (((((w.alloc (.cells #[.int .i64 0] 3)).drewN nd).alloc (.cells #[.int .i64 t] 2)).alloc (.cells #[.slice A1 l1.length c1] 43))) (w.heap.size + 1) 2 (.int .i64 t) := by
    have z := (Boxed.new ((w.alloc (.cells #[.int .i64 0] 3)).drewN nd) 2 (.int .i64 t)).alloc (.cells #[.slice A1 l1.length c1] 43)
    exact (show (w.alloc (.cells #[.int .i64 0] 3)).heap.size = w.heap.size + 1 from World.size_alloc _ _) ▸ z
  have bN : Boxed (((((w.alloc (.cells #[.int .i64 0] 3)).drewN nd).alloc (.cells #[.int .i64 t] 2)).alloc (.cells #[.slice A1 l1.length c1] 43))) (w.heap.size + 1 + 1) 43 (.slice A1 l1.length c1) := by
    have z := Boxed.new (((w.alloc (.cells #[.int .i64 0] 3)).drewN nd).alloc (.cells #[.int .i64 t] 2)) 43 (.slice A1 l1.length c1)
    rw [World.size_alloc] at z
    exact (show (w.alloc (.cells #[.int .i64 0] 3)).heap.size = w.heap.size + 1 from World.size_alloc _ _) ▸ z
  have hB0 : Below w.heap.size w (((((w.alloc (.cells #[.int .i64 0] 3)).drewN nd).alloc (.cells #[.int .i64 t] 2)).alloc (.cells #[.slice A1 l1.length c1] 43))) := ((pw_below_drewN ((Below.refl _ w).alloc (Nat.le_refl _) _) nd).alloc (show w.heap.size ≤ (w.alloc (.cells #[.int .i64 0] 3)).heap.size by rw [World.size_alloc]; omega) _).alloc (by rw [World.size_alloc]; exact (show w.heap.size ≤ (w.alloc (.cells #[.int .i64 0] 3)).heap.size + 1 by rw [World.size_alloc]; omega)) _
  have hsz : (((((w.alloc (.cells #[.int .i64 0] 3)).drewN nd).alloc (.cells #[.int .i64 t] 2)).alloc (.cells #[.slice A1 l1.length c1] 43))).heap.size = w.heap.size + 3 := by
    rw [World.size_alloc, World.size_alloc]
    exact congrArg (· + 1 + 1) (World.size_alloc w (.cells #[.int .i64 0] 3))
  obtain ⟨W0, hW0⟩ : ∃ W0, (((((w.alloc (.cells #[.int .i64 0] 3)).drewN nd).alloc (.cells #[.int .i64 t] 2)).alloc (.cells #[.slice A1 l1.length c1] 43))) = W0 := ⟨_, rfl⟩
  rw [hW0] at bR bT bN hB0 hsz ⊢
  clear hW0
  have hC0 := Kd.C_below HR1.out hB0
  refine wpIn_rangeFunc_ownH hro h1 (gf := 90) (lb := #[.pointer (some ⟨w.heap.size + 1 + 1, 0, none⟩)]) rfl trivial (enters_of Try.func90 (by kernel_rfl) rfl)
    (backS_stops Fence.wide 2 trivial hro (by omega) (w.heap.size + 1 + 1) A1 l1.length c1 l1 W0 (by omega) bN.cell hC0) belowK_t (belowK_b (Nat.le_refl _)) (Below.refl _ _) (fun _ => rfl)
    (fun pre W => (SwIni t pre ∧ Boxed W w.heap.size 3 (.int .i64 0) ∧ Boxed W (w.heap.size + 1) 2 (.int .i64 t)) ∧ Below w.heap.size w W ∧ W0.heap.size ≤ W.heap.size)
    (fun c pre W => (c = .ret ∧ ∃ v, SwLast t pre v ∧ Boxed W w.heap.size 3 (.int .i64 v)) ∧ Below w.heap.size w W)
    (OwnFrom.and (OwnFrom.and (ownFrom_pure _ _) (OwnFrom.and (Own.from (boxed_own _ _ _) _) (Own.from (boxed_own _ _ _) _))) (OwnFrom.and (ownFrom_below (Nat.le_refl _) (by omega)) (fun s X Y row hs hg hr => Nat.le_trans hs hg.size)))
    (fun c => OwnFrom.and (Own.from (fun s X Y row hs hg hr => by obtain ⟨hc, v, e1, e4⟩ := hs; exact ⟨hc, v, e1, boxed_own w.heap.size 3 (fun (_ : Unit) => Value.int .i64 v) () X Y row e4 hg hr⟩) _) (ownFrom_below (Nat.le_refl _) (by omega)))
    ⟨⟨fun _ h => (by cases h), bR, bT⟩, hB0, Nat.le_refl _⟩
    (fun x a' W => ∃ Bx, W0.heap.size ≤ Bx ∧ BlkS W Bx x.2 ∧ a' = { tmps := #[.int .i64 a0, .slice A1 l1.length c1, .int .i64 a2, undef, undef, undef, .pointer (some ⟨w.heap.size, 0, none⟩), .pointer (some ⟨w.heap.size + 1, 0, none⟩), undef, .pointer (some ⟨Bx, 0, none⟩), .int .i64 a0, .int .i64 a2, .int .i64 t, .slice A1 l1.length c1, .func (.func 90) #[] #[.pointer (some ⟨w.heap.size + 1 + 1, 0, none⟩)], .int .i64 x.1, .agg #[.int .i64 x.2.f0, .int .i64 x.2.f1], undef, undef, undef, undef, undef, undef], defers := [] })
    (fun x a' _ X Y row hs hg hr => by obtain ⟨Bx, h1, h2, h3⟩ := hs; exact ⟨Bx, h1, blkS_own Bx x.2 () X Y row h2 hg (fun r e => (hr r e).2), h3⟩)
    ?assign ?body ?done ?stop
  case assign =>
    rintro l pre x W K ⟨⟨hp0, bR1, bT1⟩, hB1, hz0⟩ hK
    have hp := Aside0.mk hp0
    have hz1 := Aside0.mk hz0
    have hs1 := Aside0.mk hsz
    have hK1 := Aside0.mk hK
    clear hp0 hz0 hsz hK
    have hu := Try.underlying71
    gi_wp2
    exact hK1.out _ _ ((KeepsOthers.alloc _ _).from _) ((Below.refl _ W).alloc hz1.out _) ⟨⟨hp.out, bR1.alloc _, bT1.alloc _⟩, hB1.alloc hB1.size _, by rw [World.size_alloc]; have := hz1.out; omega⟩ ⟨W.heap.size, hz1.out, blk_new W _, rfl⟩
  case body =>
    rintro l pre x a' W hl ⟨r, hr⟩ ⟨⟨hp0, bR1, bT1⟩, hB1, hz0⟩ ⟨Bx, hBx, bX, rfl⟩ hlt
    have hp := Aside0.mk hp0
    have hz1 := Aside0.mk hz0
    have hs1 := Aside0.mk hsz
    clear hp0 hz0 hsz
    have hx0 := blk_cell bX 0
    have hx1 := blk_cell bX 1
    simp only [List.getElem?_toArray, List.getElem?_cons_zero, List.getElem?_cons_succ] at hx0 hx1
    have cT := bT1.cell
    have cR := bR1.cell
    have fR := bR1.frozen
    have hu := Try.underlying71
    by_cases hle : x.2.f0 ≤ t
    · gi_wp2
      exact ⟨(KeepsOthers.setCell _ _ _).from _, ⟨rfl, x.2.f1, ⟨pre, x, rfl, hp.out, hle, rfl⟩, bR1.set _⟩, hB1.setCell (p := ⟨w.heap.size, 0, none⟩) (Nat.le_refl _) _⟩
    · have hle' := Aside0.mk hle
      have hleb : decide (x.2.f0 ≤ t) = false := decide_eq_false hle
      clear hle
      gi_wp2
      exact ⟨KeepsFrom.refl _ _, Below.refl _ _, ⟨swIni_snoc hp.out (by have := hle'.out; omega), bR1, bT1⟩, hB1, hz1.out⟩
  case done =>
    rintro D ys W hD rfl ⟨⟨hp, bR1, bT1⟩, hB1, hz1⟩ hK
    have cR := bR1.cell
    have fR := bR1.frozen
    have hfin := Aside0.mk (backS_none l1 t hp)
    have hs1 := Aside0.mk hsz
    clear hp hz1 hsz
    gi_wp2
    have hK' := (KeepsOthers.setCell W ⟨w.heap.size, 0, none⟩ (.int .i64 0)).same D _ hK rfl
    refine ⟨by simp, .inl ⟨_, _, rfl, run_takeDeferred hK', ?_⟩⟩
    have hc5 := cell_kept (World.cell?_setCell_same' W ⟨w.heap.size, 0, none⟩ (.int .i64 0) (by rw [cR]; rfl)) (grownBy_putObj' _ D (.deferred none)) (fun r e => by cases e; exact ⟨_, hK', rfl⟩)
    have hD' : w.heap.size ≤ D := by have := hs1.out; omega
    refine ⟨.int .i64 0, ?_, by rw [hfin.out], (hB1.setCell (p := ⟨w.heap.size, 0, none⟩) (Nat.le_refl _) _).trans (belowK_b (w := w) (Nat.le_refl _) _ D _ _ hD' hK' rfl rfl)⟩
    simp [results, Try.f71, go_sem, hc5]
  case stop =>
    rintro D c pre W hD ⟨k, hk, rfl⟩ ⟨⟨rfl, v, ⟨ini, last, e1, e2, e3, rfl⟩, bR1⟩, hB1⟩ hK
    have cR := bR1.cell
    obtain ⟨k', rfl⟩ : ∃ k', k = k' + 1 := by
      cases k with
      | zero => simp [uptoS] at e1
      | succ k' => exact ⟨k', rfl⟩
    rw [uptoS_succ] at e1
    obtain ⟨rfl, e5⟩ := List.append_inj' e1 rfl
    obtain rfl : fSl l1 l1.length k' = last := by simpa using e5
    have hfin := Aside0.mk (backS_some l1 t k' (by omega) e2 e3)
    have hs1 := Aside0.mk hsz
    clear e1 e2 e3 e5 hsz
    gi_wp2
    refine ⟨by simp, .inl ⟨_, _, rfl, run_takeDeferred hK, ?_⟩⟩
    have hc5 := cell_kept cR (grownBy_putObj' _ D (.deferred none)) (fun r e => by cases e; exact ⟨_, hK, rfl⟩)
    have hD' : w.heap.size ≤ D := by have := hs1.out; omega
    refine ⟨.int .i64 (fSl l1 l1.length k').2.f1, ?_, by rw [hfin.out], hB1.trans (belowK_b (w := w) (Nat.le_refl _) W D _ _ hD' hK rfl rfl)⟩
    simp [results, Try.f71, go_sem, hc5]

end Go.Proofs.Ytgeldfjpafimpaa.PAll
