-- laid by a program of this session (tprint.py) out of the translation and of texts typed by hand; Lean checks it
import Derived.Test.YtgeldfjpafimpaaPAllx0
import Derived.Test.YtgeldfjpafimpaaPAllx5
import Derived.RangeFuncNested
import Derived.RangeFuncBound
import Derived.RangeFuncCalls
import Derived.RangeFuncLeaves
import Derived.RangeFuncBox
import Derived.Shelf.Abstract
import Derived.Shelf.RegionOpen
import Derived.OwnWalkIn
import Derived.TacticsInMore
import Derived.LoopNIn
import Derived.LoopIn
namespace Go.Proofs.Ytgeldfjpafimpaa.PAll
open Go.RowKit Go.Proofs.YtgeldfjpafimpaaW.PrintWords Go.Proofs.YtgeldfjpafimpaaW.PrintLast Go.Proofs.YtgeldfjpafimpaaW.PrintMore
attribute [local go_sem] max2_int min2_int max_two min_two max_three min_three max_four min_four   -- for this text's walks alone
set_option linter.unusedVariables false
set_option linter.unusedSimpArgs false

/-! ### plant_shrink: function 39 -/
attribute [local go_sem] Oper.semAt_some
/-- WHAT A ROUND OF shrink DOES: the row, and how many are still to go. -/
def shr (l : List Int) (many : Int) : Nat → List Int × Int
  | 0 => (l, many)
  | k + 1 => ((shr l many k).1.set (l.length - 1 - k) (wrap64 (rd l ((l.length : Int) - 1 - (k : Int)) - mn (rd l ((l.length : Int) - 1 - (k : Int))) (shr l many k).2)), wrap64 ((shr l many k).2 - mn (rd l ((l.length : Int) - 1 - (k : Int))) (shr l many k).2))
theorem shr_length (l : List Int) (many : Int) (k : Nat) : (shr l many k).1.length = l.length := by
  induction k with
  | zero => rfl
  | succ k ih => simp [shr, ih]
theorem shr_rest (l : List Int) (many : Int) (k : Nat) : ∀ j : Nat, j + k < l.length → rd (shr l many k).1 (j : Int) = rd l (j : Int) := by
  induction k with
  | zero => intro j _; rfl
  | succ k ih =>
    intro j h
    rw [← ih j (by omega)]
    simp only [shr, rd, Int.toNat_natCast]
    rw [List.getD_eq_getElem?_getD, List.getElem?_set_ne (by omega), ← List.getD_eq_getElem?_getD]
theorem normal_only {F : Fence} {n : Nat} {P : Program} {c : Code} {Q : Exit → Act → World → Prop} {a : Act} {w : World} (h : c.wpIn F n P (fun e a W => match e with | .normal => Q .normal a W | _ => False) a w) : c.wpIn F n P Q a w :=
  wpIn_mono h (fun e a W hh => by cases e <;> first | exact hh | exact hh.elim)
/-- The state ahead of round k: B0 the box of p, B0 + 1 that of many, B0 + 2 Backward's. -/
structure ShS (w W : World) (pb g off cap : Nat) (R wt ut : Int) (l : List Int) (base : Nat) (s : List Int × Int) : Prop where
  bP : Boxed W w.heap.size 65 (.pointer (some ⟨pb, 0, none⟩))
  bM : Boxed W (w.heap.size + 1) 3 (.int .i64 s.2)
  bS : Boxed W (w.heap.size + 1 + 1) 24 (.slice (some ⟨g, off, none⟩) l.length cap)
  hP : W.heap[pb]? = some (.cells #[.int .i64 R, .slice (some ⟨g, off, none⟩) l.length cap, .int .i64 wt, .int .i64 ut] 26 (0, 0))
  hQ : (Kd.int .i64).Q 3 W base (fun _ => True) (.slice (some ⟨g, off, none⟩) l.length cap) s.1
  hK : Kept w W (fun k => k = pb ∨ k = g)
  hO : W.os = w.os ∧ W.tape = w.tape ∧ W.output = w.output
  hZ : w.heap.size + 3 ≤ W.heap.size
theorem ShS.grown {w X Y : World} {pb g off cap : Nat} {R wt ut : Int} {l : List Int} {base : Nat} {s : List Int × Int} (h : ShS w X pb g off cap R wt ut l base s) {row : Option Nat} (hg : X.grownBy Y row) (hr : ∀ r, row = some r → w.heap.size ≤ r ∧ ∃ o : Obj, X.heap[r]? = some o ∧ o.isCells = false) : ShS w Y pb g off cap R wt ut l base s := by
  have hc : ∀ k cs t fr, X.heap[k]? = some (.cells cs t fr) → some k ≠ row := fun k cs t fr hk e => by
    obtain ⟨_, o, ho, hn⟩ := hr k e.symm
    rw [hk] at ho
    cases ho
    simp [Obj.isCells] at hn
  refine ⟨blk_grown h.bP hg (hc _ _ _ _ h.bP), blk_grown h.bM hg (hc _ _ _ _ h.bM), blk_grown h.bS hg (hc _ _ _ _ h.bS), blk_grown h.hP hg (hc _ _ _ _ h.hP), ?_, Kept.of_grown hg h.hK (fun k e => .inr (hr k e).1), ⟨hg.os.trans h.hO.1, hg.tape.trans h.hO.2.1, hg.output.trans h.hO.2.2⟩, Nat.le_trans h.hZ hg.size⟩
  refine Kd.Q_grown1 h.hQ rfl hg ?_
  obtain ⟨cells, hcells⟩ := Kd.Q_typed h.hQ g rfl
  exact fun e => hc g _ _ _ hcells e.symm
set_option maxHeartbeats 8000000 in
set_option maxRecDepth 100000 in
theorem shrink_some (pb g off cap : Nat) (many R wt ut : Int) (l : List Int) (base : Nat) (w : World) (hP : w.heap[pb]? = some (.cells #[.int .i64 R, .slice (some ⟨g, off, none⟩) l.length cap, .int .i64 wt, .int .i64 ut] 26 (0, 0)))
    (hQ : (Kd.int .i64).Q 3 w base (fun _ => True) (.slice (some ⟨g, off, none⟩) l.length cap) l) (hgp : g ≠ pb) (hl : l.length ≤ 8) :
    Calls Try.prog 39 #[.pointer (some ⟨pb, 0, none⟩), .int .i64 many] w fun e W' => e = .returned (.tuple #[]) ∧ W'.heap[pb]? = some (.cells #[.int .i64 (wrap64 (R - (shr l many l.length).2)), .slice (some ⟨g, off, none⟩) l.length cap, .int .i64 wt, .int .i64 ut] 26 (0, 0)) ∧ (Kd.int .i64).Q 3 W' base (fun _ => True) (.slice (some ⟨g, off, none⟩) l.length cap) (shr l many l.length).1 ∧ Kept w W' (fun k => k = pb ∨ k = g) ∧ (W'.os = w.os ∧ W'.tape = w.tape ∧ W'.output = w.output) := by
  have hu := Try.underlying26
  have p1 := blk_cell hP 1
  simp only [List.getElem?_toArray, List.getElem?_cons_zero, List.getElem?_cons_succ] at p1
  have HP := Aside0.mk hP
  have HQ := Aside0.mk hQ
  have hpl := blk_lt hP
  have a1 : ∀ o1 o2, ((w.alloc o1).alloc o2).cell? ⟨pb, 1, none⟩ = some (.slice (some ⟨g, off, none⟩) l.length cap) := fun o1 o2 => (blk_cell (blk_alloc (blk_alloc hP o1) o2) 1).trans rfl
  clear hP hQ
  refine (callsIn_wide (n := 3)).1 ?_
  have h1 : 1 ≤ 3 := by omega
  have hro : Fence.wide.round = none := rfl
  refine callsIn_of_wp_marks Try.func39 rfl trivial ?_ hro
  simp only [Try.ntmps39, List.size_toArray, List.length_cons, List.length_nil, Nat.reduceAdd, Nat.reduceSub, Array.replicate_succ, Array.replicate_zero, List.push_toArray, List.append_toArray, List.nil_append, List.cons_append]
  gi_wp2_with (first | (refine ⟨trivial, ?_⟩; gi_at_call 56; refine (backI_in Fence.wide 2 trivial hro _ _ _ _).mono ?_; rintro e w' ⟨rfl, rfl⟩))
  have hS0 : ShS w (((w.alloc (.cells #[.pointer (some ⟨pb, 0, none⟩)] 65)).alloc (.cells #[.int .i64 many] 3)).alloc (.cells #[.slice (some ⟨g, off, none⟩) l.length cap] 24)) pb g off cap R wt ut l base (shr l many 0) := by
    have z1 := blk_new (w.alloc (.cells #[.pointer (some ⟨pb, 0, none⟩)] 65)) (.cells #[.int .i64 many] 3)
    rw [World.size_alloc] at z1
    have z2 := blk_new ((w.alloc (.cells #[.pointer (some ⟨pb, 0, none⟩)] 65)).alloc (.cells #[.int .i64 many] 3)) (.cells #[.slice (some ⟨g, off, none⟩) l.length cap] 24)
    rw [World.size_alloc, World.size_alloc] at z2
    exact ⟨blk_alloc (blk_alloc (blk_new w _) _) _, blk_alloc z1 _, z2, blk_alloc (blk_alloc (blk_alloc HP.out _) _) _, Kd.Q_alloc (Kd.Q_alloc (Kd.Q_alloc HQ.out _) _) _, ((Kept.refl w _).alloc _ |>.alloc _).alloc _, ⟨rfl, rfl, rfl⟩, by simp⟩
  obtain ⟨W0, hW0⟩ : ∃ W0, (((w.alloc (.cells #[.pointer (some ⟨pb, 0, none⟩)] 65)).alloc (.cells #[.int .i64 many] 3)).alloc (.cells #[.slice (some ⟨g, off, none⟩) l.length cap] 24)) = W0 := ⟨_, rfl⟩
  rw [hW0] at hS0 ⊢
  clear hW0
  have hZ0 := hS0.hZ
  refine rangeFunc_told hro h1 (gf := 72) (lb := #[.pointer (some ⟨w.heap.size + 1 + 1, 0, none⟩)]) rfl trivial (enters_of Try.func72 (by kernel_rfl) rfl)
    (backI_told Fence.wide 2 trivial hro (by omega) (w.heap.size + 1 + 1) g off cap l (by omega) W0) (fun _ _ => trivial) (fun _ _ _ _ _ _ _ _ => trivial) (Below.refl _ _) (fun _ => rfl)
    (fun pre W => ∃ k, k ≤ l.length ∧ pre = uptoI l k ∧ ShS w W pb g off cap R wt ut l base (shr l many k))
    (fun _ _ _ => False) ?told
    (fun pre X Y row hs hg hr => by
      obtain ⟨k, hk, e, s⟩ := hs
      exact ⟨k, hk, e, s.grown hg (fun r q => ⟨by have := (hr r q).1; omega, (hr r q).2⟩)⟩)
    (fun _ _ _ _ _ hs _ _ => hs.elim)
    ⟨0, Nat.zero_le _, rfl, hS0⟩
    (fun x a' W => a' = { tmps := #[.pointer (some ⟨pb, 0, none⟩), .int .i64 many, .pointer (some ⟨w.heap.size, 0, none⟩), .pointer (some ⟨w.heap.size + 1, 0, none⟩), .int .i64 x.1, .int .i64 x.2, undef, .pointer (some ⟨pb, 0, none⟩), .pointer (some ⟨pb, 0, none⟩), .pointer (some ⟨pb, 1, none⟩), .slice (some ⟨g, off, none⟩) l.length cap, .func (Fn.func 72) #[] #[.pointer (some ⟨w.heap.size + 1 + 1, 0, none⟩)], .int .i64 x.1, .int .i64 x.2, undef, undef, undef, undef, undef, undef, undef, undef, undef, undef, undef, undef, undef, undef, undef, undef, undef, undef, undef, undef, undef, undef, undef, undef], defers := [] })
    (fun x a' _ X Y row hs hg hr => hs)
    ?assign ?body ?done ?stop
  case told =>
    rintro pre W ⟨k, hk, rfl, s⟩ k' hk' e
    obtain rfl : k = k' := by have := congrArg List.length e; rw [uptoI_length, uptoI_length] at this; exact this
    refine ⟨(blk_cell s.bS 0).trans rfl, fun j hj => ?_⟩
    have z := (Kd.Q_cell (0 : Int) s.hQ (j : Int) (by omega) (by omega)).1
    rw [Int.toNat_natCast] at z
    rw [z, ← shr_rest l many k j hj]
    rfl
  case assign =>
    rintro l' pre x W K hI hK
    have hK1 := Aside0.mk hK
    have hI1 := Aside0.mk hI
    clear hK hI
    gi_wp2
    exact hK1.out _ _ (KeepsFrom.refl _ _) trivial hI1.out rfl
  case stop =>
    rintro D c pre W hD _ hF
    exact hF.elim
  case body =>
    rintro l' pre x a' W hl' ⟨r, hr⟩ ⟨k, hk, rfl, s⟩ rfl hlt ⟨k', hk', e, rfl⟩
    obtain rfl : k = k' := by have := congrArg List.length e; rw [uptoI_length, uptoI_length] at this; exact this
    obtain ⟨n, hn⟩ : ∃ n, rd l ((l.length : Int) - 1 - (k : Int)) = n := ⟨_, rfl⟩
    obtain ⟨m, hm⟩ : ∃ m, (shr l many k).2 = m := ⟨_, rfl⟩
    obtain ⟨gn, hgn⟩ : ∃ gn, mn n m = gn := ⟨_, rfl⟩
    have hgn' : (if m < n then m else n) = gn := hgn
    have ei : ((l.length : Int) - 1 - (k : Int)).toNat = l.length - 1 - k := by omega
    have c0 := blk_cell s.bP 0
    have c1 := blk_cell s.bM 0
    have f1 := blk_frozen s.bM 0
    have c2 := blk_cell s.hP 1
    have z := Kd.Q_cell (0 : Int) s.hQ ((l.length : Int) - 1 - (k : Int)) (by omega) (by omega)
    have hre := shr_rest l many k (l.length - 1 - k) (by omega)
    have c3 : W.cell? ⟨g, off + (l.length - 1 - k), none⟩ = some (.int .i64 n) := by
      rw [← hn, ← ei, z.1]
      show some (Value.int .i64 (rd (shr l many k).1 ((l.length : Int) - 1 - (k : Int)))) = _
      rw [show (l.length : Int) - 1 - (k : Int) = ((l.length - 1 - k : Nat) : Int) by omega, hre]
    have f3 : W.frozen? ⟨g, off + (l.length - 1 - k), none⟩ = false := by rw [← ei]; exact z.2
    have d3 : W.cell? ⟨g, off + ((l.length : Int) - 1 - (k : Int)).toNat, none⟩ = some (.int .i64 n) := by rw [ei]; exact c3
    have e3 : W.frozen? ⟨g, off + ((l.length : Int) - 1 - (k : Int)).toNat, none⟩ = false := by rw [ei]; exact f3
    simp only [List.getElem?_toArray, List.getElem?_cons_zero, List.getElem?_cons_succ, hm] at c0 c1 c2
    have hgm : g ≠ w.heap.size + 1 := by
      obtain ⟨cells, hcells⟩ := Kd.Q_typed HQ.out g rfl
      have := blk_lt hcells
      omega
    have b1 : 0 ≤ (l.length : Int) - 1 - (k : Int) := by omega
    have b2 : (l.length : Int) - 1 - (k : Int) < (l.length : Int) := by omega
    have S := Aside0.mk s
    have HE := Aside0.mk (And.intro hn (And.intro hm hgn))
    rw [hn]
    clear s z hre hn hm hgn e
    gi_wp2
    obtain ⟨hn, hm, hgn⟩ := HE.out
    have s := S.out
    have hgl : g < w.heap.size := by
      obtain ⟨cells, hcells⟩ := Kd.Q_typed HQ.out g rfl
      exact blk_lt hcells
    have q := (Kd.Q_putg s.hQ ((l.length : Int) - 1 - (k : Int)) b1 b2 (wrap64 (n - gn))).1
    rw [ei] at q
    have hP2 := blk_far (p := ⟨g, off + (l.length - 1 - k), none⟩) s.hP (by show pb ≠ g; omega) (.int .i64 (wrap64 (n - gn)))
    have bM2 := blk_far (p := ⟨g, off + (l.length - 1 - k), none⟩) s.bM (by show w.heap.size + 1 ≠ g; omega) (.int .i64 (wrap64 (n - gn)))
    refine ⟨((KeepsOthers.setCell _ _ _).from _).trans ((KeepsOthers.setCell _ _ _).from _), trivial, k + 1, by rw [uptoI_length] at hlt; omega, by rw [uptoI_succ, hn], ?_⟩
    have e1 : (shr l many (k + 1)) = ((shr l many k).1.set (l.length - 1 - k) (wrap64 (n - gn)), wrap64 (m - gn)) := by
      show (_, _) = (_, _)
      rw [hn, hm, hgn]
    rw [e1]
    exact ⟨blk_far (p := ⟨w.heap.size + 1, 0, none⟩) (blk_far (p := ⟨g, off + (l.length - 1 - k), none⟩) s.bP (by show w.heap.size ≠ g; omega) _) (by show w.heap.size ≠ w.heap.size + 1; omega) _,
      blk_put bM2 0 _ rfl,
      blk_far (p := ⟨w.heap.size + 1, 0, none⟩) (blk_far (p := ⟨g, off + (l.length - 1 - k), none⟩) s.bS (by show w.heap.size + 1 + 1 ≠ g; omega) _) (by show w.heap.size + 1 + 1 ≠ w.heap.size + 1; omega) _,
      blk_far (p := ⟨w.heap.size + 1, 0, none⟩) hP2 (by show pb ≠ w.heap.size + 1; omega) _,
      Kd.Q_far (p := ⟨w.heap.size + 1, 0, none⟩) (Kd.Q_tight rfl q) (fun k' hk' => by have : k' = g := Option.some.inj hk'; show k' ≠ w.heap.size + 1; omega) _ |> fun z => Kd.Q_mono z (fun _ _ => trivial),
      Kept.setCell (Kept.setCell s.hK (.inl (.inr rfl)) _) (.inr (by show w.heap.size ≤ w.heap.size + 1; omega)) _,
      s.hO, by simpa using s.hZ⟩
  case done =>
    rintro D ys W hD rfl ⟨k, hk, e, s⟩ hKD
    obtain rfl : l.length = k := by have := congrArg List.length e; rw [uptoI_length, uptoI_length] at this; exact this
    have c0 := blk_cell s.bP 0
    have c1 := blk_cell s.bM 0
    have c2 := blk_cell s.hP 0
    have f2 := blk_frozen s.hP 0
    simp only [List.getElem?_toArray, List.getElem?_cons_zero, List.getElem?_cons_succ] at c0 c1 c2
    have S := Aside0.mk s
    clear s e hk
    gi_wp2
    have hmix : Try.prog.follows .mixedOrders = true := by kernel_rfl
    refine normal_only ?_
    gi_region_o
    have hK' : (W.setCell ⟨pb, 0, none⟩ (.int .i64 (wrap64 (R - (shr l many l.length).2)))).drew.heap[D]? = some (.deferred (some [])) := (KeepsOthers.setCell W ⟨pb, 0, none⟩ (.int .i64 (wrap64 (R - (shr l many l.length).2)))).same D _ hKD rfl
    refine ⟨by simp, .inl ⟨_, _, rfl, run_takeDeferred hK', ?_⟩⟩
    have hgl : g < w.heap.size := by
      obtain ⟨cells, hcells⟩ := Kd.Q_typed HQ.out g rfl
      exact blk_lt hcells
    have hg3 := grownBy_putObj' (W.setCell ⟨pb, 0, none⟩ (.int .i64 (wrap64 (R - (shr l many l.length).2)))).drew D (.deferred none)
    have s := S.out
    have q1 := Kd.Q_tight rfl (Kd.Q_set s.hQ s.hP (by decide) 0 (.int .i64 (wrap64 (R - (shr l many l.length).2))))
    have k1 := Kept.setCell (p := ⟨pb, 0, none⟩) s.hK (.inl (.inl rfl)) (.int .i64 (wrap64 (R - (shr l many l.length).2)))
    refine ⟨.tuple #[], ?_, rfl, ?_, ?_, ?_, ?_⟩
    · simp [results, Try.f39, go_sem]
    · exact blk_grown (w := (W.setCell ⟨pb, 0, none⟩ (.int .i64 (wrap64 (R - (shr l many l.length).2)))).drew) (blk_put s.hP 0 _ rfl) hg3 (fun e => by have := Option.some.inj e; omega)
    · exact Kd.Q_mono (Kd.Q_grown (w := (W.setCell ⟨pb, 0, none⟩ (.int .i64 (wrap64 (R - (shr l many l.length).2)))).drew) (Kd.Q_drew q1) hg3 (fun k' hk' e => by have h1 : k' = g := Option.some.inj hk'; have h2 := Option.some.inj e; omega)) (fun _ _ => trivial)
    · exact Kept.of_grown hg3 k1 (fun k' e => by have := Option.some.inj e; exact .inr (by omega))
    · exact s.hO
/-- The state ahead of the round that there is not. -/
structure Sh0 (w W : World) (pb cap : Nat) (A : Option Addr) (many R wt ut : Int) : Prop where
  bP : Boxed W w.heap.size 65 (.pointer (some ⟨pb, 0, none⟩))
  bM : Boxed W (w.heap.size + 1) 3 (.int .i64 many)
  bS : Boxed W (w.heap.size + 1 + 1) 24 (.slice A 0 cap)
  hP : W.heap[pb]? = some (.cells #[.int .i64 R, .slice A 0 cap, .int .i64 wt, .int .i64 ut] 26 (0, 0))
  hK : Kept w W (fun k => k = pb)
  hO : W.os = w.os ∧ W.tape = w.tape ∧ W.output = w.output
  hZ : w.heap.size + 3 ≤ W.heap.size
theorem Sh0.grown {w X Y : World} {pb cap : Nat} {A : Option Addr} {many R wt ut : Int} (h : Sh0 w X pb cap A many R wt ut) {row : Option Nat} (hg : X.grownBy Y row) (hr : ∀ r, row = some r → w.heap.size ≤ r ∧ ∃ o : Obj, X.heap[r]? = some o ∧ o.isCells = false) : Sh0 w Y pb cap A many R wt ut := by
  have hc : ∀ k cs t fr, X.heap[k]? = some (.cells cs t fr) → some k ≠ row := fun k cs t fr hk e => by
    obtain ⟨_, o, ho, hn⟩ := hr k e.symm
    rw [hk] at ho
    cases ho
    simp [Obj.isCells] at hn
  exact ⟨blk_grown h.bP hg (hc _ _ _ _ h.bP), blk_grown h.bM hg (hc _ _ _ _ h.bM), blk_grown h.bS hg (hc _ _ _ _ h.bS), blk_grown h.hP hg (hc _ _ _ _ h.hP), Kept.of_grown hg h.hK (fun k e => .inr (hr k e).1), ⟨hg.os.trans h.hO.1, hg.tape.trans h.hO.2.1, hg.output.trans h.hO.2.2⟩, Nat.le_trans h.hZ hg.size⟩
set_option maxHeartbeats 8000000 in
set_option maxRecDepth 100000 in
theorem shrink_nil (pb cap : Nat) (A : Option Addr) (many R wt ut : Int) (w : World) (hP : w.heap[pb]? = some (.cells #[.int .i64 R, .slice A 0 cap, .int .i64 wt, .int .i64 ut] 26 (0, 0))) :
    Calls Try.prog 39 #[.pointer (some ⟨pb, 0, none⟩), .int .i64 many] w fun e W' => e = .returned (.tuple #[]) ∧ W'.heap[pb]? = some (.cells #[.int .i64 (wrap64 (R - many)), .slice A 0 cap, .int .i64 wt, .int .i64 ut] 26 (0, 0)) ∧ Kept w W' (fun k => k = pb) ∧ (W'.os = w.os ∧ W'.tape = w.tape ∧ W'.output = w.output) := by
  have hu := Try.underlying26
  have HP := Aside0.mk hP
  have hpl := blk_lt hP
  have a1 : ∀ o1 o2, ((w.alloc o1).alloc o2).cell? ⟨pb, 1, none⟩ = some (.slice A 0 cap) := fun o1 o2 => (blk_cell (blk_alloc (blk_alloc hP o1) o2) 1).trans rfl
  clear hP
  refine (callsIn_wide (n := 3)).1 ?_
  have h1 : 1 ≤ 3 := by omega
  have hro : Fence.wide.round = none := rfl
  refine callsIn_of_wp_marks Try.func39 rfl trivial ?_ hro
  simp only [Try.ntmps39, List.size_toArray, List.length_cons, List.length_nil, Nat.reduceAdd, Nat.reduceSub, Array.replicate_succ, Array.replicate_zero, List.push_toArray, List.append_toArray, List.nil_append, List.cons_append]
  gi_wp2_with (first | (refine ⟨trivial, ?_⟩; gi_at_call 56; refine (backI_in Fence.wide 2 trivial hro _ _ _ _).mono ?_; rintro e w' ⟨rfl, rfl⟩))
  have hS0 : Sh0 w (((w.alloc (.cells #[.pointer (some ⟨pb, 0, none⟩)] 65)).alloc (.cells #[.int .i64 many] 3)).alloc (.cells #[.slice A 0 cap] 24)) pb cap A many R wt ut := by
    have z1 := blk_new (w.alloc (.cells #[.pointer (some ⟨pb, 0, none⟩)] 65)) (.cells #[.int .i64 many] 3)
    rw [World.size_alloc] at z1
    have z2 := blk_new ((w.alloc (.cells #[.pointer (some ⟨pb, 0, none⟩)] 65)).alloc (.cells #[.int .i64 many] 3)) (.cells #[.slice A 0 cap] 24)
    rw [World.size_alloc, World.size_alloc] at z2
    exact ⟨blk_alloc (blk_alloc (blk_new w _) _) _, blk_alloc z1 _, z2, blk_alloc (blk_alloc (blk_alloc HP.out _) _) _, ((Kept.refl w _).alloc _ |>.alloc _).alloc _, ⟨rfl, rfl, rfl⟩, by simp⟩
  obtain ⟨W0, hW0⟩ : ∃ W0, (((w.alloc (.cells #[.pointer (some ⟨pb, 0, none⟩)] 65)).alloc (.cells #[.int .i64 many] 3)).alloc (.cells #[.slice A 0 cap] 24)) = W0 := ⟨_, rfl⟩
  rw [hW0] at hS0 ⊢
  clear hW0
  have hZ0 := hS0.hZ
  refine rangeFunc_told hro h1 (gf := 72) (lb := #[.pointer (some ⟨w.heap.size + 1 + 1, 0, none⟩)]) rfl trivial (enters_of Try.func72 (by kernel_rfl) rfl)
    (back0_told Fence.wide 2 trivial hro (w.heap.size + 1 + 1) cap A W0) (fun _ _ => trivial) (fun _ _ _ _ _ _ _ _ => trivial) (Below.refl _ _) (fun _ => rfl)
    (fun pre W => Sh0 w W pb cap A many R wt ut)
    (fun _ _ _ => False) ?told
    (fun pre X Y row hs hg hr => hs.grown hg (fun r q => ⟨by have := (hr r q).1; omega, (hr r q).2⟩))
    (fun _ _ _ _ _ hs _ _ => hs.elim)
    hS0
    (fun _ _ _ => True)
    (fun x a' _ X Y row hs hg hr => hs)
    ?assign ?body ?done ?stop
  case told =>
    rintro pre W s
    exact (blk_cell s.bS 0).trans rfl
  case assign =>
    rintro l' pre x W K hI hK
    have hK1 := Aside0.mk hK
    have hI1 := Aside0.mk hI
    clear hK hI
    gi_wp2
    exact hK1.out _ _ (KeepsFrom.refl _ _) trivial hI1.out trivial
  case stop =>
    rintro D c pre W hD _ hF
    exact hF.elim
  case body =>
    rintro l' pre x a' W hl' ⟨r, hr⟩ s _ _ hF
    exact hF.elim
  case done =>
    rintro D ys W hD rfl s hKD
    have c0 := blk_cell s.bP 0
    have c1 := blk_cell s.bM 0
    have c2 := blk_cell s.hP 0
    have f2 := blk_frozen s.hP 0
    simp only [List.getElem?_toArray, List.getElem?_cons_zero, List.getElem?_cons_succ] at c0 c1 c2
    have S := Aside0.mk s
    clear s
    gi_wp2
    have hmix : Try.prog.follows .mixedOrders = true := by kernel_rfl
    refine normal_only ?_
    gi_region_o
    have hK' : (W.setCell ⟨pb, 0, none⟩ (.int .i64 (wrap64 (R - many)))).drew.heap[D]? = some (.deferred (some [])) := (KeepsOthers.setCell W ⟨pb, 0, none⟩ (.int .i64 (wrap64 (R - many)))).same D _ hKD rfl
    refine ⟨by simp, .inl ⟨_, _, rfl, run_takeDeferred hK', ?_⟩⟩
    have hg3 := grownBy_putObj' (W.setCell ⟨pb, 0, none⟩ (.int .i64 (wrap64 (R - many)))).drew D (.deferred none)
    have s := S.out
    have k1 := Kept.setCell (p := ⟨pb, 0, none⟩) s.hK (.inl rfl) (.int .i64 (wrap64 (R - many)))
    refine ⟨.tuple #[], ?_, rfl, ?_, ?_, ?_⟩
    · simp [results, Try.f39, go_sem]
    · exact blk_grown (w := (W.setCell ⟨pb, 0, none⟩ (.int .i64 (wrap64 (R - many)))).drew) (blk_put s.hP 0 _ rfl) hg3 (fun e => by have := Option.some.inj e; omega)
    · exact Kept.of_grown hg3 k1 (fun k' e => by have := Option.some.inj e; exact .inr (by omega))
    · exact s.hO

end Go.Proofs.Ytgeldfjpafimpaa.PAll
