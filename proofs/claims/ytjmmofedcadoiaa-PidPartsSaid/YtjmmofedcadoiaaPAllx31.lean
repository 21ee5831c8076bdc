-- laid by a program of this session (tprint.py) out of the translation and of texts typed by hand; Lean checks it
import Derived.Test.YtjmmofedcadoiaaPAllx0
import Derived.Test.YtjmmofedcadoiaaPAllx1
import Derived.Test.YtjmmofedcadoiaaPAllx24
import Derived.Test.YtjmmofedcadoiaaPAllx25
import Derived.Test.YtjmmofedcadoiaaPAllx26
import Derived.Test.YtjmmofedcadoiaaPAllx30
namespace Go.Proofs.Ytjmmofedcadoiaa.PAll
open Go.RowKit Go.Proofs.YtjmmofedcadoiaaW.PrintWords Go.Proofs.YtjmmofedcadoiaaW.PrintLast Go.Proofs.YtjmmofedcadoiaaW.PrintMore
attribute [local go_sem] max2_int min2_int max_two min_two max_three min_three max_four min_four   -- for this text's walks alone
set_option linter.unusedVariables false
set_option linter.unusedSimpArgs false

attribute [local go_sem high] eqA37
abbrev qRa := @Kd.R_alloc
abbrev qRn := @Kd.R_drewN
abbrev qRd := @Kd.R_drew
abbrev qbn := @blk_drewN
abbrev qbd := @blk_drew
abbrev qba := @blk_alloc
abbrev qla := @below_alloc
abbrev qln := @pw_below_drewN
abbrev qld := @below_drew1
abbrev qs1 := @List.setIfInBounds_toArray
abbrev qs2 := @List.set_cons_zero
abbrev qs3 := @List.set_cons_succ
abbrev qcf := @cell_far
abbrev qbc := @blk_cell
abbrev qbb := @blk_below
abbrev qst := @below_step
abbrev qsz := @below_size
abbrev qse := @below_set
theorem qA {p : Prop} (h : p) : Aside0 p := ⟨h⟩
abbrev qT : Bool := true
abbrev qF : Bool := false
/-! ### governorlaw12_PidParts: function 11 -/
def governorlaw12_PidParts.j0 : Nat → Int → Bool → Int → Int → Int → Int → Int → Int → Int → Int → Bool → Int → Int → Bool → Int → Int → Bool → Int → Int → Bool → Int → Int → Bool → Option (Bool)
 | 0, _, _, _, _, _, _, _, _, _, _, _, _, _, _, _, _, _, _, _, _, _, _, _ => none
 | k + 1, x1, x9, x10, x12, x14, x16, x18, x19, x366000, x366001, x366002, x385000, x385001, x385002, x402000, x402001, x402002, x419000, x419001, x419002, x436000, x436001, x436002 => if x9 = true then (if (x385000 == x436000 && (x385001 == x436001 && (x385002 == x436002))) = true then (if (x402000 == x436000 && (x402001 == x436001 && (x402002 == x436002))) = true then (if (x419000 == x436000 && (x419001 == x436001 && (x419002 == x436002))) = true then (if x18 = 0 then (if x436001 = x10 then ((governorref08_Add.f x366000 x10).bind fun t437 => (if x436000 = t437 then ((governorref08_Mul.f x1 x10).bind fun t438 => ((governorlaw12_near.f t438).bind fun t439 => (if x12 = t439 then ((governorref08_Mul.f x1 x436000).bind fun t440 => ((governorlaw12_near.f t440).bind fun t441 => (if x14 = t441 then ((governorref08_Mul.f x1 x19).bind fun t442 => ((governorlaw12_near.f t442).bind fun t443 => (some (x16 == t443)))) else (some false)))) else (some false)))) else (some false))) else (some false)) else (some false)) else (some false)) else (some false)) else (some false)) else (some false)
def governorlaw12_PidParts.f (k : Nat) (a0 : Int) (a1 : Int) (a2_0 : Int) (a2_1 : Int) (a2_2 : Bool) (a3 : Int) : Option (Bool) := (governorlaw12_head.f k).bind fun t366 => ((governorref08_Sub.f a3 a0).bind fun t367 => ((governorlaw12_Of.f a0 a1 0 0).bind fun bt368 => ((pid_Next.f k bt368.1 bt368.2.1 bt368.2.2.1 bt368.2.2.2.1 bt368.2.2.2.2.1 bt368.2.2.2.2.2.1 bt368.2.2.2.2.2.2.1 bt368.2.2.2.2.2.2.2 a2_0 a2_1 a2_2 a3).bind fun bt380 => ((governorlaw12_Of.f a0 0 a1 0).bind fun bt385 => ((pid_Next.f k bt385.1 bt385.2.1 bt385.2.2.1 bt385.2.2.2.1 bt385.2.2.2.2.1 bt385.2.2.2.2.2.1 bt385.2.2.2.2.2.2.1 bt385.2.2.2.2.2.2.2 a2_0 a2_1 a2_2 a3).bind fun bt397 => ((governorlaw12_Of.f a0 0 0 a1).bind fun bt402 => ((pid_Next.f k bt402.1 bt402.2.1 bt402.2.2.1 bt402.2.2.2.1 bt402.2.2.2.2.1 bt402.2.2.2.2.2.1 bt402.2.2.2.2.2.2.1 bt402.2.2.2.2.2.2.2 a2_0 a2_1 a2_2 a3).bind fun bt414 => ((governorlaw12_Of.f a0 0 0 0).bind fun bt419 => ((pid_Next.f k bt419.1 bt419.2.1 bt419.2.2.1 bt419.2.2.2.1 bt419.2.2.2.2.1 bt419.2.2.2.2.2.1 bt419.2.2.2.2.2.2.1 bt419.2.2.2.2.2.2.2 a2_0 a2_1 a2_2 a3).bind fun bt431 => (if a2_2 = true then ((governorref08_Sub.f t367 a2_1).bind fun t436 => (governorlaw12_PidParts.j0 k a1 t366 t367 bt380.2.2.2 bt397.2.2.2 bt414.2.2.2 bt431.2.2.2 t436 a2_0 a2_1 a2_2 bt380.1 bt380.2.1 bt380.2.2.1 bt397.1 bt397.2.1 bt397.2.2.1 bt414.1 bt414.2.1 bt414.2.2.1 bt431.1 bt431.2.1 bt431.2.2.1)) else (governorlaw12_PidParts.j0 k a1 t366 t367 bt380.2.2.2 bt397.2.2.2 bt414.2.2.2 bt431.2.2.2 0 a2_0 a2_1 a2_2 bt380.1 bt380.2.1 bt380.2.2.1 bt397.1 bt397.2.1 bt397.2.2.1 bt414.1 bt414.2.1 bt414.2.2.1 bt431.1 bt431.2.1 bt431.2.2.1)))))))))))
theorem governorlaw12_PidParts.mono_l : ∀ k, (∀ y0 y1 y2 y3 y4 y5 y6 y7 y8 y9 y10 y11 y12 y13 y14 y15 y16 y17 y18 y19 y20 y21 y22, LeO (governorlaw12_PidParts.j0 k y0 y1 y2 y3 y4 y5 y6 y7 y8 y9 y10 y11 y12 y13 y14 y15 y16 y17 y18 y19 y20 y21 y22) (governorlaw12_PidParts.j0 (k + 1) y0 y1 y2 y3 y4 y5 y6 y7 y8 y9 y10 y11 y12 y13 y14 y15 y16 y17 y18 y19 y20 y21 y22))
 | 0 => fun _ _ _ _ _ _ _ _ _ _ _ _ _ _ _ _ _ _ _ _ _ _ _ r h => by simp [governorlaw12_PidParts.j0] at h
 | k + 1 => by
  have ih0 := governorlaw12_PidParts.mono_l k
  ·intro y0 y1 y2 y3 y4 y5 y6 y7 y8 y9 y10 y11 y12 y13 y14 y15 y16 y17 y18 y19 y20 y21 y22
   unfold governorlaw12_PidParts.j0
   repeat' first
   | (with_reducible exact ih0 _ _ _ _ _ _ _ _ _ _ _ _ _ _ _ _ _ _ _ _ _ _ _)
   | (with_reducible exact governorlaw12_head.mono _)
   | (with_reducible exact pid_Next.mono _ _ _ _ _ _ _ _ _ _ _ _ _)
   | (with_reducible exact LeO.refl _)
   | (with_reducible exact LeO.none _)
   | (with_reducible refine LeO.ite ?_ ?_)
   | (with_reducible refine LeO.bind ?_ (fun _ => ?_))
   | exact ih0 _ _ _ _ _ _ _ _ _ _ _ _ _ _ _ _ _ _ _ _ _ _ _
   | exact governorlaw12_head.mono _
   | exact pid_Next.mono _ _ _ _ _ _ _ _ _ _ _ _ _
   | exact LeO.none _
   | refine LeO.ite ?_ ?_
   | refine LeO.bind ?_ (fun _ => ?_)
theorem governorlaw12_PidParts.mono : ∀ a0 a1 a2 a3 a4 a5 k, LeO (governorlaw12_PidParts.f k a0 a1 a2 a3 a4 a5) (governorlaw12_PidParts.f (k + 1) a0 a1 a2 a3 a4 a5) := by
 intro a0 a1 a2 a3 a4 a5 k
 have ih0 := governorlaw12_PidParts.mono_l k
 unfold governorlaw12_PidParts.f
 repeat' first
   | (with_reducible exact ih0 _ _ _ _ _ _ _ _ _ _ _ _ _ _ _ _ _ _ _ _ _ _ _)
   | (with_reducible exact governorlaw12_head.mono _)
   | (with_reducible exact pid_Next.mono _ _ _ _ _ _ _ _ _ _ _ _ _)
   | (with_reducible exact LeO.refl _)
   | (with_reducible exact LeO.none _)
   | (with_reducible refine LeO.ite ?_ ?_)
   | (with_reducible refine LeO.bind ?_ (fun _ => ?_))
   | exact ih0 _ _ _ _ _ _ _ _ _ _ _ _ _ _ _ _ _ _ _ _ _ _ _
   | exact governorlaw12_head.mono _
   | exact pid_Next.mono _ _ _ _ _ _ _ _ _ _ _ _ _
   | exact LeO.none _
   | refine LeO.ite ?_ ?_
   | refine LeO.bind ?_ (fun _ => ?_)
def governorlaw12_PidParts.T3 : Bool × List (List Nat × List Nat) := (true, [([], []), ([], []), ([0, 1], [0, 1]), ([], []), ([], []), ([2, 3, 4, 2], [2, 3, 4]), ([5], [5]), ([6], [6]), ([6], [6]), ([], []), ([9, 7, 5, 0, 1, 2, 3, 4, 5, 6, 7, 9], [7, 9]), ([8, 10, 0, 1, 2, 3, 4, 5, 6, 7, 8, 9, 10], [8])])
def governorlaw12_PidParts.B3 : List Nat := [0, 0, 3, 0, 0, 31, 63, 127, 127, 0, 767, 2047]
theorem governorlaw12_PidParts.tab3 : rtab .any (opsOf Try.f11 3) = governorlaw12_PidParts.T3 := by kernel_rfl
theorem governorlaw12_PidParts.bits3 : waitsOk governorlaw12_PidParts.T3.2 governorlaw12_PidParts.B3 = true := by kernel_rfl
def governorlaw12_PidParts.T4 : Bool × List (List Nat × List Nat) := (true, [([], []), ([], []), ([0, 1], [0, 1]), ([], []), ([], []), ([2, 3, 4, 2], [2, 3, 4]), ([5], [5]), ([6], [6]), ([6], [6]), ([], []), ([9, 7, 5, 0, 1, 2, 3, 4, 5, 6, 7, 9], [7, 9]), ([8, 10, 0, 1, 2, 3, 4, 5, 6, 7, 8, 9, 10], [8])])
def governorlaw12_PidParts.B4 : List Nat := [0, 0, 3, 0, 0, 31, 63, 127, 127, 0, 767, 2047]
theorem governorlaw12_PidParts.tab4 : rtab .any (opsOf Try.f11 4) = governorlaw12_PidParts.T4 := by kernel_rfl
theorem governorlaw12_PidParts.bits4 : waitsOk governorlaw12_PidParts.T4.2 governorlaw12_PidParts.B4 = true := by kernel_rfl
def governorlaw12_PidParts.T5 : Bool × List (List Nat × List Nat) := (true, [([], []), ([], []), ([0, 1], [0, 1]), ([], []), ([], []), ([2, 3, 4, 2], [2, 3, 4]), ([5], [5]), ([6], [6]), ([6], [6]), ([], []), ([9, 7, 5, 0, 1, 2, 3, 4, 5, 6, 7, 9], [7, 9]), ([8, 10, 0, 1, 2, 3, 4, 5, 6, 7, 8, 9, 10], [8])])
def governorlaw12_PidParts.B5 : List Nat := [0, 0, 3, 0, 0, 31, 63, 127, 127, 0, 767, 2047]
theorem governorlaw12_PidParts.tab5 : rtab .any (opsOf Try.f11 5) = governorlaw12_PidParts.T5 := by kernel_rfl
theorem governorlaw12_PidParts.bits5 : waitsOk governorlaw12_PidParts.T5.2 governorlaw12_PidParts.B5 = true := by kernel_rfl
def governorlaw12_PidParts.T6 : Bool × List (List Nat × List Nat) := (true, [([], []), ([0], [0]), ([], []), ([], []), ([1, 2, 3, 1], [1, 2, 3]), ([4], [4]), ([5], [5]), ([5], [5]), ([], []), ([8, 6, 4, 0, 1, 2, 3, 4, 5, 6, 8], [6, 8]), ([7, 9, 0, 1, 2, 3, 4, 5, 6, 7, 8, 9], [7])])
def governorlaw12_PidParts.B6 : List Nat := [0, 1, 0, 0, 15, 31, 63, 63, 0, 383, 1023]
theorem governorlaw12_PidParts.tab6 : rtab .any (opsOf Try.f11 6) = governorlaw12_PidParts.T6 := by kernel_rfl
theorem governorlaw12_PidParts.bits6 : waitsOk governorlaw12_PidParts.T6.2 governorlaw12_PidParts.B6 = true := by kernel_rfl
def governorlaw12_PidParts.T10 : Bool × List (List Nat × List Nat) := (true, [([], []), ([0], [0]), ([1], [1]), ([1], [1]), ([2, 3, 1], [1, 2, 3]), ([1, 4], [1, 4]), ([5, 1], [5]), ([6], [6]), ([6], [6]), ([7, 8, 6], [6, 7, 8]), ([6, 9], [6, 9]), ([10, 6], [10]), ([11], [11]), ([11], [11]), ([12, 13, 11], [11, 12, 13]), ([11, 14], [11, 14]), ([15, 11], [15]), ([16], [16]), ([17, 16], [16, 17]), ([16, 18], [16, 18]), ([19, 16], [19]), ([20], [20]), ([21, 20], [20, 21]), ([20], [20]), ([22, 23, 20], [20, 22, 23]), ([20, 24], [20, 24]), ([25, 20], [25]), ([26], [26]), ([27, 26], [26, 27]), ([26], [26]), ([29, 26], [26, 29]), ([26], [26]), ([30, 31, 26, 26], [26, 30, 31]), ([28, 32, 26], [26, 28, 32]), ([26, 33], [26, 33]), ([34, 32], [34]), ([35], [35]), ([35], [35]), ([35], [35]), ([37, 38, 35, 35], [35, 37, 38]), ([39, 39, 35], [35, 39]), ([36, 40, 35], [35, 36, 40]), ([35, 41], [35, 41]), ([42, 40], [42]), ([43], [43]), ([43], [43]), ([43], [43]), ([46, 43], [43, 46]), ([45, 47, 43, 43], [43, 45, 47]), ([48, 48, 43], [43, 48]), ([44, 49, 43], [43, 44, 49]), ([43, 50], [43, 50]), ([51, 49], [51]), ([52], [52]), ([52], [52]), ([52], [52]), ([54, 55, 52, 52], [52, 54, 55]), ([56, 56, 52], [52, 56]), ([53, 57, 52], [52, 53, 57]), ([52, 58], [52, 58]), ([59, 57, 0, 1, 2, 3, 4, 5, 6, 7, 8, 9, 10, 11, 12, 13, 14, 15, 16, 17, 18, 19, 20, 21, 22, 23, 24, 25, 26, 27, 28, 29, 30, 31, 32, 33, 34, 35, 36, 37, 38, 39, 40, 41, 42, 43, 44, 45, 46, 47, 48, 49, 50, 51, 52, 53, 54, 55, 56, 57, 58, 59], [59])])
def governorlaw12_PidParts.B10 : List Nat := [0, 1, 3, 3, 15, 31, 63, 127, 127, 511, 1023, 2047, 4095, 4095, 16383, 32767, 65535, 131071, 262143, 524287, 1048575, 2097151, 4194303, 2097151, 16777215, 33554431, 67108863, 134217727, 268435455, 134217727, 671088639, 134217727, 3892314111, 8589934591, 17179869183, 34359738367, 68719476735, 68719476735, 68719476735, 481036337151, 1030792151039, 2199023255551, 4398046511103, 8796093022207, 17592186044415, 17592186044415, 17592186044415, 87960930222079, 263882790666239, 545357767376895, 1125899906842623, 2251799813685247, 4503599627370495, 9007199254740991, 9007199254740991, 9007199254740991, 63050394783186943, 135107988821114879, 288230376151711743, 576460752303423487, 1152921504606846975]
theorem governorlaw12_PidParts.tab10 : rtab .any (opsOf Try.f11 10) = governorlaw12_PidParts.T10 := by kernel_rfl
theorem governorlaw12_PidParts.bits10 : waitsOk governorlaw12_PidParts.T10.2 governorlaw12_PidParts.B10 = true := by kernel_rfl
set_option maxHeartbeats 8000000 in
set_option maxRecDepth 100000 in
theorem governorlaw12_PidParts.calls (k : Nat) (a0 : Int) (a1 : Int) (a2_0 : Int) (a2_1 : Int) (a2_2 : Bool) (a3 : Int) (r : Bool) (w : World) (hrT : r = true) (h : governorlaw12_PidParts.f k a0 a1 a2_0 a2_1 a2_2 a3 = some r) :
  Calls Try.prog 11 #[.int .i64 a0, .int .i64 a1, .agg #[.int .i64 a2_0, .int .i64 a2_1, .bool a2_2], .int .i64 a3] w fun e w' => e = .returned (.bool r) ∧ Below w.heap.size w w' := by
 have hu37 := Try.underlying37
 have HB := qA (Below.refl w.heap.size w)
 have HRT := qA hrT
 clear hrT
 have H : ((governorlaw12_head.f k).bind fun t366 => ((governorref08_Sub.f a3 a0).bind fun t367 => ((governorlaw12_Of.f a0 a1 0 0).bind fun bt368 => ((pid_Next.f k bt368.1 bt368.2.1 bt368.2.2.1 bt368.2.2.2.1 bt368.2.2.2.2.1 bt368.2.2.2.2.2.1 bt368.2.2.2.2.2.2.1 bt368.2.2.2.2.2.2.2 a2_0 a2_1 a2_2 a3).bind fun bt380 => ((governorlaw12_Of.f a0 0 a1 0).bind fun bt385 => ((pid_Next.f k bt385.1 bt385.2.1 bt385.2.2.1 bt385.2.2.2.1 bt385.2.2.2.2.1 bt385.2.2.2.2.2.1 bt385.2.2.2.2.2.2.1 bt385.2.2.2.2.2.2.2 a2_0 a2_1 a2_2 a3).bind fun bt397 => ((governorlaw12_Of.f a0 0 0 a1).bind fun bt402 => ((pid_Next.f k bt402.1 bt402.2.1 bt402.2.2.1 bt402.2.2.2.1 bt402.2.2.2.2.1 bt402.2.2.2.2.2.1 bt402.2.2.2.2.2.2.1 bt402.2.2.2.2.2.2.2 a2_0 a2_1 a2_2 a3).bind fun bt414 => ((governorlaw12_Of.f a0 0 0 0).bind fun bt419 => ((pid_Next.f k bt419.1 bt419.2.1 bt419.2.2.1 bt419.2.2.2.1 bt419.2.2.2.2.1 bt419.2.2.2.2.2.1 bt419.2.2.2.2.2.2.1 bt419.2.2.2.2.2.2.2 a2_0 a2_1 a2_2 a3).bind fun bt431 => (if a2_2 = true then ((governorref08_Sub.f t367 a2_1).bind fun t436 => (governorlaw12_PidParts.j0 k a1 t366 t367 bt380.2.2.2 bt397.2.2.2 bt414.2.2.2 bt431.2.2.2 t436 a2_0 a2_1 a2_2 bt380.1 bt380.2.1 bt380.2.2.1 bt397.1 bt397.2.1 bt397.2.2.1 bt414.1 bt414.2.1 bt414.2.2.1 bt431.1 bt431.2.1 bt431.2.2.1)) else (governorlaw12_PidParts.j0 k a1 t366 t367 bt380.2.2.2 bt397.2.2.2 bt414.2.2.2 bt431.2.2.2 0 a2_0 a2_1 a2_2 bt380.1 bt380.2.1 bt380.2.2.1 bt397.1 bt397.2.1 bt397.2.2.1 bt414.1 bt414.2.1 bt414.2.2.1 bt431.1 bt431.2.1 bt431.2.2.1)))))))))))) = some r := h
 clear h
 replace H := Option.bind_eq_some_iff.mp H
 obtain ⟨t366, A50, H⟩ := H
 replace H : ((governorref08_Sub.f a3 a0).bind fun t367 => ((governorlaw12_Of.f a0 a1 0 0).bind fun bt368 => ((pid_Next.f k bt368.1 bt368.2.1 bt368.2.2.1 bt368.2.2.2.1 bt368.2.2.2.2.1 bt368.2.2.2.2.2.1 bt368.2.2.2.2.2.2.1 bt368.2.2.2.2.2.2.2 a2_0 a2_1 a2_2 a3).bind fun bt380 => ((governorlaw12_Of.f a0 0 a1 0).bind fun bt385 => ((pid_Next.f k bt385.1 bt385.2.1 bt385.2.2.1 bt385.2.2.2.1 bt385.2.2.2.2.1 bt385.2.2.2.2.2.1 bt385.2.2.2.2.2.2.1 bt385.2.2.2.2.2.2.2 a2_0 a2_1 a2_2 a3).bind fun bt397 => ((governorlaw12_Of.f a0 0 0 a1).bind fun bt402 => ((pid_Next.f k bt402.1 bt402.2.1 bt402.2.2.1 bt402.2.2.2.1 bt402.2.2.2.2.1 bt402.2.2.2.2.2.1 bt402.2.2.2.2.2.2.1 bt402.2.2.2.2.2.2.2 a2_0 a2_1 a2_2 a3).bind fun bt414 => ((governorlaw12_Of.f a0 0 0 0).bind fun bt419 => ((pid_Next.f k bt419.1 bt419.2.1 bt419.2.2.1 bt419.2.2.2.1 bt419.2.2.2.2.1 bt419.2.2.2.2.2.1 bt419.2.2.2.2.2.2.1 bt419.2.2.2.2.2.2.2 a2_0 a2_1 a2_2 a3).bind fun bt431 => (if a2_2 = true then ((governorref08_Sub.f t367 a2_1).bind fun t436 => (governorlaw12_PidParts.j0 k a1 t366 t367 bt380.2.2.2 bt397.2.2.2 bt414.2.2.2 bt431.2.2.2 t436 a2_0 a2_1 a2_2 bt380.1 bt380.2.1 bt380.2.2.1 bt397.1 bt397.2.1 bt397.2.2.1 bt414.1 bt414.2.1 bt414.2.2.1 bt431.1 bt431.2.1 bt431.2.2.1)) else (governorlaw12_PidParts.j0 k a1 t366 t367 bt380.2.2.2 bt397.2.2.2 bt414.2.2.2 bt431.2.2.2 0 a2_0 a2_1 a2_2 bt380.1 bt380.2.1 bt380.2.2.1 bt397.1 bt397.2.1 bt397.2.2.1 bt414.1 bt414.2.1 bt414.2.2.1 bt431.1 bt431.2.1 bt431.2.2.1))))))))))) = some r := H
 have A5 := qA A50
 clear A50
 replace H := Option.bind_eq_some_iff.mp H
 obtain ⟨t367, A60, H⟩ := H
 replace H : ((governorlaw12_Of.f a0 a1 0 0).bind fun bt368 => ((pid_Next.f k bt368.1 bt368.2.1 bt368.2.2.1 bt368.2.2.2.1 bt368.2.2.2.2.1 bt368.2.2.2.2.2.1 bt368.2.2.2.2.2.2.1 bt368.2.2.2.2.2.2.2 a2_0 a2_1 a2_2 a3).bind fun bt380 => ((governorlaw12_Of.f a0 0 a1 0).bind fun bt385 => ((pid_Next.f k bt385.1 bt385.2.1 bt385.2.2.1 bt385.2.2.2.1 bt385.2.2.2.2.1 bt385.2.2.2.2.2.1 bt385.2.2.2.2.2.2.1 bt385.2.2.2.2.2.2.2 a2_0 a2_1 a2_2 a3).bind fun bt397 => ((governorlaw12_Of.f a0 0 0 a1).bind fun bt402 => ((pid_Next.f k bt402.1 bt402.2.1 bt402.2.2.1 bt402.2.2.2.1 bt402.2.2.2.2.1 bt402.2.2.2.2.2.1 bt402.2.2.2.2.2.2.1 bt402.2.2.2.2.2.2.2 a2_0 a2_1 a2_2 a3).bind fun bt414 => ((governorlaw12_Of.f a0 0 0 0).bind fun bt419 => ((pid_Next.f k bt419.1 bt419.2.1 bt419.2.2.1 bt419.2.2.2.1 bt419.2.2.2.2.1 bt419.2.2.2.2.2.1 bt419.2.2.2.2.2.2.1 bt419.2.2.2.2.2.2.2 a2_0 a2_1 a2_2 a3).bind fun bt431 => (if a2_2 = true then ((governorref08_Sub.f t367 a2_1).bind fun t436 => (governorlaw12_PidParts.j0 k a1 t366 t367 bt380.2.2.2 bt397.2.2.2 bt414.2.2.2 bt431.2.2.2 t436 a2_0 a2_1 a2_2 bt380.1 bt380.2.1 bt380.2.2.1 bt397.1 bt397.2.1 bt397.2.2.1 bt414.1 bt414.2.1 bt414.2.2.1 bt431.1 bt431.2.1 bt431.2.2.1)) else (governorlaw12_PidParts.j0 k a1 t366 t367 bt380.2.2.2 bt397.2.2.2 bt414.2.2.2 bt431.2.2.2 0 a2_0 a2_1 a2_2 bt380.1 bt380.2.1 bt380.2.2.1 bt397.1 bt397.2.1 bt397.2.2.1 bt414.1 bt414.2.1 bt414.2.2.1 bt431.1 bt431.2.1 bt431.2.2.1)))))))))) = some r := H
 have A6 := qA A60
 clear A60
 replace H := Option.bind_eq_some_iff.mp H
 obtain ⟨⟨t368, t369, t370, t373, t374, t375, t376, t377⟩, A70, H⟩ := H
 replace H : ((pid_Next.f k t368 t369 t370 t373 t374 t375 t376 t377 a2_0 a2_1 a2_2 a3).bind fun bt380 => ((governorlaw12_Of.f a0 0 a1 0).bind fun bt385 => ((pid_Next.f k bt385.1 bt385.2.1 bt385.2.2.1 bt385.2.2.2.1 bt385.2.2.2.2.1 bt385.2.2.2.2.2.1 bt385.2.2.2.2.2.2.1 bt385.2.2.2.2.2.2.2 a2_0 a2_1 a2_2 a3).bind fun bt397 => ((governorlaw12_Of.f a0 0 0 a1).bind fun bt402 => ((pid_Next.f k bt402.1 bt402.2.1 bt402.2.2.1 bt402.2.2.2.1 bt402.2.2.2.2.1 bt402.2.2.2.2.2.1 bt402.2.2.2.2.2.2.1 bt402.2.2.2.2.2.2.2 a2_0 a2_1 a2_2 a3).bind fun bt414 => ((governorlaw12_Of.f a0 0 0 0).bind fun bt419 => ((pid_Next.f k bt419.1 bt419.2.1 bt419.2.2.1 bt419.2.2.2.1 bt419.2.2.2.2.1 bt419.2.2.2.2.2.1 bt419.2.2.2.2.2.2.1 bt419.2.2.2.2.2.2.2 a2_0 a2_1 a2_2 a3).bind fun bt431 => (if a2_2 = true then ((governorref08_Sub.f t367 a2_1).bind fun t436 => (governorlaw12_PidParts.j0 k a1 t366 t367 bt380.2.2.2 bt397.2.2.2 bt414.2.2.2 bt431.2.2.2 t436 a2_0 a2_1 a2_2 bt380.1 bt380.2.1 bt380.2.2.1 bt397.1 bt397.2.1 bt397.2.2.1 bt414.1 bt414.2.1 bt414.2.2.1 bt431.1 bt431.2.1 bt431.2.2.1)) else (governorlaw12_PidParts.j0 k a1 t366 t367 bt380.2.2.2 bt397.2.2.2 bt414.2.2.2 bt431.2.2.2 0 a2_0 a2_1 a2_2 bt380.1 bt380.2.1 bt380.2.2.1 bt397.1 bt397.2.1 bt397.2.2.1 bt414.1 bt414.2.1 bt414.2.2.1 bt431.1 bt431.2.1 bt431.2.2.1))))))))) = some r := H
 have A7 := qA A70
 clear A70
 replace H := Option.bind_eq_some_iff.mp H
 obtain ⟨⟨t380, t381, t382, t383⟩, A80, H⟩ := H
 replace H : ((governorlaw12_Of.f a0 0 a1 0).bind fun bt385 => ((pid_Next.f k bt385.1 bt385.2.1 bt385.2.2.1 bt385.2.2.2.1 bt385.2.2.2.2.1 bt385.2.2.2.2.2.1 bt385.2.2.2.2.2.2.1 bt385.2.2.2.2.2.2.2 a2_0 a2_1 a2_2 a3).bind fun bt397 => ((governorlaw12_Of.f a0 0 0 a1).bind fun bt402 => ((pid_Next.f k bt402.1 bt402.2.1 bt402.2.2.1 bt402.2.2.2.1 bt402.2.2.2.2.1 bt402.2.2.2.2.2.1 bt402.2.2.2.2.2.2.1 bt402.2.2.2.2.2.2.2 a2_0 a2_1 a2_2 a3).bind fun bt414 => ((governorlaw12_Of.f a0 0 0 0).bind fun bt419 => ((pid_Next.f k bt419.1 bt419.2.1 bt419.2.2.1 bt419.2.2.2.1 bt419.2.2.2.2.1 bt419.2.2.2.2.2.1 bt419.2.2.2.2.2.2.1 bt419.2.2.2.2.2.2.2 a2_0 a2_1 a2_2 a3).bind fun bt431 => (if a2_2 = true then ((governorref08_Sub.f t367 a2_1).bind fun t436 => (governorlaw12_PidParts.j0 k a1 t366 t367 t383 bt397.2.2.2 bt414.2.2.2 bt431.2.2.2 t436 a2_0 a2_1 a2_2 t380 t381 t382 bt397.1 bt397.2.1 bt397.2.2.1 bt414.1 bt414.2.1 bt414.2.2.1 bt431.1 bt431.2.1 bt431.2.2.1)) else (governorlaw12_PidParts.j0 k a1 t366 t367 t383 bt397.2.2.2 bt414.2.2.2 bt431.2.2.2 0 a2_0 a2_1 a2_2 t380 t381 t382 bt397.1 bt397.2.1 bt397.2.2.1 bt414.1 bt414.2.1 bt414.2.2.1 bt431.1 bt431.2.1 bt431.2.2.1)))))))) = some r := H
 have A8 := qA A80
 clear A80
 replace H := Option.bind_eq_some_iff.mp H
 obtain ⟨⟨t385, t386, t387, t390, t391, t392, t393, t394⟩, A90, H⟩ := H
 replace H : ((pid_Next.f k t385 t386 t387 t390 t391 t392 t393 t394 a2_0 a2_1 a2_2 a3).bind fun bt397 => ((governorlaw12_Of.f a0 0 0 a1).bind fun bt402 => ((pid_Next.f k bt402.1 bt402.2.1 bt402.2.2.1 bt402.2.2.2.1 bt402.2.2.2.2.1 bt402.2.2.2.2.2.1 bt402.2.2.2.2.2.2.1 bt402.2.2.2.2.2.2.2 a2_0 a2_1 a2_2 a3).bind fun bt414 => ((governorlaw12_Of.f a0 0 0 0).bind fun bt419 => ((pid_Next.f k bt419.1 bt419.2.1 bt419.2.2.1 bt419.2.2.2.1 bt419.2.2.2.2.1 bt419.2.2.2.2.2.1 bt419.2.2.2.2.2.2.1 bt419.2.2.2.2.2.2.2 a2_0 a2_1 a2_2 a3).bind fun bt431 => (if a2_2 = true then ((governorref08_Sub.f t367 a2_1).bind fun t436 => (governorlaw12_PidParts.j0 k a1 t366 t367 t383 bt397.2.2.2 bt414.2.2.2 bt431.2.2.2 t436 a2_0 a2_1 a2_2 t380 t381 t382 bt397.1 bt397.2.1 bt397.2.2.1 bt414.1 bt414.2.1 bt414.2.2.1 bt431.1 bt431.2.1 bt431.2.2.1)) else (governorlaw12_PidParts.j0 k a1 t366 t367 t383 bt397.2.2.2 bt414.2.2.2 bt431.2.2.2 0 a2_0 a2_1 a2_2 t380 t381 t382 bt397.1 bt397.2.1 bt397.2.2.1 bt414.1 bt414.2.1 bt414.2.2.1 bt431.1 bt431.2.1 bt431.2.2.1))))))) = some r := H
 have A9 := qA A90
 clear A90
 replace H := Option.bind_eq_some_iff.mp H
 obtain ⟨⟨t397, t398, t399, t400⟩, A100, H⟩ := H
 replace H : ((governorlaw12_Of.f a0 0 0 a1).bind fun bt402 => ((pid_Next.f k bt402.1 bt402.2.1 bt402.2.2.1 bt402.2.2.2.1 bt402.2.2.2.2.1 bt402.2.2.2.2.2.1 bt402.2.2.2.2.2.2.1 bt402.2.2.2.2.2.2.2 a2_0 a2_1 a2_2 a3).bind fun bt414 => ((governorlaw12_Of.f a0 0 0 0).bind fun bt419 => ((pid_Next.f k bt419.1 bt419.2.1 bt419.2.2.1 bt419.2.2.2.1 bt419.2.2.2.2.1 bt419.2.2.2.2.2.1 bt419.2.2.2.2.2.2.1 bt419.2.2.2.2.2.2.2 a2_0 a2_1 a2_2 a3).bind fun bt431 => (if a2_2 = true then ((governorref08_Sub.f t367 a2_1).bind fun t436 => (governorlaw12_PidParts.j0 k a1 t366 t367 t383 t400 bt414.2.2.2 bt431.2.2.2 t436 a2_0 a2_1 a2_2 t380 t381 t382 t397 t398 t399 bt414.1 bt414.2.1 bt414.2.2.1 bt431.1 bt431.2.1 bt431.2.2.1)) else (governorlaw12_PidParts.j0 k a1 t366 t367 t383 t400 bt414.2.2.2 bt431.2.2.2 0 a2_0 a2_1 a2_2 t380 t381 t382 t397 t398 t399 bt414.1 bt414.2.1 bt414.2.2.1 bt431.1 bt431.2.1 bt431.2.2.1)))))) = some r := H
 have A10 := qA A100
 clear A100
 replace H := Option.bind_eq_some_iff.mp H
 obtain ⟨⟨t402, t403, t404, t407, t408, t409, t410, t411⟩, A110, H⟩ := H
 replace H : ((pid_Next.f k t402 t403 t404 t407 t408 t409 t410 t411 a2_0 a2_1 a2_2 a3).bind fun bt414 => ((governorlaw12_Of.f a0 0 0 0).bind fun bt419 => ((pid_Next.f k bt419.1 bt419.2.1 bt419.2.2.1 bt419.2.2.2.1 bt419.2.2.2.2.1 bt419.2.2.2.2.2.1 bt419.2.2.2.2.2.2.1 bt419.2.2.2.2.2.2.2 a2_0 a2_1 a2_2 a3).bind fun bt431 => (if a2_2 = true then ((governorref08_Sub.f t367 a2_1).bind fun t436 => (governorlaw12_PidParts.j0 k a1 t366 t367 t383 t400 bt414.2.2.2 bt431.2.2.2 t436 a2_0 a2_1 a2_2 t380 t381 t382 t397 t398 t399 bt414.1 bt414.2.1 bt414.2.2.1 bt431.1 bt431.2.1 bt431.2.2.1)) else (governorlaw12_PidParts.j0 k a1 t366 t367 t383 t400 bt414.2.2.2 bt431.2.2.2 0 a2_0 a2_1 a2_2 t380 t381 t382 t397 t398 t399 bt414.1 bt414.2.1 bt414.2.2.1 bt431.1 bt431.2.1 bt431.2.2.1))))) = some r := H
 have A11 := qA A110
 clear A110
 replace H := Option.bind_eq_some_iff.mp H
 obtain ⟨⟨t414, t415, t416, t417⟩, A120, H⟩ := H
 replace H : ((governorlaw12_Of.f a0 0 0 0).bind fun bt419 => ((pid_Next.f k bt419.1 bt419.2.1 bt419.2.2.1 bt419.2.2.2.1 bt419.2.2.2.2.1 bt419.2.2.2.2.2.1 bt419.2.2.2.2.2.2.1 bt419.2.2.2.2.2.2.2 a2_0 a2_1 a2_2 a3).bind fun bt431 => (if a2_2 = true then ((governorref08_Sub.f t367 a2_1).bind fun t436 => (governorlaw12_PidParts.j0 k a1 t366 t367 t383 t400 t417 bt431.2.2.2 t436 a2_0 a2_1 a2_2 t380 t381 t382 t397 t398 t399 t414 t415 t416 bt431.1 bt431.2.1 bt431.2.2.1)) else (governorlaw12_PidParts.j0 k a1 t366 t367 t383 t400 t417 bt431.2.2.2 0 a2_0 a2_1 a2_2 t380 t381 t382 t397 t398 t399 t414 t415 t416 bt431.1 bt431.2.1 bt431.2.2.1)))) = some r := H
 have A12 := qA A120
 clear A120
 replace H := Option.bind_eq_some_iff.mp H
 obtain ⟨⟨t419, t420, t421, t424, t425, t426, t427, t428⟩, A130, H⟩ := H
 replace H : ((pid_Next.f k t419 t420 t421 t424 t425 t426 t427 t428 a2_0 a2_1 a2_2 a3).bind fun bt431 => (if a2_2 = true then ((governorref08_Sub.f t367 a2_1).bind fun t436 => (governorlaw12_PidParts.j0 k a1 t366 t367 t383 t400 t417 bt431.2.2.2 t436 a2_0 a2_1 a2_2 t380 t381 t382 t397 t398 t399 t414 t415 t416 bt431.1 bt431.2.1 bt431.2.2.1)) else (governorlaw12_PidParts.j0 k a1 t366 t367 t383 t400 t417 bt431.2.2.2 0 a2_0 a2_1 a2_2 t380 t381 t382 t397 t398 t399 t414 t415 t416 bt431.1 bt431.2.1 bt431.2.2.1))) = some r := H
 have A13 := qA A130
 clear A130
 replace H := Option.bind_eq_some_iff.mp H
 obtain ⟨⟨t431, t432, t433, t434⟩, A140, H⟩ := H
 replace H : (if a2_2 = true then ((governorref08_Sub.f t367 a2_1).bind fun t436 => (governorlaw12_PidParts.j0 k a1 t366 t367 t383 t400 t417 t434 t436 a2_0 a2_1 a2_2 t380 t381 t382 t397 t398 t399 t414 t415 t416 t431 t432 t433)) else (governorlaw12_PidParts.j0 k a1 t366 t367 t383 t400 t417 t434 0 a2_0 a2_1 a2_2 t380 t381 t382 t397 t398 t399 t414 t415 t416 t431 t432 t433)) = some r := H
 have A14 := qA A140
 clear A140
 have HC15 := qA H
 clear H
 go_enter Try.func11, Try.ntmps11
 try go_wp2_with (first | ((with_reducible refine gate_dst (N := 6) rfl ?_); refine box_event ?hg (N := 6) ?hd (cs := #[.int .i64 a2_0, .int .i64 a2_1, .bool a2_2]) (t := 37) ?hr ?_; (case hd => rfl); (case hg => rfl); (case hr => first | (go_simp; done) | (go_simp; rfl)); intro gb365 hg w16 hbox hb; have n0_ := qA (qst (by repeat (first | (with_reducible first | exact HB.out | apply qla | apply qln | apply qld) | exact HB.out)) hb); have n1_ := qA (hbox); have n2_ := qA ((by rw [hg]; exact (qsz (by repeat (first | (with_reducible first | exact HB.out | apply qla | apply qln | apply qld) | exact HB.out))) : w.heap.size ≤ gb365)); have n3_ := qA ((by rw [hg]; exact (qsz (by repeat (first | (with_reducible first | exact HB.out | apply qla | apply qln | apply qld) | exact HB.out))) : w.heap.size ≤ gb365)); clear HB; have HB := n0_; have BK365 := n1_; have GW365 := n2_; have GE365 := n3_; clear n0_ n1_ n2_ n3_; clear hb hbox hg) | ((with_reducible refine gate_callee (f := 21) rfl ?_); refine goesL_ (some 20) rfl rfl Try.func21 (by kernel_rfl) rfl #[] rfl (by (try simp only [List.map_toArray, List.map_cons, List.map_nil]); first | done | rfl | (simp only [List.length_drop, List.length_take]; rfl)) ?_; (with_reducible refine (governorlaw12_head.calls k  t366 _ A5.out).mono ?_); rintro e w17 ⟨rfl, hb⟩; refine ⟨_, rfl, ?_⟩; have n0_ := qA (qbb (g := gb365) (o := .cells #[.int .i64 a2_0, .int .i64 a2_1, .bool a2_2] 37 (0, 0)) (by (with_reducible repeat (first | refine qbn ?_ _ | refine qbd ?_ | refine qba ?_ _)); exact BK365.out) hb); have n1_ := qA (qst (by repeat (first | (with_reducible first | exact HB.out | apply qla | apply qln | apply qld | refine qse ?_ GE365.out) | exact HB.out)) hb); clear BK365; clear HB; have BK365 := n0_; have HB := n1_; clear n0_ n1_; (try clear hb); (try clear hb2); (try clear hk); (try clear hi)) | ((with_reducible refine gate_callee (f := 25) rfl ?_); refine goesL_ (some 23) rfl rfl Try.func25 (by kernel_rfl) rfl #[.int .i64 a3, .int .i64 a0] rfl (by (try simp only [List.map_toArray, List.map_cons, List.map_nil]); first | done | rfl | (simp only [List.length_drop, List.length_take]; rfl)) ?_; (with_reducible refine (governorref08_Sub.calls a3 a0 t367 _ A6.out).mono ?_); rintro e w' ⟨rfl, ⟨nd, rfl⟩⟩; refine ⟨_, rfl, ?_⟩; (try (rw [drewN_self w17]; generalize hq_ : World.drewN w17 _ = w17; have n0_ : Aside0 (w17.heap[gb365]? = some (.cells #[.int .i64 a2_0, .int .i64 a2_1, .bool a2_2] 37 (0, 0))) := ⟨by rw [← hq_]; exact (by (with_reducible repeat (first | refine qbn ?_ _ | refine qbd ?_ | refine qba ?_ _)); exact BK365.out)⟩; have n1_ : Aside0 (Below w.heap.size w w17) := ⟨by rw [← hq_]; exact (by repeat (first | (with_reducible first | exact HB.out | apply qla | apply qln | apply qld | refine qse ?_ GE365.out) | exact HB.out))⟩; clear BK365 HB hq_; have BK365 := n0_; have HB := n1_; clear n0_ n1_))))
 replace BK365 := qA (qbd BK365.out)
 replace HB := qA (qld HB.out)
 refine start_ (n := 12) (S := fun w' => w'.cell? ⟨gb365, 0, none⟩ = some (.int .i64 a2_0) ∧ w'.cell? ⟨gb365, 1, none⟩ = some (.int .i64 a2_1) ∧ w'.cell? ⟨gb365, 2, none⟩ = some (.bool a2_2)) (ds := []) #[qF,qF,qF,qF,qF,qF,qF,qF,qF,qF,qF,qF] (by kernel_rfl) rfl rfl ⟨(qbc BK365.out 0).trans rfl, (qbc BK365.out 1).trans rfl, (qbc BK365.out 2).trans rfl⟩ (fun hHeld => ?_); refine with_tabW governorlaw12_PidParts.tab3 governorlaw12_PidParts.bits3 (fun HT_ HW_ => ?_)
 generalize w17.drew = w18 at BK365 HB hHeld ⊢
 refine pure_ (i := 0) (N := some 25) (v := ?_) (a' := ?_) #[qT,qF,qF,qF,qF,qF,qF,qF,qF,qF,qF,qF] rfl rfl (any_of HT_.out (by kernel_rfl)) (fun _ _ _ h => h) (Or.inl ⟨by rfl, ?_⟩) ?_ ?_
 rotate_left
 ·intro w'
  go_simp
  with_reducible rfl
 rotate_left
 ·simp only [Act.put, qs1, qs2, qs3, i64_w, i32_w]
  rfl
 refine pure_ (i := 1) (N := some 26) (v := ?_) (a' := ?_) #[qT,qT,qF,qF,qF,qF,qF,qF,qF,qF,qF,qF] rfl rfl (any_of HT_.out (by kernel_rfl)) (fun _ _ _ h => h) (Or.inl ⟨by rfl, ?_⟩) ?_ ?_
 rotate_left
 ·intro w'
  go_simp
  with_reducible rfl
 rotate_left
 ·simp only [Act.put, qs1, qs2, qs3, i64_w, i32_w]
  rfl
 refine pure_ (i := 4) (N := some 29) (v := ?_) (a' := ?_) #[qT,qT,qF,qF,qT,qF,qF,qF,qF,qF,qF,qF] rfl rfl (any_of HT_.out (by kernel_rfl)) (fun _ _ _ h => h) (Or.inl ⟨by rfl, ?_⟩) ?_ ?_
 rotate_left
 ·intro w'
  go_simp
  with_reducible rfl
 rotate_left
 ·simp only [Act.put, qs1, qs2, qs3, i64_w, i32_w]
  rfl
 refine take_ (i := 3) (N := some 28) (v := ?_) (a' := ?_) #[qT,qT,qF,qT,qT,qF,qF,qF,qF,qF,qF,qF] rfl rfl (take_ofW HT_.out HW_.out (by kernel_rfl)) (fun _ _ _ h => h) (Or.inl ⟨by rfl, ?_⟩) hHeld ?_ ?_
 rotate_left
 ·rintro w' ⟨s0, s1, s2⟩
  go_simp
  with_reducible rfl
 rotate_left
 ·simp only [Act.put, qs1, qs2, qs3, i64_w, i32_w]
  rfl
 refine join_ (σ := Value × Value × Nat) 2 #[qT,qT,qT,qT,qT,qT,qT,qT,qT,qT,qF,qF] (fun s_ => [(27, .agg #[.int .i64 t368, .int .i64 t369, s_.1, .int .i64 t373, .int .i64 t374, .int .i64 t375, .int .i64 t376, s_.2.1]), (30, .tuple #[.agg #[.int .i64 t380, .int .i64 t381, .bool t382], .int .i64 t383]), (11, .pointer (some ⟨s_.2.2, 0, none⟩)), (24, .tuple #[.agg #[.int .i64 t380, .int .i64 t381, .bool t382], .int .i64 t383]), (31, .agg #[.int .i64 t380, .int .i64 t381, .bool t382]), (32, .int .i64 t383)]) (fun s_ w' => (w'.cell? ⟨gb365, 0, none⟩ = some (.int .i64 a2_0) ∧ w'.cell? ⟨gb365, 1, none⟩ = some (.int .i64 a2_1) ∧ w'.cell? ⟨gb365, 2, none⟩ = some (.bool a2_2)) ∧ (Kd.R k29 29 w' w.heap.size (fun _ => True) s_.1 t370) ∧ (Kd.R k71 71 w' w.heap.size (fun _ => True) s_.2.1 t377) ∧ (w'.heap[gb365]? = some (.cells #[.int .i64 a2_0, .int .i64 a2_1, .bool a2_2] 37 (0, 0))) ∧ (w'.heap[s_.2.2]? = some (.cells #[.int .i64 0, .int .i64 0, .bool false] 37 (0, 0))) ∧ (w.heap.size ≤ s_.2.2) ∧ (w.heap.size ≤ s_.2.2) ∧ (gb365 ≠ s_.2.2) ∧ (s_.2.2 ≠ gb365) ∧ (Below w.heap.size w w')) ?_ ?_
 rotate_left
 ·intro hCont
  refine two_ (i := 2) (j := 9) (Ni := some 27) (Nj := some 11) #[qT,qT,qT,qT,qT,qF,qF,qF,qF,qF,qF,qF] #[qT,qT,qF,qT,qT,qF,qF,qF,qF,qT,qF,qF] rfl rfl rfl rfl (two_of HT_.out (by kernel_rfl)) (by decide) (by decide) (fun K hK => ?_) (fun K hK => ?_)
  ·skip
   refine goes_ Try.func23 (by kernel_rfl) rfl #[.int .i64 a0, .int .i64 a1, .int .i64 0, .int .i64 0] (by rfl) rfl rfl (by (try simp only [List.map_toArray, List.map_cons, List.map_nil]); first | done | rfl | (simp only [List.length_drop, List.length_take]; rfl)) ?_
   with_reducible refine (governorlaw12_Of.calls a0 a1 0 0 t368 t369 t370 t373 t374 t375 t376 t377 _ A7.out).mono ?_
   rintro e w19 ⟨v371, v378, rfl, ho0, ho1, hb⟩
   refine ⟨_, rfl, ?_⟩
   have HO372 := qA (Kd.R_lower ho0 (qsz (by repeat (first | (with_reducible first | exact HB.out | apply qla | apply qln | apply qld | refine qse ?_ GE365.out) | exact HB.out))))
   have HO379 := qA (Kd.R_lower ho1 (qsz (by repeat (first | (with_reducible first | exact HB.out | apply qla | apply qln | apply qld | refine qse ?_ GE365.out) | exact HB.out))))
   replace BK365 := qA (qbb (g := gb365) (o := .cells #[.int .i64 a2_0, .int .i64 a2_1, .bool a2_2] 37 (0, 0)) (by (with_reducible repeat (first | refine qbn ?_ _ | refine qbd ?_ | refine qba ?_ _)); exact BK365.out) hb)
   replace HB := qA (qst (by repeat (first | (with_reducible first | exact HB.out | apply qla | apply qln | apply qld | refine qse ?_ GE365.out) | exact HB.out)) hb)
   obtain ⟨Ao20, co20, eo20⟩ := Kd.R_slice HO372.out
   (first | subst eo20 | (injection eo20 with f1_ f2_ f3_; have f4_ := f1_.symm; have f5_ := f3_.symm; clear f1_ f2_ f3_; subst f4_; subst f5_))
   obtain ⟨Ao21, co21, eo21⟩ := Kd.R_slice HO379.out
   (first | subst eo21 | (injection eo21 with f1_ f2_ f3_; have f4_ := f1_.symm; have f5_ := f3_.symm; clear f1_ f2_ f3_; subst f4_; subst f5_))
   refine hK.out _ _ ⟨(qbc BK365.out 0).trans rfl, (qbc BK365.out 1).trans rfl, (qbc BK365.out 2).trans rfl⟩ (fun hHeld => ?_)
   clear hK K
   refine norm_ (a' := ?_) ?_ ?_
   rotate_left
   ·show Act.put _ (some 27) _ = _
    simp only [Act.put, qs1, qs2, qs3, i64_w, i32_w]
    rfl
   refine two_ (i := 5) (j := 9) (Ni := some 30) (Nj := some 11) #[qT,qT,qT,qT,qT,qT,qF,qF,qF,qF,qF,qF] #[qT,qT,qT,qT,qT,qF,qF,qF,qF,qT,qF,qF] rfl rfl rfl rfl (two_of HT_.out (by kernel_rfl)) (by decide) (by decide) (fun K hK => ?_) (fun K hK => ?_)
   ·skip
    refine goes_ Try.func22 (by kernel_rfl) rfl #[.agg #[.int .i64 t368, .int .i64 t369, .slice Ao20 t370.length co20, .int .i64 t373, .int .i64 t374, .int .i64 t375, .int .i64 t376, .slice Ao21 t377.length co21], .agg #[.int .i64 a2_0, .int .i64 a2_1, .bool a2_2], .int .i64 a3] (by rfl) rfl rfl (by (try simp only [List.map_toArray, List.map_cons, List.map_nil]); first | done | rfl | (simp only [List.length_drop, List.length_take]; rfl)) ?_
    with_reducible refine (pid_Next.calls k t368 t369 _ _ t370 t373 t374 t375 t376 _ _ t377 a2_0 a2_1 a2_2 a3 t380 t381 t382 t383 _ ?side1 ?side2 ?side3 ?side4 A8.out).mono ?_
    (case side1 => repeat (first | exact (Kd.R_reads' HO372.out).2.2 | (with_reducible refine Kd.C_alloc ?_ _) | (with_reducible refine Kd.C_drewN ?_ _) | (with_reducible refine Kd.C_drew ?_)))
    (case side2 => exact (Kd.R_reads' HO372.out).2.1)
    (case side3 => repeat (first | exact (Kd.R_reads' HO379.out).2.2 | (with_reducible refine Kd.C_alloc ?_ _) | (with_reducible refine Kd.C_drewN ?_ _) | (with_reducible refine Kd.C_drew ?_)))
    (case side4 => exact (Kd.R_reads' HO379.out).2.1)
    rintro e w22 ⟨rfl, hb⟩
    refine ⟨_, rfl, ?_⟩
    replace HO372 := qA (Kd.R_below (by (with_reducible repeat (first | apply qRa | apply qRn | apply qRd)); exact HO372.out) hb)
    replace HO379 := qA (Kd.R_below (by (with_reducible repeat (first | apply qRa | apply qRn | apply qRd)); exact HO379.out) hb)
    replace BK365 := qA (qbb (g := gb365) (o := .cells #[.int .i64 a2_0, .int .i64 a2_1, .bool a2_2] 37 (0, 0)) (by (with_reducible repeat (first | refine qbn ?_ _ | refine qbd ?_ | refine qba ?_ _)); exact BK365.out) hb)
    replace HB := qA (qst (by repeat (first | (with_reducible first | exact HB.out | apply qla | apply qln | apply qld | refine qse ?_ GE365.out) | exact HB.out)) hb)
    refine hK.out _ _ ⟨(qbc BK365.out 0).trans rfl, (qbc BK365.out 1).trans rfl, (qbc BK365.out 2).trans rfl⟩ (fun hHeld => ?_)
    clear hK K
    refine norm_ (a' := ?_) ?_ ?_
    rotate_left
    ·show Act.put _ (some 30) _ = _
     simp only [Act.put, qs1, qs2, qs3, i64_w, i32_w]
     rfl
    refine pure_ (i := 6) (N := some 24) (v := ?_) (a' := ?_) #[qT,qT,qT,qT,qT,qT,qT,qF,qF,qF,qF,qF] rfl rfl (any_of HT_.out (by kernel_rfl)) (fun _ _ _ h => h) (Or.inl ⟨by rfl, ?_⟩) ?_ ?_
    rotate_left
    ·intro w'
     go_simp
     with_reducible rfl
    rotate_left
    ·simp only [Act.put, qs1, qs2, qs3, i64_w, i32_w]
     rfl
    refine pure_ (i := 7) (N := some 31) (v := ?_) (a' := ?_) #[qT,qT,qT,qT,qT,qT,qT,qT,qF,qF,qF,qF] rfl rfl (any_of HT_.out (by kernel_rfl)) (fun _ _ _ h => h) (Or.inl ⟨by rfl, ?_⟩) ?_ ?_
    rotate_left
    ·intro w'
     go_simp
     with_reducible rfl
    rotate_left
    ·simp only [Act.put, qs1, qs2, qs3, i64_w, i32_w]
     rfl
    refine pure_ (i := 8) (N := some 32) (v := ?_) (a' := ?_) #[qT,qT,qT,qT,qT,qT,qT,qT,qT,qF,qF,qF] rfl rfl (any_of HT_.out (by kernel_rfl)) (fun _ _ _ h => h) (Or.inl ⟨by rfl, ?_⟩) ?_ ?_
    rotate_left
    ·intro w'
     go_simp
     with_reducible rfl
    rotate_left
    ·simp only [Act.put, qs1, qs2, qs3, i64_w, i32_w]
     rfl
    refine one_ (i := 9) (N := some 11) #[qT,qT,qT,qT,qT,qT,qT,qT,qT,qT,qF,qF] rfl rfl (one_of HT_.out (by kernel_rfl)) (by decide) (fun K hK => ?_)
    refine box_step ?hg (N := 11) ?hd (cs := #[.int .i64 0, .int .i64 0, .bool false]) (t := 37) ?hr ?_; (case hd => rfl); (case hg => rfl); (case hr => first | (go_simp; done) | (go_simp; rfl))
    intro gb384 hg w23 hbox hb
    have n0_ := qA (Kd.R_below (by (with_reducible repeat (first | apply qRa | apply qRn | apply qRd)); exact HO372.out) hb)
    have n1_ := qA (Kd.R_below (by (with_reducible repeat (first | apply qRa | apply qRn | apply qRd)); exact HO379.out) hb)
    have n2_ := qA (qbb (g := gb365) (o := .cells #[.int .i64 a2_0, .int .i64 a2_1, .bool a2_2] 37 (0, 0)) (by (with_reducible repeat (first | refine qbn ?_ _ | refine qbd ?_ | refine qba ?_ _)); exact BK365.out) hb)
    have n3_ := qA (qst (by repeat (first | (with_reducible first | exact HB.out | apply qla | apply qln | apply qld | refine qse ?_ GE365.out) | exact HB.out)) hb)
    have n4_ := qA (hbox)
    have n5_ := qA ((by rw [hg]; exact (qsz (by repeat (first | (with_reducible first | exact HB.out | apply qla | apply qln | apply qld | refine qse ?_ GE365.out) | exact HB.out))) : w.heap.size ≤ gb384))
    have n6_ := qA ((by rw [hg]; exact (qsz (by repeat (first | (with_reducible first | exact HB.out | apply qla | apply qln | apply qld | refine qse ?_ GE365.out) | exact HB.out))) : w.heap.size ≤ gb384))
    have n7_ := qA ((by rw [hg]; exact Nat.ne_of_lt (blk_lt (g := gb365) (o := .cells #[.int .i64 a2_0, .int .i64 a2_1, .bool a2_2] 37 (0, 0)) (by (with_reducible repeat (first | refine qbn ?_ _ | refine qbd ?_ | refine qba ?_ _)); exact BK365.out)) : gb365 ≠ gb384))
    have n8_ := qA ((by rw [hg]; exact Nat.ne_of_gt (blk_lt (g := gb365) (o := .cells #[.int .i64 a2_0, .int .i64 a2_1, .bool a2_2] 37 (0, 0)) (by (with_reducible repeat (first | refine qbn ?_ _ | refine qbd ?_ | refine qba ?_ _)); exact BK365.out)) : gb384 ≠ gb365))
    clear HO372
    clear HO379
    clear BK365
    clear HB
    have HO372 := n0_
    have HO379 := n1_
    have BK365 := n2_
    have HB := n3_
    have BK384 := n4_
    have GW384 := n5_
    have GE384 := n6_
    have NB365_384 := n7_
    have NB384_365 := n8_
    clear n0_ n1_ n2_ n3_ n4_ n5_ n6_ n7_ n8_
    clear hb hbox hg
    refine hK.out _ _ ⟨(qbc BK365.out 0).trans rfl, (qbc BK365.out 1).trans rfl, (qbc BK365.out 2).trans rfl⟩ (fun hHeld => ?_)
    clear hK K
    refine norm_ (a' := ?_) ?_ ?_
    rotate_left
    ·show Act.put _ (some 11) _ = _
     simp only [Act.put, qs1, qs2, qs3, i64_w, i32_w]
     rfl
    exact norm_ (by simp only [putAll, Act.put, qs1, qs2, qs3]) (hCont (.slice Ao20 t370.length co20, .slice Ao21 t377.length co21, gb384) _ ⟨hHeld, (by (with_reducible repeat (first | apply qRa | apply qRn | apply qRd)); exact HO372.out), (by (with_reducible repeat (first | apply qRa | apply qRn | apply qRd)); exact HO379.out), (by (with_reducible repeat (first | refine qbn ?_ _ | refine qbd ?_ | refine qba ?_ _)); exact BK365.out), (by (with_reducible repeat (first | refine qbn ?_ _ | refine qbd ?_ | refine qba ?_ _)); exact BK384.out), GW384.out, GE384.out, NB365_384.out, NB384_365.out, (by repeat (first | (with_reducible first | exact HB.out | apply qla | apply qln | apply qld | refine qse ?_ GE365.out | refine qse ?_ GE384.out) | exact HB.out))⟩)
   ·skip
    refine box_step ?hg (N := 11) ?hd (cs := #[.int .i64 0, .int .i64 0, .bool false]) (t := 37) ?hr ?_; (case hd => rfl); (case hg => rfl); (case hr => first | (go_simp; done) | (go_simp; rfl))
    intro gb384 hg w20 hbox hb
    have n0_ := qA (Kd.R_below (by (with_reducible repeat (first | apply qRa | apply qRn | apply qRd)); exact HO372.out) hb)
    have n1_ := qA (Kd.R_below (by (with_reducible repeat (first | apply qRa | apply qRn | apply qRd)); exact HO379.out) hb)
    have n2_ := qA (qbb (g := gb365) (o := .cells #[.int .i64 a2_0, .int .i64 a2_1, .bool a2_2] 37 (0, 0)) (by (with_reducible repeat (first | refine qbn ?_ _ | refine qbd ?_ | refine qba ?_ _)); exact BK365.out) hb)
    have n3_ := qA (qst (by repeat (first | (with_reducible first | exact HB.out | apply qla | apply qln | apply qld | refine qse ?_ GE365.out) | exact HB.out)) hb)
    have n4_ := qA (hbox)
    have n5_ := qA ((by rw [hg]; exact (qsz (by repeat (first | (with_reducible first | exact HB.out | apply qla | apply qln | apply qld | refine qse ?_ GE365.out) | exact HB.out))) : w.heap.size ≤ gb384))
    have n6_ := qA ((by rw [hg]; exact (qsz (by repeat (first | (with_reducible first | exact HB.out | apply qla | apply qln | apply qld | refine qse ?_ GE365.out) | exact HB.out))) : w.heap.size ≤ gb384))
    have n7_ := qA ((by rw [hg]; exact Nat.ne_of_lt (blk_lt (g := gb365) (o := .cells #[.int .i64 a2_0, .int .i64 a2_1, .bool a2_2] 37 (0, 0)) (by (with_reducible repeat (first | refine qbn ?_ _ | refine qbd ?_ | refine qba ?_ _)); exact BK365.out)) : gb365 ≠ gb384))
    have n8_ := qA ((by rw [hg]; exact Nat.ne_of_gt (blk_lt (g := gb365) (o := .cells #[.int .i64 a2_0, .int .i64 a2_1, .bool a2_2] 37 (0, 0)) (by (with_reducible repeat (first | refine qbn ?_ _ | refine qbd ?_ | refine qba ?_ _)); exact BK365.out)) : gb384 ≠ gb365))
    clear HO372
    clear HO379
    clear BK365
    clear HB
    have HO372 := n0_
    have HO379 := n1_
    have BK365 := n2_
    have HB := n3_
    have BK384 := n4_
    have GW384 := n5_
    have GE384 := n6_
    have NB365_384 := n7_
    have NB384_365 := n8_
    clear n0_ n1_ n2_ n3_ n4_ n5_ n6_ n7_ n8_
    clear hb hbox hg
    obtain ⟨Ao21, co21, eo21⟩ := Kd.R_slice HO372.out
    (first | subst eo21 | (injection eo21 with f1_ f2_ f3_; have f4_ := f1_.symm; have f5_ := f3_.symm; clear f1_ f2_ f3_; subst f4_; subst f5_))
    obtain ⟨Ao22, co22, eo22⟩ := Kd.R_slice HO379.out
    (first | subst eo22 | (injection eo22 with f1_ f2_ f3_; have f4_ := f1_.symm; have f5_ := f3_.symm; clear f1_ f2_ f3_; subst f4_; subst f5_))
    refine hK.out _ _ ⟨(qbc BK365.out 0).trans rfl, (qbc BK365.out 1).trans rfl, (qbc BK365.out 2).trans rfl⟩ (fun hHeld => ?_)
    clear hK K
    refine norm_ (a' := ?_) ?_ ?_
    rotate_left
    ·show Act.put _ (some 11) _ = _
     simp only [Act.put, qs1, qs2, qs3, i64_w, i32_w]
     rfl
    refine one_ (i := 5) (N := some 30) #[qT,qT,qT,qT,qT,qT,qF,qF,qF,qT,qF,qF] rfl rfl (one_of HT_.out (by kernel_rfl)) (by decide) (fun K hK => ?_)
    refine goes_ Try.func22 (by kernel_rfl) rfl #[.agg #[.int .i64 t368, .int .i64 t369, .slice Ao21 t370.length co21, .int .i64 t373, .int .i64 t374, .int .i64 t375, .int .i64 t376, .slice Ao22 t377.length co22], .agg #[.int .i64 a2_0, .int .i64 a2_1, .bool a2_2], .int .i64 a3] (by rfl) rfl rfl (by (try simp only [List.map_toArray, List.map_cons, List.map_nil]); first | done | rfl | (simp only [List.length_drop, List.length_take]; rfl)) ?_
    with_reducible refine (pid_Next.calls k t368 t369 _ _ t370 t373 t374 t375 t376 _ _ t377 a2_0 a2_1 a2_2 a3 t380 t381 t382 t383 _ ?side1 ?side2 ?side3 ?side4 A8.out).mono ?_
    (case side1 => repeat (first | exact (Kd.R_reads' HO372.out).2.2 | (with_reducible refine Kd.C_alloc ?_ _) | (with_reducible refine Kd.C_drewN ?_ _) | (with_reducible refine Kd.C_drew ?_)))
    (case side2 => exact (Kd.R_reads' HO372.out).2.1)
    (case side3 => repeat (first | exact (Kd.R_reads' HO379.out).2.2 | (with_reducible refine Kd.C_alloc ?_ _) | (with_reducible refine Kd.C_drewN ?_ _) | (with_reducible refine Kd.C_drew ?_)))
    (case side4 => exact (Kd.R_reads' HO379.out).2.1)
    rintro e w23 ⟨rfl, hb⟩
    refine ⟨_, rfl, ?_⟩
    replace HO372 := qA (Kd.R_below (by (with_reducible repeat (first | apply qRa | apply qRn | apply qRd)); exact HO372.out) hb)
    replace HO379 := qA (Kd.R_below (by (with_reducible repeat (first | apply qRa | apply qRn | apply qRd)); exact HO379.out) hb)
    replace BK365 := qA (qbb (g := gb365) (o := .cells #[.int .i64 a2_0, .int .i64 a2_1, .bool a2_2] 37 (0, 0)) (by (with_reducible repeat (first | refine qbn ?_ _ | refine qbd ?_ | refine qba ?_ _)); exact BK365.out) hb)
    replace BK384 := qA (qbb (g := gb384) (o := .cells #[.int .i64 0, .int .i64 0, .bool false] 37 (0, 0)) (by (with_reducible repeat (first | refine qbn ?_ _ | refine qbd ?_ | refine qba ?_ _)); exact BK384.out) hb)
    replace HB := qA (qst (by repeat (first | (with_reducible first | exact HB.out | apply qla | apply qln | apply qld | refine qse ?_ GE365.out | refine qse ?_ GE384.out) | exact HB.out)) hb)
    refine hK.out _ _ ⟨(qbc BK365.out 0).trans rfl, (qbc BK365.out 1).trans rfl, (qbc BK365.out 2).trans rfl⟩ (fun hHeld => ?_)
    clear hK K
    refine norm_ (a' := ?_) ?_ ?_
    rotate_left
    ·show Act.put _ (some 30) _ = _
     simp only [Act.put, qs1, qs2, qs3, i64_w, i32_w]
     rfl
    refine pure_ (i := 6) (N := some 24) (v := ?_) (a' := ?_) #[qT,qT,qT,qT,qT,qT,qT,qF,qF,qT,qF,qF] rfl rfl (any_of HT_.out (by kernel_rfl)) (fun _ _ _ h => h) (Or.inl ⟨by rfl, ?_⟩) ?_ ?_
    rotate_left
    ·intro w'
     go_simp
     with_reducible rfl
    rotate_left
    ·simp only [Act.put, qs1, qs2, qs3, i64_w, i32_w]
     rfl
    refine pure_ (i := 7) (N := some 31) (v := ?_) (a' := ?_) #[qT,qT,qT,qT,qT,qT,qT,qT,qF,qT,qF,qF] rfl rfl (any_of HT_.out (by kernel_rfl)) (fun _ _ _ h => h) (Or.inl ⟨by rfl, ?_⟩) ?_ ?_
    rotate_left
    ·intro w'
     go_simp
     with_reducible rfl
    rotate_left
    ·simp only [Act.put, qs1, qs2, qs3, i64_w, i32_w]
     rfl
    refine pure_ (i := 8) (N := some 32) (v := ?_) (a' := ?_) #[qT,qT,qT,qT,qT,qT,qT,qT,qT,qT,qF,qF] rfl rfl (any_of HT_.out (by kernel_rfl)) (fun _ _ _ h => h) (Or.inl ⟨by rfl, ?_⟩) ?_ ?_
    rotate_left
    ·intro w'
     go_simp
     with_reducible rfl
    rotate_left
    ·simp only [Act.put, qs1, qs2, qs3, i64_w, i32_w]
     rfl
    exact norm_ (by simp only [putAll, Act.put, qs1, qs2, qs3]) (hCont (.slice Ao21 t370.length co21, .slice Ao22 t377.length co22, gb384) _ ⟨hHeld, (by (with_reducible repeat (first | apply qRa | apply qRn | apply qRd)); exact HO372.out), (by (with_reducible repeat (first | apply qRa | apply qRn | apply qRd)); exact HO379.out), (by (with_reducible repeat (first | refine qbn ?_ _ | refine qbd ?_ | refine qba ?_ _)); exact BK365.out), (by (with_reducible repeat (first | refine qbn ?_ _ | refine qbd ?_ | refine qba ?_ _)); exact BK384.out), GW384.out, GE384.out, NB365_384.out, NB384_365.out, (by repeat (first | (with_reducible first | exact HB.out | apply qla | apply qln | apply qld | refine qse ?_ GE365.out | refine qse ?_ GE384.out) | exact HB.out))⟩)
  ·skip
   refine box_step ?hg (N := 11) ?hd (cs := #[.int .i64 0, .int .i64 0, .bool false]) (t := 37) ?hr ?_; (case hd => rfl); (case hg => rfl); (case hr => first | (go_simp; done) | (go_simp; rfl))
   intro gb384 hg w19 hbox hb
   have n0_ := qA (qbb (g := gb365) (o := .cells #[.int .i64 a2_0, .int .i64 a2_1, .bool a2_2] 37 (0, 0)) (by (with_reducible repeat (first | refine qbn ?_ _ | refine qbd ?_ | refine qba ?_ _)); exact BK365.out) hb)
   have n1_ := qA (qst (by repeat (first | (with_reducible first | exact HB.out | apply qla | apply qln | apply qld | refine qse ?_ GE365.out) | exact HB.out)) hb)
   have n2_ := qA (hbox)
   have n3_ := qA ((by rw [hg]; exact (qsz (by repeat (first | (with_reducible first | exact HB.out | apply qla | apply qln | apply qld | refine qse ?_ GE365.out) | exact HB.out))) : w.heap.size ≤ gb384))
   have n4_ := qA ((by rw [hg]; exact (qsz (by repeat (first | (with_reducible first | exact HB.out | apply qla | apply qln | apply qld | refine qse ?_ GE365.out) | exact HB.out))) : w.heap.size ≤ gb384))
   have n5_ := qA ((by rw [hg]; exact Nat.ne_of_lt (blk_lt (g := gb365) (o := .cells #[.int .i64 a2_0, .int .i64 a2_1, .bool a2_2] 37 (0, 0)) (by (with_reducible repeat (first | refine qbn ?_ _ | refine qbd ?_ | refine qba ?_ _)); exact BK365.out)) : gb365 ≠ gb384))
   have n6_ := qA ((by rw [hg]; exact Nat.ne_of_gt (blk_lt (g := gb365) (o := .cells #[.int .i64 a2_0, .int .i64 a2_1, .bool a2_2] 37 (0, 0)) (by (with_reducible repeat (first | refine qbn ?_ _ | refine qbd ?_ | refine qba ?_ _)); exact BK365.out)) : gb384 ≠ gb365))
   clear BK365
   clear HB
   have BK365 := n0_
   have HB := n1_
   have BK384 := n2_
   have GW384 := n3_
   have GE384 := n4_
   have NB365_384 := n5_
   have NB384_365 := n6_
   clear n0_ n1_ n2_ n3_ n4_ n5_ n6_
   clear hb hbox hg
   refine hK.out _ _ ⟨(qbc BK365.out 0).trans rfl, (qbc BK365.out 1).trans rfl, (qbc BK365.out 2).trans rfl⟩ (fun hHeld => ?_)
   clear hK K
   refine norm_ (a' := ?_) ?_ ?_
   rotate_left
   ·show Act.put _ (some 11) _ = _
    simp only [Act.put, qs1, qs2, qs3, i64_w, i32_w]
    rfl
   refine one_ (i := 2) (N := some 27) #[qT,qT,qT,qT,qT,qF,qF,qF,qF,qT,qF,qF] rfl rfl (one_of HT_.out (by kernel_rfl)) (by decide) (fun K hK => ?_)
   refine goes_ Try.func23 (by kernel_rfl) rfl #[.int .i64 a0, .int .i64 a1, .int .i64 0, .int .i64 0] (by rfl) rfl rfl (by (try simp only [List.map_toArray, List.map_cons, List.map_nil]); first | done | rfl | (simp only [List.length_drop, List.length_take]; rfl)) ?_
   with_reducible refine (governorlaw12_Of.calls a0 a1 0 0 t368 t369 t370 t373 t374 t375 t376 t377 _ A7.out).mono ?_
   rintro e w20 ⟨v371, v378, rfl, ho0, ho1, hb⟩
   refine ⟨_, rfl, ?_⟩
   have HO372 := qA (Kd.R_lower ho0 (qsz (by repeat (first | (with_reducible first | exact HB.out | apply qla | apply qln | apply qld | refine qse ?_ GE365.out | refine qse ?_ GE384.out) | exact HB.out))))
   have HO379 := qA (Kd.R_lower ho1 (qsz (by repeat (first | (with_reducible first | exact HB.out | apply qla | apply qln | apply qld | refine qse ?_ GE365.out | refine qse ?_ GE384.out) | exact HB.out))))
   replace BK365 := qA (qbb (g := gb365) (o := .cells #[.int .i64 a2_0, .int .i64 a2_1, .bool a2_2] 37 (0, 0)) (by (with_reducible repeat (first | refine qbn ?_ _ | refine qbd ?_ | refine qba ?_ _)); exact BK365.out) hb)
   replace BK384 := qA (qbb (g := gb384) (o := .cells #[.int .i64 0, .int .i64 0, .bool false] 37 (0, 0)) (by (with_reducible repeat (first | refine qbn ?_ _ | refine qbd ?_ | refine qba ?_ _)); exact BK384.out) hb)
   replace HB := qA (qst (by repeat (first | (with_reducible first | exact HB.out | apply qla | apply qln | apply qld | refine qse ?_ GE365.out | refine qse ?_ GE384.out) | exact HB.out)) hb)
   obtain ⟨Ao21, co21, eo21⟩ := Kd.R_slice HO372.out
   (first | subst eo21 | (injection eo21 with f1_ f2_ f3_; have f4_ := f1_.symm; have f5_ := f3_.symm; clear f1_ f2_ f3_; subst f4_; subst f5_))
   obtain ⟨Ao22, co22, eo22⟩ := Kd.R_slice HO379.out
   (first | subst eo22 | (injection eo22 with f1_ f2_ f3_; have f4_ := f1_.symm; have f5_ := f3_.symm; clear f1_ f2_ f3_; subst f4_; subst f5_))
   refine hK.out _ _ ⟨(qbc BK365.out 0).trans rfl, (qbc BK365.out 1).trans rfl, (qbc BK365.out 2).trans rfl⟩ (fun hHeld => ?_)
   clear hK K
   refine norm_ (a' := ?_) ?_ ?_
   rotate_left
   ·show Act.put _ (some 27) _ = _
    simp only [Act.put, qs1, qs2, qs3, i64_w, i32_w]
    rfl
   refine one_ (i := 5) (N := some 30) #[qT,qT,qT,qT,qT,qT,qF,qF,qF,qT,qF,qF] rfl rfl (one_of HT_.out (by kernel_rfl)) (by decide) (fun K hK => ?_)
   refine goes_ Try.func22 (by kernel_rfl) rfl #[.agg #[.int .i64 t368, .int .i64 t369, .slice Ao21 t370.length co21, .int .i64 t373, .int .i64 t374, .int .i64 t375, .int .i64 t376, .slice Ao22 t377.length co22], .agg #[.int .i64 a2_0, .int .i64 a2_1, .bool a2_2], .int .i64 a3] (by rfl) rfl rfl (by (try simp only [List.map_toArray, List.map_cons, List.map_nil]); first | done | rfl | (simp only [List.length_drop, List.length_take]; rfl)) ?_
   with_reducible refine (pid_Next.calls k t368 t369 _ _ t370 t373 t374 t375 t376 _ _ t377 a2_0 a2_1 a2_2 a3 t380 t381 t382 t383 _ ?side1 ?side2 ?side3 ?side4 A8.out).mono ?_
   (case side1 => repeat (first | exact (Kd.R_reads' HO372.out).2.2 | (with_reducible refine Kd.C_alloc ?_ _) | (with_reducible refine Kd.C_drewN ?_ _) | (with_reducible refine Kd.C_drew ?_)))
   (case side2 => exact (Kd.R_reads' HO372.out).2.1)
   (case side3 => repeat (first | exact (Kd.R_reads' HO379.out).2.2 | (with_reducible refine Kd.C_alloc ?_ _) | (with_reducible refine Kd.C_drewN ?_ _) | (with_reducible refine Kd.C_drew ?_)))
   (case side4 => exact (Kd.R_reads' HO379.out).2.1)
   rintro e w23 ⟨rfl, hb⟩
   refine ⟨_, rfl, ?_⟩
   replace HO372 := qA (Kd.R_below (by (with_reducible repeat (first | apply qRa | apply qRn | apply qRd)); exact HO372.out) hb)
   replace HO379 := qA (Kd.R_below (by (with_reducible repeat (first | apply qRa | apply qRn | apply qRd)); exact HO379.out) hb)
   replace BK365 := qA (qbb (g := gb365) (o := .cells #[.int .i64 a2_0, .int .i64 a2_1, .bool a2_2] 37 (0, 0)) (by (with_reducible repeat (first | refine qbn ?_ _ | refine qbd ?_ | refine qba ?_ _)); exact BK365.out) hb)
   replace BK384 := qA (qbb (g := gb384) (o := .cells #[.int .i64 0, .int .i64 0, .bool false] 37 (0, 0)) (by (with_reducible repeat (first | refine qbn ?_ _ | refine qbd ?_ | refine qba ?_ _)); exact BK384.out) hb)
   replace HB := qA (qst (by repeat (first | (with_reducible first | exact HB.out | apply qla | apply qln | apply qld | refine qse ?_ GE365.out | refine qse ?_ GE384.out) | exact HB.out)) hb)
   refine hK.out _ _ ⟨(qbc BK365.out 0).trans rfl, (qbc BK365.out 1).trans rfl, (qbc BK365.out 2).trans rfl⟩ (fun hHeld => ?_)
   clear hK K
   refine norm_ (a' := ?_) ?_ ?_
   rotate_left
   ·show Act.put _ (some 30) _ = _
    simp only [Act.put, qs1, qs2, qs3, i64_w, i32_w]
    rfl
   refine pure_ (i := 6) (N := some 24) (v := ?_) (a' := ?_) #[qT,qT,qT,qT,qT,qT,qT,qF,qF,qT,qF,qF] rfl rfl (any_of HT_.out (by kernel_rfl)) (fun _ _ _ h => h) (Or.inl ⟨by rfl, ?_⟩) ?_ ?_
   rotate_left
   ·intro w'
    go_simp
    with_reducible rfl
   rotate_left
   ·simp only [Act.put, qs1, qs2, qs3, i64_w, i32_w]
    rfl
   refine pure_ (i := 7) (N := some 31) (v := ?_) (a' := ?_) #[qT,qT,qT,qT,qT,qT,qT,qT,qF,qT,qF,qF] rfl rfl (any_of HT_.out (by kernel_rfl)) (fun _ _ _ h => h) (Or.inl ⟨by rfl, ?_⟩) ?_ ?_
   rotate_left
   ·intro w'
    go_simp
    with_reducible rfl
   rotate_left
   ·simp only [Act.put, qs1, qs2, qs3, i64_w, i32_w]
    rfl
   refine pure_ (i := 8) (N := some 32) (v := ?_) (a' := ?_) #[qT,qT,qT,qT,qT,qT,qT,qT,qT,qT,qF,qF] rfl rfl (any_of HT_.out (by kernel_rfl)) (fun _ _ _ h => h) (Or.inl ⟨by rfl, ?_⟩) ?_ ?_
   rotate_left
   ·intro w'
    go_simp
    with_reducible rfl
   rotate_left
   ·simp only [Act.put, qs1, qs2, qs3, i64_w, i32_w]
    rfl
   exact norm_ (by simp only [putAll, Act.put, qs1, qs2, qs3]) (hCont (.slice Ao21 t370.length co21, .slice Ao22 t377.length co22, gb384) _ ⟨hHeld, (by (with_reducible repeat (first | apply qRa | apply qRn | apply qRd)); exact HO372.out), (by (with_reducible repeat (first | apply qRa | apply qRn | apply qRd)); exact HO379.out), (by (with_reducible repeat (first | refine qbn ?_ _ | refine qbd ?_ | refine qba ?_ _)); exact BK365.out), (by (with_reducible repeat (first | refine qbn ?_ _ | refine qbd ?_ | refine qba ?_ _)); exact BK384.out), GW384.out, GE384.out, NB365_384.out, NB384_365.out, (by repeat (first | (with_reducible first | exact HB.out | apply qla | apply qln | apply qld | refine qse ?_ GE365.out | refine qse ?_ GE384.out) | exact HB.out))⟩)
 rintro ⟨v371, v378, gb384⟩ w24 ⟨hS_, h0_, h1_, h2_, h3_, h4_, h5_, h6_, h7_, h8_⟩
 have HO372 : Aside0 (Kd.R k29 29 w24 w.heap.size (fun _ => True) v371 t370) := ⟨h0_⟩
 have HO379 : Aside0 (Kd.R k71 71 w24 w.heap.size (fun _ => True) v378 t377) := ⟨h1_⟩
 replace BK365 : Aside0 (w24.heap[gb365]? = some (.cells #[.int .i64 a2_0, .int .i64 a2_1, .bool a2_2] 37 (0, 0))) := ⟨h2_⟩
 have BK384 : Aside0 (w24.heap[gb384]? = some (.cells #[.int .i64 0, .int .i64 0, .bool false] 37 (0, 0))) := ⟨h3_⟩
 have GW384 : Aside0 (w.heap.size ≤ gb384) := ⟨h4_⟩
 have GE384 : Aside0 (w.heap.size ≤ gb384) := ⟨h5_⟩
 have NB365_384 : Aside0 (gb365 ≠ gb384) := ⟨h6_⟩
 have NB384_365 : Aside0 (gb384 ≠ gb365) := ⟨h7_⟩
 replace HB : Aside0 (Below w.heap.size w w24) := ⟨h8_⟩
 clear h0_ h1_ h2_ h3_ h4_ h5_ h6_ h7_ h8_
 have hHeld : w24.cell? ⟨gb365, 0, none⟩ = some (.int .i64 a2_0) ∧ w24.cell? ⟨gb365, 1, none⟩ = some (.int .i64 a2_1) ∧ w24.cell? ⟨gb365, 2, none⟩ = some (.bool a2_2) := hS_
 refine norm_ (a' := ?_) ?_ ?_
 rotate_left
 ·simp only [putAll, Act.put, qs1, qs2, qs3]
  rfl
 refine one_ (i := 10) (N := none) #[qT,qT,qT,qT,qT,qT,qT,qT,qT,qT,qT,qF] rfl rfl (one_of HT_.out (by kernel_rfl)) (by decide) (fun K hK => ?_)
 have hs25 : w24.cell? ⟨gb384, 0, none⟩ = some (.int .i64 0) := (qbc BK384.out 0).trans rfl
 have hfs25 := blk_frozen BK384.out 0
 have hns25_0 := NB365_384.out
 have hms25_0 := NB384_365.out
 have hs26 : w24.cell? ⟨gb384, 1, none⟩ = some (.int .i64 0) := (qbc BK384.out 1).trans rfl
 have hfs26 := blk_frozen BK384.out 1
 have hns26_0 := NB365_384.out
 have hms26_0 := NB384_365.out
 have hs27 : w24.cell? ⟨gb384, 2, none⟩ = some (.bool false) := (qbc BK384.out 2).trans rfl
 have hfs27 := blk_frozen BK384.out 2
 have hns27_0 := NB365_384.out
 have hms27_0 := NB384_365.out
 refine skip_ (w1 := ?_) (by rfl) rfl ?_ ?_
 rotate_left
 ·go_simp
  rfl
 refine hK.out _ _ ⟨((qcf (p := ⟨gb384, _, none⟩) NB365_384.out _).trans (((qcf (p := ⟨gb384, _, none⟩) NB365_384.out _).trans (((qcf (p := ⟨gb384, _, none⟩) NB365_384.out _).trans (hHeld.1)))))), ((qcf (p := ⟨gb384, _, none⟩) NB365_384.out _).trans (((qcf (p := ⟨gb384, _, none⟩) NB365_384.out _).trans (((qcf (p := ⟨gb384, _, none⟩) NB365_384.out _).trans (hHeld.2.1)))))), ((qcf (p := ⟨gb384, _, none⟩) NB365_384.out _).trans (((qcf (p := ⟨gb384, _, none⟩) NB365_384.out _).trans (((qcf (p := ⟨gb384, _, none⟩) NB365_384.out _).trans (hHeld.2.2))))))⟩ (fun hHeld => ?_)
 clear hK K
 refine pure_ (i := 11) (N := some 12) (v := ?_) (a' := ?_) #[qT,qT,qT,qT,qT,qT,qT,qT,qT,qT,qT,qT] rfl rfl (any_of HT_.out (by kernel_rfl)) (fun _ _ _ h => h) (Or.inl ⟨by rfl, ?_⟩) ?_ ?_
 rotate_left
 ·intro w'
  go_simp
  with_reducible rfl
 rotate_left
 ·simp only [Act.put, qs1, qs2, qs3, i64_w, i32_w]
  rfl
 refine done_ (done_of HT_.out (by kernel_rfl)) ?_
 try go_wp2
 have n0_ : Aside0 (Kd.R k29 29 (((w24.setCell ⟨gb384, 0, none⟩ (.int .i64 t380)).setCell ⟨gb384, 1, none⟩ (.int .i64 t381)).setCell ⟨gb384, 2, none⟩ (.bool t382)) w.heap.size (fun _ => True) v371 t370) := ⟨by (with_reducible repeat (first | apply qRa | apply qRn | apply qRd)); exact Kd.R_mono (Kd.R_far (p := ⟨gb384, 2, none⟩) (Kd.R_far (p := ⟨gb384, 1, none⟩) (Kd.R_far (p := ⟨gb384, 0, none⟩) (Kd.R_types HO372.out BK384.out (by decide)) (fun _ hk => hk.2) (.int .i64 t380)) (fun _ hk => hk.2) (.int .i64 t381)) (fun _ hk => hk.2) (.bool t382)) (fun _ hk => trivial)⟩
 have n1_ : Aside0 (Kd.R k71 71 (((w24.setCell ⟨gb384, 0, none⟩ (.int .i64 t380)).setCell ⟨gb384, 1, none⟩ (.int .i64 t381)).setCell ⟨gb384, 2, none⟩ (.bool t382)) w.heap.size (fun _ => True) v378 t377) := ⟨by (with_reducible repeat (first | apply qRa | apply qRn | apply qRd)); exact Kd.R_mono (Kd.R_far (p := ⟨gb384, 2, none⟩) (Kd.R_far (p := ⟨gb384, 1, none⟩) (Kd.R_far (p := ⟨gb384, 0, none⟩) (Kd.R_types HO379.out BK384.out (by decide)) (fun _ hk => hk.2) (.int .i64 t380)) (fun _ hk => hk.2) (.int .i64 t381)) (fun _ hk => hk.2) (.bool t382)) (fun _ hk => trivial)⟩
 have n2_ : Aside0 ((((w24.setCell ⟨gb384, 0, none⟩ (.int .i64 t380)).setCell ⟨gb384, 1, none⟩ (.int .i64 t381)).setCell ⟨gb384, 2, none⟩ (.bool t382)).heap[gb365]? = some (.cells #[.int .i64 a2_0, .int .i64 a2_1, .bool a2_2] 37 (0, 0))) := ⟨by (with_reducible repeat (first | refine qbn ?_ _ | refine qbd ?_ | refine qba ?_ _)); refine blk_far ?_ NB365_384.out _; (with_reducible repeat (first | refine qbn ?_ _ | refine qbd ?_ | refine qba ?_ _)); refine blk_far ?_ NB365_384.out _; (with_reducible repeat (first | refine qbn ?_ _ | refine qbd ?_ | refine qba ?_ _)); refine blk_far ?_ NB365_384.out _; (with_reducible repeat (first | refine qbn ?_ _ | refine qbd ?_ | refine qba ?_ _)); exact BK365.out⟩
 have n3_ : Aside0 ((((w24.setCell ⟨gb384, 0, none⟩ (.int .i64 t380)).setCell ⟨gb384, 1, none⟩ (.int .i64 t381)).setCell ⟨gb384, 2, none⟩ (.bool t382)).heap[gb384]? = some (.cells #[.int .i64 t380, .int .i64 t381, .bool t382] 37 (0, 0))) := ⟨by (with_reducible repeat (first | refine qbn ?_ _ | refine qbd ?_ | refine qba ?_ _)); refine blk_put (cs := #[.int .i64 t380, .int .i64 t381, .bool false]) ?_ 2 _ rfl; (with_reducible repeat (first | refine qbn ?_ _ | refine qbd ?_ | refine qba ?_ _)); refine blk_put (cs := #[.int .i64 t380, .int .i64 0, .bool false]) ?_ 1 _ rfl; (with_reducible repeat (first | refine qbn ?_ _ | refine qbd ?_ | refine qba ?_ _)); refine blk_put (cs := #[.int .i64 0, .int .i64 0, .bool false]) ?_ 0 _ rfl; (with_reducible repeat (first | refine qbn ?_ _ | refine qbd ?_ | refine qba ?_ _)); exact BK384.out⟩
 have n4_ : Aside0 (Below w.heap.size w (((w24.setCell ⟨gb384, 0, none⟩ (.int .i64 t380)).setCell ⟨gb384, 1, none⟩ (.int .i64 t381)).setCell ⟨gb384, 2, none⟩ (.bool t382))) := ⟨by repeat (first | (with_reducible first | exact HB.out | apply qla | apply qln | apply qld | refine qse ?_ GE365.out | refine qse ?_ GE384.out) | exact HB.out)⟩
 (try clear HO372)
 (try clear HO379)
 (try clear BK365)
 (try clear BK384)
 (try clear HB)
 generalize (((w24.setCell ⟨gb384, 0, none⟩ (.int .i64 t380)).setCell ⟨gb384, 1, none⟩ (.int .i64 t381)).setCell ⟨gb384, 2, none⟩ (.bool t382)) = w28 at n0_ n1_ n2_ n3_ n4_ ⊢
 have HO372 := n0_
 have HO379 := n1_
 have BK365 := n2_
 have BK384 := n3_
 have HB := n4_
 clear n0_ n1_ n2_ n3_ n4_
 replace HO372 := qA (qRd HO372.out)
 replace HO379 := qA (qRd HO379.out)
 replace BK365 := qA (qbd BK365.out)
 replace BK384 := qA (qbd BK384.out)
 replace HB := qA (qld HB.out)
 refine start_ (n := 12) (S := fun w' => w'.cell? ⟨gb365, 0, none⟩ = some (.int .i64 a2_0) ∧ w'.cell? ⟨gb365, 1, none⟩ = some (.int .i64 a2_1) ∧ w'.cell? ⟨gb365, 2, none⟩ = some (.bool a2_2)) (ds := []) #[qF,qF,qF,qF,qF,qF,qF,qF,qF,qF,qF,qF] (by kernel_rfl) rfl rfl ⟨(qbc BK365.out 0).trans rfl, (qbc BK365.out 1).trans rfl, (qbc BK365.out 2).trans rfl⟩ (fun hHeld => ?_); refine with_tabW governorlaw12_PidParts.tab4 governorlaw12_PidParts.bits4 (fun HT_ HW_ => ?_)
 generalize w28.drew = w29 at HO372 HO379 BK365 BK384 HB hHeld ⊢
 refine pure_ (i := 0) (N := some 34) (v := ?_) (a' := ?_) #[qT,qF,qF,qF,qF,qF,qF,qF,qF,qF,qF,qF] rfl rfl (any_of HT_.out (by kernel_rfl)) (fun _ _ _ h => h) (Or.inl ⟨by rfl, ?_⟩) ?_ ?_
 rotate_left
 ·intro w'
  go_simp
  with_reducible rfl
 rotate_left
 ·simp only [Act.put, qs1, qs2, qs3, i64_w, i32_w]
  rfl
 refine pure_ (i := 1) (N := some 35) (v := ?_) (a' := ?_) #[qT,qT,qF,qF,qF,qF,qF,qF,qF,qF,qF,qF] rfl rfl (any_of HT_.out (by kernel_rfl)) (fun _ _ _ h => h) (Or.inl ⟨by rfl, ?_⟩) ?_ ?_
 rotate_left
 ·intro w'
  go_simp
  with_reducible rfl
 rotate_left
 ·simp only [Act.put, qs1, qs2, qs3, i64_w, i32_w]
  rfl
 refine pure_ (i := 4) (N := some 38) (v := ?_) (a' := ?_) #[qT,qT,qF,qF,qT,qF,qF,qF,qF,qF,qF,qF] rfl rfl (any_of HT_.out (by kernel_rfl)) (fun _ _ _ h => h) (Or.inl ⟨by rfl, ?_⟩) ?_ ?_
 rotate_left
 ·intro w'
  go_simp
  with_reducible rfl
 rotate_left
 ·simp only [Act.put, qs1, qs2, qs3, i64_w, i32_w]
  rfl
 refine take_ (i := 3) (N := some 37) (v := ?_) (a' := ?_) #[qT,qT,qF,qT,qT,qF,qF,qF,qF,qF,qF,qF] rfl rfl (take_ofW HT_.out HW_.out (by kernel_rfl)) (fun _ _ _ h => h) (Or.inl ⟨by rfl, ?_⟩) hHeld ?_ ?_
 rotate_left
 ·rintro w' ⟨s0, s1, s2⟩
  go_simp
  with_reducible rfl
 rotate_left
 ·simp only [Act.put, qs1, qs2, qs3, i64_w, i32_w]
  rfl
 refine join_ (σ := Value × Value × Nat) 2 #[qT,qT,qT,qT,qT,qT,qT,qT,qT,qT,qF,qF] (fun s_ => [(36, .agg #[.int .i64 t385, .int .i64 t386, s_.1, .int .i64 t390, .int .i64 t391, .int .i64 t392, .int .i64 t393, s_.2.1]), (39, .tuple #[.agg #[.int .i64 t397, .int .i64 t398, .bool t399], .int .i64 t400]), (13, .pointer (some ⟨s_.2.2, 0, none⟩)), (33, .tuple #[.agg #[.int .i64 t397, .int .i64 t398, .bool t399], .int .i64 t400]), (40, .agg #[.int .i64 t397, .int .i64 t398, .bool t399]), (41, .int .i64 t400)]) (fun s_ w' => (w'.cell? ⟨gb365, 0, none⟩ = some (.int .i64 a2_0) ∧ w'.cell? ⟨gb365, 1, none⟩ = some (.int .i64 a2_1) ∧ w'.cell? ⟨gb365, 2, none⟩ = some (.bool a2_2)) ∧ (Kd.R k29 29 w' w.heap.size (fun k_ => some k_ ≠ (s_.1 : Value).ownBlock) v371 t370) ∧ (Kd.R k71 71 w' w.heap.size (fun k_ => some k_ ≠ (s_.2.1 : Value).ownBlock) v378 t377) ∧ (Kd.R k29 29 w' w.heap.size (fun k_ => some k_ ≠ (v371 : Value).ownBlock) s_.1 t387) ∧ (Kd.R k71 71 w' w.heap.size (fun k_ => some k_ ≠ (v378 : Value).ownBlock) s_.2.1 t394) ∧ (w'.heap[gb365]? = some (.cells #[.int .i64 a2_0, .int .i64 a2_1, .bool a2_2] 37 (0, 0))) ∧ (w'.heap[gb384]? = some (.cells #[.int .i64 t380, .int .i64 t381, .bool t382] 37 (0, 0))) ∧ (w'.heap[s_.2.2]? = some (.cells #[.int .i64 0, .int .i64 0, .bool false] 37 (0, 0))) ∧ (w.heap.size ≤ s_.2.2) ∧ (w.heap.size ≤ s_.2.2) ∧ (gb365 ≠ s_.2.2) ∧ (s_.2.2 ≠ gb365) ∧ (gb384 ≠ s_.2.2) ∧ (s_.2.2 ≠ gb384) ∧ (Below w.heap.size w w')) ?_ ?_
 rotate_left
 ·intro hCont
  refine two_ (i := 2) (j := 9) (Ni := some 36) (Nj := some 13) #[qT,qT,qT,qT,qT,qF,qF,qF,qF,qF,qF,qF] #[qT,qT,qF,qT,qT,qF,qF,qF,qF,qT,qF,qF] rfl rfl rfl rfl (two_of HT_.out (by kernel_rfl)) (by decide) (by decide) (fun K hK => ?_) (fun K hK => ?_)
  ·skip
   refine goes_ Try.func23 (by kernel_rfl) rfl #[.int .i64 a0, .int .i64 0, .int .i64 a1, .int .i64 0] (by rfl) rfl rfl (by (try simp only [List.map_toArray, List.map_cons, List.map_nil]); first | done | rfl | (simp only [List.length_drop, List.length_take]; rfl)) ?_
   with_reducible refine (governorlaw12_Of.calls a0 0 a1 0 t385 t386 t387 t390 t391 t392 t393 t394 _ A9.out).mono ?_
   rintro e w30 ⟨v388, v395, rfl, ho0, ho1, hb⟩
   refine ⟨_, rfl, ?_⟩
   have n0_ := qA (Kd.R_elder' (by (with_reducible repeat (first | apply qRa | apply qRn | apply qRd)); exact HO372.out) (Kd.R_base ho0) hb)
   have n1_ := qA (Kd.R_elder' (by (with_reducible repeat (first | apply qRa | apply qRn | apply qRd)); exact HO379.out) (Kd.R_base ho1) hb)
   have n2_ := qA (Kd.R_lower (Kd.R_new' ho0 (Kd.R_lt (by (with_reducible repeat (first | apply qRa | apply qRn | apply qRd)); exact HO372.out))) (qsz (by repeat (first | (with_reducible first | exact HB.out | apply qla | apply qln | apply qld | refine qse ?_ GE365.out | refine qse ?_ GE384.out) | exact HB.out))))
   have n3_ := qA (Kd.R_lower (Kd.R_new' ho1 (Kd.R_lt (by (with_reducible repeat (first | apply qRa | apply qRn | apply qRd)); exact HO379.out))) (qsz (by repeat (first | (with_reducible first | exact HB.out | apply qla | apply qln | apply qld | refine qse ?_ GE365.out | refine qse ?_ GE384.out) | exact HB.out))))
   have n4_ := qA (qbb (g := gb365) (o := .cells #[.int .i64 a2_0, .int .i64 a2_1, .bool a2_2] 37 (0, 0)) (by (with_reducible repeat (first | refine qbn ?_ _ | refine qbd ?_ | refine qba ?_ _)); exact BK365.out) hb)
   have n5_ := qA (qbb (g := gb384) (o := .cells #[.int .i64 t380, .int .i64 t381, .bool t382] 37 (0, 0)) (by (with_reducible repeat (first | refine qbn ?_ _ | refine qbd ?_ | refine qba ?_ _)); exact BK384.out) hb)
   have n6_ := qA (qst (by repeat (first | (with_reducible first | exact HB.out | apply qla | apply qln | apply qld | refine qse ?_ GE365.out | refine qse ?_ GE384.out) | exact HB.out)) hb)
   clear HO372
   clear HO379
   clear BK365
   clear BK384
   clear HB
   have HO372 := n0_
   have HO379 := n1_
   have HO389 := n2_
   have HO396 := n3_
   have BK365 := n4_
   have BK384 := n5_
   have HB := n6_
   clear n0_ n1_ n2_ n3_ n4_ n5_ n6_
   obtain ⟨Ao31, co31, eo31⟩ := Kd.R_slice HO389.out
   (first | subst eo31 | (injection eo31 with f1_ f2_ f3_; have f4_ := f1_.symm; have f5_ := f3_.symm; clear f1_ f2_ f3_; subst f4_; subst f5_))
   obtain ⟨Ao32, co32, eo32⟩ := Kd.R_slice HO396.out
   (first | subst eo32 | (injection eo32 with f1_ f2_ f3_; have f4_ := f1_.symm; have f5_ := f3_.symm; clear f1_ f2_ f3_; subst f4_; subst f5_))
   refine hK.out _ _ ⟨(qbc BK365.out 0).trans rfl, (qbc BK365.out 1).trans rfl, (qbc BK365.out 2).trans rfl⟩ (fun hHeld => ?_)
   clear hK K
   refine norm_ (a' := ?_) ?_ ?_
   rotate_left
   ·show Act.put _ (some 36) _ = _
    simp only [Act.put, qs1, qs2, qs3, i64_w, i32_w]
    rfl
   refine two_ (i := 5) (j := 9) (Ni := some 39) (Nj := some 13) #[qT,qT,qT,qT,qT,qT,qF,qF,qF,qF,qF,qF] #[qT,qT,qT,qT,qT,qF,qF,qF,qF,qT,qF,qF] rfl rfl rfl rfl (two_of HT_.out (by kernel_rfl)) (by decide) (by decide) (fun K hK => ?_) (fun K hK => ?_)
   ·skip
    refine goes_ Try.func22 (by kernel_rfl) rfl #[.agg #[.int .i64 t385, .int .i64 t386, .slice Ao31 t387.length co31, .int .i64 t390, .int .i64 t391, .int .i64 t392, .int .i64 t393, .slice Ao32 t394.length co32], .agg #[.int .i64 a2_0, .int .i64 a2_1, .bool a2_2], .int .i64 a3] (by rfl) rfl rfl (by (try simp only [List.map_toArray, List.map_cons, List.map_nil]); first | done | rfl | (simp only [List.length_drop, List.length_take]; rfl)) ?_
    with_reducible refine (pid_Next.calls k t385 t386 _ _ t387 t390 t391 t392 t393 _ _ t394 a2_0 a2_1 a2_2 a3 t397 t398 t399 t400 _ ?side1 ?side2 ?side3 ?side4 A10.out).mono ?_
    (case side1 => repeat (first | exact (Kd.R_reads' HO389.out).2.2 | (with_reducible refine Kd.C_alloc ?_ _) | (with_reducible refine Kd.C_drewN ?_ _) | (with_reducible refine Kd.C_drew ?_)))
    (case side2 => exact (Kd.R_reads' HO389.out).2.1)
    (case side3 => repeat (first | exact (Kd.R_reads' HO396.out).2.2 | (with_reducible refine Kd.C_alloc ?_ _) | (with_reducible refine Kd.C_drewN ?_ _) | (with_reducible refine Kd.C_drew ?_)))
    (case side4 => exact (Kd.R_reads' HO396.out).2.1)
    rintro e w33 ⟨rfl, hb⟩
    refine ⟨_, rfl, ?_⟩
    replace HO372 := qA (Kd.R_below (by (with_reducible repeat (first | apply qRa | apply qRn | apply qRd)); exact HO372.out) hb)
    replace HO379 := qA (Kd.R_below (by (with_reducible repeat (first | apply qRa | apply qRn | apply qRd)); exact HO379.out) hb)
    replace HO389 := qA (Kd.R_below (by (with_reducible repeat (first | apply qRa | apply qRn | apply qRd)); exact HO389.out) hb)
    replace HO396 := qA (Kd.R_below (by (with_reducible repeat (first | apply qRa | apply qRn | apply qRd)); exact HO396.out) hb)
    replace BK365 := qA (qbb (g := gb365) (o := .cells #[.int .i64 a2_0, .int .i64 a2_1, .bool a2_2] 37 (0, 0)) (by (with_reducible repeat (first | refine qbn ?_ _ | refine qbd ?_ | refine qba ?_ _)); exact BK365.out) hb)
    replace BK384 := qA (qbb (g := gb384) (o := .cells #[.int .i64 t380, .int .i64 t381, .bool t382] 37 (0, 0)) (by (with_reducible repeat (first | refine qbn ?_ _ | refine qbd ?_ | refine qba ?_ _)); exact BK384.out) hb)
    replace HB := qA (qst (by repeat (first | (with_reducible first | exact HB.out | apply qla | apply qln | apply qld | refine qse ?_ GE365.out | refine qse ?_ GE384.out) | exact HB.out)) hb)
    refine hK.out _ _ ⟨(qbc BK365.out 0).trans rfl, (qbc BK365.out 1).trans rfl, (qbc BK365.out 2).trans rfl⟩ (fun hHeld => ?_)
    clear hK K
    refine norm_ (a' := ?_) ?_ ?_
    rotate_left
    ·show Act.put _ (some 39) _ = _
     simp only [Act.put, qs1, qs2, qs3, i64_w, i32_w]
     rfl
    refine pure_ (i := 6) (N := some 33) (v := ?_) (a' := ?_) #[qT,qT,qT,qT,qT,qT,qT,qF,qF,qF,qF,qF] rfl rfl (any_of HT_.out (by kernel_rfl)) (fun _ _ _ h => h) (Or.inl ⟨by rfl, ?_⟩) ?_ ?_
    rotate_left
    ·intro w'
     go_simp
     with_reducible rfl
    rotate_left
    ·simp only [Act.put, qs1, qs2, qs3, i64_w, i32_w]
     rfl
    refine pure_ (i := 7) (N := some 40) (v := ?_) (a' := ?_) #[qT,qT,qT,qT,qT,qT,qT,qT,qF,qF,qF,qF] rfl rfl (any_of HT_.out (by kernel_rfl)) (fun _ _ _ h => h) (Or.inl ⟨by rfl, ?_⟩) ?_ ?_
    rotate_left
    ·intro w'
     go_simp
     with_reducible rfl
    rotate_left
    ·simp only [Act.put, qs1, qs2, qs3, i64_w, i32_w]
     rfl
    refine pure_ (i := 8) (N := some 41) (v := ?_) (a' := ?_) #[qT,qT,qT,qT,qT,qT,qT,qT,qT,qF,qF,qF] rfl rfl (any_of HT_.out (by kernel_rfl)) (fun _ _ _ h => h) (Or.inl ⟨by rfl, ?_⟩) ?_ ?_
    rotate_left
    ·intro w'
     go_simp
     with_reducible rfl
    rotate_left
    ·simp only [Act.put, qs1, qs2, qs3, i64_w, i32_w]
     rfl
    refine one_ (i := 9) (N := some 13) #[qT,qT,qT,qT,qT,qT,qT,qT,qT,qT,qF,qF] rfl rfl (one_of HT_.out (by kernel_rfl)) (by decide) (fun K hK => ?_)
    refine box_step ?hg (N := 13) ?hd (cs := #[.int .i64 0, .int .i64 0, .bool false]) (t := 37) ?hr ?_; (case hd => rfl); (case hg => rfl); (case hr => first | (go_simp; done) | (go_simp; rfl))
    intro gb401 hg w34 hbox hb
    have n0_ := qA (Kd.R_below (by (with_reducible repeat (first | apply qRa | apply qRn | apply qRd)); exact HO372.out) hb)
    have n1_ := qA (Kd.R_below (by (with_reducible repeat (first | apply qRa | apply qRn | apply qRd)); exact HO379.out) hb)
    have n2_ := qA (Kd.R_below (by (with_reducible repeat (first | apply qRa | apply qRn | apply qRd)); exact HO389.out) hb)
    have n3_ := qA (Kd.R_below (by (with_reducible repeat (first | apply qRa | apply qRn | apply qRd)); exact HO396.out) hb)
    have n4_ := qA (qbb (g := gb365) (o := .cells #[.int .i64 a2_0, .int .i64 a2_1, .bool a2_2] 37 (0, 0)) (by (with_reducible repeat (first | refine qbn ?_ _ | refine qbd ?_ | refine qba ?_ _)); exact BK365.out) hb)
    have n5_ := qA (qbb (g := gb384) (o := .cells #[.int .i64 t380, .int .i64 t381, .bool t382] 37 (0, 0)) (by (with_reducible repeat (first | refine qbn ?_ _ | refine qbd ?_ | refine qba ?_ _)); exact BK384.out) hb)
    have n6_ := qA (qst (by repeat (first | (with_reducible first | exact HB.out | apply qla | apply qln | apply qld | refine qse ?_ GE365.out | refine qse ?_ GE384.out) | exact HB.out)) hb)
    have n7_ := qA (hbox)
    have n8_ := qA ((by rw [hg]; exact (qsz (by repeat (first | (with_reducible first | exact HB.out | apply qla | apply qln | apply qld | refine qse ?_ GE365.out | refine qse ?_ GE384.out) | exact HB.out))) : w.heap.size ≤ gb401))
    have n9_ := qA ((by rw [hg]; exact (qsz (by repeat (first | (with_reducible first | exact HB.out | apply qla | apply qln | apply qld | refine qse ?_ GE365.out | refine qse ?_ GE384.out) | exact HB.out))) : w.heap.size ≤ gb401))
    have n10_ := qA ((by rw [hg]; exact Nat.ne_of_lt (blk_lt (g := gb365) (o := .cells #[.int .i64 a2_0, .int .i64 a2_1, .bool a2_2] 37 (0, 0)) (by (with_reducible repeat (first | refine qbn ?_ _ | refine qbd ?_ | refine qba ?_ _)); exact BK365.out)) : gb365 ≠ gb401))
    have n11_ := qA ((by rw [hg]; exact Nat.ne_of_gt (blk_lt (g := gb365) (o := .cells #[.int .i64 a2_0, .int .i64 a2_1, .bool a2_2] 37 (0, 0)) (by (with_reducible repeat (first | refine qbn ?_ _ | refine qbd ?_ | refine qba ?_ _)); exact BK365.out)) : gb401 ≠ gb365))
    have n12_ := qA ((by rw [hg]; exact Nat.ne_of_lt (blk_lt (g := gb384) (o := .cells #[.int .i64 t380, .int .i64 t381, .bool t382] 37 (0, 0)) (by (with_reducible repeat (first | refine qbn ?_ _ | refine qbd ?_ | refine qba ?_ _)); exact BK384.out)) : gb384 ≠ gb401))
    have n13_ := qA ((by rw [hg]; exact Nat.ne_of_gt (blk_lt (g := gb384) (o := .cells #[.int .i64 t380, .int .i64 t381, .bool t382] 37 (0, 0)) (by (with_reducible repeat (first | refine qbn ?_ _ | refine qbd ?_ | refine qba ?_ _)); exact BK384.out)) : gb401 ≠ gb384))
    clear HO372
    clear HO379
    clear HO389
    clear HO396
    clear BK365
    clear BK384
    clear HB
    have HO372 := n0_
    have HO379 := n1_
    have HO389 := n2_
    have HO396 := n3_
    have BK365 := n4_
    have BK384 := n5_
    have HB := n6_
    have BK401 := n7_
    have GW401 := n8_
    have GE401 := n9_
    have NB365_401 := n10_
    have NB401_365 := n11_
    have NB384_401 := n12_
    have NB401_384 := n13_
    clear n0_ n1_ n2_ n3_ n4_ n5_ n6_ n7_ n8_ n9_ n10_ n11_ n12_ n13_
    clear hb hbox hg
    refine hK.out _ _ ⟨(qbc BK365.out 0).trans rfl, (qbc BK365.out 1).trans rfl, (qbc BK365.out 2).trans rfl⟩ (fun hHeld => ?_)
    clear hK K
    refine norm_ (a' := ?_) ?_ ?_
    rotate_left
    ·show Act.put _ (some 13) _ = _
     simp only [Act.put, qs1, qs2, qs3, i64_w, i32_w]
     rfl
    exact norm_ (by simp only [putAll, Act.put, qs1, qs2, qs3]) (hCont (.slice Ao31 t387.length co31, .slice Ao32 t394.length co32, gb401) _ ⟨hHeld, (by (with_reducible repeat (first | apply qRa | apply qRn | apply qRd)); exact Kd.R_mono HO372.out (fun _ hk => hk.2)), (by (with_reducible repeat (first | apply qRa | apply qRn | apply qRd)); exact Kd.R_mono HO379.out (fun _ hk => hk.2)), (by (with_reducible repeat (first | apply qRa | apply qRn | apply qRd)); exact Kd.R_mono HO389.out (fun _ hk => hk.2)), (by (with_reducible repeat (first | apply qRa | apply qRn | apply qRd)); exact Kd.R_mono HO396.out (fun _ hk => hk.2)), (by (with_reducible repeat (first | refine qbn ?_ _ | refine qbd ?_ | refine qba ?_ _)); exact BK365.out), (by (with_reducible repeat (first | refine qbn ?_ _ | refine qbd ?_ | refine qba ?_ _)); exact BK384.out), (by (with_reducible repeat (first | refine qbn ?_ _ | refine qbd ?_ | refine qba ?_ _)); exact BK401.out), GW401.out, GE401.out, NB365_401.out, NB401_365.out, NB384_401.out, NB401_384.out, (by repeat (first | (with_reducible first | exact HB.out | apply qla | apply qln | apply qld | refine qse ?_ GE365.out | refine qse ?_ GE384.out | refine qse ?_ GE401.out) | exact HB.out))⟩)
   ·skip
    refine box_step ?hg (N := 13) ?hd (cs := #[.int .i64 0, .int .i64 0, .bool false]) (t := 37) ?hr ?_; (case hd => rfl); (case hg => rfl); (case hr => first | (go_simp; done) | (go_simp; rfl))
    intro gb401 hg w31 hbox hb
    have n0_ := qA (Kd.R_below (by (with_reducible repeat (first | apply qRa | apply qRn | apply qRd)); exact HO372.out) hb)
    have n1_ := qA (Kd.R_below (by (with_reducible repeat (first | apply qRa | apply qRn | apply qRd)); exact HO379.out) hb)
    have n2_ := qA (Kd.R_below (by (with_reducible repeat (first | apply qRa | apply qRn | apply qRd)); exact HO389.out) hb)
    have n3_ := qA (Kd.R_below (by (with_reducible repeat (first | apply qRa | apply qRn | apply qRd)); exact HO396.out) hb)
    have n4_ := qA (qbb (g := gb365) (o := .cells #[.int .i64 a2_0, .int .i64 a2_1, .bool a2_2] 37 (0, 0)) (by (with_reducible repeat (first | refine qbn ?_ _ | refine qbd ?_ | refine qba ?_ _)); exact BK365.out) hb)
    have n5_ := qA (qbb (g := gb384) (o := .cells #[.int .i64 t380, .int .i64 t381, .bool t382] 37 (0, 0)) (by (with_reducible repeat (first | refine qbn ?_ _ | refine qbd ?_ | refine qba ?_ _)); exact BK384.out) hb)
    have n6_ := qA (qst (by repeat (first | (with_reducible first | exact HB.out | apply qla | apply qln | apply qld | refine qse ?_ GE365.out | refine qse ?_ GE384.out) | exact HB.out)) hb)
    have n7_ := qA (hbox)
    have n8_ := qA ((by rw [hg]; exact (qsz (by repeat (first | (with_reducible first | exact HB.out | apply qla | apply qln | apply qld | refine qse ?_ GE365.out | refine qse ?_ GE384.out) | exact HB.out))) : w.heap.size ≤ gb401))
    have n9_ := qA ((by rw [hg]; exact (qsz (by repeat (first | (with_reducible first | exact HB.out | apply qla | apply qln | apply qld | refine qse ?_ GE365.out | refine qse ?_ GE384.out) | exact HB.out))) : w.heap.size ≤ gb401))
    have n10_ := qA ((by rw [hg]; exact Nat.ne_of_lt (blk_lt (g := gb365) (o := .cells #[.int .i64 a2_0, .int .i64 a2_1, .bool a2_2] 37 (0, 0)) (by (with_reducible repeat (first | refine qbn ?_ _ | refine qbd ?_ | refine qba ?_ _)); exact BK365.out)) : gb365 ≠ gb401))
    have n11_ := qA ((by rw [hg]; exact Nat.ne_of_gt (blk_lt (g := gb365) (o := .cells #[.int .i64 a2_0, .int .i64 a2_1, .bool a2_2] 37 (0, 0)) (by (with_reducible repeat (first | refine qbn ?_ _ | refine qbd ?_ | refine qba ?_ _)); exact BK365.out)) : gb401 ≠ gb365))
    have n12_ := qA ((by rw [hg]; exact Nat.ne_of_lt (blk_lt (g := gb384) (o := .cells #[.int .i64 t380, .int .i64 t381, .bool t382] 37 (0, 0)) (by (with_reducible repeat (first | refine qbn ?_ _ | refine qbd ?_ | refine qba ?_ _)); exact BK384.out)) : gb384 ≠ gb401))
    have n13_ := qA ((by rw [hg]; exact Nat.ne_of_gt (blk_lt (g := gb384) (o := .cells #[.int .i64 t380, .int .i64 t381, .bool t382] 37 (0, 0)) (by (with_reducible repeat (first | refine qbn ?_ _ | refine qbd ?_ | refine qba ?_ _)); exact BK384.out)) : gb401 ≠ gb384))
    clear HO372
    clear HO379
    clear HO389
    clear HO396
    clear BK365
    clear BK384
    clear HB
    have HO372 := n0_
    have HO379 := n1_
    have HO389 := n2_
    have HO396 := n3_
    have BK365 := n4_
    have BK384 := n5_
    have HB := n6_
    have BK401 := n7_
    have GW401 := n8_
    have GE401 := n9_
    have NB365_401 := n10_
    have NB401_365 := n11_
    have NB384_401 := n12_
    have NB401_384 := n13_
    clear n0_ n1_ n2_ n3_ n4_ n5_ n6_ n7_ n8_ n9_ n10_ n11_ n12_ n13_
    clear hb hbox hg
    obtain ⟨Ao32, co32, eo32⟩ := Kd.R_slice HO389.out
    (first | subst eo32 | (injection eo32 with f1_ f2_ f3_; have f4_ := f1_.symm; have f5_ := f3_.symm; clear f1_ f2_ f3_; subst f4_; subst f5_))
    obtain ⟨Ao33, co33, eo33⟩ := Kd.R_slice HO396.out
    (first | subst eo33 | (injection eo33 with f1_ f2_ f3_; have f4_ := f1_.symm; have f5_ := f3_.symm; clear f1_ f2_ f3_; subst f4_; subst f5_))
    refine hK.out _ _ ⟨(qbc BK365.out 0).trans rfl, (qbc BK365.out 1).trans rfl, (qbc BK365.out 2).trans rfl⟩ (fun hHeld => ?_)
    clear hK K
    refine norm_ (a' := ?_) ?_ ?_
    rotate_left
    ·show Act.put _ (some 13) _ = _
     simp only [Act.put, qs1, qs2, qs3, i64_w, i32_w]
     rfl
    refine one_ (i := 5) (N := some 39) #[qT,qT,qT,qT,qT,qT,qF,qF,qF,qT,qF,qF] rfl rfl (one_of HT_.out (by kernel_rfl)) (by decide) (fun K hK => ?_)
    refine goes_ Try.func22 (by kernel_rfl) rfl #[.agg #[.int .i64 t385, .int .i64 t386, .slice Ao32 t387.length co32, .int .i64 t390, .int .i64 t391, .int .i64 t392, .int .i64 t393, .slice Ao33 t394.length co33], .agg #[.int .i64 a2_0, .int .i64 a2_1, .bool a2_2], .int .i64 a3] (by rfl) rfl rfl (by (try simp only [List.map_toArray, List.map_cons, List.map_nil]); first | done | rfl | (simp only [List.length_drop, List.length_take]; rfl)) ?_
    with_reducible refine (pid_Next.calls k t385 t386 _ _ t387 t390 t391 t392 t393 _ _ t394 a2_0 a2_1 a2_2 a3 t397 t398 t399 t400 _ ?side1 ?side2 ?side3 ?side4 A10.out).mono ?_
    (case side1 => repeat (first | exact (Kd.R_reads' HO389.out).2.2 | (with_reducible refine Kd.C_alloc ?_ _) | (with_reducible refine Kd.C_drewN ?_ _) | (with_reducible refine Kd.C_drew ?_)))
    (case side2 => exact (Kd.R_reads' HO389.out).2.1)
    (case side3 => repeat (first | exact (Kd.R_reads' HO396.out).2.2 | (with_reducible refine Kd.C_alloc ?_ _) | (with_reducible refine Kd.C_drewN ?_ _) | (with_reducible refine Kd.C_drew ?_)))
    (case side4 => exact (Kd.R_reads' HO396.out).2.1)
    rintro e w34 ⟨rfl, hb⟩
    refine ⟨_, rfl, ?_⟩
    replace HO372 := qA (Kd.R_below (by (with_reducible repeat (first | apply qRa | apply qRn | apply qRd)); exact HO372.out) hb)
    replace HO379 := qA (Kd.R_below (by (with_reducible repeat (first | apply qRa | apply qRn | apply qRd)); exact HO379.out) hb)
    replace HO389 := qA (Kd.R_below (by (with_reducible repeat (first | apply qRa | apply qRn | apply qRd)); exact HO389.out) hb)
    replace HO396 := qA (Kd.R_below (by (with_reducible repeat (first | apply qRa | apply qRn | apply qRd)); exact HO396.out) hb)
    replace BK365 := qA (qbb (g := gb365) (o := .cells #[.int .i64 a2_0, .int .i64 a2_1, .bool a2_2] 37 (0, 0)) (by (with_reducible repeat (first | refine qbn ?_ _ | refine qbd ?_ | refine qba ?_ _)); exact BK365.out) hb)
    replace BK384 := qA (qbb (g := gb384) (o := .cells #[.int .i64 t380, .int .i64 t381, .bool t382] 37 (0, 0)) (by (with_reducible repeat (first | refine qbn ?_ _ | refine qbd ?_ | refine qba ?_ _)); exact BK384.out) hb)
    replace BK401 := qA (qbb (g := gb401) (o := .cells #[.int .i64 0, .int .i64 0, .bool false] 37 (0, 0)) (by (with_reducible repeat (first | refine qbn ?_ _ | refine qbd ?_ | refine qba ?_ _)); exact BK401.out) hb)
    replace HB := qA (qst (by repeat (first | (with_reducible first | exact HB.out | apply qla | apply qln | apply qld | refine qse ?_ GE365.out | refine qse ?_ GE384.out | refine qse ?_ GE401.out) | exact HB.out)) hb)
    refine hK.out _ _ ⟨(qbc BK365.out 0).trans rfl, (qbc BK365.out 1).trans rfl, (qbc BK365.out 2).trans rfl⟩ (fun hHeld => ?_)
    clear hK K
    refine norm_ (a' := ?_) ?_ ?_
    rotate_left
    ·show Act.put _ (some 39) _ = _
     simp only [Act.put, qs1, qs2, qs3, i64_w, i32_w]
     rfl
    refine pure_ (i := 6) (N := some 33) (v := ?_) (a' := ?_) #[qT,qT,qT,qT,qT,qT,qT,qF,qF,qT,qF,qF] rfl rfl (any_of HT_.out (by kernel_rfl)) (fun _ _ _ h => h) (Or.inl ⟨by rfl, ?_⟩) ?_ ?_
    rotate_left
    ·intro w'
     go_simp
     with_reducible rfl
    rotate_left
    ·simp only [Act.put, qs1, qs2, qs3, i64_w, i32_w]
     rfl
    refine pure_ (i := 7) (N := some 40) (v := ?_) (a' := ?_) #[qT,qT,qT,qT,qT,qT,qT,qT,qF,qT,qF,qF] rfl rfl (any_of HT_.out (by kernel_rfl)) (fun _ _ _ h => h) (Or.inl ⟨by rfl, ?_⟩) ?_ ?_
    rotate_left
    ·intro w'
     go_simp
     with_reducible rfl
    rotate_left
    ·simp only [Act.put, qs1, qs2, qs3, i64_w, i32_w]
     rfl
    refine pure_ (i := 8) (N := some 41) (v := ?_) (a' := ?_) #[qT,qT,qT,qT,qT,qT,qT,qT,qT,qT,qF,qF] rfl rfl (any_of HT_.out (by kernel_rfl)) (fun _ _ _ h => h) (Or.inl ⟨by rfl, ?_⟩) ?_ ?_
    rotate_left
    ·intro w'
     go_simp
     with_reducible rfl
    rotate_left
    ·simp only [Act.put, qs1, qs2, qs3, i64_w, i32_w]
     rfl
    exact norm_ (by simp only [putAll, Act.put, qs1, qs2, qs3]) (hCont (.slice Ao32 t387.length co32, .slice Ao33 t394.length co33, gb401) _ ⟨hHeld, (by (with_reducible repeat (first | apply qRa | apply qRn | apply qRd)); exact Kd.R_mono HO372.out (fun _ hk => hk.2)), (by (with_reducible repeat (first | apply qRa | apply qRn | apply qRd)); exact Kd.R_mono HO379.out (fun _ hk => hk.2)), (by (with_reducible repeat (first | apply qRa | apply qRn | apply qRd)); exact Kd.R_mono HO389.out (fun _ hk => hk.2)), (by (with_reducible repeat (first | apply qRa | apply qRn | apply qRd)); exact Kd.R_mono HO396.out (fun _ hk => hk.2)), (by (with_reducible repeat (first | refine qbn ?_ _ | refine qbd ?_ | refine qba ?_ _)); exact BK365.out), (by (with_reducible repeat (first | refine qbn ?_ _ | refine qbd ?_ | refine qba ?_ _)); exact BK384.out), (by (with_reducible repeat (first | refine qbn ?_ _ | refine qbd ?_ | refine qba ?_ _)); exact BK401.out), GW401.out, GE401.out, NB365_401.out, NB401_365.out, NB384_401.out, NB401_384.out, (by repeat (first | (with_reducible first | exact HB.out | apply qla | apply qln | apply qld | refine qse ?_ GE365.out | refine qse ?_ GE384.out | refine qse ?_ GE401.out) | exact HB.out))⟩)
  ·skip
   refine box_step ?hg (N := 13) ?hd (cs := #[.int .i64 0, .int .i64 0, .bool false]) (t := 37) ?hr ?_; (case hd => rfl); (case hg => rfl); (case hr => first | (go_simp; done) | (go_simp; rfl))
   intro gb401 hg w30 hbox hb
   have n0_ := qA (Kd.R_below (by (with_reducible repeat (first | apply qRa | apply qRn | apply qRd)); exact HO372.out) hb)
   have n1_ := qA (Kd.R_below (by (with_reducible repeat (first | apply qRa | apply qRn | apply qRd)); exact HO379.out) hb)
   have n2_ := qA (qbb (g := gb365) (o := .cells #[.int .i64 a2_0, .int .i64 a2_1, .bool a2_2] 37 (0, 0)) (by (with_reducible repeat (first | refine qbn ?_ _ | refine qbd ?_ | refine qba ?_ _)); exact BK365.out) hb)
   have n3_ := qA (qbb (g := gb384) (o := .cells #[.int .i64 t380, .int .i64 t381, .bool t382] 37 (0, 0)) (by (with_reducible repeat (first | refine qbn ?_ _ | refine qbd ?_ | refine qba ?_ _)); exact BK384.out) hb)
   have n4_ := qA (qst (by repeat (first | (with_reducible first | exact HB.out | apply qla | apply qln | apply qld | refine qse ?_ GE365.out | refine qse ?_ GE384.out) | exact HB.out)) hb)
   have n5_ := qA (hbox)
   have n6_ := qA ((by rw [hg]; exact (qsz (by repeat (first | (with_reducible first | exact HB.out | apply qla | apply qln | apply qld | refine qse ?_ GE365.out | refine qse ?_ GE384.out) | exact HB.out))) : w.heap.size ≤ gb401))
   have n7_ := qA ((by rw [hg]; exact (qsz (by repeat (first | (with_reducible first | exact HB.out | apply qla | apply qln | apply qld | refine qse ?_ GE365.out | refine qse ?_ GE384.out) | exact HB.out))) : w.heap.size ≤ gb401))
   have n8_ := qA ((by rw [hg]; exact Nat.ne_of_lt (blk_lt (g := gb365) (o := .cells #[.int .i64 a2_0, .int .i64 a2_1, .bool a2_2] 37 (0, 0)) (by (with_reducible repeat (first | refine qbn ?_ _ | refine qbd ?_ | refine qba ?_ _)); exact BK365.out)) : gb365 ≠ gb401))
   have n9_ := qA ((by rw [hg]; exact Nat.ne_of_gt (blk_lt (g := gb365) (o := .cells #[.int .i64 a2_0, .int .i64 a2_1, .bool a2_2] 37 (0, 0)) (by (with_reducible repeat (first | refine qbn ?_ _ | refine qbd ?_ | refine qba ?_ _)); exact BK365.out)) : gb401 ≠ gb365))
   have n10_ := qA ((by rw [hg]; exact Nat.ne_of_lt (blk_lt (g := gb384) (o := .cells #[.int .i64 t380, .int .i64 t381, .bool t382] 37 (0, 0)) (by (with_reducible repeat (first | refine qbn ?_ _ | refine qbd ?_ | refine qba ?_ _)); exact BK384.out)) : gb384 ≠ gb401))
   have n11_ := qA ((by rw [hg]; exact Nat.ne_of_gt (blk_lt (g := gb384) (o := .cells #[.int .i64 t380, .int .i64 t381, .bool t382] 37 (0, 0)) (by (with_reducible repeat (first | refine qbn ?_ _ | refine qbd ?_ | refine qba ?_ _)); exact BK384.out)) : gb401 ≠ gb384))
   clear HO372
   clear HO379
   clear BK365
   clear BK384
   clear HB
   have HO372 := n0_
   have HO379 := n1_
   have BK365 := n2_
   have BK384 := n3_
   have HB := n4_
   have BK401 := n5_
   have GW401 := n6_
   have GE401 := n7_
   have NB365_401 := n8_
   have NB401_365 := n9_
   have NB384_401 := n10_
   have NB401_384 := n11_
   clear n0_ n1_ n2_ n3_ n4_ n5_ n6_ n7_ n8_ n9_ n10_ n11_
   clear hb hbox hg
   refine hK.out _ _ ⟨(qbc BK365.out 0).trans rfl, (qbc BK365.out 1).trans rfl, (qbc BK365.out 2).trans rfl⟩ (fun hHeld => ?_)
   clear hK K
   refine norm_ (a' := ?_) ?_ ?_
   rotate_left
   ·show Act.put _ (some 13) _ = _
    simp only [Act.put, qs1, qs2, qs3, i64_w, i32_w]
    rfl
   refine one_ (i := 2) (N := some 36) #[qT,qT,qT,qT,qT,qF,qF,qF,qF,qT,qF,qF] rfl rfl (one_of HT_.out (by kernel_rfl)) (by decide) (fun K hK => ?_)
   refine goes_ Try.func23 (by kernel_rfl) rfl #[.int .i64 a0, .int .i64 0, .int .i64 a1, .int .i64 0] (by rfl) rfl rfl (by (try simp only [List.map_toArray, List.map_cons, List.map_nil]); first | done | rfl | (simp only [List.length_drop, List.length_take]; rfl)) ?_
   with_reducible refine (governorlaw12_Of.calls a0 0 a1 0 t385 t386 t387 t390 t391 t392 t393 t394 _ A9.out).mono ?_
   rintro e w31 ⟨v388, v395, rfl, ho0, ho1, hb⟩
   refine ⟨_, rfl, ?_⟩
   have n0_ := qA (Kd.R_elder' (by (with_reducible repeat (first | apply qRa | apply qRn | apply qRd)); exact HO372.out) (Kd.R_base ho0) hb)
   have n1_ := qA (Kd.R_elder' (by (with_reducible repeat (first | apply qRa | apply qRn | apply qRd)); exact HO379.out) (Kd.R_base ho1) hb)
   have n2_ := qA (Kd.R_lower (Kd.R_new' ho0 (Kd.R_lt (by (with_reducible repeat (first | apply qRa | apply qRn | apply qRd)); exact HO372.out))) (qsz (by repeat (first | (with_reducible first | exact HB.out | apply qla | apply qln | apply qld | refine qse ?_ GE365.out | refine qse ?_ GE384.out | refine qse ?_ GE401.out) | exact HB.out))))
   have n3_ := qA (Kd.R_lower (Kd.R_new' ho1 (Kd.R_lt (by (with_reducible repeat (first | apply qRa | apply qRn | apply qRd)); exact HO379.out))) (qsz (by repeat (first | (with_reducible first | exact HB.out | apply qla | apply qln | apply qld | refine qse ?_ GE365.out | refine qse ?_ GE384.out | refine qse ?_ GE401.out) | exact HB.out))))
   have n4_ := qA (qbb (g := gb365) (o := .cells #[.int .i64 a2_0, .int .i64 a2_1, .bool a2_2] 37 (0, 0)) (by (with_reducible repeat (first | refine qbn ?_ _ | refine qbd ?_ | refine qba ?_ _)); exact BK365.out) hb)
   have n5_ := qA (qbb (g := gb384) (o := .cells #[.int .i64 t380, .int .i64 t381, .bool t382] 37 (0, 0)) (by (with_reducible repeat (first | refine qbn ?_ _ | refine qbd ?_ | refine qba ?_ _)); exact BK384.out) hb)
   have n6_ := qA (qbb (g := gb401) (o := .cells #[.int .i64 0, .int .i64 0, .bool false] 37 (0, 0)) (by (with_reducible repeat (first | refine qbn ?_ _ | refine qbd ?_ | refine qba ?_ _)); exact BK401.out) hb)
   have n7_ := qA (qst (by repeat (first | (with_reducible first | exact HB.out | apply qla | apply qln | apply qld | refine qse ?_ GE365.out | refine qse ?_ GE384.out | refine qse ?_ GE401.out) | exact HB.out)) hb)
   clear HO372
   clear HO379
   clear BK365
   clear BK384
   clear BK401
   clear HB
   have HO372 := n0_
   have HO379 := n1_
   have HO389 := n2_
   have HO396 := n3_
   have BK365 := n4_
   have BK384 := n5_
   have BK401 := n6_
   have HB := n7_
   clear n0_ n1_ n2_ n3_ n4_ n5_ n6_ n7_
   obtain ⟨Ao32, co32, eo32⟩ := Kd.R_slice HO389.out
   (first | subst eo32 | (injection eo32 with f1_ f2_ f3_; have f4_ := f1_.symm; have f5_ := f3_.symm; clear f1_ f2_ f3_; subst f4_; subst f5_))
   obtain ⟨Ao33, co33, eo33⟩ := Kd.R_slice HO396.out
   (first | subst eo33 | (injection eo33 with f1_ f2_ f3_; have f4_ := f1_.symm; have f5_ := f3_.symm; clear f1_ f2_ f3_; subst f4_; subst f5_))
   refine hK.out _ _ ⟨(qbc BK365.out 0).trans rfl, (qbc BK365.out 1).trans rfl, (qbc BK365.out 2).trans rfl⟩ (fun hHeld => ?_)
   clear hK K
   refine norm_ (a' := ?_) ?_ ?_
   rotate_left
   ·show Act.put _ (some 36) _ = _
    simp only [Act.put, qs1, qs2, qs3, i64_w, i32_w]
    rfl
   refine one_ (i := 5) (N := some 39) #[qT,qT,qT,qT,qT,qT,qF,qF,qF,qT,qF,qF] rfl rfl (one_of HT_.out (by kernel_rfl)) (by decide) (fun K hK => ?_)
   refine goes_ Try.func22 (by kernel_rfl) rfl #[.agg #[.int .i64 t385, .int .i64 t386, .slice Ao32 t387.length co32, .int .i64 t390, .int .i64 t391, .int .i64 t392, .int .i64 t393, .slice Ao33 t394.length co33], .agg #[.int .i64 a2_0, .int .i64 a2_1, .bool a2_2], .int .i64 a3] (by rfl) rfl rfl (by (try simp only [List.map_toArray, List.map_cons, List.map_nil]); first | done | rfl | (simp only [List.length_drop, List.length_take]; rfl)) ?_
   with_reducible refine (pid_Next.calls k t385 t386 _ _ t387 t390 t391 t392 t393 _ _ t394 a2_0 a2_1 a2_2 a3 t397 t398 t399 t400 _ ?side1 ?side2 ?side3 ?side4 A10.out).mono ?_
   (case side1 => repeat (first | exact (Kd.R_reads' HO389.out).2.2 | (with_reducible refine Kd.C_alloc ?_ _) | (with_reducible refine Kd.C_drewN ?_ _) | (with_reducible refine Kd.C_drew ?_)))
   (case side2 => exact (Kd.R_reads' HO389.out).2.1)
   (case side3 => repeat (first | exact (Kd.R_reads' HO396.out).2.2 | (with_reducible refine Kd.C_alloc ?_ _) | (with_reducible refine Kd.C_drewN ?_ _) | (with_reducible refine Kd.C_drew ?_)))
   (case side4 => exact (Kd.R_reads' HO396.out).2.1)
   rintro e w34 ⟨rfl, hb⟩
   refine ⟨_, rfl, ?_⟩
   replace HO372 := qA (Kd.R_below (by (with_reducible repeat (first | apply qRa | apply qRn | apply qRd)); exact HO372.out) hb)
   replace HO379 := qA (Kd.R_below (by (with_reducible repeat (first | apply qRa | apply qRn | apply qRd)); exact HO379.out) hb)
   replace HO389 := qA (Kd.R_below (by (with_reducible repeat (first | apply qRa | apply qRn | apply qRd)); exact HO389.out) hb)
   replace HO396 := qA (Kd.R_below (by (with_reducible repeat (first | apply qRa | apply qRn | apply qRd)); exact HO396.out) hb)
   replace BK365 := qA (qbb (g := gb365) (o := .cells #[.int .i64 a2_0, .int .i64 a2_1, .bool a2_2] 37 (0, 0)) (by (with_reducible repeat (first | refine qbn ?_ _ | refine qbd ?_ | refine qba ?_ _)); exact BK365.out) hb)
   replace BK384 := qA (qbb (g := gb384) (o := .cells #[.int .i64 t380, .int .i64 t381, .bool t382] 37 (0, 0)) (by (with_reducible repeat (first | refine qbn ?_ _ | refine qbd ?_ | refine qba ?_ _)); exact BK384.out) hb)
   replace BK401 := qA (qbb (g := gb401) (o := .cells #[.int .i64 0, .int .i64 0, .bool false] 37 (0, 0)) (by (with_reducible repeat (first | refine qbn ?_ _ | refine qbd ?_ | refine qba ?_ _)); exact BK401.out) hb)
   replace HB := qA (qst (by repeat (first | (with_reducible first | exact HB.out | apply qla | apply qln | apply qld | refine qse ?_ GE365.out | refine qse ?_ GE384.out | refine qse ?_ GE401.out) | exact HB.out)) hb)
   refine hK.out _ _ ⟨(qbc BK365.out 0).trans rfl, (qbc BK365.out 1).trans rfl, (qbc BK365.out 2).trans rfl⟩ (fun hHeld => ?_)
   clear hK K
   refine norm_ (a' := ?_) ?_ ?_
   rotate_left
   ·show Act.put _ (some 39) _ = _
    simp only [Act.put, qs1, qs2, qs3, i64_w, i32_w]
    rfl
   refine pure_ (i := 6) (N := some 33) (v := ?_) (a' := ?_) #[qT,qT,qT,qT,qT,qT,qT,qF,qF,qT,qF,qF] rfl rfl (any_of HT_.out (by kernel_rfl)) (fun _ _ _ h => h) (Or.inl ⟨by rfl, ?_⟩) ?_ ?_
   rotate_left
   ·intro w'
    go_simp
    with_reducible rfl
   rotate_left
   ·simp only [Act.put, qs1, qs2, qs3, i64_w, i32_w]
    rfl
   refine pure_ (i := 7) (N := some 40) (v := ?_) (a' := ?_) #[qT,qT,qT,qT,qT,qT,qT,qT,qF,qT,qF,qF] rfl rfl (any_of HT_.out (by kernel_rfl)) (fun _ _ _ h => h) (Or.inl ⟨by rfl, ?_⟩) ?_ ?_
   rotate_left
   ·intro w'
    go_simp
    with_reducible rfl
   rotate_left
   ·simp only [Act.put, qs1, qs2, qs3, i64_w, i32_w]
    rfl
   refine pure_ (i := 8) (N := some 41) (v := ?_) (a' := ?_) #[qT,qT,qT,qT,qT,qT,qT,qT,qT,qT,qF,qF] rfl rfl (any_of HT_.out (by kernel_rfl)) (fun _ _ _ h => h) (Or.inl ⟨by rfl, ?_⟩) ?_ ?_
   rotate_left
   ·intro w'
    go_simp
    with_reducible rfl
   rotate_left
   ·simp only [Act.put, qs1, qs2, qs3, i64_w, i32_w]
    rfl
   exact norm_ (by simp only [putAll, Act.put, qs1, qs2, qs3]) (hCont (.slice Ao32 t387.length co32, .slice Ao33 t394.length co33, gb401) _ ⟨hHeld, (by (with_reducible repeat (first | apply qRa | apply qRn | apply qRd)); exact Kd.R_mono HO372.out (fun _ hk => hk.2)), (by (with_reducible repeat (first | apply qRa | apply qRn | apply qRd)); exact Kd.R_mono HO379.out (fun _ hk => hk.2)), (by (with_reducible repeat (first | apply qRa | apply qRn | apply qRd)); exact Kd.R_mono HO389.out (fun _ hk => hk.2)), (by (with_reducible repeat (first | apply qRa | apply qRn | apply qRd)); exact Kd.R_mono HO396.out (fun _ hk => hk.2)), (by (with_reducible repeat (first | refine qbn ?_ _ | refine qbd ?_ | refine qba ?_ _)); exact BK365.out), (by (with_reducible repeat (first | refine qbn ?_ _ | refine qbd ?_ | refine qba ?_ _)); exact BK384.out), (by (with_reducible repeat (first | refine qbn ?_ _ | refine qbd ?_ | refine qba ?_ _)); exact BK401.out), GW401.out, GE401.out, NB365_401.out, NB401_365.out, NB384_401.out, NB401_384.out, (by repeat (first | (with_reducible first | exact HB.out | apply qla | apply qln | apply qld | refine qse ?_ GE365.out | refine qse ?_ GE384.out | refine qse ?_ GE401.out) | exact HB.out))⟩)
 rintro ⟨v388, v395, gb401⟩ w35 ⟨hS_, h0_, h1_, h2_, h3_, h4_, h5_, h6_, h7_, h8_, h9_, h10_, h11_, h12_, h13_⟩
 replace HO372 : Aside0 (Kd.R k29 29 w35 w.heap.size (fun k_ => some k_ ≠ (v388 : Value).ownBlock) v371 t370) := ⟨h0_⟩
 replace HO379 : Aside0 (Kd.R k71 71 w35 w.heap.size (fun k_ => some k_ ≠ (v395 : Value).ownBlock) v378 t377) := ⟨h1_⟩
 have HO389 : Aside0 (Kd.R k29 29 w35 w.heap.size (fun k_ => some k_ ≠ (v371 : Value).ownBlock) v388 t387) := ⟨h2_⟩
 have HO396 : Aside0 (Kd.R k71 71 w35 w.heap.size (fun k_ => some k_ ≠ (v378 : Value).ownBlock) v395 t394) := ⟨h3_⟩
 replace BK365 : Aside0 (w35.heap[gb365]? = some (.cells #[.int .i64 a2_0, .int .i64 a2_1, .bool a2_2] 37 (0, 0))) := ⟨h4_⟩
 replace BK384 : Aside0 (w35.heap[gb384]? = some (.cells #[.int .i64 t380, .int .i64 t381, .bool t382] 37 (0, 0))) := ⟨h5_⟩
 have BK401 : Aside0 (w35.heap[gb401]? = some (.cells #[.int .i64 0, .int .i64 0, .bool false] 37 (0, 0))) := ⟨h6_⟩
 have GW401 : Aside0 (w.heap.size ≤ gb401) := ⟨h7_⟩
 have GE401 : Aside0 (w.heap.size ≤ gb401) := ⟨h8_⟩
 have NB365_401 : Aside0 (gb365 ≠ gb401) := ⟨h9_⟩
 have NB401_365 : Aside0 (gb401 ≠ gb365) := ⟨h10_⟩
 have NB384_401 : Aside0 (gb384 ≠ gb401) := ⟨h11_⟩
 have NB401_384 : Aside0 (gb401 ≠ gb384) := ⟨h12_⟩
 replace HB : Aside0 (Below w.heap.size w w35) := ⟨h13_⟩
 clear h0_ h1_ h2_ h3_ h4_ h5_ h6_ h7_ h8_ h9_ h10_ h11_ h12_ h13_
 have hHeld : w35.cell? ⟨gb365, 0, none⟩ = some (.int .i64 a2_0) ∧ w35.cell? ⟨gb365, 1, none⟩ = some (.int .i64 a2_1) ∧ w35.cell? ⟨gb365, 2, none⟩ = some (.bool a2_2) := hS_
 refine norm_ (a' := ?_) ?_ ?_
 rotate_left
 ·simp only [putAll, Act.put, qs1, qs2, qs3]
  rfl
 refine one_ (i := 10) (N := none) #[qT,qT,qT,qT,qT,qT,qT,qT,qT,qT,qT,qF] rfl rfl (one_of HT_.out (by kernel_rfl)) (by decide) (fun K hK => ?_)
 have hs36 : w35.cell? ⟨gb401, 0, none⟩ = some (.int .i64 0) := (qbc BK401.out 0).trans rfl
 have hfs36 := blk_frozen BK401.out 0
 have hns36_0 := NB365_401.out
 have hns36_1 := NB384_401.out
 have hms36_0 := NB401_365.out
 have hms36_1 := NB401_384.out
 have hs37 : w35.cell? ⟨gb401, 1, none⟩ = some (.int .i64 0) := (qbc BK401.out 1).trans rfl
 have hfs37 := blk_frozen BK401.out 1
 have hns37_0 := NB365_401.out
 have hns37_1 := NB384_401.out
 have hms37_0 := NB401_365.out
 have hms37_1 := NB401_384.out
 have hs38 : w35.cell? ⟨gb401, 2, none⟩ = some (.bool false) := (qbc BK401.out 2).trans rfl
 have hfs38 := blk_frozen BK401.out 2
 have hns38_0 := NB365_401.out
 have hns38_1 := NB384_401.out
 have hms38_0 := NB401_365.out
 have hms38_1 := NB401_384.out
 refine skip_ (w1 := ?_) (by rfl) rfl ?_ ?_
 rotate_left
 ·go_simp
  rfl
 refine hK.out _ _ ⟨((qcf (p := ⟨gb401, _, none⟩) NB365_401.out _).trans (((qcf (p := ⟨gb401, _, none⟩) NB365_401.out _).trans (((qcf (p := ⟨gb401, _, none⟩) NB365_401.out _).trans (hHeld.1)))))), ((qcf (p := ⟨gb401, _, none⟩) NB365_401.out _).trans (((qcf (p := ⟨gb401, _, none⟩) NB365_401.out _).trans (((qcf (p := ⟨gb401, _, none⟩) NB365_401.out _).trans (hHeld.2.1)))))), ((qcf (p := ⟨gb401, _, none⟩) NB365_401.out _).trans (((qcf (p := ⟨gb401, _, none⟩) NB365_401.out _).trans (((qcf (p := ⟨gb401, _, none⟩) NB365_401.out _).trans (hHeld.2.2))))))⟩ (fun hHeld => ?_)
 clear hK K
 refine pure_ (i := 11) (N := some 14) (v := ?_) (a' := ?_) #[qT,qT,qT,qT,qT,qT,qT,qT,qT,qT,qT,qT] rfl rfl (any_of HT_.out (by kernel_rfl)) (fun _ _ _ h => h) (Or.inl ⟨by rfl, ?_⟩) ?_ ?_
 rotate_left
 ·intro w'
  go_simp
  with_reducible rfl
 rotate_left
 ·simp only [Act.put, qs1, qs2, qs3, i64_w, i32_w]
  rfl
 refine done_ (done_of HT_.out (by kernel_rfl)) ?_
 try go_wp2
 have n0_ : Aside0 (Kd.R k29 29 (((w35.setCell ⟨gb401, 0, none⟩ (.int .i64 t397)).setCell ⟨gb401, 1, none⟩ (.int .i64 t398)).setCell ⟨gb401, 2, none⟩ (.bool t399)) w.heap.size (fun k_ => some k_ ≠ (v388 : Value).ownBlock) v371 t370) := ⟨by (with_reducible repeat (first | apply qRa | apply qRn | apply qRd)); exact Kd.R_mono (Kd.R_far (p := ⟨gb401, 2, none⟩) (Kd.R_far (p := ⟨gb401, 1, none⟩) (Kd.R_far (p := ⟨gb401, 0, none⟩) (Kd.R_types HO372.out BK401.out (by decide)) (fun _ hk => hk.2) (.int .i64 t397)) (fun _ hk => hk.2) (.int .i64 t398)) (fun _ hk => hk.2) (.bool t399)) (fun _ hk => hk.1)⟩
 have n1_ : Aside0 (Kd.R k71 71 (((w35.setCell ⟨gb401, 0, none⟩ (.int .i64 t397)).setCell ⟨gb401, 1, none⟩ (.int .i64 t398)).setCell ⟨gb401, 2, none⟩ (.bool t399)) w.heap.size (fun k_ => some k_ ≠ (v395 : Value).ownBlock) v378 t377) := ⟨by (with_reducible repeat (first | apply qRa | apply qRn | apply qRd)); exact Kd.R_mono (Kd.R_far (p := ⟨gb401, 2, none⟩) (Kd.R_far (p := ⟨gb401, 1, none⟩) (Kd.R_far (p := ⟨gb401, 0, none⟩) (Kd.R_types HO379.out BK401.out (by decide)) (fun _ hk => hk.2) (.int .i64 t397)) (fun _ hk => hk.2) (.int .i64 t398)) (fun _ hk => hk.2) (.bool t399)) (fun _ hk => hk.1)⟩
 have n2_ : Aside0 (Kd.R k29 29 (((w35.setCell ⟨gb401, 0, none⟩ (.int .i64 t397)).setCell ⟨gb401, 1, none⟩ (.int .i64 t398)).setCell ⟨gb401, 2, none⟩ (.bool t399)) w.heap.size (fun k_ => some k_ ≠ (v371 : Value).ownBlock) v388 t387) := ⟨by (with_reducible repeat (first | apply qRa | apply qRn | apply qRd)); exact Kd.R_mono (Kd.R_far (p := ⟨gb401, 2, none⟩) (Kd.R_far (p := ⟨gb401, 1, none⟩) (Kd.R_far (p := ⟨gb401, 0, none⟩) (Kd.R_types HO389.out BK401.out (by decide)) (fun _ hk => hk.2) (.int .i64 t397)) (fun _ hk => hk.2) (.int .i64 t398)) (fun _ hk => hk.2) (.bool t399)) (fun _ hk => hk.1)⟩
 have n3_ : Aside0 (Kd.R k71 71 (((w35.setCell ⟨gb401, 0, none⟩ (.int .i64 t397)).setCell ⟨gb401, 1, none⟩ (.int .i64 t398)).setCell ⟨gb401, 2, none⟩ (.bool t399)) w.heap.size (fun k_ => some k_ ≠ (v378 : Value).ownBlock) v395 t394) := ⟨by (with_reducible repeat (first | apply qRa | apply qRn | apply qRd)); exact Kd.R_mono (Kd.R_far (p := ⟨gb401, 2, none⟩) (Kd.R_far (p := ⟨gb401, 1, none⟩) (Kd.R_far (p := ⟨gb401, 0, none⟩) (Kd.R_types HO396.out BK401.out (by decide)) (fun _ hk => hk.2) (.int .i64 t397)) (fun _ hk => hk.2) (.int .i64 t398)) (fun _ hk => hk.2) (.bool t399)) (fun _ hk => hk.1)⟩
 have n4_ : Aside0 ((((w35.setCell ⟨gb401, 0, none⟩ (.int .i64 t397)).setCell ⟨gb401, 1, none⟩ (.int .i64 t398)).setCell ⟨gb401, 2, none⟩ (.bool t399)).heap[gb365]? = some (.cells #[.int .i64 a2_0, .int .i64 a2_1, .bool a2_2] 37 (0, 0))) := ⟨by (with_reducible repeat (first | refine qbn ?_ _ | refine qbd ?_ | refine qba ?_ _)); refine blk_far ?_ NB365_401.out _; (with_reducible repeat (first | refine qbn ?_ _ | refine qbd ?_ | refine qba ?_ _)); refine blk_far ?_ NB365_401.out _; (with_reducible repeat (first | refine qbn ?_ _ | refine qbd ?_ | refine qba ?_ _)); refine blk_far ?_ NB365_401.out _; (with_reducible repeat (first | refine qbn ?_ _ | refine qbd ?_ | refine qba ?_ _)); exact BK365.out⟩
 have n5_ : Aside0 ((((w35.setCell ⟨gb401, 0, none⟩ (.int .i64 t397)).setCell ⟨gb401, 1, none⟩ (.int .i64 t398)).setCell ⟨gb401, 2, none⟩ (.bool t399)).heap[gb384]? = some (.cells #[.int .i64 t380, .int .i64 t381, .bool t382] 37 (0, 0))) := ⟨by (with_reducible repeat (first | refine qbn ?_ _ | refine qbd ?_ | refine qba ?_ _)); refine blk_far ?_ NB384_401.out _; (with_reducible repeat (first | refine qbn ?_ _ | refine qbd ?_ | refine qba ?_ _)); refine blk_far ?_ NB384_401.out _; (with_reducible repeat (first | refine qbn ?_ _ | refine qbd ?_ | refine qba ?_ _)); refine blk_far ?_ NB384_401.out _; (with_reducible repeat (first | refine qbn ?_ _ | refine qbd ?_ | refine qba ?_ _)); exact BK384.out⟩
 have n6_ : Aside0 ((((w35.setCell ⟨gb401, 0, none⟩ (.int .i64 t397)).setCell ⟨gb401, 1, none⟩ (.int .i64 t398)).setCell ⟨gb401, 2, none⟩ (.bool t399)).heap[gb401]? = some (.cells #[.int .i64 t397, .int .i64 t398, .bool t399] 37 (0, 0))) := ⟨by (with_reducible repeat (first | refine qbn ?_ _ | refine qbd ?_ | refine qba ?_ _)); refine blk_put (cs := #[.int .i64 t397, .int .i64 t398, .bool false]) ?_ 2 _ rfl; (with_reducible repeat (first | refine qbn ?_ _ | refine qbd ?_ | refine qba ?_ _)); refine blk_put (cs := #[.int .i64 t397, .int .i64 0, .bool false]) ?_ 1 _ rfl; (with_reducible repeat (first | refine qbn ?_ _ | refine qbd ?_ | refine qba ?_ _)); refine blk_put (cs := #[.int .i64 0, .int .i64 0, .bool false]) ?_ 0 _ rfl; (with_reducible repeat (first | refine qbn ?_ _ | refine qbd ?_ | refine qba ?_ _)); exact BK401.out⟩
 have n7_ : Aside0 (Below w.heap.size w (((w35.setCell ⟨gb401, 0, none⟩ (.int .i64 t397)).setCell ⟨gb401, 1, none⟩ (.int .i64 t398)).setCell ⟨gb401, 2, none⟩ (.bool t399))) := ⟨by repeat (first | (with_reducible first | exact HB.out | apply qla | apply qln | apply qld | refine qse ?_ GE365.out | refine qse ?_ GE384.out | refine qse ?_ GE401.out) | exact HB.out)⟩
 (try clear HO372)
 (try clear HO379)
 (try clear HO389)
 (try clear HO396)
 (try clear BK365)
 (try clear BK384)
 (try clear BK401)
 (try clear HB)
 generalize (((w35.setCell ⟨gb401, 0, none⟩ (.int .i64 t397)).setCell ⟨gb401, 1, none⟩ (.int .i64 t398)).setCell ⟨gb401, 2, none⟩ (.bool t399)) = w39 at n0_ n1_ n2_ n3_ n4_ n5_ n6_ n7_ ⊢
 have HO372 := n0_
 have HO379 := n1_
 have HO389 := n2_
 have HO396 := n3_
 have BK365 := n4_
 have BK384 := n5_
 have BK401 := n6_
 have HB := n7_
 clear n0_ n1_ n2_ n3_ n4_ n5_ n6_ n7_
 replace HO372 := qA (qRd HO372.out)
 replace HO379 := qA (qRd HO379.out)
 replace HO389 := qA (qRd HO389.out)
 replace HO396 := qA (qRd HO396.out)
 replace BK365 := qA (qbd BK365.out)
 replace BK384 := qA (qbd BK384.out)
 replace BK401 := qA (qbd BK401.out)
 replace HB := qA (qld HB.out)
 refine start_ (n := 12) (S := fun w' => w'.cell? ⟨gb365, 0, none⟩ = some (.int .i64 a2_0) ∧ w'.cell? ⟨gb365, 1, none⟩ = some (.int .i64 a2_1) ∧ w'.cell? ⟨gb365, 2, none⟩ = some (.bool a2_2)) (ds := []) #[qF,qF,qF,qF,qF,qF,qF,qF,qF,qF,qF,qF] (by kernel_rfl) rfl rfl ⟨(qbc BK365.out 0).trans rfl, (qbc BK365.out 1).trans rfl, (qbc BK365.out 2).trans rfl⟩ (fun hHeld => ?_); refine with_tabW governorlaw12_PidParts.tab5 governorlaw12_PidParts.bits5 (fun HT_ HW_ => ?_)
 generalize w39.drew = w40 at HO372 HO379 HO389 HO396 BK365 BK384 BK401 HB hHeld ⊢
 refine pure_ (i := 0) (N := some 43) (v := ?_) (a' := ?_) #[qT,qF,qF,qF,qF,qF,qF,qF,qF,qF,qF,qF] rfl rfl (any_of HT_.out (by kernel_rfl)) (fun _ _ _ h => h) (Or.inl ⟨by rfl, ?_⟩) ?_ ?_
 rotate_left
 ·intro w'
  go_simp
  with_reducible rfl
 rotate_left
 ·simp only [Act.put, qs1, qs2, qs3, i64_w, i32_w]
  rfl
 refine pure_ (i := 1) (N := some 44) (v := ?_) (a' := ?_) #[qT,qT,qF,qF,qF,qF,qF,qF,qF,qF,qF,qF] rfl rfl (any_of HT_.out (by kernel_rfl)) (fun _ _ _ h => h) (Or.inl ⟨by rfl, ?_⟩) ?_ ?_
 rotate_left
 ·intro w'
  go_simp
  with_reducible rfl
 rotate_left
 ·simp only [Act.put, qs1, qs2, qs3, i64_w, i32_w]
  rfl
 refine pure_ (i := 4) (N := some 47) (v := ?_) (a' := ?_) #[qT,qT,qF,qF,qT,qF,qF,qF,qF,qF,qF,qF] rfl rfl (any_of HT_.out (by kernel_rfl)) (fun _ _ _ h => h) (Or.inl ⟨by rfl, ?_⟩) ?_ ?_
 rotate_left
 ·intro w'
  go_simp
  with_reducible rfl
 rotate_left
 ·simp only [Act.put, qs1, qs2, qs3, i64_w, i32_w]
  rfl
 refine take_ (i := 3) (N := some 46) (v := ?_) (a' := ?_) #[qT,qT,qF,qT,qT,qF,qF,qF,qF,qF,qF,qF] rfl rfl (take_ofW HT_.out HW_.out (by kernel_rfl)) (fun _ _ _ h => h) (Or.inl ⟨by rfl, ?_⟩) hHeld ?_ ?_
 rotate_left
 ·rintro w' ⟨s0, s1, s2⟩
  go_simp
  with_reducible rfl
 rotate_left
 ·simp only [Act.put, qs1, qs2, qs3, i64_w, i32_w]
  rfl
 refine join_ (σ := Value × Value × Nat) 2 #[qT,qT,qT,qT,qT,qT,qT,qT,qT,qT,qF,qF] (fun s_ => [(45, .agg #[.int .i64 t402, .int .i64 t403, s_.1, .int .i64 t407, .int .i64 t408, .int .i64 t409, .int .i64 t410, s_.2.1]), (48, .tuple #[.agg #[.int .i64 t414, .int .i64 t415, .bool t416], .int .i64 t417]), (15, .pointer (some ⟨s_.2.2, 0, none⟩)), (42, .tuple #[.agg #[.int .i64 t414, .int .i64 t415, .bool t416], .int .i64 t417]), (49, .agg #[.int .i64 t414, .int .i64 t415, .bool t416]), (50, .int .i64 t417)]) (fun s_ w' => (w'.cell? ⟨gb365, 0, none⟩ = some (.int .i64 a2_0) ∧ w'.cell? ⟨gb365, 1, none⟩ = some (.int .i64 a2_1) ∧ w'.cell? ⟨gb365, 2, none⟩ = some (.bool a2_2)) ∧ (Kd.R k29 29 w' w.heap.size (fun k_ => some k_ ≠ (v388 : Value).ownBlock ∧ some k_ ≠ (s_.1 : Value).ownBlock) v371 t370) ∧ (Kd.R k71 71 w' w.heap.size (fun k_ => some k_ ≠ (v395 : Value).ownBlock ∧ some k_ ≠ (s_.2.1 : Value).ownBlock) v378 t377) ∧ (Kd.R k29 29 w' w.heap.size (fun k_ => some k_ ≠ (v371 : Value).ownBlock ∧ some k_ ≠ (s_.1 : Value).ownBlock) v388 t387) ∧ (Kd.R k71 71 w' w.heap.size (fun k_ => some k_ ≠ (v378 : Value).ownBlock ∧ some k_ ≠ (s_.2.1 : Value).ownBlock) v395 t394) ∧ (Kd.R k29 29 w' w.heap.size (fun k_ => some k_ ≠ (v371 : Value).ownBlock ∧ some k_ ≠ (v388 : Value).ownBlock) s_.1 t404) ∧ (Kd.R k71 71 w' w.heap.size (fun k_ => some k_ ≠ (v378 : Value).ownBlock ∧ some k_ ≠ (v395 : Value).ownBlock) s_.2.1 t411) ∧ (w'.heap[gb365]? = some (.cells #[.int .i64 a2_0, .int .i64 a2_1, .bool a2_2] 37 (0, 0))) ∧ (w'.heap[gb384]? = some (.cells #[.int .i64 t380, .int .i64 t381, .bool t382] 37 (0, 0))) ∧ (w'.heap[gb401]? = some (.cells #[.int .i64 t397, .int .i64 t398, .bool t399] 37 (0, 0))) ∧ (w'.heap[s_.2.2]? = some (.cells #[.int .i64 0, .int .i64 0, .bool false] 37 (0, 0))) ∧ (w.heap.size ≤ s_.2.2) ∧ (w.heap.size ≤ s_.2.2) ∧ (gb365 ≠ s_.2.2) ∧ (s_.2.2 ≠ gb365) ∧ (gb384 ≠ s_.2.2) ∧ (s_.2.2 ≠ gb384) ∧ (gb401 ≠ s_.2.2) ∧ (s_.2.2 ≠ gb401) ∧ (Below w.heap.size w w')) ?_ ?_
 rotate_left
 ·intro hCont
  refine two_ (i := 2) (j := 9) (Ni := some 45) (Nj := some 15) #[qT,qT,qT,qT,qT,qF,qF,qF,qF,qF,qF,qF] #[qT,qT,qF,qT,qT,qF,qF,qF,qF,qT,qF,qF] rfl rfl rfl rfl (two_of HT_.out (by kernel_rfl)) (by decide) (by decide) (fun K hK => ?_) (fun K hK => ?_)
  ·skip
   refine goes_ Try.func23 (by kernel_rfl) rfl #[.int .i64 a0, .int .i64 0, .int .i64 0, .int .i64 a1] (by rfl) rfl rfl (by (try simp only [List.map_toArray, List.map_cons, List.map_nil]); first | done | rfl | (simp only [List.length_drop, List.length_take]; rfl)) ?_
   with_reducible refine (governorlaw12_Of.calls a0 0 0 a1 t402 t403 t404 t407 t408 t409 t410 t411 _ A11.out).mono ?_
   rintro e w41 ⟨v405, v412, rfl, ho0, ho1, hb⟩
   refine ⟨_, rfl, ?_⟩
   have n0_ := qA (Kd.R_elder' (by (with_reducible repeat (first | apply qRa | apply qRn | apply qRd)); exact HO372.out) (Kd.R_base ho0) hb)
   have n1_ := qA (Kd.R_elder' (by (with_reducible repeat (first | apply qRa | apply qRn | apply qRd)); exact HO379.out) (Kd.R_base ho1) hb)
   have n2_ := qA (Kd.R_elder' (by (with_reducible repeat (first | apply qRa | apply qRn | apply qRd)); exact HO389.out) (Kd.R_base ho0) hb)
   have n3_ := qA (Kd.R_elder' (by (with_reducible repeat (first | apply qRa | apply qRn | apply qRd)); exact HO396.out) (Kd.R_base ho1) hb)
   have n4_ := qA (Kd.R_lower (Kd.R_new' (Kd.R_new' ho0 (Kd.R_lt (by (with_reducible repeat (first | apply qRa | apply qRn | apply qRd)); exact HO372.out))) (Kd.R_lt (by (with_reducible repeat (first | apply qRa | apply qRn | apply qRd)); exact HO389.out))) (qsz (by repeat (first | (with_reducible first | exact HB.out | apply qla | apply qln | apply qld | refine qse ?_ GE365.out | refine qse ?_ GE384.out | refine qse ?_ GE401.out) | exact HB.out))))
   have n5_ := qA (Kd.R_lower (Kd.R_new' (Kd.R_new' ho1 (Kd.R_lt (by (with_reducible repeat (first | apply qRa | apply qRn | apply qRd)); exact HO379.out))) (Kd.R_lt (by (with_reducible repeat (first | apply qRa | apply qRn | apply qRd)); exact HO396.out))) (qsz (by repeat (first | (with_reducible first | exact HB.out | apply qla | apply qln | apply qld | refine qse ?_ GE365.out | refine qse ?_ GE384.out | refine qse ?_ GE401.out) | exact HB.out))))
   have n6_ := qA (qbb (g := gb365) (o := .cells #[.int .i64 a2_0, .int .i64 a2_1, .bool a2_2] 37 (0, 0)) (by (with_reducible repeat (first | refine qbn ?_ _ | refine qbd ?_ | refine qba ?_ _)); exact BK365.out) hb)
   have n7_ := qA (qbb (g := gb384) (o := .cells #[.int .i64 t380, .int .i64 t381, .bool t382] 37 (0, 0)) (by (with_reducible repeat (first | refine qbn ?_ _ | refine qbd ?_ | refine qba ?_ _)); exact BK384.out) hb)
   have n8_ := qA (qbb (g := gb401) (o := .cells #[.int .i64 t397, .int .i64 t398, .bool t399] 37 (0, 0)) (by (with_reducible repeat (first | refine qbn ?_ _ | refine qbd ?_ | refine qba ?_ _)); exact BK401.out) hb)
   have n9_ := qA (qst (by repeat (first | (with_reducible first | exact HB.out | apply qla | apply qln | apply qld | refine qse ?_ GE365.out | refine qse ?_ GE384.out | refine qse ?_ GE401.out) | exact HB.out)) hb)
   clear HO372
   clear HO379
   clear HO389
   clear HO396
   clear BK365
   clear BK384
   clear BK401
   clear HB
   have HO372 := n0_
   have HO379 := n1_
   have HO389 := n2_
   have HO396 := n3_
   have HO406 := n4_
   have HO413 := n5_
   have BK365 := n6_
   have BK384 := n7_
   have BK401 := n8_
   have HB := n9_
   clear n0_ n1_ n2_ n3_ n4_ n5_ n6_ n7_ n8_ n9_
   obtain ⟨Ao42, co42, eo42⟩ := Kd.R_slice HO406.out
   (first | subst eo42 | (injection eo42 with f1_ f2_ f3_; have f4_ := f1_.symm; have f5_ := f3_.symm; clear f1_ f2_ f3_; subst f4_; subst f5_))
   obtain ⟨Ao43, co43, eo43⟩ := Kd.R_slice HO413.out
   (first | subst eo43 | (injection eo43 with f1_ f2_ f3_; have f4_ := f1_.symm; have f5_ := f3_.symm; clear f1_ f2_ f3_; subst f4_; subst f5_))
   refine hK.out _ _ ⟨(qbc BK365.out 0).trans rfl, (qbc BK365.out 1).trans rfl, (qbc BK365.out 2).trans rfl⟩ (fun hHeld => ?_)
   clear hK K
   refine norm_ (a' := ?_) ?_ ?_
   rotate_left
   ·show Act.put _ (some 45) _ = _
    simp only [Act.put, qs1, qs2, qs3, i64_w, i32_w]
    rfl
   refine two_ (i := 5) (j := 9) (Ni := some 48) (Nj := some 15) #[qT,qT,qT,qT,qT,qT,qF,qF,qF,qF,qF,qF] #[qT,qT,qT,qT,qT,qF,qF,qF,qF,qT,qF,qF] rfl rfl rfl rfl (two_of HT_.out (by kernel_rfl)) (by decide) (by decide) (fun K hK => ?_) (fun K hK => ?_)
   ·skip
    refine goes_ Try.func22 (by kernel_rfl) rfl #[.agg #[.int .i64 t402, .int .i64 t403, .slice Ao42 t404.length co42, .int .i64 t407, .int .i64 t408, .int .i64 t409, .int .i64 t410, .slice Ao43 t411.length co43], .agg #[.int .i64 a2_0, .int .i64 a2_1, .bool a2_2], .int .i64 a3] (by rfl) rfl rfl (by (try simp only [List.map_toArray, List.map_cons, List.map_nil]); first | done | rfl | (simp only [List.length_drop, List.length_take]; rfl)) ?_
    with_reducible refine (pid_Next.calls k t402 t403 _ _ t404 t407 t408 t409 t410 _ _ t411 a2_0 a2_1 a2_2 a3 t414 t415 t416 t417 _ ?side1 ?side2 ?side3 ?side4 A12.out).mono ?_
    (case side1 => repeat (first | exact (Kd.R_reads' HO406.out).2.2 | (with_reducible refine Kd.C_alloc ?_ _) | (with_reducible refine Kd.C_drewN ?_ _) | (with_reducible refine Kd.C_drew ?_)))
    (case side2 => exact (Kd.R_reads' HO406.out).2.1)
    (case side3 => repeat (first | exact (Kd.R_reads' HO413.out).2.2 | (with_reducible refine Kd.C_alloc ?_ _) | (with_reducible refine Kd.C_drewN ?_ _) | (with_reducible refine Kd.C_drew ?_)))
    (case side4 => exact (Kd.R_reads' HO413.out).2.1)
    rintro e w44 ⟨rfl, hb⟩
    refine ⟨_, rfl, ?_⟩
    replace HO372 := qA (Kd.R_below (by (with_reducible repeat (first | apply qRa | apply qRn | apply qRd)); exact HO372.out) hb)
    replace HO379 := qA (Kd.R_below (by (with_reducible repeat (first | apply qRa | apply qRn | apply qRd)); exact HO379.out) hb)
    replace HO389 := qA (Kd.R_below (by (with_reducible repeat (first | apply qRa | apply qRn | apply qRd)); exact HO389.out) hb)
    replace HO396 := qA (Kd.R_below (by (with_reducible repeat (first | apply qRa | apply qRn | apply qRd)); exact HO396.out) hb)
    replace HO406 := qA (Kd.R_below (by (with_reducible repeat (first | apply qRa | apply qRn | apply qRd)); exact HO406.out) hb)
    replace HO413 := qA (Kd.R_below (by (with_reducible repeat (first | apply qRa | apply qRn | apply qRd)); exact HO413.out) hb)
    replace BK365 := qA (qbb (g := gb365) (o := .cells #[.int .i64 a2_0, .int .i64 a2_1, .bool a2_2] 37 (0, 0)) (by (with_reducible repeat (first | refine qbn ?_ _ | refine qbd ?_ | refine qba ?_ _)); exact BK365.out) hb)
    replace BK384 := qA (qbb (g := gb384) (o := .cells #[.int .i64 t380, .int .i64 t381, .bool t382] 37 (0, 0)) (by (with_reducible repeat (first | refine qbn ?_ _ | refine qbd ?_ | refine qba ?_ _)); exact BK384.out) hb)
    replace BK401 := qA (qbb (g := gb401) (o := .cells #[.int .i64 t397, .int .i64 t398, .bool t399] 37 (0, 0)) (by (with_reducible repeat (first | refine qbn ?_ _ | refine qbd ?_ | refine qba ?_ _)); exact BK401.out) hb)
    replace HB := qA (qst (by repeat (first | (with_reducible first | exact HB.out | apply qla | apply qln | apply qld | refine qse ?_ GE365.out | refine qse ?_ GE384.out | refine qse ?_ GE401.out) | exact HB.out)) hb)
    refine hK.out _ _ ⟨(qbc BK365.out 0).trans rfl, (qbc BK365.out 1).trans rfl, (qbc BK365.out 2).trans rfl⟩ (fun hHeld => ?_)
    clear hK K
    refine norm_ (a' := ?_) ?_ ?_
    rotate_left
    ·show Act.put _ (some 48) _ = _
     simp only [Act.put, qs1, qs2, qs3, i64_w, i32_w]
     rfl
    refine pure_ (i := 6) (N := some 42) (v := ?_) (a' := ?_) #[qT,qT,qT,qT,qT,qT,qT,qF,qF,qF,qF,qF] rfl rfl (any_of HT_.out (by kernel_rfl)) (fun _ _ _ h => h) (Or.inl ⟨by rfl, ?_⟩) ?_ ?_
    rotate_left
    ·intro w'
     go_simp
     with_reducible rfl
    rotate_left
    ·simp only [Act.put, qs1, qs2, qs3, i64_w, i32_w]
     rfl
    refine pure_ (i := 7) (N := some 49) (v := ?_) (a' := ?_) #[qT,qT,qT,qT,qT,qT,qT,qT,qF,qF,qF,qF] rfl rfl (any_of HT_.out (by kernel_rfl)) (fun _ _ _ h => h) (Or.inl ⟨by rfl, ?_⟩) ?_ ?_
    rotate_left
    ·intro w'
     go_simp
     with_reducible rfl
    rotate_left
    ·simp only [Act.put, qs1, qs2, qs3, i64_w, i32_w]
     rfl
    refine pure_ (i := 8) (N := some 50) (v := ?_) (a' := ?_) #[qT,qT,qT,qT,qT,qT,qT,qT,qT,qF,qF,qF] rfl rfl (any_of HT_.out (by kernel_rfl)) (fun _ _ _ h => h) (Or.inl ⟨by rfl, ?_⟩) ?_ ?_
    rotate_left
    ·intro w'
     go_simp
     with_reducible rfl
    rotate_left
    ·simp only [Act.put, qs1, qs2, qs3, i64_w, i32_w]
     rfl
    refine one_ (i := 9) (N := some 15) #[qT,qT,qT,qT,qT,qT,qT,qT,qT,qT,qF,qF] rfl rfl (one_of HT_.out (by kernel_rfl)) (by decide) (fun K hK => ?_)
    refine box_step ?hg (N := 15) ?hd (cs := #[.int .i64 0, .int .i64 0, .bool false]) (t := 37) ?hr ?_; (case hd => rfl); (case hg => rfl); (case hr => first | (go_simp; done) | (go_simp; rfl))
    intro gb418 hg w45 hbox hb
    have n0_ := qA (Kd.R_below (by (with_reducible repeat (first | apply qRa | apply qRn | apply qRd)); exact HO372.out) hb)
    have n1_ := qA (Kd.R_below (by (with_reducible repeat (first | apply qRa | apply qRn | apply qRd)); exact HO379.out) hb)
    have n2_ := qA (Kd.R_below (by (with_reducible repeat (first | apply qRa | apply qRn | apply qRd)); exact HO389.out) hb)
    have n3_ := qA (Kd.R_below (by (with_reducible repeat (first | apply qRa | apply qRn | apply qRd)); exact HO396.out) hb)
    have n4_ := qA (Kd.R_below (by (with_reducible repeat (first | apply qRa | apply qRn | apply qRd)); exact HO406.out) hb)
    have n5_ := qA (Kd.R_below (by (with_reducible repeat (first | apply qRa | apply qRn | apply qRd)); exact HO413.out) hb)
    have n6_ := qA (qbb (g := gb365) (o := .cells #[.int .i64 a2_0, .int .i64 a2_1, .bool a2_2] 37 (0, 0)) (by (with_reducible repeat (first | refine qbn ?_ _ | refine qbd ?_ | refine qba ?_ _)); exact BK365.out) hb)
    have n7_ := qA (qbb (g := gb384) (o := .cells #[.int .i64 t380, .int .i64 t381, .bool t382] 37 (0, 0)) (by (with_reducible repeat (first | refine qbn ?_ _ | refine qbd ?_ | refine qba ?_ _)); exact BK384.out) hb)
    have n8_ := qA (qbb (g := gb401) (o := .cells #[.int .i64 t397, .int .i64 t398, .bool t399] 37 (0, 0)) (by (with_reducible repeat (first | refine qbn ?_ _ | refine qbd ?_ | refine qba ?_ _)); exact BK401.out) hb)
    have n9_ := qA (qst (by repeat (first | (with_reducible first | exact HB.out | apply qla | apply qln | apply qld | refine qse ?_ GE365.out | refine qse ?_ GE384.out | refine qse ?_ GE401.out) | exact HB.out)) hb)
    have n10_ := qA (hbox)
    have n11_ := qA ((by rw [hg]; exact (qsz (by repeat (first | (with_reducible first | exact HB.out | apply qla | apply qln | apply qld | refine qse ?_ GE365.out | refine qse ?_ GE384.out | refine qse ?_ GE401.out) | exact HB.out))) : w.heap.size ≤ gb418))
    have n12_ := qA ((by rw [hg]; exact (qsz (by repeat (first | (with_reducible first | exact HB.out | apply qla | apply qln | apply qld | refine qse ?_ GE365.out | refine qse ?_ GE384.out | refine qse ?_ GE401.out) | exact HB.out))) : w.heap.size ≤ gb418))
    have n13_ := qA ((by rw [hg]; exact Nat.ne_of_lt (blk_lt (g := gb365) (o := .cells #[.int .i64 a2_0, .int .i64 a2_1, .bool a2_2] 37 (0, 0)) (by (with_reducible repeat (first | refine qbn ?_ _ | refine qbd ?_ | refine qba ?_ _)); exact BK365.out)) : gb365 ≠ gb418))
    have n14_ := qA ((by rw [hg]; exact Nat.ne_of_gt (blk_lt (g := gb365) (o := .cells #[.int .i64 a2_0, .int .i64 a2_1, .bool a2_2] 37 (0, 0)) (by (with_reducible repeat (first | refine qbn ?_ _ | refine qbd ?_ | refine qba ?_ _)); exact BK365.out)) : gb418 ≠ gb365))
    have n15_ := qA ((by rw [hg]; exact Nat.ne_of_lt (blk_lt (g := gb384) (o := .cells #[.int .i64 t380, .int .i64 t381, .bool t382] 37 (0, 0)) (by (with_reducible repeat (first | refine qbn ?_ _ | refine qbd ?_ | refine qba ?_ _)); exact BK384.out)) : gb384 ≠ gb418))
    have n16_ := qA ((by rw [hg]; exact Nat.ne_of_gt (blk_lt (g := gb384) (o := .cells #[.int .i64 t380, .int .i64 t381, .bool t382] 37 (0, 0)) (by (with_reducible repeat (first | refine qbn ?_ _ | refine qbd ?_ | refine qba ?_ _)); exact BK384.out)) : gb418 ≠ gb384))
    have n17_ := qA ((by rw [hg]; exact Nat.ne_of_lt (blk_lt (g := gb401) (o := .cells #[.int .i64 t397, .int .i64 t398, .bool t399] 37 (0, 0)) (by (with_reducible repeat (first | refine qbn ?_ _ | refine qbd ?_ | refine qba ?_ _)); exact BK401.out)) : gb401 ≠ gb418))
    have n18_ := qA ((by rw [hg]; exact Nat.ne_of_gt (blk_lt (g := gb401) (o := .cells #[.int .i64 t397, .int .i64 t398, .bool t399] 37 (0, 0)) (by (with_reducible repeat (first | refine qbn ?_ _ | refine qbd ?_ | refine qba ?_ _)); exact BK401.out)) : gb418 ≠ gb401))
    clear HO372
    clear HO379
    clear HO389
    clear HO396
    clear HO406
    clear HO413
    clear BK365
    clear BK384
    clear BK401
    clear HB
    have HO372 := n0_
    have HO379 := n1_
    have HO389 := n2_
    have HO396 := n3_
    have HO406 := n4_
    have HO413 := n5_
    have BK365 := n6_
    have BK384 := n7_
    have BK401 := n8_
    have HB := n9_
    have BK418 := n10_
    have GW418 := n11_
    have GE418 := n12_
    have NB365_418 := n13_
    have NB418_365 := n14_
    have NB384_418 := n15_
    have NB418_384 := n16_
    have NB401_418 := n17_
    have NB418_401 := n18_
    clear n0_ n1_ n2_ n3_ n4_ n5_ n6_ n7_ n8_ n9_ n10_ n11_ n12_ n13_ n14_ n15_ n16_ n17_ n18_
    clear hb hbox hg
    refine hK.out _ _ ⟨(qbc BK365.out 0).trans rfl, (qbc BK365.out 1).trans rfl, (qbc BK365.out 2).trans rfl⟩ (fun hHeld => ?_)
    clear hK K
    refine norm_ (a' := ?_) ?_ ?_
    rotate_left
    ·show Act.put _ (some 15) _ = _
     simp only [Act.put, qs1, qs2, qs3, i64_w, i32_w]
     rfl
    exact norm_ (by simp only [putAll, Act.put, qs1, qs2, qs3]) (hCont (.slice Ao42 t404.length co42, .slice Ao43 t411.length co43, gb418) _ ⟨hHeld, (by (with_reducible repeat (first | apply qRa | apply qRn | apply qRd)); exact HO372.out), (by (with_reducible repeat (first | apply qRa | apply qRn | apply qRd)); exact HO379.out), (by (with_reducible repeat (first | apply qRa | apply qRn | apply qRd)); exact HO389.out), (by (with_reducible repeat (first | apply qRa | apply qRn | apply qRd)); exact HO396.out), (by (with_reducible repeat (first | apply qRa | apply qRn | apply qRd)); exact Kd.R_mono HO406.out (fun _ hk => ⟨hk.1.2, hk.2⟩)), (by (with_reducible repeat (first | apply qRa | apply qRn | apply qRd)); exact Kd.R_mono HO413.out (fun _ hk => ⟨hk.1.2, hk.2⟩)), (by (with_reducible repeat (first | refine qbn ?_ _ | refine qbd ?_ | refine qba ?_ _)); exact BK365.out), (by (with_reducible repeat (first | refine qbn ?_ _ | refine qbd ?_ | refine qba ?_ _)); exact BK384.out), (by (with_reducible repeat (first | refine qbn ?_ _ | refine qbd ?_ | refine qba ?_ _)); exact BK401.out), (by (with_reducible repeat (first | refine qbn ?_ _ | refine qbd ?_ | refine qba ?_ _)); exact BK418.out), GW418.out, GE418.out, NB365_418.out, NB418_365.out, NB384_418.out, NB418_384.out, NB401_418.out, NB418_401.out, (by repeat (first | (with_reducible first | exact HB.out | apply qla | apply qln | apply qld | refine qse ?_ GE365.out | refine qse ?_ GE384.out | refine qse ?_ GE401.out | refine qse ?_ GE418.out) | exact HB.out))⟩)
   ·skip
    refine box_step ?hg (N := 15) ?hd (cs := #[.int .i64 0, .int .i64 0, .bool false]) (t := 37) ?hr ?_; (case hd => rfl); (case hg => rfl); (case hr => first | (go_simp; done) | (go_simp; rfl))
    intro gb418 hg w42 hbox hb
    have n0_ := qA (Kd.R_below (by (with_reducible repeat (first | apply qRa | apply qRn | apply qRd)); exact HO372.out) hb)
    have n1_ := qA (Kd.R_below (by (with_reducible repeat (first | apply qRa | apply qRn | apply qRd)); exact HO379.out) hb)
    have n2_ := qA (Kd.R_below (by (with_reducible repeat (first | apply qRa | apply qRn | apply qRd)); exact HO389.out) hb)
    have n3_ := qA (Kd.R_below (by (with_reducible repeat (first | apply qRa | apply qRn | apply qRd)); exact HO396.out) hb)
    have n4_ := qA (Kd.R_below (by (with_reducible repeat (first | apply qRa | apply qRn | apply qRd)); exact HO406.out) hb)
    have n5_ := qA (Kd.R_below (by (with_reducible repeat (first | apply qRa | apply qRn | apply qRd)); exact HO413.out) hb)
    have n6_ := qA (qbb (g := gb365) (o := .cells #[.int .i64 a2_0, .int .i64 a2_1, .bool a2_2] 37 (0, 0)) (by (with_reducible repeat (first | refine qbn ?_ _ | refine qbd ?_ | refine qba ?_ _)); exact BK365.out) hb)
    have n7_ := qA (qbb (g := gb384) (o := .cells #[.int .i64 t380, .int .i64 t381, .bool t382] 37 (0, 0)) (by (with_reducible repeat (first | refine qbn ?_ _ | refine qbd ?_ | refine qba ?_ _)); exact BK384.out) hb)
    have n8_ := qA (qbb (g := gb401) (o := .cells #[.int .i64 t397, .int .i64 t398, .bool t399] 37 (0, 0)) (by (with_reducible repeat (first | refine qbn ?_ _ | refine qbd ?_ | refine qba ?_ _)); exact BK401.out) hb)
    have n9_ := qA (qst (by repeat (first | (with_reducible first | exact HB.out | apply qla | apply qln | apply qld | refine qse ?_ GE365.out | refine qse ?_ GE384.out | refine qse ?_ GE401.out) | exact HB.out)) hb)
    have n10_ := qA (hbox)
    have n11_ := qA ((by rw [hg]; exact (qsz (by repeat (first | (with_reducible first | exact HB.out | apply qla | apply qln | apply qld | refine qse ?_ GE365.out | refine qse ?_ GE384.out | refine qse ?_ GE401.out) | exact HB.out))) : w.heap.size ≤ gb418))
    have n12_ := qA ((by rw [hg]; exact (qsz (by repeat (first | (with_reducible first | exact HB.out | apply qla | apply qln | apply qld | refine qse ?_ GE365.out | refine qse ?_ GE384.out | refine qse ?_ GE401.out) | exact HB.out))) : w.heap.size ≤ gb418))
    have n13_ := qA ((by rw [hg]; exact Nat.ne_of_lt (blk_lt (g := gb365) (o := .cells #[.int .i64 a2_0, .int .i64 a2_1, .bool a2_2] 37 (0, 0)) (by (with_reducible repeat (first | refine qbn ?_ _ | refine qbd ?_ | refine qba ?_ _)); exact BK365.out)) : gb365 ≠ gb418))
    have n14_ := qA ((by rw [hg]; exact Nat.ne_of_gt (blk_lt (g := gb365) (o := .cells #[.int .i64 a2_0, .int .i64 a2_1, .bool a2_2] 37 (0, 0)) (by (with_reducible repeat (first | refine qbn ?_ _ | refine qbd ?_ | refine qba ?_ _)); exact BK365.out)) : gb418 ≠ gb365))
    have n15_ := qA ((by rw [hg]; exact Nat.ne_of_lt (blk_lt (g := gb384) (o := .cells #[.int .i64 t380, .int .i64 t381, .bool t382] 37 (0, 0)) (by (with_reducible repeat (first | refine qbn ?_ _ | refine qbd ?_ | refine qba ?_ _)); exact BK384.out)) : gb384 ≠ gb418))
    have n16_ := qA ((by rw [hg]; exact Nat.ne_of_gt (blk_lt (g := gb384) (o := .cells #[.int .i64 t380, .int .i64 t381, .bool t382] 37 (0, 0)) (by (with_reducible repeat (first | refine qbn ?_ _ | refine qbd ?_ | refine qba ?_ _)); exact BK384.out)) : gb418 ≠ gb384))
    have n17_ := qA ((by rw [hg]; exact Nat.ne_of_lt (blk_lt (g := gb401) (o := .cells #[.int .i64 t397, .int .i64 t398, .bool t399] 37 (0, 0)) (by (with_reducible repeat (first | refine qbn ?_ _ | refine qbd ?_ | refine qba ?_ _)); exact BK401.out)) : gb401 ≠ gb418))
    have n18_ := qA ((by rw [hg]; exact Nat.ne_of_gt (blk_lt (g := gb401) (o := .cells #[.int .i64 t397, .int .i64 t398, .bool t399] 37 (0, 0)) (by (with_reducible repeat (first | refine qbn ?_ _ | refine qbd ?_ | refine qba ?_ _)); exact BK401.out)) : gb418 ≠ gb401))
    clear HO372
    clear HO379
    clear HO389
    clear HO396
    clear HO406
    clear HO413
    clear BK365
    clear BK384
    clear BK401
    clear HB
    have HO372 := n0_
    have HO379 := n1_
    have HO389 := n2_
    have HO396 := n3_
    have HO406 := n4_
    have HO413 := n5_
    have BK365 := n6_
    have BK384 := n7_
    have BK401 := n8_
    have HB := n9_
    have BK418 := n10_
    have GW418 := n11_
    have GE418 := n12_
    have NB365_418 := n13_
    have NB418_365 := n14_
    have NB384_418 := n15_
    have NB418_384 := n16_
    have NB401_418 := n17_
    have NB418_401 := n18_
    clear n0_ n1_ n2_ n3_ n4_ n5_ n6_ n7_ n8_ n9_ n10_ n11_ n12_ n13_ n14_ n15_ n16_ n17_ n18_
    clear hb hbox hg
    obtain ⟨Ao43, co43, eo43⟩ := Kd.R_slice HO406.out
    (first | subst eo43 | (injection eo43 with f1_ f2_ f3_; have f4_ := f1_.symm; have f5_ := f3_.symm; clear f1_ f2_ f3_; subst f4_; subst f5_))
    obtain ⟨Ao44, co44, eo44⟩ := Kd.R_slice HO413.out
    (first | subst eo44 | (injection eo44 with f1_ f2_ f3_; have f4_ := f1_.symm; have f5_ := f3_.symm; clear f1_ f2_ f3_; subst f4_; subst f5_))
    refine hK.out _ _ ⟨(qbc BK365.out 0).trans rfl, (qbc BK365.out 1).trans rfl, (qbc BK365.out 2).trans rfl⟩ (fun hHeld => ?_)
    clear hK K
    refine norm_ (a' := ?_) ?_ ?_
    rotate_left
    ·show Act.put _ (some 15) _ = _
     simp only [Act.put, qs1, qs2, qs3, i64_w, i32_w]
     rfl
    refine one_ (i := 5) (N := some 48) #[qT,qT,qT,qT,qT,qT,qF,qF,qF,qT,qF,qF] rfl rfl (one_of HT_.out (by kernel_rfl)) (by decide) (fun K hK => ?_)
    refine goes_ Try.func22 (by kernel_rfl) rfl #[.agg #[.int .i64 t402, .int .i64 t403, .slice Ao43 t404.length co43, .int .i64 t407, .int .i64 t408, .int .i64 t409, .int .i64 t410, .slice Ao44 t411.length co44], .agg #[.int .i64 a2_0, .int .i64 a2_1, .bool a2_2], .int .i64 a3] (by rfl) rfl rfl (by (try simp only [List.map_toArray, List.map_cons, List.map_nil]); first | done | rfl | (simp only [List.length_drop, List.length_take]; rfl)) ?_
    with_reducible refine (pid_Next.calls k t402 t403 _ _ t404 t407 t408 t409 t410 _ _ t411 a2_0 a2_1 a2_2 a3 t414 t415 t416 t417 _ ?side1 ?side2 ?side3 ?side4 A12.out).mono ?_
    (case side1 => repeat (first | exact (Kd.R_reads' HO406.out).2.2 | (with_reducible refine Kd.C_alloc ?_ _) | (with_reducible refine Kd.C_drewN ?_ _) | (with_reducible refine Kd.C_drew ?_)))
    (case side2 => exact (Kd.R_reads' HO406.out).2.1)
    (case side3 => repeat (first | exact (Kd.R_reads' HO413.out).2.2 | (with_reducible refine Kd.C_alloc ?_ _) | (with_reducible refine Kd.C_drewN ?_ _) | (with_reducible refine Kd.C_drew ?_)))
    (case side4 => exact (Kd.R_reads' HO413.out).2.1)
    rintro e w45 ⟨rfl, hb⟩
    refine ⟨_, rfl, ?_⟩
    replace HO372 := qA (Kd.R_below (by (with_reducible repeat (first | apply qRa | apply qRn | apply qRd)); exact HO372.out) hb)
    replace HO379 := qA (Kd.R_below (by (with_reducible repeat (first | apply qRa | apply qRn | apply qRd)); exact HO379.out) hb)
    replace HO389 := qA (Kd.R_below (by (with_reducible repeat (first | apply qRa | apply qRn | apply qRd)); exact HO389.out) hb)
    replace HO396 := qA (Kd.R_below (by (with_reducible repeat (first | apply qRa | apply qRn | apply qRd)); exact HO396.out) hb)
    replace HO406 := qA (Kd.R_below (by (with_reducible repeat (first | apply qRa | apply qRn | apply qRd)); exact HO406.out) hb)
    replace HO413 := qA (Kd.R_below (by (with_reducible repeat (first | apply qRa | apply qRn | apply qRd)); exact HO413.out) hb)
    replace BK365 := qA (qbb (g := gb365) (o := .cells #[.int .i64 a2_0, .int .i64 a2_1, .bool a2_2] 37 (0, 0)) (by (with_reducible repeat (first | refine qbn ?_ _ | refine qbd ?_ | refine qba ?_ _)); exact BK365.out) hb)
    replace BK384 := qA (qbb (g := gb384) (o := .cells #[.int .i64 t380, .int .i64 t381, .bool t382] 37 (0, 0)) (by (with_reducible repeat (first | refine qbn ?_ _ | refine qbd ?_ | refine qba ?_ _)); exact BK384.out) hb)
    replace BK401 := qA (qbb (g := gb401) (o := .cells #[.int .i64 t397, .int .i64 t398, .bool t399] 37 (0, 0)) (by (with_reducible repeat (first | refine qbn ?_ _ | refine qbd ?_ | refine qba ?_ _)); exact BK401.out) hb)
    replace BK418 := qA (qbb (g := gb418) (o := .cells #[.int .i64 0, .int .i64 0, .bool false] 37 (0, 0)) (by (with_reducible repeat (first | refine qbn ?_ _ | refine qbd ?_ | refine qba ?_ _)); exact BK418.out) hb)
    replace HB := qA (qst (by repeat (first | (with_reducible first | exact HB.out | apply qla | apply qln | apply qld | refine qse ?_ GE365.out | refine qse ?_ GE384.out | refine qse ?_ GE401.out | refine qse ?_ GE418.out) | exact HB.out)) hb)
    refine hK.out _ _ ⟨(qbc BK365.out 0).trans rfl, (qbc BK365.out 1).trans rfl, (qbc BK365.out 2).trans rfl⟩ (fun hHeld => ?_)
    clear hK K
    refine norm_ (a' := ?_) ?_ ?_
    rotate_left
    ·show Act.put _ (some 48) _ = _
     simp only [Act.put, qs1, qs2, qs3, i64_w, i32_w]
     rfl
    refine pure_ (i := 6) (N := some 42) (v := ?_) (a' := ?_) #[qT,qT,qT,qT,qT,qT,qT,qF,qF,qT,qF,qF] rfl rfl (any_of HT_.out (by kernel_rfl)) (fun _ _ _ h => h) (Or.inl ⟨by rfl, ?_⟩) ?_ ?_
    rotate_left
    ·intro w'
     go_simp
     with_reducible rfl
    rotate_left
    ·simp only [Act.put, qs1, qs2, qs3, i64_w, i32_w]
     rfl
    refine pure_ (i := 7) (N := some 49) (v := ?_) (a' := ?_) #[qT,qT,qT,qT,qT,qT,qT,qT,qF,qT,qF,qF] rfl rfl (any_of HT_.out (by kernel_rfl)) (fun _ _ _ h => h) (Or.inl ⟨by rfl, ?_⟩) ?_ ?_
    rotate_left
    ·intro w'
     go_simp
     with_reducible rfl
    rotate_left
    ·simp only [Act.put, qs1, qs2, qs3, i64_w, i32_w]
     rfl
    refine pure_ (i := 8) (N := some 50) (v := ?_) (a' := ?_) #[qT,qT,qT,qT,qT,qT,qT,qT,qT,qT,qF,qF] rfl rfl (any_of HT_.out (by kernel_rfl)) (fun _ _ _ h => h) (Or.inl ⟨by rfl, ?_⟩) ?_ ?_
    rotate_left
    ·intro w'
     go_simp
     with_reducible rfl
    rotate_left
    ·simp only [Act.put, qs1, qs2, qs3, i64_w, i32_w]
     rfl
    exact norm_ (by simp only [putAll, Act.put, qs1, qs2, qs3]) (hCont (.slice Ao43 t404.length co43, .slice Ao44 t411.length co44, gb418) _ ⟨hHeld, (by (with_reducible repeat (first | apply qRa | apply qRn | apply qRd)); exact HO372.out), (by (with_reducible repeat (first | apply qRa | apply qRn | apply qRd)); exact HO379.out), (by (with_reducible repeat (first | apply qRa | apply qRn | apply qRd)); exact HO389.out), (by (with_reducible repeat (first | apply qRa | apply qRn | apply qRd)); exact HO396.out), (by (with_reducible repeat (first | apply qRa | apply qRn | apply qRd)); exact Kd.R_mono HO406.out (fun _ hk => ⟨hk.1.2, hk.2⟩)), (by (with_reducible repeat (first | apply qRa | apply qRn | apply qRd)); exact Kd.R_mono HO413.out (fun _ hk => ⟨hk.1.2, hk.2⟩)), (by (with_reducible repeat (first | refine qbn ?_ _ | refine qbd ?_ | refine qba ?_ _)); exact BK365.out), (by (with_reducible repeat (first | refine qbn ?_ _ | refine qbd ?_ | refine qba ?_ _)); exact BK384.out), (by (with_reducible repeat (first | refine qbn ?_ _ | refine qbd ?_ | refine qba ?_ _)); exact BK401.out), (by (with_reducible repeat (first | refine qbn ?_ _ | refine qbd ?_ | refine qba ?_ _)); exact BK418.out), GW418.out, GE418.out, NB365_418.out, NB418_365.out, NB384_418.out, NB418_384.out, NB401_418.out, NB418_401.out, (by repeat (first | (with_reducible first | exact HB.out | apply qla | apply qln | apply qld | refine qse ?_ GE365.out | refine qse ?_ GE384.out | refine qse ?_ GE401.out | refine qse ?_ GE418.out) | exact HB.out))⟩)
  ·skip
   refine box_step ?hg (N := 15) ?hd (cs := #[.int .i64 0, .int .i64 0, .bool false]) (t := 37) ?hr ?_; (case hd => rfl); (case hg => rfl); (case hr => first | (go_simp; done) | (go_simp; rfl))
   intro gb418 hg w41 hbox hb
   have n0_ := qA (Kd.R_below (by (with_reducible repeat (first | apply qRa | apply qRn | apply qRd)); exact HO372.out) hb)
   have n1_ := qA (Kd.R_below (by (with_reducible repeat (first | apply qRa | apply qRn | apply qRd)); exact HO379.out) hb)
   have n2_ := qA (Kd.R_below (by (with_reducible repeat (first | apply qRa | apply qRn | apply qRd)); exact HO389.out) hb)
   have n3_ := qA (Kd.R_below (by (with_reducible repeat (first | apply qRa | apply qRn | apply qRd)); exact HO396.out) hb)
   have n4_ := qA (qbb (g := gb365) (o := .cells #[.int .i64 a2_0, .int .i64 a2_1, .bool a2_2] 37 (0, 0)) (by (with_reducible repeat (first | refine qbn ?_ _ | refine qbd ?_ | refine qba ?_ _)); exact BK365.out) hb)
   have n5_ := qA (qbb (g := gb384) (o := .cells #[.int .i64 t380, .int .i64 t381, .bool t382] 37 (0, 0)) (by (with_reducible repeat (first | refine qbn ?_ _ | refine qbd ?_ | refine qba ?_ _)); exact BK384.out) hb)
   have n6_ := qA (qbb (g := gb401) (o := .cells #[.int .i64 t397, .int .i64 t398, .bool t399] 37 (0, 0)) (by (with_reducible repeat (first | refine qbn ?_ _ | refine qbd ?_ | refine qba ?_ _)); exact BK401.out) hb)
   have n7_ := qA (qst (by repeat (first | (with_reducible first | exact HB.out | apply qla | apply qln | apply qld | refine qse ?_ GE365.out | refine qse ?_ GE384.out | refine qse ?_ GE401.out) | exact HB.out)) hb)
   have n8_ := qA (hbox)
   have n9_ := qA ((by rw [hg]; exact (qsz (by repeat (first | (with_reducible first | exact HB.out | apply qla | apply qln | apply qld | refine qse ?_ GE365.out | refine qse ?_ GE384.out | refine qse ?_ GE401.out) | exact HB.out))) : w.heap.size ≤ gb418))
   have n10_ := qA ((by rw [hg]; exact (qsz (by repeat (first | (with_reducible first | exact HB.out | apply qla | apply qln | apply qld | refine qse ?_ GE365.out | refine qse ?_ GE384.out | refine qse ?_ GE401.out) | exact HB.out))) : w.heap.size ≤ gb418))
   have n11_ := qA ((by rw [hg]; exact Nat.ne_of_lt (blk_lt (g := gb365) (o := .cells #[.int .i64 a2_0, .int .i64 a2_1, .bool a2_2] 37 (0, 0)) (by (with_reducible repeat (first | refine qbn ?_ _ | refine qbd ?_ | refine qba ?_ _)); exact BK365.out)) : gb365 ≠ gb418))
   have n12_ := qA ((by rw [hg]; exact Nat.ne_of_gt (blk_lt (g := gb365) (o := .cells #[.int .i64 a2_0, .int .i64 a2_1, .bool a2_2] 37 (0, 0)) (by (with_reducible repeat (first | refine qbn ?_ _ | refine qbd ?_ | refine qba ?_ _)); exact BK365.out)) : gb418 ≠ gb365))
   have n13_ := qA ((by rw [hg]; exact Nat.ne_of_lt (blk_lt (g := gb384) (o := .cells #[.int .i64 t380, .int .i64 t381, .bool t382] 37 (0, 0)) (by (with_reducible repeat (first | refine qbn ?_ _ | refine qbd ?_ | refine qba ?_ _)); exact BK384.out)) : gb384 ≠ gb418))
   have n14_ := qA ((by rw [hg]; exact Nat.ne_of_gt (blk_lt (g := gb384) (o := .cells #[.int .i64 t380, .int .i64 t381, .bool t382] 37 (0, 0)) (by (with_reducible repeat (first | refine qbn ?_ _ | refine qbd ?_ | refine qba ?_ _)); exact BK384.out)) : gb418 ≠ gb384))
   have n15_ := qA ((by rw [hg]; exact Nat.ne_of_lt (blk_lt (g := gb401) (o := .cells #[.int .i64 t397, .int .i64 t398, .bool t399] 37 (0, 0)) (by (with_reducible repeat (first | refine qbn ?_ _ | refine qbd ?_ | refine qba ?_ _)); exact BK401.out)) : gb401 ≠ gb418))
   have n16_ := qA ((by rw [hg]; exact Nat.ne_of_gt (blk_lt (g := gb401) (o := .cells #[.int .i64 t397, .int .i64 t398, .bool t399] 37 (0, 0)) (by (with_reducible repeat (first | refine qbn ?_ _ | refine qbd ?_ | refine qba ?_ _)); exact BK401.out)) : gb418 ≠ gb401))
   clear HO372
   clear HO379
   clear HO389
   clear HO396
   clear BK365
   clear BK384
   clear BK401
   clear HB
   have HO372 := n0_
   have HO379 := n1_
   have HO389 := n2_
   have HO396 := n3_
   have BK365 := n4_
   have BK384 := n5_
   have BK401 := n6_
   have HB := n7_
   have BK418 := n8_
   have GW418 := n9_
   have GE418 := n10_
   have NB365_418 := n11_
   have NB418_365 := n12_
   have NB384_418 := n13_
   have NB418_384 := n14_
   have NB401_418 := n15_
   have NB418_401 := n16_
   clear n0_ n1_ n2_ n3_ n4_ n5_ n6_ n7_ n8_ n9_ n10_ n11_ n12_ n13_ n14_ n15_ n16_
   clear hb hbox hg
   refine hK.out _ _ ⟨(qbc BK365.out 0).trans rfl, (qbc BK365.out 1).trans rfl, (qbc BK365.out 2).trans rfl⟩ (fun hHeld => ?_)
   clear hK K
   refine norm_ (a' := ?_) ?_ ?_
   rotate_left
   ·show Act.put _ (some 15) _ = _
    simp only [Act.put, qs1, qs2, qs3, i64_w, i32_w]
    rfl
   refine one_ (i := 2) (N := some 45) #[qT,qT,qT,qT,qT,qF,qF,qF,qF,qT,qF,qF] rfl rfl (one_of HT_.out (by kernel_rfl)) (by decide) (fun K hK => ?_)
   refine goes_ Try.func23 (by kernel_rfl) rfl #[.int .i64 a0, .int .i64 0, .int .i64 0, .int .i64 a1] (by rfl) rfl rfl (by (try simp only [List.map_toArray, List.map_cons, List.map_nil]); first | done | rfl | (simp only [List.length_drop, List.length_take]; rfl)) ?_
   with_reducible refine (governorlaw12_Of.calls a0 0 0 a1 t402 t403 t404 t407 t408 t409 t410 t411 _ A11.out).mono ?_
   rintro e w42 ⟨v405, v412, rfl, ho0, ho1, hb⟩
   refine ⟨_, rfl, ?_⟩
   have n0_ := qA (Kd.R_elder' (by (with_reducible repeat (first | apply qRa | apply qRn | apply qRd)); exact HO372.out) (Kd.R_base ho0) hb)
   have n1_ := qA (Kd.R_elder' (by (with_reducible repeat (first | apply qRa | apply qRn | apply qRd)); exact HO379.out) (Kd.R_base ho1) hb)
   have n2_ := qA (Kd.R_elder' (by (with_reducible repeat (first | apply qRa | apply qRn | apply qRd)); exact HO389.out) (Kd.R_base ho0) hb)
   have n3_ := qA (Kd.R_elder' (by (with_reducible repeat (first | apply qRa | apply qRn | apply qRd)); exact HO396.out) (Kd.R_base ho1) hb)
   have n4_ := qA (Kd.R_lower (Kd.R_new' (Kd.R_new' ho0 (Kd.R_lt (by (with_reducible repeat (first | apply qRa | apply qRn | apply qRd)); exact HO372.out))) (Kd.R_lt (by (with_reducible repeat (first | apply qRa | apply qRn | apply qRd)); exact HO389.out))) (qsz (by repeat (first | (with_reducible first | exact HB.out | apply qla | apply qln | apply qld | refine qse ?_ GE365.out | refine qse ?_ GE384.out | refine qse ?_ GE401.out | refine qse ?_ GE418.out) | exact HB.out))))
   have n5_ := qA (Kd.R_lower (Kd.R_new' (Kd.R_new' ho1 (Kd.R_lt (by (with_reducible repeat (first | apply qRa | apply qRn | apply qRd)); exact HO379.out))) (Kd.R_lt (by (with_reducible repeat (first | apply qRa | apply qRn | apply qRd)); exact HO396.out))) (qsz (by repeat (first | (with_reducible first | exact HB.out | apply qla | apply qln | apply qld | refine qse ?_ GE365.out | refine qse ?_ GE384.out | refine qse ?_ GE401.out | refine qse ?_ GE418.out) | exact HB.out))))
   have n6_ := qA (qbb (g := gb365) (o := .cells #[.int .i64 a2_0, .int .i64 a2_1, .bool a2_2] 37 (0, 0)) (by (with_reducible repeat (first | refine qbn ?_ _ | refine qbd ?_ | refine qba ?_ _)); exact BK365.out) hb)
   have n7_ := qA (qbb (g := gb384) (o := .cells #[.int .i64 t380, .int .i64 t381, .bool t382] 37 (0, 0)) (by (with_reducible repeat (first | refine qbn ?_ _ | refine qbd ?_ | refine qba ?_ _)); exact BK384.out) hb)
   have n8_ := qA (qbb (g := gb401) (o := .cells #[.int .i64 t397, .int .i64 t398, .bool t399] 37 (0, 0)) (by (with_reducible repeat (first | refine qbn ?_ _ | refine qbd ?_ | refine qba ?_ _)); exact BK401.out) hb)
   have n9_ := qA (qbb (g := gb418) (o := .cells #[.int .i64 0, .int .i64 0, .bool false] 37 (0, 0)) (by (with_reducible repeat (first | refine qbn ?_ _ | refine qbd ?_ | refine qba ?_ _)); exact BK418.out) hb)
   have n10_ := qA (qst (by repeat (first | (with_reducible first | exact HB.out | apply qla | apply qln | apply qld | refine qse ?_ GE365.out | refine qse ?_ GE384.out | refine qse ?_ GE401.out | refine qse ?_ GE418.out) | exact HB.out)) hb)
   clear HO372
   clear HO379
   clear HO389
   clear HO396
   clear BK365
   clear BK384
   clear BK401
   clear BK418
   clear HB
   have HO372 := n0_
   have HO379 := n1_
   have HO389 := n2_
   have HO396 := n3_
   have HO406 := n4_
   have HO413 := n5_
   have BK365 := n6_
   have BK384 := n7_
   have BK401 := n8_
   have BK418 := n9_
   have HB := n10_
   clear n0_ n1_ n2_ n3_ n4_ n5_ n6_ n7_ n8_ n9_ n10_
   obtain ⟨Ao43, co43, eo43⟩ := Kd.R_slice HO406.out
   (first | subst eo43 | (injection eo43 with f1_ f2_ f3_; have f4_ := f1_.symm; have f5_ := f3_.symm; clear f1_ f2_ f3_; subst f4_; subst f5_))
   obtain ⟨Ao44, co44, eo44⟩ := Kd.R_slice HO413.out
   (first | subst eo44 | (injection eo44 with f1_ f2_ f3_; have f4_ := f1_.symm; have f5_ := f3_.symm; clear f1_ f2_ f3_; subst f4_; subst f5_))
   refine hK.out _ _ ⟨(qbc BK365.out 0).trans rfl, (qbc BK365.out 1).trans rfl, (qbc BK365.out 2).trans rfl⟩ (fun hHeld => ?_)
   clear hK K
   refine norm_ (a' := ?_) ?_ ?_
   rotate_left
   ·show Act.put _ (some 45) _ = _
    simp only [Act.put, qs1, qs2, qs3, i64_w, i32_w]
    rfl
   refine one_ (i := 5) (N := some 48) #[qT,qT,qT,qT,qT,qT,qF,qF,qF,qT,qF,qF] rfl rfl (one_of HT_.out (by kernel_rfl)) (by decide) (fun K hK => ?_)
   refine goes_ Try.func22 (by kernel_rfl) rfl #[.agg #[.int .i64 t402, .int .i64 t403, .slice Ao43 t404.length co43, .int .i64 t407, .int .i64 t408, .int .i64 t409, .int .i64 t410, .slice Ao44 t411.length co44], .agg #[.int .i64 a2_0, .int .i64 a2_1, .bool a2_2], .int .i64 a3] (by rfl) rfl rfl (by (try simp only [List.map_toArray, List.map_cons, List.map_nil]); first | done | rfl | (simp only [List.length_drop, List.length_take]; rfl)) ?_
   with_reducible refine (pid_Next.calls k t402 t403 _ _ t404 t407 t408 t409 t410 _ _ t411 a2_0 a2_1 a2_2 a3 t414 t415 t416 t417 _ ?side1 ?side2 ?side3 ?side4 A12.out).mono ?_
   (case side1 => repeat (first | exact (Kd.R_reads' HO406.out).2.2 | (with_reducible refine Kd.C_alloc ?_ _) | (with_reducible refine Kd.C_drewN ?_ _) | (with_reducible refine Kd.C_drew ?_)))
   (case side2 => exact (Kd.R_reads' HO406.out).2.1)
   (case side3 => repeat (first | exact (Kd.R_reads' HO413.out).2.2 | (with_reducible refine Kd.C_alloc ?_ _) | (with_reducible refine Kd.C_drewN ?_ _) | (with_reducible refine Kd.C_drew ?_)))
   (case side4 => exact (Kd.R_reads' HO413.out).2.1)
   rintro e w45 ⟨rfl, hb⟩
   refine ⟨_, rfl, ?_⟩
   replace HO372 := qA (Kd.R_below (by (with_reducible repeat (first | apply qRa | apply qRn | apply qRd)); exact HO372.out) hb)
   replace HO379 := qA (Kd.R_below (by (with_reducible repeat (first | apply qRa | apply qRn | apply qRd)); exact HO379.out) hb)
   replace HO389 := qA (Kd.R_below (by (with_reducible repeat (first | apply qRa | apply qRn | apply qRd)); exact HO389.out) hb)
   replace HO396 := qA (Kd.R_below (by (with_reducible repeat (first | apply qRa | apply qRn | apply qRd)); exact HO396.out) hb)
   replace HO406 := qA (Kd.R_below (by (with_reducible repeat (first | apply qRa | apply qRn | apply qRd)); exact HO406.out) hb)
   replace HO413 := qA (Kd.R_below (by (with_reducible repeat (first | apply qRa | apply qRn | apply qRd)); exact HO413.out) hb)
   replace BK365 := qA (qbb (g := gb365) (o := .cells #[.int .i64 a2_0, .int .i64 a2_1, .bool a2_2] 37 (0, 0)) (by (with_reducible repeat (first | refine qbn ?_ _ | refine qbd ?_ | refine qba ?_ _)); exact BK365.out) hb)
   replace BK384 := qA (qbb (g := gb384) (o := .cells #[.int .i64 t380, .int .i64 t381, .bool t382] 37 (0, 0)) (by (with_reducible repeat (first | refine qbn ?_ _ | refine qbd ?_ | refine qba ?_ _)); exact BK384.out) hb)
   replace BK401 := qA (qbb (g := gb401) (o := .cells #[.int .i64 t397, .int .i64 t398, .bool t399] 37 (0, 0)) (by (with_reducible repeat (first | refine qbn ?_ _ | refine qbd ?_ | refine qba ?_ _)); exact BK401.out) hb)
   replace BK418 := qA (qbb (g := gb418) (o := .cells #[.int .i64 0, .int .i64 0, .bool false] 37 (0, 0)) (by (with_reducible repeat (first | refine qbn ?_ _ | refine qbd ?_ | refine qba ?_ _)); exact BK418.out) hb)
   replace HB := qA (qst (by repeat (first | (with_reducible first | exact HB.out | apply qla | apply qln | apply qld | refine qse ?_ GE365.out | refine qse ?_ GE384.out | refine qse ?_ GE401.out | refine qse ?_ GE418.out) | exact HB.out)) hb)
   refine hK.out _ _ ⟨(qbc BK365.out 0).trans rfl, (qbc BK365.out 1).trans rfl, (qbc BK365.out 2).trans rfl⟩ (fun hHeld => ?_)
   clear hK K
   refine norm_ (a' := ?_) ?_ ?_
   rotate_left
   ·show Act.put _ (some 48) _ = _
    simp only [Act.put, qs1, qs2, qs3, i64_w, i32_w]
    rfl
   refine pure_ (i := 6) (N := some 42) (v := ?_) (a' := ?_) #[qT,qT,qT,qT,qT,qT,qT,qF,qF,qT,qF,qF] rfl rfl (any_of HT_.out (by kernel_rfl)) (fun _ _ _ h => h) (Or.inl ⟨by rfl, ?_⟩) ?_ ?_
   rotate_left
   ·intro w'
    go_simp
    with_reducible rfl
   rotate_left
   ·simp only [Act.put, qs1, qs2, qs3, i64_w, i32_w]
    rfl
   refine pure_ (i := 7) (N := some 49) (v := ?_) (a' := ?_) #[qT,qT,qT,qT,qT,qT,qT,qT,qF,qT,qF,qF] rfl rfl (any_of HT_.out (by kernel_rfl)) (fun _ _ _ h => h) (Or.inl ⟨by rfl, ?_⟩) ?_ ?_
   rotate_left
   ·intro w'
    go_simp
    with_reducible rfl
   rotate_left
   ·simp only [Act.put, qs1, qs2, qs3, i64_w, i32_w]
    rfl
   refine pure_ (i := 8) (N := some 50) (v := ?_) (a' := ?_) #[qT,qT,qT,qT,qT,qT,qT,qT,qT,qT,qF,qF] rfl rfl (any_of HT_.out (by kernel_rfl)) (fun _ _ _ h => h) (Or.inl ⟨by rfl, ?_⟩) ?_ ?_
   rotate_left
   ·intro w'
    go_simp
    with_reducible rfl
   rotate_left
   ·simp only [Act.put, qs1, qs2, qs3, i64_w, i32_w]
    rfl
   exact norm_ (by simp only [putAll, Act.put, qs1, qs2, qs3]) (hCont (.slice Ao43 t404.length co43, .slice Ao44 t411.length co44, gb418) _ ⟨hHeld, (by (with_reducible repeat (first | apply qRa | apply qRn | apply qRd)); exact HO372.out), (by (with_reducible repeat (first | apply qRa | apply qRn | apply qRd)); exact HO379.out), (by (with_reducible repeat (first | apply qRa | apply qRn | apply qRd)); exact HO389.out), (by (with_reducible repeat (first | apply qRa | apply qRn | apply qRd)); exact HO396.out), (by (with_reducible repeat (first | apply qRa | apply qRn | apply qRd)); exact Kd.R_mono HO406.out (fun _ hk => ⟨hk.1.2, hk.2⟩)), (by (with_reducible repeat (first | apply qRa | apply qRn | apply qRd)); exact Kd.R_mono HO413.out (fun _ hk => ⟨hk.1.2, hk.2⟩)), (by (with_reducible repeat (first | refine qbn ?_ _ | refine qbd ?_ | refine qba ?_ _)); exact BK365.out), (by (with_reducible repeat (first | refine qbn ?_ _ | refine qbd ?_ | refine qba ?_ _)); exact BK384.out), (by (with_reducible repeat (first | refine qbn ?_ _ | refine qbd ?_ | refine qba ?_ _)); exact BK401.out), (by (with_reducible repeat (first | refine qbn ?_ _ | refine qbd ?_ | refine qba ?_ _)); exact BK418.out), GW418.out, GE418.out, NB365_418.out, NB418_365.out, NB384_418.out, NB418_384.out, NB401_418.out, NB418_401.out, (by repeat (first | (with_reducible first | exact HB.out | apply qla | apply qln | apply qld | refine qse ?_ GE365.out | refine qse ?_ GE384.out | refine qse ?_ GE401.out | refine qse ?_ GE418.out) | exact HB.out))⟩)
 rintro ⟨v405, v412, gb418⟩ w46 ⟨hS_, h0_, h1_, h2_, h3_, h4_, h5_, h6_, h7_, h8_, h9_, h10_, h11_, h12_, h13_, h14_, h15_, h16_, h17_, h18_⟩
 replace HO372 : Aside0 (Kd.R k29 29 w46 w.heap.size (fun k_ => some k_ ≠ (v388 : Value).ownBlock ∧ some k_ ≠ (v405 : Value).ownBlock) v371 t370) := ⟨h0_⟩
 replace HO379 : Aside0 (Kd.R k71 71 w46 w.heap.size (fun k_ => some k_ ≠ (v395 : Value).ownBlock ∧ some k_ ≠ (v412 : Value).ownBlock) v378 t377) := ⟨h1_⟩
 replace HO389 : Aside0 (Kd.R k29 29 w46 w.heap.size (fun k_ => some k_ ≠ (v371 : Value).ownBlock ∧ some k_ ≠ (v405 : Value).ownBlock) v388 t387) := ⟨h2_⟩
 replace HO396 : Aside0 (Kd.R k71 71 w46 w.heap.size (fun k_ => some k_ ≠ (v378 : Value).ownBlock ∧ some k_ ≠ (v412 : Value).ownBlock) v395 t394) := ⟨h3_⟩
 have HO406 : Aside0 (Kd.R k29 29 w46 w.heap.size (fun k_ => some k_ ≠ (v371 : Value).ownBlock ∧ some k_ ≠ (v388 : Value).ownBlock) v405 t404) := ⟨h4_⟩
 have HO413 : Aside0 (Kd.R k71 71 w46 w.heap.size (fun k_ => some k_ ≠ (v378 : Value).ownBlock ∧ some k_ ≠ (v395 : Value).ownBlock) v412 t411) := ⟨h5_⟩
 replace BK365 : Aside0 (w46.heap[gb365]? = some (.cells #[.int .i64 a2_0, .int .i64 a2_1, .bool a2_2] 37 (0, 0))) := ⟨h6_⟩
 replace BK384 : Aside0 (w46.heap[gb384]? = some (.cells #[.int .i64 t380, .int .i64 t381, .bool t382] 37 (0, 0))) := ⟨h7_⟩
 replace BK401 : Aside0 (w46.heap[gb401]? = some (.cells #[.int .i64 t397, .int .i64 t398, .bool t399] 37 (0, 0))) := ⟨h8_⟩
 have BK418 : Aside0 (w46.heap[gb418]? = some (.cells #[.int .i64 0, .int .i64 0, .bool false] 37 (0, 0))) := ⟨h9_⟩
 have GW418 : Aside0 (w.heap.size ≤ gb418) := ⟨h10_⟩
 have GE418 : Aside0 (w.heap.size ≤ gb418) := ⟨h11_⟩
 have NB365_418 : Aside0 (gb365 ≠ gb418) := ⟨h12_⟩
 have NB418_365 : Aside0 (gb418 ≠ gb365) := ⟨h13_⟩
 have NB384_418 : Aside0 (gb384 ≠ gb418) := ⟨h14_⟩
 have NB418_384 : Aside0 (gb418 ≠ gb384) := ⟨h15_⟩
 have NB401_418 : Aside0 (gb401 ≠ gb418) := ⟨h16_⟩
 have NB418_401 : Aside0 (gb418 ≠ gb401) := ⟨h17_⟩
 replace HB : Aside0 (Below w.heap.size w w46) := ⟨h18_⟩
 clear h0_ h1_ h2_ h3_ h4_ h5_ h6_ h7_ h8_ h9_ h10_ h11_ h12_ h13_ h14_ h15_ h16_ h17_ h18_
 have hHeld : w46.cell? ⟨gb365, 0, none⟩ = some (.int .i64 a2_0) ∧ w46.cell? ⟨gb365, 1, none⟩ = some (.int .i64 a2_1) ∧ w46.cell? ⟨gb365, 2, none⟩ = some (.bool a2_2) := hS_
 refine norm_ (a' := ?_) ?_ ?_
 rotate_left
 ·simp only [putAll, Act.put, qs1, qs2, qs3]
  rfl
 refine one_ (i := 10) (N := none) #[qT,qT,qT,qT,qT,qT,qT,qT,qT,qT,qT,qF] rfl rfl (one_of HT_.out (by kernel_rfl)) (by decide) (fun K hK => ?_)
 have hs47 : w46.cell? ⟨gb418, 0, none⟩ = some (.int .i64 0) := (qbc BK418.out 0).trans rfl
 have hfs47 := blk_frozen BK418.out 0
 have hns47_0 := NB365_418.out
 have hns47_1 := NB384_418.out
 have hns47_2 := NB401_418.out
 have hms47_0 := NB418_365.out
 have hms47_1 := NB418_384.out
 have hms47_2 := NB418_401.out
 have hs48 : w46.cell? ⟨gb418, 1, none⟩ = some (.int .i64 0) := (qbc BK418.out 1).trans rfl
 have hfs48 := blk_frozen BK418.out 1
 have hns48_0 := NB365_418.out
 have hns48_1 := NB384_418.out
 have hns48_2 := NB401_418.out
 have hms48_0 := NB418_365.out
 have hms48_1 := NB418_384.out
 have hms48_2 := NB418_401.out
 have hs49 : w46.cell? ⟨gb418, 2, none⟩ = some (.bool false) := (qbc BK418.out 2).trans rfl
 have hfs49 := blk_frozen BK418.out 2
 have hns49_0 := NB365_418.out
 have hns49_1 := NB384_418.out
 have hns49_2 := NB401_418.out
 have hms49_0 := NB418_365.out
 have hms49_1 := NB418_384.out
 have hms49_2 := NB418_401.out
 refine skip_ (w1 := ?_) (by rfl) rfl ?_ ?_
 rotate_left
 ·go_simp
  rfl
 refine hK.out _ _ ⟨((qcf (p := ⟨gb418, _, none⟩) NB365_418.out _).trans (((qcf (p := ⟨gb418, _, none⟩) NB365_418.out _).trans (((qcf (p := ⟨gb418, _, none⟩) NB365_418.out _).trans (hHeld.1)))))), ((qcf (p := ⟨gb418, _, none⟩) NB365_418.out _).trans (((qcf (p := ⟨gb418, _, none⟩) NB365_418.out _).trans (((qcf (p := ⟨gb418, _, none⟩) NB365_418.out _).trans (hHeld.2.1)))))), ((qcf (p := ⟨gb418, _, none⟩) NB365_418.out _).trans (((qcf (p := ⟨gb418, _, none⟩) NB365_418.out _).trans (((qcf (p := ⟨gb418, _, none⟩) NB365_418.out _).trans (hHeld.2.2))))))⟩ (fun hHeld => ?_)
 clear hK K
 refine pure_ (i := 11) (N := some 16) (v := ?_) (a' := ?_) #[qT,qT,qT,qT,qT,qT,qT,qT,qT,qT,qT,qT] rfl rfl (any_of HT_.out (by kernel_rfl)) (fun _ _ _ h => h) (Or.inl ⟨by rfl, ?_⟩) ?_ ?_
 rotate_left
 ·intro w'
  go_simp
  with_reducible rfl
 rotate_left
 ·simp only [Act.put, qs1, qs2, qs3, i64_w, i32_w]
  rfl
 refine done_ (done_of HT_.out (by kernel_rfl)) ?_
 try go_wp2
 have n0_ : Aside0 (Kd.R k29 29 (((w46.setCell ⟨gb418, 0, none⟩ (.int .i64 t414)).setCell ⟨gb418, 1, none⟩ (.int .i64 t415)).setCell ⟨gb418, 2, none⟩ (.bool t416)) w.heap.size (fun k_ => some k_ ≠ (v388 : Value).ownBlock ∧ some k_ ≠ (v405 : Value).ownBlock) v371 t370) := ⟨by (with_reducible repeat (first | apply qRa | apply qRn | apply qRd)); exact Kd.R_mono (Kd.R_far (p := ⟨gb418, 2, none⟩) (Kd.R_far (p := ⟨gb418, 1, none⟩) (Kd.R_far (p := ⟨gb418, 0, none⟩) (Kd.R_types HO372.out BK418.out (by decide)) (fun _ hk => hk.2) (.int .i64 t414)) (fun _ hk => hk.2) (.int .i64 t415)) (fun _ hk => hk.2) (.bool t416)) (fun _ hk => ⟨hk.1.1, hk.1.2⟩)⟩
 have n1_ : Aside0 (Kd.R k71 71 (((w46.setCell ⟨gb418, 0, none⟩ (.int .i64 t414)).setCell ⟨gb418, 1, none⟩ (.int .i64 t415)).setCell ⟨gb418, 2, none⟩ (.bool t416)) w.heap.size (fun k_ => some k_ ≠ (v395 : Value).ownBlock ∧ some k_ ≠ (v412 : Value).ownBlock) v378 t377) := ⟨by (with_reducible repeat (first | apply qRa | apply qRn | apply qRd)); exact Kd.R_mono (Kd.R_far (p := ⟨gb418, 2, none⟩) (Kd.R_far (p := ⟨gb418, 1, none⟩) (Kd.R_far (p := ⟨gb418, 0, none⟩) (Kd.R_types HO379.out BK418.out (by decide)) (fun _ hk => hk.2) (.int .i64 t414)) (fun _ hk => hk.2) (.int .i64 t415)) (fun _ hk => hk.2) (.bool t416)) (fun _ hk => ⟨hk.1.1, hk.1.2⟩)⟩
 have n2_ : Aside0 (Kd.R k29 29 (((w46.setCell ⟨gb418, 0, none⟩ (.int .i64 t414)).setCell ⟨gb418, 1, none⟩ (.int .i64 t415)).setCell ⟨gb418, 2, none⟩ (.bool t416)) w.heap.size (fun k_ => some k_ ≠ (v371 : Value).ownBlock ∧ some k_ ≠ (v405 : Value).ownBlock) v388 t387) := ⟨by (with_reducible repeat (first | apply qRa | apply qRn | apply qRd)); exact Kd.R_mono (Kd.R_far (p := ⟨gb418, 2, none⟩) (Kd.R_far (p := ⟨gb418, 1, none⟩) (Kd.R_far (p := ⟨gb418, 0, none⟩) (Kd.R_types HO389.out BK418.out (by decide)) (fun _ hk => hk.2) (.int .i64 t414)) (fun _ hk => hk.2) (.int .i64 t415)) (fun _ hk => hk.2) (.bool t416)) (fun _ hk => ⟨hk.1.1, hk.1.2⟩)⟩
 have n3_ : Aside0 (Kd.R k71 71 (((w46.setCell ⟨gb418, 0, none⟩ (.int .i64 t414)).setCell ⟨gb418, 1, none⟩ (.int .i64 t415)).setCell ⟨gb418, 2, none⟩ (.bool t416)) w.heap.size (fun k_ => some k_ ≠ (v378 : Value).ownBlock ∧ some k_ ≠ (v412 : Value).ownBlock) v395 t394) := ⟨by (with_reducible repeat (first | apply qRa | apply qRn | apply qRd)); exact Kd.R_mono (Kd.R_far (p := ⟨gb418, 2, none⟩) (Kd.R_far (p := ⟨gb418, 1, none⟩) (Kd.R_far (p := ⟨gb418, 0, none⟩) (Kd.R_types HO396.out BK418.out (by decide)) (fun _ hk => hk.2) (.int .i64 t414)) (fun _ hk => hk.2) (.int .i64 t415)) (fun _ hk => hk.2) (.bool t416)) (fun _ hk => ⟨hk.1.1, hk.1.2⟩)⟩
 have n4_ : Aside0 (Kd.R k29 29 (((w46.setCell ⟨gb418, 0, none⟩ (.int .i64 t414)).setCell ⟨gb418, 1, none⟩ (.int .i64 t415)).setCell ⟨gb418, 2, none⟩ (.bool t416)) w.heap.size (fun k_ => some k_ ≠ (v371 : Value).ownBlock ∧ some k_ ≠ (v388 : Value).ownBlock) v405 t404) := ⟨by (with_reducible repeat (first | apply qRa | apply qRn | apply qRd)); exact Kd.R_mono (Kd.R_far (p := ⟨gb418, 2, none⟩) (Kd.R_far (p := ⟨gb418, 1, none⟩) (Kd.R_far (p := ⟨gb418, 0, none⟩) (Kd.R_types HO406.out BK418.out (by decide)) (fun _ hk => hk.2) (.int .i64 t414)) (fun _ hk => hk.2) (.int .i64 t415)) (fun _ hk => hk.2) (.bool t416)) (fun _ hk => ⟨hk.1.1, hk.1.2⟩)⟩
 have n5_ : Aside0 (Kd.R k71 71 (((w46.setCell ⟨gb418, 0, none⟩ (.int .i64 t414)).setCell ⟨gb418, 1, none⟩ (.int .i64 t415)).setCell ⟨gb418, 2, none⟩ (.bool t416)) w.heap.size (fun k_ => some k_ ≠ (v378 : Value).ownBlock ∧ some k_ ≠ (v395 : Value).ownBlock) v412 t411) := ⟨by (with_reducible repeat (first | apply qRa | apply qRn | apply qRd)); exact Kd.R_mono (Kd.R_far (p := ⟨gb418, 2, none⟩) (Kd.R_far (p := ⟨gb418, 1, none⟩) (Kd.R_far (p := ⟨gb418, 0, none⟩) (Kd.R_types HO413.out BK418.out (by decide)) (fun _ hk => hk.2) (.int .i64 t414)) (fun _ hk => hk.2) (.int .i64 t415)) (fun _ hk => hk.2) (.bool t416)) (fun _ hk => ⟨hk.1.1, hk.1.2⟩)⟩
 have n6_ : Aside0 ((((w46.setCell ⟨gb418, 0, none⟩ (.int .i64 t414)).setCell ⟨gb418, 1, none⟩ (.int .i64 t415)).setCell ⟨gb418, 2, none⟩ (.bool t416)).heap[gb365]? = some (.cells #[.int .i64 a2_0, .int .i64 a2_1, .bool a2_2] 37 (0, 0))) := ⟨by (with_reducible repeat (first | refine qbn ?_ _ | refine qbd ?_ | refine qba ?_ _)); refine blk_far ?_ NB365_418.out _; (with_reducible repeat (first | refine qbn ?_ _ | refine qbd ?_ | refine qba ?_ _)); refine blk_far ?_ NB365_418.out _; (with_reducible repeat (first | refine qbn ?_ _ | refine qbd ?_ | refine qba ?_ _)); refine blk_far ?_ NB365_418.out _; (with_reducible repeat (first | refine qbn ?_ _ | refine qbd ?_ | refine qba ?_ _)); exact BK365.out⟩
 have n7_ : Aside0 ((((w46.setCell ⟨gb418, 0, none⟩ (.int .i64 t414)).setCell ⟨gb418, 1, none⟩ (.int .i64 t415)).setCell ⟨gb418, 2, none⟩ (.bool t416)).heap[gb384]? = some (.cells #[.int .i64 t380, .int .i64 t381, .bool t382] 37 (0, 0))) := ⟨by (with_reducible repeat (first | refine qbn ?_ _ | refine qbd ?_ | refine qba ?_ _)); refine blk_far ?_ NB384_418.out _; (with_reducible repeat (first | refine qbn ?_ _ | refine qbd ?_ | refine qba ?_ _)); refine blk_far ?_ NB384_418.out _; (with_reducible repeat (first | refine qbn ?_ _ | refine qbd ?_ | refine qba ?_ _)); refine blk_far ?_ NB384_418.out _; (with_reducible repeat (first | refine qbn ?_ _ | refine qbd ?_ | refine qba ?_ _)); exact BK384.out⟩
 have n8_ : Aside0 ((((w46.setCell ⟨gb418, 0, none⟩ (.int .i64 t414)).setCell ⟨gb418, 1, none⟩ (.int .i64 t415)).setCell ⟨gb418, 2, none⟩ (.bool t416)).heap[gb401]? = some (.cells #[.int .i64 t397, .int .i64 t398, .bool t399] 37 (0, 0))) := ⟨by (with_reducible repeat (first | refine qbn ?_ _ | refine qbd ?_ | refine qba ?_ _)); refine blk_far ?_ NB401_418.out _; (with_reducible repeat (first | refine qbn ?_ _ | refine qbd ?_ | refine qba ?_ _)); refine blk_far ?_ NB401_418.out _; (with_reducible repeat (first | refine qbn ?_ _ | refine qbd ?_ | refine qba ?_ _)); refine blk_far ?_ NB401_418.out _; (with_reducible repeat (first | refine qbn ?_ _ | refine qbd ?_ | refine qba ?_ _)); exact BK401.out⟩
 have n9_ : Aside0 ((((w46.setCell ⟨gb418, 0, none⟩ (.int .i64 t414)).setCell ⟨gb418, 1, none⟩ (.int .i64 t415)).setCell ⟨gb418, 2, none⟩ (.bool t416)).heap[gb418]? = some (.cells #[.int .i64 t414, .int .i64 t415, .bool t416] 37 (0, 0))) := ⟨by (with_reducible repeat (first | refine qbn ?_ _ | refine qbd ?_ | refine qba ?_ _)); refine blk_put (cs := #[.int .i64 t414, .int .i64 t415, .bool false]) ?_ 2 _ rfl; (with_reducible repeat (first | refine qbn ?_ _ | refine qbd ?_ | refine qba ?_ _)); refine blk_put (cs := #[.int .i64 t414, .int .i64 0, .bool false]) ?_ 1 _ rfl; (with_reducible repeat (first | refine qbn ?_ _ | refine qbd ?_ | refine qba ?_ _)); refine blk_put (cs := #[.int .i64 0, .int .i64 0, .bool false]) ?_ 0 _ rfl; (with_reducible repeat (first | refine qbn ?_ _ | refine qbd ?_ | refine qba ?_ _)); exact BK418.out⟩
 have n10_ : Aside0 (Below w.heap.size w (((w46.setCell ⟨gb418, 0, none⟩ (.int .i64 t414)).setCell ⟨gb418, 1, none⟩ (.int .i64 t415)).setCell ⟨gb418, 2, none⟩ (.bool t416))) := ⟨by repeat (first | (with_reducible first | exact HB.out | apply qla | apply qln | apply qld | refine qse ?_ GE365.out | refine qse ?_ GE384.out | refine qse ?_ GE401.out | refine qse ?_ GE418.out) | exact HB.out)⟩
 (try clear HO372)
 (try clear HO379)
 (try clear HO389)
 (try clear HO396)
 (try clear HO406)
 (try clear HO413)
 (try clear BK365)
 (try clear BK384)
 (try clear BK401)
 (try clear BK418)
 (try clear HB)
 generalize (((w46.setCell ⟨gb418, 0, none⟩ (.int .i64 t414)).setCell ⟨gb418, 1, none⟩ (.int .i64 t415)).setCell ⟨gb418, 2, none⟩ (.bool t416)) = w50 at n0_ n1_ n2_ n3_ n4_ n5_ n6_ n7_ n8_ n9_ n10_ ⊢
 have HO372 := n0_
 have HO379 := n1_
 have HO389 := n2_
 have HO396 := n3_
 have HO406 := n4_
 have HO413 := n5_
 have BK365 := n6_
 have BK384 := n7_
 have BK401 := n8_
 have BK418 := n9_
 have HB := n10_
 clear n0_ n1_ n2_ n3_ n4_ n5_ n6_ n7_ n8_ n9_ n10_
 replace HO372 := qA (qRd HO372.out)
 replace HO379 := qA (qRd HO379.out)
 replace HO389 := qA (qRd HO389.out)
 replace HO396 := qA (qRd HO396.out)
 replace HO406 := qA (qRd HO406.out)
 replace HO413 := qA (qRd HO413.out)
 replace BK365 := qA (qbd BK365.out)
 replace BK384 := qA (qbd BK384.out)
 replace BK401 := qA (qbd BK401.out)
 replace BK418 := qA (qbd BK418.out)
 replace HB := qA (qld HB.out)
 refine start_ (n := 11) (S := fun w' => w'.cell? ⟨gb365, 0, none⟩ = some (.int .i64 a2_0) ∧ w'.cell? ⟨gb365, 1, none⟩ = some (.int .i64 a2_1) ∧ w'.cell? ⟨gb365, 2, none⟩ = some (.bool a2_2)) (ds := []) #[qF,qF,qF,qF,qF,qF,qF,qF,qF,qF,qF] (by kernel_rfl) rfl rfl ⟨(qbc BK365.out 0).trans rfl, (qbc BK365.out 1).trans rfl, (qbc BK365.out 2).trans rfl⟩ (fun hHeld => ?_); refine with_tabW governorlaw12_PidParts.tab6 governorlaw12_PidParts.bits6 (fun HT_ HW_ => ?_)
 generalize w50.drew = w51 at HO372 HO379 HO389 HO396 HO406 HO413 BK365 BK384 BK401 BK418 HB hHeld ⊢
 refine pure_ (i := 0) (N := some 52) (v := ?_) (a' := ?_) #[qT,qF,qF,qF,qF,qF,qF,qF,qF,qF,qF] rfl rfl (any_of HT_.out (by kernel_rfl)) (fun _ _ _ h => h) (Or.inl ⟨by rfl, ?_⟩) ?_ ?_
 rotate_left
 ·intro w'
  go_simp
  with_reducible rfl
 rotate_left
 ·simp only [Act.put, qs1, qs2, qs3, i64_w, i32_w]
  rfl
 refine pure_ (i := 3) (N := some 55) (v := ?_) (a' := ?_) #[qT,qF,qF,qT,qF,qF,qF,qF,qF,qF,qF] rfl rfl (any_of HT_.out (by kernel_rfl)) (fun _ _ _ h => h) (Or.inl ⟨by rfl, ?_⟩) ?_ ?_
 rotate_left
 ·intro w'
  go_simp
  with_reducible rfl
 rotate_left
 ·simp only [Act.put, qs1, qs2, qs3, i64_w, i32_w]
  rfl
 refine take_ (i := 2) (N := some 54) (v := ?_) (a' := ?_) #[qT,qF,qT,qT,qF,qF,qF,qF,qF,qF,qF] rfl rfl (take_ofW HT_.out HW_.out (by kernel_rfl)) (fun _ _ _ h => h) (Or.inl ⟨by rfl, ?_⟩) hHeld ?_ ?_
 rotate_left
 ·rintro w' ⟨s0, s1, s2⟩
  go_simp
  with_reducible rfl
 rotate_left
 ·simp only [Act.put, qs1, qs2, qs3, i64_w, i32_w]
  rfl
 refine join_ (σ := Value × Value × Nat) 2 #[qT,qT,qT,qT,qT,qT,qT,qT,qT,qF,qF] (fun s_ => [(53, .agg #[.int .i64 t419, .int .i64 t420, s_.1, .int .i64 t424, .int .i64 t425, .int .i64 t426, .int .i64 t427, s_.2.1]), (56, .tuple #[.agg #[.int .i64 t431, .int .i64 t432, .bool t433], .int .i64 t434]), (17, .pointer (some ⟨s_.2.2, 0, none⟩)), (51, .tuple #[.agg #[.int .i64 t431, .int .i64 t432, .bool t433], .int .i64 t434]), (57, .agg #[.int .i64 t431, .int .i64 t432, .bool t433]), (58, .int .i64 t434)]) (fun s_ w' => (w'.cell? ⟨gb365, 0, none⟩ = some (.int .i64 a2_0) ∧ w'.cell? ⟨gb365, 1, none⟩ = some (.int .i64 a2_1) ∧ w'.cell? ⟨gb365, 2, none⟩ = some (.bool a2_2)) ∧ (Kd.R k29 29 w' w.heap.size (fun k_ => some k_ ≠ (v388 : Value).ownBlock ∧ some k_ ≠ (v405 : Value).ownBlock ∧ some k_ ≠ (s_.1 : Value).ownBlock) v371 t370) ∧ (Kd.R k71 71 w' w.heap.size (fun k_ => some k_ ≠ (v395 : Value).ownBlock ∧ some k_ ≠ (v412 : Value).ownBlock ∧ some k_ ≠ (s_.2.1 : Value).ownBlock) v378 t377) ∧ (Kd.R k29 29 w' w.heap.size (fun k_ => some k_ ≠ (v371 : Value).ownBlock ∧ some k_ ≠ (v405 : Value).ownBlock ∧ some k_ ≠ (s_.1 : Value).ownBlock) v388 t387) ∧ (Kd.R k71 71 w' w.heap.size (fun k_ => some k_ ≠ (v378 : Value).ownBlock ∧ some k_ ≠ (v412 : Value).ownBlock ∧ some k_ ≠ (s_.2.1 : Value).ownBlock) v395 t394) ∧ (Kd.R k29 29 w' w.heap.size (fun k_ => some k_ ≠ (v371 : Value).ownBlock ∧ some k_ ≠ (v388 : Value).ownBlock ∧ some k_ ≠ (s_.1 : Value).ownBlock) v405 t404) ∧ (Kd.R k71 71 w' w.heap.size (fun k_ => some k_ ≠ (v378 : Value).ownBlock ∧ some k_ ≠ (v395 : Value).ownBlock ∧ some k_ ≠ (s_.2.1 : Value).ownBlock) v412 t411) ∧ (Kd.R k29 29 w' w.heap.size (fun k_ => some k_ ≠ (v371 : Value).ownBlock ∧ some k_ ≠ (v388 : Value).ownBlock ∧ some k_ ≠ (v405 : Value).ownBlock) s_.1 t421) ∧ (Kd.R k71 71 w' w.heap.size (fun k_ => some k_ ≠ (v378 : Value).ownBlock ∧ some k_ ≠ (v395 : Value).ownBlock ∧ some k_ ≠ (v412 : Value).ownBlock) s_.2.1 t428) ∧ (w'.heap[gb365]? = some (.cells #[.int .i64 a2_0, .int .i64 a2_1, .bool a2_2] 37 (0, 0))) ∧ (w'.heap[gb384]? = some (.cells #[.int .i64 t380, .int .i64 t381, .bool t382] 37 (0, 0))) ∧ (w'.heap[gb401]? = some (.cells #[.int .i64 t397, .int .i64 t398, .bool t399] 37 (0, 0))) ∧ (w'.heap[gb418]? = some (.cells #[.int .i64 t414, .int .i64 t415, .bool t416] 37 (0, 0))) ∧ (w'.heap[s_.2.2]? = some (.cells #[.int .i64 0, .int .i64 0, .bool false] 37 (0, 0))) ∧ (w.heap.size ≤ s_.2.2) ∧ (w.heap.size ≤ s_.2.2) ∧ (gb365 ≠ s_.2.2) ∧ (s_.2.2 ≠ gb365) ∧ (gb384 ≠ s_.2.2) ∧ (s_.2.2 ≠ gb384) ∧ (gb401 ≠ s_.2.2) ∧ (s_.2.2 ≠ gb401) ∧ (gb418 ≠ s_.2.2) ∧ (s_.2.2 ≠ gb418) ∧ (Below w.heap.size w w')) ?_ ?_
 rotate_left
 ·intro hCont
  refine two_ (i := 1) (j := 8) (Ni := some 53) (Nj := some 17) #[qT,qT,qT,qT,qF,qF,qF,qF,qF,qF,qF] #[qT,qF,qT,qT,qF,qF,qF,qF,qT,qF,qF] rfl rfl rfl rfl (two_of HT_.out (by kernel_rfl)) (by decide) (by decide) (fun K hK => ?_) (fun K hK => ?_)
  ·skip
   refine goes_ Try.func23 (by kernel_rfl) rfl #[.int .i64 a0, .int .i64 0, .int .i64 0, .int .i64 0] (by rfl) rfl rfl (by (try simp only [List.map_toArray, List.map_cons, List.map_nil]); first | done | rfl | (simp only [List.length_drop, List.length_take]; rfl)) ?_
   with_reducible refine (governorlaw12_Of.calls a0 0 0 0 t419 t420 t421 t424 t425 t426 t427 t428 _ A13.out).mono ?_
   rintro e w52 ⟨v422, v429, rfl, ho0, ho1, hb⟩
   refine ⟨_, rfl, ?_⟩
   have n0_ := qA (Kd.R_elder' (by (with_reducible repeat (first | apply qRa | apply qRn | apply qRd)); exact HO372.out) (Kd.R_base ho0) hb)
   have n1_ := qA (Kd.R_elder' (by (with_reducible repeat (first | apply qRa | apply qRn | apply qRd)); exact HO379.out) (Kd.R_base ho1) hb)
   have n2_ := qA (Kd.R_elder' (by (with_reducible repeat (first | apply qRa | apply qRn | apply qRd)); exact HO389.out) (Kd.R_base ho0) hb)
   have n3_ := qA (Kd.R_elder' (by (with_reducible repeat (first | apply qRa | apply qRn | apply qRd)); exact HO396.out) (Kd.R_base ho1) hb)
   have n4_ := qA (Kd.R_elder' (by (with_reducible repeat (first | apply qRa | apply qRn | apply qRd)); exact HO406.out) (Kd.R_base ho0) hb)
   have n5_ := qA (Kd.R_elder' (by (with_reducible repeat (first | apply qRa | apply qRn | apply qRd)); exact HO413.out) (Kd.R_base ho1) hb)
   have n6_ := qA (Kd.R_lower (Kd.R_new' (Kd.R_new' (Kd.R_new' ho0 (Kd.R_lt (by (with_reducible repeat (first | apply qRa | apply qRn | apply qRd)); exact HO372.out))) (Kd.R_lt (by (with_reducible repeat (first | apply qRa | apply qRn | apply qRd)); exact HO389.out))) (Kd.R_lt (by (with_reducible repeat (first | apply qRa | apply qRn | apply qRd)); exact HO406.out))) (qsz (by repeat (first | (with_reducible first | exact HB.out | apply qla | apply qln | apply qld | refine qse ?_ GE365.out | refine qse ?_ GE384.out | refine qse ?_ GE401.out | refine qse ?_ GE418.out) | exact HB.out))))
   have n7_ := qA (Kd.R_lower (Kd.R_new' (Kd.R_new' (Kd.R_new' ho1 (Kd.R_lt (by (with_reducible repeat (first | apply qRa | apply qRn | apply qRd)); exact HO379.out))) (Kd.R_lt (by (with_reducible repeat (first | apply qRa | apply qRn | apply qRd)); exact HO396.out))) (Kd.R_lt (by (with_reducible repeat (first | apply qRa | apply qRn | apply qRd)); exact HO413.out))) (qsz (by repeat (first | (with_reducible first | exact HB.out | apply qla | apply qln | apply qld | refine qse ?_ GE365.out | refine qse ?_ GE384.out | refine qse ?_ GE401.out | refine qse ?_ GE418.out) | exact HB.out))))
   have n8_ := qA (qbb (g := gb365) (o := .cells #[.int .i64 a2_0, .int .i64 a2_1, .bool a2_2] 37 (0, 0)) (by (with_reducible repeat (first | refine qbn ?_ _ | refine qbd ?_ | refine qba ?_ _)); exact BK365.out) hb)
   have n9_ := qA (qbb (g := gb384) (o := .cells #[.int .i64 t380, .int .i64 t381, .bool t382] 37 (0, 0)) (by (with_reducible repeat (first | refine qbn ?_ _ | refine qbd ?_ | refine qba ?_ _)); exact BK384.out) hb)
   have n10_ := qA (qbb (g := gb401) (o := .cells #[.int .i64 t397, .int .i64 t398, .bool t399] 37 (0, 0)) (by (with_reducible repeat (first | refine qbn ?_ _ | refine qbd ?_ | refine qba ?_ _)); exact BK401.out) hb)
   have n11_ := qA (qbb (g := gb418) (o := .cells #[.int .i64 t414, .int .i64 t415, .bool t416] 37 (0, 0)) (by (with_reducible repeat (first | refine qbn ?_ _ | refine qbd ?_ | refine qba ?_ _)); exact BK418.out) hb)
   have n12_ := qA (qst (by repeat (first | (with_reducible first | exact HB.out | apply qla | apply qln | apply qld | refine qse ?_ GE365.out | refine qse ?_ GE384.out | refine qse ?_ GE401.out | refine qse ?_ GE418.out) | exact HB.out)) hb)
   clear HO372
   clear HO379
   clear HO389
   clear HO396
   clear HO406
   clear HO413
   clear BK365
   clear BK384
   clear BK401
   clear BK418
   clear HB
   have HO372 := n0_
   have HO379 := n1_
   have HO389 := n2_
   have HO396 := n3_
   have HO406 := n4_
   have HO413 := n5_
   have HO423 := n6_
   have HO430 := n7_
   have BK365 := n8_
   have BK384 := n9_
   have BK401 := n10_
   have BK418 := n11_
   have HB := n12_
   clear n0_ n1_ n2_ n3_ n4_ n5_ n6_ n7_ n8_ n9_ n10_ n11_ n12_
   obtain ⟨Ao53, co53, eo53⟩ := Kd.R_slice HO423.out
   (first | subst eo53 | (injection eo53 with f1_ f2_ f3_; have f4_ := f1_.symm; have f5_ := f3_.symm; clear f1_ f2_ f3_; subst f4_; subst f5_))
   obtain ⟨Ao54, co54, eo54⟩ := Kd.R_slice HO430.out
   (first | subst eo54 | (injection eo54 with f1_ f2_ f3_; have f4_ := f1_.symm; have f5_ := f3_.symm; clear f1_ f2_ f3_; subst f4_; subst f5_))
   refine hK.out _ _ ⟨(qbc BK365.out 0).trans rfl, (qbc BK365.out 1).trans rfl, (qbc BK365.out 2).trans rfl⟩ (fun hHeld => ?_)
   clear hK K
   refine norm_ (a' := ?_) ?_ ?_
   rotate_left
   ·show Act.put _ (some 53) _ = _
    simp only [Act.put, qs1, qs2, qs3, i64_w, i32_w]
    rfl
   refine two_ (i := 4) (j := 8) (Ni := some 56) (Nj := some 17) #[qT,qT,qT,qT,qT,qF,qF,qF,qF,qF,qF] #[qT,qT,qT,qT,qF,qF,qF,qF,qT,qF,qF] rfl rfl rfl rfl (two_of HT_.out (by kernel_rfl)) (by decide) (by decide) (fun K hK => ?_) (fun K hK => ?_)
   ·skip
    refine goes_ Try.func22 (by kernel_rfl) rfl #[.agg #[.int .i64 t419, .int .i64 t420, .slice Ao53 t421.length co53, .int .i64 t424, .int .i64 t425, .int .i64 t426, .int .i64 t427, .slice Ao54 t428.length co54], .agg #[.int .i64 a2_0, .int .i64 a2_1, .bool a2_2], .int .i64 a3] (by rfl) rfl rfl (by (try simp only [List.map_toArray, List.map_cons, List.map_nil]); first | done | rfl | (simp only [List.length_drop, List.length_take]; rfl)) ?_
    with_reducible refine (pid_Next.calls k t419 t420 _ _ t421 t424 t425 t426 t427 _ _ t428 a2_0 a2_1 a2_2 a3 t431 t432 t433 t434 _ ?side1 ?side2 ?side3 ?side4 A14.out).mono ?_
    (case side1 => repeat (first | exact (Kd.R_reads' HO423.out).2.2 | (with_reducible refine Kd.C_alloc ?_ _) | (with_reducible refine Kd.C_drewN ?_ _) | (with_reducible refine Kd.C_drew ?_)))
    (case side2 => exact (Kd.R_reads' HO423.out).2.1)
    (case side3 => repeat (first | exact (Kd.R_reads' HO430.out).2.2 | (with_reducible refine Kd.C_alloc ?_ _) | (with_reducible refine Kd.C_drewN ?_ _) | (with_reducible refine Kd.C_drew ?_)))
    (case side4 => exact (Kd.R_reads' HO430.out).2.1)
    rintro e w55 ⟨rfl, hb⟩
    refine ⟨_, rfl, ?_⟩
    replace HO372 := qA (Kd.R_below (by (with_reducible repeat (first | apply qRa | apply qRn | apply qRd)); exact HO372.out) hb)
    replace HO379 := qA (Kd.R_below (by (with_reducible repeat (first | apply qRa | apply qRn | apply qRd)); exact HO379.out) hb)
    replace HO389 := qA (Kd.R_below (by (with_reducible repeat (first | apply qRa | apply qRn | apply qRd)); exact HO389.out) hb)
    replace HO396 := qA (Kd.R_below (by (with_reducible repeat (first | apply qRa | apply qRn | apply qRd)); exact HO396.out) hb)
    replace HO406 := qA (Kd.R_below (by (with_reducible repeat (first | apply qRa | apply qRn | apply qRd)); exact HO406.out) hb)
    replace HO413 := qA (Kd.R_below (by (with_reducible repeat (first | apply qRa | apply qRn | apply qRd)); exact HO413.out) hb)
    replace HO423 := qA (Kd.R_below (by (with_reducible repeat (first | apply qRa | apply qRn | apply qRd)); exact HO423.out) hb)
    replace HO430 := qA (Kd.R_below (by (with_reducible repeat (first | apply qRa | apply qRn | apply qRd)); exact HO430.out) hb)
    replace BK365 := qA (qbb (g := gb365) (o := .cells #[.int .i64 a2_0, .int .i64 a2_1, .bool a2_2] 37 (0, 0)) (by (with_reducible repeat (first | refine qbn ?_ _ | refine qbd ?_ | refine qba ?_ _)); exact BK365.out) hb)
    replace BK384 := qA (qbb (g := gb384) (o := .cells #[.int .i64 t380, .int .i64 t381, .bool t382] 37 (0, 0)) (by (with_reducible repeat (first | refine qbn ?_ _ | refine qbd ?_ | refine qba ?_ _)); exact BK384.out) hb)
    replace BK401 := qA (qbb (g := gb401) (o := .cells #[.int .i64 t397, .int .i64 t398, .bool t399] 37 (0, 0)) (by (with_reducible repeat (first | refine qbn ?_ _ | refine qbd ?_ | refine qba ?_ _)); exact BK401.out) hb)
    replace BK418 := qA (qbb (g := gb418) (o := .cells #[.int .i64 t414, .int .i64 t415, .bool t416] 37 (0, 0)) (by (with_reducible repeat (first | refine qbn ?_ _ | refine qbd ?_ | refine qba ?_ _)); exact BK418.out) hb)
    replace HB := qA (qst (by repeat (first | (with_reducible first | exact HB.out | apply qla | apply qln | apply qld | refine qse ?_ GE365.out | refine qse ?_ GE384.out | refine qse ?_ GE401.out | refine qse ?_ GE418.out) | exact HB.out)) hb)
    refine hK.out _ _ ⟨(qbc BK365.out 0).trans rfl, (qbc BK365.out 1).trans rfl, (qbc BK365.out 2).trans rfl⟩ (fun hHeld => ?_)
    clear hK K
    refine norm_ (a' := ?_) ?_ ?_
    rotate_left
    ·show Act.put _ (some 56) _ = _
     simp only [Act.put, qs1, qs2, qs3, i64_w, i32_w]
     rfl
    refine pure_ (i := 5) (N := some 51) (v := ?_) (a' := ?_) #[qT,qT,qT,qT,qT,qT,qF,qF,qF,qF,qF] rfl rfl (any_of HT_.out (by kernel_rfl)) (fun _ _ _ h => h) (Or.inl ⟨by rfl, ?_⟩) ?_ ?_
    rotate_left
    ·intro w'
     go_simp
     with_reducible rfl
    rotate_left
    ·simp only [Act.put, qs1, qs2, qs3, i64_w, i32_w]
     rfl
    refine pure_ (i := 6) (N := some 57) (v := ?_) (a' := ?_) #[qT,qT,qT,qT,qT,qT,qT,qF,qF,qF,qF] rfl rfl (any_of HT_.out (by kernel_rfl)) (fun _ _ _ h => h) (Or.inl ⟨by rfl, ?_⟩) ?_ ?_
    rotate_left
    ·intro w'
     go_simp
     with_reducible rfl
    rotate_left
    ·simp only [Act.put, qs1, qs2, qs3, i64_w, i32_w]
     rfl
    refine pure_ (i := 7) (N := some 58) (v := ?_) (a' := ?_) #[qT,qT,qT,qT,qT,qT,qT,qT,qF,qF,qF] rfl rfl (any_of HT_.out (by kernel_rfl)) (fun _ _ _ h => h) (Or.inl ⟨by rfl, ?_⟩) ?_ ?_
    rotate_left
    ·intro w'
     go_simp
     with_reducible rfl
    rotate_left
    ·simp only [Act.put, qs1, qs2, qs3, i64_w, i32_w]
     rfl
    refine one_ (i := 8) (N := some 17) #[qT,qT,qT,qT,qT,qT,qT,qT,qT,qF,qF] rfl rfl (one_of HT_.out (by kernel_rfl)) (by decide) (fun K hK => ?_)
    refine box_step ?hg (N := 17) ?hd (cs := #[.int .i64 0, .int .i64 0, .bool false]) (t := 37) ?hr ?_; (case hd => rfl); (case hg => rfl); (case hr => first | (go_simp; done) | (go_simp; rfl))
    intro gb435 hg w56 hbox hb
    have n0_ := qA (Kd.R_below (by (with_reducible repeat (first | apply qRa | apply qRn | apply qRd)); exact HO372.out) hb)
    have n1_ := qA (Kd.R_below (by (with_reducible repeat (first | apply qRa | apply qRn | apply qRd)); exact HO379.out) hb)
    have n2_ := qA (Kd.R_below (by (with_reducible repeat (first | apply qRa | apply qRn | apply qRd)); exact HO389.out) hb)
    have n3_ := qA (Kd.R_below (by (with_reducible repeat (first | apply qRa | apply qRn | apply qRd)); exact HO396.out) hb)
    have n4_ := qA (Kd.R_below (by (with_reducible repeat (first | apply qRa | apply qRn | apply qRd)); exact HO406.out) hb)
    have n5_ := qA (Kd.R_below (by (with_reducible repeat (first | apply qRa | apply qRn | apply qRd)); exact HO413.out) hb)
    have n6_ := qA (Kd.R_below (by (with_reducible repeat (first | apply qRa | apply qRn | apply qRd)); exact HO423.out) hb)
    have n7_ := qA (Kd.R_below (by (with_reducible repeat (first | apply qRa | apply qRn | apply qRd)); exact HO430.out) hb)
    have n8_ := qA (qbb (g := gb365) (o := .cells #[.int .i64 a2_0, .int .i64 a2_1, .bool a2_2] 37 (0, 0)) (by (with_reducible repeat (first | refine qbn ?_ _ | refine qbd ?_ | refine qba ?_ _)); exact BK365.out) hb)
    have n9_ := qA (qbb (g := gb384) (o := .cells #[.int .i64 t380, .int .i64 t381, .bool t382] 37 (0, 0)) (by (with_reducible repeat (first | refine qbn ?_ _ | refine qbd ?_ | refine qba ?_ _)); exact BK384.out) hb)
    have n10_ := qA (qbb (g := gb401) (o := .cells #[.int .i64 t397, .int .i64 t398, .bool t399] 37 (0, 0)) (by (with_reducible repeat (first | refine qbn ?_ _ | refine qbd ?_ | refine qba ?_ _)); exact BK401.out) hb)
    have n11_ := qA (qbb (g := gb418) (o := .cells #[.int .i64 t414, .int .i64 t415, .bool t416] 37 (0, 0)) (by (with_reducible repeat (first | refine qbn ?_ _ | refine qbd ?_ | refine qba ?_ _)); exact BK418.out) hb)
    have n12_ := qA (qst (by repeat (first | (with_reducible first | exact HB.out | apply qla | apply qln | apply qld | refine qse ?_ GE365.out | refine qse ?_ GE384.out | refine qse ?_ GE401.out | refine qse ?_ GE418.out) | exact HB.out)) hb)
    have n13_ := qA (hbox)
    have n14_ := qA ((by rw [hg]; exact (qsz (by repeat (first | (with_reducible first | exact HB.out | apply qla | apply qln | apply qld | refine qse ?_ GE365.out | refine qse ?_ GE384.out | refine qse ?_ GE401.out | refine qse ?_ GE418.out) | exact HB.out))) : w.heap.size ≤ gb435))
    have n15_ := qA ((by rw [hg]; exact (qsz (by repeat (first | (with_reducible first | exact HB.out | apply qla | apply qln | apply qld | refine qse ?_ GE365.out | refine qse ?_ GE384.out | refine qse ?_ GE401.out | refine qse ?_ GE418.out) | exact HB.out))) : w.heap.size ≤ gb435))
    have n16_ := qA ((by rw [hg]; exact Nat.ne_of_lt (blk_lt (g := gb365) (o := .cells #[.int .i64 a2_0, .int .i64 a2_1, .bool a2_2] 37 (0, 0)) (by (with_reducible repeat (first | refine qbn ?_ _ | refine qbd ?_ | refine qba ?_ _)); exact BK365.out)) : gb365 ≠ gb435))
    have n17_ := qA ((by rw [hg]; exact Nat.ne_of_gt (blk_lt (g := gb365) (o := .cells #[.int .i64 a2_0, .int .i64 a2_1, .bool a2_2] 37 (0, 0)) (by (with_reducible repeat (first | refine qbn ?_ _ | refine qbd ?_ | refine qba ?_ _)); exact BK365.out)) : gb435 ≠ gb365))
    have n18_ := qA ((by rw [hg]; exact Nat.ne_of_lt (blk_lt (g := gb384) (o := .cells #[.int .i64 t380, .int .i64 t381, .bool t382] 37 (0, 0)) (by (with_reducible repeat (first | refine qbn ?_ _ | refine qbd ?_ | refine qba ?_ _)); exact BK384.out)) : gb384 ≠ gb435))
    have n19_ := qA ((by rw [hg]; exact Nat.ne_of_gt (blk_lt (g := gb384) (o := .cells #[.int .i64 t380, .int .i64 t381, .bool t382] 37 (0, 0)) (by (with_reducible repeat (first | refine qbn ?_ _ | refine qbd ?_ | refine qba ?_ _)); exact BK384.out)) : gb435 ≠ gb384))
    have n20_ := qA ((by rw [hg]; exact Nat.ne_of_lt (blk_lt (g := gb401) (o := .cells #[.int .i64 t397, .int .i64 t398, .bool t399] 37 (0, 0)) (by (with_reducible repeat (first | refine qbn ?_ _ | refine qbd ?_ | refine qba ?_ _)); exact BK401.out)) : gb401 ≠ gb435))
    have n21_ := qA ((by rw [hg]; exact Nat.ne_of_gt (blk_lt (g := gb401) (o := .cells #[.int .i64 t397, .int .i64 t398, .bool t399] 37 (0, 0)) (by (with_reducible repeat (first | refine qbn ?_ _ | refine qbd ?_ | refine qba ?_ _)); exact BK401.out)) : gb435 ≠ gb401))
    have n22_ := qA ((by rw [hg]; exact Nat.ne_of_lt (blk_lt (g := gb418) (o := .cells #[.int .i64 t414, .int .i64 t415, .bool t416] 37 (0, 0)) (by (with_reducible repeat (first | refine qbn ?_ _ | refine qbd ?_ | refine qba ?_ _)); exact BK418.out)) : gb418 ≠ gb435))
    have n23_ := qA ((by rw [hg]; exact Nat.ne_of_gt (blk_lt (g := gb418) (o := .cells #[.int .i64 t414, .int .i64 t415, .bool t416] 37 (0, 0)) (by (with_reducible repeat (first | refine qbn ?_ _ | refine qbd ?_ | refine qba ?_ _)); exact BK418.out)) : gb435 ≠ gb418))
    clear HO372
    clear HO379
    clear HO389
    clear HO396
    clear HO406
    clear HO413
    clear HO423
    clear HO430
    clear BK365
    clear BK384
    clear BK401
    clear BK418
    clear HB
    have HO372 := n0_
    have HO379 := n1_
    have HO389 := n2_
    have HO396 := n3_
    have HO406 := n4_
    have HO413 := n5_
    have HO423 := n6_
    have HO430 := n7_
    have BK365 := n8_
    have BK384 := n9_
    have BK401 := n10_
    have BK418 := n11_
    have HB := n12_
    have BK435 := n13_
    have GW435 := n14_
    have GE435 := n15_
    have NB365_435 := n16_
    have NB435_365 := n17_
    have NB384_435 := n18_
    have NB435_384 := n19_
    have NB401_435 := n20_
    have NB435_401 := n21_
    have NB418_435 := n22_
    have NB435_418 := n23_
    clear n0_ n1_ n2_ n3_ n4_ n5_ n6_ n7_ n8_ n9_ n10_ n11_ n12_ n13_ n14_ n15_ n16_ n17_ n18_ n19_ n20_ n21_ n22_ n23_
    clear hb hbox hg
    refine hK.out _ _ ⟨(qbc BK365.out 0).trans rfl, (qbc BK365.out 1).trans rfl, (qbc BK365.out 2).trans rfl⟩ (fun hHeld => ?_)
    clear hK K
    refine norm_ (a' := ?_) ?_ ?_
    rotate_left
    ·show Act.put _ (some 17) _ = _
     simp only [Act.put, qs1, qs2, qs3, i64_w, i32_w]
     rfl
    exact norm_ (by simp only [putAll, Act.put, qs1, qs2, qs3]) (hCont (.slice Ao53 t421.length co53, .slice Ao54 t428.length co54, gb435) _ ⟨hHeld, (by (with_reducible repeat (first | apply qRa | apply qRn | apply qRd)); exact Kd.R_mono HO372.out (fun _ hk => ⟨hk.1.1, ⟨hk.1.2, hk.2⟩⟩)), (by (with_reducible repeat (first | apply qRa | apply qRn | apply qRd)); exact Kd.R_mono HO379.out (fun _ hk => ⟨hk.1.1, ⟨hk.1.2, hk.2⟩⟩)), (by (with_reducible repeat (first | apply qRa | apply qRn | apply qRd)); exact Kd.R_mono HO389.out (fun _ hk => ⟨hk.1.1, ⟨hk.1.2, hk.2⟩⟩)), (by (with_reducible repeat (first | apply qRa | apply qRn | apply qRd)); exact Kd.R_mono HO396.out (fun _ hk => ⟨hk.1.1, ⟨hk.1.2, hk.2⟩⟩)), (by (with_reducible repeat (first | apply qRa | apply qRn | apply qRd)); exact Kd.R_mono HO406.out (fun _ hk => ⟨hk.1.1, ⟨hk.1.2, hk.2⟩⟩)), (by (with_reducible repeat (first | apply qRa | apply qRn | apply qRd)); exact Kd.R_mono HO413.out (fun _ hk => ⟨hk.1.1, ⟨hk.1.2, hk.2⟩⟩)), (by (with_reducible repeat (first | apply qRa | apply qRn | apply qRd)); exact Kd.R_mono HO423.out (fun _ hk => ⟨hk.1.1.2, ⟨hk.1.2, hk.2⟩⟩)), (by (with_reducible repeat (first | apply qRa | apply qRn | apply qRd)); exact Kd.R_mono HO430.out (fun _ hk => ⟨hk.1.1.2, ⟨hk.1.2, hk.2⟩⟩)), (by (with_reducible repeat (first | refine qbn ?_ _ | refine qbd ?_ | refine qba ?_ _)); exact BK365.out), (by (with_reducible repeat (first | refine qbn ?_ _ | refine qbd ?_ | refine qba ?_ _)); exact BK384.out), (by (with_reducible repeat (first | refine qbn ?_ _ | refine qbd ?_ | refine qba ?_ _)); exact BK401.out), (by (with_reducible repeat (first | refine qbn ?_ _ | refine qbd ?_ | refine qba ?_ _)); exact BK418.out), (by (with_reducible repeat (first | refine qbn ?_ _ | refine qbd ?_ | refine qba ?_ _)); exact BK435.out), GW435.out, GE435.out, NB365_435.out, NB435_365.out, NB384_435.out, NB435_384.out, NB401_435.out, NB435_401.out, NB418_435.out, NB435_418.out, (by repeat (first | (with_reducible first | exact HB.out | apply qla | apply qln | apply qld | refine qse ?_ GE365.out | refine qse ?_ GE384.out | refine qse ?_ GE401.out | refine qse ?_ GE418.out | refine qse ?_ GE435.out) | exact HB.out))⟩)
   ·skip
    refine box_step ?hg (N := 17) ?hd (cs := #[.int .i64 0, .int .i64 0, .bool false]) (t := 37) ?hr ?_; (case hd => rfl); (case hg => rfl); (case hr => first | (go_simp; done) | (go_simp; rfl))
    intro gb435 hg w53 hbox hb
    have n0_ := qA (Kd.R_below (by (with_reducible repeat (first | apply qRa | apply qRn | apply qRd)); exact HO372.out) hb)
    have n1_ := qA (Kd.R_below (by (with_reducible repeat (first | apply qRa | apply qRn | apply qRd)); exact HO379.out) hb)
    have n2_ := qA (Kd.R_below (by (with_reducible repeat (first | apply qRa | apply qRn | apply qRd)); exact HO389.out) hb)
    have n3_ := qA (Kd.R_below (by (with_reducible repeat (first | apply qRa | apply qRn | apply qRd)); exact HO396.out) hb)
    have n4_ := qA (Kd.R_below (by (with_reducible repeat (first | apply qRa | apply qRn | apply qRd)); exact HO406.out) hb)
    have n5_ := qA (Kd.R_below (by (with_reducible repeat (first | apply qRa | apply qRn | apply qRd)); exact HO413.out) hb)
    have n6_ := qA (Kd.R_below (by (with_reducible repeat (first | apply qRa | apply qRn | apply qRd)); exact HO423.out) hb)
    have n7_ := qA (Kd.R_below (by (with_reducible repeat (first | apply qRa | apply qRn | apply qRd)); exact HO430.out) hb)
    have n8_ := qA (qbb (g := gb365) (o := .cells #[.int .i64 a2_0, .int .i64 a2_1, .bool a2_2] 37 (0, 0)) (by (with_reducible repeat (first | refine qbn ?_ _ | refine qbd ?_ | refine qba ?_ _)); exact BK365.out) hb)
    have n9_ := qA (qbb (g := gb384) (o := .cells #[.int .i64 t380, .int .i64 t381, .bool t382] 37 (0, 0)) (by (with_reducible repeat (first | refine qbn ?_ _ | refine qbd ?_ | refine qba ?_ _)); exact BK384.out) hb)
    have n10_ := qA (qbb (g := gb401) (o := .cells #[.int .i64 t397, .int .i64 t398, .bool t399] 37 (0, 0)) (by (with_reducible repeat (first | refine qbn ?_ _ | refine qbd ?_ | refine qba ?_ _)); exact BK401.out) hb)
    have n11_ := qA (qbb (g := gb418) (o := .cells #[.int .i64 t414, .int .i64 t415, .bool t416] 37 (0, 0)) (by (with_reducible repeat (first | refine qbn ?_ _ | refine qbd ?_ | refine qba ?_ _)); exact BK418.out) hb)
    have n12_ := qA (qst (by repeat (first | (with_reducible first | exact HB.out | apply qla | apply qln | apply qld | refine qse ?_ GE365.out | refine qse ?_ GE384.out | refine qse ?_ GE401.out | refine qse ?_ GE418.out) | exact HB.out)) hb)
    have n13_ := qA (hbox)
    have n14_ := qA ((by rw [hg]; exact (qsz (by repeat (first | (with_reducible first | exact HB.out | apply qla | apply qln | apply qld | refine qse ?_ GE365.out | refine qse ?_ GE384.out | refine qse ?_ GE401.out | refine qse ?_ GE418.out) | exact HB.out))) : w.heap.size ≤ gb435))
    have n15_ := qA ((by rw [hg]; exact (qsz (by repeat (first | (with_reducible first | exact HB.out | apply qla | apply qln | apply qld | refine qse ?_ GE365.out | refine qse ?_ GE384.out | refine qse ?_ GE401.out | refine qse ?_ GE418.out) | exact HB.out))) : w.heap.size ≤ gb435))
    have n16_ := qA ((by rw [hg]; exact Nat.ne_of_lt (blk_lt (g := gb365) (o := .cells #[.int .i64 a2_0, .int .i64 a2_1, .bool a2_2] 37 (0, 0)) (by (with_reducible repeat (first | refine qbn ?_ _ | refine qbd ?_ | refine qba ?_ _)); exact BK365.out)) : gb365 ≠ gb435))
    have n17_ := qA ((by rw [hg]; exact Nat.ne_of_gt (blk_lt (g := gb365) (o := .cells #[.int .i64 a2_0, .int .i64 a2_1, .bool a2_2] 37 (0, 0)) (by (with_reducible repeat (first | refine qbn ?_ _ | refine qbd ?_ | refine qba ?_ _)); exact BK365.out)) : gb435 ≠ gb365))
    have n18_ := qA ((by rw [hg]; exact Nat.ne_of_lt (blk_lt (g := gb384) (o := .cells #[.int .i64 t380, .int .i64 t381, .bool t382] 37 (0, 0)) (by (with_reducible repeat (first | refine qbn ?_ _ | refine qbd ?_ | refine qba ?_ _)); exact BK384.out)) : gb384 ≠ gb435))
    have n19_ := qA ((by rw [hg]; exact Nat.ne_of_gt (blk_lt (g := gb384) (o := .cells #[.int .i64 t380, .int .i64 t381, .bool t382] 37 (0, 0)) (by (with_reducible repeat (first | refine qbn ?_ _ | refine qbd ?_ | refine qba ?_ _)); exact BK384.out)) : gb435 ≠ gb384))
    have n20_ := qA ((by rw [hg]; exact Nat.ne_of_lt (blk_lt (g := gb401) (o := .cells #[.int .i64 t397, .int .i64 t398, .bool t399] 37 (0, 0)) (by (with_reducible repeat (first | refine qbn ?_ _ | refine qbd ?_ | refine qba ?_ _)); exact BK401.out)) : gb401 ≠ gb435))
    have n21_ := qA ((by rw [hg]; exact Nat.ne_of_gt (blk_lt (g := gb401) (o := .cells #[.int .i64 t397, .int .i64 t398, .bool t399] 37 (0, 0)) (by (with_reducible repeat (first | refine qbn ?_ _ | refine qbd ?_ | refine qba ?_ _)); exact BK401.out)) : gb435 ≠ gb401))
    have n22_ := qA ((by rw [hg]; exact Nat.ne_of_lt (blk_lt (g := gb418) (o := .cells #[.int .i64 t414, .int .i64 t415, .bool t416] 37 (0, 0)) (by (with_reducible repeat (first | refine qbn ?_ _ | refine qbd ?_ | refine qba ?_ _)); exact BK418.out)) : gb418 ≠ gb435))
    have n23_ := qA ((by rw [hg]; exact Nat.ne_of_gt (blk_lt (g := gb418) (o := .cells #[.int .i64 t414, .int .i64 t415, .bool t416] 37 (0, 0)) (by (with_reducible repeat (first | refine qbn ?_ _ | refine qbd ?_ | refine qba ?_ _)); exact BK418.out)) : gb435 ≠ gb418))
    clear HO372
    clear HO379
    clear HO389
    clear HO396
    clear HO406
    clear HO413
    clear HO423
    clear HO430
    clear BK365
    clear BK384
    clear BK401
    clear BK418
    clear HB
    have HO372 := n0_
    have HO379 := n1_
    have HO389 := n2_
    have HO396 := n3_
    have HO406 := n4_
    have HO413 := n5_
    have HO423 := n6_
    have HO430 := n7_
    have BK365 := n8_
    have BK384 := n9_
    have BK401 := n10_
    have BK418 := n11_
    have HB := n12_
    have BK435 := n13_
    have GW435 := n14_
    have GE435 := n15_
    have NB365_435 := n16_
    have NB435_365 := n17_
    have NB384_435 := n18_
    have NB435_384 := n19_
    have NB401_435 := n20_
    have NB435_401 := n21_
    have NB418_435 := n22_
    have NB435_418 := n23_
    clear n0_ n1_ n2_ n3_ n4_ n5_ n6_ n7_ n8_ n9_ n10_ n11_ n12_ n13_ n14_ n15_ n16_ n17_ n18_ n19_ n20_ n21_ n22_ n23_
    clear hb hbox hg
    obtain ⟨Ao54, co54, eo54⟩ := Kd.R_slice HO423.out
    (first | subst eo54 | (injection eo54 with f1_ f2_ f3_; have f4_ := f1_.symm; have f5_ := f3_.symm; clear f1_ f2_ f3_; subst f4_; subst f5_))
    obtain ⟨Ao55, co55, eo55⟩ := Kd.R_slice HO430.out
    (first | subst eo55 | (injection eo55 with f1_ f2_ f3_; have f4_ := f1_.symm; have f5_ := f3_.symm; clear f1_ f2_ f3_; subst f4_; subst f5_))
    refine hK.out _ _ ⟨(qbc BK365.out 0).trans rfl, (qbc BK365.out 1).trans rfl, (qbc BK365.out 2).trans rfl⟩ (fun hHeld => ?_)
    clear hK K
    refine norm_ (a' := ?_) ?_ ?_
    rotate_left
    ·show Act.put _ (some 17) _ = _
     simp only [Act.put, qs1, qs2, qs3, i64_w, i32_w]
     rfl
    refine one_ (i := 4) (N := some 56) #[qT,qT,qT,qT,qT,qF,qF,qF,qT,qF,qF] rfl rfl (one_of HT_.out (by kernel_rfl)) (by decide) (fun K hK => ?_)
    refine goes_ Try.func22 (by kernel_rfl) rfl #[.agg #[.int .i64 t419, .int .i64 t420, .slice Ao54 t421.length co54, .int .i64 t424, .int .i64 t425, .int .i64 t426, .int .i64 t427, .slice Ao55 t428.length co55], .agg #[.int .i64 a2_0, .int .i64 a2_1, .bool a2_2], .int .i64 a3] (by rfl) rfl rfl (by (try simp only [List.map_toArray, List.map_cons, List.map_nil]); first | done | rfl | (simp only [List.length_drop, List.length_take]; rfl)) ?_
    with_reducible refine (pid_Next.calls k t419 t420 _ _ t421 t424 t425 t426 t427 _ _ t428 a2_0 a2_1 a2_2 a3 t431 t432 t433 t434 _ ?side1 ?side2 ?side3 ?side4 A14.out).mono ?_
    (case side1 => repeat (first | exact (Kd.R_reads' HO423.out).2.2 | (with_reducible refine Kd.C_alloc ?_ _) | (with_reducible refine Kd.C_drewN ?_ _) | (with_reducible refine Kd.C_drew ?_)))
    (case side2 => exact (Kd.R_reads' HO423.out).2.1)
    (case side3 => repeat (first | exact (Kd.R_reads' HO430.out).2.2 | (with_reducible refine Kd.C_alloc ?_ _) | (with_reducible refine Kd.C_drewN ?_ _) | (with_reducible refine Kd.C_drew ?_)))
    (case side4 => exact (Kd.R_reads' HO430.out).2.1)
    rintro e w56 ⟨rfl, hb⟩
    refine ⟨_, rfl, ?_⟩
    replace HO372 := qA (Kd.R_below (by (with_reducible repeat (first | apply qRa | apply qRn | apply qRd)); exact HO372.out) hb)
    replace HO379 := qA (Kd.R_below (by (with_reducible repeat (first | apply qRa | apply qRn | apply qRd)); exact HO379.out) hb)
    replace HO389 := qA (Kd.R_below (by (with_reducible repeat (first | apply qRa | apply qRn | apply qRd)); exact HO389.out) hb)
    replace HO396 := qA (Kd.R_below (by (with_reducible repeat (first | apply qRa | apply qRn | apply qRd)); exact HO396.out) hb)
    replace HO406 := qA (Kd.R_below (by (with_reducible repeat (first | apply qRa | apply qRn | apply qRd)); exact HO406.out) hb)
    replace HO413 := qA (Kd.R_below (by (with_reducible repeat (first | apply qRa | apply qRn | apply qRd)); exact HO413.out) hb)
    replace HO423 := qA (Kd.R_below (by (with_reducible repeat (first | apply qRa | apply qRn | apply qRd)); exact HO423.out) hb)
    replace HO430 := qA (Kd.R_below (by (with_reducible repeat (first | apply qRa | apply qRn | apply qRd)); exact HO430.out) hb)
    replace BK365 := qA (qbb (g := gb365) (o := .cells #[.int .i64 a2_0, .int .i64 a2_1, .bool a2_2] 37 (0, 0)) (by (with_reducible repeat (first | refine qbn ?_ _ | refine qbd ?_ | refine qba ?_ _)); exact BK365.out) hb)
    replace BK384 := qA (qbb (g := gb384) (o := .cells #[.int .i64 t380, .int .i64 t381, .bool t382] 37 (0, 0)) (by (with_reducible repeat (first | refine qbn ?_ _ | refine qbd ?_ | refine qba ?_ _)); exact BK384.out) hb)
    replace BK401 := qA (qbb (g := gb401) (o := .cells #[.int .i64 t397, .int .i64 t398, .bool t399] 37 (0, 0)) (by (with_reducible repeat (first | refine qbn ?_ _ | refine qbd ?_ | refine qba ?_ _)); exact BK401.out) hb)
    replace BK418 := qA (qbb (g := gb418) (o := .cells #[.int .i64 t414, .int .i64 t415, .bool t416] 37 (0, 0)) (by (with_reducible repeat (first | refine qbn ?_ _ | refine qbd ?_ | refine qba ?_ _)); exact BK418.out) hb)
    replace BK435 := qA (qbb (g := gb435) (o := .cells #[.int .i64 0, .int .i64 0, .bool false] 37 (0, 0)) (by (with_reducible repeat (first | refine qbn ?_ _ | refine qbd ?_ | refine qba ?_ _)); exact BK435.out) hb)
    replace HB := qA (qst (by repeat (first | (with_reducible first | exact HB.out | apply qla | apply qln | apply qld | refine qse ?_ GE365.out | refine qse ?_ GE384.out | refine qse ?_ GE401.out | refine qse ?_ GE418.out | refine qse ?_ GE435.out) | exact HB.out)) hb)
    refine hK.out _ _ ⟨(qbc BK365.out 0).trans rfl, (qbc BK365.out 1).trans rfl, (qbc BK365.out 2).trans rfl⟩ (fun hHeld => ?_)
    clear hK K
    refine norm_ (a' := ?_) ?_ ?_
    rotate_left
    ·show Act.put _ (some 56) _ = _
     simp only [Act.put, qs1, qs2, qs3, i64_w, i32_w]
     rfl
    refine pure_ (i := 5) (N := some 51) (v := ?_) (a' := ?_) #[qT,qT,qT,qT,qT,qT,qF,qF,qT,qF,qF] rfl rfl (any_of HT_.out (by kernel_rfl)) (fun _ _ _ h => h) (Or.inl ⟨by rfl, ?_⟩) ?_ ?_
    rotate_left
    ·intro w'
     go_simp
     with_reducible rfl
    rotate_left
    ·simp only [Act.put, qs1, qs2, qs3, i64_w, i32_w]
     rfl
    refine pure_ (i := 6) (N := some 57) (v := ?_) (a' := ?_) #[qT,qT,qT,qT,qT,qT,qT,qF,qT,qF,qF] rfl rfl (any_of HT_.out (by kernel_rfl)) (fun _ _ _ h => h) (Or.inl ⟨by rfl, ?_⟩) ?_ ?_
    rotate_left
    ·intro w'
     go_simp
     with_reducible rfl
    rotate_left
    ·simp only [Act.put, qs1, qs2, qs3, i64_w, i32_w]
     rfl
    refine pure_ (i := 7) (N := some 58) (v := ?_) (a' := ?_) #[qT,qT,qT,qT,qT,qT,qT,qT,qT,qF,qF] rfl rfl (any_of HT_.out (by kernel_rfl)) (fun _ _ _ h => h) (Or.inl ⟨by rfl, ?_⟩) ?_ ?_
    rotate_left
    ·intro w'
     go_simp
     with_reducible rfl
    rotate_left
    ·simp only [Act.put, qs1, qs2, qs3, i64_w, i32_w]
     rfl
    exact norm_ (by simp only [putAll, Act.put, qs1, qs2, qs3]) (hCont (.slice Ao54 t421.length co54, .slice Ao55 t428.length co55, gb435) _ ⟨hHeld, (by (with_reducible repeat (first | apply qRa | apply qRn | apply qRd)); exact Kd.R_mono HO372.out (fun _ hk => ⟨hk.1.1, ⟨hk.1.2, hk.2⟩⟩)), (by (with_reducible repeat (first | apply qRa | apply qRn | apply qRd)); exact Kd.R_mono HO379.out (fun _ hk => ⟨hk.1.1, ⟨hk.1.2, hk.2⟩⟩)), (by (with_reducible repeat (first | apply qRa | apply qRn | apply qRd)); exact Kd.R_mono HO389.out (fun _ hk => ⟨hk.1.1, ⟨hk.1.2, hk.2⟩⟩)), (by (with_reducible repeat (first | apply qRa | apply qRn | apply qRd)); exact Kd.R_mono HO396.out (fun _ hk => ⟨hk.1.1, ⟨hk.1.2, hk.2⟩⟩)), (by (with_reducible repeat (first | apply qRa | apply qRn | apply qRd)); exact Kd.R_mono HO406.out (fun _ hk => ⟨hk.1.1, ⟨hk.1.2, hk.2⟩⟩)), (by (with_reducible repeat (first | apply qRa | apply qRn | apply qRd)); exact Kd.R_mono HO413.out (fun _ hk => ⟨hk.1.1, ⟨hk.1.2, hk.2⟩⟩)), (by (with_reducible repeat (first | apply qRa | apply qRn | apply qRd)); exact Kd.R_mono HO423.out (fun _ hk => ⟨hk.1.1.2, ⟨hk.1.2, hk.2⟩⟩)), (by (with_reducible repeat (first | apply qRa | apply qRn | apply qRd)); exact Kd.R_mono HO430.out (fun _ hk => ⟨hk.1.1.2, ⟨hk.1.2, hk.2⟩⟩)), (by (with_reducible repeat (first | refine qbn ?_ _ | refine qbd ?_ | refine qba ?_ _)); exact BK365.out), (by (with_reducible repeat (first | refine qbn ?_ _ | refine qbd ?_ | refine qba ?_ _)); exact BK384.out), (by (with_reducible repeat (first | refine qbn ?_ _ | refine qbd ?_ | refine qba ?_ _)); exact BK401.out), (by (with_reducible repeat (first | refine qbn ?_ _ | refine qbd ?_ | refine qba ?_ _)); exact BK418.out), (by (with_reducible repeat (first | refine qbn ?_ _ | refine qbd ?_ | refine qba ?_ _)); exact BK435.out), GW435.out, GE435.out, NB365_435.out, NB435_365.out, NB384_435.out, NB435_384.out, NB401_435.out, NB435_401.out, NB418_435.out, NB435_418.out, (by repeat (first | (with_reducible first | exact HB.out | apply qla | apply qln | apply qld | refine qse ?_ GE365.out | refine qse ?_ GE384.out | refine qse ?_ GE401.out | refine qse ?_ GE418.out | refine qse ?_ GE435.out) | exact HB.out))⟩)
  ·skip
   refine box_step ?hg (N := 17) ?hd (cs := #[.int .i64 0, .int .i64 0, .bool false]) (t := 37) ?hr ?_; (case hd => rfl); (case hg => rfl); (case hr => first | (go_simp; done) | (go_simp; rfl))
   intro gb435 hg w52 hbox hb
   have n0_ := qA (Kd.R_below (by (with_reducible repeat (first | apply qRa | apply qRn | apply qRd)); exact HO372.out) hb)
   have n1_ := qA (Kd.R_below (by (with_reducible repeat (first | apply qRa | apply qRn | apply qRd)); exact HO379.out) hb)
   have n2_ := qA (Kd.R_below (by (with_reducible repeat (first | apply qRa | apply qRn | apply qRd)); exact HO389.out) hb)
   have n3_ := qA (Kd.R_below (by (with_reducible repeat (first | apply qRa | apply qRn | apply qRd)); exact HO396.out) hb)
   have n4_ := qA (Kd.R_below (by (with_reducible repeat (first | apply qRa | apply qRn | apply qRd)); exact HO406.out) hb)
   have n5_ := qA (Kd.R_below (by (with_reducible repeat (first | apply qRa | apply qRn | apply qRd)); exact HO413.out) hb)
   have n6_ := qA (qbb (g := gb365) (o := .cells #[.int .i64 a2_0, .int .i64 a2_1, .bool a2_2] 37 (0, 0)) (by (with_reducible repeat (first | refine qbn ?_ _ | refine qbd ?_ | refine qba ?_ _)); exact BK365.out) hb)
   have n7_ := qA (qbb (g := gb384) (o := .cells #[.int .i64 t380, .int .i64 t381, .bool t382] 37 (0, 0)) (by (with_reducible repeat (first | refine qbn ?_ _ | refine qbd ?_ | refine qba ?_ _)); exact BK384.out) hb)
   have n8_ := qA (qbb (g := gb401) (o := .cells #[.int .i64 t397, .int .i64 t398, .bool t399] 37 (0, 0)) (by (with_reducible repeat (first | refine qbn ?_ _ | refine qbd ?_ | refine qba ?_ _)); exact BK401.out) hb)
   have n9_ := qA (qbb (g := gb418) (o := .cells #[.int .i64 t414, .int .i64 t415, .bool t416] 37 (0, 0)) (by (with_reducible repeat (first | refine qbn ?_ _ | refine qbd ?_ | refine qba ?_ _)); exact BK418.out) hb)
   have n10_ := qA (qst (by repeat (first | (with_reducible first | exact HB.out | apply qla | apply qln | apply qld | refine qse ?_ GE365.out | refine qse ?_ GE384.out | refine qse ?_ GE401.out | refine qse ?_ GE418.out) | exact HB.out)) hb)
   have n11_ := qA (hbox)
   have n12_ := qA ((by rw [hg]; exact (qsz (by repeat (first | (with_reducible first | exact HB.out | apply qla | apply qln | apply qld | refine qse ?_ GE365.out | refine qse ?_ GE384.out | refine qse ?_ GE401.out | refine qse ?_ GE418.out) | exact HB.out))) : w.heap.size ≤ gb435))
   have n13_ := qA ((by rw [hg]; exact (qsz (by repeat (first | (with_reducible first | exact HB.out | apply qla | apply qln | apply qld | refine qse ?_ GE365.out | refine qse ?_ GE384.out | refine qse ?_ GE401.out | refine qse ?_ GE418.out) | exact HB.out))) : w.heap.size ≤ gb435))
   have n14_ := qA ((by rw [hg]; exact Nat.ne_of_lt (blk_lt (g := gb365) (o := .cells #[.int .i64 a2_0, .int .i64 a2_1, .bool a2_2] 37 (0, 0)) (by (with_reducible repeat (first | refine qbn ?_ _ | refine qbd ?_ | refine qba ?_ _)); exact BK365.out)) : gb365 ≠ gb435))
   have n15_ := qA ((by rw [hg]; exact Nat.ne_of_gt (blk_lt (g := gb365) (o := .cells #[.int .i64 a2_0, .int .i64 a2_1, .bool a2_2] 37 (0, 0)) (by (with_reducible repeat (first | refine qbn ?_ _ | refine qbd ?_ | refine qba ?_ _)); exact BK365.out)) : gb435 ≠ gb365))
   have n16_ := qA ((by rw [hg]; exact Nat.ne_of_lt (blk_lt (g := gb384) (o := .cells #[.int .i64 t380, .int .i64 t381, .bool t382] 37 (0, 0)) (by (with_reducible repeat (first | refine qbn ?_ _ | refine qbd ?_ | refine qba ?_ _)); exact BK384.out)) : gb384 ≠ gb435))
   have n17_ := qA ((by rw [hg]; exact Nat.ne_of_gt (blk_lt (g := gb384) (o := .cells #[.int .i64 t380, .int .i64 t381, .bool t382] 37 (0, 0)) (by (with_reducible repeat (first | refine qbn ?_ _ | refine qbd ?_ | refine qba ?_ _)); exact BK384.out)) : gb435 ≠ gb384))
   have n18_ := qA ((by rw [hg]; exact Nat.ne_of_lt (blk_lt (g := gb401) (o := .cells #[.int .i64 t397, .int .i64 t398, .bool t399] 37 (0, 0)) (by (with_reducible repeat (first | refine qbn ?_ _ | refine qbd ?_ | refine qba ?_ _)); exact BK401.out)) : gb401 ≠ gb435))
   have n19_ := qA ((by rw [hg]; exact Nat.ne_of_gt (blk_lt (g := gb401) (o := .cells #[.int .i64 t397, .int .i64 t398, .bool t399] 37 (0, 0)) (by (with_reducible repeat (first | refine qbn ?_ _ | refine qbd ?_ | refine qba ?_ _)); exact BK401.out)) : gb435 ≠ gb401))
   have n20_ := qA ((by rw [hg]; exact Nat.ne_of_lt (blk_lt (g := gb418) (o := .cells #[.int .i64 t414, .int .i64 t415, .bool t416] 37 (0, 0)) (by (with_reducible repeat (first | refine qbn ?_ _ | refine qbd ?_ | refine qba ?_ _)); exact BK418.out)) : gb418 ≠ gb435))
   have n21_ := qA ((by rw [hg]; exact Nat.ne_of_gt (blk_lt (g := gb418) (o := .cells #[.int .i64 t414, .int .i64 t415, .bool t416] 37 (0, 0)) (by (with_reducible repeat (first | refine qbn ?_ _ | refine qbd ?_ | refine qba ?_ _)); exact BK418.out)) : gb435 ≠ gb418))
   clear HO372
   clear HO379
   clear HO389
   clear HO396
   clear HO406
   clear HO413
   clear BK365
   clear BK384
   clear BK401
   clear BK418
   clear HB
   have HO372 := n0_
   have HO379 := n1_
   have HO389 := n2_
   have HO396 := n3_
   have HO406 := n4_
   have HO413 := n5_
   have BK365 := n6_
   have BK384 := n7_
   have BK401 := n8_
   have BK418 := n9_
   have HB := n10_
   have BK435 := n11_
   have GW435 := n12_
   have GE435 := n13_
   have NB365_435 := n14_
   have NB435_365 := n15_
   have NB384_435 := n16_
   have NB435_384 := n17_
   have NB401_435 := n18_
   have NB435_401 := n19_
   have NB418_435 := n20_
   have NB435_418 := n21_
   clear n0_ n1_ n2_ n3_ n4_ n5_ n6_ n7_ n8_ n9_ n10_ n11_ n12_ n13_ n14_ n15_ n16_ n17_ n18_ n19_ n20_ n21_
   clear hb hbox hg
   refine hK.out _ _ ⟨(qbc BK365.out 0).trans rfl, (qbc BK365.out 1).trans rfl, (qbc BK365.out 2).trans rfl⟩ (fun hHeld => ?_)
   clear hK K
   refine norm_ (a' := ?_) ?_ ?_
   rotate_left
   ·show Act.put _ (some 17) _ = _
    simp only [Act.put, qs1, qs2, qs3, i64_w, i32_w]
    rfl
   refine one_ (i := 1) (N := some 53) #[qT,qT,qT,qT,qF,qF,qF,qF,qT,qF,qF] rfl rfl (one_of HT_.out (by kernel_rfl)) (by decide) (fun K hK => ?_)
   refine goes_ Try.func23 (by kernel_rfl) rfl #[.int .i64 a0, .int .i64 0, .int .i64 0, .int .i64 0] (by rfl) rfl rfl (by (try simp only [List.map_toArray, List.map_cons, List.map_nil]); first | done | rfl | (simp only [List.length_drop, List.length_take]; rfl)) ?_
   with_reducible refine (governorlaw12_Of.calls a0 0 0 0 t419 t420 t421 t424 t425 t426 t427 t428 _ A13.out).mono ?_
   rintro e w53 ⟨v422, v429, rfl, ho0, ho1, hb⟩
   refine ⟨_, rfl, ?_⟩
   have n0_ := qA (Kd.R_elder' (by (with_reducible repeat (first | apply qRa | apply qRn | apply qRd)); exact HO372.out) (Kd.R_base ho0) hb)
   have n1_ := qA (Kd.R_elder' (by (with_reducible repeat (first | apply qRa | apply qRn | apply qRd)); exact HO379.out) (Kd.R_base ho1) hb)
   have n2_ := qA (Kd.R_elder' (by (with_reducible repeat (first | apply qRa | apply qRn | apply qRd)); exact HO389.out) (Kd.R_base ho0) hb)
   have n3_ := qA (Kd.R_elder' (by (with_reducible repeat (first | apply qRa | apply qRn | apply qRd)); exact HO396.out) (Kd.R_base ho1) hb)
   have n4_ := qA (Kd.R_elder' (by (with_reducible repeat (first | apply qRa | apply qRn | apply qRd)); exact HO406.out) (Kd.R_base ho0) hb)
   have n5_ := qA (Kd.R_elder' (by (with_reducible repeat (first | apply qRa | apply qRn | apply qRd)); exact HO413.out) (Kd.R_base ho1) hb)
   have n6_ := qA (Kd.R_lower (Kd.R_new' (Kd.R_new' (Kd.R_new' ho0 (Kd.R_lt (by (with_reducible repeat (first | apply qRa | apply qRn | apply qRd)); exact HO372.out))) (Kd.R_lt (by (with_reducible repeat (first | apply qRa | apply qRn | apply qRd)); exact HO389.out))) (Kd.R_lt (by (with_reducible repeat (first | apply qRa | apply qRn | apply qRd)); exact HO406.out))) (qsz (by repeat (first | (with_reducible first | exact HB.out | apply qla | apply qln | apply qld | refine qse ?_ GE365.out | refine qse ?_ GE384.out | refine qse ?_ GE401.out | refine qse ?_ GE418.out | refine qse ?_ GE435.out) | exact HB.out))))
   have n7_ := qA (Kd.R_lower (Kd.R_new' (Kd.R_new' (Kd.R_new' ho1 (Kd.R_lt (by (with_reducible repeat (first | apply qRa | apply qRn | apply qRd)); exact HO379.out))) (Kd.R_lt (by (with_reducible repeat (first | apply qRa | apply qRn | apply qRd)); exact HO396.out))) (Kd.R_lt (by (with_reducible repeat (first | apply qRa | apply qRn | apply qRd)); exact HO413.out))) (qsz (by repeat (first | (with_reducible first | exact HB.out | apply qla | apply qln | apply qld | refine qse ?_ GE365.out | refine qse ?_ GE384.out | refine qse ?_ GE401.out | refine qse ?_ GE418.out | refine qse ?_ GE435.out) | exact HB.out))))
   have n8_ := qA (qbb (g := gb365) (o := .cells #[.int .i64 a2_0, .int .i64 a2_1, .bool a2_2] 37 (0, 0)) (by (with_reducible repeat (first | refine qbn ?_ _ | refine qbd ?_ | refine qba ?_ _)); exact BK365.out) hb)
   have n9_ := qA (qbb (g := gb384) (o := .cells #[.int .i64 t380, .int .i64 t381, .bool t382] 37 (0, 0)) (by (with_reducible repeat (first | refine qbn ?_ _ | refine qbd ?_ | refine qba ?_ _)); exact BK384.out) hb)
   have n10_ := qA (qbb (g := gb401) (o := .cells #[.int .i64 t397, .int .i64 t398, .bool t399] 37 (0, 0)) (by (with_reducible repeat (first | refine qbn ?_ _ | refine qbd ?_ | refine qba ?_ _)); exact BK401.out) hb)
   have n11_ := qA (qbb (g := gb418) (o := .cells #[.int .i64 t414, .int .i64 t415, .bool t416] 37 (0, 0)) (by (with_reducible repeat (first | refine qbn ?_ _ | refine qbd ?_ | refine qba ?_ _)); exact BK418.out) hb)
   have n12_ := qA (qbb (g := gb435) (o := .cells #[.int .i64 0, .int .i64 0, .bool false] 37 (0, 0)) (by (with_reducible repeat (first | refine qbn ?_ _ | refine qbd ?_ | refine qba ?_ _)); exact BK435.out) hb)
   have n13_ := qA (qst (by repeat (first | (with_reducible first | exact HB.out | apply qla | apply qln | apply qld | refine qse ?_ GE365.out | refine qse ?_ GE384.out | refine qse ?_ GE401.out | refine qse ?_ GE418.out | refine qse ?_ GE435.out) | exact HB.out)) hb)
   clear HO372
   clear HO379
   clear HO389
   clear HO396
   clear HO406
   clear HO413
   clear BK365
   clear BK384
   clear BK401
   clear BK418
   clear BK435
   clear HB
   have HO372 := n0_
   have HO379 := n1_
   have HO389 := n2_
   have HO396 := n3_
   have HO406 := n4_
   have HO413 := n5_
   have HO423 := n6_
   have HO430 := n7_
   have BK365 := n8_
   have BK384 := n9_
   have BK401 := n10_
   have BK418 := n11_
   have BK435 := n12_
   have HB := n13_
   clear n0_ n1_ n2_ n3_ n4_ n5_ n6_ n7_ n8_ n9_ n10_ n11_ n12_ n13_
   obtain ⟨Ao54, co54, eo54⟩ := Kd.R_slice HO423.out
   (first | subst eo54 | (injection eo54 with f1_ f2_ f3_; have f4_ := f1_.symm; have f5_ := f3_.symm; clear f1_ f2_ f3_; subst f4_; subst f5_))
   obtain ⟨Ao55, co55, eo55⟩ := Kd.R_slice HO430.out
   (first | subst eo55 | (injection eo55 with f1_ f2_ f3_; have f4_ := f1_.symm; have f5_ := f3_.symm; clear f1_ f2_ f3_; subst f4_; subst f5_))
   refine hK.out _ _ ⟨(qbc BK365.out 0).trans rfl, (qbc BK365.out 1).trans rfl, (qbc BK365.out 2).trans rfl⟩ (fun hHeld => ?_)
   clear hK K
   refine norm_ (a' := ?_) ?_ ?_
   rotate_left
   ·show Act.put _ (some 53) _ = _
    simp only [Act.put, qs1, qs2, qs3, i64_w, i32_w]
    rfl
   refine one_ (i := 4) (N := some 56) #[qT,qT,qT,qT,qT,qF,qF,qF,qT,qF,qF] rfl rfl (one_of HT_.out (by kernel_rfl)) (by decide) (fun K hK => ?_)
   refine goes_ Try.func22 (by kernel_rfl) rfl #[.agg #[.int .i64 t419, .int .i64 t420, .slice Ao54 t421.length co54, .int .i64 t424, .int .i64 t425, .int .i64 t426, .int .i64 t427, .slice Ao55 t428.length co55], .agg #[.int .i64 a2_0, .int .i64 a2_1, .bool a2_2], .int .i64 a3] (by rfl) rfl rfl (by (try simp only [List.map_toArray, List.map_cons, List.map_nil]); first | done | rfl | (simp only [List.length_drop, List.length_take]; rfl)) ?_
   with_reducible refine (pid_Next.calls k t419 t420 _ _ t421 t424 t425 t426 t427 _ _ t428 a2_0 a2_1 a2_2 a3 t431 t432 t433 t434 _ ?side1 ?side2 ?side3 ?side4 A14.out).mono ?_
   (case side1 => repeat (first | exact (Kd.R_reads' HO423.out).2.2 | (with_reducible refine Kd.C_alloc ?_ _) | (with_reducible refine Kd.C_drewN ?_ _) | (with_reducible refine Kd.C_drew ?_)))
   (case side2 => exact (Kd.R_reads' HO423.out).2.1)
   (case side3 => repeat (first | exact (Kd.R_reads' HO430.out).2.2 | (with_reducible refine Kd.C_alloc ?_ _) | (with_reducible refine Kd.C_drewN ?_ _) | (with_reducible refine Kd.C_drew ?_)))
   (case side4 => exact (Kd.R_reads' HO430.out).2.1)
   rintro e w56 ⟨rfl, hb⟩
   refine ⟨_, rfl, ?_⟩
   replace HO372 := qA (Kd.R_below (by (with_reducible repeat (first | apply qRa | apply qRn | apply qRd)); exact HO372.out) hb)
   replace HO379 := qA (Kd.R_below (by (with_reducible repeat (first | apply qRa | apply qRn | apply qRd)); exact HO379.out) hb)
   replace HO389 := qA (Kd.R_below (by (with_reducible repeat (first | apply qRa | apply qRn | apply qRd)); exact HO389.out) hb)
   replace HO396 := qA (Kd.R_below (by (with_reducible repeat (first | apply qRa | apply qRn | apply qRd)); exact HO396.out) hb)
   replace HO406 := qA (Kd.R_below (by (with_reducible repeat (first | apply qRa | apply qRn | apply qRd)); exact HO406.out) hb)
   replace HO413 := qA (Kd.R_below (by (with_reducible repeat (first | apply qRa | apply qRn | apply qRd)); exact HO413.out) hb)
   replace HO423 := qA (Kd.R_below (by (with_reducible repeat (first | apply qRa | apply qRn | apply qRd)); exact HO423.out) hb)
   replace HO430 := qA (Kd.R_below (by (with_reducible repeat (first | apply qRa | apply qRn | apply qRd)); exact HO430.out) hb)
   replace BK365 := qA (qbb (g := gb365) (o := .cells #[.int .i64 a2_0, .int .i64 a2_1, .bool a2_2] 37 (0, 0)) (by (with_reducible repeat (first | refine qbn ?_ _ | refine qbd ?_ | refine qba ?_ _)); exact BK365.out) hb)
   replace BK384 := qA (qbb (g := gb384) (o := .cells #[.int .i64 t380, .int .i64 t381, .bool t382] 37 (0, 0)) (by (with_reducible repeat (first | refine qbn ?_ _ | refine qbd ?_ | refine qba ?_ _)); exact BK384.out) hb)
   replace BK401 := qA (qbb (g := gb401) (o := .cells #[.int .i64 t397, .int .i64 t398, .bool t399] 37 (0, 0)) (by (with_reducible repeat (first | refine qbn ?_ _ | refine qbd ?_ | refine qba ?_ _)); exact BK401.out) hb)
   replace BK418 := qA (qbb (g := gb418) (o := .cells #[.int .i64 t414, .int .i64 t415, .bool t416] 37 (0, 0)) (by (with_reducible repeat (first | refine qbn ?_ _ | refine qbd ?_ | refine qba ?_ _)); exact BK418.out) hb)
   replace BK435 := qA (qbb (g := gb435) (o := .cells #[.int .i64 0, .int .i64 0, .bool false] 37 (0, 0)) (by (with_reducible repeat (first | refine qbn ?_ _ | refine qbd ?_ | refine qba ?_ _)); exact BK435.out) hb)
   replace HB := qA (qst (by repeat (first | (with_reducible first | exact HB.out | apply qla | apply qln | apply qld | refine qse ?_ GE365.out | refine qse ?_ GE384.out | refine qse ?_ GE401.out | refine qse ?_ GE418.out | refine qse ?_ GE435.out) | exact HB.out)) hb)
   refine hK.out _ _ ⟨(qbc BK365.out 0).trans rfl, (qbc BK365.out 1).trans rfl, (qbc BK365.out 2).trans rfl⟩ (fun hHeld => ?_)
   clear hK K
   refine norm_ (a' := ?_) ?_ ?_
   rotate_left
   ·show Act.put _ (some 56) _ = _
    simp only [Act.put, qs1, qs2, qs3, i64_w, i32_w]
    rfl
   refine pure_ (i := 5) (N := some 51) (v := ?_) (a' := ?_) #[qT,qT,qT,qT,qT,qT,qF,qF,qT,qF,qF] rfl rfl (any_of HT_.out (by kernel_rfl)) (fun _ _ _ h => h) (Or.inl ⟨by rfl, ?_⟩) ?_ ?_
   rotate_left
   ·intro w'
    go_simp
    with_reducible rfl
   rotate_left
   ·simp only [Act.put, qs1, qs2, qs3, i64_w, i32_w]
    rfl
   refine pure_ (i := 6) (N := some 57) (v := ?_) (a' := ?_) #[qT,qT,qT,qT,qT,qT,qT,qF,qT,qF,qF] rfl rfl (any_of HT_.out (by kernel_rfl)) (fun _ _ _ h => h) (Or.inl ⟨by rfl, ?_⟩) ?_ ?_
   rotate_left
   ·intro w'
    go_simp
    with_reducible rfl
   rotate_left
   ·simp only [Act.put, qs1, qs2, qs3, i64_w, i32_w]
    rfl
   refine pure_ (i := 7) (N := some 58) (v := ?_) (a' := ?_) #[qT,qT,qT,qT,qT,qT,qT,qT,qT,qF,qF] rfl rfl (any_of HT_.out (by kernel_rfl)) (fun _ _ _ h => h) (Or.inl ⟨by rfl, ?_⟩) ?_ ?_
   rotate_left
   ·intro w'
    go_simp
    with_reducible rfl
   rotate_left
   ·simp only [Act.put, qs1, qs2, qs3, i64_w, i32_w]
    rfl
   exact norm_ (by simp only [putAll, Act.put, qs1, qs2, qs3]) (hCont (.slice Ao54 t421.length co54, .slice Ao55 t428.length co55, gb435) _ ⟨hHeld, (by (with_reducible repeat (first | apply qRa | apply qRn | apply qRd)); exact Kd.R_mono HO372.out (fun _ hk => ⟨hk.1.1, ⟨hk.1.2, hk.2⟩⟩)), (by (with_reducible repeat (first | apply qRa | apply qRn | apply qRd)); exact Kd.R_mono HO379.out (fun _ hk => ⟨hk.1.1, ⟨hk.1.2, hk.2⟩⟩)), (by (with_reducible repeat (first | apply qRa | apply qRn | apply qRd)); exact Kd.R_mono HO389.out (fun _ hk => ⟨hk.1.1, ⟨hk.1.2, hk.2⟩⟩)), (by (with_reducible repeat (first | apply qRa | apply qRn | apply qRd)); exact Kd.R_mono HO396.out (fun _ hk => ⟨hk.1.1, ⟨hk.1.2, hk.2⟩⟩)), (by (with_reducible repeat (first | apply qRa | apply qRn | apply qRd)); exact Kd.R_mono HO406.out (fun _ hk => ⟨hk.1.1, ⟨hk.1.2, hk.2⟩⟩)), (by (with_reducible repeat (first | apply qRa | apply qRn | apply qRd)); exact Kd.R_mono HO413.out (fun _ hk => ⟨hk.1.1, ⟨hk.1.2, hk.2⟩⟩)), (by (with_reducible repeat (first | apply qRa | apply qRn | apply qRd)); exact Kd.R_mono HO423.out (fun _ hk => ⟨hk.1.1.2, ⟨hk.1.2, hk.2⟩⟩)), (by (with_reducible repeat (first | apply qRa | apply qRn | apply qRd)); exact Kd.R_mono HO430.out (fun _ hk => ⟨hk.1.1.2, ⟨hk.1.2, hk.2⟩⟩)), (by (with_reducible repeat (first | refine qbn ?_ _ | refine qbd ?_ | refine qba ?_ _)); exact BK365.out), (by (with_reducible repeat (first | refine qbn ?_ _ | refine qbd ?_ | refine qba ?_ _)); exact BK384.out), (by (with_reducible repeat (first | refine qbn ?_ _ | refine qbd ?_ | refine qba ?_ _)); exact BK401.out), (by (with_reducible repeat (first | refine qbn ?_ _ | refine qbd ?_ | refine qba ?_ _)); exact BK418.out), (by (with_reducible repeat (first | refine qbn ?_ _ | refine qbd ?_ | refine qba ?_ _)); exact BK435.out), GW435.out, GE435.out, NB365_435.out, NB435_365.out, NB384_435.out, NB435_384.out, NB401_435.out, NB435_401.out, NB418_435.out, NB435_418.out, (by repeat (first | (with_reducible first | exact HB.out | apply qla | apply qln | apply qld | refine qse ?_ GE365.out | refine qse ?_ GE384.out | refine qse ?_ GE401.out | refine qse ?_ GE418.out | refine qse ?_ GE435.out) | exact HB.out))⟩)
 rintro ⟨v422, v429, gb435⟩ w57 ⟨hS_, h0_, h1_, h2_, h3_, h4_, h5_, h6_, h7_, h8_, h9_, h10_, h11_, h12_, h13_, h14_, h15_, h16_, h17_, h18_, h19_, h20_, h21_, h22_, h23_⟩
 replace HO372 : Aside0 (Kd.R k29 29 w57 w.heap.size (fun k_ => some k_ ≠ (v388 : Value).ownBlock ∧ some k_ ≠ (v405 : Value).ownBlock ∧ some k_ ≠ (v422 : Value).ownBlock) v371 t370) := ⟨h0_⟩
 replace HO379 : Aside0 (Kd.R k71 71 w57 w.heap.size (fun k_ => some k_ ≠ (v395 : Value).ownBlock ∧ some k_ ≠ (v412 : Value).ownBlock ∧ some k_ ≠ (v429 : Value).ownBlock) v378 t377) := ⟨h1_⟩
 replace HO389 : Aside0 (Kd.R k29 29 w57 w.heap.size (fun k_ => some k_ ≠ (v371 : Value).ownBlock ∧ some k_ ≠ (v405 : Value).ownBlock ∧ some k_ ≠ (v422 : Value).ownBlock) v388 t387) := ⟨h2_⟩
 replace HO396 : Aside0 (Kd.R k71 71 w57 w.heap.size (fun k_ => some k_ ≠ (v378 : Value).ownBlock ∧ some k_ ≠ (v412 : Value).ownBlock ∧ some k_ ≠ (v429 : Value).ownBlock) v395 t394) := ⟨h3_⟩
 replace HO406 : Aside0 (Kd.R k29 29 w57 w.heap.size (fun k_ => some k_ ≠ (v371 : Value).ownBlock ∧ some k_ ≠ (v388 : Value).ownBlock ∧ some k_ ≠ (v422 : Value).ownBlock) v405 t404) := ⟨h4_⟩
 replace HO413 : Aside0 (Kd.R k71 71 w57 w.heap.size (fun k_ => some k_ ≠ (v378 : Value).ownBlock ∧ some k_ ≠ (v395 : Value).ownBlock ∧ some k_ ≠ (v429 : Value).ownBlock) v412 t411) := ⟨h5_⟩
 have HO423 : Aside0 (Kd.R k29 29 w57 w.heap.size (fun k_ => some k_ ≠ (v371 : Value).ownBlock ∧ some k_ ≠ (v388 : Value).ownBlock ∧ some k_ ≠ (v405 : Value).ownBlock) v422 t421) := ⟨h6_⟩
 have HO430 : Aside0 (Kd.R k71 71 w57 w.heap.size (fun k_ => some k_ ≠ (v378 : Value).ownBlock ∧ some k_ ≠ (v395 : Value).ownBlock ∧ some k_ ≠ (v412 : Value).ownBlock) v429 t428) := ⟨h7_⟩
 replace BK365 : Aside0 (w57.heap[gb365]? = some (.cells #[.int .i64 a2_0, .int .i64 a2_1, .bool a2_2] 37 (0, 0))) := ⟨h8_⟩
 replace BK384 : Aside0 (w57.heap[gb384]? = some (.cells #[.int .i64 t380, .int .i64 t381, .bool t382] 37 (0, 0))) := ⟨h9_⟩
 replace BK401 : Aside0 (w57.heap[gb401]? = some (.cells #[.int .i64 t397, .int .i64 t398, .bool t399] 37 (0, 0))) := ⟨h10_⟩
 replace BK418 : Aside0 (w57.heap[gb418]? = some (.cells #[.int .i64 t414, .int .i64 t415, .bool t416] 37 (0, 0))) := ⟨h11_⟩
 have BK435 : Aside0 (w57.heap[gb435]? = some (.cells #[.int .i64 0, .int .i64 0, .bool false] 37 (0, 0))) := ⟨h12_⟩
 have GW435 : Aside0 (w.heap.size ≤ gb435) := ⟨h13_⟩
 have GE435 : Aside0 (w.heap.size ≤ gb435) := ⟨h14_⟩
 have NB365_435 : Aside0 (gb365 ≠ gb435) := ⟨h15_⟩
 have NB435_365 : Aside0 (gb435 ≠ gb365) := ⟨h16_⟩
 have NB384_435 : Aside0 (gb384 ≠ gb435) := ⟨h17_⟩
 have NB435_384 : Aside0 (gb435 ≠ gb384) := ⟨h18_⟩
 have NB401_435 : Aside0 (gb401 ≠ gb435) := ⟨h19_⟩
 have NB435_401 : Aside0 (gb435 ≠ gb401) := ⟨h20_⟩
 have NB418_435 : Aside0 (gb418 ≠ gb435) := ⟨h21_⟩
 have NB435_418 : Aside0 (gb435 ≠ gb418) := ⟨h22_⟩
 replace HB : Aside0 (Below w.heap.size w w57) := ⟨h23_⟩
 clear h0_ h1_ h2_ h3_ h4_ h5_ h6_ h7_ h8_ h9_ h10_ h11_ h12_ h13_ h14_ h15_ h16_ h17_ h18_ h19_ h20_ h21_ h22_ h23_
 have hHeld : w57.cell? ⟨gb365, 0, none⟩ = some (.int .i64 a2_0) ∧ w57.cell? ⟨gb365, 1, none⟩ = some (.int .i64 a2_1) ∧ w57.cell? ⟨gb365, 2, none⟩ = some (.bool a2_2) := hS_
 refine norm_ (a' := ?_) ?_ ?_
 rotate_left
 ·simp only [putAll, Act.put, qs1, qs2, qs3]
  rfl
 refine one_ (i := 9) (N := none) #[qT,qT,qT,qT,qT,qT,qT,qT,qT,qT,qF] rfl rfl (one_of HT_.out (by kernel_rfl)) (by decide) (fun K hK => ?_)
 have hs58 : w57.cell? ⟨gb435, 0, none⟩ = some (.int .i64 0) := (qbc BK435.out 0).trans rfl
 have hfs58 := blk_frozen BK435.out 0
 have hns58_0 := NB365_435.out
 have hns58_1 := NB384_435.out
 have hns58_2 := NB401_435.out
 have hns58_3 := NB418_435.out
 have hms58_0 := NB435_365.out
 have hms58_1 := NB435_384.out
 have hms58_2 := NB435_401.out
 have hms58_3 := NB435_418.out
 have hs59 : w57.cell? ⟨gb435, 1, none⟩ = some (.int .i64 0) := (qbc BK435.out 1).trans rfl
 have hfs59 := blk_frozen BK435.out 1
 have hns59_0 := NB365_435.out
 have hns59_1 := NB384_435.out
 have hns59_2 := NB401_435.out
 have hns59_3 := NB418_435.out
 have hms59_0 := NB435_365.out
 have hms59_1 := NB435_384.out
 have hms59_2 := NB435_401.out
 have hms59_3 := NB435_418.out
 have hs60 : w57.cell? ⟨gb435, 2, none⟩ = some (.bool false) := (qbc BK435.out 2).trans rfl
 have hfs60 := blk_frozen BK435.out 2
 have hns60_0 := NB365_435.out
 have hns60_1 := NB384_435.out
 have hns60_2 := NB401_435.out
 have hns60_3 := NB418_435.out
 have hms60_0 := NB435_365.out
 have hms60_1 := NB435_384.out
 have hms60_2 := NB435_401.out
 have hms60_3 := NB435_418.out
 refine skip_ (w1 := ?_) (by rfl) rfl ?_ ?_
 rotate_left
 ·go_simp
  rfl
 refine hK.out _ _ ⟨((qcf (p := ⟨gb435, _, none⟩) NB365_435.out _).trans (((qcf (p := ⟨gb435, _, none⟩) NB365_435.out _).trans (((qcf (p := ⟨gb435, _, none⟩) NB365_435.out _).trans (hHeld.1)))))), ((qcf (p := ⟨gb435, _, none⟩) NB365_435.out _).trans (((qcf (p := ⟨gb435, _, none⟩) NB365_435.out _).trans (((qcf (p := ⟨gb435, _, none⟩) NB365_435.out _).trans (hHeld.2.1)))))), ((qcf (p := ⟨gb435, _, none⟩) NB365_435.out _).trans (((qcf (p := ⟨gb435, _, none⟩) NB365_435.out _).trans (((qcf (p := ⟨gb435, _, none⟩) NB365_435.out _).trans (hHeld.2.2))))))⟩ (fun hHeld => ?_)
 clear hK K
 refine pure_ (i := 10) (N := some 18) (v := ?_) (a' := ?_) #[qT,qT,qT,qT,qT,qT,qT,qT,qT,qT,qT] rfl rfl (any_of HT_.out (by kernel_rfl)) (fun _ _ _ h => h) (Or.inl ⟨by rfl, ?_⟩) ?_ ?_
 rotate_left
 ·intro w'
  go_simp
  with_reducible rfl
 rotate_left
 ·simp only [Act.put, qs1, qs2, qs3, i64_w, i32_w]
  rfl
 refine done_ (done_of HT_.out (by kernel_rfl)) ?_
 have hnb61 := NB365_384.out
 have hnc61 := NB384_365.out
 have hnb62 := NB365_401.out
 have hnc62 := NB401_365.out
 have hnb63 := NB365_418.out
 have hnc63 := NB418_365.out
 have hnb64 := NB365_435.out
 have hnc64 := NB435_365.out
 have hcz65_0 : w57.cell? ⟨gb365, 0, none⟩ = some (.int .i64 a2_0) := (qbc BK365.out 0).trans rfl
 have hcz65_1 : w57.cell? ⟨gb365, 1, none⟩ = some (.int .i64 a2_1) := (qbc BK365.out 1).trans rfl
 have hcz65_2 : w57.cell? ⟨gb365, 2, none⟩ = some (.bool a2_2) := (qbc BK365.out 2).trans rfl
 have hfz65_0 := blk_frozen BK365.out 0
 have hfz65_1 := blk_frozen BK365.out 1
 have hfz65_2 := blk_frozen BK365.out 2
 go_upto_if 60 with (fail)
 go_cut [19] (fun v19 wc => ∃ (kq : Nat) (x19_14 : Int), v19 = .int .i64 x19_14 ∧ Aside0 (governorlaw12_PidParts.j0 kq a1 t366 t367 t383 t400 t417 t434 x19_14 a2_0 a2_1 a2_2 t380 t381 t382 t397 t398 t399 t414 t415 t416 t431 t432 t433 = some r) ∧ Aside0 (kq ≤ k) ∧ Aside0 (wc.heap[gb365]? = some (.cells #[.int .i64 a2_0, .int .i64 a2_1, .bool a2_2] 37 (0, 0))) ∧ Aside0 (wc.heap[gb384]? = some (.cells #[.int .i64 t380, .int .i64 t381, .bool t382] 37 (0, 0))) ∧ Aside0 (wc.heap[gb401]? = some (.cells #[.int .i64 t397, .int .i64 t398, .bool t399] 37 (0, 0))) ∧ Aside0 (wc.heap[gb418]? = some (.cells #[.int .i64 t414, .int .i64 t415, .bool t416] 37 (0, 0))) ∧ Aside0 (wc.heap[gb435]? = some (.cells #[.int .i64 t431, .int .i64 t432, .bool t433] 37 (0, 0))) ∧ Aside0 (Below w.heap.size w wc))
 case first =>
  have H := HC15.out
  clear HC15
  by_cases c66 : a2_2 = true
  ·subst c66
   have H1 : ((governorref08_Sub.f t367 a2_1).bind fun t436 => (governorlaw12_PidParts.j0 k a1 t366 t367 t383 t400 t417 t434 t436 a2_0 a2_1 true t380 t381 t382 t397 t398 t399 t414 t415 t416 t431 t432 t433)) = some r := by rw [if_pos rfl] at H; exact H
   clear H
   have H := H1
   clear H1
   replace H := Option.bind_eq_some_iff.mp H
   obtain ⟨t436, A670, H⟩ := H
   replace H : (governorlaw12_PidParts.j0 k a1 t366 t367 t383 t400 t417 t434 t436 a2_0 a2_1 true t380 t381 t382 t397 t398 t399 t414 t415 t416 t431 t432 t433) = some r := H
   have A67 := qA A670
   clear A670
   have H' := qA H
   clear H
   have hnb68 := NB365_384.out
   have hnc68 := NB384_365.out
   have hnb69 := NB365_401.out
   have hnc69 := NB401_365.out
   have hnb70 := NB365_418.out
   have hnc70 := NB418_365.out
   have hnb71 := NB365_435.out
   have hnc71 := NB435_365.out
   have hcz72_0 : w57.cell? ⟨gb365, 0, none⟩ = some (.int .i64 a2_0) := (qbc BK365.out 0).trans rfl
   have hcz72_1 : w57.cell? ⟨gb365, 1, none⟩ = some (.int .i64 a2_1) := (qbc BK365.out 1).trans rfl
   have hcz72_2 : w57.cell? ⟨gb365, 2, none⟩ = some (.bool true) := (qbc BK365.out 2).trans rfl
   have hfz72_0 := blk_frozen BK365.out 0
   have hfz72_1 := blk_frozen BK365.out 1
   have hfz72_2 := blk_frozen BK365.out 2
   go_wp2_with (first | ((with_reducible refine gate_callee (f := 25) rfl ?_); refine goesL_ (some 64) rfl rfl Try.func25 (by kernel_rfl) rfl #[.int .i64 t367, .int .i64 a2_1] rfl (by (try simp only [List.map_toArray, List.map_cons, List.map_nil]); first | done | rfl | (simp only [List.length_drop, List.length_take]; rfl)) ?_; (with_reducible refine (governorref08_Sub.calls t367 a2_1 t436 _ A67.out).mono ?_); rintro e w' ⟨rfl, ⟨nd, rfl⟩⟩; refine ⟨_, rfl, ?_⟩))
   go_meet
   case rel => exact ⟨_, (t436), (by first | rfl | (simp; done) | (simp [*]; done)), H', ⟨by first | omega | exact Nat.le_refl _⟩, ⟨by (with_reducible repeat (first | refine qbn ?_ _ | refine qbd ?_ | refine qba ?_ _)); refine blk_far ?_ NB365_435.out _; (with_reducible repeat (first | refine qbn ?_ _ | refine qbd ?_ | refine qba ?_ _)); refine blk_far ?_ NB365_435.out _; (with_reducible repeat (first | refine qbn ?_ _ | refine qbd ?_ | refine qba ?_ _)); refine blk_far ?_ NB365_435.out _; (with_reducible repeat (first | refine qbn ?_ _ | refine qbd ?_ | refine qba ?_ _)); exact BK365.out⟩, ⟨by (with_reducible repeat (first | refine qbn ?_ _ | refine qbd ?_ | refine qba ?_ _)); refine blk_far ?_ NB384_435.out _; (with_reducible repeat (first | refine qbn ?_ _ | refine qbd ?_ | refine qba ?_ _)); refine blk_far ?_ NB384_435.out _; (with_reducible repeat (first | refine qbn ?_ _ | refine qbd ?_ | refine qba ?_ _)); refine blk_far ?_ NB384_435.out _; (with_reducible repeat (first | refine qbn ?_ _ | refine qbd ?_ | refine qba ?_ _)); exact BK384.out⟩, ⟨by (with_reducible repeat (first | refine qbn ?_ _ | refine qbd ?_ | refine qba ?_ _)); refine blk_far ?_ NB401_435.out _; (with_reducible repeat (first | refine qbn ?_ _ | refine qbd ?_ | refine qba ?_ _)); refine blk_far ?_ NB401_435.out _; (with_reducible repeat (first | refine qbn ?_ _ | refine qbd ?_ | refine qba ?_ _)); refine blk_far ?_ NB401_435.out _; (with_reducible repeat (first | refine qbn ?_ _ | refine qbd ?_ | refine qba ?_ _)); exact BK401.out⟩, ⟨by (with_reducible repeat (first | refine qbn ?_ _ | refine qbd ?_ | refine qba ?_ _)); refine blk_far ?_ NB418_435.out _; (with_reducible repeat (first | refine qbn ?_ _ | refine qbd ?_ | refine qba ?_ _)); refine blk_far ?_ NB418_435.out _; (with_reducible repeat (first | refine qbn ?_ _ | refine qbd ?_ | refine qba ?_ _)); refine blk_far ?_ NB418_435.out _; (with_reducible repeat (first | refine qbn ?_ _ | refine qbd ?_ | refine qba ?_ _)); exact BK418.out⟩, ⟨by (with_reducible repeat (first | refine qbn ?_ _ | refine qbd ?_ | refine qba ?_ _)); refine blk_put (cs := #[.int .i64 t431, .int .i64 t432, .bool false]) ?_ 2 _ rfl; (with_reducible repeat (first | refine qbn ?_ _ | refine qbd ?_ | refine qba ?_ _)); refine blk_put (cs := #[.int .i64 t431, .int .i64 0, .bool false]) ?_ 1 _ rfl; (with_reducible repeat (first | refine qbn ?_ _ | refine qbd ?_ | refine qba ?_ _)); refine blk_put (cs := #[.int .i64 0, .int .i64 0, .bool false]) ?_ 0 _ rfl; (with_reducible repeat (first | refine qbn ?_ _ | refine qbd ?_ | refine qba ?_ _)); exact BK435.out⟩, ⟨by repeat (first | (with_reducible first | exact HB.out | apply qla | apply qln | apply qld | refine qse ?_ GE365.out | refine qse ?_ GE384.out | refine qse ?_ GE401.out | refine qse ?_ GE418.out | refine qse ?_ GE435.out) | exact HB.out)⟩⟩
  ·replace c66 := Bool.eq_false_iff.mpr c66
   subst c66
   have H1 : (governorlaw12_PidParts.j0 k a1 t366 t367 t383 t400 t417 t434 0 a2_0 a2_1 false t380 t381 t382 t397 t398 t399 t414 t415 t416 t431 t432 t433) = some r := by rw [if_neg (show ¬ (false = true) by decide)] at H; exact H
   clear H
   have H := H1
   clear H1
   have H' := qA H
   clear H
   go_wp2
   go_meet
   case rel => exact ⟨_, (0), (by first | rfl | (simp; done) | (simp [*]; done)), H', ⟨by first | omega | exact Nat.le_refl _⟩, ⟨by (with_reducible repeat (first | refine qbn ?_ _ | refine qbd ?_ | refine qba ?_ _)); refine blk_far ?_ NB365_435.out _; (with_reducible repeat (first | refine qbn ?_ _ | refine qbd ?_ | refine qba ?_ _)); refine blk_far ?_ NB365_435.out _; (with_reducible repeat (first | refine qbn ?_ _ | refine qbd ?_ | refine qba ?_ _)); refine blk_far ?_ NB365_435.out _; (with_reducible repeat (first | refine qbn ?_ _ | refine qbd ?_ | refine qba ?_ _)); exact BK365.out⟩, ⟨by (with_reducible repeat (first | refine qbn ?_ _ | refine qbd ?_ | refine qba ?_ _)); refine blk_far ?_ NB384_435.out _; (with_reducible repeat (first | refine qbn ?_ _ | refine qbd ?_ | refine qba ?_ _)); refine blk_far ?_ NB384_435.out _; (with_reducible repeat (first | refine qbn ?_ _ | refine qbd ?_ | refine qba ?_ _)); refine blk_far ?_ NB384_435.out _; (with_reducible repeat (first | refine qbn ?_ _ | refine qbd ?_ | refine qba ?_ _)); exact BK384.out⟩, ⟨by (with_reducible repeat (first | refine qbn ?_ _ | refine qbd ?_ | refine qba ?_ _)); refine blk_far ?_ NB401_435.out _; (with_reducible repeat (first | refine qbn ?_ _ | refine qbd ?_ | refine qba ?_ _)); refine blk_far ?_ NB401_435.out _; (with_reducible repeat (first | refine qbn ?_ _ | refine qbd ?_ | refine qba ?_ _)); refine blk_far ?_ NB401_435.out _; (with_reducible repeat (first | refine qbn ?_ _ | refine qbd ?_ | refine qba ?_ _)); exact BK401.out⟩, ⟨by (with_reducible repeat (first | refine qbn ?_ _ | refine qbd ?_ | refine qba ?_ _)); refine blk_far ?_ NB418_435.out _; (with_reducible repeat (first | refine qbn ?_ _ | refine qbd ?_ | refine qba ?_ _)); refine blk_far ?_ NB418_435.out _; (with_reducible repeat (first | refine qbn ?_ _ | refine qbd ?_ | refine qba ?_ _)); refine blk_far ?_ NB418_435.out _; (with_reducible repeat (first | refine qbn ?_ _ | refine qbd ?_ | refine qba ?_ _)); exact BK418.out⟩, ⟨by (with_reducible repeat (first | refine qbn ?_ _ | refine qbd ?_ | refine qba ?_ _)); refine blk_put (cs := #[.int .i64 t431, .int .i64 t432, .bool false]) ?_ 2 _ rfl; (with_reducible repeat (first | refine qbn ?_ _ | refine qbd ?_ | refine qba ?_ _)); refine blk_put (cs := #[.int .i64 t431, .int .i64 0, .bool false]) ?_ 1 _ rfl; (with_reducible repeat (first | refine qbn ?_ _ | refine qbd ?_ | refine qba ?_ _)); refine blk_put (cs := #[.int .i64 0, .int .i64 0, .bool false]) ?_ 0 _ rfl; (with_reducible repeat (first | refine qbn ?_ _ | refine qbd ?_ | refine qba ?_ _)); exact BK435.out⟩, ⟨by repeat (first | (with_reducible first | exact HB.out | apply qla | apply qln | apply qld | refine qse ?_ GE365.out | refine qse ?_ GE384.out | refine qse ?_ GE401.out | refine qse ?_ GE418.out | refine qse ?_ GE435.out) | exact HB.out)⟩⟩
 case rest =>
  clear HC15
  try clear c2
  try clear p2
  try clear c6
  try clear c7
  try clear c22
  try clear c23
  try clear c25
  try clear c61
  try clear c62
  try clear c63
  try clear c64
  try clear c66
  try clear c68
  try clear c69
  try clear c70
  try clear c71
  try clear hcz65_0
  try clear hcz65_1
  try clear hcz65_2
  try clear hcz72_0
  try clear hcz72_1
  try clear hcz72_2
  try clear hfz65_0
  try clear hfz65_1
  try clear hfz65_2
  try clear hfz72_0
  try clear hfz72_1
  try clear hfz72_2
  obtain ⟨kq, x19_14, rfl, HA, HJ14, BK365, BK384, BK401, BK418, BK435, HB⟩ := hcut
  cases kq with
  | zero => exact absurd HA.out (by simp [governorlaw12_PidParts.j0])
  | succ kj14 =>
   have H := HA.out
   clear HA
   simp only [governorlaw12_PidParts.j0] at H
   by_cases c73 : t366 = true
   ·subst c73
    have H1 : (if (t380 == t431 && (t381 == t432 && (t382 == t433))) = true then (if (t397 == t431 && (t398 == t432 && (t399 == t433))) = true then (if (t414 == t431 && (t415 == t432 && (t416 == t433))) = true then (if t434 = 0 then (if t432 = t367 then ((governorref08_Add.f a2_0 t367).bind fun t437 => (if t431 = t437 then ((governorref08_Mul.f a1 t367).bind fun t438 => ((governorlaw12_near.f t438).bind fun t439 => (if t383 = t439 then ((governorref08_Mul.f a1 t431).bind fun t440 => ((governorlaw12_near.f t440).bind fun t441 => (if t400 = t441 then ((governorref08_Mul.f a1 x19_14).bind fun t442 => ((governorlaw12_near.f t442).bind fun t443 => (some (t417 == t443)))) else (some false)))) else (some false)))) else (some false))) else (some false)) else (some false)) else (some false)) else (some false)) else (some false)) = some r := by rw [if_pos rfl] at H; exact H
    clear H
    have H := H1
    clear H1
    by_cases c74 : (t380 == t431 && (t381 == t432 && (t382 == t433))) = true
    ·rw [if_pos c74] at H
     have c74b0 : (t380 == t431 && (t381 == t432 && (t382 == t433))) = true := c74
     (try (have c74b1 : decide (t380 = t431 && (t381 == t432 && (t382 == t433))) = true := by simpa using c74))
     (try (have c74b2 : (t380 == t431 && (t381 == t432 && (t382 == t433))) = true := by simpa using c74))
     clear c74
     by_cases c75 : (t397 == t431 && (t398 == t432 && (t399 == t433))) = true
     ·rw [if_pos c75] at H
      have c75b0 : (t397 == t431 && (t398 == t432 && (t399 == t433))) = true := c75
      (try (have c75b1 : decide (t397 = t431 && (t398 == t432 && (t399 == t433))) = true := by simpa using c75))
      (try (have c75b2 : (t397 == t431 && (t398 == t432 && (t399 == t433))) = true := by simpa using c75))
      clear c75
      by_cases c76 : (t414 == t431 && (t415 == t432 && (t416 == t433))) = true
      ·rw [if_pos c76] at H
       have c76b0 : (t414 == t431 && (t415 == t432 && (t416 == t433))) = true := c76
       (try (have c76b1 : decide (t414 = t431 && (t415 == t432 && (t416 == t433))) = true := by simpa using c76))
       (try (have c76b2 : (t414 == t431 && (t415 == t432 && (t416 == t433))) = true := by simpa using c76))
       clear c76
       by_cases c77 : t434 = 0
       ·rw [if_pos c77] at H
        have c77b0 : (t434 == 0) = true := beq_iff_eq.mpr c77
        have c77b1 : (t434 != 0) = false := bne_eq_false_iff_eq.mpr c77
        clear c77
        by_cases c78 : t432 = t367
        ·rw [if_pos c78] at H
         have c78b0 : (t432 == t367) = true := beq_iff_eq.mpr c78
         have c78b1 : (t432 != t367) = false := bne_eq_false_iff_eq.mpr c78
         clear c78
         replace H := Option.bind_eq_some_iff.mp H
         obtain ⟨t437, A790, H⟩ := H
         replace H : (if t431 = t437 then ((governorref08_Mul.f a1 t367).bind fun t438 => ((governorlaw12_near.f t438).bind fun t439 => (if t383 = t439 then ((governorref08_Mul.f a1 t431).bind fun t440 => ((governorlaw12_near.f t440).bind fun t441 => (if t400 = t441 then ((governorref08_Mul.f a1 x19_14).bind fun t442 => ((governorlaw12_near.f t442).bind fun t443 => (some (t417 == t443)))) else (some false)))) else (some false)))) else (some false)) = some r := H
         have A79 := qA A790
         clear A790
         by_cases c80 : t431 = t437
         ·rw [if_pos c80] at H
          have c80b0 : (t431 == t437) = true := beq_iff_eq.mpr c80
          have c80b1 : (t431 != t437) = false := bne_eq_false_iff_eq.mpr c80
          clear c80
          replace H := Option.bind_eq_some_iff.mp H
          obtain ⟨t438, A810, H⟩ := H
          replace H : ((governorlaw12_near.f t438).bind fun t439 => (if t383 = t439 then ((governorref08_Mul.f a1 t431).bind fun t440 => ((governorlaw12_near.f t440).bind fun t441 => (if t400 = t441 then ((governorref08_Mul.f a1 x19_14).bind fun t442 => ((governorlaw12_near.f t442).bind fun t443 => (some (t417 == t443)))) else (some false)))) else (some false))) = some r := H
          have A81 := qA A810
          clear A810
          replace H := Option.bind_eq_some_iff.mp H
          obtain ⟨t439, A820, H⟩ := H
          replace H : (if t383 = t439 then ((governorref08_Mul.f a1 t431).bind fun t440 => ((governorlaw12_near.f t440).bind fun t441 => (if t400 = t441 then ((governorref08_Mul.f a1 x19_14).bind fun t442 => ((governorlaw12_near.f t442).bind fun t443 => (some (t417 == t443)))) else (some false)))) else (some false)) = some r := H
          have A82 := qA A820
          clear A820
          by_cases c83 : t383 = t439
          ·rw [if_pos c83] at H
           have c83b0 : (t383 == t439) = true := beq_iff_eq.mpr c83
           have c83b1 : (t383 != t439) = false := bne_eq_false_iff_eq.mpr c83
           clear c83
           replace H := Option.bind_eq_some_iff.mp H
           obtain ⟨t440, A840, H⟩ := H
           replace H : ((governorlaw12_near.f t440).bind fun t441 => (if t400 = t441 then ((governorref08_Mul.f a1 x19_14).bind fun t442 => ((governorlaw12_near.f t442).bind fun t443 => (some (t417 == t443)))) else (some false))) = some r := H
           have A84 := qA A840
           clear A840
           replace H := Option.bind_eq_some_iff.mp H
           obtain ⟨t441, A850, H⟩ := H
           replace H : (if t400 = t441 then ((governorref08_Mul.f a1 x19_14).bind fun t442 => ((governorlaw12_near.f t442).bind fun t443 => (some (t417 == t443)))) else (some false)) = some r := H
           have A85 := qA A850
           clear A850
           by_cases c86 : t400 = t441
           ·rw [if_pos c86] at H
            have c86b0 : (t400 == t441) = true := beq_iff_eq.mpr c86
            have c86b1 : (t400 != t441) = false := bne_eq_false_iff_eq.mpr c86
            clear c86
            replace H := Option.bind_eq_some_iff.mp H
            obtain ⟨t442, A870, H⟩ := H
            replace H : ((governorlaw12_near.f t442).bind fun t443 => (some (t417 == t443))) = some r := H
            have A87 := qA A870
            clear A870
            replace H := Option.bind_eq_some_iff.mp H
            obtain ⟨t443, A880, H⟩ := H
            replace H : (some (t417 == t443)) = some r := H
            have A88 := qA A880
            clear A880
            obtain rfl := Option.some.inj H
            try go_wp2
            replace BK365 := qA (qbd BK365.out)
            replace BK384 := qA (qbd BK384.out)
            replace BK401 := qA (qbd BK401.out)
            replace BK418 := qA (qbd BK418.out)
            replace BK435 := qA (qbd BK435.out)
            replace HB := qA (qld HB.out)
            refine start_ (n := 61) (S := fun w' => w'.cell? ⟨gb384, 0, none⟩ = some (.int .i64 t380) ∧ w'.cell? ⟨gb384, 1, none⟩ = some (.int .i64 t381) ∧ w'.cell? ⟨gb384, 2, none⟩ = some (.bool t382) ∧ w'.cell? ⟨gb435, 0, none⟩ = some (.int .i64 t431) ∧ w'.cell? ⟨gb435, 1, none⟩ = some (.int .i64 t432) ∧ w'.cell? ⟨gb435, 2, none⟩ = some (.bool t433) ∧ w'.cell? ⟨gb401, 0, none⟩ = some (.int .i64 t397) ∧ w'.cell? ⟨gb401, 1, none⟩ = some (.int .i64 t398) ∧ w'.cell? ⟨gb401, 2, none⟩ = some (.bool t399) ∧ w'.cell? ⟨gb418, 0, none⟩ = some (.int .i64 t414) ∧ w'.cell? ⟨gb418, 1, none⟩ = some (.int .i64 t415) ∧ w'.cell? ⟨gb418, 2, none⟩ = some (.bool t416) ∧ w'.cell? ⟨gb365, 0, none⟩ = some (.int .i64 a2_0) ∧ w'.cell? ⟨gb365, 1, none⟩ = some (.int .i64 a2_1) ∧ w'.cell? ⟨gb365, 2, none⟩ = some (.bool a2_2)) (ds := []) #[qF,qF,qF,qF,qF,qF,qF,qF,qF,qF,qF,qF,qF,qF,qF,qF,qF,qF,qF,qF,qF,qF,qF,qF,qF,qF,qF,qF,qF,qF,qF,qF,qF,qF,qF,qF,qF,qF,qF,qF,qF,qF,qF,qF,qF,qF,qF,qF,qF,qF,qF,qF,qF,qF,qF,qF,qF,qF,qF,qF,qF] (by kernel_rfl) rfl rfl ⟨(qbc BK384.out 0).trans rfl, (qbc BK384.out 1).trans rfl, (qbc BK384.out 2).trans rfl, (qbc BK435.out 0).trans rfl, (qbc BK435.out 1).trans rfl, (qbc BK435.out 2).trans rfl, (qbc BK401.out 0).trans rfl, (qbc BK401.out 1).trans rfl, (qbc BK401.out 2).trans rfl, (qbc BK418.out 0).trans rfl, (qbc BK418.out 1).trans rfl, (qbc BK418.out 2).trans rfl, (qbc BK365.out 0).trans rfl, (qbc BK365.out 1).trans rfl, (qbc BK365.out 2).trans rfl⟩ (fun hHeld => ?_); refine with_tabW governorlaw12_PidParts.tab10 governorlaw12_PidParts.bits10 (fun HT_ HW_ => ?_)
            generalize wc.drew = w89 at BK365 BK384 BK401 BK418 BK435 HB hHeld ⊢
            refine pure_ (i := 0) (N := some 65) (v := ?_) (a' := ?_) #[qT,qF,qF,qF,qF,qF,qF,qF,qF,qF,qF,qF,qF,qF,qF,qF,qF,qF,qF,qF,qF,qF,qF,qF,qF,qF,qF,qF,qF,qF,qF,qF,qF,qF,qF,qF,qF,qF,qF,qF,qF,qF,qF,qF,qF,qF,qF,qF,qF,qF,qF,qF,qF,qF,qF,qF,qF,qF,qF,qF,qF] rfl rfl (any_of HT_.out (by kernel_rfl)) (fun _ _ _ h => h) (Or.inl ⟨by rfl, ?_⟩) ?_ ?_
            rotate_left
            ·intro w'
             go_simp
             with_reducible rfl
            rotate_left
            ·simp only [Act.put, qs1, qs2, qs3, i64_w, i32_w]
             rfl
            refine pure_ (i := 1) (N := some 66) (v := ?_) (a' := ?_) #[qT,qT,qF,qF,qF,qF,qF,qF,qF,qF,qF,qF,qF,qF,qF,qF,qF,qF,qF,qF,qF,qF,qF,qF,qF,qF,qF,qF,qF,qF,qF,qF,qF,qF,qF,qF,qF,qF,qF,qF,qF,qF,qF,qF,qF,qF,qF,qF,qF,qF,qF,qF,qF,qF,qF,qF,qF,qF,qF,qF,qF] rfl rfl (any_of HT_.out (by kernel_rfl)) (fun _ _ _ h => h) (Or.inl ⟨by rfl, ?_⟩) ?_ ?_
            rotate_left
            ·intro w'
             go_simp
             with_reducible rfl
            rotate_left
            ·simp only [Act.put, qs1, qs2, qs3, i64_w, i32_w]
             rfl
            refine take_ (i := 2) (N := some 67) (v := ?_) (a' := ?_) #[qT,qT,qT,qF,qF,qF,qF,qF,qF,qF,qF,qF,qF,qF,qF,qF,qF,qF,qF,qF,qF,qF,qF,qF,qF,qF,qF,qF,qF,qF,qF,qF,qF,qF,qF,qF,qF,qF,qF,qF,qF,qF,qF,qF,qF,qF,qF,qF,qF,qF,qF,qF,qF,qF,qF,qF,qF,qF,qF,qF,qF] rfl rfl (take_ofW HT_.out HW_.out (by kernel_rfl)) (fun _ _ _ h => h) (Or.inl ⟨by rfl, ?_⟩) hHeld ?_ ?_
            rotate_left
            ·rintro w' ⟨s0, s1, s2, s3, s4, s5, s6, s7, s8, s9, s10, s11, s12, s13, s14⟩
             go_simp
             with_reducible rfl
            rotate_left
            ·simp only [Act.put, qs1, qs2, qs3, i64_w, i32_w]
             rfl
            refine take_ (i := 3) (N := some 68) (v := ?_) (a' := ?_) #[qT,qT,qT,qT,qF,qF,qF,qF,qF,qF,qF,qF,qF,qF,qF,qF,qF,qF,qF,qF,qF,qF,qF,qF,qF,qF,qF,qF,qF,qF,qF,qF,qF,qF,qF,qF,qF,qF,qF,qF,qF,qF,qF,qF,qF,qF,qF,qF,qF,qF,qF,qF,qF,qF,qF,qF,qF,qF,qF,qF,qF] rfl rfl (take_ofW HT_.out HW_.out (by kernel_rfl)) (fun _ _ _ h => h) (Or.inl ⟨by rfl, ?_⟩) hHeld ?_ ?_
            rotate_left
            ·rintro w' ⟨s0, s1, s2, s3, s4, s5, s6, s7, s8, s9, s10, s11, s12, s13, s14⟩
             go_simp
             with_reducible rfl
            rotate_left
            ·simp only [Act.put, qs1, qs2, qs3, i64_w, i32_w]
             rfl
            refine pure_ (i := 4) (N := some 69) (v := ?_) (a' := ?_) #[qT,qT,qT,qT,qT,qF,qF,qF,qF,qF,qF,qF,qF,qF,qF,qF,qF,qF,qF,qF,qF,qF,qF,qF,qF,qF,qF,qF,qF,qF,qF,qF,qF,qF,qF,qF,qF,qF,qF,qF,qF,qF,qF,qF,qF,qF,qF,qF,qF,qF,qF,qF,qF,qF,qF,qF,qF,qF,qF,qF,qF] rfl rfl (any_of HT_.out (by kernel_rfl)) (fun _ _ _ h => h) (Or.inl ⟨by rfl, ?_⟩) ?_ ?_
            rotate_left
            ·intro w'
             go_simp
             with_reducible rfl
            rotate_left
            ·simp only [Act.put, qs1, qs2, qs3, i64_w, i32_w]
             rfl
            refine pure_ (i := 5) (N := some 70) (v := ?_) (a' := ?_) #[qT,qT,qT,qT,qT,qT,qF,qF,qF,qF,qF,qF,qF,qF,qF,qF,qF,qF,qF,qF,qF,qF,qF,qF,qF,qF,qF,qF,qF,qF,qF,qF,qF,qF,qF,qF,qF,qF,qF,qF,qF,qF,qF,qF,qF,qF,qF,qF,qF,qF,qF,qF,qF,qF,qF,qF,qF,qF,qF,qF,qF] rfl rfl (any_of HT_.out (by kernel_rfl)) (fun _ _ _ h => h) (Or.inl ⟨by rfl, ?_⟩) ?_ ?_
            rotate_left
            ·intro w'
             go_simp
             with_reducible rfl
            rotate_left
            ·simp only [Act.put, qs1, qs2, qs3, i64_w, i32_w]
             rfl
            refine pure_ (i := 6) (N := some 71) (v := ?_) (a' := ?_) #[qT,qT,qT,qT,qT,qT,qT,qF,qF,qF,qF,qF,qF,qF,qF,qF,qF,qF,qF,qF,qF,qF,qF,qF,qF,qF,qF,qF,qF,qF,qF,qF,qF,qF,qF,qF,qF,qF,qF,qF,qF,qF,qF,qF,qF,qF,qF,qF,qF,qF,qF,qF,qF,qF,qF,qF,qF,qF,qF,qF,qF] rfl rfl (any_of HT_.out (by kernel_rfl)) (fun _ _ _ h => h) (Or.inl ⟨by rfl, ?_⟩) ?_ ?_
            rotate_left
            ·intro w'
             go_simp
             with_reducible rfl
            rotate_left
            ·simp only [Act.put, qs1, qs2, qs3, i64_w, i32_w]
             rfl
            refine take_ (i := 7) (N := some 72) (v := ?_) (a' := ?_) #[qT,qT,qT,qT,qT,qT,qT,qT,qF,qF,qF,qF,qF,qF,qF,qF,qF,qF,qF,qF,qF,qF,qF,qF,qF,qF,qF,qF,qF,qF,qF,qF,qF,qF,qF,qF,qF,qF,qF,qF,qF,qF,qF,qF,qF,qF,qF,qF,qF,qF,qF,qF,qF,qF,qF,qF,qF,qF,qF,qF,qF] rfl rfl (take_ofW HT_.out HW_.out (by kernel_rfl)) (fun _ _ _ h => h) (Or.inl ⟨by rfl, ?_⟩) hHeld ?_ ?_
            rotate_left
            ·rintro w' ⟨s0, s1, s2, s3, s4, s5, s6, s7, s8, s9, s10, s11, s12, s13, s14⟩
             go_simp
             with_reducible rfl
            rotate_left
            ·simp only [Act.put, qs1, qs2, qs3, i64_w, i32_w]
             rfl
            refine take_ (i := 8) (N := some 73) (v := ?_) (a' := ?_) #[qT,qT,qT,qT,qT,qT,qT,qT,qT,qF,qF,qF,qF,qF,qF,qF,qF,qF,qF,qF,qF,qF,qF,qF,qF,qF,qF,qF,qF,qF,qF,qF,qF,qF,qF,qF,qF,qF,qF,qF,qF,qF,qF,qF,qF,qF,qF,qF,qF,qF,qF,qF,qF,qF,qF,qF,qF,qF,qF,qF,qF] rfl rfl (take_ofW HT_.out HW_.out (by kernel_rfl)) (fun _ _ _ h => h) (Or.inl ⟨by rfl, ?_⟩) hHeld ?_ ?_
            rotate_left
            ·rintro w' ⟨s0, s1, s2, s3, s4, s5, s6, s7, s8, s9, s10, s11, s12, s13, s14⟩
             go_simp
             with_reducible rfl
            rotate_left
            ·simp only [Act.put, qs1, qs2, qs3, i64_w, i32_w]
             rfl
            refine pure_ (i := 9) (N := some 74) (v := ?_) (a' := ?_) #[qT,qT,qT,qT,qT,qT,qT,qT,qT,qT,qF,qF,qF,qF,qF,qF,qF,qF,qF,qF,qF,qF,qF,qF,qF,qF,qF,qF,qF,qF,qF,qF,qF,qF,qF,qF,qF,qF,qF,qF,qF,qF,qF,qF,qF,qF,qF,qF,qF,qF,qF,qF,qF,qF,qF,qF,qF,qF,qF,qF,qF] rfl rfl (any_of HT_.out (by kernel_rfl)) (fun _ _ _ h => h) (Or.inl ⟨by rfl, ?_⟩) ?_ ?_
            rotate_left
            ·intro w'
             go_simp
             with_reducible rfl
            rotate_left
            ·simp only [Act.put, qs1, qs2, qs3, i64_w, i32_w]
             rfl
            refine pure_ (i := 10) (N := some 75) (v := ?_) (a' := ?_) #[qT,qT,qT,qT,qT,qT,qT,qT,qT,qT,qT,qF,qF,qF,qF,qF,qF,qF,qF,qF,qF,qF,qF,qF,qF,qF,qF,qF,qF,qF,qF,qF,qF,qF,qF,qF,qF,qF,qF,qF,qF,qF,qF,qF,qF,qF,qF,qF,qF,qF,qF,qF,qF,qF,qF,qF,qF,qF,qF,qF,qF] rfl rfl (any_of HT_.out (by kernel_rfl)) (fun _ _ _ h => h) (Or.inl ⟨by rfl, ?_⟩) ?_ ?_
            rotate_left
            ·intro w'
             go_simp
             with_reducible rfl
            rotate_left
            ·simp only [Act.put, qs1, qs2, qs3, i64_w, i32_w]
             rfl
            refine pure_ (i := 11) (N := some 76) (v := ?_) (a' := ?_) #[qT,qT,qT,qT,qT,qT,qT,qT,qT,qT,qT,qT,qF,qF,qF,qF,qF,qF,qF,qF,qF,qF,qF,qF,qF,qF,qF,qF,qF,qF,qF,qF,qF,qF,qF,qF,qF,qF,qF,qF,qF,qF,qF,qF,qF,qF,qF,qF,qF,qF,qF,qF,qF,qF,qF,qF,qF,qF,qF,qF,qF] rfl rfl (any_of HT_.out (by kernel_rfl)) (fun _ _ _ h => h) (Or.inl ⟨by rfl, ?_⟩) ?_ ?_
            rotate_left
            ·intro w'
             go_simp
             with_reducible rfl
            rotate_left
            ·simp only [Act.put, qs1, qs2, qs3, i64_w, i32_w]
             rfl
            refine take_ (i := 12) (N := some 77) (v := ?_) (a' := ?_) #[qT,qT,qT,qT,qT,qT,qT,qT,qT,qT,qT,qT,qT,qF,qF,qF,qF,qF,qF,qF,qF,qF,qF,qF,qF,qF,qF,qF,qF,qF,qF,qF,qF,qF,qF,qF,qF,qF,qF,qF,qF,qF,qF,qF,qF,qF,qF,qF,qF,qF,qF,qF,qF,qF,qF,qF,qF,qF,qF,qF,qF] rfl rfl (take_ofW HT_.out HW_.out (by kernel_rfl)) (fun _ _ _ h => h) (Or.inl ⟨by rfl, ?_⟩) hHeld ?_ ?_
            rotate_left
            ·rintro w' ⟨s0, s1, s2, s3, s4, s5, s6, s7, s8, s9, s10, s11, s12, s13, s14⟩
             go_simp
             with_reducible rfl
            rotate_left
            ·simp only [Act.put, qs1, qs2, qs3, i64_w, i32_w]
             rfl
            refine take_ (i := 13) (N := some 78) (v := ?_) (a' := ?_) #[qT,qT,qT,qT,qT,qT,qT,qT,qT,qT,qT,qT,qT,qT,qF,qF,qF,qF,qF,qF,qF,qF,qF,qF,qF,qF,qF,qF,qF,qF,qF,qF,qF,qF,qF,qF,qF,qF,qF,qF,qF,qF,qF,qF,qF,qF,qF,qF,qF,qF,qF,qF,qF,qF,qF,qF,qF,qF,qF,qF,qF] rfl rfl (take_ofW HT_.out HW_.out (by kernel_rfl)) (fun _ _ _ h => h) (Or.inl ⟨by rfl, ?_⟩) hHeld ?_ ?_
            rotate_left
            ·rintro w' ⟨s0, s1, s2, s3, s4, s5, s6, s7, s8, s9, s10, s11, s12, s13, s14⟩
             go_simp
             with_reducible rfl
            rotate_left
            ·simp only [Act.put, qs1, qs2, qs3, i64_w, i32_w]
             rfl
            refine pure_ (i := 14) (N := some 79) (v := ?_) (a' := ?_) #[qT,qT,qT,qT,qT,qT,qT,qT,qT,qT,qT,qT,qT,qT,qT,qF,qF,qF,qF,qF,qF,qF,qF,qF,qF,qF,qF,qF,qF,qF,qF,qF,qF,qF,qF,qF,qF,qF,qF,qF,qF,qF,qF,qF,qF,qF,qF,qF,qF,qF,qF,qF,qF,qF,qF,qF,qF,qF,qF,qF,qF] rfl rfl (any_of HT_.out (by kernel_rfl)) (fun _ _ _ h => h) (Or.inl ⟨by rfl, ?_⟩) ?_ ?_
            rotate_left
            ·intro w'
             go_simp
             with_reducible rfl
            rotate_left
            ·simp only [Act.put, qs1, qs2, qs3, i64_w, i32_w]
             rfl
            refine pure_ (i := 15) (N := some 80) (v := ?_) (a' := ?_) #[qT,qT,qT,qT,qT,qT,qT,qT,qT,qT,qT,qT,qT,qT,qT,qT,qF,qF,qF,qF,qF,qF,qF,qF,qF,qF,qF,qF,qF,qF,qF,qF,qF,qF,qF,qF,qF,qF,qF,qF,qF,qF,qF,qF,qF,qF,qF,qF,qF,qF,qF,qF,qF,qF,qF,qF,qF,qF,qF,qF,qF] rfl rfl (any_of HT_.out (by kernel_rfl)) (fun _ _ _ h => h) (Or.inl ⟨by rfl, ?_⟩) ?_ ?_
            rotate_left
            ·intro w'
             go_simp
             with_reducible rfl
            rotate_left
            ·simp only [Act.put, qs1, qs2, qs3, i64_w, i32_w]
             rfl
            refine pure_ (i := 16) (N := some 81) (v := ?_) (a' := ?_) #[qT,qT,qT,qT,qT,qT,qT,qT,qT,qT,qT,qT,qT,qT,qT,qT,qT,qF,qF,qF,qF,qF,qF,qF,qF,qF,qF,qF,qF,qF,qF,qF,qF,qF,qF,qF,qF,qF,qF,qF,qF,qF,qF,qF,qF,qF,qF,qF,qF,qF,qF,qF,qF,qF,qF,qF,qF,qF,qF,qF,qF] rfl rfl (any_of HT_.out (by kernel_rfl)) (fun _ _ _ h => h) (Or.inl ⟨by rfl, ?_⟩) ?_ ?_
            rotate_left
            ·intro w'
             go_simp
             with_reducible rfl
            rotate_left
            ·simp only [Act.put, qs1, qs2, qs3, i64_w, i32_w]
             rfl
            refine pure_ (i := 17) (N := some 82) (v := ?_) (a' := ?_) #[qT,qT,qT,qT,qT,qT,qT,qT,qT,qT,qT,qT,qT,qT,qT,qT,qT,qT,qF,qF,qF,qF,qF,qF,qF,qF,qF,qF,qF,qF,qF,qF,qF,qF,qF,qF,qF,qF,qF,qF,qF,qF,qF,qF,qF,qF,qF,qF,qF,qF,qF,qF,qF,qF,qF,qF,qF,qF,qF,qF,qF] rfl rfl (any_of HT_.out (by kernel_rfl)) (fun _ _ _ h => h) (Or.inl ⟨by rfl, ?_⟩) ?_ ?_
            rotate_left
            ·intro w'
             go_simp
             with_reducible rfl
            rotate_left
            ·simp only [Act.put, qs1, qs2, qs3, i64_w, i32_w]
             rfl
            refine pure_ (i := 18) (N := some 83) (v := ?_) (a' := ?_) #[qT,qT,qT,qT,qT,qT,qT,qT,qT,qT,qT,qT,qT,qT,qT,qT,qT,qT,qT,qF,qF,qF,qF,qF,qF,qF,qF,qF,qF,qF,qF,qF,qF,qF,qF,qF,qF,qF,qF,qF,qF,qF,qF,qF,qF,qF,qF,qF,qF,qF,qF,qF,qF,qF,qF,qF,qF,qF,qF,qF,qF] rfl rfl (any_of HT_.out (by kernel_rfl)) (fun _ _ _ h => h) (Or.inl ⟨by rfl, ?_⟩) ?_ ?_
            rotate_left
            ·intro w'
             go_simp
             with_reducible rfl
            rotate_left
            ·simp only [Act.put, qs1, qs2, qs3, i64_w, i32_w]
             rfl
            refine pure_ (i := 19) (N := some 84) (v := ?_) (a' := ?_) #[qT,qT,qT,qT,qT,qT,qT,qT,qT,qT,qT,qT,qT,qT,qT,qT,qT,qT,qT,qT,qF,qF,qF,qF,qF,qF,qF,qF,qF,qF,qF,qF,qF,qF,qF,qF,qF,qF,qF,qF,qF,qF,qF,qF,qF,qF,qF,qF,qF,qF,qF,qF,qF,qF,qF,qF,qF,qF,qF,qF,qF] rfl rfl (any_of HT_.out (by kernel_rfl)) (fun _ _ _ h => h) (Or.inl ⟨by rfl, ?_⟩) ?_ ?_
            rotate_left
            ·intro w'
             go_simp
             with_reducible rfl
            rotate_left
            ·simp only [Act.put, qs1, qs2, qs3, i64_w, i32_w]
             rfl
            refine pure_ (i := 20) (N := some 85) (v := ?_) (a' := ?_) #[qT,qT,qT,qT,qT,qT,qT,qT,qT,qT,qT,qT,qT,qT,qT,qT,qT,qT,qT,qT,qT,qF,qF,qF,qF,qF,qF,qF,qF,qF,qF,qF,qF,qF,qF,qF,qF,qF,qF,qF,qF,qF,qF,qF,qF,qF,qF,qF,qF,qF,qF,qF,qF,qF,qF,qF,qF,qF,qF,qF,qF] rfl rfl (any_of HT_.out (by kernel_rfl)) (fun _ _ _ h => h) (Or.inl ⟨by rfl, ?_⟩) ?_ ?_
            rotate_left
            ·intro w'
             go_simp
             with_reducible rfl
            rotate_left
            ·simp only [Act.put, qs1, qs2, qs3, i64_w, i32_w]
             rfl
            refine pure_ (i := 21) (N := some 86) (v := ?_) (a' := ?_) #[qT,qT,qT,qT,qT,qT,qT,qT,qT,qT,qT,qT,qT,qT,qT,qT,qT,qT,qT,qT,qT,qT,qF,qF,qF,qF,qF,qF,qF,qF,qF,qF,qF,qF,qF,qF,qF,qF,qF,qF,qF,qF,qF,qF,qF,qF,qF,qF,qF,qF,qF,qF,qF,qF,qF,qF,qF,qF,qF,qF,qF] rfl rfl (any_of HT_.out (by kernel_rfl)) (fun _ _ _ h => h) (Or.inl ⟨by rfl, ?_⟩) ?_ ?_
            rotate_left
            ·intro w'
             go_simp
             with_reducible rfl
            rotate_left
            ·simp only [Act.put, qs1, qs2, qs3, i64_w, i32_w]
             rfl
            refine pure_ (i := 23) (N := some 88) (v := ?_) (a' := ?_) #[qT,qT,qT,qT,qT,qT,qT,qT,qT,qT,qT,qT,qT,qT,qT,qT,qT,qT,qT,qT,qT,qT,qF,qT,qF,qF,qF,qF,qF,qF,qF,qF,qF,qF,qF,qF,qF,qF,qF,qF,qF,qF,qF,qF,qF,qF,qF,qF,qF,qF,qF,qF,qF,qF,qF,qF,qF,qF,qF,qF,qF] rfl rfl (any_of HT_.out (by kernel_rfl)) (fun _ _ _ h => h) (Or.inl ⟨by rfl, ?_⟩) ?_ ?_
            rotate_left
            ·intro w'
             go_simp
             with_reducible rfl
            rotate_left
            ·simp only [Act.put, qs1, qs2, qs3, i64_w, i32_w]
             rfl
            refine take_ (i := 22) (N := some 87) (v := ?_) (a' := ?_) #[qT,qT,qT,qT,qT,qT,qT,qT,qT,qT,qT,qT,qT,qT,qT,qT,qT,qT,qT,qT,qT,qT,qT,qT,qF,qF,qF,qF,qF,qF,qF,qF,qF,qF,qF,qF,qF,qF,qF,qF,qF,qF,qF,qF,qF,qF,qF,qF,qF,qF,qF,qF,qF,qF,qF,qF,qF,qF,qF,qF,qF] rfl rfl (take_ofW HT_.out HW_.out (by kernel_rfl)) (fun _ _ _ h => h) (Or.inl ⟨by rfl, ?_⟩) hHeld ?_ ?_
            rotate_left
            ·rintro w' ⟨s0, s1, s2, s3, s4, s5, s6, s7, s8, s9, s10, s11, s12, s13, s14⟩
             go_simp
             with_reducible rfl
            rotate_left
            ·simp only [Act.put, qs1, qs2, qs3, i64_w, i32_w]
             rfl
            refine pure_ (i := 24) (N := some 89) (v := ?_) (a' := ?_) #[qT,qT,qT,qT,qT,qT,qT,qT,qT,qT,qT,qT,qT,qT,qT,qT,qT,qT,qT,qT,qT,qT,qT,qT,qT,qF,qF,qF,qF,qF,qF,qF,qF,qF,qF,qF,qF,qF,qF,qF,qF,qF,qF,qF,qF,qF,qF,qF,qF,qF,qF,qF,qF,qF,qF,qF,qF,qF,qF,qF,qF] rfl rfl (any_of HT_.out (by kernel_rfl)) (fun _ _ _ h => h) (Or.inl ⟨by rfl, ?_⟩) ?_ ?_
            rotate_left
            ·intro w'
             go_simp
             with_reducible rfl
            rotate_left
            ·simp only [Act.put, qs1, qs2, qs3, i64_w, i32_w]
             rfl
            refine pure_ (i := 25) (N := some 90) (v := ?_) (a' := ?_) #[qT,qT,qT,qT,qT,qT,qT,qT,qT,qT,qT,qT,qT,qT,qT,qT,qT,qT,qT,qT,qT,qT,qT,qT,qT,qT,qF,qF,qF,qF,qF,qF,qF,qF,qF,qF,qF,qF,qF,qF,qF,qF,qF,qF,qF,qF,qF,qF,qF,qF,qF,qF,qF,qF,qF,qF,qF,qF,qF,qF,qF] rfl rfl (any_of HT_.out (by kernel_rfl)) (fun _ _ _ h => h) (Or.inl ⟨by rfl, ?_⟩) ?_ ?_
            rotate_left
            ·intro w'
             go_simp
             with_reducible rfl
            rotate_left
            ·simp only [Act.put, qs1, qs2, qs3, i64_w, i32_w]
             rfl
            refine pure_ (i := 26) (N := some 91) (v := ?_) (a' := ?_) #[qT,qT,qT,qT,qT,qT,qT,qT,qT,qT,qT,qT,qT,qT,qT,qT,qT,qT,qT,qT,qT,qT,qT,qT,qT,qT,qT,qF,qF,qF,qF,qF,qF,qF,qF,qF,qF,qF,qF,qF,qF,qF,qF,qF,qF,qF,qF,qF,qF,qF,qF,qF,qF,qF,qF,qF,qF,qF,qF,qF,qF] rfl rfl (any_of HT_.out (by kernel_rfl)) (fun _ _ _ h => h) (Or.inl ⟨by rfl, ?_⟩) ?_ ?_
            rotate_left
            ·intro w'
             go_simp
             with_reducible rfl
            rotate_left
            ·simp only [Act.put, qs1, qs2, qs3, i64_w, i32_w]
             rfl
            refine pure_ (i := 27) (N := some 92) (v := ?_) (a' := ?_) #[qT,qT,qT,qT,qT,qT,qT,qT,qT,qT,qT,qT,qT,qT,qT,qT,qT,qT,qT,qT,qT,qT,qT,qT,qT,qT,qT,qT,qF,qF,qF,qF,qF,qF,qF,qF,qF,qF,qF,qF,qF,qF,qF,qF,qF,qF,qF,qF,qF,qF,qF,qF,qF,qF,qF,qF,qF,qF,qF,qF,qF] rfl rfl (any_of HT_.out (by kernel_rfl)) (fun _ _ _ h => h) (Or.inl ⟨by rfl, ?_⟩) ?_ ?_
            rotate_left
            ·intro w'
             go_simp
             with_reducible rfl
            rotate_left
            ·simp only [Act.put, qs1, qs2, qs3, i64_w, i32_w]
             rfl
            refine pure_ (i := 29) (N := some 94) (v := ?_) (a' := ?_) #[qT,qT,qT,qT,qT,qT,qT,qT,qT,qT,qT,qT,qT,qT,qT,qT,qT,qT,qT,qT,qT,qT,qT,qT,qT,qT,qT,qT,qF,qT,qF,qF,qF,qF,qF,qF,qF,qF,qF,qF,qF,qF,qF,qF,qF,qF,qF,qF,qF,qF,qF,qF,qF,qF,qF,qF,qF,qF,qF,qF,qF] rfl rfl (any_of HT_.out (by kernel_rfl)) (fun _ _ _ h => h) (Or.inl ⟨by rfl, ?_⟩) ?_ ?_
            rotate_left
            ·intro w'
             go_simp
             with_reducible rfl
            rotate_left
            ·simp only [Act.put, qs1, qs2, qs3, i64_w, i32_w]
             rfl
            refine pure_ (i := 31) (N := some 96) (v := ?_) (a' := ?_) #[qT,qT,qT,qT,qT,qT,qT,qT,qT,qT,qT,qT,qT,qT,qT,qT,qT,qT,qT,qT,qT,qT,qT,qT,qT,qT,qT,qT,qF,qT,qF,qT,qF,qF,qF,qF,qF,qF,qF,qF,qF,qF,qF,qF,qF,qF,qF,qF,qF,qF,qF,qF,qF,qF,qF,qF,qF,qF,qF,qF,qF] rfl rfl (any_of HT_.out (by kernel_rfl)) (fun _ _ _ h => h) (Or.inl ⟨by rfl, ?_⟩) ?_ ?_
            rotate_left
            ·intro w'
             go_simp
             with_reducible rfl
            rotate_left
            ·simp only [Act.put, qs1, qs2, qs3, i64_w, i32_w]
             rfl
            refine take_ (i := 28) (N := some 93) (v := ?_) (a' := ?_) #[qT,qT,qT,qT,qT,qT,qT,qT,qT,qT,qT,qT,qT,qT,qT,qT,qT,qT,qT,qT,qT,qT,qT,qT,qT,qT,qT,qT,qT,qT,qF,qT,qF,qF,qF,qF,qF,qF,qF,qF,qF,qF,qF,qF,qF,qF,qF,qF,qF,qF,qF,qF,qF,qF,qF,qF,qF,qF,qF,qF,qF] rfl rfl (take_ofW HT_.out HW_.out (by kernel_rfl)) (fun _ _ _ h => h) (Or.inl ⟨by rfl, ?_⟩) hHeld ?_ ?_
            rotate_left
            ·rintro w' ⟨s0, s1, s2, s3, s4, s5, s6, s7, s8, s9, s10, s11, s12, s13, s14⟩
             go_simp
             with_reducible rfl
            rotate_left
            ·simp only [Act.put, qs1, qs2, qs3, i64_w, i32_w]
             rfl
            refine take_ (i := 30) (N := some 95) (v := ?_) (a' := ?_) #[qT,qT,qT,qT,qT,qT,qT,qT,qT,qT,qT,qT,qT,qT,qT,qT,qT,qT,qT,qT,qT,qT,qT,qT,qT,qT,qT,qT,qT,qT,qT,qT,qF,qF,qF,qF,qF,qF,qF,qF,qF,qF,qF,qF,qF,qF,qF,qF,qF,qF,qF,qF,qF,qF,qF,qF,qF,qF,qF,qF,qF] rfl rfl (take_ofW HT_.out HW_.out (by kernel_rfl)) (fun _ _ _ h => h) (Or.inl ⟨by rfl, ?_⟩) hHeld ?_ ?_
            rotate_left
            ·rintro w' ⟨s0, s1, s2, s3, s4, s5, s6, s7, s8, s9, s10, s11, s12, s13, s14⟩
             go_simp
             with_reducible rfl
            rotate_left
            ·simp only [Act.put, qs1, qs2, qs3, i64_w, i32_w]
             rfl
            refine one_ (i := 32) (N := some 97) #[qT,qT,qT,qT,qT,qT,qT,qT,qT,qT,qT,qT,qT,qT,qT,qT,qT,qT,qT,qT,qT,qT,qT,qT,qT,qT,qT,qT,qT,qT,qT,qT,qT,qF,qF,qF,qF,qF,qF,qF,qF,qF,qF,qF,qF,qF,qF,qF,qF,qF,qF,qF,qF,qF,qF,qF,qF,qF,qF,qF,qF] rfl rfl (one_of HT_.out (by kernel_rfl)) (by decide) (fun K hK => ?_)
            refine goes_ Try.func26 (by kernel_rfl) rfl #[.int .i64 a2_0, .int .i64 t367] (by rfl) rfl rfl (by (try simp only [List.map_toArray, List.map_cons, List.map_nil]); first | done | rfl | (simp only [List.length_drop, List.length_take]; rfl)) ?_
            with_reducible refine (governorref08_Add.calls a2_0 t367 t437 _ A79.out).mono ?_
            rintro e w' ⟨rfl, ⟨nd, rfl⟩⟩
            refine ⟨_, rfl, ?_⟩
            refine hK.out _ _ ⟨(qbc BK384.out 0).trans rfl, (qbc BK384.out 1).trans rfl, (qbc BK384.out 2).trans rfl, (qbc BK435.out 0).trans rfl, (qbc BK435.out 1).trans rfl, (qbc BK435.out 2).trans rfl, (qbc BK401.out 0).trans rfl, (qbc BK401.out 1).trans rfl, (qbc BK401.out 2).trans rfl, (qbc BK418.out 0).trans rfl, (qbc BK418.out 1).trans rfl, (qbc BK418.out 2).trans rfl, (qbc BK365.out 0).trans rfl, (qbc BK365.out 1).trans rfl, (qbc BK365.out 2).trans rfl⟩ (fun hHeld => ?_)
            clear hK K
            refine norm_ (a' := ?_) ?_ ?_
            rotate_left
            ·show Act.put _ (some 97) _ = _
             simp only [Act.put, qs1, qs2, qs3, i64_w, i32_w]
             rfl
            refine pure_ (i := 33) (N := some 98) (v := ?_) (a' := ?_) #[qT,qT,qT,qT,qT,qT,qT,qT,qT,qT,qT,qT,qT,qT,qT,qT,qT,qT,qT,qT,qT,qT,qT,qT,qT,qT,qT,qT,qT,qT,qT,qT,qT,qT,qF,qF,qF,qF,qF,qF,qF,qF,qF,qF,qF,qF,qF,qF,qF,qF,qF,qF,qF,qF,qF,qF,qF,qF,qF,qF,qF] rfl rfl (any_of HT_.out (by kernel_rfl)) (fun _ _ _ h => h) (Or.inl ⟨by rfl, ?_⟩) ?_ ?_
            rotate_left
            ·intro w'
             go_simp
             with_reducible rfl
            rotate_left
            ·simp only [Act.put, qs1, qs2, qs3, i64_w, i32_w]
             rfl
            refine pure_ (i := 34) (N := some 99) (v := ?_) (a' := ?_) #[qT,qT,qT,qT,qT,qT,qT,qT,qT,qT,qT,qT,qT,qT,qT,qT,qT,qT,qT,qT,qT,qT,qT,qT,qT,qT,qT,qT,qT,qT,qT,qT,qT,qT,qT,qF,qF,qF,qF,qF,qF,qF,qF,qF,qF,qF,qF,qF,qF,qF,qF,qF,qF,qF,qF,qF,qF,qF,qF,qF,qF] rfl rfl (any_of HT_.out (by kernel_rfl)) (fun _ _ _ h => h) (Or.inl ⟨by rfl, ?_⟩) ?_ ?_
            rotate_left
            ·intro w'
             go_simp
             with_reducible rfl
            rotate_left
            ·simp only [Act.put, qs1, qs2, qs3, i64_w, i32_w]
             rfl
            refine pure_ (i := 35) (N := some 100) (v := ?_) (a' := ?_) #[qT,qT,qT,qT,qT,qT,qT,qT,qT,qT,qT,qT,qT,qT,qT,qT,qT,qT,qT,qT,qT,qT,qT,qT,qT,qT,qT,qT,qT,qT,qT,qT,qT,qT,qT,qT,qF,qF,qF,qF,qF,qF,qF,qF,qF,qF,qF,qF,qF,qF,qF,qF,qF,qF,qF,qF,qF,qF,qF,qF,qF] rfl rfl (any_of HT_.out (by kernel_rfl)) (fun _ _ _ h => h) (Or.inl ⟨by rfl, ?_⟩) ?_ ?_
            rotate_left
            ·intro w'
             go_simp
             with_reducible rfl
            rotate_left
            ·simp only [Act.put, qs1, qs2, qs3, i64_w, i32_w]
             rfl
            refine pure_ (i := 36) (N := some 101) (v := ?_) (a' := ?_) #[qT,qT,qT,qT,qT,qT,qT,qT,qT,qT,qT,qT,qT,qT,qT,qT,qT,qT,qT,qT,qT,qT,qT,qT,qT,qT,qT,qT,qT,qT,qT,qT,qT,qT,qT,qT,qT,qF,qF,qF,qF,qF,qF,qF,qF,qF,qF,qF,qF,qF,qF,qF,qF,qF,qF,qF,qF,qF,qF,qF,qF] rfl rfl (any_of HT_.out (by kernel_rfl)) (fun _ _ _ h => h) (Or.inl ⟨by rfl, ?_⟩) ?_ ?_
            rotate_left
            ·intro w'
             go_simp
             with_reducible rfl
            rotate_left
            ·simp only [Act.put, qs1, qs2, qs3, i64_w, i32_w]
             rfl
            refine pure_ (i := 37) (N := some 102) (v := ?_) (a' := ?_) #[qT,qT,qT,qT,qT,qT,qT,qT,qT,qT,qT,qT,qT,qT,qT,qT,qT,qT,qT,qT,qT,qT,qT,qT,qT,qT,qT,qT,qT,qT,qT,qT,qT,qT,qT,qT,qT,qT,qF,qF,qF,qF,qF,qF,qF,qF,qF,qF,qF,qF,qF,qF,qF,qF,qF,qF,qF,qF,qF,qF,qF] rfl rfl (any_of HT_.out (by kernel_rfl)) (fun _ _ _ h => h) (Or.inl ⟨by rfl, ?_⟩) ?_ ?_
            rotate_left
            ·intro w'
             go_simp
             with_reducible rfl
            rotate_left
            ·simp only [Act.put, qs1, qs2, qs3, i64_w, i32_w]
             rfl
            refine pure_ (i := 38) (N := some 103) (v := ?_) (a' := ?_) #[qT,qT,qT,qT,qT,qT,qT,qT,qT,qT,qT,qT,qT,qT,qT,qT,qT,qT,qT,qT,qT,qT,qT,qT,qT,qT,qT,qT,qT,qT,qT,qT,qT,qT,qT,qT,qT,qT,qT,qF,qF,qF,qF,qF,qF,qF,qF,qF,qF,qF,qF,qF,qF,qF,qF,qF,qF,qF,qF,qF,qF] rfl rfl (any_of HT_.out (by kernel_rfl)) (fun _ _ _ h => h) (Or.inl ⟨by rfl, ?_⟩) ?_ ?_
            rotate_left
            ·intro w'
             go_simp
             with_reducible rfl
            rotate_left
            ·simp only [Act.put, qs1, qs2, qs3, i64_w, i32_w]
             rfl
            refine one_ (i := 39) (N := some 104) #[qT,qT,qT,qT,qT,qT,qT,qT,qT,qT,qT,qT,qT,qT,qT,qT,qT,qT,qT,qT,qT,qT,qT,qT,qT,qT,qT,qT,qT,qT,qT,qT,qT,qT,qT,qT,qT,qT,qT,qT,qF,qF,qF,qF,qF,qF,qF,qF,qF,qF,qF,qF,qF,qF,qF,qF,qF,qF,qF,qF,qF] rfl rfl (one_of HT_.out (by kernel_rfl)) (by decide) (fun K hK => ?_)
            refine goes_ Try.func28 (by kernel_rfl) rfl #[.int .i64 a1, .int .i64 t367] (by rfl) rfl rfl (by (try simp only [List.map_toArray, List.map_cons, List.map_nil]); first | done | rfl | (simp only [List.length_drop, List.length_take]; rfl)) ?_
            with_reducible refine (governorref08_Mul.calls a1 t367 t438 _ A81.out).mono ?_
            rintro e w' ⟨rfl, ⟨nd, rfl⟩⟩
            refine ⟨_, rfl, ?_⟩
            refine hK.out _ _ ⟨(qbc BK384.out 0).trans rfl, (qbc BK384.out 1).trans rfl, (qbc BK384.out 2).trans rfl, (qbc BK435.out 0).trans rfl, (qbc BK435.out 1).trans rfl, (qbc BK435.out 2).trans rfl, (qbc BK401.out 0).trans rfl, (qbc BK401.out 1).trans rfl, (qbc BK401.out 2).trans rfl, (qbc BK418.out 0).trans rfl, (qbc BK418.out 1).trans rfl, (qbc BK418.out 2).trans rfl, (qbc BK365.out 0).trans rfl, (qbc BK365.out 1).trans rfl, (qbc BK365.out 2).trans rfl⟩ (fun hHeld => ?_)
            clear hK K
            refine norm_ (a' := ?_) ?_ ?_
            rotate_left
            ·show Act.put _ (some 104) _ = _
             simp only [Act.put, qs1, qs2, qs3, i64_w, i32_w]
             rfl
            refine one_ (i := 40) (N := some 105) #[qT,qT,qT,qT,qT,qT,qT,qT,qT,qT,qT,qT,qT,qT,qT,qT,qT,qT,qT,qT,qT,qT,qT,qT,qT,qT,qT,qT,qT,qT,qT,qT,qT,qT,qT,qT,qT,qT,qT,qT,qT,qF,qF,qF,qF,qF,qF,qF,qF,qF,qF,qF,qF,qF,qF,qF,qF,qF,qF,qF,qF] rfl rfl (one_of HT_.out (by kernel_rfl)) (by decide) (fun K hK => ?_)
            refine goes_ Try.func27 (by kernel_rfl) rfl #[.int .i64 t438] (by rfl) rfl rfl (by (try simp only [List.map_toArray, List.map_cons, List.map_nil]); first | done | rfl | (simp only [List.length_drop, List.length_take]; rfl)) ?_
            with_reducible refine (governorlaw12_near.calls t438 t439 _ A82.out).mono ?_
            rintro e w90 ⟨rfl, hb⟩
            refine ⟨_, rfl, ?_⟩
            replace BK365 := qA (qbb (g := gb365) (o := .cells #[.int .i64 a2_0, .int .i64 a2_1, .bool a2_2] 37 (0, 0)) (by (with_reducible repeat (first | refine qbn ?_ _ | refine qbd ?_ | refine qba ?_ _)); exact BK365.out) hb)
            replace BK384 := qA (qbb (g := gb384) (o := .cells #[.int .i64 t380, .int .i64 t381, .bool t382] 37 (0, 0)) (by (with_reducible repeat (first | refine qbn ?_ _ | refine qbd ?_ | refine qba ?_ _)); exact BK384.out) hb)
            replace BK401 := qA (qbb (g := gb401) (o := .cells #[.int .i64 t397, .int .i64 t398, .bool t399] 37 (0, 0)) (by (with_reducible repeat (first | refine qbn ?_ _ | refine qbd ?_ | refine qba ?_ _)); exact BK401.out) hb)
            replace BK418 := qA (qbb (g := gb418) (o := .cells #[.int .i64 t414, .int .i64 t415, .bool t416] 37 (0, 0)) (by (with_reducible repeat (first | refine qbn ?_ _ | refine qbd ?_ | refine qba ?_ _)); exact BK418.out) hb)
            replace BK435 := qA (qbb (g := gb435) (o := .cells #[.int .i64 t431, .int .i64 t432, .bool t433] 37 (0, 0)) (by (with_reducible repeat (first | refine qbn ?_ _ | refine qbd ?_ | refine qba ?_ _)); exact BK435.out) hb)
            replace HB := qA (qst (by repeat (first | (with_reducible first | exact HB.out | apply qla | apply qln | apply qld | refine qse ?_ GE365.out | refine qse ?_ GE384.out | refine qse ?_ GE401.out | refine qse ?_ GE418.out | refine qse ?_ GE435.out) | exact HB.out)) hb)
            refine hK.out _ _ ⟨(qbc BK384.out 0).trans rfl, (qbc BK384.out 1).trans rfl, (qbc BK384.out 2).trans rfl, (qbc BK435.out 0).trans rfl, (qbc BK435.out 1).trans rfl, (qbc BK435.out 2).trans rfl, (qbc BK401.out 0).trans rfl, (qbc BK401.out 1).trans rfl, (qbc BK401.out 2).trans rfl, (qbc BK418.out 0).trans rfl, (qbc BK418.out 1).trans rfl, (qbc BK418.out 2).trans rfl, (qbc BK365.out 0).trans rfl, (qbc BK365.out 1).trans rfl, (qbc BK365.out 2).trans rfl⟩ (fun hHeld => ?_)
            clear hK K
            refine norm_ (a' := ?_) ?_ ?_
            rotate_left
            ·show Act.put _ (some 105) _ = _
             simp only [Act.put, qs1, qs2, qs3, i64_w, i32_w]
             rfl
            refine pure_ (i := 41) (N := some 106) (v := ?_) (a' := ?_) #[qT,qT,qT,qT,qT,qT,qT,qT,qT,qT,qT,qT,qT,qT,qT,qT,qT,qT,qT,qT,qT,qT,qT,qT,qT,qT,qT,qT,qT,qT,qT,qT,qT,qT,qT,qT,qT,qT,qT,qT,qT,qT,qF,qF,qF,qF,qF,qF,qF,qF,qF,qF,qF,qF,qF,qF,qF,qF,qF,qF,qF] rfl rfl (any_of HT_.out (by kernel_rfl)) (fun _ _ _ h => h) (Or.inl ⟨by rfl, ?_⟩) ?_ ?_
            rotate_left
            ·intro w'
             go_simp
             with_reducible rfl
            rotate_left
            ·simp only [Act.put, qs1, qs2, qs3, i64_w, i32_w]
             rfl
            refine pure_ (i := 42) (N := some 107) (v := ?_) (a' := ?_) #[qT,qT,qT,qT,qT,qT,qT,qT,qT,qT,qT,qT,qT,qT,qT,qT,qT,qT,qT,qT,qT,qT,qT,qT,qT,qT,qT,qT,qT,qT,qT,qT,qT,qT,qT,qT,qT,qT,qT,qT,qT,qT,qT,qF,qF,qF,qF,qF,qF,qF,qF,qF,qF,qF,qF,qF,qF,qF,qF,qF,qF] rfl rfl (any_of HT_.out (by kernel_rfl)) (fun _ _ _ h => h) (Or.inl ⟨by rfl, ?_⟩) ?_ ?_
            rotate_left
            ·intro w'
             go_simp
             with_reducible rfl
            rotate_left
            ·simp only [Act.put, qs1, qs2, qs3, i64_w, i32_w]
             rfl
            refine pure_ (i := 43) (N := some 108) (v := ?_) (a' := ?_) #[qT,qT,qT,qT,qT,qT,qT,qT,qT,qT,qT,qT,qT,qT,qT,qT,qT,qT,qT,qT,qT,qT,qT,qT,qT,qT,qT,qT,qT,qT,qT,qT,qT,qT,qT,qT,qT,qT,qT,qT,qT,qT,qT,qT,qF,qF,qF,qF,qF,qF,qF,qF,qF,qF,qF,qF,qF,qF,qF,qF,qF] rfl rfl (any_of HT_.out (by kernel_rfl)) (fun _ _ _ h => h) (Or.inl ⟨by rfl, ?_⟩) ?_ ?_
            rotate_left
            ·intro w'
             go_simp
             with_reducible rfl
            rotate_left
            ·simp only [Act.put, qs1, qs2, qs3, i64_w, i32_w]
             rfl
            refine pure_ (i := 44) (N := some 109) (v := ?_) (a' := ?_) #[qT,qT,qT,qT,qT,qT,qT,qT,qT,qT,qT,qT,qT,qT,qT,qT,qT,qT,qT,qT,qT,qT,qT,qT,qT,qT,qT,qT,qT,qT,qT,qT,qT,qT,qT,qT,qT,qT,qT,qT,qT,qT,qT,qT,qT,qF,qF,qF,qF,qF,qF,qF,qF,qF,qF,qF,qF,qF,qF,qF,qF] rfl rfl (any_of HT_.out (by kernel_rfl)) (fun _ _ _ h => h) (Or.inl ⟨by rfl, ?_⟩) ?_ ?_
            rotate_left
            ·intro w'
             go_simp
             with_reducible rfl
            rotate_left
            ·simp only [Act.put, qs1, qs2, qs3, i64_w, i32_w]
             rfl
            refine pure_ (i := 45) (N := some 110) (v := ?_) (a' := ?_) #[qT,qT,qT,qT,qT,qT,qT,qT,qT,qT,qT,qT,qT,qT,qT,qT,qT,qT,qT,qT,qT,qT,qT,qT,qT,qT,qT,qT,qT,qT,qT,qT,qT,qT,qT,qT,qT,qT,qT,qT,qT,qT,qT,qT,qT,qT,qF,qF,qF,qF,qF,qF,qF,qF,qF,qF,qF,qF,qF,qF,qF] rfl rfl (any_of HT_.out (by kernel_rfl)) (fun _ _ _ h => h) (Or.inl ⟨by rfl, ?_⟩) ?_ ?_
            rotate_left
            ·intro w'
             go_simp
             with_reducible rfl
            rotate_left
            ·simp only [Act.put, qs1, qs2, qs3, i64_w, i32_w]
             rfl
            refine pure_ (i := 46) (N := some 111) (v := ?_) (a' := ?_) #[qT,qT,qT,qT,qT,qT,qT,qT,qT,qT,qT,qT,qT,qT,qT,qT,qT,qT,qT,qT,qT,qT,qT,qT,qT,qT,qT,qT,qT,qT,qT,qT,qT,qT,qT,qT,qT,qT,qT,qT,qT,qT,qT,qT,qT,qT,qT,qF,qF,qF,qF,qF,qF,qF,qF,qF,qF,qF,qF,qF,qF] rfl rfl (any_of HT_.out (by kernel_rfl)) (fun _ _ _ h => h) (Or.inl ⟨by rfl, ?_⟩) ?_ ?_
            rotate_left
            ·intro w'
             go_simp
             with_reducible rfl
            rotate_left
            ·simp only [Act.put, qs1, qs2, qs3, i64_w, i32_w]
             rfl
            refine take_ (i := 47) (N := some 112) (v := ?_) (a' := ?_) #[qT,qT,qT,qT,qT,qT,qT,qT,qT,qT,qT,qT,qT,qT,qT,qT,qT,qT,qT,qT,qT,qT,qT,qT,qT,qT,qT,qT,qT,qT,qT,qT,qT,qT,qT,qT,qT,qT,qT,qT,qT,qT,qT,qT,qT,qT,qT,qT,qF,qF,qF,qF,qF,qF,qF,qF,qF,qF,qF,qF,qF] rfl rfl (take_ofW HT_.out HW_.out (by kernel_rfl)) (fun _ _ _ h => h) (Or.inl ⟨by rfl, ?_⟩) hHeld ?_ ?_
            rotate_left
            ·rintro w' ⟨s0, s1, s2, s3, s4, s5, s6, s7, s8, s9, s10, s11, s12, s13, s14⟩
             go_simp
             with_reducible rfl
            rotate_left
            ·simp only [Act.put, qs1, qs2, qs3, i64_w, i32_w]
             rfl
            refine one_ (i := 48) (N := some 113) #[qT,qT,qT,qT,qT,qT,qT,qT,qT,qT,qT,qT,qT,qT,qT,qT,qT,qT,qT,qT,qT,qT,qT,qT,qT,qT,qT,qT,qT,qT,qT,qT,qT,qT,qT,qT,qT,qT,qT,qT,qT,qT,qT,qT,qT,qT,qT,qT,qT,qF,qF,qF,qF,qF,qF,qF,qF,qF,qF,qF,qF] rfl rfl (one_of HT_.out (by kernel_rfl)) (by decide) (fun K hK => ?_)
            refine goes_ Try.func28 (by kernel_rfl) rfl #[.int .i64 a1, .int .i64 t431] (by rfl) rfl rfl (by (try simp only [List.map_toArray, List.map_cons, List.map_nil]); first | done | rfl | (simp only [List.length_drop, List.length_take]; rfl)) ?_
            with_reducible refine (governorref08_Mul.calls a1 t431 t440 _ A84.out).mono ?_
            rintro e w' ⟨rfl, ⟨nd, rfl⟩⟩
            refine ⟨_, rfl, ?_⟩
            refine hK.out _ _ ⟨(qbc BK384.out 0).trans rfl, (qbc BK384.out 1).trans rfl, (qbc BK384.out 2).trans rfl, (qbc BK435.out 0).trans rfl, (qbc BK435.out 1).trans rfl, (qbc BK435.out 2).trans rfl, (qbc BK401.out 0).trans rfl, (qbc BK401.out 1).trans rfl, (qbc BK401.out 2).trans rfl, (qbc BK418.out 0).trans rfl, (qbc BK418.out 1).trans rfl, (qbc BK418.out 2).trans rfl, (qbc BK365.out 0).trans rfl, (qbc BK365.out 1).trans rfl, (qbc BK365.out 2).trans rfl⟩ (fun hHeld => ?_)
            clear hK K
            refine norm_ (a' := ?_) ?_ ?_
            rotate_left
            ·show Act.put _ (some 113) _ = _
             simp only [Act.put, qs1, qs2, qs3, i64_w, i32_w]
             rfl
            refine one_ (i := 49) (N := some 114) #[qT,qT,qT,qT,qT,qT,qT,qT,qT,qT,qT,qT,qT,qT,qT,qT,qT,qT,qT,qT,qT,qT,qT,qT,qT,qT,qT,qT,qT,qT,qT,qT,qT,qT,qT,qT,qT,qT,qT,qT,qT,qT,qT,qT,qT,qT,qT,qT,qT,qT,qF,qF,qF,qF,qF,qF,qF,qF,qF,qF,qF] rfl rfl (one_of HT_.out (by kernel_rfl)) (by decide) (fun K hK => ?_)
            refine goes_ Try.func27 (by kernel_rfl) rfl #[.int .i64 t440] (by rfl) rfl rfl (by (try simp only [List.map_toArray, List.map_cons, List.map_nil]); first | done | rfl | (simp only [List.length_drop, List.length_take]; rfl)) ?_
            with_reducible refine (governorlaw12_near.calls t440 t441 _ A85.out).mono ?_
            rintro e w91 ⟨rfl, hb⟩
            refine ⟨_, rfl, ?_⟩
            replace BK365 := qA (qbb (g := gb365) (o := .cells #[.int .i64 a2_0, .int .i64 a2_1, .bool a2_2] 37 (0, 0)) (by (with_reducible repeat (first | refine qbn ?_ _ | refine qbd ?_ | refine qba ?_ _)); exact BK365.out) hb)
            replace BK384 := qA (qbb (g := gb384) (o := .cells #[.int .i64 t380, .int .i64 t381, .bool t382] 37 (0, 0)) (by (with_reducible repeat (first | refine qbn ?_ _ | refine qbd ?_ | refine qba ?_ _)); exact BK384.out) hb)
            replace BK401 := qA (qbb (g := gb401) (o := .cells #[.int .i64 t397, .int .i64 t398, .bool t399] 37 (0, 0)) (by (with_reducible repeat (first | refine qbn ?_ _ | refine qbd ?_ | refine qba ?_ _)); exact BK401.out) hb)
            replace BK418 := qA (qbb (g := gb418) (o := .cells #[.int .i64 t414, .int .i64 t415, .bool t416] 37 (0, 0)) (by (with_reducible repeat (first | refine qbn ?_ _ | refine qbd ?_ | refine qba ?_ _)); exact BK418.out) hb)
            replace BK435 := qA (qbb (g := gb435) (o := .cells #[.int .i64 t431, .int .i64 t432, .bool t433] 37 (0, 0)) (by (with_reducible repeat (first | refine qbn ?_ _ | refine qbd ?_ | refine qba ?_ _)); exact BK435.out) hb)
            replace HB := qA (qst (by repeat (first | (with_reducible first | exact HB.out | apply qla | apply qln | apply qld | refine qse ?_ GE365.out | refine qse ?_ GE384.out | refine qse ?_ GE401.out | refine qse ?_ GE418.out | refine qse ?_ GE435.out) | exact HB.out)) hb)
            refine hK.out _ _ ⟨(qbc BK384.out 0).trans rfl, (qbc BK384.out 1).trans rfl, (qbc BK384.out 2).trans rfl, (qbc BK435.out 0).trans rfl, (qbc BK435.out 1).trans rfl, (qbc BK435.out 2).trans rfl, (qbc BK401.out 0).trans rfl, (qbc BK401.out 1).trans rfl, (qbc BK401.out 2).trans rfl, (qbc BK418.out 0).trans rfl, (qbc BK418.out 1).trans rfl, (qbc BK418.out 2).trans rfl, (qbc BK365.out 0).trans rfl, (qbc BK365.out 1).trans rfl, (qbc BK365.out 2).trans rfl⟩ (fun hHeld => ?_)
            clear hK K
            refine norm_ (a' := ?_) ?_ ?_
            rotate_left
            ·show Act.put _ (some 114) _ = _
             simp only [Act.put, qs1, qs2, qs3, i64_w, i32_w]
             rfl
            refine pure_ (i := 50) (N := some 115) (v := ?_) (a' := ?_) #[qT,qT,qT,qT,qT,qT,qT,qT,qT,qT,qT,qT,qT,qT,qT,qT,qT,qT,qT,qT,qT,qT,qT,qT,qT,qT,qT,qT,qT,qT,qT,qT,qT,qT,qT,qT,qT,qT,qT,qT,qT,qT,qT,qT,qT,qT,qT,qT,qT,qT,qT,qF,qF,qF,qF,qF,qF,qF,qF,qF,qF] rfl rfl (any_of HT_.out (by kernel_rfl)) (fun _ _ _ h => h) (Or.inl ⟨by rfl, ?_⟩) ?_ ?_
            rotate_left
            ·intro w'
             go_simp
             with_reducible rfl
            rotate_left
            ·simp only [Act.put, qs1, qs2, qs3, i64_w, i32_w]
             rfl
            refine pure_ (i := 51) (N := some 116) (v := ?_) (a' := ?_) #[qT,qT,qT,qT,qT,qT,qT,qT,qT,qT,qT,qT,qT,qT,qT,qT,qT,qT,qT,qT,qT,qT,qT,qT,qT,qT,qT,qT,qT,qT,qT,qT,qT,qT,qT,qT,qT,qT,qT,qT,qT,qT,qT,qT,qT,qT,qT,qT,qT,qT,qT,qT,qF,qF,qF,qF,qF,qF,qF,qF,qF] rfl rfl (any_of HT_.out (by kernel_rfl)) (fun _ _ _ h => h) (Or.inl ⟨by rfl, ?_⟩) ?_ ?_
            rotate_left
            ·intro w'
             go_simp
             with_reducible rfl
            rotate_left
            ·simp only [Act.put, qs1, qs2, qs3, i64_w, i32_w]
             rfl
            refine pure_ (i := 52) (N := some 117) (v := ?_) (a' := ?_) #[qT,qT,qT,qT,qT,qT,qT,qT,qT,qT,qT,qT,qT,qT,qT,qT,qT,qT,qT,qT,qT,qT,qT,qT,qT,qT,qT,qT,qT,qT,qT,qT,qT,qT,qT,qT,qT,qT,qT,qT,qT,qT,qT,qT,qT,qT,qT,qT,qT,qT,qT,qT,qT,qF,qF,qF,qF,qF,qF,qF,qF] rfl rfl (any_of HT_.out (by kernel_rfl)) (fun _ _ _ h => h) (Or.inl ⟨by rfl, ?_⟩) ?_ ?_
            rotate_left
            ·intro w'
             go_simp
             with_reducible rfl
            rotate_left
            ·simp only [Act.put, qs1, qs2, qs3, i64_w, i32_w]
             rfl
            refine pure_ (i := 53) (N := some 118) (v := ?_) (a' := ?_) #[qT,qT,qT,qT,qT,qT,qT,qT,qT,qT,qT,qT,qT,qT,qT,qT,qT,qT,qT,qT,qT,qT,qT,qT,qT,qT,qT,qT,qT,qT,qT,qT,qT,qT,qT,qT,qT,qT,qT,qT,qT,qT,qT,qT,qT,qT,qT,qT,qT,qT,qT,qT,qT,qT,qF,qF,qF,qF,qF,qF,qF] rfl rfl (any_of HT_.out (by kernel_rfl)) (fun _ _ _ h => h) (Or.inl ⟨by rfl, ?_⟩) ?_ ?_
            rotate_left
            ·intro w'
             go_simp
             with_reducible rfl
            rotate_left
            ·simp only [Act.put, qs1, qs2, qs3, i64_w, i32_w]
             rfl
            refine pure_ (i := 54) (N := some 119) (v := ?_) (a' := ?_) #[qT,qT,qT,qT,qT,qT,qT,qT,qT,qT,qT,qT,qT,qT,qT,qT,qT,qT,qT,qT,qT,qT,qT,qT,qT,qT,qT,qT,qT,qT,qT,qT,qT,qT,qT,qT,qT,qT,qT,qT,qT,qT,qT,qT,qT,qT,qT,qT,qT,qT,qT,qT,qT,qT,qT,qF,qF,qF,qF,qF,qF] rfl rfl (any_of HT_.out (by kernel_rfl)) (fun _ _ _ h => h) (Or.inl ⟨by rfl, ?_⟩) ?_ ?_
            rotate_left
            ·intro w'
             go_simp
             with_reducible rfl
            rotate_left
            ·simp only [Act.put, qs1, qs2, qs3, i64_w, i32_w]
             rfl
            refine pure_ (i := 55) (N := some 120) (v := ?_) (a' := ?_) #[qT,qT,qT,qT,qT,qT,qT,qT,qT,qT,qT,qT,qT,qT,qT,qT,qT,qT,qT,qT,qT,qT,qT,qT,qT,qT,qT,qT,qT,qT,qT,qT,qT,qT,qT,qT,qT,qT,qT,qT,qT,qT,qT,qT,qT,qT,qT,qT,qT,qT,qT,qT,qT,qT,qT,qT,qF,qF,qF,qF,qF] rfl rfl (any_of HT_.out (by kernel_rfl)) (fun _ _ _ h => h) (Or.inl ⟨by rfl, ?_⟩) ?_ ?_
            rotate_left
            ·intro w'
             go_simp
             with_reducible rfl
            rotate_left
            ·simp only [Act.put, qs1, qs2, qs3, i64_w, i32_w]
             rfl
            refine one_ (i := 56) (N := some 121) #[qT,qT,qT,qT,qT,qT,qT,qT,qT,qT,qT,qT,qT,qT,qT,qT,qT,qT,qT,qT,qT,qT,qT,qT,qT,qT,qT,qT,qT,qT,qT,qT,qT,qT,qT,qT,qT,qT,qT,qT,qT,qT,qT,qT,qT,qT,qT,qT,qT,qT,qT,qT,qT,qT,qT,qT,qT,qF,qF,qF,qF] rfl rfl (one_of HT_.out (by kernel_rfl)) (by decide) (fun K hK => ?_)
            refine goes_ Try.func28 (by kernel_rfl) rfl #[.int .i64 a1, .int .i64 x19_14] (by rfl) rfl rfl (by (try simp only [List.map_toArray, List.map_cons, List.map_nil]); first | done | rfl | (simp only [List.length_drop, List.length_take]; rfl)) ?_
            with_reducible refine (governorref08_Mul.calls a1 x19_14 t442 _ A87.out).mono ?_
            rintro e w' ⟨rfl, ⟨nd, rfl⟩⟩
            refine ⟨_, rfl, ?_⟩
            refine hK.out _ _ ⟨(qbc BK384.out 0).trans rfl, (qbc BK384.out 1).trans rfl, (qbc BK384.out 2).trans rfl, (qbc BK435.out 0).trans rfl, (qbc BK435.out 1).trans rfl, (qbc BK435.out 2).trans rfl, (qbc BK401.out 0).trans rfl, (qbc BK401.out 1).trans rfl, (qbc BK401.out 2).trans rfl, (qbc BK418.out 0).trans rfl, (qbc BK418.out 1).trans rfl, (qbc BK418.out 2).trans rfl, (qbc BK365.out 0).trans rfl, (qbc BK365.out 1).trans rfl, (qbc BK365.out 2).trans rfl⟩ (fun hHeld => ?_)
            clear hK K
            refine norm_ (a' := ?_) ?_ ?_
            rotate_left
            ·show Act.put _ (some 121) _ = _
             simp only [Act.put, qs1, qs2, qs3, i64_w, i32_w]
             rfl
            refine one_ (i := 57) (N := some 122) #[qT,qT,qT,qT,qT,qT,qT,qT,qT,qT,qT,qT,qT,qT,qT,qT,qT,qT,qT,qT,qT,qT,qT,qT,qT,qT,qT,qT,qT,qT,qT,qT,qT,qT,qT,qT,qT,qT,qT,qT,qT,qT,qT,qT,qT,qT,qT,qT,qT,qT,qT,qT,qT,qT,qT,qT,qT,qT,qF,qF,qF] rfl rfl (one_of HT_.out (by kernel_rfl)) (by decide) (fun K hK => ?_)
            refine goes_ Try.func27 (by kernel_rfl) rfl #[.int .i64 t442] (by rfl) rfl rfl (by (try simp only [List.map_toArray, List.map_cons, List.map_nil]); first | done | rfl | (simp only [List.length_drop, List.length_take]; rfl)) ?_
            with_reducible refine (governorlaw12_near.calls t442 t443 _ A88.out).mono ?_
            rintro e w92 ⟨rfl, hb⟩
            refine ⟨_, rfl, ?_⟩
            replace BK365 := qA (qbb (g := gb365) (o := .cells #[.int .i64 a2_0, .int .i64 a2_1, .bool a2_2] 37 (0, 0)) (by (with_reducible repeat (first | refine qbn ?_ _ | refine qbd ?_ | refine qba ?_ _)); exact BK365.out) hb)
            replace BK384 := qA (qbb (g := gb384) (o := .cells #[.int .i64 t380, .int .i64 t381, .bool t382] 37 (0, 0)) (by (with_reducible repeat (first | refine qbn ?_ _ | refine qbd ?_ | refine qba ?_ _)); exact BK384.out) hb)
            replace BK401 := qA (qbb (g := gb401) (o := .cells #[.int .i64 t397, .int .i64 t398, .bool t399] 37 (0, 0)) (by (with_reducible repeat (first | refine qbn ?_ _ | refine qbd ?_ | refine qba ?_ _)); exact BK401.out) hb)
            replace BK418 := qA (qbb (g := gb418) (o := .cells #[.int .i64 t414, .int .i64 t415, .bool t416] 37 (0, 0)) (by (with_reducible repeat (first | refine qbn ?_ _ | refine qbd ?_ | refine qba ?_ _)); exact BK418.out) hb)
            replace BK435 := qA (qbb (g := gb435) (o := .cells #[.int .i64 t431, .int .i64 t432, .bool t433] 37 (0, 0)) (by (with_reducible repeat (first | refine qbn ?_ _ | refine qbd ?_ | refine qba ?_ _)); exact BK435.out) hb)
            replace HB := qA (qst (by repeat (first | (with_reducible first | exact HB.out | apply qla | apply qln | apply qld | refine qse ?_ GE365.out | refine qse ?_ GE384.out | refine qse ?_ GE401.out | refine qse ?_ GE418.out | refine qse ?_ GE435.out) | exact HB.out)) hb)
            refine hK.out _ _ ⟨(qbc BK384.out 0).trans rfl, (qbc BK384.out 1).trans rfl, (qbc BK384.out 2).trans rfl, (qbc BK435.out 0).trans rfl, (qbc BK435.out 1).trans rfl, (qbc BK435.out 2).trans rfl, (qbc BK401.out 0).trans rfl, (qbc BK401.out 1).trans rfl, (qbc BK401.out 2).trans rfl, (qbc BK418.out 0).trans rfl, (qbc BK418.out 1).trans rfl, (qbc BK418.out 2).trans rfl, (qbc BK365.out 0).trans rfl, (qbc BK365.out 1).trans rfl, (qbc BK365.out 2).trans rfl⟩ (fun hHeld => ?_)
            clear hK K
            refine norm_ (a' := ?_) ?_ ?_
            rotate_left
            ·show Act.put _ (some 122) _ = _
             simp only [Act.put, qs1, qs2, qs3, i64_w, i32_w]
             rfl
            refine pure_ (i := 58) (N := some 123) (v := ?_) (a' := ?_) #[qT,qT,qT,qT,qT,qT,qT,qT,qT,qT,qT,qT,qT,qT,qT,qT,qT,qT,qT,qT,qT,qT,qT,qT,qT,qT,qT,qT,qT,qT,qT,qT,qT,qT,qT,qT,qT,qT,qT,qT,qT,qT,qT,qT,qT,qT,qT,qT,qT,qT,qT,qT,qT,qT,qT,qT,qT,qT,qT,qF,qF] rfl rfl (any_of HT_.out (by kernel_rfl)) (fun _ _ _ h => h) (Or.inl ⟨by rfl, ?_⟩) ?_ ?_
            rotate_left
            ·intro w'
             go_simp
             with_reducible rfl
            rotate_left
            ·simp only [Act.put, qs1, qs2, qs3, i64_w, i32_w]
             rfl
            refine pure_ (i := 59) (N := some 124) (v := ?_) (a' := ?_) #[qT,qT,qT,qT,qT,qT,qT,qT,qT,qT,qT,qT,qT,qT,qT,qT,qT,qT,qT,qT,qT,qT,qT,qT,qT,qT,qT,qT,qT,qT,qT,qT,qT,qT,qT,qT,qT,qT,qT,qT,qT,qT,qT,qT,qT,qT,qT,qT,qT,qT,qT,qT,qT,qT,qT,qT,qT,qT,qT,qT,qF] rfl rfl (any_of HT_.out (by kernel_rfl)) (fun _ _ _ h => h) (Or.inl ⟨by rfl, ?_⟩) ?_ ?_
            rotate_left
            ·intro w'
             go_simp
             with_reducible rfl
            rotate_left
            ·simp only [Act.put, qs1, qs2, qs3, i64_w, i32_w]
             rfl
            refine pure_ (i := 60) (N := some 8) (v := ?_) (a' := ?_) #[qT,qT,qT,qT,qT,qT,qT,qT,qT,qT,qT,qT,qT,qT,qT,qT,qT,qT,qT,qT,qT,qT,qT,qT,qT,qT,qT,qT,qT,qT,qT,qT,qT,qT,qT,qT,qT,qT,qT,qT,qT,qT,qT,qT,qT,qT,qT,qT,qT,qT,qT,qT,qT,qT,qT,qT,qT,qT,qT,qT,qT] rfl rfl (any_of HT_.out (by kernel_rfl)) (fun _ _ _ h => h) (Or.inl ⟨by rfl, ?_⟩) ?_ ?_
            rotate_left
            ·intro w'
             go_simp
             with_reducible rfl
            rotate_left
            ·simp only [Act.put, qs1, qs2, qs3, i64_w, i32_w]
             rfl
            refine done_ (done_of HT_.out (by kernel_rfl)) ?_
            try go_wp2
            go_ret
            exact ⟨by first | rfl | (simp [errW_none, errW_some] <;> rfl) | (simp [*, errW_none, errW_some] <;> rfl), by repeat (first | (with_reducible first | exact HB.out | apply qla | apply qln | apply qld | refine qse ?_ GE365.out | refine qse ?_ GE384.out | refine qse ?_ GE401.out | refine qse ?_ GE418.out | refine qse ?_ GE435.out) | exact HB.out)⟩
           ·rw [if_neg c86] at H
            have c86b0 : (t400 == t441) = false := beq_eq_false_iff_ne.mpr c86
            have c86b1 : (t400 != t441) = true := bne_iff_ne.mpr c86
            exact absurd (Option.some.inj H) (by rw [HRT.out]; decide)
          ·rw [if_neg c83] at H
           have c83b0 : (t383 == t439) = false := beq_eq_false_iff_ne.mpr c83
           have c83b1 : (t383 != t439) = true := bne_iff_ne.mpr c83
           exact absurd (Option.some.inj H) (by rw [HRT.out]; decide)
         ·rw [if_neg c80] at H
          have c80b0 : (t431 == t437) = false := beq_eq_false_iff_ne.mpr c80
          have c80b1 : (t431 != t437) = true := bne_iff_ne.mpr c80
          exact absurd (Option.some.inj H) (by rw [HRT.out]; decide)
        ·rw [if_neg c78] at H
         have c78b0 : (t432 == t367) = false := beq_eq_false_iff_ne.mpr c78
         have c78b1 : (t432 != t367) = true := bne_iff_ne.mpr c78
         exact absurd (Option.some.inj H) (by rw [HRT.out]; decide)
       ·rw [if_neg c77] at H
        have c77b0 : (t434 == 0) = false := beq_eq_false_iff_ne.mpr c77
        have c77b1 : (t434 != 0) = true := bne_iff_ne.mpr c77
        exact absurd (Option.some.inj H) (by rw [HRT.out]; decide)
      ·rw [if_neg c76] at H
       have c76b0 : (t414 == t431 && (t415 == t432 && (t416 == t433))) = false := by simpa using c76
       (try (have c76b1 : decide (t414 = t431 && (t415 == t432 && (t416 == t433))) = false := by simpa using c76))
       (try (have c76b2 : (t414 == t431 && (t415 == t432 && (t416 == t433))) = false := by simpa using c76))
       (try (have c76b3 : ¬ (t414 = t431 && (t415 == t432 && (t416 == t433))) := by simpa using c76))
       clear c76
       exact absurd (Option.some.inj H) (by rw [HRT.out]; decide)
     ·rw [if_neg c75] at H
      have c75b0 : (t397 == t431 && (t398 == t432 && (t399 == t433))) = false := by simpa using c75
      (try (have c75b1 : decide (t397 = t431 && (t398 == t432 && (t399 == t433))) = false := by simpa using c75))
      (try (have c75b2 : (t397 == t431 && (t398 == t432 && (t399 == t433))) = false := by simpa using c75))
      (try (have c75b3 : ¬ (t397 = t431 && (t398 == t432 && (t399 == t433))) := by simpa using c75))
      clear c75
      exact absurd (Option.some.inj H) (by rw [HRT.out]; decide)
    ·rw [if_neg c74] at H
     have c74b0 : (t380 == t431 && (t381 == t432 && (t382 == t433))) = false := by simpa using c74
     (try (have c74b1 : decide (t380 = t431 && (t381 == t432 && (t382 == t433))) = false := by simpa using c74))
     (try (have c74b2 : (t380 == t431 && (t381 == t432 && (t382 == t433))) = false := by simpa using c74))
     (try (have c74b3 : ¬ (t380 = t431 && (t381 == t432 && (t382 == t433))) := by simpa using c74))
     clear c74
     exact absurd (Option.some.inj H) (by rw [HRT.out]; decide)
   ·replace c73 := Bool.eq_false_iff.mpr c73
    subst c73
    have H1 : (some false) = some r := by rw [if_neg (show ¬ (false = true) by decide)] at H; exact H
    clear H
    have H := H1
    clear H1
    exact absurd (Option.some.inj H) (by rw [HRT.out]; decide)

end Go.Proofs.Ytjmmofedcadoiaa.PAll
