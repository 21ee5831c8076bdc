/- The law FleetBegins (P18.1): a sim begins with as many replicas as its hold has, all ready, nothing that waits, and no marks; for every policy, state and hold. -/
import Derived.Test.YtefgoffaidjiaaaMcA5
namespace Go.Proofs.Ytefgoffaidjiaaa.PAll
open Go.RowKit Go.Proofs.YtefgoffaidjiaaaW.PrintWords Go.Proofs.YtefgoffaidjiaaaW.PrintLast Go.Proofs.YtefgoffaidjiaaaW.PrintMore
set_option linter.unusedVariables false
set_option linter.unusedSimpArgs false
attribute [local go_sem high] eqH29 eqH31
set_option maxHeartbeats 8000000 in
set_option maxRecDepth 100000 in
theorem governorlaw18_FleetBegins.walk2 (w : World) (cs0 : Array Value) (x0 : S27) (g0 : k27.K w x0 cs0.toList) (o0 : ok27 x0) (cs1 : Array Value) (x1 : S29) (g1 : k29.K w x1 cs1.toList) (o1 : ok29 x1) (cs2 : Array Value) (x2 : S31) (g2 : k31.K w x2 cs2.toList) (o2 : ok31 x2) :
    Calls Try.prog 7 #[.agg cs0, .agg cs1, .agg cs2] w fun e w' => e = .returned (.bool true) ∧ Below w.heap.size w w' := by
  have hu0 := Try.underlying69
  have hu1 := Try.underlying37
  have hu2 := Try.underlying27
  have hu3 := Try.underlying29
  have hu4 := Try.underlying23
  have hu5 := Try.underlying31
  have hu6 := Try.underlying34
  have hu7 := Try.underlying52
  have HK0 := Aside0.mk g0
  obtain ⟨A2, c2, A7, c7, e0, l2, r2, l7, r7⟩ := k27_open g0
  obtain rfl : cs0 = #[.int .i64 x0.f0, .int .i64 x0.f1, .slice A2 x0.f2.length c2, .int .i64 x0.f3, .int .i64 x0.f4, .int .i64 x0.f5, .int .i64 x0.f6, .slice A7 x0.f7.length c7] := by cases cs0; simpa using e0
  have e1 := k29_open g1
  obtain rfl : cs1 = #[.int .i64 x1.f0, .int .i64 x1.f1, .bool x1.f2] := by cases cs1; simpa using e1
  have e2 := k31_open g2
  obtain rfl : cs2 = #[.int .i64 x2.f0, .int .i64 x2.f1, .bool x2.f2] := by cases cs2; simpa using e2
  clear g0 g1 g2 e0 e1 e2
  have HR2 := Aside0.mk r2
  have HL2 := Aside0.mk l2
  clear r2 l2
  have HR7 := Aside0.mk r7
  have HL7 := Aside0.mk l7
  clear r7 l7
  obtain ⟨r, hr, hP⟩ := right_tells ⟨x0, x1, x2, z34, []⟩ 20 (Nat.le_refl _)
  have HR := Aside0.mk hr
  have HP := Aside0.mk hP
  clear hr hP o0 o1 o2
  go_enter Try.func7, Try.ntmps7
  go_upto_region 1 with (fail)
  have ht := three_mk w #[.int .i64 x0.f0, .int .i64 x0.f1, .slice A2 x0.f2.length c2, .int .i64 x0.f3, .int .i64 x0.f4, .int .i64 x0.f5, .int .i64 x0.f6, .slice A7 x0.f7.length c7] #[.int .i64 x1.f0, .int .i64 x1.f1, .bool x1.f2] #[.int .i64 x2.f0, .int .i64 x2.f1, .bool x2.f2] 27 29 31
  generalize ((w.alloc _).alloc _).alloc _ = W at ht ⊢
  have HT := Aside0.mk ht
  have xa := blk_cell ht.hA
  have xb := blk_cell ht.hB
  have xc := blk_cell ht.hC
  clear ht
  go_upto_region 2 with (go_at_call 9; refine (governorlaw18_head.calls true _ rfl).mono ?_; rintro e_ w1 ⟨rfl, hb⟩; replace HT := Aside0.mk (HT.out.below hb); clear hb xa xb xc; have xa := blk_cell HT.out.hA; have xb := blk_cell HT.out.hB; have xc := blk_cell HT.out.hC)
  cases r
  case false =>
    go_wp2_with (go_at_call 11; refine (right_w (k := 20) (x := ⟨x0, x1, x2, z34, []⟩) (cs := #[.int .i64 x0.f0, .int .i64 x0.f1, .slice A2 x0.f2.length c2, .int .i64 x0.f3, .int .i64 x0.f4, .int .i64 x0.f5, .int .i64 x0.f6, .slice A7 x0.f7.length c7, .int .i64 x1.f0, .int .i64 x1.f1, .bool x1.f2, .int .i64 x2.f0, .int .i64 x2.f1, .bool x2.f2, .int .i64 0, .slice none 0 0, .int .i64 0, .int .i64 0, .slice none 0 0]) (k37_mk _ ⟨x0, x1, x2, z34, []⟩ HL2.out (Kd.C_below HR2.out HT.out.hW) HL7.out (Kd.C_below HR7.out HT.out.hW) (A15 := none) (c15 := 0) (Nat.le_refl _) (Kd.C_nil _ _) (A18 := none) (c18 := 0) (Nat.le_refl _) (Kd.C_nil _ _)) HR.out).mono ?_; rintro e_ w1 ⟨rfl, hb⟩; replace HT := Aside0.mk (HT.out.below hb); clear hb xa xb xc; have xa := blk_cell HT.out.hA; have xb := blk_cell HT.out.hB; have xc := blk_cell HT.out.hC)
    go_ret
    exact ⟨rfl, HT.out.hW⟩
  case true =>
    have P := HP.out rfl
    have HNW := Aside0.mk (new_tells (p := x0) (s := x1) (h := x2) P.pol.b8 P.pol.s8 P.h0 P.h1)
    have HSP := Aside0.mk (samePol_refl (p := x0) P.pol.b8 P.pol.s8)
    clear P HP
    go_upto_region 4 with (go_at_call 11; refine (right_w (k := 20) (x := ⟨x0, x1, x2, z34, []⟩) (cs := #[.int .i64 x0.f0, .int .i64 x0.f1, .slice A2 x0.f2.length c2, .int .i64 x0.f3, .int .i64 x0.f4, .int .i64 x0.f5, .int .i64 x0.f6, .slice A7 x0.f7.length c7, .int .i64 x1.f0, .int .i64 x1.f1, .bool x1.f2, .int .i64 x2.f0, .int .i64 x2.f1, .bool x2.f2, .int .i64 0, .slice none 0 0, .int .i64 0, .int .i64 0, .slice none 0 0]) (k37_mk _ ⟨x0, x1, x2, z34, []⟩ HL2.out (Kd.C_below HR2.out HT.out.hW) HL7.out (Kd.C_below HR7.out HT.out.hW) (A15 := none) (c15 := 0) (Nat.le_refl _) (Kd.C_nil _ _) (A18 := none) (c18 := 0) (Nat.le_refl _) (Kd.C_nil _ _)) HR.out).mono ?_; rintro e_ w1 ⟨rfl, hb⟩; replace HT := Aside0.mk (HT.out.below hb); clear hb xa xb xc; have xa := blk_cell HT.out.hA; have xb := blk_cell HT.out.hB; have xc := blk_cell HT.out.hC)
    clear HR
    generalize w1 = W0 at HT xa xb xc ⊢
    have H0 : Aside0 (Hs w W0 []) := ⟨HT.out.hW, fun t ht => by cases ht⟩
    go_cut [8] (fun v wc => ∃ (g : Nat) (cs : Array Value), v = .pointer (some ⟨g, 0, none⟩) ∧ Three w wc #[.int .i64 x0.f0, .int .i64 x0.f1, .slice A2 x0.f2.length c2, .int .i64 x0.f3, .int .i64 x0.f4, .int .i64 x0.f5, .int .i64 x0.f6, .slice A7 x0.f7.length c7] #[.int .i64 x1.f0, .int .i64 x1.f1, .bool x1.f2] #[.int .i64 x2.f0, .int .i64 x2.f1, .bool x2.f2] 27 29 31 ∧ Hs w wc [(g, newS x0 x1 x2, cs)])
    case first =>
      go_wp2_with (first
        | (go_at_call 16; refine (new_w (p := x0) (s := x1) (h := x2) (cp := #[.int .i64 x0.f0, .int .i64 x0.f1, .slice A2 x0.f2.length c2, .int .i64 x0.f3, .int .i64 x0.f4, .int .i64 x0.f5, .int .i64 x0.f6, .slice A7 x0.f7.length c7]) (k27.K_below HT.out.hW HK0.out) HNW.out).mono ?_; rintro e_ w2 ⟨c1, rfl, own, hb⟩; have hsz := k_size own.K; have HO := Aside0.mk own; have HB := Aside0.mk hb; clear own hb xa xb xc)
        | ((with_reducible refine gate_dst (N := 8) rfl ?_); refine box_event ?hg (N := 8) ?hd (cs := #[.int .i64 0, .int .i64 0, .slice none 0 0, .int .i64 0, .int .i64 0, .int .i64 0, .int .i64 0, .slice none 0 0, .int .i64 0, .int .i64 0, .bool false, .int .i64 0, .int .i64 0, .bool false, .int .i64 0, .slice none 0 0, .int .i64 0, .int .i64 0, .slice none 0 0]) (t := 37) ?hr ?_; (case hd => rfl); (case hg => rfl); (case hr => first | (go_simp; done) | (go_simp; rfl)); intro g1 hg w_ FZ hb; obtain ⟨hst, hbb, hn⟩ := hs_store H0.out (below_step HB.out hb) (by rw [hg]; exact (HB.out).size) FZ rfl (HO.out.below hb); have HN := Aside0.mk hn; have HBB := Aside0.mk hbb; clear hn hbb FZ hb hg))
      go_meet
      exact ⟨g1, c1, rfl, HT.out.below HBB.out, HN.out⟩
    case rest =>
      obtain ⟨g, cs, rfl, ht, hn⟩ := hcut
      clear HT xa xb xc H0 HNW
      have HT := Aside0.mk ht
      obtain ⟨fg, kg⟩ := hn.2 (g, newS x0 x1 x2, cs) (by simp)
      obtain ⟨A2n, c2n, A7n, c7n, A15n, c15n, A18n, c18n, en, l2n, r2n, l7n, r7n, l15n, r15n, l18n, r18n⟩ := k37_open kg
      obtain rfl : cs = #[.int .i64 (newS x0 x1 x2).f0.f0, .int .i64 (newS x0 x1 x2).f0.f1, .slice A2n (newS x0 x1 x2).f0.f2.length c2n, .int .i64 (newS x0 x1 x2).f0.f3, .int .i64 (newS x0 x1 x2).f0.f4, .int .i64 (newS x0 x1 x2).f0.f5, .int .i64 (newS x0 x1 x2).f0.f6, .slice A7n (newS x0 x1 x2).f0.f7.length c7n, .int .i64 (newS x0 x1 x2).f1.f0, .int .i64 (newS x0 x1 x2).f1.f1, .bool (newS x0 x1 x2).f1.f2, .int .i64 (newS x0 x1 x2).f2.f0, .int .i64 (newS x0 x1 x2).f2.f1, .bool (newS x0 x1 x2).f2.f2, .int .i64 (newS x0 x1 x2).f3.f0, .slice A15n (newS x0 x1 x2).f3.f1.length c15n, .int .i64 (newS x0 x1 x2).f3.f2, .int .i64 (newS x0 x1 x2).f3.f3, .slice A18n (newS x0 x1 x2).f4.length c18n] := by cases cs; simpa using en
      have xa := blk_cell ht.hA
      have xb := blk_cell ht.hB
      have xc := blk_cell ht.hC
      have xg := blk_cell fg
      dsimp only [newS, List.length_nil] at xg
      have HG := Aside0.mk fg
      have HR2n := Aside0.mk r2n
      have HR7n := Aside0.mk r7n
      have HL2n := Aside0.mk l2n
      have HL7n := Aside0.mk l7n
      clear ht hn fg kg r2n r7n r15n r18n l2n l7n l15n l18n en
      go_wp2_with (go_at_call 19; refine (governorref09_SamePolicy.calls _ _ _ _ _ _ _ _ _ _ _ _ _ _ _ _ _ _ _ _ _ _ _ _ _ _ HR2n.out HL2n.out HR7n.out HL7n.out (Kd.C_below HR2.out HT.out.hW) HL2.out (Kd.C_below HR7.out HT.out.hW) HL7.out HSP.out).mono ?_; rintro e_ w1 ⟨rfl, hb⟩; have n_ := Aside0.mk (HT.out.below hb); have m_ := Aside0.mk (blk_below HG.out hb); clear HT HG xa xb xc xg; have HT := n_; have HG := m_; clear n_ m_ hb; have xa := blk_cell HT.out.hA; have xb := blk_cell HT.out.hB; have xc := blk_cell HT.out.hC; have xg := blk_cell HG.out; dsimp only [newS, List.length_nil] at xg)
      go_ret
      exact ⟨rfl, HT.out.hW⟩
end Go.Proofs.Ytefgoffaidjiaaa.PAll
namespace Go.Proofs.Ytefgoffaidjiaaa.fleetBegins
open Go.ChangeShapes Go.WideShapes Go.ChangeAt Go.RowKit
open Go.ChangeMaps (open_string shut_string)
set_option linter.unusedVariables false
theorem own : ownKnob Try.prog.godebug = none := by kernel_rfl
theorem laidOut : laidOutB Try.prog = true := by kernel_rfl
set_option maxRecDepth 100000 in
theorem lifted (os : Os) (started : os.Started) (H : Type) (enc : TypeId × Value → H) :
    ReturnsInHanded {} Try.checked os 7 .any (Rows.fleetBeginsSpec.pre6 enc Try.prog Try.f7 Rows.fleetBeginsRow.domain false) (Rows.fleetBeginsSpec.post enc Try.prog Try.f7 false true false false) := by
  refine returnsInHanded_of_change_sized (C := Try.checked) own started (by kernel_rfl) Try.func7
    (ChangeSpec.witness6 (enc := enc) (C := Try.checked) false ⟨#[], #[.agg #[.int .i64 0, .int .i64 0, .slice none 0 0, .int .i64 0, .int .i64 0, .int .i64 0, .int .i64 0, .slice none 0 0], .agg #[.int .i64 0, .int .i64 0, .bool false], .agg #[.int .i64 0, .int .i64 0, .bool false]], []⟩ 8 (by kernel_rfl) (by kernel_rfl) (by kernel_rfl) (by kernel_rfl)) ?_
  intro W base args ds gs before hval0 hW hcnd hsz0 _
  have hval : ∀ (j : Nat) t v, Try.f7.params[j]? = some t → args[j]? = some v → Value.okWide Try.prog W .any base t v := hval0
  have hW' := hW
  obtain ⟨p, q, hA0, hV, rfl, hfz, hnd⟩ := hW
  have hA : DataW.TrodAll enc Try.prog W 0 (fun _ => true) true Try.f7.params.toList args.toList ds p := hA0
  rw [Try.params7] at hA hval
  obtain ⟨v0, vs0, d0, ds0, p0, q0, hargs, rfl, rfl, h0, r0⟩ := trodAll_cons hA
  obtain ⟨v1, vs1, d1, ds1, p1, q1, rfl, rfl, rfl, h1, r1⟩ := trodAll_cons r0
  obtain ⟨v2, vs2, d2, ds2, p2, q2, rfl, rfl, rfl, h2, r2⟩ := trodAll_cons r1
  obtain ⟨rfl, rfl, rfl⟩ := trodAll_nil r2
  obtain rfl : args = #[v0, v1, v2] := by cases args; simp_all
  obtain ⟨rfl, rfl⟩ := trodVars_none hV
  have k0 := h0
  have lt0 : ∀ x ∈ p0, x.block < W.heap.size := by obtain ⟨m, hm⟩ := k0; exact DataW.trod_lt m _ _ _ hm
  obtain ⟨cs0, rfl, _⟩ := okWide_struct Try.underlying27 (hval 0 27 v0 rfl rfl)
  obtain ⟨fuel0, hf0⟩ := h0
  obtain ⟨x0, g0, o0⟩ := PAll.rdy27 enc W _ _ _ _ _ _ hf0
  have k1 := h1
  have lt1 : ∀ x ∈ p1, x.block < W.heap.size := by obtain ⟨m, hm⟩ := k1; exact DataW.trod_lt m _ _ _ hm
  obtain ⟨cs1, rfl, _⟩ := okWide_struct Try.underlying29 (hval 1 29 v1 rfl rfl)
  obtain ⟨fuel1, hf1⟩ := h1
  obtain ⟨x1, g1, o1⟩ := PAll.rdy29 enc W _ _ _ _ _ _ hf1
  have k2 := h2
  have lt2 : ∀ x ∈ p2, x.block < W.heap.size := by obtain ⟨m, hm⟩ := k2; exact DataW.trod_lt m _ _ _ hm
  obtain ⟨cs2, rfl, _⟩ := okWide_struct Try.underlying31 (hval 2 31 v2 rfl rfl)
  obtain ⟨fuel2, hf2⟩ := h2
  obtain ⟨x2, g2, o2⟩ := PAll.rdy31 enc W _ _ _ _ _ _ hf2
  clear hA0 hval0 hsz0
  refine (PAll.governorlaw18_FleetBegins.walk2 W cs0 x0 g0 o0 cs1 x1 g1 o1 cs2 x2 g2 o2).mono fun e W' ⟨he, bel⟩ => ?_
  subst he
  exact ⟨_, rfl, _, _, _, [], _, [], hW', trodAll_mk1 (shut_bool Try.underlying4 _), (trodAll_cons_mk (Below.trod laidOut (by kernel_rfl) (of_decide_eq_true (by kernel_rfl)) k0 bel lt0) (trodAll_cons_mk (Below.trod laidOut (by kernel_rfl) (of_decide_eq_true (by kernel_rfl)) k1 bel lt1) (trodAll_cons_mk (Below.trod laidOut (by kernel_rfl) (of_decide_eq_true (by kernel_rfl)) k2 bel lt2) trodAll_mk0))), rfl, bel.frame _, fun h => by cases h⟩
theorem over : Rows.fleetBeginsRow.holds Try.pinned (OpenSpec.ofChange Rows.fleetBeginsSpec) :=
  OpenClaim.holds_of_wide 7 Try.f7 rfl rfl rfl rfl rfl rfl rfl ⟨rfl, rfl, rfl, rfl, rfl⟩ rfl rfl rfl rfl rfl (by kernel_rfl) Try.func7 (by kernel_rfl)
    (of_decide_eq_true (by kernel_rfl)) (by unfold Func.isWrapper; first | (rw [if_pos (by decide +kernel)]; kernel_rfl) | (rw [if_neg (by decide +kernel)]; exact ⟨rfl, rfl⟩))
    (fun os started H enc _ => lifted os started H enc)
theorem proved : Rows.FleetBeginsSaid := over
#print axioms proved
end Go.Proofs.Ytefgoffaidjiaaa.fleetBegins
namespace Go.Proofs.Ytefgoffaidjiaaa
/-- The row, under a short name, for the claim. -/
theorem fleetBegins_holds : Rows.FleetBeginsSaid := fleetBegins.proved
end Go.Proofs.Ytefgoffaidjiaaa
