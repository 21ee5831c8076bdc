/- What the laws FleetRow lean on: the contracts of the functions that they reach, part 3 of 6. -/
import Derived.Test.YtefgoffaidjiaaaMrA2
namespace Go.Proofs.Ytefgoffaidjiaaa.PAll
open Go.RowKit Go.Proofs.YtefgoffaidjiaaaW.PrintWords Go.Proofs.YtefgoffaidjiaaaW.PrintLast Go.Proofs.YtefgoffaidjiaaaW.PrintMore
set_option linter.unusedVariables false
set_option linter.unusedSimpArgs false
/-! ### rows of small numbers -/
def Small (l : List Int) : Prop := ∀ x ∈ l, 0 ≤ x ∧ x ≤ 1000
theorem small_cons {x : Int} {l : List Int} : Small (x :: l) ↔ (0 ≤ x ∧ x ≤ 1000) ∧ Small l := by simp [Small]
theorem small_append {a b : List Int} : Small (a ++ b) ↔ Small a ∧ Small b := by
  constructor
  · intro h; exact ⟨fun x hx => h x (by simp [hx]), fun x hx => h x (by simp [hx])⟩
  · rintro ⟨h1, h2⟩ x hx
    rcases List.mem_append.1 hx with hx | hx
    · exact h1 x hx
    · exact h2 x hx
theorem small_drop {l : List Int} (h : Small l) (n : Nat) : Small (l.drop n) := fun x hx => h x (List.mem_of_mem_drop hx)
theorem small_zeros (n : Nat) : Small (List.replicate n 0) := fun x hx => by rw [List.eq_of_mem_replicate hx]; omega
theorem sum_nonneg {l : List Int} (h : Small l) : 0 ≤ l.sum := by
  induction l with
  | nil => simp
  | cons x l ih => rw [List.sum_cons]; have := ih (small_cons.1 h).2; have := (small_cons.1 h).1; omega
theorem sum_app (a b : List Int) : (a ++ b).sum = a.sum + b.sum := by
  induction a with
  | nil => simp
  | cons x a ih => rw [List.cons_append, List.sum_cons, List.sum_cons, ih]; omega
theorem sum_zeros (n : Nat) : (List.replicate n (0 : Int)).sum = 0 := by
  induction n with
  | zero => rfl
  | succ n ih => rw [List.replicate_succ, List.sum_cons, ih]; rfl
theorem rd_nat (l : List Int) (i : Nat) : rd l (i : Int) = l.getD i 0 := by unfold rd; rw [Int.toNat_natCast]
theorem rd_get {l : List Int} {i : Nat} (h : i < l.length) : rd l (i : Int) = l[i] := by
  rw [rd_nat, List.getD_eq_getElem?_getD, List.getElem?_eq_getElem h]; rfl
theorem small_rd {l : List Int} (h : Small l) {i : Int} (h0 : 0 ≤ i) (h1 : i < (l.length : Int)) : 0 ≤ rd l i ∧ rd l i ≤ 1000 := by
  obtain ⟨n, rfl⟩ := Int.eq_ofNat_of_zero_le h0
  rw [rd_get (by omega)]
  exact h _ (List.getElem_mem _)
theorem rd_le_sum {l : List Int} (h : Small l) {i : Int} (h0 : 0 ≤ i) (h1 : i < (l.length : Int)) : rd l i ≤ l.sum := by
  obtain ⟨n, rfl⟩ := Int.eq_ofNat_of_zero_le h0
  rw [rd_get (by omega)]
  clear h0
  induction l generalizing n with
  | nil => simp at h1; omega
  | cons x l ih =>
    rw [List.sum_cons]
    have h2 := small_cons.1 h
    cases n with
    | zero => have := sum_nonneg h2.2; simp only [List.getElem_cons_zero]; omega
    | succ n =>
      simp only [List.getElem_cons_succ]
      have := ih h2.2 n (by simp only [List.length_cons] at h1; omega)
      omega
theorem sum_set (l : List Int) (n : Nat) (x : Int) (h : n < l.length) : (l.set n x).sum = l.sum - rd l (n : Int) + x := by
  rw [rd_get h]
  induction l generalizing n with
  | nil => simp at h
  | cons y l ih =>
    cases n with
    | zero => simp only [List.set_cons_zero, List.sum_cons, List.getElem_cons_zero]; omega
    | succ n =>
      simp only [List.set_cons_succ, List.sum_cons, List.getElem_cons_succ]
      rw [ih n (by simp only [List.length_cons] at h; omega)]
      omega
theorem small_set {l : List Int} (h : Small l) (n : Nat) {x : Int} (hx : 0 ≤ x ∧ x ≤ 1000) : Small (l.set n x) := by
  intro y hy
  rcases List.mem_or_eq_of_mem_set hy with hy | rfl
  · exact h y hy
  · exact hx
theorem rd_set_ne {l : List Int} {n : Nat} {i : Int} (x : Int) (h0 : 0 ≤ i) (h : i ≠ (n : Int)) : rd (l.set n x) i = rd l i := by
  obtain ⟨m, rfl⟩ := Int.eq_ofNat_of_zero_le h0
  rw [rd_nat, rd_nat, List.getD_eq_getElem?_getD, List.getD_eq_getElem?_getD, List.getElem?_set_ne (by omega)]
theorem rd_set_eq {l : List Int} {n : Nat} (x : Int) (h : n < l.length) : rd (l.set n x) (n : Int) = x := by
  rw [rd_nat, List.getD_eq_getElem?_getD, List.getElem?_set_self h]; rfl
/-- How many there are. -/
theorem allL_eq {l : List Int} (h : Small l) : ∀ {R : Int}, 0 ≤ R → R ≤ 1000000 → l.length ≤ 100 → allL R l = R + l.sum := by
  have key : ∀ (l : List Int) (R : Int), Small l → 0 ≤ R → R + 1000 * (l.length : Int) ≤ 9000000 → allL R l = R + l.sum := by
    intro l
    induction l with
    | nil => intro R _ _ _; simp [allL]
    | cons x l ih =>
      intro R hs h0 h1
      have h2 := small_cons.1 hs
      have e : allL R (x :: l) = allL (wrap64 (R + x)) l := rfl
      simp only [List.length_cons] at h1
      rw [e, wr (by omega) (by omega), ih (R + x) h2.2 (by omega) (by omega), List.sum_cons]
      omega
  intro R h0 h1 h2
  exact key l R h h0 (by omega)
/-- May a plant be so? -/
structure PR (R : Int) (l : List Int) (wt ut : Int) : Prop where
  r0 : 0 ≤ R
  r1 : R ≤ 1000
  len : l.length ≤ 8
  sm : Small l
  w0 : 0 ≤ wt
  w1 : wt ≤ 1000000000
  u0 : 0 ≤ ut
  u1 : ut ≤ 1000000000
  all : R + l.sum ≤ 1000
/-! ### shrink -/
structure ShP (l : List Int) (many : Int) (k : Nat) (s : List Int × Int) : Prop where
  m0 : 0 ≤ s.2
  m1 : s.2 ≤ many
  len : s.1.length = l.length
  sm : Small s.1
  sum : s.1.sum = l.sum - (many - s.2)
  le : ∀ i : Nat, i < l.length → rd s.1 (i : Int) ≤ rd l (i : Int)
  rest : ∀ i : Nat, i + k < l.length → rd s.1 (i : Int) = rd l (i : Int)
  zero : 0 < s.2 → ∀ i : Nat, l.length ≤ i + k → i < l.length → rd s.1 (i : Int) = 0
  last : ∀ i j : Nat, i < j → j < l.length → rd s.1 (i : Int) < rd l (i : Int) → rd s.1 (j : Int) = 0
theorem shr_spec {l : List Int} {many : Int} (hs : Small l) (h0 : 0 ≤ many) (h1 : many ≤ 1000000) : ∀ k : Nat, k ≤ l.length → ShP l many k (shr l many k) := by
  intro k
  induction k with
  | zero =>
    intro _
    exact ⟨h0, Int.le_refl _, rfl, hs, by show l.sum = l.sum - (many - many); omega, fun _ _ => Int.le_refl _, fun _ _ => rfl, fun _ i h1 h2 => by omega, fun i j _ _ h => by have : rd l (i : Int) < rd l (i : Int) := h; omega⟩
  | succ k ih =>
    intro hk
    have P := ih (by omega)
    obtain ⟨s, hsd⟩ : ∃ s, shr l many k = s := ⟨_, rfl⟩
    rw [hsd] at P
    obtain ⟨n, hn⟩ : ∃ n, rd l ((l.length : Int) - 1 - (k : Int)) = n := ⟨_, rfl⟩
    have eidx : ((l.length : Int) - 1 - (k : Int)) = ((l.length - 1 - k : Nat) : Int) := by omega
    have hnb := small_rd hs (i := (l.length : Int) - 1 - (k : Int)) (by omega) (by omega)
    rw [hn] at hnb
    have hm0 := P.m0
    have hm1 := P.m1
    obtain ⟨g, hg⟩ : ∃ g, mn n s.2 = g := ⟨_, rfl⟩
    have hg1 : g ≤ n ∧ g ≤ s.2 ∧ 0 ≤ g ∧ (g = n ∨ g = s.2) := by rw [← hg]; unfold mn; split <;> omega
    have e : shr l many (k + 1) = (s.1.set (l.length - 1 - k) (n - g), s.2 - g) := by
      show (_, _) = (_, _)
      rw [hsd, hn, hg, wr (n := n - g) (by omega) (by omega), wr (n := s.2 - g) (by omega) (by omega)]
    rw [e]
    have hidx : l.length - 1 - k < s.1.length := by rw [P.len]; omega
    have hcur : rd s.1 ((l.length - 1 - k : Nat) : Int) = n := by rw [P.rest _ (by omega), ← eidx, hn]
    have hne : ∀ i : Nat, i ≠ l.length - 1 - k → rd (s.1.set (l.length - 1 - k) (n - g)) (i : Int) = rd s.1 (i : Int) := fun i hi => rd_set_ne _ (by omega) (by omega)
    have heq : rd (s.1.set (l.length - 1 - k) (n - g)) ((l.length - 1 - k : Nat) : Int) = n - g := rd_set_eq _ hidx
    refine ⟨by show 0 ≤ s.2 - g; omega, by show s.2 - g ≤ many; omega, by show (s.1.set _ _).length = _; rw [List.length_set, P.len], small_set P.sm _ (by omega), ?_, ?_, ?_, ?_, ?_⟩
    · show (s.1.set _ _).sum = l.sum - (many - (s.2 - g))
      rw [sum_set _ _ _ hidx, hcur, P.sum]
      omega
    · intro i hi
      show rd (s.1.set _ _) _ ≤ _
      by_cases c : i = l.length - 1 - k
      · subst c
        rw [heq, ← eidx, hn]
        omega
      · rw [hne i c]; exact P.le i hi
    · intro i hi
      show rd (s.1.set _ _) _ = _
      rw [hne i (by omega)]
      exact P.rest i (by omega)
    · intro hp i h3 h4
      have hp' : 0 < s.2 - g := hp
      show rd (s.1.set _ _) _ = 0
      by_cases c : i = l.length - 1 - k
      · subst c
        rw [heq]
        omega
      · rw [hne i c]
        exact P.zero (by omega) i (by omega) h4
    · intro i j hij hj hlt
      show rd (s.1.set _ _) _ = 0
      have hlt' : rd (s.1.set (l.length - 1 - k) (n - g)) (i : Int) < rd l (i : Int) := hlt
      by_cases c : i = l.length - 1 - k
      · subst c
        rw [heq, ← eidx, hn] at hlt'
        rw [hne j (by omega)]
        exact P.zero (by omega) j (by omega) hj
      · rw [hne i c] at hlt'
        by_cases c2 : i < l.length - 1 - k
        · rw [P.rest i (by omega)] at hlt'
          omega
        · rw [hne j (by omega)]
          exact P.last i j hij hj hlt'
theorem sum_zero_of {l : List Int} (h : ∀ i : Nat, i < l.length → rd l (i : Int) = 0) : l.sum = 0 := by
  induction l with
  | nil => rfl
  | cons x l ih =>
    have h0 := h 0 (by simp)
    rw [rd_get (by simp)] at h0
    simp only [List.getElem_cons_zero] at h0
    rw [List.sum_cons, h0, ih (fun i hi => ?_)]
    · rfl
    · have := h (i + 1) (by simp; omega)
      rw [rd_get (by simp; omega)] at this
      simp only [List.getElem_cons_succ] at this
      rw [rd_get hi]
      exact this
/-! ### trim -/
theorem trimL_split : ∀ (n : Nat) (l : List Int), l.length = n → ∃ m, l = trimL l ++ List.replicate m 0 := by
  intro n
  induction n with
  | zero => intro l h; have := List.eq_nil_of_length_eq_zero h; subst this; exact ⟨0, rfl⟩
  | succ n ih =>
    intro l h
    have hs := snoc_at l (by omega)
    obtain ⟨m, hm⟩ := ih (l.take (l.length - 1)) (by rw [List.length_take]; omega)
    by_cases hx : rd l ((l.length : Int) - 1) = 0
    · refine ⟨m + 1, ?_⟩
      rw [← trimL_end0 l (by omega) hx, List.replicate_succ', ← List.append_assoc, ← hm, ← hx]
      exact hs
    · exact ⟨0, by rw [trimL_end l (by omega) hx]; simp⟩
theorem trimL_sum (l : List Int) : (trimL l).sum = l.sum := by
  obtain ⟨m, hm⟩ := trimL_split _ l rfl
  have h := congrArg List.sum hm
  rw [sum_app, sum_zeros] at h
  omega
theorem trimL_small {l : List Int} (h : Small l) : Small (trimL l) := by
  obtain ⟨m, hm⟩ := trimL_split _ l rfl
  rw [hm] at h
  exact (small_append.1 h).1
theorem trimL_zeros (l : List Int) (m : Nat) : trimL (l ++ List.replicate m 0) = trimL l := by
  induction m with
  | zero => simp
  | succ m ih => rw [List.replicate_succ', ← List.append_assoc, trimL_snoc0, ih]
/-! ### grow -/
structure GrP (l : List Int) (d more : Int) (r : List Int) : Prop where
  sm : Small r
  sum : r.sum = l.sum + more
  len : r.length ≤ 8
theorem grow_spec {l : List Int} {d more : Int} (hs : Small l) (hl : l.length ≤ 8) (hd : 1 ≤ d) (hd8 : d ≤ 8) (hm : 0 ≤ more) (hsum : l.sum + more ≤ 1000) : GrP l d more (growL d more l) := by
  obtain ⟨l2, hl2⟩ : ∃ l2, (if d - (l.length : Int) > 0 then l ++ List.replicate (d - (l.length : Int)).toNat 0 else l) = l2 := ⟨_, rfl⟩
  have h2 : Small l2 ∧ l2.sum = l.sum ∧ l2.length ≤ 8 ∧ d ≤ (l2.length : Int) := by
    rw [← hl2]
    by_cases c : d - (l.length : Int) > 0
    · rw [if_pos c]
      exact ⟨small_append.2 ⟨hs, small_zeros _⟩, by rw [sum_app, sum_zeros]; omega, by rw [List.length_append, List.length_replicate]; omega, by rw [List.length_append, List.length_replicate]; omega⟩
    · rw [if_neg c]
      exact ⟨hs, rfl, hl, by omega⟩
  obtain ⟨a1, a2, a3, a4⟩ := h2
  have hb := small_rd a1 (i := d - 1) (by omega) (by omega)
  have hc := rd_le_sum a1 (i := d - 1) (by omega) (by omega)
  have e : growL d more l = l2.set (d - 1).toNat (rd l2 (d - 1) + more) := by
    unfold growL
    simp only
    rw [hl2, wr (by omega) (by omega)]
  rw [e]
  refine ⟨small_set a1 _ (by omega), ?_, by rw [List.length_set]; exact a3⟩
  rw [sum_set _ _ _ (by omega), show (((d - 1).toNat : Nat) : Int) = d - 1 by omega]
  omega
/-! ### what is left behind both -/
structure SzP (n : Int) (r : Int × List Int) : Prop where
  r0 : 0 ≤ r.1
  r1 : r.1 ≤ 1000
  len : r.2.length ≤ 8
  sm : Small r.2
  all : r.1 + r.2.sum = n
theorem sized_spec {R d n : Int} {l : List Int} (h0 : 0 ≤ R) (hs : Small l) (hl : l.length ≤ 8) (hd0 : 0 ≤ d) (hd8 : d ≤ 8) (ha : R + l.sum ≤ 1000) (hn0 : 0 ≤ n) (hn : n ≤ 1000) : SzP n (sizedL R d (n - (R + l.sum)) l) := by
  have hsn := sum_nonneg hs
  unfold sizedL
  by_cases c1 : 0 < n - (R + l.sum)
  · rw [if_pos c1]
    by_cases c2 : d = 0
    · rw [if_pos c2, wr (by omega) (by omega)]
      exact ⟨by show 0 ≤ R + (n - (R + l.sum)); omega, by show R + (n - (R + l.sum)) ≤ 1000; omega, hl, hs, by show R + (n - (R + l.sum)) + l.sum = n; omega⟩
    · rw [if_neg c2]
      have G := grow_spec (d := d) hs hl (by omega) hd8 (more := n - (R + l.sum)) (by omega) (by omega)
      exact ⟨h0, by show R ≤ 1000; omega, G.len, G.sm, by show R + (growL _ _ _).sum = n; rw [G.sum]; omega⟩
  · rw [if_neg c1]
    by_cases c2 : n - (R + l.sum) < 0
    · rw [if_pos c2, wr (n := -(n - (R + l.sum))) (by omega) (by omega)]
      have P := shr_spec hs (many := -(n - (R + l.sum))) (by omega) (by omega) l.length (Nat.le_refl _)
      generalize shr l (-(n - (R + l.sum))) l.length = s at P ⊢
      have hm0 := P.m0
      have hm1 := P.m1
      have hsum := P.sum
      have hsn2 := sum_nonneg P.sm
      have hz : 0 < s.2 → s.1.sum = 0 := fun hp => sum_zero_of (fun i hi => P.zero hp i (by omega) (by rw [← P.len]; exact hi))
      rw [wr (by omega) (by omega)]
      refine ⟨?_, by show R - s.2 ≤ 1000; omega, by show s.1.length ≤ 8; rw [P.len]; exact hl, P.sm, by show R - s.2 + s.1.sum = n; omega⟩
      show 0 ≤ R - s.2
      by_cases hp : 0 < s.2
      · have := hz hp; omega
      · omega
    · rw [if_neg c2]
      exact ⟨h0, by show R ≤ 1000; omega, hl, hs, by show R + l.sum = n; omega⟩
end Go.Proofs.Ytefgoffaidjiaaa.PAll
namespace Go.Proofs.Ytefgoffaidjiaaa.PAll
open Go.RowKit Go.Proofs.YtefgoffaidjiaaaW.PrintWords Go.Proofs.YtefgoffaidjiaaaW.PrintLast Go.Proofs.YtefgoffaidjiaaaW.PrintMore
attribute [local go_sem] max2_int min2_int max_two min_two max_three min_three max_four min_four   -- for this text's walks alone
set_option linter.unusedVariables false
set_option linter.unusedSimpArgs false
/-! ### limit_Into: function 52 -/
def limit_Into.f (a0_0 : Int) (a0_1 : Int) (a0_2 : Int) (a0_3 : Int) (a0_4 : Int) (a0_5 : Int) (a0_6 : Int) (a0_7 : Int) (a0_8 : Int) (a0_9 : Int) (a0_10 : Int) (a0_11 : Int) (a1_0 : Int) (a1_1 : Int) (a1_2 : Bool) : Option (Int × Int × Bool) := some (mx a0_0 (mn a1_0 a0_1), a1_1, a1_2)
set_option maxHeartbeats 8000000 in
set_option maxRecDepth 100000 in
theorem limit_Into.calls (a0_0 : Int) (a0_1 : Int) (a0_2 : Int) (a0_3 : Int) (a0_4 : Int) (a0_5 : Int) (a0_6 : Int) (a0_7 : Int) (a0_8 : Int) (a0_9 : Int) (a0_10 : Int) (a0_11 : Int) (a1_0 : Int) (a1_1 : Int) (a1_2 : Bool) (r1 : Int) (r2 : Int) (r3 : Bool) (w : World) (h : limit_Into.f a0_0 a0_1 a0_2 a0_3 a0_4 a0_5 a0_6 a0_7 a0_8 a0_9 a0_10 a0_11 a1_0 a1_1 a1_2 = some (r1, r2, r3)) :
  Calls Try.prog 52 #[.agg #[.int .i64 a0_0, .int .i64 a0_1, .int .i64 a0_2, .int .i64 a0_3, .int .i64 a0_4, .int .i64 a0_5, .int .i64 a0_6, .int .i64 a0_7, .int .i64 a0_8, .int .i64 a0_9, .int .i64 a0_10, .int .i64 a0_11], .agg #[.int .i64 a1_0, .int .i64 a1_1, .bool a1_2]] w fun e w' => e = .returned (.agg #[.int .i64 r1, .int .i64 r2, .bool r3]) ∧ Below w.heap.size w w' := by
 have hu23 := Try.underlying23
 have hu31 := Try.underlying31
 have HB := Aside0.mk (Below.refl w.heap.size w)
 have H : (some (mx a0_0 (mn a1_0 a0_1), a1_1, a1_2)) = some (r1, r2, r3) := h
 clear h
 obtain ⟨ji3, hji3⟩ : ∃ j_ : Int, (mn a1_0 a0_1) = j_ := ⟨_, rfl⟩
 replace H : (some (mx a0_0 (ji3), a1_1, a1_2)) = some (r1, r2, r3) := by first | (rw [hji3] at H; exact H) | (simp only [hji3] at H ⊢; exact H)
 have hji3_ : (if a0_1 < a1_0 then a0_1 else a1_0) = ji3 := hji3
 obtain ⟨ji4, hji4⟩ : ∃ j_ : Int, (mx a0_0 (ji3)) = j_ := ⟨_, rfl⟩
 replace H : (some (ji4, a1_1, a1_2)) = some (r1, r2, r3) := by first | (rw [hji4] at H; exact H) | (simp only [hji4] at H ⊢; exact H)
 have hji4_ : (if a0_0 < (ji3) then (ji3) else a0_0) = ji4 := hji4
 simp only [Option.some.injEq, Prod.mk.injEq] at H
 obtain ⟨rfl, rfl, rfl⟩ := H
 go_enter Try.func52, Try.ntmps52
 go_wp2_with (first | ((with_reducible refine gate_dst (N := 2) rfl ?_); refine box_event ?hg (N := 2) ?hd (cs := #[.int .i64 a0_0, .int .i64 a0_1, .int .i64 a0_2, .int .i64 a0_3, .int .i64 a0_4, .int .i64 a0_5, .int .i64 a0_6, .int .i64 a0_7, .int .i64 a0_8, .int .i64 a0_9, .int .i64 a0_10, .int .i64 a0_11]) (t := 23) ?hr ?_; (case hd => rfl); (case hg => rfl); (case hr => first | (go_simp; done) | (go_simp; rfl)); intro gb102 hg w5 hbox hb; have n0_ := Aside0.mk (below_step (by repeat (first | (with_reducible first | exact HB.out | apply below_alloc | apply pw_below_drewN | apply below_drew1) | exact HB.out)) hb); have n1_ := Aside0.mk (hbox); have n2_ := Aside0.mk ((by rw [hg]; exact (below_size (by repeat (first | (with_reducible first | exact HB.out | apply below_alloc | apply pw_below_drewN | apply below_drew1) | exact HB.out))) : w.heap.size ≤ gb102)); have n3_ := Aside0.mk ((by rw [hg]; exact (below_size (by repeat (first | (with_reducible first | exact HB.out | apply below_alloc | apply pw_below_drewN | apply below_drew1) | exact HB.out))) : w.heap.size ≤ gb102)); clear HB; have HB := n0_; have BK102 := n1_; have GW102 := n2_; have GE102 := n3_; clear n0_ n1_ n2_ n3_; clear hb hbox hg) | ((with_reducible refine gate_dst (N := 3) rfl ?_); refine box_event ?hg (N := 3) ?hd (cs := #[.int .i64 a1_0, .int .i64 a1_1, .bool a1_2]) (t := 31) ?hr ?_; (case hd => rfl); (case hg => rfl); (case hr => first | (go_simp; done) | (go_simp; rfl)); intro gb103 hg w6 hbox hb; have n0_ := Aside0.mk (blk_below (g := gb102) (o := .cells #[.int .i64 a0_0, .int .i64 a0_1, .int .i64 a0_2, .int .i64 a0_3, .int .i64 a0_4, .int .i64 a0_5, .int .i64 a0_6, .int .i64 a0_7, .int .i64 a0_8, .int .i64 a0_9, .int .i64 a0_10, .int .i64 a0_11] 23 (0, 0)) (by (with_reducible repeat (first | refine blk_drewN ?_ _ | refine blk_drew ?_ | refine blk_alloc ?_ _)); exact BK102.out) hb); have n1_ := Aside0.mk (below_step (by repeat (first | (with_reducible first | exact HB.out | apply below_alloc | apply pw_below_drewN | apply below_drew1 | refine below_set ?_ GE102.out) | exact HB.out)) hb); have n2_ := Aside0.mk (hbox); have n3_ := Aside0.mk ((by rw [hg]; exact (below_size (by repeat (first | (with_reducible first | exact HB.out | apply below_alloc | apply pw_below_drewN | apply below_drew1 | refine below_set ?_ GE102.out) | exact HB.out))) : w.heap.size ≤ gb103)); have n4_ := Aside0.mk ((by rw [hg]; exact (below_size (by repeat (first | (with_reducible first | exact HB.out | apply below_alloc | apply pw_below_drewN | apply below_drew1 | refine below_set ?_ GE102.out) | exact HB.out))) : w.heap.size ≤ gb103)); have n5_ := Aside0.mk ((by rw [hg]; exact Nat.ne_of_lt (blk_lt (g := gb102) (o := .cells #[.int .i64 a0_0, .int .i64 a0_1, .int .i64 a0_2, .int .i64 a0_3, .int .i64 a0_4, .int .i64 a0_5, .int .i64 a0_6, .int .i64 a0_7, .int .i64 a0_8, .int .i64 a0_9, .int .i64 a0_10, .int .i64 a0_11] 23 (0, 0)) (by (with_reducible repeat (first | refine blk_drewN ?_ _ | refine blk_drew ?_ | refine blk_alloc ?_ _)); exact BK102.out)) : gb102 ≠ gb103)); have n6_ := Aside0.mk ((by rw [hg]; exact Nat.ne_of_gt (blk_lt (g := gb102) (o := .cells #[.int .i64 a0_0, .int .i64 a0_1, .int .i64 a0_2, .int .i64 a0_3, .int .i64 a0_4, .int .i64 a0_5, .int .i64 a0_6, .int .i64 a0_7, .int .i64 a0_8, .int .i64 a0_9, .int .i64 a0_10, .int .i64 a0_11] 23 (0, 0)) (by (with_reducible repeat (first | refine blk_drewN ?_ _ | refine blk_drew ?_ | refine blk_alloc ?_ _)); exact BK102.out)) : gb103 ≠ gb102)); clear BK102; clear HB; have BK102 := n0_; have HB := n1_; have BK103 := n2_; have GW103 := n3_; have GE103 := n4_; have NB102_103 := n5_; have NB103_102 := n6_; clear n0_ n1_ n2_ n3_ n4_ n5_ n6_; clear hb hbox hg) | ((with_reducible refine gate_dst (N := 4) rfl ?_); refine box_event ?hg (N := 4) ?hd (cs := #[.int .i64 0, .int .i64 0, .bool false]) (t := 31) ?hr ?_; (case hd => rfl); (case hg => rfl); (case hr => first | (go_simp; done) | (go_simp; rfl)); intro gb104 hg w7 hbox hb; have n0_ := Aside0.mk (blk_below (g := gb102) (o := .cells #[.int .i64 a0_0, .int .i64 a0_1, .int .i64 a0_2, .int .i64 a0_3, .int .i64 a0_4, .int .i64 a0_5, .int .i64 a0_6, .int .i64 a0_7, .int .i64 a0_8, .int .i64 a0_9, .int .i64 a0_10, .int .i64 a0_11] 23 (0, 0)) (by (with_reducible repeat (first | refine blk_drewN ?_ _ | refine blk_drew ?_ | refine blk_alloc ?_ _)); exact BK102.out) hb); have n1_ := Aside0.mk (blk_below (g := gb103) (o := .cells #[.int .i64 a1_0, .int .i64 a1_1, .bool a1_2] 31 (0, 0)) (by (with_reducible repeat (first | refine blk_drewN ?_ _ | refine blk_drew ?_ | refine blk_alloc ?_ _)); exact BK103.out) hb); have n2_ := Aside0.mk (below_step (by repeat (first | (with_reducible first | exact HB.out | apply below_alloc | apply pw_below_drewN | apply below_drew1 | refine below_set ?_ GE102.out | refine below_set ?_ GE103.out) | exact HB.out)) hb); have n3_ := Aside0.mk (hbox); have n4_ := Aside0.mk ((by rw [hg]; exact (below_size (by repeat (first | (with_reducible first | exact HB.out | apply below_alloc | apply pw_below_drewN | apply below_drew1 | refine below_set ?_ GE102.out | refine below_set ?_ GE103.out) | exact HB.out))) : w.heap.size ≤ gb104)); have n5_ := Aside0.mk ((by rw [hg]; exact (below_size (by repeat (first | (with_reducible first | exact HB.out | apply below_alloc | apply pw_below_drewN | apply below_drew1 | refine below_set ?_ GE102.out | refine below_set ?_ GE103.out) | exact HB.out))) : w.heap.size ≤ gb104)); have n6_ := Aside0.mk ((by rw [hg]; exact Nat.ne_of_lt (blk_lt (g := gb102) (o := .cells #[.int .i64 a0_0, .int .i64 a0_1, .int .i64 a0_2, .int .i64 a0_3, .int .i64 a0_4, .int .i64 a0_5, .int .i64 a0_6, .int .i64 a0_7, .int .i64 a0_8, .int .i64 a0_9, .int .i64 a0_10, .int .i64 a0_11] 23 (0, 0)) (by (with_reducible repeat (first | refine blk_drewN ?_ _ | refine blk_drew ?_ | refine blk_alloc ?_ _)); exact BK102.out)) : gb102 ≠ gb104)); have n7_ := Aside0.mk ((by rw [hg]; exact Nat.ne_of_gt (blk_lt (g := gb102) (o := .cells #[.int .i64 a0_0, .int .i64 a0_1, .int .i64 a0_2, .int .i64 a0_3, .int .i64 a0_4, .int .i64 a0_5, .int .i64 a0_6, .int .i64 a0_7, .int .i64 a0_8, .int .i64 a0_9, .int .i64 a0_10, .int .i64 a0_11] 23 (0, 0)) (by (with_reducible repeat (first | refine blk_drewN ?_ _ | refine blk_drew ?_ | refine blk_alloc ?_ _)); exact BK102.out)) : gb104 ≠ gb102)); have n8_ := Aside0.mk ((by rw [hg]; exact Nat.ne_of_lt (blk_lt (g := gb103) (o := .cells #[.int .i64 a1_0, .int .i64 a1_1, .bool a1_2] 31 (0, 0)) (by (with_reducible repeat (first | refine blk_drewN ?_ _ | refine blk_drew ?_ | refine blk_alloc ?_ _)); exact BK103.out)) : gb103 ≠ gb104)); have n9_ := Aside0.mk ((by rw [hg]; exact Nat.ne_of_gt (blk_lt (g := gb103) (o := .cells #[.int .i64 a1_0, .int .i64 a1_1, .bool a1_2] 31 (0, 0)) (by (with_reducible repeat (first | refine blk_drewN ?_ _ | refine blk_drew ?_ | refine blk_alloc ?_ _)); exact BK103.out)) : gb104 ≠ gb103)); clear BK102; clear BK103; clear HB; have BK102 := n0_; have BK103 := n1_; have HB := n2_; have BK104 := n3_; have GW104 := n4_; have GE104 := n5_; have NB102_104 := n6_; have NB104_102 := n7_; have NB103_104 := n8_; have NB104_103 := n9_; clear n0_ n1_ n2_ n3_ n4_ n5_ n6_ n7_ n8_ n9_; clear hb hbox hg; have hnb8 := NB102_103.out; have hnc8 := NB103_102.out; have hnb9 := NB102_104.out; have hnc9 := NB104_102.out; have hcz10_0 : w7.cell? ⟨gb102, 0, none⟩ = some (.int .i64 a0_0) := (blk_cell BK102.out 0).trans rfl; have hcz10_1 : w7.cell? ⟨gb102, 1, none⟩ = some (.int .i64 a0_1) := (blk_cell BK102.out 1).trans rfl; have hcz10_2 : w7.cell? ⟨gb102, 2, none⟩ = some (.int .i64 a0_2) := (blk_cell BK102.out 2).trans rfl; have hcz10_3 : w7.cell? ⟨gb102, 3, none⟩ = some (.int .i64 a0_3) := (blk_cell BK102.out 3).trans rfl; have hcz10_4 : w7.cell? ⟨gb102, 4, none⟩ = some (.int .i64 a0_4) := (blk_cell BK102.out 4).trans rfl; have hcz10_5 : w7.cell? ⟨gb102, 5, none⟩ = some (.int .i64 a0_5) := (blk_cell BK102.out 5).trans rfl; have hcz10_6 : w7.cell? ⟨gb102, 6, none⟩ = some (.int .i64 a0_6) := (blk_cell BK102.out 6).trans rfl; have hcz10_7 : w7.cell? ⟨gb102, 7, none⟩ = some (.int .i64 a0_7) := (blk_cell BK102.out 7).trans rfl; have hcz10_8 : w7.cell? ⟨gb102, 8, none⟩ = some (.int .i64 a0_8) := (blk_cell BK102.out 8).trans rfl; have hcz10_9 : w7.cell? ⟨gb102, 9, none⟩ = some (.int .i64 a0_9) := (blk_cell BK102.out 9).trans rfl; have hcz10_10 : w7.cell? ⟨gb102, 10, none⟩ = some (.int .i64 a0_10) := (blk_cell BK102.out 10).trans rfl; have hcz10_11 : w7.cell? ⟨gb102, 11, none⟩ = some (.int .i64 a0_11) := (blk_cell BK102.out 11).trans rfl; have hfz10_0 := blk_frozen BK102.out 0; have hfz10_1 := blk_frozen BK102.out 1; have hfz10_2 := blk_frozen BK102.out 2; have hfz10_3 := blk_frozen BK102.out 3; have hfz10_4 := blk_frozen BK102.out 4; have hfz10_5 := blk_frozen BK102.out 5; have hfz10_6 := blk_frozen BK102.out 6; have hfz10_7 := blk_frozen BK102.out 7; have hfz10_8 := blk_frozen BK102.out 8; have hfz10_9 := blk_frozen BK102.out 9; have hfz10_10 := blk_frozen BK102.out 10; have hfz10_11 := blk_frozen BK102.out 11; have hnb11 := NB103_104.out; have hnc11 := NB104_103.out; have hcz12_0 : w7.cell? ⟨gb103, 0, none⟩ = some (.int .i64 a1_0) := (blk_cell BK103.out 0).trans rfl; have hcz12_1 : w7.cell? ⟨gb103, 1, none⟩ = some (.int .i64 a1_1) := (blk_cell BK103.out 1).trans rfl; have hcz12_2 : w7.cell? ⟨gb103, 2, none⟩ = some (.bool a1_2) := (blk_cell BK103.out 2).trans rfl; have hfz12_0 := blk_frozen BK103.out 0; have hfz12_1 := blk_frozen BK103.out 1; have hfz12_2 := blk_frozen BK103.out 2; have hcz13_0 : w7.cell? ⟨gb104, 0, none⟩ = some (.int .i64 0) := (blk_cell BK104.out 0).trans rfl; have hcz13_1 : w7.cell? ⟨gb104, 1, none⟩ = some (.int .i64 0) := (blk_cell BK104.out 1).trans rfl; have hcz13_2 : w7.cell? ⟨gb104, 2, none⟩ = some (.bool false) := (blk_cell BK104.out 2).trans rfl; have hfz13_0 := blk_frozen BK104.out 0; have hfz13_1 := blk_frozen BK104.out 1; have hfz13_2 := blk_frozen BK104.out 2))
 refine bodyPost_ret (results_cell_row rfl _ _ gb104 31 #[.int .i64 ji4, .int .i64 a1_1, .bool a1_2] (0, 0) _ rfl (by (with_reducible repeat (first | refine blk_drewN ?_ _ | refine blk_drew ?_ | refine blk_alloc ?_ _)); refine blk_put (cs := #[.int .i64 ji4, .int .i64 a1_1, .bool false]) ?_ 2 _ rfl; (with_reducible repeat (first | refine blk_drewN ?_ _ | refine blk_drew ?_ | refine blk_alloc ?_ _)); refine blk_put (cs := #[.int .i64 ji4, .int .i64 0, .bool false]) ?_ 1 _ rfl; (with_reducible repeat (first | refine blk_drewN ?_ _ | refine blk_drew ?_ | refine blk_alloc ?_ _)); refine blk_put (cs := #[.int .i64 0, .int .i64 0, .bool false]) ?_ 0 _ rfl; (with_reducible repeat (first | refine blk_drewN ?_ _ | refine blk_drew ?_ | refine blk_alloc ?_ _)); refine blk_far ?_ NB104_103.out _; (with_reducible repeat (first | refine blk_drewN ?_ _ | refine blk_drew ?_ | refine blk_alloc ?_ _)); exact BK104.out) Try.underlying31 rfl (by kernel_rfl)) rfl ?_
 exact ⟨by first | rfl | (simp [errW_none, errW_some] <;> rfl) | (simp only [← hji3, ← hji4]; first | rfl | (simp [errW_none, errW_some] <;> rfl)) | (simp [*, errW_none, errW_some] <;> rfl) | (have e_ : ji3 = ji4 := (by omega); subst e_; rfl), by repeat (first | (with_reducible first | exact HB.out | apply below_alloc | apply pw_below_drewN | apply below_drew1 | refine below_set ?_ GE102.out | refine below_set ?_ GE103.out | refine below_set ?_ GE104.out) | exact HB.out)⟩
/-! ### limit_within: function 60 -/
def limit_within.f (a0 : Int) (a1_0 : Int) (a1_1 : Int) (a1_2 : Int) (a1_3 : Int) : Option (Int) := some (mx a1_2 (mn (mx a1_0 (mn a0 a1_1)) a1_3))
def limStep (n a b c d : Int) (k : Int) : Int := if k = 0 then n else if k = 1 then mx a (mn n b) else mx c (mn (mx a (mn n b)) d)
set_option maxHeartbeats 2000000 in
set_option maxRecDepth 100000 in
theorem limit_within.calls (a0 : Int) (a1_0 : Int) (a1_1 : Int) (a1_2 : Int) (a1_3 : Int) (r : Int) (w : World) (h : limit_within.f a0 a1_0 a1_1 a1_2 a1_3 = some r) :
  Calls Try.prog 60 #[.int .i64 a0, .agg #[.int .i64 a1_0, .int .i64 a1_1, .int .i64 a1_2, .int .i64 a1_3]] w fun e w' => e = .returned (.int .i64 r) ∧ Below w.heap.size w w' := by
 have hu64 := Try.underlying98
 have hu63 := Try.underlying97
 have hx0 : ∀ W, (Instr.index 98 (.agg #[.int .i64 a1_0, .int .i64 a1_1, .int .i64 a1_2, .int .i64 a1_3]) (.int .i64 0)).run Try.prog W = .ok (.agg #[.int .i64 a1_0, .int .i64 a1_1]) W := fun W => by rfl
 have hx1 : ∀ W, (Instr.index 98 (.agg #[.int .i64 a1_0, .int .i64 a1_1, .int .i64 a1_2, .int .i64 a1_3]) (.int .i64 1)).run Try.prog W = .ok (.agg #[.int .i64 a1_2, .int .i64 a1_3]) W := fun W => by rfl
 obtain rfl := Option.some.inj h
 clear h
 go_enter Try.func60, Try.ntmps60
 go_wp2
 go_loopw [0, 8] (fun v i wr => ∃ (k x : Int), 0 ≤ k ∧ k ≤ 2 ∧ i = .int .i64 k ∧ v = .int .i64 x ∧ Aside0 (x = limStep a0 a1_0 a1_1 a1_2 a1_3 k) ∧ Below w.heap.size w wr) (fun _ i _ => (2 - intOf i).toNat)
 case atStart => exact ⟨0, a0, by omega, by omega, rfl, rfl, ⟨rfl⟩, (Below.refl _ w).alloc (Nat.le_refl _) _⟩
 case round =>
  obtain ⟨k, x, hk0, hk2, rfl, rfl, hx, hb⟩ := hrel
  have hbs := hb.size
  rcases (by omega : k = 0 ∨ k = 1 ∨ k = 2) with rfl | rfl | rfl
  ·go_wp2
   go_roundw
   case rel => exact ⟨1, mx a1_0 (mn a0 a1_1), by omega, by omega, by first | rfl | simp, by first | rfl | (rw [hx.out]; rfl), ⟨rfl⟩, hb.alloc hbs _⟩
   case measure => simp [intOf]
  ·go_wp2
   go_roundw
   case rel => exact ⟨2, mx a1_2 (mn (mx a1_0 (mn a0 a1_1)) a1_3), by omega, by omega, by first | rfl | simp, by first | rfl | (rw [hx.out]; rfl), ⟨rfl⟩, hb.alloc hbs _⟩
   case measure => simp [intOf]
  ·go_wp2
   go_ret
   exact ⟨by rw [hx.out]; rfl, hb⟩
/-! ### limit_Next: function 48 -/
def limit_Next.f (a0_0 : Int) (a0_1 : Int) (a0_2 : Int) (a0_3 : Int) (a0_4 : Int) (a0_5 : Int) (a0_6 : Int) (a0_7 : Int) (a0_8 : Int) (a0_9 : Int) (a0_10 : Int) (a0_11 : Int) (a1_0 : Int) (a1_1 : Int) (a1_2 : Bool) (a2 : Int) (a3 : Int) : Option (Int × Int × Bool) := (limit_Into.f a0_0 a0_1 a0_2 a0_3 a0_4 a0_5 a0_6 a0_7 a0_8 a0_9 a0_10 a0_11 a1_0 a1_1 a1_2).bind fun bt125 => ((limit_within.f a2 (wrap64 (bt125.1 - a0_2)) (wrap64 (bt125.1 + a0_2)) a0_0 a0_1).bind fun t129 => (if t129 > bt125.1 then (some (t129, a3, true)) else (if bt125.2.2 = true then (if (wrap64 (a3 - bt125.2.1)) < a0_3 then (some (bt125.1, bt125.2.1, bt125.2.2)) else (some (t129, bt125.2.1, bt125.2.2))) else (some (t129, bt125.2.1, bt125.2.2)))))
/-- Three blocks ahead of another one. -/
structure Lim (w W : World) (G : Nat) (cc cg cz : Array Value) : Prop where
 hC : W.heap[w.heap.size]? = some (.cells cc 23 (0, 0))
 hZ : W.heap[w.heap.size + 1 + 1]? = some (.cells cz 31 (0, 0))
 hG : W.heap[G]? = some (.cells cg 31 (0, 0))
 lt : w.heap.size + 1 + 1 < G
 hB : Below w.heap.size w W
theorem Lim.below {w W W' : World} {G : Nat} {cc cg cz : Array Value} (h : Lim w W G cc cg cz) (hb : Below W.heap.size W W') : Lim w W' G cc cg cz := ⟨blk_below h.hC hb, blk_below h.hZ hb, blk_below h.hG hb, h.lt, below_step h.hB hb⟩
theorem Lim.putG {w W : World} {G : Nat} {cc cg cg' cz : Array Value} (h : Lim w W G cc cg cz) (j : Nat) (u : Value) (e : cg.setIfInBounds j u = cg') : Lim w (W.setCell ⟨G, j, none⟩ u) G cc cg' cz :=
 have hl := h.lt
 ⟨blk_far h.hC (by show w.heap.size ≠ G; omega) u, blk_far h.hZ (by show w.heap.size + 1 + 1 ≠ G; omega) u, blk_put h.hG j u e, h.lt, below_set h.hB (by show w.heap.size ≤ G; omega)⟩
theorem Lim.putZ {w W : World} {G : Nat} {cc cg cz cz' : Array Value} (h : Lim w W G cc cg cz) (j : Nat) (u : Value) (e : cz.setIfInBounds j u = cz') : Lim w (W.setCell ⟨w.heap.size + 1 + 1, j, none⟩ u) G cc cg cz' :=
 have hl := h.lt
 ⟨blk_far h.hC (by show w.heap.size ≠ w.heap.size + 1 + 1; omega) u, blk_put h.hZ j u e, blk_far h.hG (by show G ≠ w.heap.size + 1 + 1; omega) u, h.lt, below_set h.hB (by show w.heap.size ≤ w.heap.size + 1 + 1; omega)⟩
theorem lim_mk {w w1 : World} {cc ch cz cg : Array Value} (hb : Below (((w.alloc (.cells cc 23)).alloc (.cells ch 31)).alloc (.cells cz 31)).heap.size (((w.alloc (.cells cc 23)).alloc (.cells ch 31)).alloc (.cells cz 31)) w1) : Lim w (w1.alloc (.cells cg 31)) w1.heap.size cc cg cz := by
 have z := blk_new ((w.alloc (.cells cc 23)).alloc (.cells ch 31)) (.cells cz 31)
 rw [World.size_alloc, World.size_alloc] at z
 have hs := hb.size
 rw [World.size_alloc, World.size_alloc, World.size_alloc] at hs
 exact ⟨blk_alloc (blk_below (blk_alloc (blk_alloc (blk_new w _) _) _) hb) _, blk_alloc (blk_below z hb) _, blk_new w1 _, by omega, below_alloc (below_step (below_alloc (below_alloc (below_alloc (Below.refl _ _) _) _) _) hb) _⟩
set_option maxHeartbeats 8000000 in
set_option maxRecDepth 100000 in
theorem limit_Next.calls (a0_0 : Int) (a0_1 : Int) (a0_2 : Int) (a0_3 : Int) (a0_4 : Int) (a0_5 : Int) (a0_6 : Int) (a0_7 : Int) (a0_8 : Int) (a0_9 : Int) (a0_10 : Int) (a0_11 : Int) (a1_0 : Int) (a1_1 : Int) (a1_2 : Bool) (a2 : Int) (a3 : Int) (r1 : Int) (r2 : Int) (r3 : Bool) (w : World) (h : limit_Next.f a0_0 a0_1 a0_2 a0_3 a0_4 a0_5 a0_6 a0_7 a0_8 a0_9 a0_10 a0_11 a1_0 a1_1 a1_2 a2 a3 = some (r1, r2, r3)) :
  Calls Try.prog 48 #[.agg #[.int .i64 a0_0, .int .i64 a0_1, .int .i64 a0_2, .int .i64 a0_3, .int .i64 a0_4, .int .i64 a0_5, .int .i64 a0_6, .int .i64 a0_7, .int .i64 a0_8, .int .i64 a0_9, .int .i64 a0_10, .int .i64 a0_11], .agg #[.int .i64 a1_0, .int .i64 a1_1, .bool a1_2], .int .i64 a2, .int .i64 a3] w fun e w' => e = .returned (.agg #[.int .i64 r1, .int .i64 r2, .bool r3]) ∧ Below w.heap.size w w' := by
 have hu0 := Try.underlying23
 have hu1 := Try.underlying31
 unfold limit_Next.f at h
 obtain ⟨⟨g, la, gr⟩, hI, h⟩ := Option.bind_eq_some_iff.1 h
 obtain ⟨n, hN, h⟩ := Option.bind_eq_some_iff.1 h
 dsimp only at hN h
 have FI := Aside0.mk hI
 have FN := Aside0.mk hN
 have HH := Aside0.mk h
 clear h hI hN
 go_enter Try.func48, Try.ntmps48
 go_upto_region 1 with (fail)
 go_cut [9] (fun s wx => ∃ G : Nat, s = .pointer (some ⟨G, 0, none⟩) ∧ Lim w wx G #[.int .i64 a0_0, .int .i64 a0_1, .int .i64 a0_2, .int .i64 a0_3, .int .i64 a0_4, .int .i64 a0_5, .int .i64 a0_6, .int .i64 a0_7, .int .i64 a0_8, .int .i64 a0_9, .int .i64 a0_10, .int .i64 a0_11] #[.int .i64 g, .int .i64 la, .bool gr] #[.int .i64 0, .int .i64 0, .bool false])
 case first =>
  go_wp2_with (go_at_call 52; refine (limit_Into.calls _ _ _ _ _ _ _ _ _ _ _ _ _ _ _ _ _ _ _ FI.out).mono ?_; rintro e_ w1 ⟨rfl, hb⟩)
  go_meet
  exact ⟨w1.heap.size, rfl, lim_mk hb⟩
 case rest =>
  obtain ⟨G, rfl, hL⟩ := hcut
  have xc := blk_cell hL.hC
  have xg := blk_cell hL.hG
  have HL := Aside0.mk hL
  clear hL
  go_upto_region 3 with (go_at_call 60; refine (limit_within.calls _ _ _ _ _ _ _ FN.out).mono ?_; rintro e_ w2 ⟨rfl, hb⟩; replace HL := Aside0.mk (HL.out.below hb); clear hb xc xg)
  have xc := blk_cell HL.out.hC
  have xg := blk_cell HL.out.hG
  have xz := blk_cell HL.out.hZ
  have fg := blk_frozen HL.out.hG
  have fz := blk_frozen HL.out.hZ
  have hne : G ≠ w.heap.size + 1 + 1 := by have := HL.out.lt; omega
  have hne' : w.heap.size + 1 + 1 ≠ G := Ne.symm hne
  have h := HH.out
  clear HH FI FN
  try dsimp only at h
  by_cases c1 : n > g
  ·rw [if_pos c1] at h
   simp only [Option.some.injEq, Prod.mk.injEq] at h
   obtain ⟨rfl, rfl, rfl⟩ := h
   have d1 := decide_eq_true c1
   clear c1
   (go_wp2; refine bodyPost_ret (results_cell_row rfl _ _ (w.heap.size + 1 + 1) 31 _ (0, 0) _ rfl (((HL.out.putZ (cz' := #[.int .i64 n, .int .i64 0, .bool false]) 0 _ rfl).putZ (cz' := #[.int .i64 n, .int .i64 a3, .bool false]) 1 _ rfl).putZ (cz' := #[.int .i64 n, .int .i64 a3, .bool true]) 2 _ rfl).hZ hu1 rfl (by kernel_rfl)) rfl ?_; exact ⟨rfl, (((HL.out.putZ (cz' := #[.int .i64 n, .int .i64 0, .bool false]) 0 _ rfl).putZ (cz' := #[.int .i64 n, .int .i64 a3, .bool false]) 1 _ rfl).putZ (cz' := #[.int .i64 n, .int .i64 a3, .bool true]) 2 _ rfl).hB⟩)
  ·rw [if_neg c1] at h
   have d1 := decide_eq_false c1
   clear c1
   cases gr with
   | false =>
    rw [if_neg (by decide)] at h
    simp only [Option.some.injEq, Prod.mk.injEq] at h
    obtain ⟨rfl, rfl, rfl⟩ := h
    (go_wp2; refine bodyPost_ret (results_cell_row rfl _ _ (w.heap.size + 1 + 1) 31 _ (0, 0) _ rfl ((((HL.out.putG (cg' := #[.int .i64 n, .int .i64 la, .bool false]) 0 _ rfl).putZ (cz' := #[.int .i64 n, .int .i64 0, .bool false]) 0 _ rfl).putZ (cz' := #[.int .i64 n, .int .i64 la, .bool false]) 1 _ rfl).putZ (cz' := #[.int .i64 n, .int .i64 la, .bool false]) 2 _ rfl).hZ hu1 rfl (by kernel_rfl)) rfl ?_; exact ⟨rfl, ((((HL.out.putG (cg' := #[.int .i64 n, .int .i64 la, .bool false]) 0 _ rfl).putZ (cz' := #[.int .i64 n, .int .i64 0, .bool false]) 0 _ rfl).putZ (cz' := #[.int .i64 n, .int .i64 la, .bool false]) 1 _ rfl).putZ (cz' := #[.int .i64 n, .int .i64 la, .bool false]) 2 _ rfl).hB⟩)
   | true =>
    rw [if_pos rfl] at h
    by_cases c2 : wrap64 (a3 - la) < a0_3
    ·rw [if_pos c2] at h
     simp only [Option.some.injEq, Prod.mk.injEq] at h
     obtain ⟨rfl, rfl, rfl⟩ := h
     (go_wp2; refine bodyPost_ret (results_cell_row rfl _ _ (w.heap.size + 1 + 1) 31 _ (0, 0) _ rfl (((HL.out.putZ (cz' := #[.int .i64 g, .int .i64 0, .bool false]) 0 _ rfl).putZ (cz' := #[.int .i64 g, .int .i64 la, .bool false]) 1 _ rfl).putZ (cz' := #[.int .i64 g, .int .i64 la, .bool true]) 2 _ rfl).hZ hu1 rfl (by kernel_rfl)) rfl ?_; exact ⟨rfl, (((HL.out.putZ (cz' := #[.int .i64 g, .int .i64 0, .bool false]) 0 _ rfl).putZ (cz' := #[.int .i64 g, .int .i64 la, .bool false]) 1 _ rfl).putZ (cz' := #[.int .i64 g, .int .i64 la, .bool true]) 2 _ rfl).hB⟩)
    ·rw [if_neg c2] at h
     simp only [Option.some.injEq, Prod.mk.injEq] at h
     obtain ⟨rfl, rfl, rfl⟩ := h
     (go_wp2; refine bodyPost_ret (results_cell_row rfl _ _ (w.heap.size + 1 + 1) 31 _ (0, 0) _ rfl ((((HL.out.putG (cg' := #[.int .i64 n, .int .i64 la, .bool true]) 0 _ rfl).putZ (cz' := #[.int .i64 n, .int .i64 0, .bool false]) 0 _ rfl).putZ (cz' := #[.int .i64 n, .int .i64 la, .bool false]) 1 _ rfl).putZ (cz' := #[.int .i64 n, .int .i64 la, .bool true]) 2 _ rfl).hZ hu1 rfl (by kernel_rfl)) rfl ?_; exact ⟨rfl, ((((HL.out.putG (cg' := #[.int .i64 n, .int .i64 la, .bool true]) 0 _ rfl).putZ (cz' := #[.int .i64 n, .int .i64 0, .bool false]) 0 _ rfl).putZ (cz' := #[.int .i64 n, .int .i64 la, .bool false]) 1 _ rfl).putZ (cz' := #[.int .i64 n, .int .i64 la, .bool true]) 2 _ rfl).hB⟩)
/-! ### governorref15_Into: function 32 -/
def governorref15_Into.f (a0_0 : Int) (a0_1 : Int) (a0_2 : Int) (a0_3 : Int) (a0_4 : Int) (a0_5 : Int) (a0_6 : Int) (a0_7 : Int) (a0_8 : Int) (a0_9 : Int) (a0_10 : Int) (a0_11 : Int) (a1_0 : Int) (a1_1 : Int) (a1_2 : Bool) : Option (Int × Int × Bool) := some (mn (mx a1_0 a0_0) a0_1, a1_1, a1_2)
set_option maxHeartbeats 8000000 in
set_option maxRecDepth 100000 in
theorem governorref15_Into.calls (a0_0 : Int) (a0_1 : Int) (a0_2 : Int) (a0_3 : Int) (a0_4 : Int) (a0_5 : Int) (a0_6 : Int) (a0_7 : Int) (a0_8 : Int) (a0_9 : Int) (a0_10 : Int) (a0_11 : Int) (a1_0 : Int) (a1_1 : Int) (a1_2 : Bool) (r1 : Int) (r2 : Int) (r3 : Bool) (w : World) (h : governorref15_Into.f a0_0 a0_1 a0_2 a0_3 a0_4 a0_5 a0_6 a0_7 a0_8 a0_9 a0_10 a0_11 a1_0 a1_1 a1_2 = some (r1, r2, r3)) :
  Calls Try.prog 32 #[.agg #[.int .i64 a0_0, .int .i64 a0_1, .int .i64 a0_2, .int .i64 a0_3, .int .i64 a0_4, .int .i64 a0_5, .int .i64 a0_6, .int .i64 a0_7, .int .i64 a0_8, .int .i64 a0_9, .int .i64 a0_10, .int .i64 a0_11], .agg #[.int .i64 a1_0, .int .i64 a1_1, .bool a1_2]] w fun e w' => e = .returned (.agg #[.int .i64 r1, .int .i64 r2, .bool r3]) ∧ Below w.heap.size w w' := by
 have hu23 := Try.underlying23
 have hu31 := Try.underlying31
 have HB := Aside0.mk (Below.refl w.heap.size w)
 have H : (some (mn (mx a1_0 a0_0) a0_1, a1_1, a1_2)) = some (r1, r2, r3) := h
 clear h
 obtain ⟨ji3, hji3⟩ : ∃ j_ : Int, (mx a1_0 a0_0) = j_ := ⟨_, rfl⟩
 replace H : (some (mn (ji3) a0_1, a1_1, a1_2)) = some (r1, r2, r3) := by first | (rw [hji3] at H; exact H) | (simp only [hji3] at H ⊢; exact H)
 have hji3_ : (if a1_0 < a0_0 then a0_0 else a1_0) = ji3 := hji3
 obtain ⟨ji4, hji4⟩ : ∃ j_ : Int, (mn (ji3) a0_1) = j_ := ⟨_, rfl⟩
 replace H : (some (ji4, a1_1, a1_2)) = some (r1, r2, r3) := by first | (rw [hji4] at H; exact H) | (simp only [hji4] at H ⊢; exact H)
 have hji4_ : (if a0_1 < (ji3) then a0_1 else (ji3)) = ji4 := hji4
 simp only [Option.some.injEq, Prod.mk.injEq] at H
 obtain ⟨rfl, rfl, rfl⟩ := H
 go_enter Try.func32, Try.ntmps32
 go_wp2_with (first | ((with_reducible refine gate_dst (N := 2) rfl ?_); refine box_event ?hg (N := 2) ?hd (cs := #[.int .i64 a0_0, .int .i64 a0_1, .int .i64 a0_2, .int .i64 a0_3, .int .i64 a0_4, .int .i64 a0_5, .int .i64 a0_6, .int .i64 a0_7, .int .i64 a0_8, .int .i64 a0_9, .int .i64 a0_10, .int .i64 a0_11]) (t := 23) ?hr ?_; (case hd => rfl); (case hg => rfl); (case hr => first | (go_simp; done) | (go_simp; rfl)); intro gb184 hg w5 hbox hb; have n0_ := Aside0.mk (below_step (by repeat (first | (with_reducible first | exact HB.out | apply below_alloc | apply pw_below_drewN | apply below_drew1) | exact HB.out)) hb); have n1_ := Aside0.mk (hbox); have n2_ := Aside0.mk ((by rw [hg]; exact (below_size (by repeat (first | (with_reducible first | exact HB.out | apply below_alloc | apply pw_below_drewN | apply below_drew1) | exact HB.out))) : w.heap.size ≤ gb184)); have n3_ := Aside0.mk ((by rw [hg]; exact (below_size (by repeat (first | (with_reducible first | exact HB.out | apply below_alloc | apply pw_below_drewN | apply below_drew1) | exact HB.out))) : w.heap.size ≤ gb184)); clear HB; have HB := n0_; have BK184 := n1_; have GW184 := n2_; have GE184 := n3_; clear n0_ n1_ n2_ n3_; clear hb hbox hg) | ((with_reducible refine gate_dst (N := 3) rfl ?_); refine box_event ?hg (N := 3) ?hd (cs := #[.int .i64 a1_0, .int .i64 a1_1, .bool a1_2]) (t := 31) ?hr ?_; (case hd => rfl); (case hg => rfl); (case hr => first | (go_simp; done) | (go_simp; rfl)); intro gb185 hg w6 hbox hb; have n0_ := Aside0.mk (blk_below (g := gb184) (o := .cells #[.int .i64 a0_0, .int .i64 a0_1, .int .i64 a0_2, .int .i64 a0_3, .int .i64 a0_4, .int .i64 a0_5, .int .i64 a0_6, .int .i64 a0_7, .int .i64 a0_8, .int .i64 a0_9, .int .i64 a0_10, .int .i64 a0_11] 23 (0, 0)) (by (with_reducible repeat (first | refine blk_drewN ?_ _ | refine blk_drew ?_ | refine blk_alloc ?_ _)); exact BK184.out) hb); have n1_ := Aside0.mk (below_step (by repeat (first | (with_reducible first | exact HB.out | apply below_alloc | apply pw_below_drewN | apply below_drew1 | refine below_set ?_ GE184.out) | exact HB.out)) hb); have n2_ := Aside0.mk (hbox); have n3_ := Aside0.mk ((by rw [hg]; exact (below_size (by repeat (first | (with_reducible first | exact HB.out | apply below_alloc | apply pw_below_drewN | apply below_drew1 | refine below_set ?_ GE184.out) | exact HB.out))) : w.heap.size ≤ gb185)); have n4_ := Aside0.mk ((by rw [hg]; exact (below_size (by repeat (first | (with_reducible first | exact HB.out | apply below_alloc | apply pw_below_drewN | apply below_drew1 | refine below_set ?_ GE184.out) | exact HB.out))) : w.heap.size ≤ gb185)); have n5_ := Aside0.mk ((by rw [hg]; exact Nat.ne_of_lt (blk_lt (g := gb184) (o := .cells #[.int .i64 a0_0, .int .i64 a0_1, .int .i64 a0_2, .int .i64 a0_3, .int .i64 a0_4, .int .i64 a0_5, .int .i64 a0_6, .int .i64 a0_7, .int .i64 a0_8, .int .i64 a0_9, .int .i64 a0_10, .int .i64 a0_11] 23 (0, 0)) (by (with_reducible repeat (first | refine blk_drewN ?_ _ | refine blk_drew ?_ | refine blk_alloc ?_ _)); exact BK184.out)) : gb184 ≠ gb185)); have n6_ := Aside0.mk ((by rw [hg]; exact Nat.ne_of_gt (blk_lt (g := gb184) (o := .cells #[.int .i64 a0_0, .int .i64 a0_1, .int .i64 a0_2, .int .i64 a0_3, .int .i64 a0_4, .int .i64 a0_5, .int .i64 a0_6, .int .i64 a0_7, .int .i64 a0_8, .int .i64 a0_9, .int .i64 a0_10, .int .i64 a0_11] 23 (0, 0)) (by (with_reducible repeat (first | refine blk_drewN ?_ _ | refine blk_drew ?_ | refine blk_alloc ?_ _)); exact BK184.out)) : gb185 ≠ gb184)); clear BK184; clear HB; have BK184 := n0_; have HB := n1_; have BK185 := n2_; have GW185 := n3_; have GE185 := n4_; have NB184_185 := n5_; have NB185_184 := n6_; clear n0_ n1_ n2_ n3_ n4_ n5_ n6_; clear hb hbox hg) | ((with_reducible refine gate_dst (N := 4) rfl ?_); refine box_event ?hg (N := 4) ?hd (cs := #[.int .i64 0, .int .i64 0, .bool false]) (t := 31) ?hr ?_; (case hd => rfl); (case hg => rfl); (case hr => first | (go_simp; done) | (go_simp; rfl)); intro gb186 hg w7 hbox hb; have n0_ := Aside0.mk (blk_below (g := gb184) (o := .cells #[.int .i64 a0_0, .int .i64 a0_1, .int .i64 a0_2, .int .i64 a0_3, .int .i64 a0_4, .int .i64 a0_5, .int .i64 a0_6, .int .i64 a0_7, .int .i64 a0_8, .int .i64 a0_9, .int .i64 a0_10, .int .i64 a0_11] 23 (0, 0)) (by (with_reducible repeat (first | refine blk_drewN ?_ _ | refine blk_drew ?_ | refine blk_alloc ?_ _)); exact BK184.out) hb); have n1_ := Aside0.mk (blk_below (g := gb185) (o := .cells #[.int .i64 a1_0, .int .i64 a1_1, .bool a1_2] 31 (0, 0)) (by (with_reducible repeat (first | refine blk_drewN ?_ _ | refine blk_drew ?_ | refine blk_alloc ?_ _)); exact BK185.out) hb); have n2_ := Aside0.mk (below_step (by repeat (first | (with_reducible first | exact HB.out | apply below_alloc | apply pw_below_drewN | apply below_drew1 | refine below_set ?_ GE184.out | refine below_set ?_ GE185.out) | exact HB.out)) hb); have n3_ := Aside0.mk (hbox); have n4_ := Aside0.mk ((by rw [hg]; exact (below_size (by repeat (first | (with_reducible first | exact HB.out | apply below_alloc | apply pw_below_drewN | apply below_drew1 | refine below_set ?_ GE184.out | refine below_set ?_ GE185.out) | exact HB.out))) : w.heap.size ≤ gb186)); have n5_ := Aside0.mk ((by rw [hg]; exact (below_size (by repeat (first | (with_reducible first | exact HB.out | apply below_alloc | apply pw_below_drewN | apply below_drew1 | refine below_set ?_ GE184.out | refine below_set ?_ GE185.out) | exact HB.out))) : w.heap.size ≤ gb186)); have n6_ := Aside0.mk ((by rw [hg]; exact Nat.ne_of_lt (blk_lt (g := gb184) (o := .cells #[.int .i64 a0_0, .int .i64 a0_1, .int .i64 a0_2, .int .i64 a0_3, .int .i64 a0_4, .int .i64 a0_5, .int .i64 a0_6, .int .i64 a0_7, .int .i64 a0_8, .int .i64 a0_9, .int .i64 a0_10, .int .i64 a0_11] 23 (0, 0)) (by (with_reducible repeat (first | refine blk_drewN ?_ _ | refine blk_drew ?_ | refine blk_alloc ?_ _)); exact BK184.out)) : gb184 ≠ gb186)); have n7_ := Aside0.mk ((by rw [hg]; exact Nat.ne_of_gt (blk_lt (g := gb184) (o := .cells #[.int .i64 a0_0, .int .i64 a0_1, .int .i64 a0_2, .int .i64 a0_3, .int .i64 a0_4, .int .i64 a0_5, .int .i64 a0_6, .int .i64 a0_7, .int .i64 a0_8, .int .i64 a0_9, .int .i64 a0_10, .int .i64 a0_11] 23 (0, 0)) (by (with_reducible repeat (first | refine blk_drewN ?_ _ | refine blk_drew ?_ | refine blk_alloc ?_ _)); exact BK184.out)) : gb186 ≠ gb184)); have n8_ := Aside0.mk ((by rw [hg]; exact Nat.ne_of_lt (blk_lt (g := gb185) (o := .cells #[.int .i64 a1_0, .int .i64 a1_1, .bool a1_2] 31 (0, 0)) (by (with_reducible repeat (first | refine blk_drewN ?_ _ | refine blk_drew ?_ | refine blk_alloc ?_ _)); exact BK185.out)) : gb185 ≠ gb186)); have n9_ := Aside0.mk ((by rw [hg]; exact Nat.ne_of_gt (blk_lt (g := gb185) (o := .cells #[.int .i64 a1_0, .int .i64 a1_1, .bool a1_2] 31 (0, 0)) (by (with_reducible repeat (first | refine blk_drewN ?_ _ | refine blk_drew ?_ | refine blk_alloc ?_ _)); exact BK185.out)) : gb186 ≠ gb185)); clear BK184; clear BK185; clear HB; have BK184 := n0_; have BK185 := n1_; have HB := n2_; have BK186 := n3_; have GW186 := n4_; have GE186 := n5_; have NB184_186 := n6_; have NB186_184 := n7_; have NB185_186 := n8_; have NB186_185 := n9_; clear n0_ n1_ n2_ n3_ n4_ n5_ n6_ n7_ n8_ n9_; clear hb hbox hg; have hnb8 := NB185_184.out; have hnc8 := NB184_185.out; have hnb9 := NB185_186.out; have hnc9 := NB186_185.out; have hcz10_0 : w7.cell? ⟨gb185, 0, none⟩ = some (.int .i64 a1_0) := (blk_cell BK185.out 0).trans rfl; have hcz10_1 : w7.cell? ⟨gb185, 1, none⟩ = some (.int .i64 a1_1) := (blk_cell BK185.out 1).trans rfl; have hcz10_2 : w7.cell? ⟨gb185, 2, none⟩ = some (.bool a1_2) := (blk_cell BK185.out 2).trans rfl; have hfz10_0 := blk_frozen BK185.out 0; have hfz10_1 := blk_frozen BK185.out 1; have hfz10_2 := blk_frozen BK185.out 2; have hnb11 := NB184_186.out; have hnc11 := NB186_184.out; have hcz12_0 : w7.cell? ⟨gb184, 0, none⟩ = some (.int .i64 a0_0) := (blk_cell BK184.out 0).trans rfl; have hcz12_1 : w7.cell? ⟨gb184, 1, none⟩ = some (.int .i64 a0_1) := (blk_cell BK184.out 1).trans rfl; have hcz12_2 : w7.cell? ⟨gb184, 2, none⟩ = some (.int .i64 a0_2) := (blk_cell BK184.out 2).trans rfl; have hcz12_3 : w7.cell? ⟨gb184, 3, none⟩ = some (.int .i64 a0_3) := (blk_cell BK184.out 3).trans rfl; have hcz12_4 : w7.cell? ⟨gb184, 4, none⟩ = some (.int .i64 a0_4) := (blk_cell BK184.out 4).trans rfl; have hcz12_5 : w7.cell? ⟨gb184, 5, none⟩ = some (.int .i64 a0_5) := (blk_cell BK184.out 5).trans rfl; have hcz12_6 : w7.cell? ⟨gb184, 6, none⟩ = some (.int .i64 a0_6) := (blk_cell BK184.out 6).trans rfl; have hcz12_7 : w7.cell? ⟨gb184, 7, none⟩ = some (.int .i64 a0_7) := (blk_cell BK184.out 7).trans rfl; have hcz12_8 : w7.cell? ⟨gb184, 8, none⟩ = some (.int .i64 a0_8) := (blk_cell BK184.out 8).trans rfl; have hcz12_9 : w7.cell? ⟨gb184, 9, none⟩ = some (.int .i64 a0_9) := (blk_cell BK184.out 9).trans rfl; have hcz12_10 : w7.cell? ⟨gb184, 10, none⟩ = some (.int .i64 a0_10) := (blk_cell BK184.out 10).trans rfl; have hcz12_11 : w7.cell? ⟨gb184, 11, none⟩ = some (.int .i64 a0_11) := (blk_cell BK184.out 11).trans rfl; have hfz12_0 := blk_frozen BK184.out 0; have hfz12_1 := blk_frozen BK184.out 1; have hfz12_2 := blk_frozen BK184.out 2; have hfz12_3 := blk_frozen BK184.out 3; have hfz12_4 := blk_frozen BK184.out 4; have hfz12_5 := blk_frozen BK184.out 5; have hfz12_6 := blk_frozen BK184.out 6; have hfz12_7 := blk_frozen BK184.out 7; have hfz12_8 := blk_frozen BK184.out 8; have hfz12_9 := blk_frozen BK184.out 9; have hfz12_10 := blk_frozen BK184.out 10; have hfz12_11 := blk_frozen BK184.out 11; have hcz13_0 : w7.cell? ⟨gb186, 0, none⟩ = some (.int .i64 0) := (blk_cell BK186.out 0).trans rfl; have hcz13_1 : w7.cell? ⟨gb186, 1, none⟩ = some (.int .i64 0) := (blk_cell BK186.out 1).trans rfl; have hcz13_2 : w7.cell? ⟨gb186, 2, none⟩ = some (.bool false) := (blk_cell BK186.out 2).trans rfl; have hfz13_0 := blk_frozen BK186.out 0; have hfz13_1 := blk_frozen BK186.out 1; have hfz13_2 := blk_frozen BK186.out 2))
 refine bodyPost_ret (results_cell_row rfl _ _ gb186 31 #[.int .i64 ji4, .int .i64 a1_1, .bool a1_2] (0, 0) _ rfl (by (with_reducible repeat (first | refine blk_drewN ?_ _ | refine blk_drew ?_ | refine blk_alloc ?_ _)); refine blk_put (cs := #[.int .i64 ji4, .int .i64 a1_1, .bool false]) ?_ 2 _ rfl; (with_reducible repeat (first | refine blk_drewN ?_ _ | refine blk_drew ?_ | refine blk_alloc ?_ _)); refine blk_put (cs := #[.int .i64 ji4, .int .i64 0, .bool false]) ?_ 1 _ rfl; (with_reducible repeat (first | refine blk_drewN ?_ _ | refine blk_drew ?_ | refine blk_alloc ?_ _)); refine blk_put (cs := #[.int .i64 0, .int .i64 0, .bool false]) ?_ 0 _ rfl; (with_reducible repeat (first | refine blk_drewN ?_ _ | refine blk_drew ?_ | refine blk_alloc ?_ _)); refine blk_far ?_ NB186_185.out _; (with_reducible repeat (first | refine blk_drewN ?_ _ | refine blk_drew ?_ | refine blk_alloc ?_ _)); exact BK186.out) Try.underlying31 rfl (by kernel_rfl)) rfl ?_
 exact ⟨by first | rfl | (simp [errW_none, errW_some] <;> rfl) | (simp only [← hji3, ← hji4]; first | rfl | (simp [errW_none, errW_some] <;> rfl)) | (simp [*, errW_none, errW_some] <;> rfl) | (have e_ : ji3 = ji4 := (by omega); subst e_; rfl), by repeat (first | (with_reducible first | exact HB.out | apply below_alloc | apply pw_below_drewN | apply below_drew1 | refine below_set ?_ GE184.out | refine below_set ?_ GE185.out | refine below_set ?_ GE186.out) | exact HB.out)⟩
/-! ### governorref15_Next: function 34 -/
def r15 (g lo hi rate st last want now : Int) (grew : Bool) : Int × Int × Bool :=
 let n1 := if want < wrap64 (g - rate) then wrap64 (g - rate) else want
 let n2 := if n1 > wrap64 (g + rate) then wrap64 (g + rate) else n1
 let n3 := mn (mx n2 lo) hi
 let n4 := if n3 < g ∧ grew = true ∧ wrap64 (now - last) < st then g else n3
 if n4 > g then (n4, now, true) else (n4, last, grew)
def governorref15_Next.f (a0_0 : Int) (a0_1 : Int) (a0_2 : Int) (a0_3 : Int) (a0_4 : Int) (a0_5 : Int) (a0_6 : Int) (a0_7 : Int) (a0_8 : Int) (a0_9 : Int) (a0_10 : Int) (a0_11 : Int) (a1_0 : Int) (a1_1 : Int) (a1_2 : Bool) (a2 : Int) (a3 : Int) : Option (Int × Int × Bool) :=
 some (r15 (mn (mx a1_0 a0_0) a0_1) a0_0 a0_1 a0_2 a0_3 a1_1 a2 a3 a1_2)
theorem put3_39 {W : World} {R : Nat} {u v x : Value} {T : Nat} (k : W.heap[R]? = some (.cells #[u, v, x] T (0, 0))) (a b c : Value) : (((W.setCell ⟨R, 0, none⟩ a).setCell ⟨R, 1, none⟩ b).setCell ⟨R, 2, none⟩ c).heap[R]? = some (.cells #[a, b, c] T (0, 0)) :=
 blk_put (blk_put (blk_put k 0 a rfl) 1 b rfl) 2 c rfl
set_option maxHeartbeats 40000000 in
set_option maxRecDepth 100000 in
theorem r15_walk (a0_0 : Int) (a0_1 : Int) (a0_2 : Int) (a0_3 : Int) (a0_4 : Int) (a0_5 : Int) (a0_6 : Int) (a0_7 : Int) (a0_8 : Int) (a0_9 : Int) (a0_10 : Int) (a0_11 : Int) (a1_0 : Int) (a1_1 : Int) (a1_2 : Bool) (a2 : Int) (a3 : Int) (g n1 n2 m n3 : Int) (r : Int × Int × Bool) (w : World) (hg : Aside0 (mn (mx a1_0 a0_0) a0_1 = g))
  (h1 : (a2 < wrap64 (g - a0_2) ∧ n1 = wrap64 (g - a0_2)) ∨ (¬ a2 < wrap64 (g - a0_2) ∧ n1 = a2)) (h2 : (n1 > wrap64 (g + a0_2) ∧ n2 = wrap64 (g + a0_2)) ∨ (¬ n1 > wrap64 (g + a0_2) ∧ n2 = n1)) (h3 : (if n2 < a0_0 then a0_0 else n2) = m) (h3' : (if a0_1 < m then a0_1 else m) = n3)
  (h4 : (n3 < g ∧ a1_2 = true ∧ wrap64 (a3 - a1_1) < a0_3 ∧ r = (g, a1_1, true)) ∨ (n3 < g ∧ a1_2 = true ∧ ¬ wrap64 (a3 - a1_1) < a0_3 ∧ r = (n3, a1_1, true)) ∨ (n3 < g ∧ a1_2 = false ∧ r = (n3, a1_1, false)) ∨ (¬ n3 < g ∧ n3 > g ∧ r = (n3, a3, true)) ∨ (¬ n3 < g ∧ ¬ n3 > g ∧ r = (n3, a1_1, a1_2))) :
  Calls Try.prog 34 #[.agg #[.int .i64 a0_0, .int .i64 a0_1, .int .i64 a0_2, .int .i64 a0_3, .int .i64 a0_4, .int .i64 a0_5, .int .i64 a0_6, .int .i64 a0_7, .int .i64 a0_8, .int .i64 a0_9, .int .i64 a0_10, .int .i64 a0_11], .agg #[.int .i64 a1_0, .int .i64 a1_1, .bool a1_2], .int .i64 a2, .int .i64 a3] w fun e w' => e = .returned (.agg #[.int .i64 r.1, .int .i64 r.2.1, .bool r.2.2]) ∧ Below w.heap.size w w' := by
 have hu37 := Try.underlying23
 have hu39 := Try.underlying31
 go_enter Try.func34, Try.ntmps34
 go_upto_region 1 with (fail)
 go_cut [9] (fun s wx => ∃ G : Nat, s = .pointer (some ⟨G, 0, none⟩) ∧ wx.heap[G]? = some (.cells #[.int .i64 g, .int .i64 a1_1, .bool a1_2] 31 (0, 0)) ∧ wx.heap[w.heap.size]? = some (.cells #[.int .i64 a0_0, .int .i64 a0_1, .int .i64 a0_2, .int .i64 a0_3, .int .i64 a0_4, .int .i64 a0_5, .int .i64 a0_6, .int .i64 a0_7, .int .i64 a0_8, .int .i64 a0_9, .int .i64 a0_10, .int .i64 a0_11] 23 (0, 0)) ∧ wx.heap[w.heap.size + 1 + 1]? = some (.cells #[.int .i64 0, .int .i64 0, .bool false] 31 (0, 0)) ∧ Below w.heap.size w wx ∧ w.heap.size + 1 + 1 < G)
 case first =>
  have hs3 : ∀ o1 o2 o3, (((w.alloc o1).alloc o2).alloc o3).heap.size = w.heap.size + 3 := fun _ _ _ => by simp
  go_wp2_with (go_at_call 32; refine (governorref15_Into.calls a0_0 a0_1 a0_2 a0_3 a0_4 a0_5 a0_6 a0_7 a0_8 a0_9 a0_10 a0_11 a1_0 a1_1 _ g a1_1 _ _ (by rw [← hg.out]; rfl)).mono ?_; rintro e w1 ⟨rfl, hb⟩)
  go_meet
  have hz : w.heap.size + 1 + 1 < w1.heap.size := by have := hb.size; rw [hs3] at this; omega
  have hb0 : Below w.heap.size w w1 := Below.trans ((((Below.refl _ w).alloc (Nat.le_refl _) _).alloc (by simp) _).alloc (by simp; omega) _) (hb.mono (by rw [hs3]; omega))
  refine ⟨w1.heap.size, rfl, blk_new w1 _, blk_alloc (blk_below (blk_alloc (blk_alloc (blk_new w _) _) _) hb) _, blk_alloc (blk_below ?_ hb) _, hb0.alloc hb0.size _, hz⟩
  have z := blk_new ((w.alloc (.cells #[.int .i64 a0_0, .int .i64 a0_1, .int .i64 a0_2, .int .i64 a0_3, .int .i64 a0_4, .int .i64 a0_5, .int .i64 a0_6, .int .i64 a0_7, .int .i64 a0_8, .int .i64 a0_9, .int .i64 a0_10, .int .i64 a0_11] 23)).alloc (.cells #[.int .i64 a1_0, .int .i64 a1_1, .bool a1_2] 31)) (.cells #[.int .i64 0, .int .i64 0, .bool false] 31)
  rw [World.size_alloc, World.size_alloc] at z
  exact z
 case rest =>
  obtain ⟨G, rfl, kG, kC, kR, hB, hGR⟩ := hcut
  have x0 := blk_cell kC 0
  have x1 := blk_cell kC 1
  have x2 := blk_cell kC 2
  have x3 := blk_cell kC 3
  have g0 := blk_cell kG 0
  have g1 := blk_cell kG 1
  have g2 := blk_cell kG 2
  have gf := blk_frozen kG 0
  have r0 := blk_cell kR 0
  have r1 := blk_cell kR 1
  have r2 := blk_cell kR 2
  have rf0 := blk_frozen kR 0
  have rf1 := blk_frozen kR 1
  have rf2 := blk_frozen kR 2
  simp only [List.getElem?_toArray, List.getElem?_cons_zero, List.getElem?_cons_succ] at x0 x1 x2 x3 g0 g1 g2 r0 r1 r2
  have HG := Aside0.mk kG
  have HR := Aside0.mk kR
  have HB := Aside0.mk hB
  have HGR := Aside0.mk hGR
  clear kG kC kR hB hGR hg
  have hne : w.heap.size + 1 + 1 ≠ G := by have := HGR.out; omega
  have hne' : G ≠ w.heap.size + 1 + 1 := Ne.symm hne
  rcases h1 with ⟨c1, e1⟩ | ⟨c1, e1⟩ <;> rcases h2 with ⟨c2, e2⟩ | ⟨c2, e2⟩ <;> subst n2 <;> subst n1
  all_goals
   rcases h4 with ⟨c3, rfl, c4, rfl⟩ | ⟨c3, rfl, c4, rfl⟩ | ⟨c3, rfl, rfl⟩ | ⟨c3, c4, rfl⟩ | ⟨c3, c4, rfl⟩
  all_goals
   go_wp2
   refine bodyPost_ret (results_cell_row rfl _ _ (w.heap.size + 1 + 1) 31 _ (0, 0) _ rfl (by first | (with_reducible exact put3_39 HR.out _ _ _) | (with_reducible exact put3_39 (blk_far HR.out hne _) _ _ _) | exact put3_39 (blk_far HR.out hne _) _ _ _) Try.underlying31 rfl (by kernel_rfl)) rfl ?_
   exact ⟨rfl, by repeat (first | exact HB.out | refine below_set ?_ (by have h_ := HGR.out; show w.heap.size ≤ w.heap.size + 1 + 1; omega) | refine below_set ?_ (by have h_ := HGR.out; show w.heap.size ≤ G; omega))⟩
theorem governorref15_Next.calls (a0_0 : Int) (a0_1 : Int) (a0_2 : Int) (a0_3 : Int) (a0_4 : Int) (a0_5 : Int) (a0_6 : Int) (a0_7 : Int) (a0_8 : Int) (a0_9 : Int) (a0_10 : Int) (a0_11 : Int) (a1_0 : Int) (a1_1 : Int) (a1_2 : Bool) (a2 : Int) (a3 : Int) (r1 : Int) (r2 : Int) (r3 : Bool) (w : World) (h : governorref15_Next.f a0_0 a0_1 a0_2 a0_3 a0_4 a0_5 a0_6 a0_7 a0_8 a0_9 a0_10 a0_11 a1_0 a1_1 a1_2 a2 a3 = some (r1, r2, r3)) :
  Calls Try.prog 34 #[.agg #[.int .i64 a0_0, .int .i64 a0_1, .int .i64 a0_2, .int .i64 a0_3, .int .i64 a0_4, .int .i64 a0_5, .int .i64 a0_6, .int .i64 a0_7, .int .i64 a0_8, .int .i64 a0_9, .int .i64 a0_10, .int .i64 a0_11], .agg #[.int .i64 a1_0, .int .i64 a1_1, .bool a1_2], .int .i64 a2, .int .i64 a3] w fun e w' => e = .returned (.agg #[.int .i64 r1, .int .i64 r2, .bool r3]) ∧ Below w.heap.size w w' := by
 have hr : r15 (mn (mx a1_0 a0_0) a0_1) a0_0 a0_1 a0_2 a0_3 a1_1 a2 a3 a1_2 = (r1, r2, r3) := Option.some.inj h
 clear h
 unfold r15 at hr
 generalize hg : mn (mx a1_0 a0_0) a0_1 = g at hr
 dsimp only at hr
 generalize e1 : (if a2 < wrap64 (g - a0_2) then wrap64 (g - a0_2) else a2) = n1 at hr
 generalize e2 : (if n1 > wrap64 (g + a0_2) then wrap64 (g + a0_2) else n1) = n2 at hr
 generalize e3 : mn (mx n2 a0_0) a0_1 = n3 at hr
 generalize e4 : (if n3 < g ∧ a1_2 = true ∧ wrap64 (a3 - a1_1) < a0_3 then g else n3) = n4 at hr
 refine r15_walk a0_0 a0_1 a0_2 a0_3 a0_4 a0_5 a0_6 a0_7 a0_8 a0_9 a0_10 a0_11 a1_0 a1_1 a1_2 a2 a3 g n1 n2 _ n3 (r1, r2, r3) w ⟨hg⟩ ?_ ?_ rfl e3 ?_
 ·by_cases c : a2 < wrap64 (g - a0_2)
  ·rw [if_pos c] at e1; exact .inl ⟨c, e1.symm⟩
  ·rw [if_neg c] at e1; exact .inr ⟨c, e1.symm⟩
 ·by_cases c : n1 > wrap64 (g + a0_2)
  ·rw [if_pos c] at e2; exact .inl ⟨c, e2.symm⟩
  ·rw [if_neg c] at e2; exact .inr ⟨c, e2.symm⟩
 ·by_cases c1 : n3 < g
  ·cases a1_2 with
   | false =>
    rw [if_neg (by simp)] at e4
    rw [if_neg (by omega)] at hr
    exact .inr (.inr (.inl ⟨c1, rfl, by rw [← hr, e4]⟩))
   | true =>
    by_cases c2 : wrap64 (a3 - a1_1) < a0_3
    ·rw [if_pos ⟨c1, rfl, c2⟩] at e4
     rw [if_neg (by omega)] at hr
     exact .inl ⟨c1, rfl, c2, by rw [← hr, e4]⟩
    ·rw [if_neg (fun h => c2 h.2.2)] at e4
     rw [if_neg (by omega)] at hr
     exact .inr (.inl ⟨c1, rfl, c2, by rw [← hr, e4]⟩)
  ·rw [if_neg (fun h => c1 h.1)] at e4
   by_cases c2 : n3 > g
   ·rw [if_pos (by omega)] at hr
    exact .inr (.inr (.inr (.inl ⟨c1, c2, by rw [← hr, e4]⟩)))
   ·rw [if_neg (by omega)] at hr
    exact .inr (.inr (.inr (.inr ⟨c1, c2, by rw [← hr, e4]⟩)))
end Go.Proofs.Ytefgoffaidjiaaa.PAll
namespace Go.Proofs.Ytefgoffaidjiaaa.PAll
open Go.RowKit Go.Proofs.YtefgoffaidjiaaaW.PrintWords Go.Proofs.YtefgoffaidjiaaaW.PrintLast Go.Proofs.YtefgoffaidjiaaaW.PrintMore
set_option linter.unusedVariables false
set_option linter.unusedSimpArgs false
/-- What the guard says of the four numbers that matter here. -/
structure ConfP (lo hi rate st : Int) : Prop where
  l1 : 1 ≤ lo
  lh : lo ≤ hi
  h1 : hi ≤ 1000
  r1 : 1 ≤ rate
  r2 : rate ≤ 1000
  s0 : 0 ≤ st
  s1 : st ≤ 1099511627776
theorem conf_in {a0 a1 a2 a3 a4 a5 a6 a7 a8 a9 a10 a11 : Int} (h : (cfSize a0 a1 a2 && (cfPlant a3 a4 a5 a6 && cfJudge a7 a8 a9 a10 a11)) = true) : ConfP a0 a1 a2 a3 := by
  simp only [cfSize, cfPlant, wB, Bool.and_eq_true, decide_eq_true_eq] at h
  exact ⟨by omega, by omega, by omega, by omega, by omega, by omega, by omega⟩
/-- WHAT A TICK LEAVES. -/
def NextP (lo hi rate st cur last : Int) (grew : Bool) (want now : Int) (c l : Int) (gr : Bool) : Prop :=
  ∃ g n : Int, g = mx lo (mn cur hi) ∧ n = mx lo (mn (mx (g - rate) (mn want (g + rate))) hi) ∧
    ((n > g ∧ c = n ∧ l = now ∧ gr = true) ∨ (n ≤ g ∧ grew = true ∧ now - last < st ∧ c = g ∧ l = last ∧ gr = grew) ∨ (n ≤ g ∧ (grew = true → ¬ now - last < st) ∧ c = n ∧ l = last ∧ gr = grew))
theorem limit_next {a0 a1 a2 a3 a4 a5 a6 a7 a8 a9 a10 a11 cur last want now : Int} {grew : Bool} (C : ConfP a0 a1 a2 a3) (n0 : 0 ≤ now) (n1 : now ≤ 2199023255552) (l0 : 0 ≤ last) (l1 : last ≤ 2199023255552) :
    ∃ c l gr, limit_Next.f a0 a1 a2 a3 a4 a5 a6 a7 a8 a9 a10 a11 cur last grew want now = some (c, l, gr) ∧ NextP a0 a1 a2 a3 cur last grew want now c l gr := by
  obtain ⟨c1, c2, c3, c4, c5, c6, c7⟩ := C
  unfold limit_Next.f limit_Into.f limit_within.f
  simp only [Option.bind_some]
  obtain ⟨g, hg⟩ : ∃ g, mx a0 (mn cur a1) = g := ⟨_, rfl⟩
  have g0 : 1 ≤ g ∧ g ≤ 1000 := by rw [← hg]; unfold mx mn; omega
  rw [hg, wr (n := g - a2) (by omega) (by omega), wr (n := g + a2) (by omega) (by omega), wr (n := now - last) (by omega) (by omega)]
  obtain ⟨n, hn⟩ : ∃ n, mx a0 (mn (mx (g - a2) (mn want (g + a2))) a1) = n := ⟨_, rfl⟩
  rw [hn]
  by_cases h1 : n > g
  · exact ⟨n, now, true, by rw [if_pos h1], g, n, hg.symm, hn.symm, .inl ⟨h1, rfl, rfl, rfl⟩⟩
  · rw [if_neg h1]
    by_cases h2 : grew = true
    · rw [if_pos h2]
      by_cases h3 : now - last < a3
      · rw [if_pos h3]
        exact ⟨g, last, grew, rfl, g, n, hg.symm, hn.symm, .inr (.inl ⟨by omega, h2, h3, rfl, rfl, rfl⟩)⟩
      · rw [if_neg h3]
        exact ⟨n, last, grew, rfl, g, n, hg.symm, hn.symm, .inr (.inr ⟨by omega, fun _ => h3, rfl, rfl, rfl⟩)⟩
    · rw [if_neg h2]
      exact ⟨n, last, grew, rfl, g, n, hg.symm, hn.symm, .inr (.inr ⟨by omega, fun h => absurd h h2, rfl, rfl, rfl⟩)⟩
theorem ref_next {a0 a1 a2 a3 cur last want now c l : Int} {grew gr : Bool} (C : ConfP a0 a1 a2 a3) (n0 : 0 ≤ now) (n1 : now ≤ 2199023255552) (l0 : 0 ≤ last) (l1 : last ≤ 2199023255552) (h : NextP a0 a1 a2 a3 cur last grew want now c l gr) :
    r15 (mn (mx cur a0) a1) a0 a1 a2 a3 last want now grew = (c, l, gr) := by
  obtain ⟨c1, c2, c3, c4, c5, c6, c7⟩ := C
  obtain ⟨g, n, hg, hn, h⟩ := h
  have g0 : 1 ≤ g ∧ g ≤ 1000 := by rw [hg]; unfold mx mn; omega
  have e : mn (mx cur a0) a1 = g := by rw [hg]; unfold mx mn; omega
  unfold r15
  rw [e, wr (n := g - a2) (by omega) (by omega), wr (n := g + a2) (by omega) (by omega), wr (n := now - last) (by omega) (by omega)]
  dsimp only
  obtain ⟨m1, hm1⟩ : ∃ m1, (if want < g - a2 then g - a2 else want) = m1 := ⟨_, rfl⟩
  rw [hm1]
  obtain ⟨m2, hm2⟩ : ∃ m2, (if m1 > g + a2 then g + a2 else m1) = m2 := ⟨_, rfl⟩
  rw [hm2]
  have e2 : mn (mx m2 a0) a1 = n := by rw [hn, ← hm2, ← hm1]; unfold mx mn; omega
  rw [e2]
  clear hm1 hm2 e2 hg hn e
  obtain ⟨n4, hn4⟩ : ∃ n4, (if n < g ∧ grew = true ∧ now - last < a3 then g else n) = n4 := ⟨_, rfl⟩
  rw [hn4]
  rcases h with ⟨k1, rfl, rfl, rfl⟩ | ⟨k1, k2, k3, rfl, rfl, rfl⟩ | ⟨k1, k2, rfl, rfl, rfl⟩
  · rw [if_neg (fun h => by omega)] at hn4
    rw [if_pos (by omega), hn4]
  · by_cases k : n < c
    · rw [if_pos ⟨k, k2, k3⟩] at hn4
      rw [if_neg (by omega), hn4]
    · rw [if_neg (fun h => k h.1)] at hn4
      rw [if_neg (by omega), show n4 = c by omega]
  · rw [if_neg (fun h => k2 h.2.1 h.2.2)] at hn4
    rw [if_neg (by omega), hn4]
/-! ### a step of a plant that may be -/
structure CfP (delay cap slack : Int) : Prop where
  d0 : 0 ≤ delay
  d8 : delay ≤ 8
  c1 : 1 ≤ cap
  c6 : cap ≤ 1000000
  s0 : 0 ≤ slack
  s9 : slack ≤ 1000000000
theorem conf_pl {a0 a1 a2 a3 a4 a5 a6 a7 a8 a9 a10 a11 : Int} (h : (cfSize a0 a1 a2 && (cfPlant a3 a4 a5 a6 && cfJudge a7 a8 a9 a10 a11)) = true) : CfP a5 a4 a6 := by
  simp only [cfSize, cfPlant, wB, Bool.and_eq_true, decide_eq_true_eq] at h
  obtain ⟨_, ⟨_, ⟨h1, h2⟩, h3, h4, h5, h6⟩, _⟩ := h
  exact ⟨h3, h4, h1, h2, h5, h6⟩
theorem tick_spec {R wt ut : Int} {l : List Int} (P : PR R l wt ut) : 0 ≤ readyL R l ∧ Small (l.drop 1) ∧ (l.drop 1).length ≤ 8 ∧ readyL R l + (l.drop 1).sum = R + l.sum ∧ readyL R l = (match l with | [] => R | x :: _ => R + x) := by
  have h0 := P.r0
  have h1 := P.r1
  have hl := P.len
  refine ⟨?_, small_drop P.sm 1, by rw [List.length_drop]; omega, ?_, ?_⟩
  all_goals
    cases l with
    | nil =>
      have e : readyL R [] = R := by simp [readyL]
      rw [e]
      all_goals first | exact h0 | rfl
    | cons x l =>
      have hx := (small_cons.1 P.sm).1
      have e : readyL R (x :: l) = R + x := by
        unfold readyL
        rw [if_pos (by simp), show rd (x :: l) 0 = x from rfl, wr (by omega) (by omega)]
      rw [e]
      all_goals first | omega | (rw [List.sum_cons]; simp only [List.drop_succ_cons, List.drop_zero]; omega) | rfl
def nW (want : Int) : Int := mx 0 (mn want 1000)
theorem nW_in (want : Int) : 0 ≤ nW want ∧ nW want ≤ 1000 := by unfold nW mx mn; omega
def demI (x : Int) : Int := mx 0 (mn x 1000000)
theorem demI_in (x : Int) : 0 ≤ demI x ∧ demI x ≤ 1000000 := by unfold demI mx mn; omega
def todoI (wt dem : Int) : Int := mn (wt + demI dem) 1000000000
theorem todo_eq {wt : Int} (h0 : 0 ≤ wt) (h1 : wt ≤ 1000000000) (dem : Int) : satI (satI wt + satI (demI dem)) = todoI wt dem := by
  have := demI_in dem
  rw [satI_in (n := wt) (by omega) (by omega), satI_in (n := demI dem) (by omega) (by omega)]
  unfold satI todoI mx mn
  (repeat' split) <;> omega
theorem todo_in {wt : Int} (h0 : 0 ≤ wt) (dem : Int) : 0 ≤ todoI wt dem ∧ todoI wt dem ≤ 1000000000 := by
  have := demI_in dem
  unfold todoI mn
  split <;> omega
/-- What a step leaves: ready and begun (s), what waits, how full it was. -/
def stS (R : Int) (l : List Int) (delay want : Int) : Int × List Int := sizedL (readyL R l) delay (nW want - (R + l.sum)) (l.drop 1)
def canI (R : Int) (l : List Int) (delay want cap : Int) : Int := (stS R l delay want).1 * cap
def waitI (R : Int) (l : List Int) (delay want cap wt dem : Int) : Int := mx 0 (todoI wt dem - canI R l delay want cap)
def utilI (R : Int) (l : List Int) (delay want cap wt dem : Int) : Int := satI (divI (todoI wt dem) (canI R l delay want cap))
theorem stS_spec {R wt ut delay cap slack : Int} {l : List Int} (P : PR R l wt ut) (C : CfP delay cap slack) (want : Int) : SzP (nW want) (stS R l delay want) := by
  obtain ⟨a1, a2, a3, a4, _⟩ := tick_spec P
  have hn := nW_in want
  have h := P.all
  have hs := sized_spec (n := nW want) a1 a2 a3 C.d0 C.d8 (by omega) hn.1 hn.2
  unfold stS
  rw [a4] at hs
  exact hs
theorem can_in {R wt ut delay cap slack : Int} {l : List Int} (P : PR R l wt ut) (C : CfP delay cap slack) (want : Int) : 0 ≤ canI R l delay want cap ∧ canI R l delay want cap ≤ 1000000000 := by
  have S := stS_spec P C want
  have h1 := S.r0
  have h2 := S.r1
  have c1 := C.c1
  have c2 := C.c6
  unfold canI
  refine ⟨Int.mul_nonneg h1 (by omega), ?_⟩
  have a := Int.mul_le_mul h2 c2 (by omega) (by omega : (0 : Int) ≤ 1000)
  omega
theorem step_eq {R wt ut delay cap slack : Int} {l : List Int} (P : PR R l wt ut) (C : CfP delay cap slack) (want dem c0 c1 c2 c3 c7 c8 c9 c10 c11 : Int) :
    plant_Step.f c0 c1 c2 c3 cap delay slack c7 c8 c9 c10 c11 R l wt ut want dem = some ((stS R l delay want).1, trimL (stS R l delay want).2, waitI R l delay want cap wt dem, utilI R l delay want cap wt dem, nW want, decide (slack < waitI R l delay want cap wt dem)) := by
  obtain ⟨a1, a2, a3, a4, _⟩ := tick_spec P
  have hn := nW_in want
  have hall := P.all
  have hlen := P.len
  have S := stS_spec P C want
  have K := can_in P C want
  have T := todo_in P.w0 dem
  have hsn := sum_nonneg a2
  unfold plant_Step.f
  rw [if_pos ⟨P.len, C.d0, C.d8⟩]
  have em : moreL (readyL R l) want (l.drop 1) = nW want - (R + l.sum) := by
    unfold moreL
    rw [allL_eq a2 a1 (by omega) (by omega), a4, show mx 0 (mn want 1000) = nW want from rfl, wr (by omega) (by omega)]
  simp only [em]
  rw [show sizedL (readyL R l) delay (nW want - (R + l.sum)) (l.drop 1) = stS R l delay want from rfl]
  have e1 : fixed_Add.f wt (mx 0 (mn dem 1000000)) = some (todoI wt dem) := by
    show some (satI (satI wt + satI (demI dem))) = _
    rw [todo_eq P.w0 P.w1]
  have e2 : fixed_Sat.f (wrap64 ((stS R l delay want).1 * cap)) = some (canI R l delay want cap) := by
    show some (satI (wrap64 (canI R l delay want cap))) = _
    rw [wr (by omega) (by omega), satI_in (by omega) (by omega)]
  have e3 : fixed_Div.f (todoI wt dem) (canI R l delay want cap) = some (utilI R l delay want cap wt dem) := by
    show some (satI (divI (satI _) (satI _))) = _
    rw [satI_in (n := todoI wt dem) (by omega) (by omega), satI_in (n := canI R l delay want cap) (by omega) (by omega)]
    rfl
  rw [e1]
  simp only [Option.bind_some]
  rw [e2]
  simp only [Option.bind_some]
  rw [e3]
  simp only [Option.bind_some]
  rw [wr (n := todoI wt dem - canI R l delay want cap) (by omega) (by omega), allL_eq (trimL_small S.sm) S.r0 (by have := S.r1; omega) (by have := trimL_length (stS R l delay want).2; have := S.len; omega), trimL_sum, S.all]
  rfl
theorem util_in (a b : Int) (ha : 0 ≤ a) (hb : 0 ≤ b) : 0 ≤ satI (divI a b) ∧ satI (divI a b) ≤ 1000000000 := by
  have h1 := satI_hi (divI a b)
  refine ⟨?_, h1⟩
  have h : 0 ≤ divI a b := by
    unfold divI
    by_cases c : b = 0
    · rw [if_pos c]
      by_cases c2 : a = 0
      · rw [if_pos c2]; omega
      · rw [if_neg c2]; omega
    · rw [if_neg c, tdiv_pos (by omega)]
      exact Int.ediv_nonneg (by omega) hb
  unfold satI mx mn
  (repeat' split) <;> omega
/-- The plant may be, behind a step. -/
theorem step_right {R wt ut delay cap slack : Int} {l : List Int} (P : PR R l wt ut) (C : CfP delay cap slack) (want dem : Int) :
    PR (stS R l delay want).1 (trimL (stS R l delay want).2) (waitI R l delay want cap wt dem) (utilI R l delay want cap wt dem) := by
  have S := stS_spec P C want
  have K := can_in P C want
  have T := todo_in P.w0 dem
  have hn := nW_in want
  have hl := trimL_length (stS R l delay want).2
  have hlen := S.len
  have hall := S.all
  have U := util_in (todoI wt dem) (canI R l delay want cap) T.1 K.1
  refine ⟨S.r0, S.r1, by omega, trimL_small S.sm, ?_, ?_, U.1, U.2, by rw [trimL_sum]; omega⟩
  · unfold waitI mx; split <;> omega
  · unfold waitI mx; split <;> omega
end Go.Proofs.Ytefgoffaidjiaaa.PAll
namespace Go.Proofs.Ytefgoffaidjiaaa.PAll
open Go.RowKit Go.Proofs.YtefgoffaidjiaaaW.PrintWords Go.Proofs.YtefgoffaidjiaaaW.PrintLast Go.Proofs.YtefgoffaidjiaaaW.PrintMore
attribute [local go_sem] max2_int min2_int max_two min_two max_three min_three max_four min_four   -- for this text's walks alone
set_option linter.unusedVariables false
set_option linter.unusedSimpArgs false
/-! ### api_Mark: function 42 -/
def api_Mark.f (l0 : List (S52)) : Option (List (S52)) := if l0.length < 8796093022208 then some l0 else none
theorem cloneNilMark (n c : Nat) (W : World) : (binOp BinOp.eql 35 (.slice none n c) (.slice none 0 0)).run Try.prog W = .ok (.bool true) W := by kernel_rfl
theorem cloneSomeMark (ad : Addr) (n c : Nat) (W : World) : (binOp BinOp.eql 35 (.slice (some ad) n c) (.slice none 0 0)).run Try.prog W = .ok (.bool false) W := by kernel_rfl
set_option maxHeartbeats 4000000 in
set_option maxRecDepth 100000 in
theorem api_Mark.calls (A0 : Option Addr) (c0 : Nat) (l0 : List (S52)) (r : List (S52)) (w : World) (hr0 : Kd.C k52 w A0 l0.length l0) (hc0 : l0.length ≤ c0) (h : api_Mark.f l0 = some r) :
  Calls Try.prog 42 #[.slice A0 l0.length c0] w fun e w' => ∃ v0_ : Value, e = .returned v0_ ∧ Kd.R k52 52 w' w.heap.size (fun _ => True) v0_ r ∧ Below w.heap.size w w' := by
 unfold api_Mark.f at h
 by_cases c5 : l0.length < 8796093022208
 ·rw [if_pos c5] at h
  obtain rfl := Option.some.inj h
  clear h
  have LMc5 := Aside0.mk c5
  have HR0 := Aside0.mk hr0
  have HB := Aside0.mk (Below.refl w.heap.size w)
  clear c5
  cases A0 with
  | none =>
   have e1 := cloneNilMark l0.length c0
   go_enter Try.func42, Try.ntmps42
   go_wp2
   go_ret
   have hz : l0 = [] := by
    cases l0 with
    | nil => rfl
    | cons x xs =>
     obtain ⟨_, _, h3⟩ := HR0.out
     obtain ⟨ad, hn, _⟩ := h3 (by simp)
     cases hn
   subst hz
   exact ⟨_, rfl, Kd.R_nil _ _ _ _ _, HB.out⟩
  | some ad =>
   have e1 := cloneSomeMark ad l0.length c0
   obtain ⟨y1, hy1⟩ : ∃ y_ : List (S52), y_ = ([] : List (S52)) := ⟨_, rfl⟩
   have Ny := Aside0.mk hy1
   clear hy1 hr0
   go_enter Try.func42, Try.ntmps42
   go_wp2_with (first
    | ((with_reducible refine gate_dst (N := 5) rfl ?_); refine Kd.R_lit k52 _ 52 ?hg (N := 5) ?hd (xs := ([] : List (S52))) (inner := []) (ok := fun _ => True) (okp := fun _ => True) ?hr ?hp (fun _ hk => hk) trivial (Below.refl _ _) (Nat.le_refl _) (by simp) ?_; (case hd => rfl); (case hg => rfl); (case hr => first | (go_simp; done) | (go_simp; rfl)); (case hp => exact (Reps.none _ _)); intro v142 w12 ho13 hb hg_ hnew_; clear hg_ hnew_; rw [← Ny.out] at ho13; have HO := Aside0.mk ho13; have HB1 := Aside0.mk hb; clear ho13 hb)
    | ((with_reducible refine gate_builtin (b := .append) (xs := #[.tmp 5, .tmp 6]) rfl ?_); at_builtin; refine Kd.R_append_rows k52 (w0 := w) w.heap.size rfl (.tmp 5) (.tmp 6) 35 52 (.agg #[(.int .i64 0), (.bool false)]) 16 rfl Try.underlying35 info52 rfl (by decide) (by omega) v142 y1 l0 _ _ _ (fun _ => True) (fun _ => False) rfl rfl ?aO ?aR (fun _ _ h => h) (fun _ h => h.elim) ?aF ?aB ?aS ?aL ?_; (case aR => exact Kd.C_below HR0.out HB1.out); (case aB => exact HB1.out); (case aF => exact (fun _ _ => trivial)); (case aO => exact HO.out); (case aS => exact below_size HB1.out); (case aL => have := LMc5.out; rw [Ny.out]; simp; omega); intro v145 w15 ho hb hg hat; rw [Ny.out] at ho; have HO2 := Aside0.mk ho; have HB2 := Aside0.mk hb; clear ho hb hg hat))
   go_ret
   exact ⟨_, rfl, HO2.out, HB2.out⟩
 ·rw [if_neg c5] at h
  cases h
/-! ### score_Add: function 50 -/
def score_Add.f (a0 : Int) (l1 : List (S52)) (a2_0 : Int) (a2_1 : Bool) : Option ((List (S52))) := (api_Mark.f l1).bind fun t108 => ((some (([(⟨a2_0, a2_1⟩ : S52)] : List (S52)) : List (S52))).bind fun y111 => (if t108.length + y111.length < 8796093022208 then ((some (t108 ++ y111 : List (S52))).bind fun y114 => (if 0 ≤ (mx 0 (wrap64 ((y114.length : Int) - (mx 0 a0)))) then (if (mx 0 (wrap64 ((y114.length : Int) - (mx 0 a0)))) ≤ (y114.length : Int) then (some (y114.drop ((mx 0 (wrap64 ((y114.length : Int) - (mx 0 a0)))) : Int).toNat)) else (none)) else (none))) else (none)))
set_option maxHeartbeats 8000000 in
set_option maxRecDepth 100000 in
theorem score_Add.calls (a0 : Int) (A1 : Option Addr) (c1 : Nat) (l1 : List (S52)) (a2_0 : Int) (a2_1 : Bool) (r : List (S52)) (w : World) (hr1 : Kd.C k52 w A1 l1.length l1) (hc1 : l1.length ≤ c1) (h : score_Add.f a0 l1 a2_0 a2_1 = some r) :
  Calls Try.prog 50 #[.int .i64 a0, .slice A1 l1.length c1, .agg #[.int .i64 a2_0, .bool a2_1]] w fun e w' => ∃ v0_ : Value, e = .returned (v0_) ∧ Kd.Q k52 52 w' w.heap.size (fun _ => True) v0_ r ∧ Below w.heap.size w w' := by
 have hu52 := Try.underlying52
 have HR1 := Aside0.mk hr1
 have HC1 := Aside0.mk hc1
 clear hr1 hc1
 have HB := Aside0.mk (Below.refl w.heap.size w)
 have H : ((api_Mark.f l1).bind fun t108 => ((some (([(⟨a2_0, a2_1⟩ : S52)] : List (S52)) : List (S52))).bind fun y111 => (if t108.length + y111.length < 8796093022208 then ((some (t108 ++ y111 : List (S52))).bind fun y114 => (if 0 ≤ (mx 0 (wrap64 ((y114.length : Int) - (mx 0 a0)))) then (if (mx 0 (wrap64 ((y114.length : Int) - (mx 0 a0)))) ≤ (y114.length : Int) then (some (y114.drop ((mx 0 (wrap64 ((y114.length : Int) - (mx 0 a0)))) : Int).toNat)) else (none)) else (none))) else (none)))) = some r := h
 clear h
 replace H := Option.bind_eq_some_iff.mp H
 obtain ⟨t108, A40, H⟩ := H
 replace H : ((some (([(⟨a2_0, a2_1⟩ : S52)] : List (S52)) : List (S52))).bind fun y111 => (if t108.length + y111.length < 8796093022208 then ((some (t108 ++ y111 : List (S52))).bind fun y114 => (if 0 ≤ (mx 0 (wrap64 ((y114.length : Int) - (mx 0 a0)))) then (if (mx 0 (wrap64 ((y114.length : Int) - (mx 0 a0)))) ≤ (y114.length : Int) then (some (y114.drop ((mx 0 (wrap64 ((y114.length : Int) - (mx 0 a0)))) : Int).toNat)) else (none)) else (none))) else (none))) = some r := H
 have A4 := Aside0.mk A40
 clear A40
 obtain ⟨y111, hy111⟩ : ∃ y_ : List (S52), y_ = (([(⟨a2_0, a2_1⟩ : S52)] : List (S52))) := ⟨_, rfl⟩
 replace H : (if t108.length + y111.length < 8796093022208 then ((some (t108 ++ y111 : List (S52))).bind fun y114 => (if 0 ≤ (mx 0 (wrap64 ((y114.length : Int) - (mx 0 a0)))) then (if (mx 0 (wrap64 ((y114.length : Int) - (mx 0 a0)))) ≤ (y114.length : Int) then (some (y114.drop ((mx 0 (wrap64 ((y114.length : Int) - (mx 0 a0)))) : Int).toNat)) else (none)) else (none))) else (none)) = some r := by first | (rw [hy111]; with_reducible exact H) | (have H2_ := (Option.bind_some _ _).symm.trans H; rw [hy111]; with_reducible exact H2_) | (have H2_ := (Option.bind_some _ _).symm.trans H; with_reducible exact H2_) | with_reducible exact H | (rw [hy111]; exact H) | exact H
 have Ny111 := Aside0.mk hy111
 clear hy111
 by_cases c5 : t108.length + y111.length < 8796093022208
 ·rw [if_pos c5] at H
  have LMc5 := Aside0.mk c5
  clear c5
  obtain ⟨y114, hy114⟩ : ∃ y_ : List (S52), y_ = (t108 ++ y111) := ⟨_, rfl⟩
  replace H : (if 0 ≤ (mx 0 (wrap64 ((y114.length : Int) - (mx 0 a0)))) then (if (mx 0 (wrap64 ((y114.length : Int) - (mx 0 a0)))) ≤ (y114.length : Int) then (some (y114.drop ((mx 0 (wrap64 ((y114.length : Int) - (mx 0 a0)))) : Int).toNat)) else (none)) else (none)) = some r := by first | (rw [hy114]; with_reducible exact H) | (have H2_ := (Option.bind_some _ _).symm.trans H; rw [hy114]; with_reducible exact H2_) | (have H2_ := (Option.bind_some _ _).symm.trans H; with_reducible exact H2_) | with_reducible exact H | (rw [hy114]; exact H) | exact H
  have Ny114 := Aside0.mk hy114
  clear hy114
  obtain ⟨ji6, hji6⟩ : ∃ j_ : Int, (mx 0 a0) = j_ := ⟨_, rfl⟩
  replace H : (if 0 ≤ (mx 0 (wrap64 ((y114.length : Int) - (ji6)))) then (if (mx 0 (wrap64 ((y114.length : Int) - (ji6)))) ≤ (y114.length : Int) then (some (y114.drop ((mx 0 (wrap64 ((y114.length : Int) - (ji6)))) : Int).toNat)) else (none)) else (none)) = some r := by first | (rw [hji6] at H; exact H) | (simp only [hji6] at H ⊢; exact H)
  (try rw [hji6] at A4)
  (try (have hji6l : 0 ≤ ji6 := by (rw [← hji6]; unfold mx; (repeat' split) <;> omega)))
  (try (have hji6m : 0 ≤ ji6 := by omega))
  have hji6_ : (if 0 < a0 then a0 else 0) = ji6 := hji6
  obtain ⟨ji7, hji7⟩ : ∃ j_ : Int, (mx 0 (wrap64 ((y114.length : Int) - (ji6)))) = j_ := ⟨_, rfl⟩
  replace H : (if 0 ≤ (ji7) then (if (ji7) ≤ (y114.length : Int) then (some (y114.drop ((ji7) : Int).toNat)) else (none)) else (none)) = some r := by first | (rw [hji7] at H; exact H) | (simp only [hji7] at H ⊢; exact H)
  (try rw [hji7] at A4)
  have hji7_ : (if 0 < (wrap64 ((y114.length : Int) - (ji6))) then (wrap64 ((y114.length : Int) - (ji6))) else 0) = ji7 := hji7
  by_cases c8 : 0 ≤ (ji7)
  ·rw [if_pos c8] at H
   have c8b0 := eq_true c8
   have c8b1 : decide (0 ≤ (ji7)) = true := decide_eq_true c8
   clear c8
   by_cases c9 : (ji7) ≤ (y114.length : Int)
   ·rw [if_pos c9] at H
    have c9b0 := eq_true c9
    have c9b1 : decide ((ji7) ≤ (y114.length : Int)) = true := decide_eq_true c9
    clear c9
    obtain ⟨y117, hy117⟩ : ∃ y_ : List (S52), y_ = (y114.drop ((ji7) : Int).toNat) := ⟨_, rfl⟩
    replace H : (some y117) = some r := by first | (rw [hy117]; with_reducible exact H) | (have H2_ := (Option.bind_some _ _).symm.trans H; rw [hy117]; with_reducible exact H2_) | (have H2_ := (Option.bind_some _ _).symm.trans H; with_reducible exact H2_) | with_reducible exact H | (rw [hy117]; exact H) | exact H
    have Ny117 := Aside0.mk hy117
    clear hy117
    obtain rfl := Option.some.inj H
    go_enter Try.func50, Try.ntmps50
    try go_wp2_with (first | ((with_reducible refine gate_dst (N := 5) rfl ?_); refine box_event ?hg (N := 5) ?hd (cs := #[.int .i64 a2_0, .bool a2_1]) (t := 52) ?hr ?_; (case hd => rfl); (case hg => rfl); (case hr => first | (go_simp; done) | (go_simp; rfl)); intro gb107 hg w10 hbox hb; have n0_ := Aside0.mk (below_step (by repeat (first | (with_reducible first | exact HB.out | apply below_alloc | apply pw_below_drewN | apply below_drew1) | exact HB.out)) hb); have n1_ := Aside0.mk (hbox); have n2_ := Aside0.mk ((by rw [hg]; exact (below_size (by repeat (first | (with_reducible first | exact HB.out | apply below_alloc | apply pw_below_drewN | apply below_drew1) | exact HB.out))) : w.heap.size ≤ gb107)); have n3_ := Aside0.mk ((by rw [hg]; exact (below_size (by repeat (first | (with_reducible first | exact HB.out | apply below_alloc | apply pw_below_drewN | apply below_drew1) | exact HB.out))) : w.heap.size ≤ gb107)); clear HB; have HB := n0_; have BK107 := n1_; have GW107 := n2_; have GE107 := n3_; clear n0_ n1_ n2_ n3_; clear hb hbox hg))
    have n0_ := Aside0.mk (blk_drew BK107.out)
    have n1_ := Aside0.mk (below_drew1 HB.out)
    clear BK107
    clear HB
    have BK107 := n0_
    have HB := n1_
    clear n0_ n1_
    refine start_ (n := 6) (S := fun w' => w'.cell? ⟨gb107, 0, none⟩ = some (.int .i64 a2_0) ∧ w'.cell? ⟨gb107, 1, none⟩ = some (.bool a2_1)) (ds := []) #[false, false, false, false, false, false] (by kernel_rfl) rfl rfl ⟨(blk_cell BK107.out 0).trans rfl, (blk_cell BK107.out 1).trans rfl⟩ (fun hHeld => ?_)
    generalize w10.drew = w11 at BK107 HB hHeld ⊢
    refine pu_ 0 7 #[true, false, false, false, false, false] ?_
    refine ta_ 2 9 #[true, false, true, false, false, false] hHeld (v := ?_) ?_ ?_
    rotate_left
    ·rintro w' ⟨s0, s1⟩
     go_simp
     with_reducible rfl
    refine join_ (σ := Value × Value) 2 #[true, true, true, true, false, false] (fun s_ => [(8, s_.1), (10, s_.2)]) (fun s_ w' => (w'.cell? ⟨gb107, 0, none⟩ = some (.int .i64 a2_0) ∧ w'.cell? ⟨gb107, 1, none⟩ = some (.bool a2_1)) ∧ (Kd.R k52 52 w' w.heap.size (fun k_ => some k_ ≠ (s_.2 : Value).ownBlock ∧ k_ ≠ gb107) s_.1 t108) ∧ (Kd.R k52 52 w' w.heap.size (fun k_ => some k_ ≠ (s_.1 : Value).ownBlock ∧ k_ ≠ gb107) s_.2 y111) ∧ (w'.heap[gb107]? = some (.cells #[.int .i64 a2_0, .bool a2_1] 52 (0, 0))) ∧ (Below w.heap.size w w')) ?_ ?_
    rotate_left
    ·intro hCont
     refine two_ (i := 1) (j := 3) (Ni := some 8) (Nj := some 10) #[true, true, true, false, false, false] #[true, false, true, true, false, false] rfl rfl rfl rfl (by kernel_rfl) (by decide) (by decide) (fun K hK => ?_) (fun K hK => ?_)
     ·skip
      refine goes_ Try.func42 (by kernel_rfl) rfl #[.slice A1 l1.length c1] (by rfl) rfl rfl (by (try simp only [List.map_toArray, List.map_cons, List.map_nil]); first | done | rfl | (simp only [List.length_drop, List.length_take]; rfl)) ?_
      with_reducible refine (api_Mark.calls _ _ l1 t108 _ ?side1 ?side2 A4.out).mono ?_
      (case side1 => repeat (first | exact (Kd.C_below HR1.out HB.out) | (with_reducible refine Kd.C_alloc ?_ _) | (with_reducible refine Kd.C_drewN ?_ _) | (with_reducible refine Kd.C_drew ?_)))
      (case side2 => exact HC1.out)
      rintro e w12 ⟨v109, rfl, ho0, hb⟩
      refine ⟨_, rfl, ?_⟩
      have n0_ := Aside0.mk (Kd.R_lower (Kd.R_newB ho0 (g := gb107) (o := .cells #[.int .i64 a2_0, .bool a2_1] 52 (0, 0)) (by (with_reducible repeat (first | refine blk_drewN ?_ _ | refine blk_drew ?_ | refine blk_alloc ?_ _)); exact BK107.out)) (below_size (by repeat (first | (with_reducible first | exact HB.out | apply below_alloc | apply pw_below_drewN | apply below_drew1 | refine below_set ?_ GE107.out) | exact HB.out))))
      have n1_ := Aside0.mk (blk_below (g := gb107) (o := .cells #[.int .i64 a2_0, .bool a2_1] 52 (0, 0)) (by (with_reducible repeat (first | refine blk_drewN ?_ _ | refine blk_drew ?_ | refine blk_alloc ?_ _)); exact BK107.out) hb)
      have n2_ := Aside0.mk (below_step (by repeat (first | (with_reducible first | exact HB.out | apply below_alloc | apply pw_below_drewN | apply below_drew1 | refine below_set ?_ GE107.out) | exact HB.out)) hb)
      clear BK107
      clear HB
      have HO110 := n0_
      have BK107 := n1_
      have HB := n2_
      clear n0_ n1_ n2_
      (try clear hb)
      (try clear hb2)
      (try clear hk)
      (try clear hi)
      (try clear ho0)
      refine hK.out _ _ ⟨(blk_cell BK107.out 0).trans rfl, (blk_cell BK107.out 1).trans rfl⟩ (fun hHeld => ?_)
      clear hK K
      refine no_ 8 ?_
      refine one_ (i := 3) (N := some 10) #[true, true, true, true, false, false] rfl rfl (by kernel_rfl) (by decide) (fun K hK => ?_)
      refine Kd.R_lit_step k52 _ 52 ?hg (N := 10) ?hd (xs := ([(⟨a2_0, a2_1⟩ : S52)] : List (S52))) (inner := [.int .i64 a2_0, .bool a2_1]) (ok := fun _ => True) (okp := fun _ => True) ?hr ?hp (fun _ hk => hk) trivial (Below.refl _ _) (Nat.le_refl _) (by simp) ?_; (case hd => rfl); (case hg => rfl); (case hr => first | (go_simp; done) | (go_simp; rfl)); (case hp => exact (Reps.c2 (show Kd.M k52 _ _ _ (⟨a2_0, a2_1⟩ : S52) [.int .i64 a2_0, .bool a2_1] from (k52_mkM _ _ _ (⟨a2_0, a2_1⟩ : S52) )) (Reps.none _ _)))
      intro v112 w13 ho14 hb hg_ hnew_
      clear hg_ hnew_
      (first | rw [← Ny111.out] at ho14 | (simp only [Int.reduceToNat] at ho14; rw [← Ny111.out] at ho14))
      have n0_ := Aside0.mk (Kd.R_elder' (by (with_reducible repeat (first | apply Kd.R_alloc | apply Kd.R_drewN | apply Kd.R_drew)); exact HO110.out) (Kd.R_base ho14) hb)
      have n1_ := Aside0.mk (Kd.R_lower (Kd.R_newB (Kd.R_new' ho14 (Kd.R_lt (by (with_reducible repeat (first | apply Kd.R_alloc | apply Kd.R_drewN | apply Kd.R_drew)); exact HO110.out))) (g := gb107) (o := .cells #[.int .i64 a2_0, .bool a2_1] 52 (0, 0)) (by (with_reducible repeat (first | refine blk_drewN ?_ _ | refine blk_drew ?_ | refine blk_alloc ?_ _)); exact BK107.out)) (below_size (by repeat (first | (with_reducible first | exact HB.out | apply below_alloc | apply pw_below_drewN | apply below_drew1 | refine below_set ?_ GE107.out) | exact HB.out))))
      have n2_ := Aside0.mk (blk_below (g := gb107) (o := .cells #[.int .i64 a2_0, .bool a2_1] 52 (0, 0)) (by (with_reducible repeat (first | refine blk_drewN ?_ _ | refine blk_drew ?_ | refine blk_alloc ?_ _)); exact BK107.out) hb)
      have n3_ := Aside0.mk (below_step (by repeat (first | (with_reducible first | exact HB.out | apply below_alloc | apply pw_below_drewN | apply below_drew1 | refine below_set ?_ GE107.out) | exact HB.out)) hb)
      clear HO110
      clear BK107
      clear HB
      have HO110 := n0_
      have HO113 := n1_
      have BK107 := n2_
      have HB := n3_
      clear n0_ n1_ n2_ n3_
      clear hb ho14
      refine hK.out _ _ ⟨(blk_cell BK107.out 0).trans rfl, (blk_cell BK107.out 1).trans rfl⟩ (fun hHeld => ?_)
      clear hK K
      refine no_ 10 ?_
      exact norm_ (by simp only [putAll, Act.put, List.setIfInBounds_toArray, List.set_cons_zero, List.set_cons_succ]) (hCont (v109, v112) _ ⟨hHeld, (by (with_reducible repeat (first | apply Kd.R_alloc | apply Kd.R_drewN | apply Kd.R_drew)); exact Kd.R_mono HO110.out (fun _ hk => ⟨hk.2, hk.1.2⟩)), (by (with_reducible repeat (first | apply Kd.R_alloc | apply Kd.R_drewN | apply Kd.R_drew)); exact Kd.R_mono HO113.out (fun _ hk => ⟨hk.1.2, hk.2⟩)), (by (with_reducible repeat (first | refine blk_drewN ?_ _ | refine blk_drew ?_ | refine blk_alloc ?_ _)); exact BK107.out), (by repeat (first | (with_reducible first | exact HB.out | apply below_alloc | apply pw_below_drewN | apply below_drew1 | refine below_set ?_ GE107.out) | exact HB.out))⟩)
     ·skip
      refine Kd.R_lit_step k52 _ 52 ?hg (N := 10) ?hd (xs := ([(⟨a2_0, a2_1⟩ : S52)] : List (S52))) (inner := [.int .i64 a2_0, .bool a2_1]) (ok := fun _ => True) (okp := fun _ => True) ?hr ?hp (fun _ hk => hk) trivial (Below.refl _ _) (Nat.le_refl _) (by simp) ?_; (case hd => rfl); (case hg => rfl); (case hr => first | (go_simp; done) | (go_simp; rfl)); (case hp => exact (Reps.c2 (show Kd.M k52 _ _ _ (⟨a2_0, a2_1⟩ : S52) [.int .i64 a2_0, .bool a2_1] from (k52_mkM _ _ _ (⟨a2_0, a2_1⟩ : S52) )) (Reps.none _ _)))
      intro v112 w12 ho13 hb hg_ hnew_
      clear hg_ hnew_
      (first | rw [← Ny111.out] at ho13 | (simp only [Int.reduceToNat] at ho13; rw [← Ny111.out] at ho13))
      have n0_ := Aside0.mk (Kd.R_lower (Kd.R_newB ho13 (g := gb107) (o := .cells #[.int .i64 a2_0, .bool a2_1] 52 (0, 0)) (by (with_reducible repeat (first | refine blk_drewN ?_ _ | refine blk_drew ?_ | refine blk_alloc ?_ _)); exact BK107.out)) (below_size (by repeat (first | (with_reducible first | exact HB.out | apply below_alloc | apply pw_below_drewN | apply below_drew1 | refine below_set ?_ GE107.out) | exact HB.out))))
      have n1_ := Aside0.mk (blk_below (g := gb107) (o := .cells #[.int .i64 a2_0, .bool a2_1] 52 (0, 0)) (by (with_reducible repeat (first | refine blk_drewN ?_ _ | refine blk_drew ?_ | refine blk_alloc ?_ _)); exact BK107.out) hb)
      have n2_ := Aside0.mk (below_step (by repeat (first | (with_reducible first | exact HB.out | apply below_alloc | apply pw_below_drewN | apply below_drew1 | refine below_set ?_ GE107.out) | exact HB.out)) hb)
      clear BK107
      clear HB
      have HO113 := n0_
      have BK107 := n1_
      have HB := n2_
      clear n0_ n1_ n2_
      clear hb ho13
      refine hK.out _ _ ⟨(blk_cell BK107.out 0).trans rfl, (blk_cell BK107.out 1).trans rfl⟩ (fun hHeld => ?_)
      clear hK K
      refine no_ 10 ?_
      refine one_ (i := 1) (N := some 8) #[true, true, true, true, false, false] rfl rfl (by kernel_rfl) (by decide) (fun K hK => ?_)
      refine goes_ Try.func42 (by kernel_rfl) rfl #[.slice A1 l1.length c1] (by rfl) rfl rfl (by (try simp only [List.map_toArray, List.map_cons, List.map_nil]); first | done | rfl | (simp only [List.length_drop, List.length_take]; rfl)) ?_
      with_reducible refine (api_Mark.calls _ _ l1 t108 _ ?side1 ?side2 A4.out).mono ?_
      (case side1 => repeat (first | exact (Kd.C_below HR1.out HB.out) | (with_reducible refine Kd.C_alloc ?_ _) | (with_reducible refine Kd.C_drewN ?_ _) | (with_reducible refine Kd.C_drew ?_)))
      (case side2 => exact HC1.out)
      rintro e w14 ⟨v109, rfl, ho0, hb⟩
      refine ⟨_, rfl, ?_⟩
      have n0_ := Aside0.mk (Kd.R_elder' (by (with_reducible repeat (first | apply Kd.R_alloc | apply Kd.R_drewN | apply Kd.R_drew)); exact HO113.out) (Kd.R_base ho0) hb)
      have n1_ := Aside0.mk (Kd.R_lower (Kd.R_newB (Kd.R_new' ho0 (Kd.R_lt (by (with_reducible repeat (first | apply Kd.R_alloc | apply Kd.R_drewN | apply Kd.R_drew)); exact HO113.out))) (g := gb107) (o := .cells #[.int .i64 a2_0, .bool a2_1] 52 (0, 0)) (by (with_reducible repeat (first | refine blk_drewN ?_ _ | refine blk_drew ?_ | refine blk_alloc ?_ _)); exact BK107.out)) (below_size (by repeat (first | (with_reducible first | exact HB.out | apply below_alloc | apply pw_below_drewN | apply below_drew1 | refine below_set ?_ GE107.out) | exact HB.out))))
      have n2_ := Aside0.mk (blk_below (g := gb107) (o := .cells #[.int .i64 a2_0, .bool a2_1] 52 (0, 0)) (by (with_reducible repeat (first | refine blk_drewN ?_ _ | refine blk_drew ?_ | refine blk_alloc ?_ _)); exact BK107.out) hb)
      have n3_ := Aside0.mk (below_step (by repeat (first | (with_reducible first | exact HB.out | apply below_alloc | apply pw_below_drewN | apply below_drew1 | refine below_set ?_ GE107.out) | exact HB.out)) hb)
      clear HO113
      clear BK107
      clear HB
      have HO113 := n0_
      have HO110 := n1_
      have BK107 := n2_
      have HB := n3_
      clear n0_ n1_ n2_ n3_
      (try clear hb)
      (try clear hb2)
      (try clear hk)
      (try clear hi)
      (try clear ho0)
      refine hK.out _ _ ⟨(blk_cell BK107.out 0).trans rfl, (blk_cell BK107.out 1).trans rfl⟩ (fun hHeld => ?_)
      clear hK K
      refine no_ 8 ?_
      exact norm_ (by simp only [putAll, Act.put, List.setIfInBounds_toArray, List.set_cons_zero, List.set_cons_succ]) (hCont (v109, v112) _ ⟨hHeld, (by (with_reducible repeat (first | apply Kd.R_alloc | apply Kd.R_drewN | apply Kd.R_drew)); exact Kd.R_mono HO110.out (fun _ hk => ⟨hk.1.2, hk.2⟩)), (by (with_reducible repeat (first | apply Kd.R_alloc | apply Kd.R_drewN | apply Kd.R_drew)); exact Kd.R_mono HO113.out (fun _ hk => ⟨hk.2, hk.1.2⟩)), (by (with_reducible repeat (first | refine blk_drewN ?_ _ | refine blk_drew ?_ | refine blk_alloc ?_ _)); exact BK107.out), (by repeat (first | (with_reducible first | exact HB.out | apply below_alloc | apply pw_below_drewN | apply below_drew1 | refine below_set ?_ GE107.out) | exact HB.out))⟩)
    rintro ⟨v109, v112⟩ w15 ⟨hS_, h0_, h1_, h2_, h3_⟩
    have n0_ : Aside0 (Kd.R k52 52 w15 w.heap.size (fun k_ => some k_ ≠ (v112 : Value).ownBlock ∧ k_ ≠ gb107) v109 t108) := ⟨h0_⟩
    have n1_ : Aside0 (Kd.R k52 52 w15 w.heap.size (fun k_ => some k_ ≠ (v109 : Value).ownBlock ∧ k_ ≠ gb107) v112 y111) := ⟨h1_⟩
    have n2_ : Aside0 (w15.heap[gb107]? = some (.cells #[.int .i64 a2_0, .bool a2_1] 52 (0, 0))) := ⟨h2_⟩
    have n3_ : Aside0 (Below w.heap.size w w15) := ⟨h3_⟩
    clear BK107
    clear HB
    clear h0_ h1_ h2_ h3_
    have HO110 := n0_
    have HO113 := n1_
    have BK107 := n2_
    have HB := n3_
    clear n0_ n1_ n2_ n3_
    have hHeld : w15.cell? ⟨gb107, 0, none⟩ = some (.int .i64 a2_0) ∧ w15.cell? ⟨gb107, 1, none⟩ = some (.bool a2_1) := hS_
    obtain ⟨Ao17, co17, eo17⟩ := Kd.R_slice HO113.out
    (first | subst eo17 | (injection eo17 with f1_ f2_ f3_; have f4_ := f1_.symm; have f5_ := f3_.symm; clear f1_ f2_ f3_; subst f4_; subst f5_))
    refine norm_ (a' := ?_) ?_ ?_
    rotate_left
    ·simp only [putAll, Act.put, List.setIfInBounds_toArray, List.set_cons_zero, List.set_cons_succ]
     rfl
    refine one_ (i := 4) (N := some 11) #[true, true, true, true, true, false] rfl rfl (by kernel_rfl) (by decide) (fun K hK => ?_)
    refine Kd.R_append_rows_step k52 (w0 := w) w.heap.size (by rfl) (.tmp 8) (.tmp 10) 35 52 (.agg #[(.int .i64 0), (.bool false)]) 16 rfl Try.underlying35 info52 rfl (by decide) (by omega) v109 t108 y111 _ _ _ (fun k_ => some k_ ≠ (.slice Ao17 y111.length co17 : Value).ownBlock ∧ k_ ≠ gb107) (fun _ => False) rfl rfl ?aO ?aR (fun _ _ h => h) (fun _ h => h.elim) ?aF ?aB ?aS ?aL ?_
    (case aR => repeat (first | exact (Kd.R_reads' HO113.out).2.2 | (with_reducible refine Kd.C_alloc ?_ _) | (with_reducible refine Kd.C_drewN ?_ _) | (with_reducible refine Kd.C_drew ?_)))
    (case aB => exact (by repeat (first | (with_reducible first | exact HB.out | apply below_alloc | apply pw_below_drewN | apply below_drew1 | refine below_set ?_ GE107.out) | exact HB.out)))
    (case aF => exact (fun k_ hk => ⟨Kd.fresh' (Kd.R_lt (by (with_reducible repeat (first | apply Kd.R_alloc | apply Kd.R_drewN | apply Kd.R_drew)); exact HO113.out)) k_ hk, Kd.freshB (g := gb107) (o := .cells #[.int .i64 a2_0, .bool a2_1] 52 (0, 0)) (by (with_reducible repeat (first | refine blk_drewN ?_ _ | refine blk_drew ?_ | refine blk_alloc ?_ _)); exact BK107.out) k_ hk⟩))
    (case aO => exact (by (with_reducible repeat (first | apply Kd.R_alloc | apply Kd.R_drewN | apply Kd.R_drew)); exact HO110.out))
    (case aS => exact (below_size (by repeat (first | (with_reducible first | exact HB.out | apply below_alloc | apply pw_below_drewN | apply below_drew1 | refine below_set ?_ GE107.out) | exact HB.out))))
    (case aL => have := LMc5.out; omega)
    intro v115 w16 ho hb hg hat
    rw [← Ny114.out] at ho
    have n0_ := Aside0.mk (blk_grown (g := gb107) (o := .cells #[.int .i64 a2_0, .bool a2_1] 52 (0, 0)) (by (with_reducible repeat (first | refine blk_drewN ?_ _ | refine blk_drew ?_ | refine blk_alloc ?_ _)); exact BK107.out) hg (Kd.R_away HO110.out (fun _ hk => hk.2)))
    have n1_ := Aside0.mk (Kd.R_after (ok := (fun k_ => k_ ≠ gb107)) (by (with_reducible repeat (first | apply Kd.R_alloc | apply Kd.R_drewN | apply Kd.R_drew)); exact Kd.R_mono HO113.out (fun _ hk => ⟨hk.2, hk.1⟩)) hg hat)
    have n2_ := Aside0.mk (hb)
    have n3_ := Aside0.mk (ho)
    clear BK107
    clear HO113
    clear HB
    clear HO110
    have BK107 := n0_
    have HO113 := n1_
    have HB := n2_
    have HO116 := n3_
    clear n0_ n1_ n2_ n3_
    clear ho hb hg hat
    refine hK.out _ _ ⟨(blk_cell BK107.out 0).trans rfl, (blk_cell BK107.out 1).trans rfl⟩ (fun hHeld => ?_)
    clear hK K
    refine no_ 11 ?_
    refine pu_ 5 1 #[true, true, true, true, true, true] ?_
    refine done_ (by kernel_rfl) ?_
    obtain ⟨Ao18, co18, eo18⟩ := Kd.R_slice HO116.out
    subst eo18
    have q19 : ((ji7) : Int) ≤ ((y114.length : Int) : Int) := of_decide_eq_true (by first | (with_reducible assumption) | assumption)
    obtain ⟨i019, hi019, _, hsz19, _⟩ := info_parts info52
    have hcut19 := cut_from (P := Try.prog) 35 52 .i64 Try.underlying35 hi019 2 hsz19 Ao18 y114.length co18 (ji7) (of_decide_eq_true (by first | (with_reducible assumption) | assumption)) q19
    have hr19 := Kd.Q_drop (k := ((ji7) : Int).toNat) (Kd.Q_of_R HO116.out) (by omega)
    obtain ⟨A19, hA19⟩ : ∃ A1, A1 = (if co18 = ((ji7) : Int).toNat then Ao18 else (Ao18 : Option Addr).map (·.add (((ji7) : Int).toNat * 2))) := ⟨_, rfl⟩
    obtain ⟨c19, hc19⟩ : ∃ c1, c1 = co18 - ((ji7) : Int).toNat := ⟨_, rfl⟩
    have hy19 : y117.length = y114.length - ((ji7) : Int).toNat := (by rw [Ny117.out, List.length_drop])
    rw [← Ny117.out] at hr19
    rw [← hy19, ← hA19, ← hc19] at hcut19
    replace hr19 : Kd.Q k52 52 w16 w.heap.size (fun k_ => some k_ ≠ (.slice Ao17 y111.length co17 : Value).ownBlock ∧ k_ ≠ gb107) (.slice A19 y117.length c19) y117 := (by rw [hA19, hc19, hy19]; exact hr19)
    have HE19 : Aside0 ((Value.slice A19 y117.length c19).ownBlock = (.slice Ao18 y114.length co18 : Value).ownBlock) := ⟨by rw [hA19]; split <;> (cases (Ao18 : Option Addr) <;> first | rfl | (simp [Value.ownBlock]; unfold Addr.add; split <;> rfl))⟩
    clear hy19 hi019 hsz19 HO116 hA19 hc19
    have HO119 := Aside0.mk hr19
    clear hr19
    replace q19 := eq_true q19
    have n_ := Aside0.mk (Kd.R_mono (ok' := fun k_ => (k_ ≠ gb107 ∧ some k_ ≠ (.slice A19 y117.length c19 : Value).ownBlock)) HO113.out (fun k_ hk => ⟨hk.1, (by rw [HE19.out]; exact hk.2)⟩))
    clear HO113
    have HO113 := n_
    clear n_
    try go_wp2
    go_ret
    exact ⟨_, by first | rfl | (simp [errW_none, errW_some] <;> rfl) | (simp only [← hji6, ← hji7]; first | rfl | (simp [errW_none, errW_some] <;> rfl)) | (simp [*, errW_none, errW_some] <;> rfl) | (have e_ : ji6 = ji7 := (by omega); subst e_; rfl), by (with_reducible repeat (first | apply Kd.Q_alloc | apply Kd.Q_drewN | apply Kd.Q_drew)); exact Kd.Q_mono HO119.out (fun _ hk => trivial), by repeat (first | (with_reducible first | exact HB.out | apply below_alloc | apply pw_below_drewN | apply below_drew1 | refine below_set ?_ GE107.out) | exact HB.out)⟩
   ·rw [if_neg c9] at H
    exact absurd H (by simp)
  ·rw [if_neg c8] at H
   exact absurd H (by simp)
 ·rw [if_neg c5] at H
  exact absurd H (by simp)
/-! ### api_Band: function 39 -/
def api_Band.f (l0 : List (S56)) : Option (List (S56)) := if l0.length < 8796093022208 then some l0 else none
theorem cloneNilBand (n c : Nat) (W : World) : (binOp BinOp.eql 24 (.slice none n c) (.slice none 0 0)).run Try.prog W = .ok (.bool true) W := by kernel_rfl
theorem cloneSomeBand (ad : Addr) (n c : Nat) (W : World) : (binOp BinOp.eql 24 (.slice (some ad) n c) (.slice none 0 0)).run Try.prog W = .ok (.bool false) W := by kernel_rfl
set_option maxHeartbeats 4000000 in
set_option maxRecDepth 100000 in
theorem api_Band.calls (A0 : Option Addr) (c0 : Nat) (l0 : List (S56)) (r : List (S56)) (w : World) (hr0 : Kd.C k56 w A0 l0.length l0) (hc0 : l0.length ≤ c0) (h : api_Band.f l0 = some r) :
  Calls Try.prog 39 #[.slice A0 l0.length c0] w fun e w' => ∃ v0_ : Value, e = .returned v0_ ∧ Kd.R k56 56 w' w.heap.size (fun _ => True) v0_ r ∧ Below w.heap.size w w' := by
 unfold api_Band.f at h
 by_cases c5 : l0.length < 8796093022208
 ·rw [if_pos c5] at h
  obtain rfl := Option.some.inj h
  clear h
  have LMc5 := Aside0.mk c5
  have HR0 := Aside0.mk hr0
  have HB := Aside0.mk (Below.refl w.heap.size w)
  clear c5
  cases A0 with
  | none =>
   have e1 := cloneNilBand l0.length c0
   go_enter Try.func39, Try.ntmps39
   go_wp2
   go_ret
   have hz : l0 = [] := by
    cases l0 with
    | nil => rfl
    | cons x xs =>
     obtain ⟨_, _, h3⟩ := HR0.out
     obtain ⟨ad, hn, _⟩ := h3 (by simp)
     cases hn
   subst hz
   exact ⟨_, rfl, Kd.R_nil _ _ _ _ _, HB.out⟩
  | some ad =>
   have e1 := cloneSomeBand ad l0.length c0
   obtain ⟨y1, hy1⟩ : ∃ y_ : List (S56), y_ = ([] : List (S56)) := ⟨_, rfl⟩
   have Ny := Aside0.mk hy1
   clear hy1 hr0
   go_enter Try.func39, Try.ntmps39
   go_wp2_with (first
    | ((with_reducible refine gate_dst (N := 5) rfl ?_); refine Kd.R_lit k56 _ 56 ?hg (N := 5) ?hd (xs := ([] : List (S56))) (inner := []) (ok := fun _ => True) (okp := fun _ => True) ?hr ?hp (fun _ hk => hk) trivial (Below.refl _ _) (Nat.le_refl _) (by simp) ?_; (case hd => rfl); (case hg => rfl); (case hr => first | (go_simp; done) | (go_simp; rfl)); (case hp => exact (Reps.none _ _)); intro v142 w12 ho13 hb hg_ hnew_; clear hg_ hnew_; rw [← Ny.out] at ho13; have HO := Aside0.mk ho13; have HB1 := Aside0.mk hb; clear ho13 hb)
    | ((with_reducible refine gate_builtin (b := .append) (xs := #[.tmp 5, .tmp 6]) rfl ?_); at_builtin; refine Kd.R_append_rows k56 (w0 := w) w.heap.size rfl (.tmp 5) (.tmp 6) 24 56 (.agg #[(.int .i64 0), (.int .i64 0)]) 16 rfl Try.underlying24 info56 rfl (by decide) (by omega) v142 y1 l0 _ _ _ (fun _ => True) (fun _ => False) rfl rfl ?aO ?aR (fun _ _ h => h) (fun _ h => h.elim) ?aF ?aB ?aS ?aL ?_; (case aR => exact Kd.C_below HR0.out HB1.out); (case aB => exact HB1.out); (case aF => exact (fun _ _ => trivial)); (case aO => exact HO.out); (case aS => exact below_size HB1.out); (case aL => have := LMc5.out; rw [Ny.out]; simp; omega); intro v145 w15 ho hb hg hat; rw [Ny.out] at ho; have HO2 := Aside0.mk ho; have HB2 := Aside0.mk hb; clear ho hb hg hat))
   go_ret
   exact ⟨_, rfl, HO2.out, HB2.out⟩
 ·rw [if_neg c5] at h
  cases h
/-! ### api_Slot_40: function 40 -/
def api_Slot_40.f (l0 : List (S58)) : Option (List (S58)) := if l0.length < 8796093022208 then some l0 else none
theorem cloneNilSlot (n c : Nat) (W : World) : (binOp BinOp.eql 25 (.slice none n c) (.slice none 0 0)).run Try.prog W = .ok (.bool true) W := by kernel_rfl
theorem cloneSomeSlot (ad : Addr) (n c : Nat) (W : World) : (binOp BinOp.eql 25 (.slice (some ad) n c) (.slice none 0 0)).run Try.prog W = .ok (.bool false) W := by kernel_rfl
set_option maxHeartbeats 4000000 in
set_option maxRecDepth 100000 in
theorem api_Slot_40.calls (A0 : Option Addr) (c0 : Nat) (l0 : List (S58)) (r : List (S58)) (w : World) (hr0 : Kd.C k58 w A0 l0.length l0) (hc0 : l0.length ≤ c0) (h : api_Slot_40.f l0 = some r) :
  Calls Try.prog 40 #[.slice A0 l0.length c0] w fun e w' => ∃ v0_ : Value, e = .returned v0_ ∧ Kd.R k58 58 w' w.heap.size (fun _ => True) v0_ r ∧ Below w.heap.size w w' := by
 unfold api_Slot_40.f at h
 by_cases c5 : l0.length < 8796093022208
 ·rw [if_pos c5] at h
  obtain rfl := Option.some.inj h
  clear h
  have LMc5 := Aside0.mk c5
  have HR0 := Aside0.mk hr0
  have HB := Aside0.mk (Below.refl w.heap.size w)
  clear c5
  cases A0 with
  | none =>
   have e1 := cloneNilSlot l0.length c0
   go_enter Try.func40, Try.ntmps40
   go_wp2
   go_ret
   have hz : l0 = [] := by
    cases l0 with
    | nil => rfl
    | cons x xs =>
     obtain ⟨_, _, h3⟩ := HR0.out
     obtain ⟨ad, hn, _⟩ := h3 (by simp)
     cases hn
   subst hz
   exact ⟨_, rfl, Kd.R_nil _ _ _ _ _, HB.out⟩
  | some ad =>
   have e1 := cloneSomeSlot ad l0.length c0
   obtain ⟨y1, hy1⟩ : ∃ y_ : List (S58), y_ = ([] : List (S58)) := ⟨_, rfl⟩
   have Ny := Aside0.mk hy1
   clear hy1 hr0
   go_enter Try.func40, Try.ntmps40
   go_wp2_with (first
    | ((with_reducible refine gate_dst (N := 5) rfl ?_); refine Kd.R_lit k58 _ 58 ?hg (N := 5) ?hd (xs := ([] : List (S58))) (inner := []) (ok := fun _ => True) (okp := fun _ => True) ?hr ?hp (fun _ hk => hk) trivial (Below.refl _ _) (Nat.le_refl _) (by simp) ?_; (case hd => rfl); (case hg => rfl); (case hr => first | (go_simp; done) | (go_simp; rfl)); (case hp => exact (Reps.none _ _)); intro v142 w12 ho13 hb hg_ hnew_; clear hg_ hnew_; rw [← Ny.out] at ho13; have HO := Aside0.mk ho13; have HB1 := Aside0.mk hb; clear ho13 hb)
    | ((with_reducible refine gate_builtin (b := .append) (xs := #[.tmp 5, .tmp 6]) rfl ?_); at_builtin; refine Kd.R_append_rows k58 (w0 := w) w.heap.size rfl (.tmp 5) (.tmp 6) 25 58 (.agg #[(.int .i64 0), (.int .i64 0)]) 16 rfl Try.underlying25 info58 rfl (by decide) (by omega) v142 y1 l0 _ _ _ (fun _ => True) (fun _ => False) rfl rfl ?aO ?aR (fun _ _ h => h) (fun _ h => h.elim) ?aF ?aB ?aS ?aL ?_; (case aR => exact Kd.C_below HR0.out HB1.out); (case aB => exact HB1.out); (case aF => exact (fun _ _ => trivial)); (case aO => exact HO.out); (case aS => exact below_size HB1.out); (case aL => have := LMc5.out; rw [Ny.out]; simp; omega); intro v145 w15 ho hb hg hat; rw [Ny.out] at ho; have HO2 := Aside0.mk ho; have HB2 := Aside0.mk hb; clear ho hb hg hat))
   go_ret
   exact ⟨_, rfl, HO2.out, HB2.out⟩
 ·rw [if_neg c5] at h
  cases h
/-! ### fleet_Own: function 18 -/
def fleet_Own.f (a0_0 : Int) (a0_1 : Int) (l0_2 : List (S56)) (a0_3 : Int) (a0_4 : Int) (a0_5 : Int) (a0_6 : Int) (l0_7 : List (S58)) (a0_8 : Int) (a0_9 : Int) (a0_10 : Bool) (a0_11 : Int) (a0_12 : Int) (a0_13 : Bool) (a0_14 : Int) (l0_15 : List Int) (a0_16 : Int) (a0_17 : Int) (l0_18 : List (S52)) : Option (Int × Int × (List (S56)) × Int × Int × Int × Int × (List (S58)) × Int × Int × Bool × Int × Int × Bool × Int × List Int × Int × Int × (List (S52))) := if l0_2.length < 8796093022208 ∧ l0_7.length < 8796093022208 ∧ l0_15.length < 17592186044416 ∧ l0_18.length < 8796093022208 then some (a0_0, a0_1, l0_2, a0_3, a0_4, a0_5, a0_6, l0_7, a0_8, a0_9, a0_10, a0_11, a0_12, a0_13, a0_14, l0_15, a0_16, a0_17, l0_18) else none
/-- The two blocks of Own. -/
structure OwS (w W : World) (cs : Array Value) : Prop where
 hX : W.heap[w.heap.size]? = some (.cells cs 37 (0, 0))
 hY : W.heap[w.heap.size + 1]? = some (.cells #[.int .i64 0, .int .i64 0, .slice none 0 0, .int .i64 0, .int .i64 0, .int .i64 0, .int .i64 0, .slice none 0 0, .int .i64 0, .int .i64 0, .bool false, .int .i64 0, .int .i64 0, .bool false, .int .i64 0, .slice none 0 0, .int .i64 0, .int .i64 0, .slice none 0 0] 37 (0, 0))
 hB : Below w.heap.size w W
/-- A whole row is laid over another one. -/
theorem cp_row {P : Program} {W : World} {g t : Nat} {cs old : Array Value} (h : W.heap[g]? = some (.cells old t (0, 0))) (hs : cs.size = old.size) (h1 : ∀ v ∈ cs.toList, v.oneCell' = true) :
  (storeCells ⟨g, 0, none⟩ cs.toList).run P W = .ok () (W.setCells g 0 cs.toList) ∧ (W.setCells g 0 cs.toList).heap[g]? = some (.cells cs t (0, 0)) ∧ (∀ k, k ≠ g → (W.setCells g 0 cs.toList).heap[k]? = W.heap[k]?) ∧ (W.setCells g 0 cs.toList).os = W.os ∧ (W.setCells g 0 cs.toList).tape = W.tape ∧ (W.setCells g 0 cs.toList).output = W.output ∧ (W.setCells g 0 cs.toList).heap.size = W.heap.size := by
 have hl : cs.toList.length = old.size := by rw [Array.length_toList, hs]
 refine ⟨?_, ?_, fun k hk => setCells_far _ _ k hk, setCells_same g _ _ W⟩
 ·have z := run_storeCells_cells (P := P) g 0 cs.toList 0 W (fun j hj => by rw [cell_of_row W g _ old t (0, 0) h]; simp; omega) (fun j _ => blk_frozen h _) h1
  simpa using z
 ·obtain ⟨cur, h3, h4, h5⟩ := setCells_row cs.toList 0 W old h (by omega)
  rw [h3]
  have e : cur = cs := by
   apply Array.ext'
   rw [h5, List.take_zero, List.nil_append, List.drop_of_length_le (by rw [Array.length_toList]; omega), List.append_nil]
  rw [e]
theorem below_cells {w W : World} {g : Nat} {vs : List Value} (h : Below w.heap.size w W) (hg : w.heap.size ≤ g) : Below w.heap.size w (W.setCells g 0 vs) := by
 obtain ⟨h1, h2, h3, h4⟩ := setCells_same g vs 0 W
 exact ⟨h1.trans h.os, h2.trans h.tape, h3.trans h.output, by rw [h4]; exact h.size, fun k hk => (setCells_far vs 0 k (by omega)).trans (h.block k hk)⟩
theorem Kd.R_cells {α : Type} {d : Kd α} {e base g t : Nat} {ok : Nat → Prop} {W : World} {v : Value} {xs : List α} {old : Array Value} {vs : List Value} (h : d.R e W base ok v xs) (hb : W.heap[g]? = some (.cells old t (0, 0))) (ht : ∀ q, q ∈ e :: d.E → q ≠ t) : d.R e (W.setCells g 0 vs) base ok v xs :=
 Kd.R_mono (Kd.R_step (Kd.R_types h hb ht) (fun k hk _ => setCells_far vs 0 k hk.2)) (fun _ hk => hk.1)
theorem Kd.Q_cells {α : Type} {d : Kd α} {e base g t : Nat} {ok : Nat → Prop} {W : World} {v : Value} {xs : List α} {old : Array Value} {vs : List Value} (h : d.Q e W base ok v xs) (hb : W.heap[g]? = some (.cells old t (0, 0))) (ht : ∀ q, q ∈ e :: d.E → q ≠ t) : d.Q e (W.setCells g 0 vs) base ok v xs :=
 Kd.Q_mono (Kd.Q_step (Kd.Q_types h hb ht) (fun k hk _ => setCells_far vs 0 k hk.2)) (fun _ hk => hk.1)
theorem OwS.below {w W W1 : World} {cs : Array Value} (h : OwS w W cs) (hb : Below W.heap.size W W1) : OwS w W1 cs := ⟨blk_below h.hX hb, blk_below h.hY hb, below_step h.hB hb⟩
theorem OwS.put {w W : World} {cs cs' : Array Value} (h : OwS w W cs) (j : Nat) (u : Value) (e : cs.setIfInBounds j u = cs') : OwS w (W.setCell ⟨w.heap.size, j, none⟩ u) cs' := ⟨blk_put h.hX j u e, blk_far h.hY (by show w.heap.size + 1 ≠ w.heap.size; omega) u, below_set h.hB (Nat.le_refl _)⟩
set_option maxHeartbeats 8000000 in
set_option maxRecDepth 100000 in
theorem fleet_Own.calls (a0_0 : Int) (a0_1 : Int) (A0_2 : Option Addr) (c0_2 : Nat) (l0_2 : List (S56)) (a0_3 : Int) (a0_4 : Int) (a0_5 : Int) (a0_6 : Int) (A0_7 : Option Addr) (c0_7 : Nat) (l0_7 : List (S58)) (a0_8 : Int) (a0_9 : Int) (a0_10 : Bool) (a0_11 : Int) (a0_12 : Int) (a0_13 : Bool) (a0_14 : Int) (A0_15 : Option Addr) (c0_15 : Nat) (l0_15 : List Int) (a0_16 : Int) (a0_17 : Int) (A0_18 : Option Addr) (c0_18 : Nat) (l0_18 : List (S52)) (r1 : Int) (r2 : Int) (r3 : List (S56)) (r4 : Int) (r5 : Int) (r6 : Int) (r7 : Int) (r8 : List (S58)) (r9 : Int) (r10 : Int) (r11 : Bool) (r12 : Int) (r13 : Int) (r14 : Bool) (r15 : Int) (r16 : List Int) (r17 : Int) (r18 : Int) (r19 : List (S52)) (w : World) (hr0_2 : Kd.C k56 w A0_2 l0_2.length l0_2) (hc0_2 : l0_2.length ≤ c0_2) (hr0_7 : Kd.C k58 w A0_7 l0_7.length l0_7) (hc0_7 : l0_7.length ≤ c0_7) (hr0_15 : Kd.C (Kd.int .i64) w A0_15 l0_15.length l0_15) (hc0_15 : l0_15.length ≤ c0_15) (hr0_18 : Kd.C k52 w A0_18 l0_18.length l0_18) (hc0_18 : l0_18.length ≤ c0_18) (h : fleet_Own.f a0_0 a0_1 l0_2 a0_3 a0_4 a0_5 a0_6 l0_7 a0_8 a0_9 a0_10 a0_11 a0_12 a0_13 a0_14 l0_15 a0_16 a0_17 l0_18 = some (r1, r2, r3, r4, r5, r6, r7, r8, r9, r10, r11, r12, r13, r14, r15, r16, r17, r18, r19)) :
  Calls Try.prog 18 #[.agg #[.int .i64 a0_0, .int .i64 a0_1, .slice A0_2 l0_2.length c0_2, .int .i64 a0_3, .int .i64 a0_4, .int .i64 a0_5, .int .i64 a0_6, .slice A0_7 l0_7.length c0_7, .int .i64 a0_8, .int .i64 a0_9, .bool a0_10, .int .i64 a0_11, .int .i64 a0_12, .bool a0_13, .int .i64 a0_14, .slice A0_15 l0_15.length c0_15, .int .i64 a0_16, .int .i64 a0_17, .slice A0_18 l0_18.length c0_18]] w fun e w' => ∃ v2_ v7_ v15_ v18_ : Value, e = .returned (.agg #[.int .i64 r1, .int .i64 r2, v2_, .int .i64 r4, .int .i64 r5, .int .i64 r6, .int .i64 r7, v7_, .int .i64 r9, .int .i64 r10, .bool r11, .int .i64 r12, .int .i64 r13, .bool r14, .int .i64 r15, v15_, .int .i64 r17, .int .i64 r18, v18_]) ∧ Kd.R k56 56 w' w.heap.size (fun _ => True) v2_ r3 ∧ Kd.R k58 58 w' w.heap.size (fun _ => True) v7_ r8 ∧ Kd.R (Kd.int .i64) 3 w' w.heap.size (fun _ => True) v15_ r16 ∧ Kd.R k52 52 w' w.heap.size (fun _ => True) v18_ r19 ∧ Below w.heap.size w w' := by
 have hu1 := Try.underlying37
 have hu2 := Try.underlying27
 have hu3 := Try.underlying34
 unfold fleet_Own.f at h
 have hD : l0_2.length < 8796093022208 ∧ l0_7.length < 8796093022208 ∧ l0_15.length < 17592186044416 ∧ l0_18.length < 8796093022208 := by
  by_cases hD : l0_2.length < 8796093022208 ∧ l0_7.length < 8796093022208 ∧ l0_15.length < 17592186044416 ∧ l0_18.length < 8796093022208
  ·exact hD
  ·rw [if_neg hD] at h; cases h
 rw [if_pos hD] at h
 simp only [Option.some.injEq, Prod.mk.injEq] at h
 obtain ⟨rfl, rfl, rfl, rfl, rfl, rfl, rfl, rfl, rfl, rfl, rfl, rfl, rfl, rfl, rfl, rfl, rfl, rfl, rfl⟩ := h
 have F2 := Aside0.mk (show api_Band.f l0_2 = some l0_2 by unfold api_Band.f; rw [if_pos hD.1])
 have HR2 := Aside0.mk hr0_2
 have HC2 := Aside0.mk hc0_2
 have F7 := Aside0.mk (show api_Slot_40.f l0_7 = some l0_7 by unfold api_Slot_40.f; rw [if_pos hD.2.1])
 have HR7 := Aside0.mk hr0_7
 have HC7 := Aside0.mk hc0_7
 have F15 := Aside0.mk (show slices_Clone_int_int.f l0_15 = some l0_15 by unfold slices_Clone_int_int.f; rw [if_pos hD.2.2.1])
 have HR15 := Aside0.mk hr0_15
 have HC15 := Aside0.mk hc0_15
 have F18 := Aside0.mk (show api_Mark.f l0_18 = some l0_18 by unfold api_Mark.f; rw [if_pos hD.2.2.2])
 have HR18 := Aside0.mk hr0_18
 have HC18 := Aside0.mk hc0_18
 clear hD hr0_2 hc0_2 hr0_7 hc0_7 hr0_15 hc0_15 hr0_18 hc0_18
 go_enter Try.func18, Try.ntmps18
 go_upto_region 1 with (fail)
 have S0 : OwS w ((w.alloc (.cells #[.int .i64 a0_0, .int .i64 a0_1, .slice A0_2 l0_2.length c0_2, .int .i64 a0_3, .int .i64 a0_4, .int .i64 a0_5, .int .i64 a0_6, .slice A0_7 l0_7.length c0_7, .int .i64 a0_8, .int .i64 a0_9, .bool a0_10, .int .i64 a0_11, .int .i64 a0_12, .bool a0_13, .int .i64 a0_14, .slice A0_15 l0_15.length c0_15, .int .i64 a0_16, .int .i64 a0_17, .slice A0_18 l0_18.length c0_18] 37)).alloc (.cells #[.int .i64 0, .int .i64 0, .slice none 0 0, .int .i64 0, .int .i64 0, .int .i64 0, .int .i64 0, .slice none 0 0, .int .i64 0, .int .i64 0, .bool false, .int .i64 0, .int .i64 0, .bool false, .int .i64 0, .slice none 0 0, .int .i64 0, .int .i64 0, .slice none 0 0] 37)) #[.int .i64 a0_0, .int .i64 a0_1, .slice A0_2 l0_2.length c0_2, .int .i64 a0_3, .int .i64 a0_4, .int .i64 a0_5, .int .i64 a0_6, .slice A0_7 l0_7.length c0_7, .int .i64 a0_8, .int .i64 a0_9, .bool a0_10, .int .i64 a0_11, .int .i64 a0_12, .bool a0_13, .int .i64 a0_14, .slice A0_15 l0_15.length c0_15, .int .i64 a0_16, .int .i64 a0_17, .slice A0_18 l0_18.length c0_18] := by
  have z1 := blk_new (w.alloc (.cells #[.int .i64 a0_0, .int .i64 a0_1, .slice A0_2 l0_2.length c0_2, .int .i64 a0_3, .int .i64 a0_4, .int .i64 a0_5, .int .i64 a0_6, .slice A0_7 l0_7.length c0_7, .int .i64 a0_8, .int .i64 a0_9, .bool a0_10, .int .i64 a0_11, .int .i64 a0_12, .bool a0_13, .int .i64 a0_14, .slice A0_15 l0_15.length c0_15, .int .i64 a0_16, .int .i64 a0_17, .slice A0_18 l0_18.length c0_18] 37)) (.cells #[.int .i64 0, .int .i64 0, .slice none 0 0, .int .i64 0, .int .i64 0, .int .i64 0, .int .i64 0, .slice none 0 0, .int .i64 0, .int .i64 0, .bool false, .int .i64 0, .int .i64 0, .bool false, .int .i64 0, .slice none 0 0, .int .i64 0, .int .i64 0, .slice none 0 0] 37)
  rw [World.size_alloc] at z1
  exact ⟨blk_alloc (blk_new w _) _, z1, below_alloc (below_alloc (Below.refl _ _) _) _⟩
 generalize (w.alloc _).alloc _ = W0 at S0 ⊢
 have p1 := (blk_cell S0.hX 2)
 simp only [List.getElem?_toArray, List.getElem?_cons_zero, List.getElem?_cons_succ] at p1
 have HS := Aside0.mk S0
 clear S0
 go_upto_region 2 with (go_at_call 39; refine (api_Band.calls A0_2 c0_2 l0_2 l0_2 _ (Kd.C_below HR2.out HS.out.hB) HC2.out F2.out).mono ?_; rintro e_ w1 ⟨v1, rfl, ho, hb⟩; obtain ⟨B2, d2, rfl⟩ := Kd.R_slice ho; have HS1 := Aside0.mk (HS.out.below hb); have HO1 := Aside0.mk (Kd.R_lower ho HS.out.hB.size); have HBn := Aside0.mk hb; have q1 := (blk_cell HS1.out.hX 2); have qf1 := blk_frozen HS1.out.hX 2; simp only [List.getElem?_toArray, List.getElem?_cons_zero, List.getElem?_cons_succ] at q1; clear ho hb)
 have S1 : OwS w (w1.setCell ⟨w.heap.size, 2, none⟩ (.slice B2 l0_2.length d2)) #[.int .i64 a0_0, .int .i64 a0_1, .slice B2 l0_2.length d2, .int .i64 a0_3, .int .i64 a0_4, .int .i64 a0_5, .int .i64 a0_6, .slice A0_7 l0_7.length c0_7, .int .i64 a0_8, .int .i64 a0_9, .bool a0_10, .int .i64 a0_11, .int .i64 a0_12, .bool a0_13, .int .i64 a0_14, .slice A0_15 l0_15.length c0_15, .int .i64 a0_16, .int .i64 a0_17, .slice A0_18 l0_18.length c0_18] := HS1.out.put 2 (.slice B2 l0_2.length d2) rfl
 have T2 := Kd.R_mono (ok' := fun _ => True) (Kd.R_set HO1.out HS1.out.hX (by decide) 2 (.slice B2 l0_2.length d2)) (fun _ _ => trivial)
 generalize w1.setCell _ _ = W1 at S1 T2  ⊢
 clear HS HS1 HO1 HBn p1 q1 qf1 F2 HR2 HC2
 have HT := Aside0.mk T2
 clear T2
 have T2 := HT
 clear HT
 have p1 := (blk_cell S1.hX 7)
 simp only [List.getElem?_toArray, List.getElem?_cons_zero, List.getElem?_cons_succ] at p1
 have HS := Aside0.mk S1
 clear S1
 go_upto_region 3 with (go_at_call 40; refine (api_Slot_40.calls A0_7 c0_7 l0_7 l0_7 _ (Kd.C_below HR7.out HS.out.hB) HC7.out F7.out).mono ?_; rintro e_ w1 ⟨v1, rfl, ho, hb⟩; obtain ⟨B7, d7, rfl⟩ := Kd.R_slice ho; have HS1 := Aside0.mk (HS.out.below hb); have HO1 := Aside0.mk (Kd.R_lower ho HS.out.hB.size); have HBn := Aside0.mk hb; have q1 := (blk_cell HS1.out.hX 7); have qf1 := blk_frozen HS1.out.hX 7; simp only [List.getElem?_toArray, List.getElem?_cons_zero, List.getElem?_cons_succ] at q1; clear ho hb)
 have S2 : OwS w (w1.setCell ⟨w.heap.size, 7, none⟩ (.slice B7 l0_7.length d7)) #[.int .i64 a0_0, .int .i64 a0_1, .slice B2 l0_2.length d2, .int .i64 a0_3, .int .i64 a0_4, .int .i64 a0_5, .int .i64 a0_6, .slice B7 l0_7.length d7, .int .i64 a0_8, .int .i64 a0_9, .bool a0_10, .int .i64 a0_11, .int .i64 a0_12, .bool a0_13, .int .i64 a0_14, .slice A0_15 l0_15.length c0_15, .int .i64 a0_16, .int .i64 a0_17, .slice A0_18 l0_18.length c0_18] := HS1.out.put 7 (.slice B7 l0_7.length d7) rfl
 have T7 := Kd.R_mono (ok' := fun _ => True) (Kd.R_set HO1.out HS1.out.hX (by decide) 7 (.slice B7 l0_7.length d7)) (fun _ _ => trivial)
 have T2b := Kd.R_mono (Kd.R_set (Kd.R_below T2.out HBn.out) HS1.out.hX (by decide) 7 (.slice B7 l0_7.length d7)) (ok' := fun _ => True) (fun _ _ => trivial)
 generalize w1.setCell _ _ = W2 at S2 T7 T2b ⊢
 clear HS HS1 HO1 HBn p1 q1 qf1 F7 HR7 HC7 T2
 have HT2 := Aside0.mk T2b
 clear T2b
 have T2 := HT2
 clear HT2
 have HT := Aside0.mk T7
 clear T7
 have T7 := HT
 clear HT
 have p1 := (blk_cell S2.hX 15)
 simp only [List.getElem?_toArray, List.getElem?_cons_zero, List.getElem?_cons_succ] at p1
 have HS := Aside0.mk S2
 clear S2
 go_upto_region 4 with (go_at_call 41; refine (slices_Clone_int_int.calls A0_15 c0_15 l0_15 l0_15 _ (Kd.C_below HR15.out HS.out.hB) HC15.out F15.out).mono ?_; rintro e_ w1 ⟨v1, rfl, ho, hb⟩; obtain ⟨B15, d15, rfl⟩ := Kd.R_slice ho; have HS1 := Aside0.mk (HS.out.below hb); have HO1 := Aside0.mk (Kd.R_lower ho HS.out.hB.size); have HBn := Aside0.mk hb; have q1 := (blk_cell HS1.out.hX 15); have qf1 := blk_frozen HS1.out.hX 15; simp only [List.getElem?_toArray, List.getElem?_cons_zero, List.getElem?_cons_succ] at q1; clear ho hb)
 have S3 : OwS w (w1.setCell ⟨w.heap.size, 15, none⟩ (.slice B15 l0_15.length d15)) #[.int .i64 a0_0, .int .i64 a0_1, .slice B2 l0_2.length d2, .int .i64 a0_3, .int .i64 a0_4, .int .i64 a0_5, .int .i64 a0_6, .slice B7 l0_7.length d7, .int .i64 a0_8, .int .i64 a0_9, .bool a0_10, .int .i64 a0_11, .int .i64 a0_12, .bool a0_13, .int .i64 a0_14, .slice B15 l0_15.length d15, .int .i64 a0_16, .int .i64 a0_17, .slice A0_18 l0_18.length c0_18] := HS1.out.put 15 (.slice B15 l0_15.length d15) rfl
 have T15 := Kd.R_mono (ok' := fun _ => True) (Kd.R_set HO1.out HS1.out.hX (by decide) 15 (.slice B15 l0_15.length d15)) (fun _ _ => trivial)
 have T2b := Kd.R_mono (Kd.R_set (Kd.R_below T2.out HBn.out) HS1.out.hX (by decide) 15 (.slice B15 l0_15.length d15)) (ok' := fun _ => True) (fun _ _ => trivial)
 have T7b := Kd.R_mono (Kd.R_set (Kd.R_below T7.out HBn.out) HS1.out.hX (by decide) 15 (.slice B15 l0_15.length d15)) (ok' := fun _ => True) (fun _ _ => trivial)
 generalize w1.setCell _ _ = W3 at S3 T15 T2b T7b ⊢
 clear HS HS1 HO1 HBn p1 q1 qf1 F15 HR15 HC15 T2 T7
 have HT2 := Aside0.mk T2b
 clear T2b
 have T2 := HT2
 clear HT2
 have HT7 := Aside0.mk T7b
 clear T7b
 have T7 := HT7
 clear HT7
 have HT := Aside0.mk T15
 clear T15
 have T15 := HT
 clear HT
 have p1 := (blk_cell S3.hX 18)
 simp only [List.getElem?_toArray, List.getElem?_cons_zero, List.getElem?_cons_succ] at p1
 have HS := Aside0.mk S3
 clear S3
 go_upto_region 5 with (go_at_call 42; refine (api_Mark.calls A0_18 c0_18 l0_18 l0_18 _ (Kd.C_below HR18.out HS.out.hB) HC18.out F18.out).mono ?_; rintro e_ w1 ⟨v1, rfl, ho, hb⟩; obtain ⟨B18, d18, rfl⟩ := Kd.R_slice ho; have HS1 := Aside0.mk (HS.out.below hb); have HO1 := Aside0.mk (Kd.R_lower ho HS.out.hB.size); have HBn := Aside0.mk hb; have q1 := (blk_cell HS1.out.hX 18); have qf1 := blk_frozen HS1.out.hX 18; simp only [List.getElem?_toArray, List.getElem?_cons_zero, List.getElem?_cons_succ] at q1; clear ho hb)
 have S4 : OwS w (w1.setCell ⟨w.heap.size, 18, none⟩ (.slice B18 l0_18.length d18)) #[.int .i64 a0_0, .int .i64 a0_1, .slice B2 l0_2.length d2, .int .i64 a0_3, .int .i64 a0_4, .int .i64 a0_5, .int .i64 a0_6, .slice B7 l0_7.length d7, .int .i64 a0_8, .int .i64 a0_9, .bool a0_10, .int .i64 a0_11, .int .i64 a0_12, .bool a0_13, .int .i64 a0_14, .slice B15 l0_15.length d15, .int .i64 a0_16, .int .i64 a0_17, .slice B18 l0_18.length d18] := HS1.out.put 18 (.slice B18 l0_18.length d18) rfl
 have T18 := Kd.R_mono (ok' := fun _ => True) (Kd.R_set HO1.out HS1.out.hX (by decide) 18 (.slice B18 l0_18.length d18)) (fun _ _ => trivial)
 have T2b := Kd.R_mono (Kd.R_set (Kd.R_below T2.out HBn.out) HS1.out.hX (by decide) 18 (.slice B18 l0_18.length d18)) (ok' := fun _ => True) (fun _ _ => trivial)
 have T7b := Kd.R_mono (Kd.R_set (Kd.R_below T7.out HBn.out) HS1.out.hX (by decide) 18 (.slice B18 l0_18.length d18)) (ok' := fun _ => True) (fun _ _ => trivial)
 have T15b := Kd.R_mono (Kd.R_set (Kd.R_below T15.out HBn.out) HS1.out.hX (by decide) 18 (.slice B18 l0_18.length d18)) (ok' := fun _ => True) (fun _ _ => trivial)
 generalize w1.setCell _ _ = W4 at S4 T18 T2b T7b T15b ⊢
 clear HS HS1 HO1 HBn p1 q1 qf1 F18 HR18 HC18 T2 T7 T15
 have HT2 := Aside0.mk T2b
 clear T2b
 have T2 := HT2
 clear HT2
 have HT7 := Aside0.mk T7b
 clear T7b
 have T7 := HT7
 clear HT7
 have HT15 := Aside0.mk T15b
 clear T15b
 have T15 := HT15
 clear HT15
 have HT := Aside0.mk T18
 clear T18
 have T18 := HT
 clear HT
 obtain ⟨cs, hcs⟩ : ∃ cs : Array Value, cs = #[.int .i64 a0_0, .int .i64 a0_1, .slice B2 l0_2.length d2, .int .i64 a0_3, .int .i64 a0_4, .int .i64 a0_5, .int .i64 a0_6, .slice B7 l0_7.length d7, .int .i64 a0_8, .int .i64 a0_9, .bool a0_10, .int .i64 a0_11, .int .i64 a0_12, .bool a0_13, .int .i64 a0_14, .slice B15 l0_15.length d15, .int .i64 a0_16, .int .i64 a0_17, .slice B18 l0_18.length d18] := ⟨_, rfl⟩
 rw [← hcs] at S4
 have hsz : cs.size = 19 := by rw [hcs]; rfl
 have hinfo : (Try.prog.info? 37).map (·.size) = some cs.size := by rw [hsz]; kernel_rfl
 have h1c : ∀ v ∈ cs.toList, v.oneCell' = true := by rw [hcs]; intro v hv; simp only [List.mem_cons, List.not_mem_nil, or_false] at hv; rcases hv with rfl | rfl | rfl | rfl | rfl | rfl | rfl | rfl | rfl | rfl | rfl | rfl | rfl | rfl | rfl | rfl | rfl | rfl | rfl <;> rfl
 have cp := cp_row (P := Try.prog) S4.hY (by rw [hsz]; rfl) h1c
 have hst := cp.1
 have HS := Aside0.mk S4
 have HCP := Aside0.mk cp.2.1
 have HI := Aside0.mk hinfo
 have HCS := Aside0.mk hcs
 clear S4 cp hinfo hcs h1c
 go_wp2_with ((with_reducible refine gate_dst (N := 25) rfl ?_); refine wpList_load_row rfl 37 (.tmp 1) rfl w.heap.size rfl 37 cs (0, 0) _ HS.out.hX hu1 rfl HI.out ?_)
 have hB := Aside0.mk (below_cells (g := w.heap.size + 1) (vs := cs.toList) HS.out.hB (by omega))
 have U2 := Aside0.mk (Kd.R_cells (vs := cs.toList) T2.out HS.out.hY (by decide))
 have U7 := Aside0.mk (Kd.R_cells (vs := cs.toList) T7.out HS.out.hY (by decide))
 have U15 := Aside0.mk (Kd.R_cells (vs := cs.toList) T15.out HS.out.hY (by decide))
 have U18 := Aside0.mk (Kd.R_cells (vs := cs.toList) T18.out HS.out.hY (by decide))
 generalize W4.setCells _ _ _ = W5 at HCP hB U2 U7 U15 U18 ⊢
 refine bodyPost_ret (results_cell_row rfl _ _ (w.heap.size + 1) 37 cs (0, 0) _ rfl HCP.out hu1 rfl HI.out) rfl ?_
 exact ⟨_, _, _, _, by rw [HCS.out], U2.out, U7.out, U15.out, U18.out, hB.out⟩
/-! ### policy_Zero: function 28 -/
def policy_Zero.f (a0_0 : Int) (a0_1 : Int) (l0_2 : List (S56)) (a0_3 : Int) (a0_4 : Int) (a0_5 : Int) (a0_6 : Int) (l0_7 : List (S58)) : Option (Bool) := some (a0_0 == 0)
set_option maxHeartbeats 8000000 in
set_option maxRecDepth 100000 in
theorem policy_Zero.calls (a0_0 : Int) (a0_1 : Int) (A0_2 : Option Addr) (c0_2 : Nat) (l0_2 : List (S56)) (a0_3 : Int) (a0_4 : Int) (a0_5 : Int) (a0_6 : Int) (A0_7 : Option Addr) (c0_7 : Nat) (l0_7 : List (S58)) (r : Bool) (w : World) (hr0_2 : Kd.C k56 w A0_2 l0_2.length l0_2) (hc0_2 : l0_2.length ≤ c0_2) (hr0_7 : Kd.C k58 w A0_7 l0_7.length l0_7) (hc0_7 : l0_7.length ≤ c0_7) (h : policy_Zero.f a0_0 a0_1 l0_2 a0_3 a0_4 a0_5 a0_6 l0_7 = some r) :
  Calls Try.prog 28 #[.agg #[.int .i64 a0_0, .int .i64 a0_1, .slice A0_2 l0_2.length c0_2, .int .i64 a0_3, .int .i64 a0_4, .int .i64 a0_5, .int .i64 a0_6, .slice A0_7 l0_7.length c0_7]] w fun e w' => e = .returned (.bool r) ∧ Below w.heap.size w w' := by
 have hu27 := Try.underlying27
 have HR0_2 := Aside0.mk hr0_2
 have HC0_2 := Aside0.mk hc0_2
 clear hr0_2 hc0_2
 have HR0_7 := Aside0.mk hr0_7
 have HC0_7 := Aside0.mk hc0_7
 clear hr0_7 hc0_7
 have HB := Aside0.mk (Below.refl w.heap.size w)
 have H : (some (a0_0 == 0)) = some r := h
 clear h
 obtain rfl := Option.some.inj H
 go_enter Try.func28, Try.ntmps28
 go_wp2_with (first | ((with_reducible refine gate_dst (N := 1) rfl ?_); refine box_event ?hg (N := 1) ?hd (cs := #[.int .i64 a0_0, .int .i64 a0_1, .slice A0_2 l0_2.length c0_2, .int .i64 a0_3, .int .i64 a0_4, .int .i64 a0_5, .int .i64 a0_6, .slice A0_7 l0_7.length c0_7]) (t := 27) ?hr ?_; (case hd => rfl); (case hg => rfl); (case hr => first | (go_simp; done) | (go_simp; rfl)); intro gb101 hg w2 hbox hb; have n0_ := Aside0.mk (below_step (by repeat (first | (with_reducible first | exact HB.out | apply below_alloc | apply pw_below_drewN | apply below_drew1) | exact HB.out)) hb); have n1_ := Aside0.mk (hbox); have n2_ := Aside0.mk ((by rw [hg]; exact (below_size (by repeat (first | (with_reducible first | exact HB.out | apply below_alloc | apply pw_below_drewN | apply below_drew1) | exact HB.out))) : w.heap.size ≤ gb101)); have n3_ := Aside0.mk ((by rw [hg]; exact (below_size (by repeat (first | (with_reducible first | exact HB.out | apply below_alloc | apply pw_below_drewN | apply below_drew1) | exact HB.out))) : w.heap.size ≤ gb101)); clear HB; have HB := n0_; have BK101 := n1_; have GW101 := n2_; have GE101 := n3_; clear n0_ n1_ n2_ n3_; clear hb hbox hg; have hcz3_0 : w2.cell? ⟨gb101, 0, none⟩ = some (.int .i64 a0_0) := (blk_cell BK101.out 0).trans rfl; have hcz3_1 : w2.cell? ⟨gb101, 1, none⟩ = some (.int .i64 a0_1) := (blk_cell BK101.out 1).trans rfl; have hcz3_2 : w2.cell? ⟨gb101, 2, none⟩ = some (.slice A0_2 l0_2.length c0_2) := (blk_cell BK101.out 2).trans rfl; have hcz3_3 : w2.cell? ⟨gb101, 3, none⟩ = some (.int .i64 a0_3) := (blk_cell BK101.out 3).trans rfl; have hcz3_4 : w2.cell? ⟨gb101, 4, none⟩ = some (.int .i64 a0_4) := (blk_cell BK101.out 4).trans rfl; have hcz3_5 : w2.cell? ⟨gb101, 5, none⟩ = some (.int .i64 a0_5) := (blk_cell BK101.out 5).trans rfl; have hcz3_6 : w2.cell? ⟨gb101, 6, none⟩ = some (.int .i64 a0_6) := (blk_cell BK101.out 6).trans rfl; have hcz3_7 : w2.cell? ⟨gb101, 7, none⟩ = some (.slice A0_7 l0_7.length c0_7) := (blk_cell BK101.out 7).trans rfl; have hfz3_0 := blk_frozen BK101.out 0; have hfz3_1 := blk_frozen BK101.out 1; have hfz3_2 := blk_frozen BK101.out 2; have hfz3_3 := blk_frozen BK101.out 3; have hfz3_4 := blk_frozen BK101.out 4; have hfz3_5 := blk_frozen BK101.out 5; have hfz3_6 := blk_frozen BK101.out 6; have hfz3_7 := blk_frozen BK101.out 7))
 go_ret
 exact ⟨by first | rfl | (simp [errW_none, errW_some] <;> rfl) | (simp [*, errW_none, errW_some] <;> rfl), by repeat (first | (with_reducible first | exact HB.out | apply below_alloc | apply pw_below_drewN | apply below_drew1 | refine below_set ?_ GE101.out) | exact HB.out)⟩
/-! ### fleet_runner_run: function 29 -/
theorem os_below {w W W1 : World} (h : W.os = w.os ∧ W.tape = w.tape ∧ W.output = w.output) (hb : Below W.heap.size W W1) : W1.os = w.os ∧ W1.tape = w.tape ∧ W1.output = w.output := ⟨hb.os.trans h.1, hb.tape.trans h.2.1, hb.output.trans h.2.2⟩
theorem os_set {w W : World} {p : Addr} {u : Value} (h : W.os = w.os ∧ W.tape = w.tape ∧ W.output = w.output) : (W.setCell p u).os = w.os ∧ (W.setCell p u).tape = w.tape ∧ (W.setCell p u).output = w.output := h
set_option maxHeartbeats 8000000 in
set_option maxRecDepth 100000 in
theorem fleet_run (G : Nat) (p0 p1 : Int) (A2 : Option Addr) (c2 : Nat) (l2 : List (S56)) (p3 p4 p5 p6 : Int) (A7 : Option Addr) (c7 : Nat) (l7 : List (S58)) (s0 s1 : Int) (s2 : Bool) (h0 h1 : Int) (h2 : Bool) (R : Int) (A15 : Option Addr) (c15 : Nat) (l15 : List Int) (wt ut : Int) (A18 : Option Addr) (c18 : Nat) (l18 : List (S52)) (q0 q1 q2 q3 q4 q5 q6 q7 q8 q9 q10 q11 : Int) (now : Int) (B : Nat) (want demand : Int) (w : World) (hG : w.heap[G]? = some (.cells #[.int .i64 p0, .int .i64 p1, .slice A2 l2.length c2, .int .i64 p3, .int .i64 p4, .int .i64 p5, .int .i64 p6, .slice A7 l7.length c7, .int .i64 s0, .int .i64 s1, .bool s2, .int .i64 h0, .int .i64 h1, .bool h2, .int .i64 R, .slice A15 l15.length c15, .int .i64 wt, .int .i64 ut, .slice A18 l18.length c18, .int .i64 q0, .int .i64 q1, .int .i64 q2, .int .i64 q3, .int .i64 q4, .int .i64 q5, .int .i64 q6, .int .i64 q7, .int .i64 q8, .int .i64 q9, .int .i64 q10, .int .i64 q11, .int .i64 now] 69 (0, 0)))
  (hQS : (Kd.int .i64).Q 3 w B (fun _ => True) (.slice A15 l15.length c15) l15) (hQM : k52.Q 52 w B (fun _ => True) (.slice A18 l18.length c18) l18) (hB0 : B ≤ w.heap.size)
  (k0 k1 : Int) (k2 : Bool) (hL : limit_Next.f q0 q1 q2 q3 q4 q5 q6 q7 q8 q9 q10 q11 h0 h1 h2 want now = some (k0, k1, k2)) (R' : Int) (l15' : List Int) (wt' ut' cost : Int) (bad : Bool) (hP : plant_Step.f q0 q1 q2 q3 q4 q5 q6 q7 q8 q9 q10 q11 R l15 wt ut k0 demand = some (R', l15', wt', ut', cost, bad)) (l18' : List (S52)) (hA : score_Add.f q7 l18 cost bad = some l18') :
  Calls Try.prog 29 #[.pointer (some ⟨G, 0, none⟩), .int .i64 want, .int .i64 demand] w fun e w' => ∃ (B15 : Option Addr) (d15 : Nat) (B18 : Option Addr) (d18 : Nat), e = .returned (.tuple #[]) ∧ w'.heap[G]? = some (.cells #[.int .i64 p0, .int .i64 p1, .slice A2 l2.length c2, .int .i64 p3, .int .i64 p4, .int .i64 p5, .int .i64 p6, .slice A7 l7.length c7, .int .i64 s0, .int .i64 s1, .bool s2, .int .i64 k0, .int .i64 k1, .bool k2, .int .i64 R', .slice B15 l15'.length d15, .int .i64 wt', .int .i64 ut', .slice B18 l18'.length d18, .int .i64 q0, .int .i64 q1, .int .i64 q2, .int .i64 q3, .int .i64 q4, .int .i64 q5, .int .i64 q6, .int .i64 q7, .int .i64 q8, .int .i64 q9, .int .i64 q10, .int .i64 q11, .int .i64 now] 69 (0, 0)) ∧ (Kd.int .i64).Q 3 w' B (fun _ => True) (.slice B15 l15'.length d15) l15' ∧ k52.Q 52 w' B (fun _ => True) (.slice B18 l18'.length d18) l18' ∧ Kept w w' (fun k => k = G) ∧ (w'.os = w.os ∧ w'.tape = w.tape ∧ w'.output = w.output) := by
 have hu0 := Try.underlying69
 have hu1 := Try.underlying37
 have hu2 := Try.underlying27
 have hu3 := Try.underlying29
 have hu4 := Try.underlying23
 have hu5 := Try.underlying31
 have hu6 := Try.underlying34
 have hu7 := Try.underlying52
 have HL := Aside0.mk hL
 have HP := Aside0.mk hP
 have HA := Aside0.mk hA
 clear hL hP hA
 have hGl := blk_lt hG
 go_enter Try.func29, Try.ntmps29
 go_upto_region 0 with (fail)
 refine start_ (n := 20) (S := fun w' => w'.heap[G]? = some (.cells #[.int .i64 p0, .int .i64 p1, .slice A2 l2.length c2, .int .i64 p3, .int .i64 p4, .int .i64 p5, .int .i64 p6, .slice A7 l7.length c7, .int .i64 s0, .int .i64 s1, .bool s2, .int .i64 h0, .int .i64 h1, .bool h2, .int .i64 R, .slice A15 l15.length c15, .int .i64 wt, .int .i64 ut, .slice A18 l18.length c18, .int .i64 q0, .int .i64 q1, .int .i64 q2, .int .i64 q3, .int .i64 q4, .int .i64 q5, .int .i64 q6, .int .i64 q7, .int .i64 q8, .int .i64 q9, .int .i64 q10, .int .i64 q11, .int .i64 now] 69 (0, 0))) (ds := [19]) #[false, false, false, false, false, false, false, false, false, false, false, false, false, false, false, false, false, false, false, false] (by kernel_rfl) rfl rfl hG (fun hHeld => ?_)
 have FB := Kept.refl w (fun k => k = G)
 have FO : w.os = w.os ∧ w.tape = w.tape ∧ w.output = w.output := ⟨rfl, rfl, rfl⟩
 have FB := Kept.below FB (below_drew1 (Below.refl _ _))
 have FO := os_below FO (below_drew1 (Below.refl _ _))
 have FG := blk_below hG (below_drew1 (Below.refl _ _))
 have FS := Kd.Q_below hQS (below_drew1 (Below.refl _ _))
 have FM := Kd.Q_below hQM (below_drew1 (Below.refl _ _))
 generalize w.drew = w9 at FB FO FG FS FM hHeld ⊢
 clear hG hQS hQM
 refine pu_ 0 8 #[true, false, false, false, false, false, false, false, false, false, false, false, false, false, false, false, false, false, false, false] ?_
 refine pu_ 1 9 #[true, true, false, false, false, false, false, false, false, false, false, false, false, false, false, false, false, false, false, false] ?_
 refine pu_ 5 13 #[true, true, false, false, false, true, false, false, false, false, false, false, false, false, false, false, false, false, false, false] ?_
 refine pu_ 10 18 #[true, true, false, false, false, true, false, false, false, false, true, false, false, false, false, false, false, false, false, false] ?_
 refine pu_ 11 19 #[true, true, false, false, false, true, false, false, false, false, true, true, false, false, false, false, false, false, false, false] ?_
 refine pu_ 2 10 #[true, true, true, false, false, true, false, false, false, false, true, true, false, false, false, false, false, false, false, false] ?_
 refine pu_ 6 14 #[true, true, true, false, false, true, true, false, false, false, true, true, false, false, false, false, false, false, false, false] ?_
 refine pu_ 12 20 #[true, true, true, false, false, true, true, false, false, false, true, true, true, false, false, false, false, false, false, false] ?_
 refine pu_ 3 11 #[true, true, true, true, false, true, true, false, false, false, true, true, true, false, false, false, false, false, false, false] ?_
 refine pu_ 7 15 #[true, true, true, true, false, true, true, true, false, false, true, true, true, false, false, false, false, false, false, false] ?_
 refine pu_ 13 21 #[true, true, true, true, false, true, true, true, false, false, true, true, true, true, false, false, false, false, false, false] ?_
 refine ta_ 4 12 #[true, true, true, true, true, true, true, true, false, false, true, true, true, true, false, false, false, false, false, false] hHeld (v := ?_) ?_ ?_
 rotate_left
 ·intro w' hS
  have s19 := blk_cell hS 19
  have s20 := blk_cell hS 20
  have s21 := blk_cell hS 21
  have s22 := blk_cell hS 22
  have s23 := blk_cell hS 23
  have s24 := blk_cell hS 24
  have s25 := blk_cell hS 25
  have s26 := blk_cell hS 26
  have s27 := blk_cell hS 27
  have s28 := blk_cell hS 28
  have s29 := blk_cell hS 29
  have s30 := blk_cell hS 30
  simp only [List.getElem?_toArray, List.getElem?_cons_zero, List.getElem?_cons_succ] at s19 s20 s21 s22 s23 s24 s25 s26 s27 s28 s29 s30
  clear hS
  go_simp
  with_reducible rfl
 refine pu_ 8 16 #[true, true, true, true, true, true, true, true, true, false, true, true, true, true, false, false, false, false, false, false] ?_
 refine ta_ 14 22 #[true, true, true, true, true, true, true, true, true, false, true, true, true, true, true, false, false, false, false, false] hHeld (v := ?_) ?_ ?_
 rotate_left
 ·intro w' hS
  have s31 := blk_cell hS 31
  simp only [List.getElem?_toArray, List.getElem?_cons_zero, List.getElem?_cons_succ] at s31
  clear hS
  go_simp
  with_reducible rfl
 refine ta_ 9 17 #[true, true, true, true, true, true, true, true, true, true, true, true, true, true, true, false, false, false, false, false] hHeld (v := ?_) ?_ ?_
 rotate_left
 ·intro w' hS
  have s11 := blk_cell hS 11
  have s12 := blk_cell hS 12
  have s13 := blk_cell hS 13
  simp only [List.getElem?_toArray, List.getElem?_cons_zero, List.getElem?_cons_succ] at s11 s12 s13
  clear hS
  go_simp
  with_reducible rfl
 refine one_ (i := 15) (N := some 23) #[true, true, true, true, true, true, true, true, true, true, true, true, true, true, true, true, false, false, false, false] rfl rfl (by kernel_rfl) (by decide) (fun K hK => ?_)
 refine goes_ Try.func48 (by kernel_rfl) rfl #[.agg #[.int .i64 q0, .int .i64 q1, .int .i64 q2, .int .i64 q3, .int .i64 q4, .int .i64 q5, .int .i64 q6, .int .i64 q7, .int .i64 q8, .int .i64 q9, .int .i64 q10, .int .i64 q11], .agg #[.int .i64 h0, .int .i64 h1, .bool h2], .int .i64 want, .int .i64 now] (by rfl) rfl rfl (by (try simp only [List.map_toArray, List.map_cons, List.map_nil]); first | done | rfl) ?_
 refine (limit_Next.calls _ _ _ _ _ _ _ _ _ _ _ _ _ _ _ _ _ _ _ _ _ HL.out).mono ?_
 rintro e_ wa1 ⟨rfl, hba2⟩
 refine ⟨_, rfl, ?_⟩
 have fa3 := blk_below FG hba2
 have fa4 := Kd.Q_below FS hba2
 have fa5 := Kd.Q_below FM hba2
 have ba6 := Kept.below FB hba2
 have oa7 := os_below FO hba2
 refine hK.out _ _ fa3 (fun hHeld => ?_)
 clear hK K
 refine no_ 23 ?_
 refine pu_ 16 24 #[true, true, true, true, true, true, true, true, true, true, true, true, true, true, true, true, true, false, false, false] ?_
 refine pu_ 17 25 #[true, true, true, true, true, true, true, true, true, true, true, true, true, true, true, true, true, true, false, false] ?_
 refine pu_ 18 26 #[true, true, true, true, true, true, true, true, true, true, true, true, true, true, true, true, true, true, true, false] ?_
 refine last_ (i := 19) (N := none) #[true, true, true, true, true, true, true, true, true, true, true, true, true, true, true, true, true, true, true, true] rfl rfl (by kernel_rfl) (by decide) (fun K hK => ?_)
 have za8 := blk_cell fa3 11
 have za11 := blk_frozen fa3 11
 have za9 := blk_cell fa3 12
 have za12 := blk_frozen fa3 12
 have za10 := blk_cell fa3 13
 have za13 := blk_frozen fa3 13
 simp only [List.getElem?_toArray, List.getElem?_cons_zero, List.getElem?_cons_succ] at za8 za9 za10
 refine skip_ (w1 := ?_) (by rfl) rfl ?_ ?_
 rotate_left
 ·go_simp
  rfl
 clear za8 za9 za10 za11 za12 za13
 have fa14 : (_ : World).heap[G]? = some (.cells #[.int .i64 p0, .int .i64 p1, .slice A2 l2.length c2, .int .i64 p3, .int .i64 p4, .int .i64 p5, .int .i64 p6, .slice A7 l7.length c7, .int .i64 s0, .int .i64 s1, .bool s2, .int .i64 k0, .int .i64 k1, .bool k2, .int .i64 R, .slice A15 l15.length c15, .int .i64 wt, .int .i64 ut, .slice A18 l18.length c18, .int .i64 q0, .int .i64 q1, .int .i64 q2, .int .i64 q3, .int .i64 q4, .int .i64 q5, .int .i64 q6, .int .i64 q7, .int .i64 q8, .int .i64 q9, .int .i64 q10, .int .i64 q11, .int .i64 now] 69 (0, 0)) := blk_put (blk_put (blk_put (fa3) 11 (.int .i64 k0) rfl) 12 (.int .i64 k1) rfl) 13 (.bool k2) rfl
 have fa15 := Kd.Q_mono (ok' := fun _ => True) (Kd.Q_far (p := ⟨G, 13, none⟩) (Kd.Q_far (p := ⟨G, 12, none⟩) (Kd.Q_far (p := ⟨G, 11, none⟩) (Kd.Q_types fa4 fa3 (by decide)) (fun k hk => hk.2) (.int .i64 k0)) (fun k hk => hk.2) (.int .i64 k1)) (fun k hk => hk.2) (.bool k2)) (fun _ _ => trivial)
 have fa16 := Kd.Q_mono (ok' := fun _ => True) (Kd.Q_far (p := ⟨G, 13, none⟩) (Kd.Q_far (p := ⟨G, 12, none⟩) (Kd.Q_far (p := ⟨G, 11, none⟩) (Kd.Q_types fa5 fa3 (by decide)) (fun k hk => hk.2) (.int .i64 k0)) (fun k hk => hk.2) (.int .i64 k1)) (fun k hk => hk.2) (.bool k2)) (fun _ _ => trivial)
 have ba17 := Kept.setCell (p := ⟨G, 13, none⟩) (Kept.setCell (p := ⟨G, 12, none⟩) (Kept.setCell (p := ⟨G, 11, none⟩) (ba6) (.inl rfl) (.int .i64 k0)) (.inl rfl) (.int .i64 k1)) (.inl rfl) (.bool k2)
 have oa18 := os_set (p := ⟨G, 13, none⟩) (u := .bool k2) (os_set (p := ⟨G, 12, none⟩) (u := .int .i64 k1) (os_set (p := ⟨G, 11, none⟩) (u := .int .i64 k0) (oa7)))
 generalize (((wa1.setCell _ _).setCell _ _).setCell _ _) = wa19 at fa14 fa15 fa16 ba17 oa18 ⊢
 refine hK.out _ _ ?_
 clear hK K
 refine done_ (by kernel_rfl) ?_
 have FG1 := Aside0.mk fa14
 have FS1 := Aside0.mk fa15
 have FM1 := Aside0.mk fa16
 have FB1 := Aside0.mk ba17
 have FO1 := Aside0.mk oa18
 clear fa14 fa15 fa16 ba17 oa18
 clear HL hHeld
 go_upto_region 1 with (fail)
 go_cut [6, 7] (fun x6 x7 wx => ∃ (g6 g7 : Nat) (B15 : Option Addr) (d15 : Nat), x6 = .pointer (some ⟨g6, 0, none⟩) ∧ x7 = .pointer (some ⟨g7, 0, none⟩) ∧ wx.heap[G]? = some (.cells #[.int .i64 p0, .int .i64 p1, .slice A2 l2.length c2, .int .i64 p3, .int .i64 p4, .int .i64 p5, .int .i64 p6, .slice A7 l7.length c7, .int .i64 s0, .int .i64 s1, .bool s2, .int .i64 k0, .int .i64 k1, .bool k2, .int .i64 R, .slice A15 l15.length c15, .int .i64 wt, .int .i64 ut, .slice A18 l18.length c18, .int .i64 q0, .int .i64 q1, .int .i64 q2, .int .i64 q3, .int .i64 q4, .int .i64 q5, .int .i64 q6, .int .i64 q7, .int .i64 q8, .int .i64 q9, .int .i64 q10, .int .i64 q11, .int .i64 now] 69 (0, 0)) ∧ wx.heap[g6]? = some (.cells #[.int .i64 R', .slice B15 l15'.length d15, .int .i64 wt', .int .i64 ut'] 34 (0, 0)) ∧ wx.heap[g7]? = some (.cells #[.int .i64 cost, .bool bad] 52 (0, 0)) ∧ (Kd.int .i64).Q 3 wx B (fun _ => True) (.slice B15 l15'.length d15) l15' ∧ k52.Q 52 wx B (fun _ => True) (.slice A18 l18.length c18) l18 ∧ G < g6 ∧ G < g7 ∧ Kept w wx (fun k => k = G) ∧ (wx.os = w.os ∧ wx.tape = w.tape ∧ wx.output = w.output))
 case first =>
  have FG := FG1.out
  refine start_ (n := 24) (S := fun w' => w'.heap[G]? = some (.cells #[.int .i64 p0, .int .i64 p1, .slice A2 l2.length c2, .int .i64 p3, .int .i64 p4, .int .i64 p5, .int .i64 p6, .slice A7 l7.length c7, .int .i64 s0, .int .i64 s1, .bool s2, .int .i64 k0, .int .i64 k1, .bool k2, .int .i64 R, .slice A15 l15.length c15, .int .i64 wt, .int .i64 ut, .slice A18 l18.length c18, .int .i64 q0, .int .i64 q1, .int .i64 q2, .int .i64 q3, .int .i64 q4, .int .i64 q5, .int .i64 q6, .int .i64 q7, .int .i64 q8, .int .i64 q9, .int .i64 q10, .int .i64 q11, .int .i64 now] 69 (0, 0))) (ds := []) #[false, false, false, false, false, false, false, false, false, false, false, false, false, false, false, false, false, false, false, false, false, false, false, false] (by kernel_rfl) rfl rfl FG (fun hHeld => ?_)
  have FG := blk_below FG (below_drew1 (Below.refl _ _))
  have FS := Kd.Q_below FS1.out (below_drew1 (Below.refl _ _))
  have FM := Kd.Q_below FM1.out (below_drew1 (Below.refl _ _))
  have FB := Kept.below FB1.out (below_drew1 (Below.refl _ _))
  have FO := os_below FO1.out (below_drew1 (Below.refl _ _))
  clear FG1 FS1 FM1 FB1 FO1
  generalize World.drew _ = w9 at FB FO FG FS FM hHeld ⊢
  refine pu_ 0 28 #[true, false, false, false, false, false, false, false, false, false, false, false, false, false, false, false, false, false, false, false, false, false, false, false] ?_
  refine pu_ 4 32 #[true, false, false, false, true, false, false, false, false, false, false, false, false, false, false, false, false, false, false, false, false, false, false, false] ?_
  refine pu_ 9 37 #[true, false, false, false, true, false, false, false, false, true, false, false, false, false, false, false, false, false, false, false, false, false, false, false] ?_
  refine pu_ 15 43 #[true, false, false, false, true, false, false, false, false, true, false, false, false, false, false, true, false, false, false, false, false, false, false, false] ?_
  refine pu_ 1 29 #[true, true, false, false, true, false, false, false, false, true, false, false, false, false, false, true, false, false, false, false, false, false, false, false] ?_
  refine pu_ 5 33 #[true, true, false, false, true, true, false, false, false, true, false, false, false, false, false, true, false, false, false, false, false, false, false, false] ?_
  refine pu_ 10 38 #[true, true, false, false, true, true, false, false, false, true, true, false, false, false, false, true, false, false, false, false, false, false, false, false] ?_
  refine pu_ 2 30 #[true, true, true, false, true, true, false, false, false, true, true, false, false, false, false, true, false, false, false, false, false, false, false, false] ?_
  refine pu_ 6 34 #[true, true, true, false, true, true, true, false, false, true, true, false, false, false, false, true, false, false, false, false, false, false, false, false] ?_
  refine pu_ 11 39 #[true, true, true, false, true, true, true, false, false, true, true, true, false, false, false, true, false, false, false, false, false, false, false, false] ?_
  refine ta_ 3 31 #[true, true, true, true, true, true, true, false, false, true, true, true, false, false, false, true, false, false, false, false, false, false, false, false] hHeld (v := ?_) ?_ ?_
  rotate_left
  ·intro w' hS
   have s19 := blk_cell hS 19
   have s20 := blk_cell hS 20
   have s21 := blk_cell hS 21
   have s22 := blk_cell hS 22
   have s23 := blk_cell hS 23
   have s24 := blk_cell hS 24
   have s25 := blk_cell hS 25
   have s26 := blk_cell hS 26
   have s27 := blk_cell hS 27
   have s28 := blk_cell hS 28
   have s29 := blk_cell hS 29
   have s30 := blk_cell hS 30
   simp only [List.getElem?_toArray, List.getElem?_cons_zero, List.getElem?_cons_succ] at s19 s20 s21 s22 s23 s24 s25 s26 s27 s28 s29 s30
   clear hS
   go_simp
   with_reducible rfl
  refine pu_ 7 35 #[true, true, true, true, true, true, true, true, false, true, true, true, false, false, false, true, false, false, false, false, false, false, false, false] ?_
  refine pu_ 12 40 #[true, true, true, true, true, true, true, true, false, true, true, true, true, false, false, true, false, false, false, false, false, false, false, false] ?_
  refine ta_ 8 36 #[true, true, true, true, true, true, true, true, true, true, true, true, true, false, false, true, false, false, false, false, false, false, false, false] hHeld (v := ?_) ?_ ?_
  rotate_left
  ·intro w' hS
   have s14 := blk_cell hS 14
   have s15 := blk_cell hS 15
   have s16 := blk_cell hS 16
   have s17 := blk_cell hS 17
   simp only [List.getElem?_toArray, List.getElem?_cons_zero, List.getElem?_cons_succ] at s14 s15 s16 s17
   clear hS
   go_simp
   with_reducible rfl
  refine pu_ 13 41 #[true, true, true, true, true, true, true, true, true, true, true, true, true, true, false, true, false, false, false, false, false, false, false, false] ?_
  refine ta_ 14 42 #[true, true, true, true, true, true, true, true, true, true, true, true, true, true, true, true, false, false, false, false, false, false, false, false] hHeld (v := ?_) ?_ ?_
  rotate_left
  ·intro w' hS
   have s11 := blk_cell hS 11
   simp only [List.getElem?_toArray, List.getElem?_cons_zero, List.getElem?_cons_succ] at s11
   clear hS
   go_simp
   with_reducible rfl
  refine three_ (i := 16) (j := 20) (k := 21) (Ni := some 44) (Nj := some 6) (Nk := some 7) #[true, true, true, true, true, true, true, true, true, true, true, true, true, true, true, true, true, false, false, false, false, false, false, false] #[true, true, true, true, true, true, true, true, true, true, true, true, true, true, true, true, false, false, false, false, true, false, false, false] #[true, true, true, true, true, true, true, true, true, true, true, true, true, true, true, true, false, false, false, false, false, true, false, false] rfl rfl rfl rfl rfl rfl (by kernel_rfl) (by decide) (by decide) (by decide) (fun K hK => ?_) (fun K hK => ?_) (fun K hK => ?_)
  ·skip
   refine goes_ Try.func49 (by kernel_rfl) rfl #[.agg #[.int .i64 q0, .int .i64 q1, .int .i64 q2, .int .i64 q3, .int .i64 q4, .int .i64 q5, .int .i64 q6, .int .i64 q7, .int .i64 q8, .int .i64 q9, .int .i64 q10, .int .i64 q11], .agg #[.int .i64 R, .slice A15 l15.length c15, .int .i64 wt, .int .i64 ut], .int .i64 k0, .int .i64 demand] (by rfl) rfl rfl (by (try simp only [List.map_toArray, List.map_cons, List.map_nil]); first | done | rfl) ?_
   refine (plant_Step.calls _ _ _ _ _ _ _ _ _ _ _ _ _ _ _ _ _ _ _ _ _ _ _ _ _ _ _ (Kd.Q_reads' FS).2.2 (Kd.Q_reads' FS).2.1 HP.out).mono ?_
   rintro e_ wb1 ⟨v15, rfl, rb2, hbb3⟩
   refine ⟨_, rfl, ?_⟩
   have fb4 := blk_below FG hbb3
   have fb5 := Kd.Q_below FS hbb3
   have fb6 := Kd.Q_below FM hbb3
   have bb7 := Kept.below FB hbb3
   have ob8 := os_below FO hbb3
   replace rb2 := Kd.Q_lower rb2 (Nat.le_trans hB0 FB.1)
   obtain ⟨B15, d15, rfl, _⟩ := Kd.Q_slice rb2
   refine hK.out _ _ fb4 (fun hHeld => ?_)
   clear hK K
   refine no_ 44 ?_
   refine pu_ 17 27 #[true, true, true, true, true, true, true, true, true, true, true, true, true, true, true, true, true, true, false, false, false, false, false, false] ?_
   refine pu_ 18 45 #[true, true, true, true, true, true, true, true, true, true, true, true, true, true, true, true, true, true, true, false, false, false, false, false] ?_
   refine pu_ 19 46 #[true, true, true, true, true, true, true, true, true, true, true, true, true, true, true, true, true, true, true, true, false, false, false, false] ?_
   refine two_ (i := 20) (j := 21) (Ni := some 6) (Nj := some 7) #[true, true, true, true, true, true, true, true, true, true, true, true, true, true, true, true, true, true, true, true, true, false, false, false] #[true, true, true, true, true, true, true, true, true, true, true, true, true, true, true, true, true, true, true, true, false, true, false, false] rfl rfl rfl rfl (by kernel_rfl) (by decide) (by decide) (fun K hK => ?_) (fun K hK => ?_)
   ·skip
    refine box_step ?hg (N := 6) ?hd (cs := #[.int .i64 0, .slice none 0 0, .int .i64 0, .int .i64 0]) (t := 34) ?hr ?_; (case hd => rfl); (case hg => rfl); (case hr => first | (go_simp; done) | (go_simp; rfl))
    intro g6 eb12 wb9 hb11 hbb10
    have lt_G_g6 : G < g6 := by rw [eb12]; exact blk_lt fb4
    have ge_g6 : w.heap.size ≤ g6 := by rw [eb12]; exact bb7.1
    clear eb12
    have fb13 := blk_below fb4 hbb10
    have fb14 := Kd.Q_below fb5 hbb10
    have fb15 := Kd.Q_below fb6 hbb10
    have fb16 := Kd.Q_below rb2 hbb10
    have bb17 := Kept.below bb7 hbb10
    have ob18 := os_below ob8 hbb10
    refine hK.out _ _ fb13 (fun hHeld => ?_)
    clear hK K
    refine no_ 6 ?_
    refine one_ (i := 21) (N := some 7) #[true, true, true, true, true, true, true, true, true, true, true, true, true, true, true, true, true, true, true, true, true, true, false, false] rfl rfl (by kernel_rfl) (by decide) (fun K hK => ?_)
    refine box_step ?hg (N := 7) ?hd (cs := #[.int .i64 0, .bool false]) (t := 52) ?hr ?_; (case hd => rfl); (case hg => rfl); (case hr => first | (go_simp; done) | (go_simp; rfl))
    intro g7 eb22 wb19 hb21 hbb20
    have lt_G_g7 : G < g7 := by rw [eb22]; exact blk_lt fb13
    have lt_g6_g7 : g6 < g7 := by rw [eb22]; exact blk_lt hb11
    have ge_g7 : w.heap.size ≤ g7 := by rw [eb22]; exact bb17.1
    replace fb15 := Kd.Q_mono (ok' := fun k => k ≠ g7) (Kd.Q_bound fb15) (fun k hk => by have h1 := hk.2.2.1; omega)
    clear eb22
    have fb23 := blk_below fb13 hbb20
    have fb24 := blk_below hb11 hbb20
    have fb25 := Kd.Q_below fb14 hbb20
    have fb26 := Kd.Q_below fb15 hbb20
    have fb27 := Kd.Q_below fb16 hbb20
    have bb28 := Kept.below bb17 hbb20
    have ob29 := os_below ob18 hbb20
    refine hK.out _ _ fb23 (fun hHeld => ?_)
    clear hK K
    refine no_ 7 ?_
    refine one_ (i := 22) (N := none) #[true, true, true, true, true, true, true, true, true, true, true, true, true, true, true, true, true, true, true, true, true, true, true, false] rfl rfl (by kernel_rfl) (by decide) (fun K hK => ?_)
    have zb30 := blk_cell fb24 0
    have zb34 := blk_frozen fb24 0
    have zb31 := blk_cell fb24 1
    have zb35 := blk_frozen fb24 1
    have zb32 := blk_cell fb24 2
    have zb36 := blk_frozen fb24 2
    have zb33 := blk_cell fb24 3
    have zb37 := blk_frozen fb24 3
    simp only [List.getElem?_toArray, List.getElem?_cons_zero, List.getElem?_cons_succ] at zb30 zb31 zb32 zb33
    refine skip_ (w1 := ?_) (by rfl) rfl ?_ ?_
    rotate_left
    ·go_simp
     rfl
    clear zb30 zb31 zb32 zb33 zb34 zb35 zb36 zb37
    have fb38 := blk_far (p := ⟨g6, 3, none⟩) (blk_far (p := ⟨g6, 2, none⟩) (blk_far (p := ⟨g6, 1, none⟩) (blk_far (p := ⟨g6, 0, none⟩) (fb23) (by show G ≠ g6; omega) (.int .i64 R')) (by show G ≠ g6; omega) (.slice B15 l15'.length d15)) (by show G ≠ g6; omega) (.int .i64 wt')) (by show G ≠ g6; omega) (.int .i64 ut')
    have fb39 : (_ : World).heap[g6]? = some (.cells #[.int .i64 R', .slice B15 l15'.length d15, .int .i64 wt', .int .i64 ut'] 34 (0, 0)) := blk_put (blk_put (blk_put (blk_put (fb24) 0 (.int .i64 R') rfl) 1 (.slice B15 l15'.length d15) rfl) 2 (.int .i64 wt') rfl) 3 (.int .i64 ut') rfl
    have fb40 := blk_far (p := ⟨g6, 3, none⟩) (blk_far (p := ⟨g6, 2, none⟩) (blk_far (p := ⟨g6, 1, none⟩) (blk_far (p := ⟨g6, 0, none⟩) (hb21) (by show g7 ≠ g6; omega) (.int .i64 R')) (by show g7 ≠ g6; omega) (.slice B15 l15'.length d15)) (by show g7 ≠ g6; omega) (.int .i64 wt')) (by show g7 ≠ g6; omega) (.int .i64 ut')
    have fb41 := Kd.Q_mono (ok' := fun _ => True) (Kd.Q_far (p := ⟨g6, 3, none⟩) (Kd.Q_far (p := ⟨g6, 2, none⟩) (Kd.Q_far (p := ⟨g6, 1, none⟩) (Kd.Q_far (p := ⟨g6, 0, none⟩) (Kd.Q_types fb25 fb24 (by decide)) (fun k hk => hk.2) (.int .i64 R')) (fun k hk => hk.2) (.slice B15 l15'.length d15)) (fun k hk => hk.2) (.int .i64 wt')) (fun k hk => hk.2) (.int .i64 ut')) (fun _ _ => trivial)
    have fb42 := Kd.Q_mono (ok' := fun k => k ≠ g7) (Kd.Q_far (p := ⟨g6, 3, none⟩) (Kd.Q_far (p := ⟨g6, 2, none⟩) (Kd.Q_far (p := ⟨g6, 1, none⟩) (Kd.Q_far (p := ⟨g6, 0, none⟩) (Kd.Q_types fb26 fb24 (by decide)) (fun k hk => hk.2) (.int .i64 R')) (fun k hk => hk.2) (.slice B15 l15'.length d15)) (fun k hk => hk.2) (.int .i64 wt')) (fun k hk => hk.2) (.int .i64 ut')) (fun k hk => hk.1)
    have fb43 := Kd.Q_mono (ok' := fun _ => True) (Kd.Q_far (p := ⟨g6, 3, none⟩) (Kd.Q_far (p := ⟨g6, 2, none⟩) (Kd.Q_far (p := ⟨g6, 1, none⟩) (Kd.Q_far (p := ⟨g6, 0, none⟩) (Kd.Q_types fb27 fb24 (by decide)) (fun k hk => hk.2) (.int .i64 R')) (fun k hk => hk.2) (.slice B15 l15'.length d15)) (fun k hk => hk.2) (.int .i64 wt')) (fun k hk => hk.2) (.int .i64 ut')) (fun _ _ => trivial)
    have bb44 := Kept.setCell (p := ⟨g6, 3, none⟩) (Kept.setCell (p := ⟨g6, 2, none⟩) (Kept.setCell (p := ⟨g6, 1, none⟩) (Kept.setCell (p := ⟨g6, 0, none⟩) (bb28) (.inr ge_g6) (.int .i64 R')) (.inr ge_g6) (.slice B15 l15'.length d15)) (.inr ge_g6) (.int .i64 wt')) (.inr ge_g6) (.int .i64 ut')
    have ob45 := os_set (p := ⟨g6, 3, none⟩) (u := .int .i64 ut') (os_set (p := ⟨g6, 2, none⟩) (u := .int .i64 wt') (os_set (p := ⟨g6, 1, none⟩) (u := .slice B15 l15'.length d15) (os_set (p := ⟨g6, 0, none⟩) (u := .int .i64 R') (ob29))))
    generalize ((((wb19.setCell _ _).setCell _ _).setCell _ _).setCell _ _) = wb46 at fb38 fb39 fb40 fb41 fb42 fb43 bb44 ob45 ⊢
    refine hK.out _ _ fb38 (fun hHeld => ?_)
    clear hK K
    refine one_ (i := 23) (N := none) #[true, true, true, true, true, true, true, true, true, true, true, true, true, true, true, true, true, true, true, true, true, true, true, true] rfl rfl (by kernel_rfl) (by decide) (fun K hK => ?_)
    have zb47 := blk_cell fb40 0
    have zb49 := blk_frozen fb40 0
    have zb48 := blk_cell fb40 1
    have zb50 := blk_frozen fb40 1
    simp only [List.getElem?_toArray, List.getElem?_cons_zero, List.getElem?_cons_succ] at zb47 zb48
    refine skip_ (w1 := ?_) (by rfl) rfl ?_ ?_
    rotate_left
    ·go_simp
     rfl
    clear zb47 zb48 zb49 zb50
    have fb51 := blk_far (p := ⟨g7, 1, none⟩) (blk_far (p := ⟨g7, 0, none⟩) (fb38) (by show G ≠ g7; omega) (.int .i64 cost)) (by show G ≠ g7; omega) (.bool bad)
    have fb52 := blk_far (p := ⟨g7, 1, none⟩) (blk_far (p := ⟨g7, 0, none⟩) (fb39) (by show g6 ≠ g7; omega) (.int .i64 cost)) (by show g6 ≠ g7; omega) (.bool bad)
    have fb53 : (_ : World).heap[g7]? = some (.cells #[.int .i64 cost, .bool bad] 52 (0, 0)) := blk_put (blk_put (fb40) 0 (.int .i64 cost) rfl) 1 (.bool bad) rfl
    have fb54 := Kd.Q_mono (ok' := fun _ => True) (Kd.Q_far (p := ⟨g7, 1, none⟩) (Kd.Q_far (p := ⟨g7, 0, none⟩) (Kd.Q_types fb41 fb40 (by decide)) (fun k hk => hk.2) (.int .i64 cost)) (fun k hk => hk.2) (.bool bad)) (fun _ _ => trivial)
    have fb55 := Kd.Q_mono (ok' := fun _ => True) (Kd.Q_far (p := ⟨g7, 1, none⟩) (Kd.Q_far (p := ⟨g7, 0, none⟩) (fb42) (fun k hk => hk) (.int .i64 cost)) (fun k hk => hk) (.bool bad)) (fun _ _ => trivial)
    have fb56 := Kd.Q_mono (ok' := fun _ => True) (Kd.Q_far (p := ⟨g7, 1, none⟩) (Kd.Q_far (p := ⟨g7, 0, none⟩) (Kd.Q_types fb43 fb40 (by decide)) (fun k hk => hk.2) (.int .i64 cost)) (fun k hk => hk.2) (.bool bad)) (fun _ _ => trivial)
    have bb57 := Kept.setCell (p := ⟨g7, 1, none⟩) (Kept.setCell (p := ⟨g7, 0, none⟩) (bb44) (.inr ge_g7) (.int .i64 cost)) (.inr ge_g7) (.bool bad)
    have ob58 := os_set (p := ⟨g7, 1, none⟩) (u := .bool bad) (os_set (p := ⟨g7, 0, none⟩) (u := .int .i64 cost) (ob45))
    generalize ((wb46.setCell _ _).setCell _ _) = wb59 at fb51 fb52 fb53 fb54 fb55 fb56 bb57 ob58 ⊢
    refine hK.out _ _ fb51 (fun hHeld => ?_)
    clear hK K
    refine done_ (by kernel_rfl) ?_
    (try go_wp2)
    go_meet
    exact ⟨g6, g7, _, _, rfl, rfl, fb51, fb52, fb53, fb56, fb55, by omega, by omega, bb57, ob58⟩
   ·skip
    refine box_step ?hg (N := 7) ?hd (cs := #[.int .i64 0, .bool false]) (t := 52) ?hr ?_; (case hd => rfl); (case hg => rfl); (case hr => first | (go_simp; done) | (go_simp; rfl))
    intro g7 eb63 wb60 hb62 hbb61
    have lt_G_g7 : G < g7 := by rw [eb63]; exact blk_lt fb4
    have ge_g7 : w.heap.size ≤ g7 := by rw [eb63]; exact bb7.1
    replace fb6 := Kd.Q_mono (ok' := fun k => k ≠ g7) (Kd.Q_bound fb6) (fun k hk => by have h1 := hk.2.2.1; omega)
    clear eb63
    have fb64 := blk_below fb4 hbb61
    have fb65 := Kd.Q_below fb5 hbb61
    have fb66 := Kd.Q_below fb6 hbb61
    have fb67 := Kd.Q_below rb2 hbb61
    have bb68 := Kept.below bb7 hbb61
    have ob69 := os_below ob8 hbb61
    refine hK.out _ _ fb64 (fun hHeld => ?_)
    clear hK K
    refine no_ 7 ?_
    refine one_ (i := 20) (N := some 6) #[true, true, true, true, true, true, true, true, true, true, true, true, true, true, true, true, true, true, true, true, true, true, false, false] rfl rfl (by kernel_rfl) (by decide) (fun K hK => ?_)
    refine box_step ?hg (N := 6) ?hd (cs := #[.int .i64 0, .slice none 0 0, .int .i64 0, .int .i64 0]) (t := 34) ?hr ?_; (case hd => rfl); (case hg => rfl); (case hr => first | (go_simp; done) | (go_simp; rfl))
    intro g6 eb73 wb70 hb72 hbb71
    have lt_G_g6 : G < g6 := by rw [eb73]; exact blk_lt fb64
    have lt_g7_g6 : g7 < g6 := by rw [eb73]; exact blk_lt hb62
    have ge_g6 : w.heap.size ≤ g6 := by rw [eb73]; exact bb68.1
    clear eb73
    have fb74 := blk_below fb64 hbb71
    have fb75 := blk_below hb62 hbb71
    have fb76 := Kd.Q_below fb65 hbb71
    have fb77 := Kd.Q_below fb66 hbb71
    have fb78 := Kd.Q_below fb67 hbb71
    have bb79 := Kept.below bb68 hbb71
    have ob80 := os_below ob69 hbb71
    refine hK.out _ _ fb74 (fun hHeld => ?_)
    clear hK K
    refine no_ 6 ?_
    refine one_ (i := 22) (N := none) #[true, true, true, true, true, true, true, true, true, true, true, true, true, true, true, true, true, true, true, true, true, true, true, false] rfl rfl (by kernel_rfl) (by decide) (fun K hK => ?_)
    have zb81 := blk_cell hb72 0
    have zb85 := blk_frozen hb72 0
    have zb82 := blk_cell hb72 1
    have zb86 := blk_frozen hb72 1
    have zb83 := blk_cell hb72 2
    have zb87 := blk_frozen hb72 2
    have zb84 := blk_cell hb72 3
    have zb88 := blk_frozen hb72 3
    simp only [List.getElem?_toArray, List.getElem?_cons_zero, List.getElem?_cons_succ] at zb81 zb82 zb83 zb84
    refine skip_ (w1 := ?_) (by rfl) rfl ?_ ?_
    rotate_left
    ·go_simp
     rfl
    clear zb81 zb82 zb83 zb84 zb85 zb86 zb87 zb88
    have fb89 := blk_far (p := ⟨g6, 3, none⟩) (blk_far (p := ⟨g6, 2, none⟩) (blk_far (p := ⟨g6, 1, none⟩) (blk_far (p := ⟨g6, 0, none⟩) (fb74) (by show G ≠ g6; omega) (.int .i64 R')) (by show G ≠ g6; omega) (.slice B15 l15'.length d15)) (by show G ≠ g6; omega) (.int .i64 wt')) (by show G ≠ g6; omega) (.int .i64 ut')
    have fb90 := blk_far (p := ⟨g6, 3, none⟩) (blk_far (p := ⟨g6, 2, none⟩) (blk_far (p := ⟨g6, 1, none⟩) (blk_far (p := ⟨g6, 0, none⟩) (fb75) (by show g7 ≠ g6; omega) (.int .i64 R')) (by show g7 ≠ g6; omega) (.slice B15 l15'.length d15)) (by show g7 ≠ g6; omega) (.int .i64 wt')) (by show g7 ≠ g6; omega) (.int .i64 ut')
    have fb91 : (_ : World).heap[g6]? = some (.cells #[.int .i64 R', .slice B15 l15'.length d15, .int .i64 wt', .int .i64 ut'] 34 (0, 0)) := blk_put (blk_put (blk_put (blk_put (hb72) 0 (.int .i64 R') rfl) 1 (.slice B15 l15'.length d15) rfl) 2 (.int .i64 wt') rfl) 3 (.int .i64 ut') rfl
    have fb92 := Kd.Q_mono (ok' := fun _ => True) (Kd.Q_far (p := ⟨g6, 3, none⟩) (Kd.Q_far (p := ⟨g6, 2, none⟩) (Kd.Q_far (p := ⟨g6, 1, none⟩) (Kd.Q_far (p := ⟨g6, 0, none⟩) (Kd.Q_types fb76 hb72 (by decide)) (fun k hk => hk.2) (.int .i64 R')) (fun k hk => hk.2) (.slice B15 l15'.length d15)) (fun k hk => hk.2) (.int .i64 wt')) (fun k hk => hk.2) (.int .i64 ut')) (fun _ _ => trivial)
    have fb93 := Kd.Q_mono (ok' := fun k => k ≠ g7) (Kd.Q_far (p := ⟨g6, 3, none⟩) (Kd.Q_far (p := ⟨g6, 2, none⟩) (Kd.Q_far (p := ⟨g6, 1, none⟩) (Kd.Q_far (p := ⟨g6, 0, none⟩) (Kd.Q_types fb77 hb72 (by decide)) (fun k hk => hk.2) (.int .i64 R')) (fun k hk => hk.2) (.slice B15 l15'.length d15)) (fun k hk => hk.2) (.int .i64 wt')) (fun k hk => hk.2) (.int .i64 ut')) (fun k hk => hk.1)
    have fb94 := Kd.Q_mono (ok' := fun _ => True) (Kd.Q_far (p := ⟨g6, 3, none⟩) (Kd.Q_far (p := ⟨g6, 2, none⟩) (Kd.Q_far (p := ⟨g6, 1, none⟩) (Kd.Q_far (p := ⟨g6, 0, none⟩) (Kd.Q_types fb78 hb72 (by decide)) (fun k hk => hk.2) (.int .i64 R')) (fun k hk => hk.2) (.slice B15 l15'.length d15)) (fun k hk => hk.2) (.int .i64 wt')) (fun k hk => hk.2) (.int .i64 ut')) (fun _ _ => trivial)
    have bb95 := Kept.setCell (p := ⟨g6, 3, none⟩) (Kept.setCell (p := ⟨g6, 2, none⟩) (Kept.setCell (p := ⟨g6, 1, none⟩) (Kept.setCell (p := ⟨g6, 0, none⟩) (bb79) (.inr ge_g6) (.int .i64 R')) (.inr ge_g6) (.slice B15 l15'.length d15)) (.inr ge_g6) (.int .i64 wt')) (.inr ge_g6) (.int .i64 ut')
    have ob96 := os_set (p := ⟨g6, 3, none⟩) (u := .int .i64 ut') (os_set (p := ⟨g6, 2, none⟩) (u := .int .i64 wt') (os_set (p := ⟨g6, 1, none⟩) (u := .slice B15 l15'.length d15) (os_set (p := ⟨g6, 0, none⟩) (u := .int .i64 R') (ob80))))
    generalize ((((wb70.setCell _ _).setCell _ _).setCell _ _).setCell _ _) = wb97 at fb89 fb90 fb91 fb92 fb93 fb94 bb95 ob96 ⊢
    refine hK.out _ _ fb89 (fun hHeld => ?_)
    clear hK K
    refine one_ (i := 23) (N := none) #[true, true, true, true, true, true, true, true, true, true, true, true, true, true, true, true, true, true, true, true, true, true, true, true] rfl rfl (by kernel_rfl) (by decide) (fun K hK => ?_)
    have zb98 := blk_cell fb90 0
    have zb100 := blk_frozen fb90 0
    have zb99 := blk_cell fb90 1
    have zb101 := blk_frozen fb90 1
    simp only [List.getElem?_toArray, List.getElem?_cons_zero, List.getElem?_cons_succ] at zb98 zb99
    refine skip_ (w1 := ?_) (by rfl) rfl ?_ ?_
    rotate_left
    ·go_simp
     rfl
    clear zb98 zb99 zb100 zb101
    have fb102 := blk_far (p := ⟨g7, 1, none⟩) (blk_far (p := ⟨g7, 0, none⟩) (fb89) (by show G ≠ g7; omega) (.int .i64 cost)) (by show G ≠ g7; omega) (.bool bad)
    have fb103 : (_ : World).heap[g7]? = some (.cells #[.int .i64 cost, .bool bad] 52 (0, 0)) := blk_put (blk_put (fb90) 0 (.int .i64 cost) rfl) 1 (.bool bad) rfl
    have fb104 := blk_far (p := ⟨g7, 1, none⟩) (blk_far (p := ⟨g7, 0, none⟩) (fb91) (by show g6 ≠ g7; omega) (.int .i64 cost)) (by show g6 ≠ g7; omega) (.bool bad)
    have fb105 := Kd.Q_mono (ok' := fun _ => True) (Kd.Q_far (p := ⟨g7, 1, none⟩) (Kd.Q_far (p := ⟨g7, 0, none⟩) (Kd.Q_types fb92 fb90 (by decide)) (fun k hk => hk.2) (.int .i64 cost)) (fun k hk => hk.2) (.bool bad)) (fun _ _ => trivial)
    have fb106 := Kd.Q_mono (ok' := fun _ => True) (Kd.Q_far (p := ⟨g7, 1, none⟩) (Kd.Q_far (p := ⟨g7, 0, none⟩) (fb93) (fun k hk => hk) (.int .i64 cost)) (fun k hk => hk) (.bool bad)) (fun _ _ => trivial)
    have fb107 := Kd.Q_mono (ok' := fun _ => True) (Kd.Q_far (p := ⟨g7, 1, none⟩) (Kd.Q_far (p := ⟨g7, 0, none⟩) (Kd.Q_types fb94 fb90 (by decide)) (fun k hk => hk.2) (.int .i64 cost)) (fun k hk => hk.2) (.bool bad)) (fun _ _ => trivial)
    have bb108 := Kept.setCell (p := ⟨g7, 1, none⟩) (Kept.setCell (p := ⟨g7, 0, none⟩) (bb95) (.inr ge_g7) (.int .i64 cost)) (.inr ge_g7) (.bool bad)
    have ob109 := os_set (p := ⟨g7, 1, none⟩) (u := .bool bad) (os_set (p := ⟨g7, 0, none⟩) (u := .int .i64 cost) (ob96))
    generalize ((wb97.setCell _ _).setCell _ _) = wb110 at fb102 fb103 fb104 fb105 fb106 fb107 bb108 ob109 ⊢
    refine hK.out _ _ fb102 (fun hHeld => ?_)
    clear hK K
    refine done_ (by kernel_rfl) ?_
    (try go_wp2)
    go_meet
    exact ⟨g6, g7, _, _, rfl, rfl, fb102, fb104, fb103, fb107, fb106, by omega, by omega, bb108, ob109⟩
  ·skip
   refine box_step ?hg (N := 6) ?hd (cs := #[.int .i64 0, .slice none 0 0, .int .i64 0, .int .i64 0]) (t := 34) ?hr ?_; (case hd => rfl); (case hg => rfl); (case hr => first | (go_simp; done) | (go_simp; rfl))
   intro g6 eb114 wb111 hb113 hbb112
   have lt_G_g6 : G < g6 := by rw [eb114]; exact blk_lt FG
   have ge_g6 : w.heap.size ≤ g6 := by rw [eb114]; exact FB.1
   clear eb114
   have fb115 := blk_below FG hbb112
   have fb116 := Kd.Q_below FS hbb112
   have fb117 := Kd.Q_below FM hbb112
   have bb118 := Kept.below FB hbb112
   have ob119 := os_below FO hbb112
   refine hK.out _ _ fb115 (fun hHeld => ?_)
   clear hK K
   refine no_ 6 ?_
   refine two_ (i := 16) (j := 21) (Ni := some 44) (Nj := some 7) #[true, true, true, true, true, true, true, true, true, true, true, true, true, true, true, true, true, false, false, false, true, false, false, false] #[true, true, true, true, true, true, true, true, true, true, true, true, true, true, true, true, false, false, false, false, true, true, false, false] rfl rfl rfl rfl (by kernel_rfl) (by decide) (by decide) (fun K hK => ?_) (fun K hK => ?_)
   ·skip
    refine goes_ Try.func49 (by kernel_rfl) rfl #[.agg #[.int .i64 q0, .int .i64 q1, .int .i64 q2, .int .i64 q3, .int .i64 q4, .int .i64 q5, .int .i64 q6, .int .i64 q7, .int .i64 q8, .int .i64 q9, .int .i64 q10, .int .i64 q11], .agg #[.int .i64 R, .slice A15 l15.length c15, .int .i64 wt, .int .i64 ut], .int .i64 k0, .int .i64 demand] (by rfl) rfl rfl (by (try simp only [List.map_toArray, List.map_cons, List.map_nil]); first | done | rfl) ?_
    refine (plant_Step.calls _ _ _ _ _ _ _ _ _ _ _ _ _ _ _ _ _ _ _ _ _ _ _ _ _ _ _ (Kd.Q_reads' fb116).2.2 (Kd.Q_reads' fb116).2.1 HP.out).mono ?_
    rintro e_ wb120 ⟨v15, rfl, rb121, hbb122⟩
    refine ⟨_, rfl, ?_⟩
    have fb123 := blk_below fb115 hbb122
    have fb124 := blk_below hb113 hbb122
    have fb125 := Kd.Q_below fb116 hbb122
    have fb126 := Kd.Q_below fb117 hbb122
    have bb127 := Kept.below bb118 hbb122
    have ob128 := os_below ob119 hbb122
    replace rb121 := Kd.Q_lower rb121 (Nat.le_trans hB0 bb118.1)
    obtain ⟨B15, d15, rfl, _⟩ := Kd.Q_slice rb121
    refine hK.out _ _ fb123 (fun hHeld => ?_)
    clear hK K
    refine no_ 44 ?_
    refine pu_ 17 27 #[true, true, true, true, true, true, true, true, true, true, true, true, true, true, true, true, true, true, false, false, true, false, false, false] ?_
    refine pu_ 18 45 #[true, true, true, true, true, true, true, true, true, true, true, true, true, true, true, true, true, true, true, false, true, false, false, false] ?_
    refine pu_ 19 46 #[true, true, true, true, true, true, true, true, true, true, true, true, true, true, true, true, true, true, true, true, true, false, false, false] ?_
    refine one_ (i := 21) (N := some 7) #[true, true, true, true, true, true, true, true, true, true, true, true, true, true, true, true, true, true, true, true, true, true, false, false] rfl rfl (by kernel_rfl) (by decide) (fun K hK => ?_)
    refine box_step ?hg (N := 7) ?hd (cs := #[.int .i64 0, .bool false]) (t := 52) ?hr ?_; (case hd => rfl); (case hg => rfl); (case hr => first | (go_simp; done) | (go_simp; rfl))
    intro g7 eb132 wb129 hb131 hbb130
    have lt_G_g7 : G < g7 := by rw [eb132]; exact blk_lt fb123
    have lt_g6_g7 : g6 < g7 := by rw [eb132]; exact blk_lt fb124
    have ge_g7 : w.heap.size ≤ g7 := by rw [eb132]; exact bb127.1
    replace fb126 := Kd.Q_mono (ok' := fun k => k ≠ g7) (Kd.Q_bound fb126) (fun k hk => by have h1 := hk.2.2.1; omega)
    clear eb132
    have fb133 := blk_below fb123 hbb130
    have fb134 := blk_below fb124 hbb130
    have fb135 := Kd.Q_below fb125 hbb130
    have fb136 := Kd.Q_below fb126 hbb130
    have fb137 := Kd.Q_below rb121 hbb130
    have bb138 := Kept.below bb127 hbb130
    have ob139 := os_below ob128 hbb130
    refine hK.out _ _ fb133 (fun hHeld => ?_)
    clear hK K
    refine no_ 7 ?_
    refine one_ (i := 22) (N := none) #[true, true, true, true, true, true, true, true, true, true, true, true, true, true, true, true, true, true, true, true, true, true, true, false] rfl rfl (by kernel_rfl) (by decide) (fun K hK => ?_)
    have zb140 := blk_cell fb134 0
    have zb144 := blk_frozen fb134 0
    have zb141 := blk_cell fb134 1
    have zb145 := blk_frozen fb134 1
    have zb142 := blk_cell fb134 2
    have zb146 := blk_frozen fb134 2
    have zb143 := blk_cell fb134 3
    have zb147 := blk_frozen fb134 3
    simp only [List.getElem?_toArray, List.getElem?_cons_zero, List.getElem?_cons_succ] at zb140 zb141 zb142 zb143
    refine skip_ (w1 := ?_) (by rfl) rfl ?_ ?_
    rotate_left
    ·go_simp
     rfl
    clear zb140 zb141 zb142 zb143 zb144 zb145 zb146 zb147
    have fb148 := blk_far (p := ⟨g6, 3, none⟩) (blk_far (p := ⟨g6, 2, none⟩) (blk_far (p := ⟨g6, 1, none⟩) (blk_far (p := ⟨g6, 0, none⟩) (fb133) (by show G ≠ g6; omega) (.int .i64 R')) (by show G ≠ g6; omega) (.slice B15 l15'.length d15)) (by show G ≠ g6; omega) (.int .i64 wt')) (by show G ≠ g6; omega) (.int .i64 ut')
    have fb149 : (_ : World).heap[g6]? = some (.cells #[.int .i64 R', .slice B15 l15'.length d15, .int .i64 wt', .int .i64 ut'] 34 (0, 0)) := blk_put (blk_put (blk_put (blk_put (fb134) 0 (.int .i64 R') rfl) 1 (.slice B15 l15'.length d15) rfl) 2 (.int .i64 wt') rfl) 3 (.int .i64 ut') rfl
    have fb150 := blk_far (p := ⟨g6, 3, none⟩) (blk_far (p := ⟨g6, 2, none⟩) (blk_far (p := ⟨g6, 1, none⟩) (blk_far (p := ⟨g6, 0, none⟩) (hb131) (by show g7 ≠ g6; omega) (.int .i64 R')) (by show g7 ≠ g6; omega) (.slice B15 l15'.length d15)) (by show g7 ≠ g6; omega) (.int .i64 wt')) (by show g7 ≠ g6; omega) (.int .i64 ut')
    have fb151 := Kd.Q_mono (ok' := fun _ => True) (Kd.Q_far (p := ⟨g6, 3, none⟩) (Kd.Q_far (p := ⟨g6, 2, none⟩) (Kd.Q_far (p := ⟨g6, 1, none⟩) (Kd.Q_far (p := ⟨g6, 0, none⟩) (Kd.Q_types fb135 fb134 (by decide)) (fun k hk => hk.2) (.int .i64 R')) (fun k hk => hk.2) (.slice B15 l15'.length d15)) (fun k hk => hk.2) (.int .i64 wt')) (fun k hk => hk.2) (.int .i64 ut')) (fun _ _ => trivial)
    have fb152 := Kd.Q_mono (ok' := fun k => k ≠ g7) (Kd.Q_far (p := ⟨g6, 3, none⟩) (Kd.Q_far (p := ⟨g6, 2, none⟩) (Kd.Q_far (p := ⟨g6, 1, none⟩) (Kd.Q_far (p := ⟨g6, 0, none⟩) (Kd.Q_types fb136 fb134 (by decide)) (fun k hk => hk.2) (.int .i64 R')) (fun k hk => hk.2) (.slice B15 l15'.length d15)) (fun k hk => hk.2) (.int .i64 wt')) (fun k hk => hk.2) (.int .i64 ut')) (fun k hk => hk.1)
    have fb153 := Kd.Q_mono (ok' := fun _ => True) (Kd.Q_far (p := ⟨g6, 3, none⟩) (Kd.Q_far (p := ⟨g6, 2, none⟩) (Kd.Q_far (p := ⟨g6, 1, none⟩) (Kd.Q_far (p := ⟨g6, 0, none⟩) (Kd.Q_types fb137 fb134 (by decide)) (fun k hk => hk.2) (.int .i64 R')) (fun k hk => hk.2) (.slice B15 l15'.length d15)) (fun k hk => hk.2) (.int .i64 wt')) (fun k hk => hk.2) (.int .i64 ut')) (fun _ _ => trivial)
    have bb154 := Kept.setCell (p := ⟨g6, 3, none⟩) (Kept.setCell (p := ⟨g6, 2, none⟩) (Kept.setCell (p := ⟨g6, 1, none⟩) (Kept.setCell (p := ⟨g6, 0, none⟩) (bb138) (.inr ge_g6) (.int .i64 R')) (.inr ge_g6) (.slice B15 l15'.length d15)) (.inr ge_g6) (.int .i64 wt')) (.inr ge_g6) (.int .i64 ut')
    have ob155 := os_set (p := ⟨g6, 3, none⟩) (u := .int .i64 ut') (os_set (p := ⟨g6, 2, none⟩) (u := .int .i64 wt') (os_set (p := ⟨g6, 1, none⟩) (u := .slice B15 l15'.length d15) (os_set (p := ⟨g6, 0, none⟩) (u := .int .i64 R') (ob139))))
    generalize ((((wb129.setCell _ _).setCell _ _).setCell _ _).setCell _ _) = wb156 at fb148 fb149 fb150 fb151 fb152 fb153 bb154 ob155 ⊢
    refine hK.out _ _ fb148 (fun hHeld => ?_)
    clear hK K
    refine one_ (i := 23) (N := none) #[true, true, true, true, true, true, true, true, true, true, true, true, true, true, true, true, true, true, true, true, true, true, true, true] rfl rfl (by kernel_rfl) (by decide) (fun K hK => ?_)
    have zb157 := blk_cell fb150 0
    have zb159 := blk_frozen fb150 0
    have zb158 := blk_cell fb150 1
    have zb160 := blk_frozen fb150 1
    simp only [List.getElem?_toArray, List.getElem?_cons_zero, List.getElem?_cons_succ] at zb157 zb158
    refine skip_ (w1 := ?_) (by rfl) rfl ?_ ?_
    rotate_left
    ·go_simp
     rfl
    clear zb157 zb158 zb159 zb160
    have fb161 := blk_far (p := ⟨g7, 1, none⟩) (blk_far (p := ⟨g7, 0, none⟩) (fb148) (by show G ≠ g7; omega) (.int .i64 cost)) (by show G ≠ g7; omega) (.bool bad)
    have fb162 := blk_far (p := ⟨g7, 1, none⟩) (blk_far (p := ⟨g7, 0, none⟩) (fb149) (by show g6 ≠ g7; omega) (.int .i64 cost)) (by show g6 ≠ g7; omega) (.bool bad)
    have fb163 : (_ : World).heap[g7]? = some (.cells #[.int .i64 cost, .bool bad] 52 (0, 0)) := blk_put (blk_put (fb150) 0 (.int .i64 cost) rfl) 1 (.bool bad) rfl
    have fb164 := Kd.Q_mono (ok' := fun _ => True) (Kd.Q_far (p := ⟨g7, 1, none⟩) (Kd.Q_far (p := ⟨g7, 0, none⟩) (Kd.Q_types fb151 fb150 (by decide)) (fun k hk => hk.2) (.int .i64 cost)) (fun k hk => hk.2) (.bool bad)) (fun _ _ => trivial)
    have fb165 := Kd.Q_mono (ok' := fun _ => True) (Kd.Q_far (p := ⟨g7, 1, none⟩) (Kd.Q_far (p := ⟨g7, 0, none⟩) (fb152) (fun k hk => hk) (.int .i64 cost)) (fun k hk => hk) (.bool bad)) (fun _ _ => trivial)
    have fb166 := Kd.Q_mono (ok' := fun _ => True) (Kd.Q_far (p := ⟨g7, 1, none⟩) (Kd.Q_far (p := ⟨g7, 0, none⟩) (Kd.Q_types fb153 fb150 (by decide)) (fun k hk => hk.2) (.int .i64 cost)) (fun k hk => hk.2) (.bool bad)) (fun _ _ => trivial)
    have bb167 := Kept.setCell (p := ⟨g7, 1, none⟩) (Kept.setCell (p := ⟨g7, 0, none⟩) (bb154) (.inr ge_g7) (.int .i64 cost)) (.inr ge_g7) (.bool bad)
    have ob168 := os_set (p := ⟨g7, 1, none⟩) (u := .bool bad) (os_set (p := ⟨g7, 0, none⟩) (u := .int .i64 cost) (ob155))
    generalize ((wb156.setCell _ _).setCell _ _) = wb169 at fb161 fb162 fb163 fb164 fb165 fb166 bb167 ob168 ⊢
    refine hK.out _ _ fb161 (fun hHeld => ?_)
    clear hK K
    refine done_ (by kernel_rfl) ?_
    (try go_wp2)
    go_meet
    exact ⟨g6, g7, _, _, rfl, rfl, fb161, fb162, fb163, fb166, fb165, by omega, by omega, bb167, ob168⟩
   ·skip
    refine box_step ?hg (N := 7) ?hd (cs := #[.int .i64 0, .bool false]) (t := 52) ?hr ?_; (case hd => rfl); (case hg => rfl); (case hr => first | (go_simp; done) | (go_simp; rfl))
    intro g7 eb173 wb170 hb172 hbb171
    have lt_G_g7 : G < g7 := by rw [eb173]; exact blk_lt fb115
    have lt_g6_g7 : g6 < g7 := by rw [eb173]; exact blk_lt hb113
    have ge_g7 : w.heap.size ≤ g7 := by rw [eb173]; exact bb118.1
    replace fb117 := Kd.Q_mono (ok' := fun k => k ≠ g7) (Kd.Q_bound fb117) (fun k hk => by have h1 := hk.2.2.1; omega)
    clear eb173
    have fb174 := blk_below fb115 hbb171
    have fb175 := blk_below hb113 hbb171
    have fb176 := Kd.Q_below fb116 hbb171
    have fb177 := Kd.Q_below fb117 hbb171
    have bb178 := Kept.below bb118 hbb171
    have ob179 := os_below ob119 hbb171
    refine hK.out _ _ fb174 (fun hHeld => ?_)
    clear hK K
    refine no_ 7 ?_
    refine one_ (i := 16) (N := some 44) #[true, true, true, true, true, true, true, true, true, true, true, true, true, true, true, true, true, false, false, false, true, true, false, false] rfl rfl (by kernel_rfl) (by decide) (fun K hK => ?_)
    refine goes_ Try.func49 (by kernel_rfl) rfl #[.agg #[.int .i64 q0, .int .i64 q1, .int .i64 q2, .int .i64 q3, .int .i64 q4, .int .i64 q5, .int .i64 q6, .int .i64 q7, .int .i64 q8, .int .i64 q9, .int .i64 q10, .int .i64 q11], .agg #[.int .i64 R, .slice A15 l15.length c15, .int .i64 wt, .int .i64 ut], .int .i64 k0, .int .i64 demand] (by rfl) rfl rfl (by (try simp only [List.map_toArray, List.map_cons, List.map_nil]); first | done | rfl) ?_
    refine (plant_Step.calls _ _ _ _ _ _ _ _ _ _ _ _ _ _ _ _ _ _ _ _ _ _ _ _ _ _ _ (Kd.Q_reads' fb176).2.2 (Kd.Q_reads' fb176).2.1 HP.out).mono ?_
    rintro e_ wb180 ⟨v15, rfl, rb181, hbb182⟩
    refine ⟨_, rfl, ?_⟩
    have fb183 := blk_below fb174 hbb182
    have fb184 := blk_below fb175 hbb182
    have fb185 := blk_below hb172 hbb182
    have fb186 := Kd.Q_below fb176 hbb182
    have fb187 := Kd.Q_below fb177 hbb182
    have bb188 := Kept.below bb178 hbb182
    have ob189 := os_below ob179 hbb182
    replace rb181 := Kd.Q_lower rb181 (Nat.le_trans hB0 bb178.1)
    obtain ⟨B15, d15, rfl, _⟩ := Kd.Q_slice rb181
    refine hK.out _ _ fb183 (fun hHeld => ?_)
    clear hK K
    refine no_ 44 ?_
    refine pu_ 17 27 #[true, true, true, true, true, true, true, true, true, true, true, true, true, true, true, true, true, true, false, false, true, true, false, false] ?_
    refine pu_ 18 45 #[true, true, true, true, true, true, true, true, true, true, true, true, true, true, true, true, true, true, true, false, true, true, false, false] ?_
    refine pu_ 19 46 #[true, true, true, true, true, true, true, true, true, true, true, true, true, true, true, true, true, true, true, true, true, true, false, false] ?_
    refine one_ (i := 22) (N := none) #[true, true, true, true, true, true, true, true, true, true, true, true, true, true, true, true, true, true, true, true, true, true, true, false] rfl rfl (by kernel_rfl) (by decide) (fun K hK => ?_)
    have zb190 := blk_cell fb184 0
    have zb194 := blk_frozen fb184 0
    have zb191 := blk_cell fb184 1
    have zb195 := blk_frozen fb184 1
    have zb192 := blk_cell fb184 2
    have zb196 := blk_frozen fb184 2
    have zb193 := blk_cell fb184 3
    have zb197 := blk_frozen fb184 3
    simp only [List.getElem?_toArray, List.getElem?_cons_zero, List.getElem?_cons_succ] at zb190 zb191 zb192 zb193
    refine skip_ (w1 := ?_) (by rfl) rfl ?_ ?_
    rotate_left
    ·go_simp
     rfl
    clear zb190 zb191 zb192 zb193 zb194 zb195 zb196 zb197
    have fb198 := blk_far (p := ⟨g6, 3, none⟩) (blk_far (p := ⟨g6, 2, none⟩) (blk_far (p := ⟨g6, 1, none⟩) (blk_far (p := ⟨g6, 0, none⟩) (fb183) (by show G ≠ g6; omega) (.int .i64 R')) (by show G ≠ g6; omega) (.slice B15 l15'.length d15)) (by show G ≠ g6; omega) (.int .i64 wt')) (by show G ≠ g6; omega) (.int .i64 ut')
    have fb199 : (_ : World).heap[g6]? = some (.cells #[.int .i64 R', .slice B15 l15'.length d15, .int .i64 wt', .int .i64 ut'] 34 (0, 0)) := blk_put (blk_put (blk_put (blk_put (fb184) 0 (.int .i64 R') rfl) 1 (.slice B15 l15'.length d15) rfl) 2 (.int .i64 wt') rfl) 3 (.int .i64 ut') rfl
    have fb200 := blk_far (p := ⟨g6, 3, none⟩) (blk_far (p := ⟨g6, 2, none⟩) (blk_far (p := ⟨g6, 1, none⟩) (blk_far (p := ⟨g6, 0, none⟩) (fb185) (by show g7 ≠ g6; omega) (.int .i64 R')) (by show g7 ≠ g6; omega) (.slice B15 l15'.length d15)) (by show g7 ≠ g6; omega) (.int .i64 wt')) (by show g7 ≠ g6; omega) (.int .i64 ut')
    have fb201 := Kd.Q_mono (ok' := fun _ => True) (Kd.Q_far (p := ⟨g6, 3, none⟩) (Kd.Q_far (p := ⟨g6, 2, none⟩) (Kd.Q_far (p := ⟨g6, 1, none⟩) (Kd.Q_far (p := ⟨g6, 0, none⟩) (Kd.Q_types fb186 fb184 (by decide)) (fun k hk => hk.2) (.int .i64 R')) (fun k hk => hk.2) (.slice B15 l15'.length d15)) (fun k hk => hk.2) (.int .i64 wt')) (fun k hk => hk.2) (.int .i64 ut')) (fun _ _ => trivial)
    have fb202 := Kd.Q_mono (ok' := fun k => k ≠ g7) (Kd.Q_far (p := ⟨g6, 3, none⟩) (Kd.Q_far (p := ⟨g6, 2, none⟩) (Kd.Q_far (p := ⟨g6, 1, none⟩) (Kd.Q_far (p := ⟨g6, 0, none⟩) (Kd.Q_types fb187 fb184 (by decide)) (fun k hk => hk.2) (.int .i64 R')) (fun k hk => hk.2) (.slice B15 l15'.length d15)) (fun k hk => hk.2) (.int .i64 wt')) (fun k hk => hk.2) (.int .i64 ut')) (fun k hk => hk.1)
    have fb203 := Kd.Q_mono (ok' := fun _ => True) (Kd.Q_far (p := ⟨g6, 3, none⟩) (Kd.Q_far (p := ⟨g6, 2, none⟩) (Kd.Q_far (p := ⟨g6, 1, none⟩) (Kd.Q_far (p := ⟨g6, 0, none⟩) (Kd.Q_types rb181 fb184 (by decide)) (fun k hk => hk.2) (.int .i64 R')) (fun k hk => hk.2) (.slice B15 l15'.length d15)) (fun k hk => hk.2) (.int .i64 wt')) (fun k hk => hk.2) (.int .i64 ut')) (fun _ _ => trivial)
    have bb204 := Kept.setCell (p := ⟨g6, 3, none⟩) (Kept.setCell (p := ⟨g6, 2, none⟩) (Kept.setCell (p := ⟨g6, 1, none⟩) (Kept.setCell (p := ⟨g6, 0, none⟩) (bb188) (.inr ge_g6) (.int .i64 R')) (.inr ge_g6) (.slice B15 l15'.length d15)) (.inr ge_g6) (.int .i64 wt')) (.inr ge_g6) (.int .i64 ut')
    have ob205 := os_set (p := ⟨g6, 3, none⟩) (u := .int .i64 ut') (os_set (p := ⟨g6, 2, none⟩) (u := .int .i64 wt') (os_set (p := ⟨g6, 1, none⟩) (u := .slice B15 l15'.length d15) (os_set (p := ⟨g6, 0, none⟩) (u := .int .i64 R') (ob189))))
    generalize ((((wb180.setCell _ _).setCell _ _).setCell _ _).setCell _ _) = wb206 at fb198 fb199 fb200 fb201 fb202 fb203 bb204 ob205 ⊢
    refine hK.out _ _ fb198 (fun hHeld => ?_)
    clear hK K
    refine one_ (i := 23) (N := none) #[true, true, true, true, true, true, true, true, true, true, true, true, true, true, true, true, true, true, true, true, true, true, true, true] rfl rfl (by kernel_rfl) (by decide) (fun K hK => ?_)
    have zb207 := blk_cell fb200 0
    have zb209 := blk_frozen fb200 0
    have zb208 := blk_cell fb200 1
    have zb210 := blk_frozen fb200 1
    simp only [List.getElem?_toArray, List.getElem?_cons_zero, List.getElem?_cons_succ] at zb207 zb208
    refine skip_ (w1 := ?_) (by rfl) rfl ?_ ?_
    rotate_left
    ·go_simp
     rfl
    clear zb207 zb208 zb209 zb210
    have fb211 := blk_far (p := ⟨g7, 1, none⟩) (blk_far (p := ⟨g7, 0, none⟩) (fb198) (by show G ≠ g7; omega) (.int .i64 cost)) (by show G ≠ g7; omega) (.bool bad)
    have fb212 := blk_far (p := ⟨g7, 1, none⟩) (blk_far (p := ⟨g7, 0, none⟩) (fb199) (by show g6 ≠ g7; omega) (.int .i64 cost)) (by show g6 ≠ g7; omega) (.bool bad)
    have fb213 : (_ : World).heap[g7]? = some (.cells #[.int .i64 cost, .bool bad] 52 (0, 0)) := blk_put (blk_put (fb200) 0 (.int .i64 cost) rfl) 1 (.bool bad) rfl
    have fb214 := Kd.Q_mono (ok' := fun _ => True) (Kd.Q_far (p := ⟨g7, 1, none⟩) (Kd.Q_far (p := ⟨g7, 0, none⟩) (Kd.Q_types fb201 fb200 (by decide)) (fun k hk => hk.2) (.int .i64 cost)) (fun k hk => hk.2) (.bool bad)) (fun _ _ => trivial)
    have fb215 := Kd.Q_mono (ok' := fun _ => True) (Kd.Q_far (p := ⟨g7, 1, none⟩) (Kd.Q_far (p := ⟨g7, 0, none⟩) (fb202) (fun k hk => hk) (.int .i64 cost)) (fun k hk => hk) (.bool bad)) (fun _ _ => trivial)
    have fb216 := Kd.Q_mono (ok' := fun _ => True) (Kd.Q_far (p := ⟨g7, 1, none⟩) (Kd.Q_far (p := ⟨g7, 0, none⟩) (Kd.Q_types fb203 fb200 (by decide)) (fun k hk => hk.2) (.int .i64 cost)) (fun k hk => hk.2) (.bool bad)) (fun _ _ => trivial)
    have bb217 := Kept.setCell (p := ⟨g7, 1, none⟩) (Kept.setCell (p := ⟨g7, 0, none⟩) (bb204) (.inr ge_g7) (.int .i64 cost)) (.inr ge_g7) (.bool bad)
    have ob218 := os_set (p := ⟨g7, 1, none⟩) (u := .bool bad) (os_set (p := ⟨g7, 0, none⟩) (u := .int .i64 cost) (ob205))
    generalize ((wb206.setCell _ _).setCell _ _) = wb219 at fb211 fb212 fb213 fb214 fb215 fb216 bb217 ob218 ⊢
    refine hK.out _ _ fb211 (fun hHeld => ?_)
    clear hK K
    refine done_ (by kernel_rfl) ?_
    (try go_wp2)
    go_meet
    exact ⟨g6, g7, _, _, rfl, rfl, fb211, fb212, fb213, fb216, fb215, by omega, by omega, bb217, ob218⟩
  ·skip
   refine box_step ?hg (N := 7) ?hd (cs := #[.int .i64 0, .bool false]) (t := 52) ?hr ?_; (case hd => rfl); (case hg => rfl); (case hr => first | (go_simp; done) | (go_simp; rfl))
   intro g7 eb223 wb220 hb222 hbb221
   have lt_G_g7 : G < g7 := by rw [eb223]; exact blk_lt FG
   have ge_g7 : w.heap.size ≤ g7 := by rw [eb223]; exact FB.1
   replace FM := Kd.Q_mono (ok' := fun k => k ≠ g7) (Kd.Q_bound FM) (fun k hk => by have h1 := hk.2.2.1; omega)
   clear eb223
   have fb224 := blk_below FG hbb221
   have fb225 := Kd.Q_below FS hbb221
   have fb226 := Kd.Q_below FM hbb221
   have bb227 := Kept.below FB hbb221
   have ob228 := os_below FO hbb221
   refine hK.out _ _ fb224 (fun hHeld => ?_)
   clear hK K
   refine no_ 7 ?_
   refine two_ (i := 16) (j := 20) (Ni := some 44) (Nj := some 6) #[true, true, true, true, true, true, true, true, true, true, true, true, true, true, true, true, true, false, false, false, false, true, false, false] #[true, true, true, true, true, true, true, true, true, true, true, true, true, true, true, true, false, false, false, false, true, true, false, false] rfl rfl rfl rfl (by kernel_rfl) (by decide) (by decide) (fun K hK => ?_) (fun K hK => ?_)
   ·skip
    refine goes_ Try.func49 (by kernel_rfl) rfl #[.agg #[.int .i64 q0, .int .i64 q1, .int .i64 q2, .int .i64 q3, .int .i64 q4, .int .i64 q5, .int .i64 q6, .int .i64 q7, .int .i64 q8, .int .i64 q9, .int .i64 q10, .int .i64 q11], .agg #[.int .i64 R, .slice A15 l15.length c15, .int .i64 wt, .int .i64 ut], .int .i64 k0, .int .i64 demand] (by rfl) rfl rfl (by (try simp only [List.map_toArray, List.map_cons, List.map_nil]); first | done | rfl) ?_
    refine (plant_Step.calls _ _ _ _ _ _ _ _ _ _ _ _ _ _ _ _ _ _ _ _ _ _ _ _ _ _ _ (Kd.Q_reads' fb225).2.2 (Kd.Q_reads' fb225).2.1 HP.out).mono ?_
    rintro e_ wb229 ⟨v15, rfl, rb230, hbb231⟩
    refine ⟨_, rfl, ?_⟩
    have fb232 := blk_below fb224 hbb231
    have fb233 := blk_below hb222 hbb231
    have fb234 := Kd.Q_below fb225 hbb231
    have fb235 := Kd.Q_below fb226 hbb231
    have bb236 := Kept.below bb227 hbb231
    have ob237 := os_below ob228 hbb231
    replace rb230 := Kd.Q_lower rb230 (Nat.le_trans hB0 bb227.1)
    obtain ⟨B15, d15, rfl, _⟩ := Kd.Q_slice rb230
    refine hK.out _ _ fb232 (fun hHeld => ?_)
    clear hK K
    refine no_ 44 ?_
    refine pu_ 17 27 #[true, true, true, true, true, true, true, true, true, true, true, true, true, true, true, true, true, true, false, false, false, true, false, false] ?_
    refine pu_ 18 45 #[true, true, true, true, true, true, true, true, true, true, true, true, true, true, true, true, true, true, true, false, false, true, false, false] ?_
    refine pu_ 19 46 #[true, true, true, true, true, true, true, true, true, true, true, true, true, true, true, true, true, true, true, true, false, true, false, false] ?_
    refine one_ (i := 20) (N := some 6) #[true, true, true, true, true, true, true, true, true, true, true, true, true, true, true, true, true, true, true, true, true, true, false, false] rfl rfl (by kernel_rfl) (by decide) (fun K hK => ?_)
    refine box_step ?hg (N := 6) ?hd (cs := #[.int .i64 0, .slice none 0 0, .int .i64 0, .int .i64 0]) (t := 34) ?hr ?_; (case hd => rfl); (case hg => rfl); (case hr => first | (go_simp; done) | (go_simp; rfl))
    intro g6 eb241 wb238 hb240 hbb239
    have lt_G_g6 : G < g6 := by rw [eb241]; exact blk_lt fb232
    have lt_g7_g6 : g7 < g6 := by rw [eb241]; exact blk_lt fb233
    have ge_g6 : w.heap.size ≤ g6 := by rw [eb241]; exact bb236.1
    clear eb241
    have fb242 := blk_below fb232 hbb239
    have fb243 := blk_below fb233 hbb239
    have fb244 := Kd.Q_below fb234 hbb239
    have fb245 := Kd.Q_below fb235 hbb239
    have fb246 := Kd.Q_below rb230 hbb239
    have bb247 := Kept.below bb236 hbb239
    have ob248 := os_below ob237 hbb239
    refine hK.out _ _ fb242 (fun hHeld => ?_)
    clear hK K
    refine no_ 6 ?_
    refine one_ (i := 22) (N := none) #[true, true, true, true, true, true, true, true, true, true, true, true, true, true, true, true, true, true, true, true, true, true, true, false] rfl rfl (by kernel_rfl) (by decide) (fun K hK => ?_)
    have zb249 := blk_cell hb240 0
    have zb253 := blk_frozen hb240 0
    have zb250 := blk_cell hb240 1
    have zb254 := blk_frozen hb240 1
    have zb251 := blk_cell hb240 2
    have zb255 := blk_frozen hb240 2
    have zb252 := blk_cell hb240 3
    have zb256 := blk_frozen hb240 3
    simp only [List.getElem?_toArray, List.getElem?_cons_zero, List.getElem?_cons_succ] at zb249 zb250 zb251 zb252
    refine skip_ (w1 := ?_) (by rfl) rfl ?_ ?_
    rotate_left
    ·go_simp
     rfl
    clear zb249 zb250 zb251 zb252 zb253 zb254 zb255 zb256
    have fb257 := blk_far (p := ⟨g6, 3, none⟩) (blk_far (p := ⟨g6, 2, none⟩) (blk_far (p := ⟨g6, 1, none⟩) (blk_far (p := ⟨g6, 0, none⟩) (fb242) (by show G ≠ g6; omega) (.int .i64 R')) (by show G ≠ g6; omega) (.slice B15 l15'.length d15)) (by show G ≠ g6; omega) (.int .i64 wt')) (by show G ≠ g6; omega) (.int .i64 ut')
    have fb258 := blk_far (p := ⟨g6, 3, none⟩) (blk_far (p := ⟨g6, 2, none⟩) (blk_far (p := ⟨g6, 1, none⟩) (blk_far (p := ⟨g6, 0, none⟩) (fb243) (by show g7 ≠ g6; omega) (.int .i64 R')) (by show g7 ≠ g6; omega) (.slice B15 l15'.length d15)) (by show g7 ≠ g6; omega) (.int .i64 wt')) (by show g7 ≠ g6; omega) (.int .i64 ut')
    have fb259 : (_ : World).heap[g6]? = some (.cells #[.int .i64 R', .slice B15 l15'.length d15, .int .i64 wt', .int .i64 ut'] 34 (0, 0)) := blk_put (blk_put (blk_put (blk_put (hb240) 0 (.int .i64 R') rfl) 1 (.slice B15 l15'.length d15) rfl) 2 (.int .i64 wt') rfl) 3 (.int .i64 ut') rfl
    have fb260 := Kd.Q_mono (ok' := fun _ => True) (Kd.Q_far (p := ⟨g6, 3, none⟩) (Kd.Q_far (p := ⟨g6, 2, none⟩) (Kd.Q_far (p := ⟨g6, 1, none⟩) (Kd.Q_far (p := ⟨g6, 0, none⟩) (Kd.Q_types fb244 hb240 (by decide)) (fun k hk => hk.2) (.int .i64 R')) (fun k hk => hk.2) (.slice B15 l15'.length d15)) (fun k hk => hk.2) (.int .i64 wt')) (fun k hk => hk.2) (.int .i64 ut')) (fun _ _ => trivial)
    have fb261 := Kd.Q_mono (ok' := fun k => k ≠ g7) (Kd.Q_far (p := ⟨g6, 3, none⟩) (Kd.Q_far (p := ⟨g6, 2, none⟩) (Kd.Q_far (p := ⟨g6, 1, none⟩) (Kd.Q_far (p := ⟨g6, 0, none⟩) (Kd.Q_types fb245 hb240 (by decide)) (fun k hk => hk.2) (.int .i64 R')) (fun k hk => hk.2) (.slice B15 l15'.length d15)) (fun k hk => hk.2) (.int .i64 wt')) (fun k hk => hk.2) (.int .i64 ut')) (fun k hk => hk.1)
    have fb262 := Kd.Q_mono (ok' := fun _ => True) (Kd.Q_far (p := ⟨g6, 3, none⟩) (Kd.Q_far (p := ⟨g6, 2, none⟩) (Kd.Q_far (p := ⟨g6, 1, none⟩) (Kd.Q_far (p := ⟨g6, 0, none⟩) (Kd.Q_types fb246 hb240 (by decide)) (fun k hk => hk.2) (.int .i64 R')) (fun k hk => hk.2) (.slice B15 l15'.length d15)) (fun k hk => hk.2) (.int .i64 wt')) (fun k hk => hk.2) (.int .i64 ut')) (fun _ _ => trivial)
    have bb263 := Kept.setCell (p := ⟨g6, 3, none⟩) (Kept.setCell (p := ⟨g6, 2, none⟩) (Kept.setCell (p := ⟨g6, 1, none⟩) (Kept.setCell (p := ⟨g6, 0, none⟩) (bb247) (.inr ge_g6) (.int .i64 R')) (.inr ge_g6) (.slice B15 l15'.length d15)) (.inr ge_g6) (.int .i64 wt')) (.inr ge_g6) (.int .i64 ut')
    have ob264 := os_set (p := ⟨g6, 3, none⟩) (u := .int .i64 ut') (os_set (p := ⟨g6, 2, none⟩) (u := .int .i64 wt') (os_set (p := ⟨g6, 1, none⟩) (u := .slice B15 l15'.length d15) (os_set (p := ⟨g6, 0, none⟩) (u := .int .i64 R') (ob248))))
    generalize ((((wb238.setCell _ _).setCell _ _).setCell _ _).setCell _ _) = wb265 at fb257 fb258 fb259 fb260 fb261 fb262 bb263 ob264 ⊢
    refine hK.out _ _ fb257 (fun hHeld => ?_)
    clear hK K
    refine one_ (i := 23) (N := none) #[true, true, true, true, true, true, true, true, true, true, true, true, true, true, true, true, true, true, true, true, true, true, true, true] rfl rfl (by kernel_rfl) (by decide) (fun K hK => ?_)
    have zb266 := blk_cell fb258 0
    have zb268 := blk_frozen fb258 0
    have zb267 := blk_cell fb258 1
    have zb269 := blk_frozen fb258 1
    simp only [List.getElem?_toArray, List.getElem?_cons_zero, List.getElem?_cons_succ] at zb266 zb267
    refine skip_ (w1 := ?_) (by rfl) rfl ?_ ?_
    rotate_left
    ·go_simp
     rfl
    clear zb266 zb267 zb268 zb269
    have fb270 := blk_far (p := ⟨g7, 1, none⟩) (blk_far (p := ⟨g7, 0, none⟩) (fb257) (by show G ≠ g7; omega) (.int .i64 cost)) (by show G ≠ g7; omega) (.bool bad)
    have fb271 : (_ : World).heap[g7]? = some (.cells #[.int .i64 cost, .bool bad] 52 (0, 0)) := blk_put (blk_put (fb258) 0 (.int .i64 cost) rfl) 1 (.bool bad) rfl
    have fb272 := blk_far (p := ⟨g7, 1, none⟩) (blk_far (p := ⟨g7, 0, none⟩) (fb259) (by show g6 ≠ g7; omega) (.int .i64 cost)) (by show g6 ≠ g7; omega) (.bool bad)
    have fb273 := Kd.Q_mono (ok' := fun _ => True) (Kd.Q_far (p := ⟨g7, 1, none⟩) (Kd.Q_far (p := ⟨g7, 0, none⟩) (Kd.Q_types fb260 fb258 (by decide)) (fun k hk => hk.2) (.int .i64 cost)) (fun k hk => hk.2) (.bool bad)) (fun _ _ => trivial)
    have fb274 := Kd.Q_mono (ok' := fun _ => True) (Kd.Q_far (p := ⟨g7, 1, none⟩) (Kd.Q_far (p := ⟨g7, 0, none⟩) (fb261) (fun k hk => hk) (.int .i64 cost)) (fun k hk => hk) (.bool bad)) (fun _ _ => trivial)
    have fb275 := Kd.Q_mono (ok' := fun _ => True) (Kd.Q_far (p := ⟨g7, 1, none⟩) (Kd.Q_far (p := ⟨g7, 0, none⟩) (Kd.Q_types fb262 fb258 (by decide)) (fun k hk => hk.2) (.int .i64 cost)) (fun k hk => hk.2) (.bool bad)) (fun _ _ => trivial)
    have bb276 := Kept.setCell (p := ⟨g7, 1, none⟩) (Kept.setCell (p := ⟨g7, 0, none⟩) (bb263) (.inr ge_g7) (.int .i64 cost)) (.inr ge_g7) (.bool bad)
    have ob277 := os_set (p := ⟨g7, 1, none⟩) (u := .bool bad) (os_set (p := ⟨g7, 0, none⟩) (u := .int .i64 cost) (ob264))
    generalize ((wb265.setCell _ _).setCell _ _) = wb278 at fb270 fb271 fb272 fb273 fb274 fb275 bb276 ob277 ⊢
    refine hK.out _ _ fb270 (fun hHeld => ?_)
    clear hK K
    refine done_ (by kernel_rfl) ?_
    (try go_wp2)
    go_meet
    exact ⟨g6, g7, _, _, rfl, rfl, fb270, fb272, fb271, fb275, fb274, by omega, by omega, bb276, ob277⟩
   ·skip
    refine box_step ?hg (N := 6) ?hd (cs := #[.int .i64 0, .slice none 0 0, .int .i64 0, .int .i64 0]) (t := 34) ?hr ?_; (case hd => rfl); (case hg => rfl); (case hr => first | (go_simp; done) | (go_simp; rfl))
    intro g6 eb282 wb279 hb281 hbb280
    have lt_G_g6 : G < g6 := by rw [eb282]; exact blk_lt fb224
    have lt_g7_g6 : g7 < g6 := by rw [eb282]; exact blk_lt hb222
    have ge_g6 : w.heap.size ≤ g6 := by rw [eb282]; exact bb227.1
    clear eb282
    have fb283 := blk_below fb224 hbb280
    have fb284 := blk_below hb222 hbb280
    have fb285 := Kd.Q_below fb225 hbb280
    have fb286 := Kd.Q_below fb226 hbb280
    have bb287 := Kept.below bb227 hbb280
    have ob288 := os_below ob228 hbb280
    refine hK.out _ _ fb283 (fun hHeld => ?_)
    clear hK K
    refine no_ 6 ?_
    refine one_ (i := 16) (N := some 44) #[true, true, true, true, true, true, true, true, true, true, true, true, true, true, true, true, true, false, false, false, true, true, false, false] rfl rfl (by kernel_rfl) (by decide) (fun K hK => ?_)
    refine goes_ Try.func49 (by kernel_rfl) rfl #[.agg #[.int .i64 q0, .int .i64 q1, .int .i64 q2, .int .i64 q3, .int .i64 q4, .int .i64 q5, .int .i64 q6, .int .i64 q7, .int .i64 q8, .int .i64 q9, .int .i64 q10, .int .i64 q11], .agg #[.int .i64 R, .slice A15 l15.length c15, .int .i64 wt, .int .i64 ut], .int .i64 k0, .int .i64 demand] (by rfl) rfl rfl (by (try simp only [List.map_toArray, List.map_cons, List.map_nil]); first | done | rfl) ?_
    refine (plant_Step.calls _ _ _ _ _ _ _ _ _ _ _ _ _ _ _ _ _ _ _ _ _ _ _ _ _ _ _ (Kd.Q_reads' fb285).2.2 (Kd.Q_reads' fb285).2.1 HP.out).mono ?_
    rintro e_ wb289 ⟨v15, rfl, rb290, hbb291⟩
    refine ⟨_, rfl, ?_⟩
    have fb292 := blk_below fb283 hbb291
    have fb293 := blk_below fb284 hbb291
    have fb294 := blk_below hb281 hbb291
    have fb295 := Kd.Q_below fb285 hbb291
    have fb296 := Kd.Q_below fb286 hbb291
    have bb297 := Kept.below bb287 hbb291
    have ob298 := os_below ob288 hbb291
    replace rb290 := Kd.Q_lower rb290 (Nat.le_trans hB0 bb287.1)
    obtain ⟨B15, d15, rfl, _⟩ := Kd.Q_slice rb290
    refine hK.out _ _ fb292 (fun hHeld => ?_)
    clear hK K
    refine no_ 44 ?_
    refine pu_ 17 27 #[true, true, true, true, true, true, true, true, true, true, true, true, true, true, true, true, true, true, false, false, true, true, false, false] ?_
    refine pu_ 18 45 #[true, true, true, true, true, true, true, true, true, true, true, true, true, true, true, true, true, true, true, false, true, true, false, false] ?_
    refine pu_ 19 46 #[true, true, true, true, true, true, true, true, true, true, true, true, true, true, true, true, true, true, true, true, true, true, false, false] ?_
    refine one_ (i := 22) (N := none) #[true, true, true, true, true, true, true, true, true, true, true, true, true, true, true, true, true, true, true, true, true, true, true, false] rfl rfl (by kernel_rfl) (by decide) (fun K hK => ?_)
    have zb299 := blk_cell fb294 0
    have zb303 := blk_frozen fb294 0
    have zb300 := blk_cell fb294 1
    have zb304 := blk_frozen fb294 1
    have zb301 := blk_cell fb294 2
    have zb305 := blk_frozen fb294 2
    have zb302 := blk_cell fb294 3
    have zb306 := blk_frozen fb294 3
    simp only [List.getElem?_toArray, List.getElem?_cons_zero, List.getElem?_cons_succ] at zb299 zb300 zb301 zb302
    refine skip_ (w1 := ?_) (by rfl) rfl ?_ ?_
    rotate_left
    ·go_simp
     rfl
    clear zb299 zb300 zb301 zb302 zb303 zb304 zb305 zb306
    have fb307 := blk_far (p := ⟨g6, 3, none⟩) (blk_far (p := ⟨g6, 2, none⟩) (blk_far (p := ⟨g6, 1, none⟩) (blk_far (p := ⟨g6, 0, none⟩) (fb292) (by show G ≠ g6; omega) (.int .i64 R')) (by show G ≠ g6; omega) (.slice B15 l15'.length d15)) (by show G ≠ g6; omega) (.int .i64 wt')) (by show G ≠ g6; omega) (.int .i64 ut')
    have fb308 := blk_far (p := ⟨g6, 3, none⟩) (blk_far (p := ⟨g6, 2, none⟩) (blk_far (p := ⟨g6, 1, none⟩) (blk_far (p := ⟨g6, 0, none⟩) (fb293) (by show g7 ≠ g6; omega) (.int .i64 R')) (by show g7 ≠ g6; omega) (.slice B15 l15'.length d15)) (by show g7 ≠ g6; omega) (.int .i64 wt')) (by show g7 ≠ g6; omega) (.int .i64 ut')
    have fb309 : (_ : World).heap[g6]? = some (.cells #[.int .i64 R', .slice B15 l15'.length d15, .int .i64 wt', .int .i64 ut'] 34 (0, 0)) := blk_put (blk_put (blk_put (blk_put (fb294) 0 (.int .i64 R') rfl) 1 (.slice B15 l15'.length d15) rfl) 2 (.int .i64 wt') rfl) 3 (.int .i64 ut') rfl
    have fb310 := Kd.Q_mono (ok' := fun _ => True) (Kd.Q_far (p := ⟨g6, 3, none⟩) (Kd.Q_far (p := ⟨g6, 2, none⟩) (Kd.Q_far (p := ⟨g6, 1, none⟩) (Kd.Q_far (p := ⟨g6, 0, none⟩) (Kd.Q_types fb295 fb294 (by decide)) (fun k hk => hk.2) (.int .i64 R')) (fun k hk => hk.2) (.slice B15 l15'.length d15)) (fun k hk => hk.2) (.int .i64 wt')) (fun k hk => hk.2) (.int .i64 ut')) (fun _ _ => trivial)
    have fb311 := Kd.Q_mono (ok' := fun k => k ≠ g7) (Kd.Q_far (p := ⟨g6, 3, none⟩) (Kd.Q_far (p := ⟨g6, 2, none⟩) (Kd.Q_far (p := ⟨g6, 1, none⟩) (Kd.Q_far (p := ⟨g6, 0, none⟩) (Kd.Q_types fb296 fb294 (by decide)) (fun k hk => hk.2) (.int .i64 R')) (fun k hk => hk.2) (.slice B15 l15'.length d15)) (fun k hk => hk.2) (.int .i64 wt')) (fun k hk => hk.2) (.int .i64 ut')) (fun k hk => hk.1)
    have fb312 := Kd.Q_mono (ok' := fun _ => True) (Kd.Q_far (p := ⟨g6, 3, none⟩) (Kd.Q_far (p := ⟨g6, 2, none⟩) (Kd.Q_far (p := ⟨g6, 1, none⟩) (Kd.Q_far (p := ⟨g6, 0, none⟩) (Kd.Q_types rb290 fb294 (by decide)) (fun k hk => hk.2) (.int .i64 R')) (fun k hk => hk.2) (.slice B15 l15'.length d15)) (fun k hk => hk.2) (.int .i64 wt')) (fun k hk => hk.2) (.int .i64 ut')) (fun _ _ => trivial)
    have bb313 := Kept.setCell (p := ⟨g6, 3, none⟩) (Kept.setCell (p := ⟨g6, 2, none⟩) (Kept.setCell (p := ⟨g6, 1, none⟩) (Kept.setCell (p := ⟨g6, 0, none⟩) (bb297) (.inr ge_g6) (.int .i64 R')) (.inr ge_g6) (.slice B15 l15'.length d15)) (.inr ge_g6) (.int .i64 wt')) (.inr ge_g6) (.int .i64 ut')
    have ob314 := os_set (p := ⟨g6, 3, none⟩) (u := .int .i64 ut') (os_set (p := ⟨g6, 2, none⟩) (u := .int .i64 wt') (os_set (p := ⟨g6, 1, none⟩) (u := .slice B15 l15'.length d15) (os_set (p := ⟨g6, 0, none⟩) (u := .int .i64 R') (ob298))))
    generalize ((((wb289.setCell _ _).setCell _ _).setCell _ _).setCell _ _) = wb315 at fb307 fb308 fb309 fb310 fb311 fb312 bb313 ob314 ⊢
    refine hK.out _ _ fb307 (fun hHeld => ?_)
    clear hK K
    refine one_ (i := 23) (N := none) #[true, true, true, true, true, true, true, true, true, true, true, true, true, true, true, true, true, true, true, true, true, true, true, true] rfl rfl (by kernel_rfl) (by decide) (fun K hK => ?_)
    have zb316 := blk_cell fb308 0
    have zb318 := blk_frozen fb308 0
    have zb317 := blk_cell fb308 1
    have zb319 := blk_frozen fb308 1
    simp only [List.getElem?_toArray, List.getElem?_cons_zero, List.getElem?_cons_succ] at zb316 zb317
    refine skip_ (w1 := ?_) (by rfl) rfl ?_ ?_
    rotate_left
    ·go_simp
     rfl
    clear zb316 zb317 zb318 zb319
    have fb320 := blk_far (p := ⟨g7, 1, none⟩) (blk_far (p := ⟨g7, 0, none⟩) (fb307) (by show G ≠ g7; omega) (.int .i64 cost)) (by show G ≠ g7; omega) (.bool bad)
    have fb321 : (_ : World).heap[g7]? = some (.cells #[.int .i64 cost, .bool bad] 52 (0, 0)) := blk_put (blk_put (fb308) 0 (.int .i64 cost) rfl) 1 (.bool bad) rfl
    have fb322 := blk_far (p := ⟨g7, 1, none⟩) (blk_far (p := ⟨g7, 0, none⟩) (fb309) (by show g6 ≠ g7; omega) (.int .i64 cost)) (by show g6 ≠ g7; omega) (.bool bad)
    have fb323 := Kd.Q_mono (ok' := fun _ => True) (Kd.Q_far (p := ⟨g7, 1, none⟩) (Kd.Q_far (p := ⟨g7, 0, none⟩) (Kd.Q_types fb310 fb308 (by decide)) (fun k hk => hk.2) (.int .i64 cost)) (fun k hk => hk.2) (.bool bad)) (fun _ _ => trivial)
    have fb324 := Kd.Q_mono (ok' := fun _ => True) (Kd.Q_far (p := ⟨g7, 1, none⟩) (Kd.Q_far (p := ⟨g7, 0, none⟩) (fb311) (fun k hk => hk) (.int .i64 cost)) (fun k hk => hk) (.bool bad)) (fun _ _ => trivial)
    have fb325 := Kd.Q_mono (ok' := fun _ => True) (Kd.Q_far (p := ⟨g7, 1, none⟩) (Kd.Q_far (p := ⟨g7, 0, none⟩) (Kd.Q_types fb312 fb308 (by decide)) (fun k hk => hk.2) (.int .i64 cost)) (fun k hk => hk.2) (.bool bad)) (fun _ _ => trivial)
    have bb326 := Kept.setCell (p := ⟨g7, 1, none⟩) (Kept.setCell (p := ⟨g7, 0, none⟩) (bb313) (.inr ge_g7) (.int .i64 cost)) (.inr ge_g7) (.bool bad)
    have ob327 := os_set (p := ⟨g7, 1, none⟩) (u := .bool bad) (os_set (p := ⟨g7, 0, none⟩) (u := .int .i64 cost) (ob314))
    generalize ((wb315.setCell _ _).setCell _ _) = wb328 at fb320 fb321 fb322 fb323 fb324 fb325 bb326 ob327 ⊢
    refine hK.out _ _ fb320 (fun hHeld => ?_)
    clear hK K
    refine done_ (by kernel_rfl) ?_
    (try go_wp2)
    go_meet
    exact ⟨g6, g7, _, _, rfl, rfl, fb320, fb322, fb321, fb325, fb324, by omega, by omega, bb326, ob327⟩
 case rest =>
  obtain ⟨g6, g7, B15, d15, rfl, rfl, FG, F6, F7, FS, FM, hlt6, hlt7, FB, FO⟩ := hcut
  try clear FG1 FS1 FM1 FB1 FO1
  clear HP
  go_upto_region 2 with (fail)
  refine start_ (n := 23) (S := fun w' => w'.heap[G]? = some (.cells #[.int .i64 p0, .int .i64 p1, .slice A2 l2.length c2, .int .i64 p3, .int .i64 p4, .int .i64 p5, .int .i64 p6, .slice A7 l7.length c7, .int .i64 s0, .int .i64 s1, .bool s2, .int .i64 k0, .int .i64 k1, .bool k2, .int .i64 R, .slice A15 l15.length c15, .int .i64 wt, .int .i64 ut, .slice A18 l18.length c18, .int .i64 q0, .int .i64 q1, .int .i64 q2, .int .i64 q3, .int .i64 q4, .int .i64 q5, .int .i64 q6, .int .i64 q7, .int .i64 q8, .int .i64 q9, .int .i64 q10, .int .i64 q11, .int .i64 now] 69 (0, 0)) ∧ w'.heap[g6]? = some (.cells #[.int .i64 R', .slice B15 l15'.length d15, .int .i64 wt', .int .i64 ut'] 34 (0, 0)) ∧ w'.heap[g7]? = some (.cells #[.int .i64 cost, .bool bad] 52 (0, 0))) (ds := [18, 22]) #[false, false, false, false, false, false, false, false, false, false, false, false, false, false, false, false, false, false, false, false, false, false, false] (by kernel_rfl) rfl rfl ⟨FG, F6, F7⟩ (fun hHeld => ?_)
  have FG := blk_below FG (below_drew1 (Below.refl _ _))
  have F6 := blk_below F6 (below_drew1 (Below.refl _ _))
  have F7 := blk_below F7 (below_drew1 (Below.refl _ _))
  have FS := Kd.Q_below FS (below_drew1 (Below.refl _ _))
  have FM := Kd.Q_below FM (below_drew1 (Below.refl _ _))
  have FB := Kept.below FB (below_drew1 (Below.refl _ _))
  have FO := os_below FO (below_drew1 (Below.refl _ _))
  generalize wc.drew = w9 at FB FO FG F6 F7 FS FM hHeld ⊢
  refine pu_ 0 47 #[true, false, false, false, false, false, false, false, false, false, false, false, false, false, false, false, false, false, false, false, false, false, false] ?_
  refine pu_ 1 48 #[true, true, false, false, false, false, false, false, false, false, false, false, false, false, false, false, false, false, false, false, false, false, false] ?_
  refine ta_ 2 49 #[true, true, true, false, false, false, false, false, false, false, false, false, false, false, false, false, false, false, false, false, false, false, false] hHeld (v := ?_) ?_ ?_
  rotate_left
  ·intro w' hS
   have s0 := blk_cell hS.2.1 0
   have s1 := blk_cell hS.2.1 1
   have s2 := blk_cell hS.2.1 2
   have s3 := blk_cell hS.2.1 3
   simp only [List.getElem?_toArray, List.getElem?_cons_zero, List.getElem?_cons_succ] at s0 s1 s2 s3
   clear hS
   go_simp
   with_reducible rfl
  refine pu_ 3 50 #[true, true, true, true, false, false, false, false, false, false, false, false, false, false, false, false, false, false, false, false, false, false, false] ?_
  refine pu_ 8 55 #[true, true, true, true, false, false, false, false, true, false, false, false, false, false, false, false, false, false, false, false, false, false, false] ?_
  refine ta_ 13 60 #[true, true, true, true, false, false, false, false, true, false, false, false, false, true, false, false, false, false, false, false, false, false, false] hHeld (v := ?_) ?_ ?_
  rotate_left
  ·intro w' hS
   have s0 := blk_cell hS.2.2 0
   have s1 := blk_cell hS.2.2 1
   simp only [List.getElem?_toArray, List.getElem?_cons_zero, List.getElem?_cons_succ] at s0 s1
   clear hS
   go_simp
   with_reducible rfl
  refine pu_ 4 51 #[true, true, true, true, true, false, false, false, true, false, false, false, false, true, false, false, false, false, false, false, false, false, false] ?_
  refine pu_ 9 56 #[true, true, true, true, true, false, false, false, true, true, false, false, false, true, false, false, false, false, false, false, false, false, false] ?_
  refine pu_ 5 52 #[true, true, true, true, true, true, false, false, true, true, false, false, false, true, false, false, false, false, false, false, false, false, false] ?_
  refine pu_ 10 57 #[true, true, true, true, true, true, false, false, true, true, true, false, false, true, false, false, false, false, false, false, false, false, false] ?_
  refine pu_ 6 53 #[true, true, true, true, true, true, true, false, true, true, true, false, false, true, false, false, false, false, false, false, false, false, false] ?_
  refine pu_ 11 58 #[true, true, true, true, true, true, true, false, true, true, true, true, false, true, false, false, false, false, false, false, false, false, false] ?_
  refine ta_ 7 54 #[true, true, true, true, true, true, true, true, true, true, true, true, false, true, false, false, false, false, false, false, false, false, false] hHeld (v := ?_) ?_ ?_
  rotate_left
  ·intro w' hS
   have s26 := blk_cell hS.1 26
   simp only [List.getElem?_toArray, List.getElem?_cons_zero, List.getElem?_cons_succ] at s26
   clear hS
   go_simp
   with_reducible rfl
  refine ta_ 12 59 #[true, true, true, true, true, true, true, true, true, true, true, true, true, true, false, false, false, false, false, false, false, false, false] hHeld (v := ?_) ?_ ?_
  rotate_left
  ·intro w' hS
   have s18 := blk_cell hS.1 18
   simp only [List.getElem?_toArray, List.getElem?_cons_zero, List.getElem?_cons_succ] at s18
   clear hS
   go_simp
   with_reducible rfl
  refine one_ (i := 14) (N := some 61) #[true, true, true, true, true, true, true, true, true, true, true, true, true, true, true, false, false, false, false, false, false, false, false] rfl rfl (by kernel_rfl) (by decide) (fun K hK => ?_)
  refine goes_ Try.func50 (by kernel_rfl) rfl #[.int .i64 q7, .slice A18 l18.length c18, .agg #[.int .i64 cost, .bool bad]] (by rfl) rfl rfl (by (try simp only [List.map_toArray, List.map_cons, List.map_nil]); first | done | rfl) ?_
  refine (score_Add.calls _ _ _ _ _ _ _ _ (Kd.Q_reads' FM).2.2 (Kd.Q_reads' FM).2.1 HA.out).mono ?_
  rintro e_ wc1 ⟨v18, rfl, rc2, hbc3⟩
  refine ⟨_, rfl, ?_⟩
  have fc4 := blk_below FG hbc3
  have fc5 := blk_below F6 hbc3
  have fc6 := blk_below F7 hbc3
  have fc7 := Kd.Q_below FS hbc3
  have fc8 := Kd.Q_below FM hbc3
  have bc9 := Kept.below FB hbc3
  have oc10 := os_below FO hbc3
  replace rc2 := Kd.Q_lower rc2 (Nat.le_trans hB0 FB.1)
  obtain ⟨B18, d18, rfl, _⟩ := Kd.Q_slice rc2
  refine hK.out _ _ ⟨fc4, fc5, fc6⟩ (fun hHeld => ?_)
  clear hK K
  refine no_ 61 ?_
  refine pu_ 15 62 #[true, true, true, true, true, true, true, true, true, true, true, true, true, true, true, true, false, false, false, false, false, false, false] ?_
  refine pu_ 16 63 #[true, true, true, true, true, true, true, true, true, true, true, true, true, true, true, true, true, false, false, false, false, false, false] ?_
  refine pu_ 17 64 #[true, true, true, true, true, true, true, true, true, true, true, true, true, true, true, true, true, true, false, false, false, false, false] ?_
  refine last_ (i := 18) (N := none) #[true, true, true, true, true, true, true, true, true, true, true, true, true, true, true, true, true, true, true, false, false, false, false] rfl rfl (by kernel_rfl) (by decide) (fun K hK => ?_)
  have zc11 := blk_cell fc4 14
  have zc15 := blk_frozen fc4 14
  have zc12 := blk_cell fc4 15
  have zc16 := blk_frozen fc4 15
  have zc13 := blk_cell fc4 16
  have zc17 := blk_frozen fc4 16
  have zc14 := blk_cell fc4 17
  have zc18 := blk_frozen fc4 17
  simp only [List.getElem?_toArray, List.getElem?_cons_zero, List.getElem?_cons_succ] at zc11 zc12 zc13 zc14
  refine skip_ (w1 := ?_) (by rfl) rfl ?_ ?_
  rotate_left
  ·go_simp
   rfl
  clear zc11 zc12 zc13 zc14 zc15 zc16 zc17 zc18
  have fc19 : (_ : World).heap[G]? = some (.cells #[.int .i64 p0, .int .i64 p1, .slice A2 l2.length c2, .int .i64 p3, .int .i64 p4, .int .i64 p5, .int .i64 p6, .slice A7 l7.length c7, .int .i64 s0, .int .i64 s1, .bool s2, .int .i64 k0, .int .i64 k1, .bool k2, .int .i64 R', .slice B15 l15'.length d15, .int .i64 wt', .int .i64 ut', .slice A18 l18.length c18, .int .i64 q0, .int .i64 q1, .int .i64 q2, .int .i64 q3, .int .i64 q4, .int .i64 q5, .int .i64 q6, .int .i64 q7, .int .i64 q8, .int .i64 q9, .int .i64 q10, .int .i64 q11, .int .i64 now] 69 (0, 0)) := blk_put (blk_put (blk_put (blk_put (fc4) 14 (.int .i64 R') rfl) 15 (.slice B15 l15'.length d15) rfl) 16 (.int .i64 wt') rfl) 17 (.int .i64 ut') rfl
  have fc20 := blk_far (p := ⟨G, 17, none⟩) (blk_far (p := ⟨G, 16, none⟩) (blk_far (p := ⟨G, 15, none⟩) (blk_far (p := ⟨G, 14, none⟩) (fc5) (by show g6 ≠ G; omega) (.int .i64 R')) (by show g6 ≠ G; omega) (.slice B15 l15'.length d15)) (by show g6 ≠ G; omega) (.int .i64 wt')) (by show g6 ≠ G; omega) (.int .i64 ut')
  have fc21 := blk_far (p := ⟨G, 17, none⟩) (blk_far (p := ⟨G, 16, none⟩) (blk_far (p := ⟨G, 15, none⟩) (blk_far (p := ⟨G, 14, none⟩) (fc6) (by show g7 ≠ G; omega) (.int .i64 R')) (by show g7 ≠ G; omega) (.slice B15 l15'.length d15)) (by show g7 ≠ G; omega) (.int .i64 wt')) (by show g7 ≠ G; omega) (.int .i64 ut')
  have fc22 := Kd.Q_mono (ok' := fun _ => True) (Kd.Q_far (p := ⟨G, 17, none⟩) (Kd.Q_far (p := ⟨G, 16, none⟩) (Kd.Q_far (p := ⟨G, 15, none⟩) (Kd.Q_far (p := ⟨G, 14, none⟩) (Kd.Q_types fc7 fc4 (by decide)) (fun k hk => hk.2) (.int .i64 R')) (fun k hk => hk.2) (.slice B15 l15'.length d15)) (fun k hk => hk.2) (.int .i64 wt')) (fun k hk => hk.2) (.int .i64 ut')) (fun _ _ => trivial)
  have fc23 := Kd.Q_mono (ok' := fun _ => True) (Kd.Q_far (p := ⟨G, 17, none⟩) (Kd.Q_far (p := ⟨G, 16, none⟩) (Kd.Q_far (p := ⟨G, 15, none⟩) (Kd.Q_far (p := ⟨G, 14, none⟩) (Kd.Q_types fc8 fc4 (by decide)) (fun k hk => hk.2) (.int .i64 R')) (fun k hk => hk.2) (.slice B15 l15'.length d15)) (fun k hk => hk.2) (.int .i64 wt')) (fun k hk => hk.2) (.int .i64 ut')) (fun _ _ => trivial)
  have fc24 := Kd.Q_mono (ok' := fun _ => True) (Kd.Q_far (p := ⟨G, 17, none⟩) (Kd.Q_far (p := ⟨G, 16, none⟩) (Kd.Q_far (p := ⟨G, 15, none⟩) (Kd.Q_far (p := ⟨G, 14, none⟩) (Kd.Q_types rc2 fc4 (by decide)) (fun k hk => hk.2) (.int .i64 R')) (fun k hk => hk.2) (.slice B15 l15'.length d15)) (fun k hk => hk.2) (.int .i64 wt')) (fun k hk => hk.2) (.int .i64 ut')) (fun _ _ => trivial)
  have bc25 := Kept.setCell (p := ⟨G, 17, none⟩) (Kept.setCell (p := ⟨G, 16, none⟩) (Kept.setCell (p := ⟨G, 15, none⟩) (Kept.setCell (p := ⟨G, 14, none⟩) (bc9) (.inl rfl) (.int .i64 R')) (.inl rfl) (.slice B15 l15'.length d15)) (.inl rfl) (.int .i64 wt')) (.inl rfl) (.int .i64 ut')
  have oc26 := os_set (p := ⟨G, 17, none⟩) (u := .int .i64 ut') (os_set (p := ⟨G, 16, none⟩) (u := .int .i64 wt') (os_set (p := ⟨G, 15, none⟩) (u := .slice B15 l15'.length d15) (os_set (p := ⟨G, 14, none⟩) (u := .int .i64 R') (oc10))))
  generalize ((((wc1.setCell _ _).setCell _ _).setCell _ _).setCell _ _) = wc27 at fc19 fc20 fc21 fc22 fc23 fc24 bc25 oc26 ⊢
  refine hK.out _ _ ?_
  clear hK K
  refine pu_ 19 65 #[true, true, true, true, true, true, true, true, true, true, true, true, true, true, true, true, true, true, true, true, false, false, false] ?_
  refine pu_ 20 66 #[true, true, true, true, true, true, true, true, true, true, true, true, true, true, true, true, true, true, true, true, true, false, false] ?_
  refine pu_ 21 67 #[true, true, true, true, true, true, true, true, true, true, true, true, true, true, true, true, true, true, true, true, true, true, false] ?_
  refine last_ (i := 22) (N := none) #[true, true, true, true, true, true, true, true, true, true, true, true, true, true, true, true, true, true, true, true, true, true, true] rfl rfl (by kernel_rfl) (by decide) (fun K hK => ?_)
  have zc28 := blk_cell fc19 18
  have zc29 := blk_frozen fc19 18
  simp only [List.getElem?_toArray, List.getElem?_cons_zero, List.getElem?_cons_succ] at zc28
  refine skip_ (w1 := ?_) (by rfl) rfl ?_ ?_
  rotate_left
  ·go_simp
   rfl
  clear zc28 zc29
  have fc30 : (_ : World).heap[G]? = some (.cells #[.int .i64 p0, .int .i64 p1, .slice A2 l2.length c2, .int .i64 p3, .int .i64 p4, .int .i64 p5, .int .i64 p6, .slice A7 l7.length c7, .int .i64 s0, .int .i64 s1, .bool s2, .int .i64 k0, .int .i64 k1, .bool k2, .int .i64 R', .slice B15 l15'.length d15, .int .i64 wt', .int .i64 ut', .slice B18 l18'.length d18, .int .i64 q0, .int .i64 q1, .int .i64 q2, .int .i64 q3, .int .i64 q4, .int .i64 q5, .int .i64 q6, .int .i64 q7, .int .i64 q8, .int .i64 q9, .int .i64 q10, .int .i64 q11, .int .i64 now] 69 (0, 0)) := blk_put (fc19) 18 (.slice B18 l18'.length d18) rfl
  have fc31 := blk_far (p := ⟨G, 18, none⟩) (fc20) (by show g6 ≠ G; omega) (.slice B18 l18'.length d18)
  have fc32 := blk_far (p := ⟨G, 18, none⟩) (fc21) (by show g7 ≠ G; omega) (.slice B18 l18'.length d18)
  have fc33 := Kd.Q_mono (ok' := fun _ => True) (Kd.Q_far (p := ⟨G, 18, none⟩) (Kd.Q_types fc22 fc19 (by decide)) (fun k hk => hk.2) (.slice B18 l18'.length d18)) (fun _ _ => trivial)
  have fc34 := Kd.Q_mono (ok' := fun _ => True) (Kd.Q_far (p := ⟨G, 18, none⟩) (Kd.Q_types fc23 fc19 (by decide)) (fun k hk => hk.2) (.slice B18 l18'.length d18)) (fun _ _ => trivial)
  have fc35 := Kd.Q_mono (ok' := fun _ => True) (Kd.Q_far (p := ⟨G, 18, none⟩) (Kd.Q_types fc24 fc19 (by decide)) (fun k hk => hk.2) (.slice B18 l18'.length d18)) (fun _ _ => trivial)
  have bc36 := Kept.setCell (p := ⟨G, 18, none⟩) (bc25) (.inl rfl) (.slice B18 l18'.length d18)
  have oc37 := os_set (p := ⟨G, 18, none⟩) (u := .slice B18 l18'.length d18) (oc26)
  generalize (wc27.setCell _ _) = wc38 at fc30 fc31 fc32 fc33 fc34 fc35 bc36 oc37 ⊢
  refine hK.out _ _ ?_
  clear hK K
  refine done_ (by kernel_rfl) ?_
  refine bodyPost_end (results_none rfl _ _ _) rfl ?_
  exact ⟨_, _, _, _, rfl, fc30, fc33, fc35, bc36, oc37⟩
end Go.Proofs.Ytefgoffaidjiaaa.PAll
