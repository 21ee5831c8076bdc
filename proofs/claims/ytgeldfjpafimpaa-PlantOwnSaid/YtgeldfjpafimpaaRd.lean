-- laid by a program of this session (tprint.py) out of the translation and of texts typed by hand; Lean checks it
import Derived.Test.YtgeldfjpafimpaaPAllx0
import Derived.Deep.Slices
import Derived.Deep.Fields
import Derived.ChangeSame
import Derived.KernelRfl
namespace Go.Proofs.Ytgeldfjpafimpaa.PAll
open Go.RowKit Go.Proofs.YtgeldfjpafimpaaW.PrintWords Go.Proofs.YtgeldfjpafimpaaW.PrintLast Go.Proofs.YtgeldfjpafimpaaW.PrintMore
set_option linter.unusedVariables false
variable {P : Program}
def Rd (P : Program) (t : TypeId) {α : Type} (k : Kd α) (ok : α → Prop) : Prop :=
  ∀ {H : Type} (enc : TypeId × Value → H) (w : World) (base : Nat) (spare : Nat → Bool) (held : Bool) (fuel : Nat) (cs : List Value) (x : DataW H × List MemPlace), DataW.trod enc P w base spare held fuel t cs = some x → ∃ a, k.K w a cs ∧ ok a
theorem Rd.int {t : TypeId} {ik : IntKind} (ht : P.underlying t = some (.int ik)) : Rd P t (Kd.int ik) (fun n_ : Int => (Lit.int ik n_).wf = true) := by
  intro H enc w base spare held fuel cs x h
  obtain ⟨n, rfl, _, hw⟩ := DataW.trod_int ht h
  exact ⟨n, rfl, hw⟩
theorem Rd.bool {t : TypeId} (ht : P.underlying t = some .bool) : Rd P t Kd.bool (fun _ : Bool => True) := by
  intro H enc w base spare held fuel cs x h
  obtain ⟨n, rfl, _⟩ := DataW.trod_bool ht h
  exact ⟨n, rfl, trivial⟩
theorem exists_row {α : Type} (n : Nat) (p : Nat → α → Prop) (h : ∀ i, i < n → ∃ y, p i y) : ∃ l : List α, l.length = n ∧ ∀ i y, l[i]? = some y → p i y := by
  induction n with
  | zero => exact ⟨[], rfl, fun i y hy => by simp at hy⟩
  | succ n ih =>
    obtain ⟨l, hl, hp⟩ := ih fun i hi => h i (by omega)
    obtain ⟨y, hy⟩ := h n (by omega)
    refine ⟨l ++ [y], by simp [hl], fun i z hz => ?_⟩
    by_cases hi : i < l.length
    · rw [List.getElem?_append_left hi] at hz
      exact hp i z hz
    · have : i = n := by
        have := (List.getElem?_eq_some_iff.1 hz).1
        simp at this
        omega
      subst this
      rw [List.getElem?_append_right (by omega), hl] at hz
      simp at hz
      exact hz ▸ hy
theorem Rd.slice {α : Type} {t e : TypeId} {k : Kd α} {ok : α → Prop} (ht : P.underlying t = some (.slice e)) (hs : P.cellsOf e = k.sz) (he : Rd P e k ok) : Rd P t (Kd.slice e k) (fun l_ : List α => ∀ x ∈ l_, ok x) := by
  intro H enc w base spare held fuel cs x h
  rcases Deep.open_slice ht h with ⟨rfl, _⟩ | ⟨a, len, cap, m, n, D, Pl, rfl, hb, hl, hm, hmm, hx, hi⟩
  · exact ⟨[], ⟨none, 0, rfl, Nat.le_refl _, rfl, by simp, fun h => absurd h (Nat.lt_irrefl _)⟩, by simp⟩
  · have hlm : len ≤ m := by rw [hmm]; split <;> omega
    obtain ⟨l, hll, hp⟩ := exists_row len (fun i y => ok y ∧ ∃ c, c.length = k.sz ∧ k.K w y c ∧ ∀ j u, c[j]? = some u → w.cell? (a.add (i * k.sz + j)) = some u) (fun i hil => by
      obtain ⟨cs', hc, htr⟩ := hi i (by omega)
      obtain ⟨y, hK, hok⟩ := he enc w base spare held n cs' _ htr
      rw [hs] at hc
      obtain ⟨_, hcl, hat⟩ := World.cells?_some hc
      refine ⟨y, hok, cs', hcl, hK, fun j u hu => ?_⟩
      have hj : j < k.sz := by have := (List.getElem?_eq_some_iff.1 hu).1; omega
      rw [← Go.Deep.add_add, hat j hj, hu])
    subst hll
    refine ⟨l, ⟨some a, cap, rfl, hl, rfl, by have := hm; unfold maxLen at this; omega, fun _ => ⟨a, rfl, fun j p hj => ?_⟩⟩, fun y hy => ?_⟩
    · obtain ⟨_, c, h1, h2, h3⟩ := hp j p hj
      exact ⟨c, h1, h2, h3⟩
    · obtain ⟨i, hi'⟩ := List.getElem?_of_mem hy
      exact (hp i y hi').1
theorem field_read {α : Type} {H : Type} {enc : TypeId × Value → H} {w : World} {base : Nat} {spare : Nat → Bool} {held : Bool} {n j : Nat} {ft : TypeId} {off sz o s : Nat} {cs : List Value} {ys : List (DataW H × List MemPlace)} {k : Kd α} {ok : α → Prop}
    (h : DataW.trod enc P w base spare held n ft ((cs.drop off).take sz) = ys[j]?) (hj : j < ys.length) (ho : off = o) (hs : sz = s) (r : Rd P ft k ok) : ∃ a, k.K w a ((cs.drop o).take s) ∧ ok a := by
  subst ho
  subst hs
  rw [List.getElem?_eq_getElem hj] at h
  exact r enc w base spare held n _ _ h
theorem pair_K {α β : Type} {a : Kd α} {b : Kd β} {w : World} {x : α} {y : β} {cs : List Value} {o s : Nat} (h0 : a.K w x ((cs.drop o).take s)) (h1 : b.K w y (cs.drop (o + s))) : (Kd.pair a b).K w (x, y) (cs.drop o) :=
  ⟨_, _, by rw [← List.drop_drop, List.take_append_drop], h0, h1⟩
theorem last_K {α : Type} {a : Kd α} {w : World} {x : α} {cs : List Value} {o s : Nat} (h0 : a.K w x ((cs.drop o).take s)) (hl : cs.length = o + s) : a.K w x (cs.drop o) := by
  rwa [List.take_of_length_le (by rw [List.length_drop]; omega)] at h0

def ok23 (x : S23) : Prop := (fun n_ : Int => (Lit.int .i64 n_).wf = true) x.f0 ∧ (fun n_ : Int => (Lit.int .i64 n_).wf = true) x.f1 ∧ (fun n_ : Int => (Lit.int .i64 n_).wf = true) x.f2 ∧ (fun n_ : Int => (Lit.int .i64 n_).wf = true) x.f3 ∧ (fun n_ : Int => (Lit.int .i64 n_).wf = true) x.f4 ∧ (fun n_ : Int => (Lit.int .i64 n_).wf = true) x.f5 ∧ (fun n_ : Int => (Lit.int .i64 n_).wf = true) x.f6 ∧ (fun n_ : Int => (Lit.int .i64 n_).wf = true) x.f7 ∧ (fun n_ : Int => (Lit.int .i64 n_).wf = true) x.f8 ∧ (fun n_ : Int => (Lit.int .i64 n_).wf = true) x.f9 ∧ (fun n_ : Int => (Lit.int .i64 n_).wf = true) x.f10 ∧ (fun n_ : Int => (Lit.int .i64 n_).wf = true) x.f11
theorem rdy23 : Rd Try.prog 23 k23 ok23 := by
  intro H enc w base spare held fuel cs x h
  obtain ⟨ys, n', hn', hy, hlen, hyl, hf⟩ := DataW.trod_struct Try.underlying23 h
  have hlen' : cs.length = 12 := hlen.trans (by kernel_rfl)
  obtain ⟨x0, h0, o0⟩ := field_read (o := 0) (s := 1) (hf 0 _ rfl) (by rw [hyl]; decide) (by kernel_rfl) (by kernel_rfl) (Rd.int Try.underlying3)
  obtain ⟨x1, h1, o1⟩ := field_read (o := 1) (s := 1) (hf 1 _ rfl) (by rw [hyl]; decide) (by kernel_rfl) (by kernel_rfl) (Rd.int Try.underlying3)
  obtain ⟨x2, h2, o2⟩ := field_read (o := 2) (s := 1) (hf 2 _ rfl) (by rw [hyl]; decide) (by kernel_rfl) (by kernel_rfl) (Rd.int Try.underlying3)
  obtain ⟨x3, h3, o3⟩ := field_read (o := 3) (s := 1) (hf 3 _ rfl) (by rw [hyl]; decide) (by kernel_rfl) (by kernel_rfl) (Rd.int Try.underlying2)
  obtain ⟨x4, h4, o4⟩ := field_read (o := 4) (s := 1) (hf 4 _ rfl) (by rw [hyl]; decide) (by kernel_rfl) (by kernel_rfl) (Rd.int Try.underlying2)
  obtain ⟨x5, h5, o5⟩ := field_read (o := 5) (s := 1) (hf 5 _ rfl) (by rw [hyl]; decide) (by kernel_rfl) (by kernel_rfl) (Rd.int Try.underlying3)
  obtain ⟨x6, h6, o6⟩ := field_read (o := 6) (s := 1) (hf 6 _ rfl) (by rw [hyl]; decide) (by kernel_rfl) (by kernel_rfl) (Rd.int Try.underlying2)
  obtain ⟨x7, h7, o7⟩ := field_read (o := 7) (s := 1) (hf 7 _ rfl) (by rw [hyl]; decide) (by kernel_rfl) (by kernel_rfl) (Rd.int Try.underlying3)
  obtain ⟨x8, h8, o8⟩ := field_read (o := 8) (s := 1) (hf 8 _ rfl) (by rw [hyl]; decide) (by kernel_rfl) (by kernel_rfl) (Rd.int Try.underlying2)
  obtain ⟨x9, h9, o9⟩ := field_read (o := 9) (s := 1) (hf 9 _ rfl) (by rw [hyl]; decide) (by kernel_rfl) (by kernel_rfl) (Rd.int Try.underlying3)
  obtain ⟨x10, h10, o10⟩ := field_read (o := 10) (s := 1) (hf 10 _ rfl) (by rw [hyl]; decide) (by kernel_rfl) (by kernel_rfl) (Rd.int Try.underlying3)
  obtain ⟨x11, h11, o11⟩ := field_read (o := 11) (s := 1) (hf 11 _ rfl) (by rw [hyl]; decide) (by kernel_rfl) (by kernel_rfl) (Rd.int Try.underlying3)
  have g11 := last_K (o := 11) (s := 1) h11 hlen'
  have g10 := pair_K (o := 10) (s := 1) h10 g11
  have g9 := pair_K (o := 9) (s := 1) h9 g10
  have g8 := pair_K (o := 8) (s := 1) h8 g9
  have g7 := pair_K (o := 7) (s := 1) h7 g8
  have g6 := pair_K (o := 6) (s := 1) h6 g7
  have g5 := pair_K (o := 5) (s := 1) h5 g6
  have g4 := pair_K (o := 4) (s := 1) h4 g5
  have g3 := pair_K (o := 3) (s := 1) h3 g4
  have g2 := pair_K (o := 2) (s := 1) h2 g3
  have g1 := pair_K (o := 1) (s := 1) h1 g2
  have g0 := pair_K (o := 0) (s := 1) h0 g1
  exact ⟨⟨x0, x1, x2, x3, x4, x5, x6, x7, x8, x9, x10, x11⟩, g0, ⟨o0, o1, o2, o3, o4, o5, o6, o7, o8, o9, o10, o11⟩⟩
theorem rdy24 : Rd Try.prog 24 (Kd.slice 3 (Kd.int .i64)) (fun l_ : List Int => ∀ x ∈ l_, (fun n_ : Int => (Lit.int .i64 n_).wf = true) x) := Rd.slice Try.underlying24 (by kernel_rfl) (Rd.int Try.underlying3)
def ok26 (x : S26) : Prop := (fun n_ : Int => (Lit.int .i64 n_).wf = true) x.f0 ∧ (fun l_ : List Int => ∀ x ∈ l_, (fun n_ : Int => (Lit.int .i64 n_).wf = true) x) x.f1 ∧ (fun n_ : Int => (Lit.int .i64 n_).wf = true) x.f2 ∧ (fun n_ : Int => (Lit.int .i64 n_).wf = true) x.f3
theorem rdy26 : Rd Try.prog 26 k26 ok26 := by
  intro H enc w base spare held fuel cs x h
  obtain ⟨ys, n', hn', hy, hlen, hyl, hf⟩ := DataW.trod_struct Try.underlying26 h
  have hlen' : cs.length = 4 := hlen.trans (by kernel_rfl)
  obtain ⟨x0, h0, o0⟩ := field_read (o := 0) (s := 1) (hf 0 _ rfl) (by rw [hyl]; decide) (by kernel_rfl) (by kernel_rfl) (Rd.int Try.underlying3)
  obtain ⟨x1, h1, o1⟩ := field_read (o := 1) (s := 1) (hf 1 _ rfl) (by rw [hyl]; decide) (by kernel_rfl) (by kernel_rfl) rdy24
  obtain ⟨x2, h2, o2⟩ := field_read (o := 2) (s := 1) (hf 2 _ rfl) (by rw [hyl]; decide) (by kernel_rfl) (by kernel_rfl) (Rd.int Try.underlying2)
  obtain ⟨x3, h3, o3⟩ := field_read (o := 3) (s := 1) (hf 3 _ rfl) (by rw [hyl]; decide) (by kernel_rfl) (by kernel_rfl) (Rd.int Try.underlying2)
  have g3 := last_K (o := 3) (s := 1) h3 hlen'
  have g2 := pair_K (o := 2) (s := 1) h2 g3
  have g1 := pair_K (o := 1) (s := 1) h1 g2
  have g0 := pair_K (o := 0) (s := 1) h0 g1
  exact ⟨⟨x0, x1, x2, x3⟩, g0, ⟨o0, o1, o2, o3⟩⟩
end Go.Proofs.Ytgeldfjpafimpaa.PAll
