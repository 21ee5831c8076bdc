-- laid by a program of this session (tprint.py) out of the translation and of texts typed by hand; Lean checks it
import Derived.Test.YtgeldfjpafimpaaPAllx0
namespace Go.Proofs.Ytgeldfjpafimpaa.PAll
open Go.RowKit Go.Proofs.YtgeldfjpafimpaaW.PrintWords Go.Proofs.YtgeldfjpafimpaaW.PrintLast Go.Proofs.YtgeldfjpafimpaaW.PrintMore
attribute [local go_sem] max2_int min2_int max_two min_two max_three min_three max_four min_four   -- for this text's walks alone
set_option linter.unusedVariables false
set_option linter.unusedSimpArgs false

/-! ### plant_grow: function 38 -/
section
variable {P : Program}
theorem q_zeros (w : World) (base : Nat) (t ti ty e : TypeId) (i : TypeInfo) (z : Value) (size bytes : Nat) (ht : P.underlying t = some (.slice e)) {k : IntKind} (hti : P.underlying ti = some (.int k)) (hi : P.info? e = some i) (hz : i.zero = some z)
    (hsize : i.size = size) (hby : i.bytes = bytes) (hzs : z.cells.size = size) (hsz : 0 < size) (hb0 : 0 < bytes)
    (v : Value) (n : Nat) (xs : List Value) (hown : QRow w base e size v n xs) (kx : IntKind) (m : Nat) (hm : m ≠ 0) (h1 : ∀ u ∈ (Builtin.zeroCells z.cells m).toList, u.oneCell' = true)
    (hbytes : (n + m) * bytes ≤ 140737488355328) (hbase : base ≤ w.heap.size) :
    ∃ v' w', (Builtin.append_ #[t, ti] ty #[v, .int kx m]).run P w = .ok v' w' ∧ QRow w' base e size v' (n + m) (xs ++ (Builtin.zeroCells z.cells m).toList) ∧ w.grownBy w' v.ownBlock ∧
      (v'.ownBlock = v.ownBlock ∨ ∃ b, v'.ownBlock = some b ∧ w.heap.size ≤ b) := by
  subst hsize
  subst hby
  have hle : n + m ≤ 140737488355328 := Nat.le_trans (Nat.le_mul_of_pos_right _ hb0) hbytes
  have h63 : n + m ≤ maxLen := by simp only [maxLen]; omega
  have hw : IntKind.i64.wrap (m : Int) = m := by rw [IntKind.wrap_i64]; omega
  have hneg : ¬ ((m : Int) < 0) := by omega
  have hmb : m * i.bytes ≤ 140737488355328 := Nat.le_trans (Nat.mul_le_mul_right _ (Nat.le_add_left m n)) hbytes
  have hbig : ¬ (281474976710656 < (m : Int) * (i.bytes : Int)) := by
    rw [← Int.natCast_mul]
    omega
  have hsn : i.size ≠ 0 := by omega
  have hmz : ¬ (m * i.size = 0) := Nat.mul_ne_zero hm hsn
  obtain ⟨news, hnews⟩ : ∃ news, news = (Builtin.zeroCells z.cells m).toList := ⟨_, rfl⟩
  rw [← hnews] at h1 ⊢
  have hl : news.length = m * i.size := by rw [hnews, Array.length_toList, size_zeroCells, hzs]
  have hna : Builtin.zeroCells z.cells m = news.toArray := by rw [hnews]
  have hlen : (xs ++ news).length = (n + m) * i.size := by rw [List.length_append, hown.1, hl, Nat.add_mul]
  have grown : ∀ (old : Nat), old < n + m → ∀ (row : Option Nat),
      (w.drew.alloc (.cells (xs.toArray ++ news.toArray ++ Builtin.zeroCells z.cells (grownCap w (n + m) old e - (n + m))) e)).ownsRow base e i.size
        (.slice (some ⟨w.heap.size, 0, none⟩) (n + m) (grownCap w (n + m) old e)) (n + m) (xs ++ news) ∧
      w.grownBy (w.drew.alloc (.cells (xs.toArray ++ news.toArray ++ Builtin.zeroCells z.cells (grownCap w (n + m) old e - (n + m))) e)) row := by
    intro old ho row
    have hge := grownCap_ge w (n + m) old e
    have hcm : grownCap w (n + m) old e ≤ maxLen := grownCap_le_maxLen w (n + m) old e h63
    refine ⟨⟨hlen, .inr ⟨w.heap.size, _, _, rfl, hbase, heap_alloc_new w.drew _, hge, hcm, ?_, ?_⟩⟩, ⟨rfl, rfl, rfl, by simp, fun k hk _ => heap_alloc_old w.drew _ hk⟩⟩
    · simp only [Array.size_append, List.size_toArray, size_zeroCells, hzs, hown.1, hl, ← Nat.add_mul]
      congr 1
      omega
    · simp only [Array.toList_append, List.append_assoc]
      rw [← List.append_assoc, ← hlen]
      exact List.take_left
  have runs : ∀ (A : Option Addr) (cap : Nat), cap < n + m → (Builtin.firstCells i.size n (.slice A n cap)).run P w.drew = .ok xs.toArray w.drew → (Builtin.append_ #[t, ti] ty #[.slice A n cap, .int kx m]).run P w =
      .ok (.slice (some ⟨w.heap.size, 0, none⟩) (n + m) (grownCap w (n + m) cap e)) (w.drew.alloc (.cells (xs.toArray ++ news.toArray ++ Builtin.zeroCells z.cells (grownCap w (n + m) cap e - (n + m))) e)) := by
    intro A cap hcap hfo
    have hn : ¬ (n + m ≤ cap) := by omega
    have h63' : ¬ (9223372036854775807 < ((n : Int) + (m : Int))) := by omega
    have hfit := growslice_fits hcap hbytes
    have h48' : ¬ (281474976710656 < Builtin.nextslicecap (n + m) cap * i.bytes) := by omega
    simp [Builtin.append_, run_underlying ht, run_underlying hti, sizeOf, typeInfo, zeroValue, hi, hz, asInt, asIntOf, hw, hneg, hbig, hn, h63', h48', Question.forced, hfo, newRow, grownCap, hmz, hna]
    congr 2
    apply Array.ext'
    simp [List.append_assoc]
  have grows : ∀ (A : Option Addr) (cap : Nat), cap < n + m → (Builtin.firstCells i.size n (.slice A n cap)).run P w.drew = .ok xs.toArray w.drew → v = .slice A n cap →
      ∃ v' w', (Builtin.append_ #[t, ti] ty #[v, .int kx m]).run P w = .ok v' w' ∧ QRow w' base e i.size v' (n + m) (xs ++ news) ∧ w.grownBy w' v.ownBlock ∧ (v'.ownBlock = v.ownBlock ∨ ∃ b, v'.ownBlock = some b ∧ w.heap.size ≤ b) := by
    intro A cap hcap hfo hv
    have hgr := grown cap hcap v.ownBlock
    exact ⟨_, _, by rw [hv]; exact runs A cap hcap hfo, q_of_own hgr.1, hgr.2, .inr ⟨_, rfl, Nat.le_refl _⟩⟩
  rcases hown.2 with ⟨h0, A, hv, hA⟩ | ⟨g, off, cap, cur, hv, hbg, hg, hnc, hcm, hcs, htake⟩
  · have hx : xs = [] := List.eq_nil_of_length_eq_zero (by rw [hown.1, h0, Nat.zero_mul])
    refine grows A 0 (by omega) ?_ (by rw [hv, h0])
    subst hx
    subst h0
    cases A with
    | none => simp [Builtin.firstCells]
    | some b => simpa using run_firstCells_some (P := P) w.drew i.size 0 b 0 0 [] (by simp) (by simp)
  · by_cases hroom : n + m ≤ cap
    · have hfit : off * i.size + n * i.size + news.length ≤ cur.size := by
        rw [hl, hcs, ← Nat.add_mul, ← Nat.add_mul]
        exact Nat.mul_le_mul_right _ (by omega)
      have hst := run_storeCells_cells (P := P) g (off * i.size + n * i.size) news 0 w (fun j hj => by rw [cell_of_row w g _ cur e (0, 0) hg]; simp; omega) (fun j _ => blk_frozen hg _) h1
      simp only [Nat.add_zero] at hst
      obtain ⟨cur', h3, h4, h5⟩ := setCells_row news (off * i.size + n * i.size) w cur hg hfit
      obtain ⟨s1, s2, s3, s4⟩ := setCells_same g news (off * i.size + n * i.size) w
      have hadd : (⟨g, off * i.size, none⟩ : Addr).add (n * i.size) = ⟨g, off * i.size + n * i.size, none⟩ := add_at _ _ _
      refine ⟨.slice (some ⟨g, off * i.size, none⟩) (n + m) cap, w.setCells g (off * i.size + n * i.size) news, ?_, ⟨by rw [List.length_append, hown.1, hl, Nat.add_mul], .inr ⟨g, off, cap, cur', rfl, hbg, h3, hroom, hcm, by rw [h4, hcs], ?_⟩⟩,
        ⟨s1, s2, s3, by rw [s4]; exact Nat.le_refl _, fun k _ hk => setCells_far news _ k (fun he => hk (by rw [hv, he]; simp [Value.ownBlock]))⟩, .inl (by rw [hv]; rfl)⟩
      · rw [hv]
        simp [Builtin.append_, run_underlying ht, run_underlying hti, sizeOf, typeInfo, zeroValue, hi, hz, asInt, asIntOf, hw, hneg, hbig, hroom, hmz, hna, hadd, hst]
      · rw [h5, List.append_assoc, List.drop_append_of_le_length (by rw [List.length_take, Array.length_toList]; omega), List.drop_take]
        rw [show off * i.size + n * i.size - off * i.size = n * i.size by omega, htake]
        rw [← List.append_assoc]
        exact List.take_left' (by rw [List.length_append, hown.1, hl, Nat.add_mul])
    · refine grows (some ⟨g, off * i.size, none⟩) cap (by omega) ?_ hv
      refine run_firstCells_some (P := P) w.drew i.size n _ n cap xs hown.1 (fun j u hu => ?_)
      have hgd : w.drew.heap[g]? = some (.cells cur e (0, 0)) := hg
      rw [add_at, cell_of_row w.drew g _ cur e (0, 0) hgd]
      rw [← htake, List.getElem?_take] at hu
      split at hu
      · rw [List.getElem?_drop] at hu
        rw [← Array.getElem?_toList]
        exact hu
      · cases hu
end
section
variable {P : Program} {α : Type}
theorem Q_zeros_run (d : Kd α) {W : World} (base : Nat) (t ti ty e : TypeId) (z : Value) (bytes : Nat) (ht : P.underlying t = some (.slice e)) {k : IntKind} (hti : P.underlying ti = some (.int k)) (hinfo : (P.info? e).map (fun i => (i.zero, i.size, i.bytes)) = some (some z, d.sz, bytes)) (hz : z.cells.size = d.sz) (hs0 : 0 < d.sz) (hb0 : 0 < bytes)
    (v : Value) (xs : List α) (z0 : α) {ok : Nat → Prop} (hzero : d.M W base (fun _ => False) z0 z.cells.toList) (hfresh : ∀ k, W.heap.size ≤ k → ok k) (HO : d.Q e W base ok v xs) (kx : IntKind) (n : Int) (h0 : 0 < n) (hl : (xs.length + n.toNat) * bytes ≤ 140737488355328) (hbase : base ≤ W.heap.size) :
    ∃ v1 w1, (Builtin.append_ #[t, ti] ty #[v, .int kx n]).run P W = .ok v1 w1 ∧ d.Q e w1 base ok v1 (xs ++ List.replicate n.toNat z0) ∧ W.grownBy w1 v.ownBlock ∧ (v1.ownBlock = v.ownBlock ∨ ∃ b, v1.ownBlock = some b ∧ W.heap.size ≤ b) := by
  obtain ⟨m, rfl⟩ := Int.eq_ofNat_of_zero_le (Int.le_of_lt h0)
  simp only [Int.toNat_natCast] at hl ⊢
  have hm : m ≠ 0 := by omega
  obtain ⟨i0, hi, hzz⟩ := Option.map_eq_some_iff.1 hinfo
  simp only [Prod.mk.injEq] at hzz
  obtain ⟨hz0, hz1, hz2⟩ := hzz
  obtain ⟨hok, inner, hown, hr⟩ := HO
  have hnM : Reps (d.M W base (fun _ => False)) d.sz (List.replicate m z0) (Builtin.zeroCells z.cells m).toList := Kd.reps_zeros hz hs0 hzero m
  obtain ⟨v1, w1, hrun, h2, hg, hat'⟩ := q_zeros (P := P) W base t ti ty e i0 z d.sz bytes ht hti hi hz0 hz1 hz2 hz hs0 hb0 v xs.length inner hown kx m hm (Kd.reps_one hnM hs0 (fun _ _ hp => d.K_one (d.K_of_M hp))) hl hbase
  have hne : ∀ k, some k ≠ v.ownBlock → k < W.heap.size → some k ≠ v1.ownBlock := by
    intro k hk hlt
    rcases hat' with hat | ⟨b, hb, hle⟩
    · rw [hat]; exact hk
    · rw [hb]
      intro he
      injection he with he
      omega
  have step : ∀ {q : α} {c : List Value} {o : Nat → Prop}, d.M W base o q c → (∀ k, o k → ok k ∧ some k ≠ v.ownBlock) → d.M w1 base (fun k => ok k ∧ some k ≠ v1.ownBlock) q c := by
    intro q c o hq ho
    have h1 := d.M_move (w1 := w1) (fun k hk => hg.block k hk.2.2.1 (ho k hk.1).2) (d.M_bound hq)
    exact d.M_mono (fun k hk => ⟨(ho k hk.1).1, hne k (ho k hk.1).2 hk.2.2.1⟩) h1
  refine ⟨v1, w1, hrun, ⟨fun k hk => ?_, inner ++ (Builtin.zeroCells z.cells m).toList, by rw [List.length_append, List.length_replicate]; exact h2, Kd.reps_append (hr.imp_ (fun _ _ hq => step hq (fun _ hk => hk))) (hnM.imp_ (fun _ _ hq => step hq (fun _ hk => hk.elim)))⟩, hg, hat'⟩
  rcases hat' with hat | ⟨b, hb, hle⟩
  · exact hok k (hat ▸ hk)
  · rw [hb] at hk
    injection hk with hk
    exact hfresh k (by omega)
end
section
variable {P : Program} {ops : Array Oper} {rest : List Oper} {o : Oper} {a : Act} {Q : Exit → Act → World → Prop} {α : Type}
theorem Q_append_zeros (d : Kd α) {W : World} (base : Nat) (hgd : o.guard = none) (s x : Operand) (t ti e : TypeId) (z : Value) (bytes : Nat)
    (ho : o.op = .call { callee := .builtin .append, args := #[s, x], argTypes := #[t, ti] })
    (ht : P.underlying t = some (.slice e)) {k : IntKind} (hti : P.underlying ti = some (.int k)) (hinfo : (P.info? e).map (fun i => (i.zero, i.size, i.bytes)) = some (some z, d.sz, bytes)) (hz : z.cells.size = d.sz) (hs0 : 0 < d.sz) (hb0 : 0 < bytes)
    (v : Value) (xs : List α) (z0 : α) {kx : IntKind} (n : Int) (ok : Nat → Prop) (hs : a.eval s = v) (hx : a.eval x = .int kx n) (hzero : d.M W base (fun _ => False) z0 z.cells.toList) (hfresh : ∀ k, W.heap.size ≤ k → ok k)
    (HO : d.Q e W base ok v xs) (h0 : 0 < n) (hbase : base ≤ W.heap.size) (hl : (xs.length + n.toNat) * bytes ≤ 140737488355328)
    (h : ∀ v1 w1, d.Q e w1 base ok v1 (xs ++ List.replicate n.toNat z0) → W.grownBy w1 v.ownBlock → (v1.ownBlock = v.ownBlock ∨ ∃ b, v1.ownBlock = some b ∧ W.heap.size ≤ b) → wpList P ops Q rest (a.put o.dst v1) w1) :
    wpList P ops Q (o :: rest) a W := by
  obtain ⟨v1, w1, hr1, h1, hg, hat⟩ := Q_zeros_run (P := P) d base t ti o.type e z bytes ht hti hinfo hz hs0 hb0 v xs z0 hzero hfresh HO kx n h0 hl hbase
  refine wpList_plain hgd fun K hK => ?_
  unfold Oper.wp execOp
  simp only [ho, resolve, invoke, builtin, Sem.run_bind, Sem.run_pure, Result.andThen_ok, List.map_toArray, List.map_cons, List.map_nil, hs, hx, hr1]
  exact hK _ _ (h v1 w1 h1 hg hat)
end
/-- WHAT grow DOES, delay ahead of 0. -/
def growL (delay many : Int) (l : List Int) : List Int :=
  let l2 := if delay - (l.length : Int) > 0 then l ++ List.replicate (delay - (l.length : Int)).toNat 0 else l
  l2.set (delay - 1).toNat (wrap64 (rd l2 (delay - 1) + many))
set_option maxHeartbeats 8000000 in
set_option maxRecDepth 100000 in
theorem grow_zero (pb : Nat) (many R wt ut : Int) (v : Value) (W : World) (hP : W.heap[pb]? = some (.cells #[.int .i64 R, v, .int .i64 wt, .int .i64 ut] 26 (0, 0))) :
    Calls Try.prog 38 #[.pointer (some ⟨pb, 0, none⟩), .int .i64 0, .int .i64 many] W fun e W' => e = .returned (.tuple #[]) ∧ W' = W.setCell ⟨pb, 0, none⟩ (.int .i64 (wrap64 (R + many))) := by
  have hu := Try.underlying26
  have p0 := blk_cell hP 0
  have f0 := blk_frozen hP 0
  simp only [List.getElem?_toArray, List.getElem?_cons_zero, List.getElem?_cons_succ] at p0
  clear hP
  go_enter Try.func38, Try.ntmps38
  go_wp2
  exact bodyPost_ret (results_none rfl _ _ _) rfl ⟨rfl, rfl⟩
set_option maxHeartbeats 8000000 in
set_option maxRecDepth 100000 in
theorem grow_old (pb g off cap : Nat) (delay many R wt ut : Int) (l : List Int) (base : Nat) (W : World) (hP : W.heap[pb]? = some (.cells #[.int .i64 R, .slice (some ⟨g, off, none⟩) l.length cap, .int .i64 wt, .int .i64 ut] 26 (0, 0)))
    (hQ : (Kd.int .i64).Q 3 W base (fun _ => True) (.slice (some ⟨g, off, none⟩) l.length cap) l) (hd : 0 < delay) (hd8 : delay ≤ 8) (hl : delay ≤ (l.length : Int)) (hl8 : l.length ≤ 8) :
    Calls Try.prog 38 #[.pointer (some ⟨pb, 0, none⟩), .int .i64 delay, .int .i64 many] W fun e W' => e = .returned (.tuple #[]) ∧ W' = W.setCell ⟨g, off + (delay - 1).toNat, none⟩ (.int .i64 (wrap64 (rd l (delay - 1) + many))) := by
  have hu := Try.underlying26
  have p1 := blk_cell hP 1
  simp only [List.getElem?_toArray, List.getElem?_cons_zero, List.getElem?_cons_succ] at p1
  obtain ⟨c1, c2⟩ := Kd.Q_cell (0 : Int) hQ (delay - 1) (by omega) (by omega)
  have e : (delay - 1).toNat = delay.toNat - 1 := by omega
  obtain ⟨x, hx⟩ : ∃ x, rd l (delay - 1) = x := ⟨_, rfl⟩
  have c1' : W.cell? ⟨g, off + (delay.toNat - 1), none⟩ = some (.int .i64 x) := by rw [← hx, ← e]; exact c1
  have c2' : W.frozen? ⟨g, off + (delay.toNat - 1), none⟩ = false := by rw [← e]; exact c2
  rw [e, hx]
  clear hP hQ c1 c2
  have w1 : wrap64 (delay - (l.length : Int)) = delay - (l.length : Int) := IntWalk.wrap64_in _ (by omega)
  have w2 : wrap64 (delay - 1) = delay - 1 := IntWalk.wrap64_in _ (by omega)
  have b1 : (delay == 0) = false := by simp; omega
  have b2 : decide ((l.length : Int) < delay) = false := decide_eq_false (by omega)
  have b3 : 0 ≤ delay - 1 := by omega
  have b4 : delay - 1 < (l.length : Int) := by omega
  clear hx e
  go_enter Try.func38, Try.ntmps38
  go_wp2
  exact bodyPost_end (results_none rfl _ _ _) rfl ⟨rfl, rfl⟩
set_option maxHeartbeats 8000000 in
set_option maxRecDepth 100000 in
theorem grow_new (pb : Nat) (v : Value) (delay many R wt ut : Int) (l : List Int) (base : Nat) (W : World) (hP : W.heap[pb]? = some (.cells #[.int .i64 R, v, .int .i64 wt, .int .i64 ut] 26 (0, 0)))
    (hQ : (Kd.int .i64).Q 3 W base (fun _ => True) v l) (hbase : base ≤ W.heap.size) (hd : 0 < delay) (hd8 : delay ≤ 8) (hl : (l.length : Int) < delay) :
    Calls Try.prog 38 #[.pointer (some ⟨pb, 0, none⟩), .int .i64 delay, .int .i64 many] W fun e W' => e = .returned (.tuple #[]) ∧ ∃ v', W'.heap[pb]? = some (.cells #[.int .i64 R, v', .int .i64 wt, .int .i64 ut] 26 (0, 0)) ∧ (Kd.int .i64).Q 3 W' base (fun _ => True) v' (growL delay many l) ∧ Kept W W' (fun k => k = pb ∨ some k = v.ownBlock) ∧ (W'.os = W.os ∧ W'.tape = W.tape ∧ W'.output = W.output) := by
  have hu := Try.underlying26
  obtain ⟨A, cap, rfl, hcap⟩ := Kd.Q_slice hQ
  have p1 := blk_cell hP 1
  have f1 := blk_frozen hP 1
  simp only [List.getElem?_toArray, List.getElem?_cons_zero, List.getElem?_cons_succ] at p1
  have HQ := Aside0.mk hQ
  have HP := Aside0.mk hP
  have hne := Aside0.mk (Kd.Q_ne hQ hP (by decide))
  have hs0 : 0 < delay - (l.length : Int) := by omega
  have w1 : wrap64 (delay - (l.length : Int)) = delay - (l.length : Int) := IntWalk.wrap64_in _ (by omega)
  have w2 : wrap64 (delay - 1) = delay - 1 := IntWalk.wrap64_in _ (by omega)
  have b1 : (delay == 0) = false := by simp; omega
  have b2 : decide ((l.length : Int) < delay) = true := decide_eq_true hl
  have b3 : 0 ≤ delay - 1 := by omega
  have Hb := Aside0.mk hbase
  have Hl := Aside0.mk hl
  have Hd8 := Aside0.mk hd8
  have Hs0 := Aside0.mk hs0
  clear hP hQ hcap hs0
  go_enter Try.func38, Try.ntmps38
  go_wp2_with ((with_reducible refine gate_builtin (b := .append) (xs := #[.tmp 30, .tmp 31]) rfl ?_); at_builtin; refine Q_append_zeros (Kd.int .i64) base rfl (.tmp 30) (.tmp 31) 24 3 3 (.int .i64 0) 8 rfl Try.underlying24 Try.underlying3 info3 rfl (by decide) (by omega) _ l (0 : Int) (delay - (l.length : Int)) (fun _ => True) rfl rfl ?z (fun _ _ => trivial) HQ.out Hs0.out Hb.out (by have := Hl.out; have := Hd8.out; omega) ?_; (case z => exact rfl); intro v1 u1 hq hg hat; obtain ⟨l2, hl2⟩ : ∃ l2, l ++ List.replicate (delay - (l.length : Int)).toNat (0 : Int) = l2 := ⟨_, rfl⟩; rw [hl2] at hq; have hlen : l2.length = delay.toNat := (by rw [← hl2]; have := Hl.out; simp; omega); obtain ⟨g, o1, cap1, hv1, _, _, _⟩ := Kd.Q_form hq (by have := Hl.out; omega); subst hv1; have hP1 := blk_grown HP.out hg hne.out; have hq2 := Kd.Q_set hq hP1 (by decide) 1 (.slice (some ⟨g, o1, none⟩) l2.length cap1); have en : (delay - 1).toNat = delay.toNat - 1 := (by omega); obtain ⟨c1, c2⟩ := Kd.Q_cell (0 : Int) hq2 (delay - 1) (by omega) (by omega); rw [en] at c1 c2; obtain ⟨x, hx⟩ : ∃ x, rd l2 (delay - 1) = x := ⟨_, rfl⟩; have c3 : (u1.setCell ⟨pb, 1, none⟩ (.slice (some ⟨g, o1, none⟩) l2.length cap1)).cell? ⟨g, o1 + (delay.toNat - 1), none⟩ = some (.int .i64 x) := (by rw [← hx]; exact c1); have q1 := blk_cell hP1 1; have qf1 := blk_frozen hP1 1; simp only [List.getElem?_toArray, List.getElem?_cons_zero, List.getElem?_cons_succ] at q1; have b4 : delay - 1 < (l2.length : Int) := (by omega); have HX := Aside0.mk hx; have HQ1 := Aside0.mk hq; have HQ2 := Aside0.mk hq2; have HG := Aside0.mk hg; have HAT := Aside0.mk hat; have HP1 := Aside0.mk hP1; have HL2 := Aside0.mk hl2; have c2' : (u1.setCell ⟨pb, 1, none⟩ (.slice (some ⟨g, o1, none⟩) l2.length cap1)).frozen? ⟨g, o1 + (delay.toNat - 1), none⟩ = false := c2; clear hx hq hq2 hg hat hP1 hl2 c1 c2 hlen)
  have hgp : g ≠ pb := by
    have z := Kd.Q_ne HQ1.out HP1.out (by decide)
    intro h
    exact z (by rw [h]; rfl)
  have hfin := (Kd.Q_putg HQ2.out (delay - 1) b3 b4 (wrap64 (x + many))).1
  have hown : ∀ k, k = g → (k = pb ∨ some k = (Value.slice A l.length cap).ownBlock) ∨ W.heap.size ≤ k := by
    rintro k rfl
    rcases HAT.out with h | ⟨b, h, hle⟩
    · exact .inl (.inr h)
    · have : k = b := Option.some.inj h
      exact .inr (by omega)
  have en : (delay - 1).toNat = delay.toNat - 1 := by omega
  refine bodyPost_end (results_none rfl _ _ _) rfl ⟨rfl, _, blk_far (blk_put HP1.out 1 _ rfl) (Ne.symm hgp) _, ?_, ?_, ?_⟩
  · have e : growL delay many l = l2.set (delay - 1).toNat (wrap64 (x + many)) := by
      unfold growL
      simp only
      rw [if_pos (by have := Hl.out; omega), HL2.out, HX.out]
    rw [e, ← en]
    exact hfin
  · refine Kept.setCell (Kept.setCell (Kept.of_grown HG.out (Kept.refl W _) (fun k h => .inl (.inr h.symm))) (.inl (.inl rfl)) _) ?_ _
    exact hown g rfl
  · exact ⟨HG.out.os, HG.out.tape, HG.out.output⟩

end Go.Proofs.Ytgeldfjpafimpaa.PAll
