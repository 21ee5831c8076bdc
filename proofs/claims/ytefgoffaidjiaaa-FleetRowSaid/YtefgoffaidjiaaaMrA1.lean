/- What the laws FleetRow lean on: the contracts of the functions that they reach, part 1 of 6. -/
import Derived.Test.YtefgoffaidjiaaaRows
import Derived.Test.YtefgoffaidjiaaaProg
import Derived.Test.YtefgoffaidjiaaaCWords
import Derived.Below
import Derived.Deep.Draws
import Derived.Deep.AppendLies
import Derived.Maps.AppendAt
import Derived.OwnWalk
import Derived.Laws.BytesArg
import Derived.Laws.MakeOwn
import Derived.Laws.OwnMore
import Derived.Deep.OwnRows
import Derived.Tactics
import Derived.Lib.ConvBytes
import Derived.Laws.Slices
import Derived.WalkKit
import Derived.KernelRfl
import Derived.RowKit3
import Derived.Deep.LoopGhost
import Derived.Deep.QuietTactic
import Derived.BigQuiet
import Derived.WideLaws
import Derived.Deep.DeepCutAuto
import Derived.Deep.CutBlock
import Derived.Deep.RegionHeld3
import Derived.Laws.Rows
import Derived.Lib.AppendStr
import Derived.ArgAppend
import Derived.Laws.IdiomCopy
import Derived.OrdersHeld
import Derived.Laws.BitsLemmas
import Derived.RowKit
import Derived.Deep.Slices
import Derived.Deep.Fields
import Derived.ChangeSame
import Derived.Shelf.Abstract
import Derived.RangeFuncNested
import Derived.RangeFuncBound
import Derived.RangeFuncCalls
import Derived.RangeFuncLeaves
import Derived.RangeFuncBox
import Derived.Shelf.RegionOpen
import Derived.OwnWalkIn
import Derived.TacticsInMore
import Derived.LoopNIn
import Derived.LoopIn
import Derived.MapKept
import Derived.Laws.EntriesVeiled
import Derived.IntWalk
import Derived.StillTailTactics
import Derived.Deep.MidRow
import Derived.ProofKit
import Derived.OpenShut
import Derived.ShutString
import Derived.ChangeOld
import Derived.SizedLaws
namespace Go.Proofs.Ytefgoffaidjiaaa.PAll
open Go.RowKit Go.Proofs.YtefgoffaidjiaaaW.PrintWords Go.Proofs.YtefgoffaidjiaaaW.PrintLast Go.Proofs.YtefgoffaidjiaaaW.PrintMore
set_option linter.unusedVariables false
set_option linter.unusedSimpArgs false
theorem pu_ {P : Program} {md : Region.Mode} {ops : Array Oper} {Q : Exit → Act → World → Prop} {S : World → Prop} {ds : List Nat} (i K : Nat) {oi : Oper} {v : Value} {fuel : Nat} {l : Array Bool} {a : Act} {w : World} (l' : Array Bool) {a' : Act} (h : wpAnyLast P md ops Q S ds fuel l' a' w) (hi : ops[i]? = some oi := by rfl) (hN : oi.dst = some K := by rfl) (hc : anyB md ops l l' i = true := by kernel_rfl)
  (hQ : ∀ c a w, Q (.panic c) (a.put oi.dst v) w → Q (.panic c) a w := by exact fun _ _ _ h => h) (hw : Region.wanted oi (yielded ops a.tmps) = true := by rfl) (hy : ∀ w', (execOp a.eval oi).run P w' = .ok (.value v) w' := by (intro w'; go_simp; with_reducible rfl)) (ha : a.put (some K) v = a' := by (simp only [Act.put, List.setIfInBounds_toArray, List.set_cons_zero, List.set_cons_succ, i64_w, i32_w]; rfl)) : wpAnyLast P md ops Q S ds (fuel + 1) l a w :=
 pure_ l' hi hN hc hQ (Or.inl ⟨hw, hy⟩) ha h
theorem ta_ {P : Program} {md : Region.Mode} {ops : Array Oper} {Q : Exit → Act → World → Prop} {S : World → Prop} {ds : List Nat} (i K : Nat) {oi : Oper} {v : Value} {fuel : Nat} {l : Array Bool} {a : Act} {w : World} (l' : Array Bool) {a' : Act} (hS : S w) (hy : ∀ w', S w' → (execOp a.eval oi).run P w' = .ok (.value v) w') (h : wpAnyLast P md ops Q S ds fuel l' a' w) (hi : ops[i]? = some oi := by rfl) (hN : oi.dst = some K := by rfl) (hc : takeB md ops ds l l' i = true := by kernel_rfl)
  (hQ : ∀ c a w, Q (.panic c) (a.put oi.dst v) w → Q (.panic c) a w := by exact fun _ _ _ h => h) (hw : Region.wanted oi (yielded ops a.tmps) = true := by rfl) (ha : a.put (some K) v = a' := by (simp only [Act.put, List.setIfInBounds_toArray, List.set_cons_zero, List.set_cons_succ, i64_w, i32_w]; rfl)) : wpAnyLast P md ops Q S ds (fuel + 1) l a w :=
 take_ l' hi hN hc hQ (Or.inl ⟨hw, hy⟩) hS ha h
theorem no_ {P : Program} {md : Region.Mode} {ops : Array Oper} {Q : Exit → Act → World → Prop} {S : World → Prop} {ds : List Nat} (K : Nat) {v : Value} {fuel : Nat} {l : Array Bool} {a : Act} {w : World} {a' : Act} (h : wpAnyLast P md ops Q S ds fuel l a' w) (ha : a.put (some K) v = a' := by (simp only [Act.put, List.setIfInBounds_toArray, List.set_cons_zero, List.set_cons_succ, i64_w, i32_w]; rfl)) : wpAnyLast P md ops Q S ds fuel l (a.put (some K) v) w := norm_ ha h
end Go.Proofs.Ytefgoffaidjiaaa.PAll
namespace Go.Proofs.Ytefgoffaidjiaaa.PAll
open Go.RowKit Go.Proofs.YtefgoffaidjiaaaW.PrintWords Go.Proofs.YtefgoffaidjiaaaW.PrintLast Go.Proofs.YtefgoffaidjiaaaW.PrintMore
attribute [local go_sem] max2_int min2_int max_two min_two max_three min_three max_four min_four   -- for this text's walks alone
set_option linter.unusedVariables false
set_option linter.unusedSimpArgs false



def errW : Option Int → Value
 | none => .nilIface
 | some c => .iface 0 (.int .i64 c)
theorem errW_none : errW none = .nilIface := rfl
theorem errW_some (c : Int) : errW (some c) = .iface 0 (.int .i64 c) := rfl

theorem info3 : (Try.prog.info? 3).map (fun i => (i.zero, i.size, i.bytes)) = some (some (.int .i64 0), 1, 8) := by kernel_rfl
theorem info52 : (Try.prog.info? 52).map (fun i => (i.zero, i.size, i.bytes)) = some (some (.agg #[(.int .i64 0), (.bool false)]), 2, 16) := by kernel_rfl
theorem info56 : (Try.prog.info? 56).map (fun i => (i.zero, i.size, i.bytes)) = some (some (.agg #[(.int .i64 0), (.int .i64 0)]), 2, 16) := by kernel_rfl
theorem info58 : (Try.prog.info? 58).map (fun i => (i.zero, i.size, i.bytes)) = some (some (.agg #[(.int .i64 0), (.int .i64 0)]), 2, 16) := by kernel_rfl
/-! #### struct type 56 -/
structure S56 where
 f0 : Int
 f1 : Int
def z56 : S56 := ⟨(0 : Int), (0 : Int)⟩
def k56 : Kd S56 := Kd.iso (Kd.pair (Kd.int .i64) (Kd.int .i64)) (fun x : S56 => (x.f0, x.f1))
theorem k56_open {w : World} {x : S56} {cs : List Value} (h : k56.K w x cs) : cs = [.int .i64 x.f0, .int .i64 x.f1] := by
 obtain ⟨_, _, rfl, rfl, rfl⟩ := h
 exact rfl
def rd_T56 (xs : List S56) (i : Int) : S56 := xs.getD i.toNat z56
theorem at_T56 {w : World} {A : Option Addr} {n : Nat} {xs : List S56} (h : Kd.C k56 w A n xs) (i : Int) (h0 : 0 ≤ i) (h1 : i < n) : ∃ ad , A = some ad ∧ w.cell? (ad.add (i.toNat * 2)) = some (.int .i64 (rd_T56 xs i).f0) ∧ w.cell? ⟨(ad.add (i.toNat * 2)).block, (ad.add (i.toNat * 2)).off + 1, none⟩ = some (.int .i64 (rd_T56 xs i).f1) := by
 obtain ⟨ad, c, e, _, hK, hc0⟩ := Kd.C_get h z56 i h0 h1
 have hc : ∀ j u, c[j]? = some u → w.cell? (ad.add (i.toNat * 2 + j)) = some u := hc0
 obtain rfl := k56_open hK
 exact ⟨ad, e, hc 0 _ rfl, by rw [← add_field _ _ 1 (by omega)]; exact hc 1 _ rfl⟩

/-! #### struct type 58 -/
structure S58 where
 f0 : Int
 f1 : Int
def z58 : S58 := ⟨(0 : Int), (0 : Int)⟩
def k58 : Kd S58 := Kd.iso (Kd.pair (Kd.int .i64) (Kd.int .i64)) (fun x : S58 => (x.f0, x.f1))
theorem k58_open {w : World} {x : S58} {cs : List Value} (h : k58.K w x cs) : cs = [.int .i64 x.f0, .int .i64 x.f1] := by
 obtain ⟨_, _, rfl, rfl, rfl⟩ := h
 exact rfl
def rd_T58 (xs : List S58) (i : Int) : S58 := xs.getD i.toNat z58
theorem at_T58 {w : World} {A : Option Addr} {n : Nat} {xs : List S58} (h : Kd.C k58 w A n xs) (i : Int) (h0 : 0 ≤ i) (h1 : i < n) : ∃ ad , A = some ad ∧ w.cell? (ad.add (i.toNat * 2)) = some (.int .i64 (rd_T58 xs i).f0) ∧ w.cell? ⟨(ad.add (i.toNat * 2)).block, (ad.add (i.toNat * 2)).off + 1, none⟩ = some (.int .i64 (rd_T58 xs i).f1) := by
 obtain ⟨ad, c, e, _, hK, hc0⟩ := Kd.C_get h z58 i h0 h1
 have hc : ∀ j u, c[j]? = some u → w.cell? (ad.add (i.toNat * 2 + j)) = some u := hc0
 obtain rfl := k58_open hK
 exact ⟨ad, e, hc 0 _ rfl, by rw [← add_field _ _ 1 (by omega)]; exact hc 1 _ rfl⟩

/-! #### struct type 27 -/
structure S27 where
 f0 : Int
 f1 : Int
 f2 : (List S56)
 f3 : Int
 f4 : Int
 f5 : Int
 f6 : Int
 f7 : (List S58)
def k27 : Kd S27 := Kd.iso (Kd.pair (Kd.int .i64) (Kd.pair (Kd.int .i64) (Kd.pair (Kd.slice 56 k56) (Kd.pair (Kd.int .i64) (Kd.pair (Kd.int .i64) (Kd.pair (Kd.int .i64) (Kd.pair (Kd.int .i64) (Kd.slice 58 k58)))))))) (fun x : S27 => (x.f0, x.f1, x.f2, x.f3, x.f4, x.f5, x.f6, x.f7))
theorem k27_open {w : World} {x : S27} {cs : List Value} (h : k27.K w x cs) : ∃ A2 c2 A7 c7, cs = [.int .i64 x.f0, .int .i64 x.f1, .slice A2 x.f2.length c2, .int .i64 x.f3, .int .i64 x.f4, .int .i64 x.f5, .int .i64 x.f6, .slice A7 x.f7.length c7] ∧ x.f2.length ≤ c2 ∧ k56.C w A2 x.f2.length x.f2 ∧ x.f7.length ≤ c7 ∧ k58.C w A7 x.f7.length x.f7 := by
 obtain ⟨_, _, rfl, rfl, ⟨_, _, rfl, rfl, ⟨_, _, rfl, ⟨A2, c2, rfl, l2, g2⟩, ⟨_, _, rfl, rfl, ⟨_, _, rfl, rfl, ⟨_, _, rfl, rfl, ⟨_, _, rfl, rfl, ⟨A7, c7, rfl, l7, g7⟩⟩⟩⟩⟩⟩⟩⟩ := h
 exact ⟨A2, c2, A7, c7, rfl, l2, g2, l7, g7⟩
theorem k27_mk (w : World) (x : S27) {A2 : Option Addr} {c2 : Nat} (l2 : x.f2.length ≤ c2) (g2 : k56.C w A2 x.f2.length x.f2) {A7 : Option Addr} {c7 : Nat} (l7 : x.f7.length ≤ c7) (g7 : k58.C w A7 x.f7.length x.f7) : k27.K w x [.int .i64 x.f0, .int .i64 x.f1, .slice A2 x.f2.length c2, .int .i64 x.f3, .int .i64 x.f4, .int .i64 x.f5, .int .i64 x.f6, .slice A7 x.f7.length c7] := ⟨[.int .i64 x.f0], [.int .i64 x.f1, .slice A2 x.f2.length c2, .int .i64 x.f3, .int .i64 x.f4, .int .i64 x.f5, .int .i64 x.f6, .slice A7 x.f7.length c7], rfl, rfl, ⟨[.int .i64 x.f1], [.slice A2 x.f2.length c2, .int .i64 x.f3, .int .i64 x.f4, .int .i64 x.f5, .int .i64 x.f6, .slice A7 x.f7.length c7], rfl, rfl, ⟨[.slice A2 x.f2.length c2], [.int .i64 x.f3, .int .i64 x.f4, .int .i64 x.f5, .int .i64 x.f6, .slice A7 x.f7.length c7], rfl, ⟨A2, c2, rfl, l2, g2⟩, ⟨[.int .i64 x.f3], [.int .i64 x.f4, .int .i64 x.f5, .int .i64 x.f6, .slice A7 x.f7.length c7], rfl, rfl, ⟨[.int .i64 x.f4], [.int .i64 x.f5, .int .i64 x.f6, .slice A7 x.f7.length c7], rfl, rfl, ⟨[.int .i64 x.f5], [.int .i64 x.f6, .slice A7 x.f7.length c7], rfl, rfl, ⟨[.int .i64 x.f6], [.slice A7 x.f7.length c7], rfl, rfl, ⟨A7, c7, rfl, l7, g7⟩⟩⟩⟩⟩⟩⟩⟩
/-! #### struct type 34 -/
structure S34 where
 f0 : Int
 f1 : (List Int)
 f2 : Int
 f3 : Int
def k34 : Kd S34 := Kd.iso (Kd.pair (Kd.int .i64) (Kd.pair (Kd.slice 3 (Kd.int .i64)) (Kd.pair (Kd.int .i64) (Kd.int .i64)))) (fun x : S34 => (x.f0, x.f1, x.f2, x.f3))
theorem k34_open {w : World} {x : S34} {cs : List Value} (h : k34.K w x cs) : ∃ A1 c1, cs = [.int .i64 x.f0, .slice A1 x.f1.length c1, .int .i64 x.f2, .int .i64 x.f3] ∧ x.f1.length ≤ c1 ∧ (Kd.int .i64).C w A1 x.f1.length x.f1 := by
 obtain ⟨_, _, rfl, rfl, ⟨_, _, rfl, ⟨A1, c1, rfl, l1, g1⟩, ⟨_, _, rfl, rfl, rfl⟩⟩⟩ := h
 exact ⟨A1, c1, rfl, l1, g1⟩
theorem k34_mk (w : World) (x : S34) {A1 : Option Addr} {c1 : Nat} (l1 : x.f1.length ≤ c1) (g1 : (Kd.int .i64).C w A1 x.f1.length x.f1) : k34.K w x [.int .i64 x.f0, .slice A1 x.f1.length c1, .int .i64 x.f2, .int .i64 x.f3] := ⟨[.int .i64 x.f0], [.slice A1 x.f1.length c1, .int .i64 x.f2, .int .i64 x.f3], rfl, rfl, ⟨[.slice A1 x.f1.length c1], [.int .i64 x.f2, .int .i64 x.f3], rfl, ⟨A1, c1, rfl, l1, g1⟩, ⟨[.int .i64 x.f2], [.int .i64 x.f3], rfl, rfl, rfl⟩⟩⟩
/-! #### struct type 52 -/
structure S52 where
 f0 : Int
 f1 : Bool
def z52 : S52 := ⟨(0 : Int), false⟩
def k52 : Kd S52 := Kd.iso (Kd.pair (Kd.int .i64) Kd.bool) (fun x : S52 => (x.f0, x.f1))
theorem k52_open {w : World} {x : S52} {cs : List Value} (h : k52.K w x cs) : cs = [.int .i64 x.f0, .bool x.f1] := by
 obtain ⟨_, _, rfl, rfl, rfl⟩ := h
 exact rfl
theorem k52_mkM (w : World) (base : Nat) (ok : Nat → Prop) (x : S52)  : k52.M w base ok x [.int .i64 x.f0, .bool x.f1] := ⟨[.int .i64 x.f0], [.bool x.f1], rfl, rfl, rfl⟩
def rd_T52 (xs : List S52) (i : Int) : S52 := xs.getD i.toNat z52
theorem at_T52 {w : World} {A : Option Addr} {n : Nat} {xs : List S52} (h : Kd.C k52 w A n xs) (i : Int) (h0 : 0 ≤ i) (h1 : i < n) : ∃ ad , A = some ad ∧ w.cell? (ad.add (i.toNat * 2)) = some (.int .i64 (rd_T52 xs i).f0) ∧ w.cell? ⟨(ad.add (i.toNat * 2)).block, (ad.add (i.toNat * 2)).off + 1, none⟩ = some (.bool (rd_T52 xs i).f1) := by
 obtain ⟨ad, c, e, _, hK, hc0⟩ := Kd.C_get h z52 i h0 h1
 have hc : ∀ j u, c[j]? = some u → w.cell? (ad.add (i.toNat * 2 + j)) = some u := hc0
 obtain rfl := k52_open hK
 exact ⟨ad, e, hc 0 _ rfl, by rw [← add_field _ _ 1 (by omega)]; exact hc 1 _ rfl⟩

/-! #### struct type 29 -/
structure S29 where
 f0 : Int
 f1 : Int
 f2 : Bool
def k29 : Kd S29 := Kd.iso (Kd.pair (Kd.int .i64) (Kd.pair (Kd.int .i64) Kd.bool)) (fun x : S29 => (x.f0, x.f1, x.f2))
theorem k29_open {w : World} {x : S29} {cs : List Value} (h : k29.K w x cs) : cs = [.int .i64 x.f0, .int .i64 x.f1, .bool x.f2] := by
 obtain ⟨_, _, rfl, rfl, ⟨_, _, rfl, rfl, rfl⟩⟩ := h
 exact rfl
theorem k29_mk (w : World) (x : S29)  : k29.K w x [.int .i64 x.f0, .int .i64 x.f1, .bool x.f2] := ⟨[.int .i64 x.f0], [.int .i64 x.f1, .bool x.f2], rfl, rfl, ⟨[.int .i64 x.f1], [.bool x.f2], rfl, rfl, rfl⟩⟩
/-! #### struct type 31 -/
structure S31 where
 f0 : Int
 f1 : Int
 f2 : Bool
def k31 : Kd S31 := Kd.iso (Kd.pair (Kd.int .i64) (Kd.pair (Kd.int .i64) Kd.bool)) (fun x : S31 => (x.f0, x.f1, x.f2))
theorem k31_open {w : World} {x : S31} {cs : List Value} (h : k31.K w x cs) : cs = [.int .i64 x.f0, .int .i64 x.f1, .bool x.f2] := by
 obtain ⟨_, _, rfl, rfl, ⟨_, _, rfl, rfl, rfl⟩⟩ := h
 exact rfl
theorem k31_mk (w : World) (x : S31)  : k31.K w x [.int .i64 x.f0, .int .i64 x.f1, .bool x.f2] := ⟨[.int .i64 x.f0], [.int .i64 x.f1, .bool x.f2], rfl, rfl, ⟨[.int .i64 x.f1], [.bool x.f2], rfl, rfl, rfl⟩⟩
/-! #### struct type 37 -/
structure S37 where
 f0 : S27
 f1 : S29
 f2 : S31
 f3 : S34
 f4 : (List S52)
def k37 : Kd S37 := Kd.iso (Kd.pair k27 (Kd.pair k29 (Kd.pair k31 (Kd.pair k34 (Kd.slice 52 k52))))) (fun x : S37 => (x.f0, x.f1, x.f2, x.f3, x.f4))
theorem k37_open {w : World} {x : S37} {cs : List Value} (h : k37.K w x cs) : ∃ A2 c2 A7 c7 A15 c15 A18 c18, cs = [.int .i64 x.f0.f0, .int .i64 x.f0.f1, .slice A2 x.f0.f2.length c2, .int .i64 x.f0.f3, .int .i64 x.f0.f4, .int .i64 x.f0.f5, .int .i64 x.f0.f6, .slice A7 x.f0.f7.length c7, .int .i64 x.f1.f0, .int .i64 x.f1.f1, .bool x.f1.f2, .int .i64 x.f2.f0, .int .i64 x.f2.f1, .bool x.f2.f2, .int .i64 x.f3.f0, .slice A15 x.f3.f1.length c15, .int .i64 x.f3.f2, .int .i64 x.f3.f3, .slice A18 x.f4.length c18] ∧ x.f0.f2.length ≤ c2 ∧ k56.C w A2 x.f0.f2.length x.f0.f2 ∧ x.f0.f7.length ≤ c7 ∧ k58.C w A7 x.f0.f7.length x.f0.f7 ∧ x.f3.f1.length ≤ c15 ∧ (Kd.int .i64).C w A15 x.f3.f1.length x.f3.f1 ∧ x.f4.length ≤ c18 ∧ k52.C w A18 x.f4.length x.f4 := by
 obtain ⟨_, _, rfl, s0, ⟨_, _, rfl, s8, ⟨_, _, rfl, s11, ⟨_, _, rfl, s14, ⟨A18, c18, rfl, l18, g18⟩⟩⟩⟩⟩ := h
 obtain ⟨A2, c2, A7, c7, rfl, l2, g2, l7, g7⟩ := k27_open s0
 obtain rfl := k29_open s8
 obtain rfl := k31_open s11
 obtain ⟨A15, c15, rfl, l15, g15⟩ := k34_open s14
 exact ⟨A2, c2, A7, c7, A15, c15, A18, c18, rfl, l2, g2, l7, g7, l15, g15, l18, g18⟩
theorem k37_mk (w : World) (x : S37) {A2 : Option Addr} {c2 : Nat} (l2 : x.f0.f2.length ≤ c2) (g2 : k56.C w A2 x.f0.f2.length x.f0.f2) {A7 : Option Addr} {c7 : Nat} (l7 : x.f0.f7.length ≤ c7) (g7 : k58.C w A7 x.f0.f7.length x.f0.f7) {A15 : Option Addr} {c15 : Nat} (l15 : x.f3.f1.length ≤ c15) (g15 : (Kd.int .i64).C w A15 x.f3.f1.length x.f3.f1) {A18 : Option Addr} {c18 : Nat} (l18 : x.f4.length ≤ c18) (g18 : k52.C w A18 x.f4.length x.f4) : k37.K w x [.int .i64 x.f0.f0, .int .i64 x.f0.f1, .slice A2 x.f0.f2.length c2, .int .i64 x.f0.f3, .int .i64 x.f0.f4, .int .i64 x.f0.f5, .int .i64 x.f0.f6, .slice A7 x.f0.f7.length c7, .int .i64 x.f1.f0, .int .i64 x.f1.f1, .bool x.f1.f2, .int .i64 x.f2.f0, .int .i64 x.f2.f1, .bool x.f2.f2, .int .i64 x.f3.f0, .slice A15 x.f3.f1.length c15, .int .i64 x.f3.f2, .int .i64 x.f3.f3, .slice A18 x.f4.length c18] := ⟨[.int .i64 x.f0.f0, .int .i64 x.f0.f1, .slice A2 x.f0.f2.length c2, .int .i64 x.f0.f3, .int .i64 x.f0.f4, .int .i64 x.f0.f5, .int .i64 x.f0.f6, .slice A7 x.f0.f7.length c7], [.int .i64 x.f1.f0, .int .i64 x.f1.f1, .bool x.f1.f2, .int .i64 x.f2.f0, .int .i64 x.f2.f1, .bool x.f2.f2, .int .i64 x.f3.f0, .slice A15 x.f3.f1.length c15, .int .i64 x.f3.f2, .int .i64 x.f3.f3, .slice A18 x.f4.length c18], rfl, (k27_mk w x.f0 l2 g2 l7 g7), ⟨[.int .i64 x.f1.f0, .int .i64 x.f1.f1, .bool x.f1.f2], [.int .i64 x.f2.f0, .int .i64 x.f2.f1, .bool x.f2.f2, .int .i64 x.f3.f0, .slice A15 x.f3.f1.length c15, .int .i64 x.f3.f2, .int .i64 x.f3.f3, .slice A18 x.f4.length c18], rfl, (k29_mk w x.f1 ), ⟨[.int .i64 x.f2.f0, .int .i64 x.f2.f1, .bool x.f2.f2], [.int .i64 x.f3.f0, .slice A15 x.f3.f1.length c15, .int .i64 x.f3.f2, .int .i64 x.f3.f3, .slice A18 x.f4.length c18], rfl, (k31_mk w x.f2 ), ⟨[.int .i64 x.f3.f0, .slice A15 x.f3.f1.length c15, .int .i64 x.f3.f2, .int .i64 x.f3.f3], [.slice A18 x.f4.length c18], rfl, (k34_mk w x.f3 l15 g15), ⟨A18, c18, rfl, l18, g18⟩⟩⟩⟩⟩
/-! #### struct type 97 -/
/-! #### struct type 98 -/
/-! #### struct type 23 -/
structure S23 where
 f0 : Int
 f1 : Int
 f2 : Int
 f3 : Int
 f4 : Int
 f5 : Int
 f6 : Int
 f7 : Int
 f8 : Int
 f9 : Int
 f10 : Int
 f11 : Int
def z23 : S23 := ⟨(0 : Int), (0 : Int), (0 : Int), (0 : Int), (0 : Int), (0 : Int), (0 : Int), (0 : Int), (0 : Int), (0 : Int), (0 : Int), (0 : Int)⟩
def k23 : Kd S23 := Kd.iso (Kd.pair (Kd.int .i64) (Kd.pair (Kd.int .i64) (Kd.pair (Kd.int .i64) (Kd.pair (Kd.int .i64) (Kd.pair (Kd.int .i64) (Kd.pair (Kd.int .i64) (Kd.pair (Kd.int .i64) (Kd.pair (Kd.int .i64) (Kd.pair (Kd.int .i64) (Kd.pair (Kd.int .i64) (Kd.pair (Kd.int .i64) (Kd.int .i64)))))))))))) (fun x : S23 => (x.f0, x.f1, x.f2, x.f3, x.f4, x.f5, x.f6, x.f7, x.f8, x.f9, x.f10, x.f11))
theorem k23_open {w : World} {x : S23} {cs : List Value} (h : k23.K w x cs) : cs = [.int .i64 x.f0, .int .i64 x.f1, .int .i64 x.f2, .int .i64 x.f3, .int .i64 x.f4, .int .i64 x.f5, .int .i64 x.f6, .int .i64 x.f7, .int .i64 x.f8, .int .i64 x.f9, .int .i64 x.f10, .int .i64 x.f11] := by
 obtain ⟨_, _, rfl, rfl, ⟨_, _, rfl, rfl, ⟨_, _, rfl, rfl, ⟨_, _, rfl, rfl, ⟨_, _, rfl, rfl, ⟨_, _, rfl, rfl, ⟨_, _, rfl, rfl, ⟨_, _, rfl, rfl, ⟨_, _, rfl, rfl, ⟨_, _, rfl, rfl, ⟨_, _, rfl, rfl, rfl⟩⟩⟩⟩⟩⟩⟩⟩⟩⟩⟩ := h
 exact rfl
/-! #### struct type 122 -/
structure S122 where
 f0 : Int
 f1 : Int
def z122 : S122 := ⟨(0 : Int), (0 : Int)⟩
def k122 : Kd S122 := Kd.iso (Kd.pair (Kd.int .i64) (Kd.int .i64)) (fun x : S122 => (x.f0, x.f1))
theorem k122_open {w : World} {x : S122} {cs : List Value} (h : k122.K w x cs) : cs = [.int .i64 x.f0, .int .i64 x.f1] := by
 obtain ⟨_, _, rfl, rfl, rfl⟩ := h
 exact rfl
theorem k122_mkM (w : World) (base : Nat) (ok : Nat → Prop) (x : S122)  : k122.M w base ok x [.int .i64 x.f0, .int .i64 x.f1] := ⟨[.int .i64 x.f0], [.int .i64 x.f1], rfl, rfl, rfl⟩
def rd_T122 (xs : List S122) (i : Int) : S122 := xs.getD i.toNat z122
theorem at_T122 {w : World} {A : Option Addr} {n : Nat} {xs : List S122} (h : Kd.C k122 w A n xs) (i : Int) (h0 : 0 ≤ i) (h1 : i < n) : ∃ ad , A = some ad ∧ w.cell? (ad.add (i.toNat * 2)) = some (.int .i64 (rd_T122 xs i).f0) ∧ w.cell? ⟨(ad.add (i.toNat * 2)).block, (ad.add (i.toNat * 2)).off + 1, none⟩ = some (.int .i64 (rd_T122 xs i).f1) := by
 obtain ⟨ad, c, e, _, hK, hc0⟩ := Kd.C_get h z122 i h0 h1
 have hc : ∀ j u, c[j]? = some u → w.cell? (ad.add (i.toNat * 2 + j)) = some u := hc0
 obtain rfl := k122_open hK
 exact ⟨ad, e, hc 0 _ rfl, by rw [← add_field _ _ 1 (by omega)]; exact hc 1 _ rfl⟩
end Go.Proofs.Ytefgoffaidjiaaa.PAll
namespace Go.Proofs.Ytefgoffaidjiaaa.PAll
open Go.RowKit Go.Proofs.YtefgoffaidjiaaaW.PrintWords Go.Proofs.YtefgoffaidjiaaaW.PrintLast Go.Proofs.YtefgoffaidjiaaaW.PrintMore
set_option linter.unusedVariables false
variable {P : Program}
def Rd (P : Program) (t : TypeId) {α : Type} (k : Kd α) (ok : α → Prop) : Prop :=
 ∀ {H : Type} (enc : TypeId × Value → H) (w : World) (base : Nat) (spare : Nat → Bool) (held : Bool) (fuel : Nat) (cs : List Value) (x : DataW H × List MemPlace), DataW.trod enc P w base spare held fuel t cs = some x → ∃ a, k.K w a cs ∧ ok a
theorem Rd.int {t : TypeId} {ik : IntKind} (ht : P.underlying t = some (.int ik)) : Rd P t (Kd.int ik) (fun n_ : Int => (Lit.int ik n_).wf = true) := by
 intro H enc w base spare held fuel cs x h
 obtain ⟨n, rfl, _, hw⟩ := DataW.trod_int ht h
 exact ⟨n, rfl, hw⟩
theorem Rd.bool {t : TypeId} (ht : P.underlying t = some .bool) : Rd P t Kd.bool (fun _ : Bool => True) := by
 intro H enc w base spare held fuel cs x h
 obtain ⟨n, rfl, _⟩ := DataW.trod_bool ht h
 exact ⟨n, rfl, trivial⟩
theorem exists_row {α : Type} (n : Nat) (p : Nat → α → Prop) (h : ∀ i, i < n → ∃ y, p i y) : ∃ l : List α, l.length = n ∧ ∀ i y, l[i]? = some y → p i y := by
 induction n with
 | zero => exact ⟨[], rfl, fun i y hy => by simp at hy⟩
 | succ n ih =>
  obtain ⟨l, hl, hp⟩ := ih fun i hi => h i (by omega)
  obtain ⟨y, hy⟩ := h n (by omega)
  refine ⟨l ++ [y], by simp [hl], fun i z hz => ?_⟩
  by_cases hi : i < l.length
  ·rw [List.getElem?_append_left hi] at hz
   exact hp i z hz
  ·have : i = n := by
    have := (List.getElem?_eq_some_iff.1 hz).1
    simp at this
    omega
   subst this
   rw [List.getElem?_append_right (by omega), hl] at hz
   simp at hz
   exact hz ▸ hy
theorem Rd.slice {α : Type} {t e : TypeId} {k : Kd α} {ok : α → Prop} (ht : P.underlying t = some (.slice e)) (hs : P.cellsOf e = k.sz) (he : Rd P e k ok) : Rd P t (Kd.slice e k) (fun l_ : List α => ∀ x ∈ l_, ok x) := by
 intro H enc w base spare held fuel cs x h
 rcases Deep.open_slice ht h with ⟨rfl, _⟩ | ⟨a, len, cap, m, n, D, Pl, rfl, hb, hl, hm, hmm, hx, hi⟩
 ·exact ⟨[], ⟨none, 0, rfl, Nat.le_refl _, rfl, by simp, fun h => absurd h (Nat.lt_irrefl _)⟩, by simp⟩
 ·have hlm : len ≤ m := by rw [hmm]; split <;> omega
  obtain ⟨l, hll, hp⟩ := exists_row len (fun i y => ok y ∧ ∃ c, c.length = k.sz ∧ k.K w y c ∧ ∀ j u, c[j]? = some u → w.cell? (a.add (i * k.sz + j)) = some u) (fun i hil => by
   obtain ⟨cs', hc, htr⟩ := hi i (by omega)
   obtain ⟨y, hK, hok⟩ := he enc w base spare held n cs' _ htr
   rw [hs] at hc
   obtain ⟨_, hcl, hat⟩ := World.cells?_some hc
   refine ⟨y, hok, cs', hcl, hK, fun j u hu => ?_⟩
   have hj : j < k.sz := by have := (List.getElem?_eq_some_iff.1 hu).1; omega
   rw [← Go.Deep.add_add, hat j hj, hu])
  subst hll
  refine ⟨l, ⟨some a, cap, rfl, hl, rfl, by have := hm; unfold maxLen at this; omega, fun _ => ⟨a, rfl, fun j p hj => ?_⟩⟩, fun y hy => ?_⟩
  ·obtain ⟨_, c, h1, h2, h3⟩ := hp j p hj
   exact ⟨c, h1, h2, h3⟩
  ·obtain ⟨i, hi'⟩ := List.getElem?_of_mem hy
   exact (hp i y hi').1
theorem field_read {α : Type} {H : Type} {enc : TypeId × Value → H} {w : World} {base : Nat} {spare : Nat → Bool} {held : Bool} {n j : Nat} {ft : TypeId} {off sz o s : Nat} {cs : List Value} {ys : List (DataW H × List MemPlace)} {k : Kd α} {ok : α → Prop}
  (h : DataW.trod enc P w base spare held n ft ((cs.drop off).take sz) = ys[j]?) (hj : j < ys.length) (ho : off = o) (hs : sz = s) (r : Rd P ft k ok) : ∃ a, k.K w a ((cs.drop o).take s) ∧ ok a := by
 subst ho
 subst hs
 rw [List.getElem?_eq_getElem hj] at h
 exact r enc w base spare held n _ _ h
theorem pair_K {α β : Type} {a : Kd α} {b : Kd β} {w : World} {x : α} {y : β} {cs : List Value} {o s : Nat} (h0 : a.K w x ((cs.drop o).take s)) (h1 : b.K w y (cs.drop (o + s))) : (Kd.pair a b).K w (x, y) (cs.drop o) :=
 ⟨_, _, by rw [← List.drop_drop, List.take_append_drop], h0, h1⟩
theorem last_K {α : Type} {a : Kd α} {w : World} {x : α} {cs : List Value} {o s : Nat} (h0 : a.K w x ((cs.drop o).take s)) (hl : cs.length = o + s) : a.K w x (cs.drop o) := by
 rwa [List.take_of_length_le (by rw [List.length_drop]; omega)] at h0

def ok23 (x : S23) : Prop := (fun n_ : Int => (Lit.int .i64 n_).wf = true) x.f0 ∧ (fun n_ : Int => (Lit.int .i64 n_).wf = true) x.f1 ∧ (fun n_ : Int => (Lit.int .i64 n_).wf = true) x.f2 ∧ (fun n_ : Int => (Lit.int .i64 n_).wf = true) x.f3 ∧ (fun n_ : Int => (Lit.int .i64 n_).wf = true) x.f4 ∧ (fun n_ : Int => (Lit.int .i64 n_).wf = true) x.f5 ∧ (fun n_ : Int => (Lit.int .i64 n_).wf = true) x.f6 ∧ (fun n_ : Int => (Lit.int .i64 n_).wf = true) x.f7 ∧ (fun n_ : Int => (Lit.int .i64 n_).wf = true) x.f8 ∧ (fun n_ : Int => (Lit.int .i64 n_).wf = true) x.f9 ∧ (fun n_ : Int => (Lit.int .i64 n_).wf = true) x.f10 ∧ (fun n_ : Int => (Lit.int .i64 n_).wf = true) x.f11
theorem rdy23 : Rd Try.prog 23 k23 ok23 := by
 intro H enc w base spare held fuel cs x h
 obtain ⟨ys, n', hn', hy, hlen, hyl, hf⟩ := DataW.trod_struct Try.underlying23 h
 have hlen' : cs.length = 12 := hlen.trans (by kernel_rfl)
 obtain ⟨x0, h0, o0⟩ := field_read (o := 0) (s := 1) (hf 0 _ rfl) (by rw [hyl]; decide) (by kernel_rfl) (by kernel_rfl) (Rd.int Try.underlying3)
 obtain ⟨x1, h1, o1⟩ := field_read (o := 1) (s := 1) (hf 1 _ rfl) (by rw [hyl]; decide) (by kernel_rfl) (by kernel_rfl) (Rd.int Try.underlying3)
 obtain ⟨x2, h2, o2⟩ := field_read (o := 2) (s := 1) (hf 2 _ rfl) (by rw [hyl]; decide) (by kernel_rfl) (by kernel_rfl) (Rd.int Try.underlying3)
 obtain ⟨x3, h3, o3⟩ := field_read (o := 3) (s := 1) (hf 3 _ rfl) (by rw [hyl]; decide) (by kernel_rfl) (by kernel_rfl) (Rd.int Try.underlying2)
 obtain ⟨x4, h4, o4⟩ := field_read (o := 4) (s := 1) (hf 4 _ rfl) (by rw [hyl]; decide) (by kernel_rfl) (by kernel_rfl) (Rd.int Try.underlying2)
 obtain ⟨x5, h5, o5⟩ := field_read (o := 5) (s := 1) (hf 5 _ rfl) (by rw [hyl]; decide) (by kernel_rfl) (by kernel_rfl) (Rd.int Try.underlying3)
 obtain ⟨x6, h6, o6⟩ := field_read (o := 6) (s := 1) (hf 6 _ rfl) (by rw [hyl]; decide) (by kernel_rfl) (by kernel_rfl) (Rd.int Try.underlying2)
 obtain ⟨x7, h7, o7⟩ := field_read (o := 7) (s := 1) (hf 7 _ rfl) (by rw [hyl]; decide) (by kernel_rfl) (by kernel_rfl) (Rd.int Try.underlying3)
 obtain ⟨x8, h8, o8⟩ := field_read (o := 8) (s := 1) (hf 8 _ rfl) (by rw [hyl]; decide) (by kernel_rfl) (by kernel_rfl) (Rd.int Try.underlying2)
 obtain ⟨x9, h9, o9⟩ := field_read (o := 9) (s := 1) (hf 9 _ rfl) (by rw [hyl]; decide) (by kernel_rfl) (by kernel_rfl) (Rd.int Try.underlying3)
 obtain ⟨x10, h10, o10⟩ := field_read (o := 10) (s := 1) (hf 10 _ rfl) (by rw [hyl]; decide) (by kernel_rfl) (by kernel_rfl) (Rd.int Try.underlying3)
 obtain ⟨x11, h11, o11⟩ := field_read (o := 11) (s := 1) (hf 11 _ rfl) (by rw [hyl]; decide) (by kernel_rfl) (by kernel_rfl) (Rd.int Try.underlying3)
 have g11 := last_K (o := 11) (s := 1) h11 hlen'
 have g10 := pair_K (o := 10) (s := 1) h10 g11
 have g9 := pair_K (o := 9) (s := 1) h9 g10
 have g8 := pair_K (o := 8) (s := 1) h8 g9
 have g7 := pair_K (o := 7) (s := 1) h7 g8
 have g6 := pair_K (o := 6) (s := 1) h6 g7
 have g5 := pair_K (o := 5) (s := 1) h5 g6
 have g4 := pair_K (o := 4) (s := 1) h4 g5
 have g3 := pair_K (o := 3) (s := 1) h3 g4
 have g2 := pair_K (o := 2) (s := 1) h2 g3
 have g1 := pair_K (o := 1) (s := 1) h1 g2
 have g0 := pair_K (o := 0) (s := 1) h0 g1
 exact ⟨⟨x0, x1, x2, x3, x4, x5, x6, x7, x8, x9, x10, x11⟩, g0, ⟨o0, o1, o2, o3, o4, o5, o6, o7, o8, o9, o10, o11⟩⟩
def ok56 (x : S56) : Prop := (fun n_ : Int => (Lit.int .i64 n_).wf = true) x.f0 ∧ (fun n_ : Int => (Lit.int .i64 n_).wf = true) x.f1
theorem rdy56 : Rd Try.prog 56 k56 ok56 := by
 intro H enc w base spare held fuel cs x h
 obtain ⟨ys, n', hn', hy, hlen, hyl, hf⟩ := DataW.trod_struct Try.underlying56 h
 have hlen' : cs.length = 2 := hlen.trans (by kernel_rfl)
 obtain ⟨x0, h0, o0⟩ := field_read (o := 0) (s := 1) (hf 0 _ rfl) (by rw [hyl]; decide) (by kernel_rfl) (by kernel_rfl) (Rd.int Try.underlying2)
 obtain ⟨x1, h1, o1⟩ := field_read (o := 1) (s := 1) (hf 1 _ rfl) (by rw [hyl]; decide) (by kernel_rfl) (by kernel_rfl) (Rd.int Try.underlying3)
 have g1 := last_K (o := 1) (s := 1) h1 hlen'
 have g0 := pair_K (o := 0) (s := 1) h0 g1
 exact ⟨⟨x0, x1⟩, g0, ⟨o0, o1⟩⟩
theorem rdy24 : Rd Try.prog 24 (Kd.slice 56 k56) (fun l_ : List (S56) => ∀ x ∈ l_, ok56 x) := Rd.slice Try.underlying24 (by kernel_rfl) rdy56
def ok58 (x : S58) : Prop := (fun n_ : Int => (Lit.int .i64 n_).wf = true) x.f0 ∧ (fun n_ : Int => (Lit.int .i64 n_).wf = true) x.f1
theorem rdy58 : Rd Try.prog 58 k58 ok58 := by
 intro H enc w base spare held fuel cs x h
 obtain ⟨ys, n', hn', hy, hlen, hyl, hf⟩ := DataW.trod_struct Try.underlying58 h
 have hlen' : cs.length = 2 := hlen.trans (by kernel_rfl)
 obtain ⟨x0, h0, o0⟩ := field_read (o := 0) (s := 1) (hf 0 _ rfl) (by rw [hyl]; decide) (by kernel_rfl) (by kernel_rfl) (Rd.int Try.underlying2)
 obtain ⟨x1, h1, o1⟩ := field_read (o := 1) (s := 1) (hf 1 _ rfl) (by rw [hyl]; decide) (by kernel_rfl) (by kernel_rfl) (Rd.int Try.underlying3)
 have g1 := last_K (o := 1) (s := 1) h1 hlen'
 have g0 := pair_K (o := 0) (s := 1) h0 g1
 exact ⟨⟨x0, x1⟩, g0, ⟨o0, o1⟩⟩
theorem rdy25 : Rd Try.prog 25 (Kd.slice 58 k58) (fun l_ : List (S58) => ∀ x ∈ l_, ok58 x) := Rd.slice Try.underlying25 (by kernel_rfl) rdy58
def ok27 (x : S27) : Prop := (fun n_ : Int => (Lit.int .i64 n_).wf = true) x.f0 ∧ (fun n_ : Int => (Lit.int .i64 n_).wf = true) x.f1 ∧ (fun l_ : List (S56) => ∀ x ∈ l_, ok56 x) x.f2 ∧ (fun n_ : Int => (Lit.int .i64 n_).wf = true) x.f3 ∧ (fun n_ : Int => (Lit.int .i64 n_).wf = true) x.f4 ∧ (fun n_ : Int => (Lit.int .i64 n_).wf = true) x.f5 ∧ (fun n_ : Int => (Lit.int .i64 n_).wf = true) x.f6 ∧ (fun l_ : List (S58) => ∀ x ∈ l_, ok58 x) x.f7
theorem rdy27 : Rd Try.prog 27 k27 ok27 := by
 intro H enc w base spare held fuel cs x h
 obtain ⟨ys, n', hn', hy, hlen, hyl, hf⟩ := DataW.trod_struct Try.underlying27 h
 have hlen' : cs.length = 8 := hlen.trans (by kernel_rfl)
 obtain ⟨x0, h0, o0⟩ := field_read (o := 0) (s := 1) (hf 0 _ rfl) (by rw [hyl]; decide) (by kernel_rfl) (by kernel_rfl) (Rd.int Try.underlying3)
 obtain ⟨x1, h1, o1⟩ := field_read (o := 1) (s := 1) (hf 1 _ rfl) (by rw [hyl]; decide) (by kernel_rfl) (by kernel_rfl) (Rd.int Try.underlying2)
 obtain ⟨x2, h2, o2⟩ := field_read (o := 2) (s := 1) (hf 2 _ rfl) (by rw [hyl]; decide) (by kernel_rfl) (by kernel_rfl) rdy24
 obtain ⟨x3, h3, o3⟩ := field_read (o := 3) (s := 1) (hf 3 _ rfl) (by rw [hyl]; decide) (by kernel_rfl) (by kernel_rfl) (Rd.int Try.underlying2)
 obtain ⟨x4, h4, o4⟩ := field_read (o := 4) (s := 1) (hf 4 _ rfl) (by rw [hyl]; decide) (by kernel_rfl) (by kernel_rfl) (Rd.int Try.underlying2)
 obtain ⟨x5, h5, o5⟩ := field_read (o := 5) (s := 1) (hf 5 _ rfl) (by rw [hyl]; decide) (by kernel_rfl) (by kernel_rfl) (Rd.int Try.underlying2)
 obtain ⟨x6, h6, o6⟩ := field_read (o := 6) (s := 1) (hf 6 _ rfl) (by rw [hyl]; decide) (by kernel_rfl) (by kernel_rfl) (Rd.int Try.underlying2)
 obtain ⟨x7, h7, o7⟩ := field_read (o := 7) (s := 1) (hf 7 _ rfl) (by rw [hyl]; decide) (by kernel_rfl) (by kernel_rfl) rdy25
 have g7 := last_K (o := 7) (s := 1) h7 hlen'
 have g6 := pair_K (o := 6) (s := 1) h6 g7
 have g5 := pair_K (o := 5) (s := 1) h5 g6
 have g4 := pair_K (o := 4) (s := 1) h4 g5
 have g3 := pair_K (o := 3) (s := 1) h3 g4
 have g2 := pair_K (o := 2) (s := 1) h2 g3
 have g1 := pair_K (o := 1) (s := 1) h1 g2
 have g0 := pair_K (o := 0) (s := 1) h0 g1
 exact ⟨⟨x0, x1, x2, x3, x4, x5, x6, x7⟩, g0, ⟨o0, o1, o2, o3, o4, o5, o6, o7⟩⟩
def ok29 (x : S29) : Prop := (fun n_ : Int => (Lit.int .i64 n_).wf = true) x.f0 ∧ (fun n_ : Int => (Lit.int .i64 n_).wf = true) x.f1 ∧ (fun _ : Bool => True) x.f2
theorem rdy29 : Rd Try.prog 29 k29 ok29 := by
 intro H enc w base spare held fuel cs x h
 obtain ⟨ys, n', hn', hy, hlen, hyl, hf⟩ := DataW.trod_struct Try.underlying29 h
 have hlen' : cs.length = 3 := hlen.trans (by kernel_rfl)
 obtain ⟨x0, h0, o0⟩ := field_read (o := 0) (s := 1) (hf 0 _ rfl) (by rw [hyl]; decide) (by kernel_rfl) (by kernel_rfl) (Rd.int Try.underlying2)
 obtain ⟨x1, h1, o1⟩ := field_read (o := 1) (s := 1) (hf 1 _ rfl) (by rw [hyl]; decide) (by kernel_rfl) (by kernel_rfl) (Rd.int Try.underlying2)
 obtain ⟨x2, h2, o2⟩ := field_read (o := 2) (s := 1) (hf 2 _ rfl) (by rw [hyl]; decide) (by kernel_rfl) (by kernel_rfl) (Rd.bool Try.underlying4)
 have g2 := last_K (o := 2) (s := 1) h2 hlen'
 have g1 := pair_K (o := 1) (s := 1) h1 g2
 have g0 := pair_K (o := 0) (s := 1) h0 g1
 exact ⟨⟨x0, x1, x2⟩, g0, ⟨o0, o1, o2⟩⟩
def ok31 (x : S31) : Prop := (fun n_ : Int => (Lit.int .i64 n_).wf = true) x.f0 ∧ (fun n_ : Int => (Lit.int .i64 n_).wf = true) x.f1 ∧ (fun _ : Bool => True) x.f2
theorem rdy31 : Rd Try.prog 31 k31 ok31 := by
 intro H enc w base spare held fuel cs x h
 obtain ⟨ys, n', hn', hy, hlen, hyl, hf⟩ := DataW.trod_struct Try.underlying31 h
 have hlen' : cs.length = 3 := hlen.trans (by kernel_rfl)
 obtain ⟨x0, h0, o0⟩ := field_read (o := 0) (s := 1) (hf 0 _ rfl) (by rw [hyl]; decide) (by kernel_rfl) (by kernel_rfl) (Rd.int Try.underlying3)
 obtain ⟨x1, h1, o1⟩ := field_read (o := 1) (s := 1) (hf 1 _ rfl) (by rw [hyl]; decide) (by kernel_rfl) (by kernel_rfl) (Rd.int Try.underlying2)
 obtain ⟨x2, h2, o2⟩ := field_read (o := 2) (s := 1) (hf 2 _ rfl) (by rw [hyl]; decide) (by kernel_rfl) (by kernel_rfl) (Rd.bool Try.underlying4)
 have g2 := last_K (o := 2) (s := 1) h2 hlen'
 have g1 := pair_K (o := 1) (s := 1) h1 g2
 have g0 := pair_K (o := 0) (s := 1) h0 g1
 exact ⟨⟨x0, x1, x2⟩, g0, ⟨o0, o1, o2⟩⟩
theorem rdy32 : Rd Try.prog 32 (Kd.slice 3 (Kd.int .i64)) (fun l_ : List Int => ∀ x ∈ l_, (fun n_ : Int => (Lit.int .i64 n_).wf = true) x) := Rd.slice Try.underlying32 (by kernel_rfl) (Rd.int Try.underlying3)
def ok34 (x : S34) : Prop := (fun n_ : Int => (Lit.int .i64 n_).wf = true) x.f0 ∧ (fun l_ : List Int => ∀ x ∈ l_, (fun n_ : Int => (Lit.int .i64 n_).wf = true) x) x.f1 ∧ (fun n_ : Int => (Lit.int .i64 n_).wf = true) x.f2 ∧ (fun n_ : Int => (Lit.int .i64 n_).wf = true) x.f3
theorem rdy34 : Rd Try.prog 34 k34 ok34 := by
 intro H enc w base spare held fuel cs x h
 obtain ⟨ys, n', hn', hy, hlen, hyl, hf⟩ := DataW.trod_struct Try.underlying34 h
 have hlen' : cs.length = 4 := hlen.trans (by kernel_rfl)
 obtain ⟨x0, h0, o0⟩ := field_read (o := 0) (s := 1) (hf 0 _ rfl) (by rw [hyl]; decide) (by kernel_rfl) (by kernel_rfl) (Rd.int Try.underlying3)
 obtain ⟨x1, h1, o1⟩ := field_read (o := 1) (s := 1) (hf 1 _ rfl) (by rw [hyl]; decide) (by kernel_rfl) (by kernel_rfl) rdy32
 obtain ⟨x2, h2, o2⟩ := field_read (o := 2) (s := 1) (hf 2 _ rfl) (by rw [hyl]; decide) (by kernel_rfl) (by kernel_rfl) (Rd.int Try.underlying2)
 obtain ⟨x3, h3, o3⟩ := field_read (o := 3) (s := 1) (hf 3 _ rfl) (by rw [hyl]; decide) (by kernel_rfl) (by kernel_rfl) (Rd.int Try.underlying2)
 have g3 := last_K (o := 3) (s := 1) h3 hlen'
 have g2 := pair_K (o := 2) (s := 1) h2 g3
 have g1 := pair_K (o := 1) (s := 1) h1 g2
 have g0 := pair_K (o := 0) (s := 1) h0 g1
 exact ⟨⟨x0, x1, x2, x3⟩, g0, ⟨o0, o1, o2, o3⟩⟩
def ok52 (x : S52) : Prop := (fun n_ : Int => (Lit.int .i64 n_).wf = true) x.f0 ∧ (fun _ : Bool => True) x.f1
theorem rdy52 : Rd Try.prog 52 k52 ok52 := by
 intro H enc w base spare held fuel cs x h
 obtain ⟨ys, n', hn', hy, hlen, hyl, hf⟩ := DataW.trod_struct Try.underlying52 h
 have hlen' : cs.length = 2 := hlen.trans (by kernel_rfl)
 obtain ⟨x0, h0, o0⟩ := field_read (o := 0) (s := 1) (hf 0 _ rfl) (by rw [hyl]; decide) (by kernel_rfl) (by kernel_rfl) (Rd.int Try.underlying2)
 obtain ⟨x1, h1, o1⟩ := field_read (o := 1) (s := 1) (hf 1 _ rfl) (by rw [hyl]; decide) (by kernel_rfl) (by kernel_rfl) (Rd.bool Try.underlying4)
 have g1 := last_K (o := 1) (s := 1) h1 hlen'
 have g0 := pair_K (o := 0) (s := 1) h0 g1
 exact ⟨⟨x0, x1⟩, g0, ⟨o0, o1⟩⟩
theorem rdy35 : Rd Try.prog 35 (Kd.slice 52 k52) (fun l_ : List (S52) => ∀ x ∈ l_, ok52 x) := Rd.slice Try.underlying35 (by kernel_rfl) rdy52
def ok37 (x : S37) : Prop := ok27 x.f0 ∧ ok29 x.f1 ∧ ok31 x.f2 ∧ ok34 x.f3 ∧ (fun l_ : List (S52) => ∀ x ∈ l_, ok52 x) x.f4
theorem rdy37 : Rd Try.prog 37 k37 ok37 := by
 intro H enc w base spare held fuel cs x h
 obtain ⟨ys, n', hn', hy, hlen, hyl, hf⟩ := DataW.trod_struct Try.underlying37 h
 have hlen' : cs.length = 19 := hlen.trans (by kernel_rfl)
 obtain ⟨x0, h0, o0⟩ := field_read (o := 0) (s := 8) (hf 0 _ rfl) (by rw [hyl]; decide) (by kernel_rfl) (by kernel_rfl) rdy27
 obtain ⟨x1, h1, o1⟩ := field_read (o := 8) (s := 3) (hf 1 _ rfl) (by rw [hyl]; decide) (by kernel_rfl) (by kernel_rfl) rdy29
 obtain ⟨x2, h2, o2⟩ := field_read (o := 11) (s := 3) (hf 2 _ rfl) (by rw [hyl]; decide) (by kernel_rfl) (by kernel_rfl) rdy31
 obtain ⟨x3, h3, o3⟩ := field_read (o := 14) (s := 4) (hf 3 _ rfl) (by rw [hyl]; decide) (by kernel_rfl) (by kernel_rfl) rdy34
 obtain ⟨x4, h4, o4⟩ := field_read (o := 18) (s := 1) (hf 4 _ rfl) (by rw [hyl]; decide) (by kernel_rfl) (by kernel_rfl) rdy35
 have g4 := last_K (o := 18) (s := 1) h4 hlen'
 have g3 := pair_K (o := 14) (s := 4) h3 g4
 have g2 := pair_K (o := 11) (s := 3) h2 g3
 have g1 := pair_K (o := 8) (s := 3) h1 g2
 have g0 := pair_K (o := 0) (s := 8) h0 g1
 exact ⟨⟨x0, x1, x2, x3, x4⟩, g0, ⟨o0, o1, o2, o3, o4⟩⟩
theorem rdy47 : Rd Try.prog 47 (Kd.slice 2 (Kd.int .i64)) (fun l_ : List Int => ∀ x ∈ l_, (fun n_ : Int => (Lit.int .i64 n_).wf = true) x) := Rd.slice Try.underlying47 (by kernel_rfl) (Rd.int Try.underlying2)
end Go.Proofs.Ytefgoffaidjiaaa.PAll
namespace Go.Proofs.Ytefgoffaidjiaaa.PAll
open Go.RowKit Go.Proofs.YtefgoffaidjiaaaW.PrintWords Go.Proofs.YtefgoffaidjiaaaW.PrintLast Go.Proofs.YtefgoffaidjiaaaW.PrintMore
attribute [local go_sem] max2_int min2_int max_two min_two max_three min_three max_four min_four   -- for this text's walks alone
set_option linter.unusedVariables false
set_option linter.unusedSimpArgs false
/-! ### fixed_Sat: function 65 -/
def satI (n : Int) : Int := mx (-1000000000) (mn 1000000000 n)
theorem satI_lo (n : Int) : -1000000000 ≤ satI n := by unfold satI mx mn; omega
theorem satI_hi (n : Int) : satI n ≤ 1000000000 := by unfold satI mx mn; omega
theorem satI_in {n : Int} (h0 : -1000000000 ≤ n) (h1 : n ≤ 1000000000) : satI n = n := by unfold satI mx mn; omega
def fixed_Sat.f (a0 : Int) : Option (Int) := some (satI a0)
set_option maxHeartbeats 2000000 in
theorem sat_any (n : Int) (w : World) : Calls Try.prog 65 #[.int .i64 n] w fun e w' => e = .returned (.int .i64 (satI n)) ∧ Drawn0 w w' := by
 obtain ⟨m, hm⟩ : ∃ m, mn 1000000000 n = m := ⟨_, rfl⟩
 have hm' : (if n < 1000000000 then n else 1000000000) = m := hm
 obtain ⟨s, hs⟩ : ∃ s, satI n = s := ⟨_, rfl⟩
 have hs' : (if -1000000000 < m then m else -1000000000) = s := by rw [← hs, ← hm]; rfl
 rw [hs]
 clear hm hs
 go_enter Try.func65, Try.ntmps65
 go_wp2
 go_ret
 exact ⟨rfl, by repeat (first | exact Drawn0.refl _ | apply Drawn0.step)⟩
theorem fixed_Sat.calls (a0 : Int) (r : Int) (w : World) (h : fixed_Sat.f a0 = some r) :
  Calls Try.prog 65 #[.int .i64 a0] w fun e w' => e = .returned (.int .i64 r) ∧ Drawn0 w w' := by
 obtain rfl := Option.some.inj h
 exact sat_any a0 w
/-! ### fixed_two: function 77 -/
def mulI (a b : Int) : Int := Int.tdiv (a * b) 1000
def divI (a b : Int) : Int := if b = 0 then (if a = 0 then 0 else a * 1000000000) else Int.tdiv (a * 1000) b
theorem prod_in {a b : Int} (a0 : -1000000000 ≤ a) (a1 : a ≤ 1000000000) (b0 : -1000000000 ≤ b) (b1 : b ≤ 1000000000) : -1000000000000000000 ≤ a * b ∧ a * b ≤ 1000000000000000000 := by
 by_cases ha : 0 ≤ a
 ·have h1 := Int.mul_le_mul_of_nonneg_left b1 ha
  have h2 := Int.mul_le_mul_of_nonneg_left b0 ha
  omega
 ·have h1 := Int.mul_le_mul_of_nonneg_left b1 (show 0 ≤ -a by omega)
  have h2 := Int.mul_le_mul_of_nonneg_left b0 (show 0 ≤ -a by omega)
  rw [Int.neg_mul, Int.neg_mul] at h1 h2
  omega
/-- What 'two' asks of what it does. -/
def Does (f : Nat) (D : Int → Int → Int) : Prop := ∀ a b (w : World), -1000000000 ≤ a → a ≤ 1000000000 → -1000000000 ≤ b → b ≤ 1000000000 → Calls Try.prog f #[.int .i64 a, .int .i64 b] w fun e w' => e = .returned (.int .i64 (D a b)) ∧ Drawn0 w w'
theorem Does.run {f : Nat} {D : Int → Int → Int} (h : Does f D) (a b : Int) (w : World) (a0 : -1000000000 ≤ a) (a1 : a ≤ 1000000000) (b0 : -1000000000 ≤ b) (b1 : b ≤ 1000000000) : Calls Try.prog f #[.int .i64 a, .int .i64 b] w fun e w' => e = .returned (.int .i64 (D a b)) ∧ Drawn0 w w' := h a b w a0 a1 b0 b1
set_option maxHeartbeats 2000000 in
theorem two_any (f : Nat) (D : Int → Int → Int) (hD : Does f D) (hE : ∀ (args : Array Value) (W : World), (callFunc f args).run Try.prog W = .ok (.enter f args) W) (a b : Int) (w : World) : Calls Try.prog 77 #[.int .i64 a, .int .i64 b, .func (.func f) #[] #[]] w fun e w' => e = .returned (.int .i64 (satI (D (satI a) (satI b)))) ∧ Drawn0 w w' := by
 have h1 := satI_lo a
 have h2 := satI_hi a
 have h3 := satI_lo b
 have h4 := satI_hi b
 go_enter Try.func77, Try.ntmps77
 go_wp2_with (first | (go_at_call 65; (with_reducible refine (sat_any a _).mono ?_); rintro e w' ⟨rfl, ⟨_, rfl⟩⟩) | (go_at_call 65; (with_reducible refine (sat_any b _).mono ?_); rintro e w' ⟨rfl, ⟨_, rfl⟩⟩) | (go_at_call 65; (with_reducible refine (sat_any _ _).mono ?_); rintro e w' ⟨rfl, ⟨_, rfl⟩⟩) | ((with_reducible refine (Does.run hD _ _ _ h1 h2 h3 h4).mono ?_); rintro e w' ⟨rfl, ⟨_, rfl⟩⟩))
 go_ret
 exact ⟨rfl, by repeat (first | exact Drawn0.refl _ | apply Drawn0.step)⟩
/-! ### fixed_Add: function 64 -/
set_option maxHeartbeats 2000000 in
theorem does_add : Does 78 (fun a b => a + b) := by
 intro a b w a0 a1 b0 b1
 go_enter Try.func78, Try.ntmps78
 go_wp2
 go_ret
 exact ⟨rfl, Drawn0.refl _⟩
def fixed_Add.f (a0 : Int) (a1 : Int) : Option (Int) := some (satI (satI a0 + satI a1))
set_option maxHeartbeats 2000000 in
theorem fixed_Add.calls (a0 : Int) (a1 : Int) (r : Int) (w : World) (h : fixed_Add.f a0 a1 = some r) :
  Calls Try.prog 64 #[.int .i64 a0, .int .i64 a1] w fun e w' => e = .returned (.int .i64 r) ∧ Drawn0 w w' := by
 obtain rfl := Option.some.inj h
 clear h
 go_enter Try.func64, Try.ntmps64
 go_wp2_with (go_at_call 77; refine (two_any _ _ does_add (enters_of Try.func78 (by kernel_rfl) rfl) a0 a1 _).mono ?_; rintro e w' ⟨rfl, ⟨_, rfl⟩⟩)
 go_ret
 exact ⟨rfl, by repeat (first | exact Drawn0.refl _ | apply Drawn0.step)⟩
/-! ### fixed_Div: function 66 -/
theorem tdiv_in {x b N : Int} (h0 : -N ≤ x) (h1 : x ≤ N) : -N ≤ Int.tdiv x b ∧ Int.tdiv x b ≤ N := by
 have h := Int.natAbs_tdiv x b
 have h2 : (Int.tdiv x b).natAbs ≤ x.natAbs := by rw [h]; exact Nat.div_le_self _ _
 omega
set_option maxHeartbeats 2000000 in
theorem does_div : Does 79 divI := by
 intro a b w a0 a1 b0 b1
 by_cases c : b = 0
 ·subst c
  by_cases c2 : a = 0
  ·subst c2
   go_enter Try.func79, Try.ntmps79
   go_wp2
   go_ret
   exact ⟨rfl, Drawn0.refl _⟩
  ·have c2b : (a == 0) = false := beq_eq_false_iff_ne.mpr c2
   have e : divI a 0 = a * 1000000000 := by unfold divI; rw [if_pos rfl, if_neg c2]
   rw [e]
   clear e c2
   go_enter Try.func79, Try.ntmps79
   go_wp2
   go_ret
   exact ⟨rfl, Drawn0.refl _⟩
 ·have cb : (b != 0) = true := bne_iff_ne.mpr c
  have cb' : (b == 0) = false := beq_eq_false_iff_ne.mpr c
  have e : divI a b = Int.tdiv (a * 1000) b := by unfold divI; rw [if_neg c]
  have hne := Aside0.mk c
  have hin := tdiv_in (b := b) (N := 1000000000000) (show -1000000000000 ≤ a * 1000 by omega) (by omega)
  have hw := Aside0.mk (show wrap64 (Int.tdiv (a * 1000) b) = Int.tdiv (a * 1000) b by unfold wrap64; omega)
  clear hin
  rw [e]
  clear e
  go_enter Try.func79, Try.ntmps79
  go_wp2
  go_ret
  exact ⟨congrArg (fun x => Ending.returned (.int .i64 x)) hw.out, Drawn0.refl _⟩
def fixed_Div.f (a0 : Int) (a1 : Int) : Option (Int) := some (satI (divI (satI a0) (satI a1)))
set_option maxHeartbeats 2000000 in
theorem fixed_Div.calls (a0 : Int) (a1 : Int) (r : Int) (w : World) (h : fixed_Div.f a0 a1 = some r) :
  Calls Try.prog 66 #[.int .i64 a0, .int .i64 a1] w fun e w' => e = .returned (.int .i64 r) ∧ Drawn0 w w' := by
 obtain rfl := Option.some.inj h
 clear h
 go_enter Try.func66, Try.ntmps66
 go_wp2_with (go_at_call 77; refine (two_any _ _ does_div (enters_of Try.func79 (by kernel_rfl) rfl) a0 a1 _).mono ?_; rintro e w' ⟨rfl, ⟨_, rfl⟩⟩)
 go_ret
 exact ⟨rfl, by repeat (first | exact Drawn0.refl _ | apply Drawn0.step)⟩
/-! ### track_into_int: function 89 -/
def track_into_int.f (a0 : Int) (a1 : Int) (a2 : Int) : Option (Int) := if a0 < a1 then (some a1) else (if a0 > a2 then (some a2) else (some a0))
set_option maxHeartbeats 8000000 in
set_option maxRecDepth 100000 in
theorem track_into_int.calls (a0 : Int) (a1 : Int) (a2 : Int) (r : Int) (w : World) (h : track_into_int.f a0 a1 a2 = some r) :
  Calls Try.prog 89 #[.int .i64 a0, .int .i64 a1, .int .i64 a2] w fun e w' => e = .returned (.int .i64 r) ∧ Drawn0 w w' := by
 have H : (if a0 < a1 then (some a1) else (if a0 > a2 then (some a2) else (some a0))) = some r := h
 clear h
 by_cases c4 : a0 < a1
 ·rw [if_pos c4] at H
  have c4b0 : decide (a0 < a1) = true := decide_eq_true c4
  clear c4
  obtain rfl := Option.some.inj H
  go_enter Try.func89, Try.ntmps89
  go_wp2
  go_ret
  exact ⟨by first | rfl | (simp; done) | (simp [*]; done), by repeat (first | exact Drawn0.refl _ | apply Drawn0.step)⟩
 ·rw [if_neg c4] at H
  have c4b0 : decide (a0 < a1) = false := decide_eq_false c4
  clear c4
  by_cases c5 : a0 > a2
  ·rw [if_pos c5] at H
   have c5b0 : decide (a2 < a0) = true := decide_eq_true c5
   clear c5
   obtain rfl := Option.some.inj H
   go_enter Try.func89, Try.ntmps89
   go_wp2
   go_ret
   exact ⟨by first | rfl | (simp; done) | (simp [*]; done), by repeat (first | exact Drawn0.refl _ | apply Drawn0.step)⟩
  ·rw [if_neg c5] at H
   have c5b0 : decide (a2 < a0) = false := decide_eq_false c5
   clear c5
   obtain rfl := Option.some.inj H
   go_enter Try.func89, Try.ntmps89
   go_wp2
   go_ret
   exact ⟨by first | rfl | (simp; done) | (simp [*]; done), by repeat (first | exact Drawn0.refl _ | apply Drawn0.step)⟩
/-! ### fixed_Mul: function 90 -/
set_option maxHeartbeats 2000000 in
theorem does_mul : Does 100 mulI := by
 intro a b w a0 a1 b0 b1
 obtain ⟨h0, h1⟩ := prod_in a0 a1 b0 b1
 unfold mulI
 go_enter Try.func100, Try.ntmps100
 go_wp2
 go_ret
 exact ⟨rfl, Drawn0.refl _⟩
def fixed_Mul.f (a0 : Int) (a1 : Int) : Option (Int) := some (satI (mulI (satI a0) (satI a1)))
set_option maxHeartbeats 2000000 in
theorem fixed_Mul.calls (a0 : Int) (a1 : Int) (r : Int) (w : World) (h : fixed_Mul.f a0 a1 = some r) :
  Calls Try.prog 90 #[.int .i64 a0, .int .i64 a1] w fun e w' => e = .returned (.int .i64 r) ∧ Drawn0 w w' := by
 obtain rfl := Option.some.inj h
 clear h
 go_enter Try.func90, Try.ntmps90
 go_wp2_with (go_at_call 77; refine (two_any _ _ does_mul (enters_of Try.func100 (by kernel_rfl) rfl) a0 a1 _).mono ?_; rintro e w' ⟨rfl, ⟨_, rfl⟩⟩)
 go_ret
 exact ⟨rfl, by repeat (first | exact Drawn0.refl _ | apply Drawn0.step)⟩
/-! ### track_into_int64: function 91 -/
def track_into_int64.f (a0 : Int) (a1 : Int) (a2 : Int) : Option (Int) := if a0 < a1 then (some a1) else (if a0 > a2 then (some a2) else (some a0))
set_option maxHeartbeats 8000000 in
set_option maxRecDepth 100000 in
theorem track_into_int64.calls (a0 : Int) (a1 : Int) (a2 : Int) (r : Int) (w : World) (h : track_into_int64.f a0 a1 a2 = some r) :
  Calls Try.prog 91 #[.int .i64 a0, .int .i64 a1, .int .i64 a2] w fun e w' => e = .returned (.int .i64 r) ∧ Drawn0 w w' := by
 have H : (if a0 < a1 then (some a1) else (if a0 > a2 then (some a2) else (some a0))) = some r := h
 clear h
 by_cases c4 : a0 < a1
 ·rw [if_pos c4] at H
  have c4b0 : decide (a0 < a1) = true := decide_eq_true c4
  clear c4
  obtain rfl := Option.some.inj H
  go_enter Try.func91, Try.ntmps91
  go_wp2
  go_ret
  exact ⟨by first | rfl | (simp; done) | (simp [*]; done), by repeat (first | exact Drawn0.refl _ | apply Drawn0.step)⟩
 ·rw [if_neg c4] at H
  have c4b0 : decide (a0 < a1) = false := decide_eq_false c4
  clear c4
  by_cases c5 : a0 > a2
  ·rw [if_pos c5] at H
   have c5b0 : decide (a2 < a0) = true := decide_eq_true c5
   clear c5
   obtain rfl := Option.some.inj H
   go_enter Try.func91, Try.ntmps91
   go_wp2
   go_ret
   exact ⟨by first | rfl | (simp; done) | (simp [*]; done), by repeat (first | exact Drawn0.refl _ | apply Drawn0.step)⟩
  ·rw [if_neg c5] at H
   have c5b0 : decide (a2 < a0) = false := decide_eq_false c5
   clear c5
   obtain rfl := Option.some.inj H
   go_enter Try.func91, Try.ntmps91
   go_wp2
   go_ret
   exact ⟨by first | rfl | (simp; done) | (simp [*]; done), by repeat (first | exact Drawn0.refl _ | apply Drawn0.step)⟩
/-! ### fixed_Up: function 92 -/
def fixed_Up.f (a0 : Int) : Option (Int) := (fixed_Sat.f a0).bind fun t120 => (some (wrap64 ((wrap64 (Int.tdiv (wrap64 ((wrap64 ((wrap64 (t120 + 1000000000)) + 1000)) - 1)) 1000)) - 1000000)))
set_option maxHeartbeats 8000000 in
set_option maxRecDepth 100000 in
theorem fixed_Up.calls (a0 : Int) (r : Int) (w : World) (h : fixed_Up.f a0 = some r) :
  Calls Try.prog 92 #[.int .i64 a0] w fun e w' => e = .returned (.int .i64 r) ∧ Drawn0 w w' := by
 have H : ((fixed_Sat.f a0).bind fun t120 => (some (wrap64 ((wrap64 (Int.tdiv (wrap64 ((wrap64 ((wrap64 (t120 + 1000000000)) + 1000)) - 1)) 1000)) - 1000000)))) = some r := h
 clear h
 replace H := Option.bind_eq_some_iff.mp H
 obtain ⟨t120, A20, H⟩ := H
 replace H : (some (wrap64 ((wrap64 (Int.tdiv (wrap64 ((wrap64 ((wrap64 (t120 + 1000000000)) + 1000)) - 1)) 1000)) - 1000000))) = some r := H
 have A2 := Aside0.mk A20
 clear A20
 obtain rfl := Option.some.inj H
 go_enter Try.func92, Try.ntmps92
 go_wp2_with (first | ((with_reducible refine gate_callee (f := 65) rfl ?_); refine goesL_ (some 4) rfl rfl Try.func65 (by kernel_rfl) rfl #[.int .i64 a0] rfl (by (try simp only [List.map_toArray, List.map_cons, List.map_nil]); first | done | rfl | (simp only [List.length_drop, List.length_take]; rfl)) ?_; (with_reducible refine (fixed_Sat.calls a0 t120 _ A2.out).mono ?_); rintro e w' ⟨rfl, ⟨nd, rfl⟩⟩; refine ⟨_, rfl, ?_⟩))
 go_ret
 exact ⟨by first | rfl | (simp; done) | (simp [*]; done), by repeat (first | exact Drawn0.refl _ | apply Drawn0.step)⟩
/-! ### track_Want: function 81 -/
def track_Want.f (a0 : Int) (a1 : Int) (a2 : Int) : Option (Int) := (track_into_int.f a1 0 1000).bind fun t121 => ((track_into_int64.f a2 0 1000000000).bind fun t122 => ((fixed_Mul.f (wrap64 (1000 * t121)) t122).bind fun t123 => ((track_into_int64.f a0 1 1000000000).bind fun t124 => ((fixed_Div.f t123 t124).bind fun t125 => ((fixed_Up.f t125).bind fun t126 => ((track_into_int.f t126 0 1000).bind fun t127 => (some t127)))))))
set_option maxHeartbeats 8000000 in
set_option maxRecDepth 100000 in
theorem track_Want.calls (a0 : Int) (a1 : Int) (a2 : Int) (r : Int) (w : World) (h : track_Want.f a0 a1 a2 = some r) :
  Calls Try.prog 81 #[.int .i64 a0, .int .i64 a1, .int .i64 a2] w fun e w' => e = .returned (.int .i64 r) ∧ Drawn0 w w' := by
 have H : ((track_into_int.f a1 0 1000).bind fun t121 => ((track_into_int64.f a2 0 1000000000).bind fun t122 => ((fixed_Mul.f (wrap64 (1000 * t121)) t122).bind fun t123 => ((track_into_int64.f a0 1 1000000000).bind fun t124 => ((fixed_Div.f t123 t124).bind fun t125 => ((fixed_Up.f t125).bind fun t126 => ((track_into_int.f t126 0 1000).bind fun t127 => (some t127)))))))) = some r := h
 clear h
 replace H := Option.bind_eq_some_iff.mp H
 obtain ⟨t121, A40, H⟩ := H
 replace H : ((track_into_int64.f a2 0 1000000000).bind fun t122 => ((fixed_Mul.f (wrap64 (1000 * t121)) t122).bind fun t123 => ((track_into_int64.f a0 1 1000000000).bind fun t124 => ((fixed_Div.f t123 t124).bind fun t125 => ((fixed_Up.f t125).bind fun t126 => ((track_into_int.f t126 0 1000).bind fun t127 => (some t127))))))) = some r := H
 have A4 := Aside0.mk A40
 clear A40
 replace H := Option.bind_eq_some_iff.mp H
 obtain ⟨t122, A50, H⟩ := H
 replace H : ((fixed_Mul.f (wrap64 (1000 * t121)) t122).bind fun t123 => ((track_into_int64.f a0 1 1000000000).bind fun t124 => ((fixed_Div.f t123 t124).bind fun t125 => ((fixed_Up.f t125).bind fun t126 => ((track_into_int.f t126 0 1000).bind fun t127 => (some t127)))))) = some r := H
 have A5 := Aside0.mk A50
 clear A50
 replace H := Option.bind_eq_some_iff.mp H
 obtain ⟨t123, A60, H⟩ := H
 replace H : ((track_into_int64.f a0 1 1000000000).bind fun t124 => ((fixed_Div.f t123 t124).bind fun t125 => ((fixed_Up.f t125).bind fun t126 => ((track_into_int.f t126 0 1000).bind fun t127 => (some t127))))) = some r := H
 have A6 := Aside0.mk A60
 clear A60
 replace H := Option.bind_eq_some_iff.mp H
 obtain ⟨t124, A70, H⟩ := H
 replace H : ((fixed_Div.f t123 t124).bind fun t125 => ((fixed_Up.f t125).bind fun t126 => ((track_into_int.f t126 0 1000).bind fun t127 => (some t127)))) = some r := H
 have A7 := Aside0.mk A70
 clear A70
 replace H := Option.bind_eq_some_iff.mp H
 obtain ⟨t125, A80, H⟩ := H
 replace H : ((fixed_Up.f t125).bind fun t126 => ((track_into_int.f t126 0 1000).bind fun t127 => (some t127))) = some r := H
 have A8 := Aside0.mk A80
 clear A80
 replace H := Option.bind_eq_some_iff.mp H
 obtain ⟨t126, A90, H⟩ := H
 replace H : ((track_into_int.f t126 0 1000).bind fun t127 => (some t127)) = some r := H
 have A9 := Aside0.mk A90
 clear A90
 replace H := Option.bind_eq_some_iff.mp H
 obtain ⟨t127, A100, H⟩ := H
 replace H : (some t127) = some r := H
 have A10 := Aside0.mk A100
 clear A100
 obtain rfl := Option.some.inj H
 go_enter Try.func81, Try.ntmps81
 go_wp2_with (first | ((with_reducible refine gate_callee (f := 89) rfl ?_); refine goesL_ (some 10) rfl rfl Try.func89 (by kernel_rfl) rfl #[.int .i64 a1, .int .i64 0, .int .i64 1000] rfl (by (try simp only [List.map_toArray, List.map_cons, List.map_nil]); first | done | rfl | (simp only [List.length_drop, List.length_take]; rfl)) ?_; (with_reducible refine (track_into_int.calls a1 0 1000 t121 _ A4.out).mono ?_); rintro e w' ⟨rfl, ⟨nd, rfl⟩⟩; refine ⟨_, rfl, ?_⟩) | ((with_reducible refine gate_callee (f := 91) rfl ?_); refine goesL_ (some 14) rfl rfl Try.func91 (by kernel_rfl) rfl #[.int .i64 a2, .int .i64 0, .int .i64 1000000000] rfl (by (try simp only [List.map_toArray, List.map_cons, List.map_nil]); first | done | rfl | (simp only [List.length_drop, List.length_take]; rfl)) ?_; (with_reducible refine (track_into_int64.calls a2 0 1000000000 t122 _ A5.out).mono ?_); rintro e w' ⟨rfl, ⟨nd, rfl⟩⟩; refine ⟨_, rfl, ?_⟩) | ((with_reducible refine gate_callee (f := 90) rfl ?_); refine goesL_ (some 15) rfl rfl Try.func90 (by kernel_rfl) rfl #[.int .i64 (wrap64 (1000 * t121)), .int .i64 t122] rfl (by (try simp only [List.map_toArray, List.map_cons, List.map_nil]); first | done | rfl | (simp only [List.length_drop, List.length_take]; rfl)) ?_; (with_reducible refine (fixed_Mul.calls (wrap64 (1000 * t121)) t122 t123 _ A6.out).mono ?_); rintro e w' ⟨rfl, ⟨nd, rfl⟩⟩; refine ⟨_, rfl, ?_⟩) | ((with_reducible refine gate_callee (f := 91) rfl ?_); refine goesL_ (some 18) rfl rfl Try.func91 (by kernel_rfl) rfl #[.int .i64 a0, .int .i64 1, .int .i64 1000000000] rfl (by (try simp only [List.map_toArray, List.map_cons, List.map_nil]); first | done | rfl | (simp only [List.length_drop, List.length_take]; rfl)) ?_; (with_reducible refine (track_into_int64.calls a0 1 1000000000 t124 _ A7.out).mono ?_); rintro e w' ⟨rfl, ⟨nd, rfl⟩⟩; refine ⟨_, rfl, ?_⟩) | ((with_reducible refine gate_callee (f := 66) rfl ?_); refine goesL_ (some 19) rfl rfl Try.func66 (by kernel_rfl) rfl #[.int .i64 t123, .int .i64 t124] rfl (by (try simp only [List.map_toArray, List.map_cons, List.map_nil]); first | done | rfl | (simp only [List.length_drop, List.length_take]; rfl)) ?_; (with_reducible refine (fixed_Div.calls t123 t124 t125 _ A8.out).mono ?_); rintro e w' ⟨rfl, ⟨nd, rfl⟩⟩; refine ⟨_, rfl, ?_⟩) | ((with_reducible refine gate_callee (f := 92) rfl ?_); refine goesL_ (some 20) rfl rfl Try.func92 (by kernel_rfl) rfl #[.int .i64 t125] rfl (by (try simp only [List.map_toArray, List.map_cons, List.map_nil]); first | done | rfl | (simp only [List.length_drop, List.length_take]; rfl)) ?_; (with_reducible refine (fixed_Up.calls t125 t126 _ A9.out).mono ?_); rintro e w' ⟨rfl, ⟨nd, rfl⟩⟩; refine ⟨_, rfl, ?_⟩) | ((with_reducible refine gate_callee (f := 89) rfl ?_); refine goesL_ (some 21) rfl rfl Try.func89 (by kernel_rfl) rfl #[.int .i64 t126, .int .i64 0, .int .i64 1000] rfl (by (try simp only [List.map_toArray, List.map_cons, List.map_nil]); first | done | rfl | (simp only [List.length_drop, List.length_take]; rfl)) ?_; (with_reducible refine (track_into_int.calls t126 0 1000 t127 _ A10.out).mono ?_); rintro e w' ⟨rfl, ⟨nd, rfl⟩⟩; refine ⟨_, rfl, ?_⟩))
 go_ret
 exact ⟨by first | rfl | (simp; done) | (simp [*]; done), by repeat (first | exact Drawn0.refl _ | apply Drawn0.step)⟩
/-! ### policy_kinds_1: function 80 -/
def policy_kinds_1.f (a0_0 : Int) (a0_1 : Int) (l0_2 : List (S56)) (a0_3 : Int) (a0_4 : Int) (a0_5 : Int) (a0_6 : Int) (l0_7 : List (S58)) (a1_0 : Int) (a1_1 : Int) (a1_2 : Bool) (a1_3 : Int) (a1_4 : Int) (a1_5 : Int) : Option (Int) := (track_Want.f a0_1 a1_3 a1_4).bind fun t130 => (some t130)
set_option maxHeartbeats 8000000 in
set_option maxRecDepth 100000 in
theorem policy_kinds_1.calls (a0_0 : Int) (a0_1 : Int) (A0_2 : Option Addr) (c0_2 : Nat) (l0_2 : List (S56)) (a0_3 : Int) (a0_4 : Int) (a0_5 : Int) (a0_6 : Int) (A0_7 : Option Addr) (c0_7 : Nat) (l0_7 : List (S58)) (a1_0 : Int) (a1_1 : Int) (a1_2 : Bool) (a1_3 : Int) (a1_4 : Int) (a1_5 : Int) (r : Int) (w : World) (hr0_2 : Kd.C k56 w A0_2 l0_2.length l0_2) (hc0_2 : l0_2.length ≤ c0_2) (hr0_7 : Kd.C k58 w A0_7 l0_7.length l0_7) (hc0_7 : l0_7.length ≤ c0_7) (h : policy_kinds_1.f a0_0 a0_1 l0_2 a0_3 a0_4 a0_5 a0_6 l0_7 a1_0 a1_1 a1_2 a1_3 a1_4 a1_5 = some r) :
  Calls Try.prog 80 #[.agg #[.int .i64 a0_0, .int .i64 a0_1, .slice A0_2 l0_2.length c0_2, .int .i64 a0_3, .int .i64 a0_4, .int .i64 a0_5, .int .i64 a0_6, .slice A0_7 l0_7.length c0_7], .agg #[.int .i64 a1_0, .int .i64 a1_1, .bool a1_2, .int .i64 a1_3, .int .i64 a1_4, .int .i64 a1_5]] w fun e w' => e = .returned (.int .i64 r) ∧ Below w.heap.size w w' := by
 have hu27 := Try.underlying27
 have hu105 := Try.underlying105
 have HR0_2 := Aside0.mk hr0_2
 have HC0_2 := Aside0.mk hc0_2
 clear hr0_2 hc0_2
 have HR0_7 := Aside0.mk hr0_7
 have HC0_7 := Aside0.mk hc0_7
 clear hr0_7 hc0_7
 have HB := Aside0.mk (Below.refl w.heap.size w)
 have H : ((track_Want.f a0_1 a1_3 a1_4).bind fun t130 => (some t130)) = some r := h
 clear h
 replace H := Option.bind_eq_some_iff.mp H
 obtain ⟨t130, A30, H⟩ := H
 replace H : (some t130) = some r := H
 have A3 := Aside0.mk A30
 clear A30
 obtain rfl := Option.some.inj H
 go_enter Try.func80, Try.ntmps80
 go_wp2_with (first | ((with_reducible refine gate_dst (N := 2) rfl ?_); refine box_event ?hg (N := 2) ?hd (cs := #[.int .i64 a0_0, .int .i64 a0_1, .slice A0_2 l0_2.length c0_2, .int .i64 a0_3, .int .i64 a0_4, .int .i64 a0_5, .int .i64 a0_6, .slice A0_7 l0_7.length c0_7]) (t := 27) ?hr ?_; (case hd => rfl); (case hg => rfl); (case hr => first | (go_simp; done) | (go_simp; rfl)); intro gb128 hg w4 hbox hb; have n0_ := Aside0.mk (below_step (by repeat (first | (with_reducible first | exact HB.out | apply below_alloc | apply pw_below_drewN | apply below_drew1) | exact HB.out)) hb); have n1_ := Aside0.mk (hbox); have n2_ := Aside0.mk ((by rw [hg]; exact (below_size (by repeat (first | (with_reducible first | exact HB.out | apply below_alloc | apply pw_below_drewN | apply below_drew1) | exact HB.out))) : w.heap.size ≤ gb128)); have n3_ := Aside0.mk ((by rw [hg]; exact (below_size (by repeat (first | (with_reducible first | exact HB.out | apply below_alloc | apply pw_below_drewN | apply below_drew1) | exact HB.out))) : w.heap.size ≤ gb128)); clear HB; have HB := n0_; have BK128 := n1_; have GW128 := n2_; have GE128 := n3_; clear n0_ n1_ n2_ n3_; clear hb hbox hg) | ((with_reducible refine gate_dst (N := 3) rfl ?_); refine box_event ?hg (N := 3) ?hd (cs := #[.int .i64 a1_0, .int .i64 a1_1, .bool a1_2, .int .i64 a1_3, .int .i64 a1_4, .int .i64 a1_5]) (t := 105) ?hr ?_; (case hd => rfl); (case hg => rfl); (case hr => first | (go_simp; done) | (go_simp; rfl)); intro gb129 hg w5 hbox hb; have n0_ := Aside0.mk (blk_below (g := gb128) (o := .cells #[.int .i64 a0_0, .int .i64 a0_1, .slice A0_2 l0_2.length c0_2, .int .i64 a0_3, .int .i64 a0_4, .int .i64 a0_5, .int .i64 a0_6, .slice A0_7 l0_7.length c0_7] 27 (0, 0)) (by (with_reducible repeat (first | refine blk_drewN ?_ _ | refine blk_drew ?_ | refine blk_alloc ?_ _)); exact BK128.out) hb); have n1_ := Aside0.mk (below_step (by repeat (first | (with_reducible first | exact HB.out | apply below_alloc | apply pw_below_drewN | apply below_drew1 | refine below_set ?_ GE128.out) | exact HB.out)) hb); have n2_ := Aside0.mk (hbox); have n3_ := Aside0.mk ((by rw [hg]; exact (below_size (by repeat (first | (with_reducible first | exact HB.out | apply below_alloc | apply pw_below_drewN | apply below_drew1 | refine below_set ?_ GE128.out) | exact HB.out))) : w.heap.size ≤ gb129)); have n4_ := Aside0.mk ((by rw [hg]; exact (below_size (by repeat (first | (with_reducible first | exact HB.out | apply below_alloc | apply pw_below_drewN | apply below_drew1 | refine below_set ?_ GE128.out) | exact HB.out))) : w.heap.size ≤ gb129)); have n5_ := Aside0.mk ((by rw [hg]; exact Nat.ne_of_lt (blk_lt (g := gb128) (o := .cells #[.int .i64 a0_0, .int .i64 a0_1, .slice A0_2 l0_2.length c0_2, .int .i64 a0_3, .int .i64 a0_4, .int .i64 a0_5, .int .i64 a0_6, .slice A0_7 l0_7.length c0_7] 27 (0, 0)) (by (with_reducible repeat (first | refine blk_drewN ?_ _ | refine blk_drew ?_ | refine blk_alloc ?_ _)); exact BK128.out)) : gb128 ≠ gb129)); have n6_ := Aside0.mk ((by rw [hg]; exact Nat.ne_of_gt (blk_lt (g := gb128) (o := .cells #[.int .i64 a0_0, .int .i64 a0_1, .slice A0_2 l0_2.length c0_2, .int .i64 a0_3, .int .i64 a0_4, .int .i64 a0_5, .int .i64 a0_6, .slice A0_7 l0_7.length c0_7] 27 (0, 0)) (by (with_reducible repeat (first | refine blk_drewN ?_ _ | refine blk_drew ?_ | refine blk_alloc ?_ _)); exact BK128.out)) : gb129 ≠ gb128)); clear BK128; clear HB; have BK128 := n0_; have HB := n1_; have BK129 := n2_; have GW129 := n3_; have GE129 := n4_; have NB128_129 := n5_; have NB129_128 := n6_; clear n0_ n1_ n2_ n3_ n4_ n5_ n6_; clear hb hbox hg; have hnb6 := NB128_129.out; have hnc6 := NB129_128.out; have hcz7_0 : w5.cell? ⟨gb128, 0, none⟩ = some (.int .i64 a0_0) := (blk_cell BK128.out 0).trans rfl; have hcz7_1 : w5.cell? ⟨gb128, 1, none⟩ = some (.int .i64 a0_1) := (blk_cell BK128.out 1).trans rfl; have hcz7_2 : w5.cell? ⟨gb128, 2, none⟩ = some (.slice A0_2 l0_2.length c0_2) := (blk_cell BK128.out 2).trans rfl; have hcz7_3 : w5.cell? ⟨gb128, 3, none⟩ = some (.int .i64 a0_3) := (blk_cell BK128.out 3).trans rfl; have hcz7_4 : w5.cell? ⟨gb128, 4, none⟩ = some (.int .i64 a0_4) := (blk_cell BK128.out 4).trans rfl; have hcz7_5 : w5.cell? ⟨gb128, 5, none⟩ = some (.int .i64 a0_5) := (blk_cell BK128.out 5).trans rfl; have hcz7_6 : w5.cell? ⟨gb128, 6, none⟩ = some (.int .i64 a0_6) := (blk_cell BK128.out 6).trans rfl; have hcz7_7 : w5.cell? ⟨gb128, 7, none⟩ = some (.slice A0_7 l0_7.length c0_7) := (blk_cell BK128.out 7).trans rfl; have hfz7_0 := blk_frozen BK128.out 0; have hfz7_1 := blk_frozen BK128.out 1; have hfz7_2 := blk_frozen BK128.out 2; have hfz7_3 := blk_frozen BK128.out 3; have hfz7_4 := blk_frozen BK128.out 4; have hfz7_5 := blk_frozen BK128.out 5; have hfz7_6 := blk_frozen BK128.out 6; have hfz7_7 := blk_frozen BK128.out 7; have hcz8_0 : w5.cell? ⟨gb129, 0, none⟩ = some (.int .i64 a1_0) := (blk_cell BK129.out 0).trans rfl; have hcz8_1 : w5.cell? ⟨gb129, 1, none⟩ = some (.int .i64 a1_1) := (blk_cell BK129.out 1).trans rfl; have hcz8_2 : w5.cell? ⟨gb129, 2, none⟩ = some (.bool a1_2) := (blk_cell BK129.out 2).trans rfl; have hcz8_3 : w5.cell? ⟨gb129, 3, none⟩ = some (.int .i64 a1_3) := (blk_cell BK129.out 3).trans rfl; have hcz8_4 : w5.cell? ⟨gb129, 4, none⟩ = some (.int .i64 a1_4) := (blk_cell BK129.out 4).trans rfl; have hcz8_5 : w5.cell? ⟨gb129, 5, none⟩ = some (.int .i64 a1_5) := (blk_cell BK129.out 5).trans rfl; have hfz8_0 := blk_frozen BK129.out 0; have hfz8_1 := blk_frozen BK129.out 1; have hfz8_2 := blk_frozen BK129.out 2; have hfz8_3 := blk_frozen BK129.out 3; have hfz8_4 := blk_frozen BK129.out 4; have hfz8_5 := blk_frozen BK129.out 5) | ((with_reducible refine gate_callee (f := 81) rfl ?_); refine goesL_ (some 11) rfl rfl Try.func81 (by kernel_rfl) rfl #[.int .i64 a0_1, .int .i64 a1_3, .int .i64 a1_4] rfl (by (try simp only [List.map_toArray, List.map_cons, List.map_nil]); first | done | rfl | (simp only [List.length_drop, List.length_take]; rfl)) ?_; (with_reducible refine (track_Want.calls a0_1 a1_3 a1_4 t130 _ A3.out).mono ?_); rintro e w' ⟨rfl, ⟨nd, rfl⟩⟩; refine ⟨_, rfl, ?_⟩))
 go_ret
 exact ⟨by first | rfl | (simp [errW_none, errW_some] <;> rfl) | (simp [*, errW_none, errW_some] <;> rfl), by repeat (first | (with_reducible first | exact HB.out | apply below_alloc | apply pw_below_drewN | apply below_drew1 | refine below_set ?_ GE128.out | refine below_set ?_ GE129.out) | exact HB.out)⟩
/-! ### api_Band_int64: function 101 -/
def SortedS (l : List S56) : Prop := l.length ≤ 1000 ∧ l.Pairwise (fun a b => a.f0 < b.f0)
instance sortedDec (l : List S56) : Decidable (SortedS l) := inferInstanceAs (Decidable (_ ∧ _))
def findS (l : List S56) (u : Int) : Int := ((l.filter (fun b => decide (b.f0 ≤ u))).length : Int) - 1
def cutS (l : List S56) (u i j : Int) : Prop := (∀ m : Nat, (m : Int) < i → ∀ h : m < l.length, l[m].f0 ≤ u) ∧ (∀ m : Nat, j ≤ (m : Int) → ∀ h : m < l.length, u < l[m].f0)
theorem cutS_start (l : List S56) (u : Int) : cutS l u 0 (l.length : Int) := ⟨fun m h => by omega, fun m h h2 => by omega⟩
theorem rdS_at (l : List S56) (i : Int) (h0 : 0 ≤ i) (h : i < (l.length : Int)) : rd_T56 l i = l[i.toNat]'(by omega) := by
 have hi : i.toNat < l.length := by omega
 simp [rd_T56, hi]
theorem sortedS_le {l : List S56} (hs : SortedS l) (a b : Nat) (h : a < b) (hb : b < l.length) : l[a].f0 < l[b].f0 :=
 List.pairwise_iff_getElem.1 hs.2 a b (by omega) hb h
theorem cutS_le {l : List S56} {u i j h : Int} (hs : SortedS l) (hc : cutS l u i j) (h0 : 0 ≤ h) (hl : h < (l.length : Int)) (hle : (rd_T56 l h).f0 ≤ u) : cutS l u (h + 1) j := by
 rw [rdS_at l h h0 hl] at hle
 refine ⟨fun m hm hml => ?_, hc.2⟩
 by_cases e : m = h.toNat
 ·subst e; exact hle
 ·have := sortedS_le hs m h.toNat (by omega) (by omega)
  omega
theorem cutS_gt {l : List S56} {u i j h : Int} (hs : SortedS l) (hc : cutS l u i j) (h0 : 0 ≤ h) (hl : h < (l.length : Int)) (hgt : u < (rd_T56 l h).f0) : cutS l u i h := by
 rw [rdS_at l h h0 hl] at hgt
 refine ⟨hc.1, fun m hm hml => ?_⟩
 by_cases e : m = h.toNat
 ·subst e; exact hgt
 ·have := sortedS_le hs h.toNat m (by omega) (by omega)
  omega
theorem cutS_end {l : List S56} {u i : Int} (hc : cutS l u i i) (h0 : 0 ≤ i) (hl : i ≤ (l.length : Int)) : findS l u = i - 1 := by
 have e : (l.filter (fun b => decide (b.f0 ≤ u))) = l.take i.toNat := by
  have h1 : l = l.take i.toNat ++ l.drop i.toNat := (List.take_append_drop _ _).symm
  have h2 : (l.take i.toNat).filter (fun b => decide (b.f0 ≤ u)) = l.take i.toNat := by
   rw [List.filter_eq_self]
   intro a ha
   obtain ⟨m, hm, rfl⟩ := List.mem_iff_getElem.1 ha
   rw [List.length_take] at hm
   rw [List.getElem_take]
   exact decide_eq_true (hc.1 m (by omega) (by omega))
  have h3 : (l.drop i.toNat).filter (fun b => decide (b.f0 ≤ u)) = [] := by
   rw [List.filter_eq_nil_iff]
   intro a ha
   obtain ⟨m, hm, rfl⟩ := List.mem_iff_getElem.1 ha
   rw [List.length_drop] at hm
   rw [List.getElem_drop]
   have := hc.2 (i.toNat + m) (by omega) (by omega)
   simp; omega
  calc l.filter (fun b => decide (b.f0 ≤ u)) = (l.take i.toNat ++ l.drop i.toNat).filter (fun b => decide (b.f0 ≤ u)) := by rw [← h1]
   _ = l.take i.toNat := by rw [List.filter_append, h2, h3, List.append_nil]
 unfold findS
 rw [e, List.length_take]
 omega
set_option maxHeartbeats 2000000 in
theorem stepCmp_le (a d u : Int) (w : World) (h : a ≤ u) : Calls Try.prog 102 #[.agg #[.int .i64 a, .int .i64 d], .int .i64 u] w fun e w' => e = .returned (.int .i64 (-1)) ∧ Below w.heap.size w w' := by
 have hu := Try.underlying56
 go_enter Try.func102, Try.ntmps102
 go_wp2
 go_ret
 exact ⟨rfl, (Below.refl _ w).alloc (Nat.le_refl _) _⟩
set_option maxHeartbeats 2000000 in
theorem stepCmp_gt (a d u : Int) (w : World) (h : u < a) : Calls Try.prog 102 #[.agg #[.int .i64 a, .int .i64 d], .int .i64 u] w fun e w' => e = .returned (.int .i64 1) ∧ Below w.heap.size w w' := by
 have hu := Try.underlying56
 have hb : decide (a ≤ u) = false := decide_eq_false (by omega)
 go_enter Try.func102, Try.ntmps102
 go_wp2
 go_ret
 exact ⟨rfl, (Below.refl _ w).alloc (Nat.le_refl _) _⟩
set_option maxRecDepth 100000 in
set_option maxHeartbeats 4000000 in
theorem bs_any (A : Option Addr) (c : Nat) (l : List S56) (u : Int) (w : World) (hr0 : Kd.C k56 w A l.length l) (hs0 : SortedS l) :
  Calls Try.prog 101 #[.slice A l.length c, .int .i64 u, .func (.func 102) #[] #[]] w fun e w' => e = .returned (.tuple #[.int .i64 (findS l u + 1), .bool false]) ∧ Below w.heap.size w w' := by
 have hu := Try.underlying56
 have HR := Aside0.mk hr0
 have hs := Aside0.mk hs0
 have hl := hs0.1
 have hl0 : (0 : Int) ≤ (l.length : Int) := by omega
 have hl1 : (l.length : Int) ≤ 1000 := by omega
 clear hr0 hs0
 go_enter Try.func101, Try.ntmps101
 go_wp2
 go_loopw [9, 10] (fun vi vj wr => ∃ i j : Int, 0 ≤ i ∧ i ≤ j ∧ j ≤ (l.length : Int) ∧ vi = .int .i64 i ∧ vj = .int .i64 j ∧ Aside0 (cutS l u i j) ∧ Below w.heap.size w wr) (fun vi vj _ => (intOf vj - intOf vi).toNat)
 case atStart => exact ⟨0, (l.length : Int), by omega, hl0, Int.le_refl _, rfl, rfl, ⟨cutS_start l u⟩, Below.refl _ _⟩
 case round =>
  obtain ⟨i, j, h0, hij, hj, rfl, rfl, hc, hb⟩ := hrel
  by_cases hlt : i < j
  ·have hm0 : 0 ≤ (i + j) / 2 := by omega
   have hm1 : (i + j) / 2 < (l.length : Int) := by omega
   have hm2 : i ≤ (i + j) / 2 := by omega
   have hm3 : (i + j) / 2 < j := by omega
   obtain ⟨m, hm⟩ : ∃ m, (i + j) / 2 = m := ⟨_, rfl⟩
   rw [hm] at hm0 hm1 hm2 hm3
   obtain ⟨ad, e, hc0, hc1⟩ := at_T56 (Kd.C_below HR.out hb) m hm0 hm1
   cases e
   by_cases hcmp : (rd_T56 l m).f0 ≤ u
   ·go_wp2_with (go_at_call 102; ((with_reducible refine (stepCmp_le _ _ _ _ hcmp).mono ?_)); rintro e w' ⟨rfl, hb2⟩; have hbb := Aside0.mk (Below.trans hb (hb2.mono hb.size)))
    go_roundw
    case rel => exact ⟨m + 1, j, by omega, by omega, hj, by first | rfl | simp, rfl, ⟨cutS_le hs.out hc.out hm0 hm1 hcmp⟩, hbb.out⟩
    case measure => simp [intOf]; omega
   ·have hcmp : u < (rd_T56 l m).f0 := by omega
    go_wp2_with (go_at_call 102; ((with_reducible refine (stepCmp_gt _ _ _ _ hcmp).mono ?_)); rintro e w' ⟨rfl, hb2⟩; have hbb := Aside0.mk (Below.trans hb (hb2.mono hb.size)))
    go_roundw
    case rel => exact ⟨i, m, h0, hm2, by omega, rfl, by first | rfl | simp, ⟨cutS_gt hs.out hc.out hm0 hm1 hcmp⟩, hbb.out⟩
    case measure => simp [intOf]; omega
  ·obtain rfl : i = j := by omega
   have hend := cutS_end hc.out h0 hj
   by_cases hn : i < (l.length : Int)
   ·obtain ⟨ad, e, hc0, hc1⟩ := at_T56 (Kd.C_below HR.out hb) i h0 hn
    cases e
    have hcmp : u < (rd_T56 l i).f0 := by rw [rdS_at l i h0 hn]; exact hc.out.2 i.toNat (by omega) (by omega)
    have HE := Aside0.mk hend
    clear hend
    go_wp2_with (go_at_call 102; ((with_reducible refine (stepCmp_gt _ _ _ _ hcmp).mono ?_)); rintro e w' ⟨rfl, hb2⟩; have hbb := Aside0.mk (Below.trans hb (hb2.mono hb.size)))
    go_ret2
    exact ⟨by rw [HE.out, show i - 1 + 1 = i by omega]; rfl, hbb.out⟩
   ·have HE := Aside0.mk hend
    clear hend
    go_wp2
    go_ret2
    exact ⟨by rw [HE.out, show i - 1 + 1 = i by omega]; rfl, hb⟩
/-! ### step_Find: function 94 -/
def step_Find.f (l0 : List (S56)) (a1 : Int) : Option (Int) := if SortedS l0 then some (findS l0 a1) else none
theorem findS_in (l : List S56) (u : Int) : -1 ≤ findS l u ∧ findS l u < (l.length : Int) := by
 have := List.length_filter_le (fun b : S56 => decide (b.f0 ≤ u)) l
 unfold findS
 omega
set_option maxHeartbeats 2000000 in
theorem step_Find.calls (A0 : Option Addr) (c0 : Nat) (l0 : List (S56)) (a1 : Int) (r : Int) (w : World) (hr0 : Kd.C k56 w A0 l0.length l0) (hc0 : l0.length ≤ c0) (h : step_Find.f l0 a1 = some r) :
  Calls Try.prog 94 #[.slice A0 l0.length c0, .int .i64 a1] w fun e w' => e = .returned (.int .i64 r) ∧ Below w.heap.size w w' := by
 unfold step_Find.f at h
 by_cases hs0 : SortedS l0
 ·rw [if_pos hs0] at h
  obtain rfl := Option.some.inj h
  clear h
  have hl := hs0.1
  have hs := Aside0.mk hs0
  have HR := Aside0.mk hr0
  have hi := findS_in l0 a1
  have h1 : -1 ≤ findS l0 a1 := hi.1
  have h2 : findS l0 a1 ≤ 1000 := by omega
  clear hs0 hr0 hi
  go_enter Try.func94, Try.ntmps94
  go_wp2_with (go_at_call 101; refine (bs_any A0 c0 l0 a1 _ HR.out hs.out).mono ?_; rintro e w' ⟨rfl, hb⟩)
  go_ret
  exact ⟨rfl, hb⟩
 ·rw [if_neg hs0] at h
  cases h
/-! ### step_Want: function 83 -/
def cl0 (n : Int) : Int := mx 0 (mn n 1000)
def step_Want.f (l0 : List (S56)) (a1 : Int) (a2 : Int) : Option (Int) := if SortedS l0 then some (if findS l0 a2 ≥ 0 then cl0 (wrap64 (cl0 a1 + (rd_T56 l0 (findS l0 a2)).f1)) else cl0 a1) else none
set_option maxHeartbeats 2000000 in
theorem stepInto_any (n : Int) (w : World) : Calls Try.prog 93 #[.int .i64 n] w fun e w' => e = .returned (.int .i64 (cl0 n)) ∧ Drawn0 w w' := by
 obtain ⟨m, hm⟩ : ∃ m, mn n 1000 = m := ⟨_, rfl⟩
 have hm' : (if 1000 < n then 1000 else n) = m := hm
 obtain ⟨s, hs⟩ : ∃ s, cl0 n = s := ⟨_, rfl⟩
 have hs' : (if 0 < m then m else 0) = s := by rw [← hs, ← hm]; rfl
 rw [hs]
 clear hm hs
 go_enter Try.func93, Try.ntmps93
 go_wp2
 go_ret
 exact ⟨rfl, by repeat (first | exact Drawn0.refl _ | apply Drawn0.step)⟩
set_option maxHeartbeats 4000000 in
set_option maxRecDepth 100000 in
theorem step_Want.calls (A0 : Option Addr) (c0 : Nat) (l0 : List (S56)) (a1 : Int) (a2 : Int) (r : Int) (w : World) (hr0 : Kd.C k56 w A0 l0.length l0) (hc0 : l0.length ≤ c0) (h : step_Want.f l0 a1 a2 = some r) :
  Calls Try.prog 83 #[.slice A0 l0.length c0, .int .i64 a1, .int .i64 a2] w fun e w' => e = .returned (.int .i64 r) ∧ Below w.heap.size w w' := by
 have hu := Try.underlying56
 unfold step_Want.f at h
 by_cases hs0 : SortedS l0
 ·rw [if_pos hs0] at h
  obtain ⟨i, hi⟩ : ∃ i, findS l0 a2 = i := ⟨_, rfl⟩
  have hin := findS_in l0 a2
  rw [hi] at h hin
  have hf := Aside0.mk (show step_Find.f l0 a2 = some i by unfold step_Find.f; rw [if_pos hs0, hi])
  have hr := Option.some.inj h
  have HR := Aside0.mk hr0
  have HC := Aside0.mk hc0
  have hl := hs0.1
  clear h hs0 hr0 hi hc0
  by_cases c : i ≥ 0
  ·rw [if_pos c] at hr
   have hr' := Aside0.mk hr
   clear hr
   have c' : 0 ≤ i := c
   have hil : i < (l0.length : Int) := hin.2
   clear hin c
   go_enter Try.func83, Try.ntmps83
   go_wp2_with (first
    | (go_at_call 93; (with_reducible refine (stepInto_any a1 _).mono ?_); rintro e w' ⟨rfl, ⟨nd, rfl⟩⟩)
    | (go_at_call 94; refine (step_Find.calls A0 c0 l0 a2 i _ (Kd.C_below HR.out (pw_below_drewN (Below.refl _ w) nd)) HC.out hf.out).mono ?_; rintro e w1 ⟨rfl, hb⟩; have hbb := Aside0.mk (Below.trans (pw_below_drewN (Below.refl _ w) nd) hb); have hr1 := Kd.C_below HR.out hbb.out; obtain ⟨ad, e, hx0, hx1⟩ := at_T56 hr1 i c' hil; cases e)
    | (go_at_call 93; (with_reducible refine (stepInto_any _ _).mono ?_); rintro e w' ⟨rfl, ⟨nd2, rfl⟩⟩))
   go_ret
   exact ⟨by rw [← hr'.out]; rfl, pw_below_drewN hbb.out _⟩
  ·rw [if_neg c] at hr
   subst hr
   have hi1 : i = -1 := by omega
   subst hi1
   clear c hin
   go_enter Try.func83, Try.ntmps83
   go_wp2_with (first
    | (go_at_call 93; (with_reducible refine (stepInto_any a1 _).mono ?_); rintro e w' ⟨rfl, ⟨nd, rfl⟩⟩)
    | (go_at_call 94; refine (step_Find.calls A0 c0 l0 a2 (-1) _ (Kd.C_below HR.out (pw_below_drewN (Below.refl _ w) nd)) HC.out hf.out).mono ?_; rintro e w1 ⟨rfl, hb⟩; have hbb := Aside0.mk (Below.trans (pw_below_drewN (Below.refl _ w) nd) hb)))
   go_ret
   exact ⟨rfl, hbb.out⟩
 ·rw [if_neg hs0] at h
  cases h
/-! ### policy_kinds_2: function 82 -/
def policy_kinds_2.f (a0_0 : Int) (a0_1 : Int) (l0_2 : List (S56)) (a0_3 : Int) (a0_4 : Int) (a0_5 : Int) (a0_6 : Int) (l0_7 : List (S58)) (a1_0 : Int) (a1_1 : Int) (a1_2 : Bool) (a1_3 : Int) (a1_4 : Int) (a1_5 : Int) : Option (Int) := (step_Want.f l0_2 a1_3 a1_4).bind fun t133 => (some t133)
set_option maxHeartbeats 8000000 in
set_option maxRecDepth 100000 in
theorem policy_kinds_2.calls (a0_0 : Int) (a0_1 : Int) (A0_2 : Option Addr) (c0_2 : Nat) (l0_2 : List (S56)) (a0_3 : Int) (a0_4 : Int) (a0_5 : Int) (a0_6 : Int) (A0_7 : Option Addr) (c0_7 : Nat) (l0_7 : List (S58)) (a1_0 : Int) (a1_1 : Int) (a1_2 : Bool) (a1_3 : Int) (a1_4 : Int) (a1_5 : Int) (r : Int) (w : World) (hr0_2 : Kd.C k56 w A0_2 l0_2.length l0_2) (hc0_2 : l0_2.length ≤ c0_2) (hr0_7 : Kd.C k58 w A0_7 l0_7.length l0_7) (hc0_7 : l0_7.length ≤ c0_7) (h : policy_kinds_2.f a0_0 a0_1 l0_2 a0_3 a0_4 a0_5 a0_6 l0_7 a1_0 a1_1 a1_2 a1_3 a1_4 a1_5 = some r) :
  Calls Try.prog 82 #[.agg #[.int .i64 a0_0, .int .i64 a0_1, .slice A0_2 l0_2.length c0_2, .int .i64 a0_3, .int .i64 a0_4, .int .i64 a0_5, .int .i64 a0_6, .slice A0_7 l0_7.length c0_7], .agg #[.int .i64 a1_0, .int .i64 a1_1, .bool a1_2, .int .i64 a1_3, .int .i64 a1_4, .int .i64 a1_5]] w fun e w' => e = .returned (.int .i64 r) ∧ Below w.heap.size w w' := by
 have hu27 := Try.underlying27
 have hu105 := Try.underlying105
 have HR0_2 := Aside0.mk hr0_2
 have HC0_2 := Aside0.mk hc0_2
 clear hr0_2 hc0_2
 have HR0_7 := Aside0.mk hr0_7
 have HC0_7 := Aside0.mk hc0_7
 clear hr0_7 hc0_7
 have HB := Aside0.mk (Below.refl w.heap.size w)
 have H : ((step_Want.f l0_2 a1_3 a1_4).bind fun t133 => (some t133)) = some r := h
 clear h
 replace H := Option.bind_eq_some_iff.mp H
 obtain ⟨t133, A30, H⟩ := H
 replace H : (some t133) = some r := H
 have A3 := Aside0.mk A30
 clear A30
 obtain rfl := Option.some.inj H
 go_enter Try.func82, Try.ntmps82
 go_wp2_with (first | ((with_reducible refine gate_dst (N := 2) rfl ?_); refine box_event ?hg (N := 2) ?hd (cs := #[.int .i64 a0_0, .int .i64 a0_1, .slice A0_2 l0_2.length c0_2, .int .i64 a0_3, .int .i64 a0_4, .int .i64 a0_5, .int .i64 a0_6, .slice A0_7 l0_7.length c0_7]) (t := 27) ?hr ?_; (case hd => rfl); (case hg => rfl); (case hr => first | (go_simp; done) | (go_simp; rfl)); intro gb131 hg w4 hbox hb; have n0_ := Aside0.mk (below_step (by repeat (first | (with_reducible first | exact HB.out | apply below_alloc | apply pw_below_drewN | apply below_drew1) | exact HB.out)) hb); have n1_ := Aside0.mk (hbox); have n2_ := Aside0.mk ((by rw [hg]; exact (below_size (by repeat (first | (with_reducible first | exact HB.out | apply below_alloc | apply pw_below_drewN | apply below_drew1) | exact HB.out))) : w.heap.size ≤ gb131)); have n3_ := Aside0.mk ((by rw [hg]; exact (below_size (by repeat (first | (with_reducible first | exact HB.out | apply below_alloc | apply pw_below_drewN | apply below_drew1) | exact HB.out))) : w.heap.size ≤ gb131)); clear HB; have HB := n0_; have BK131 := n1_; have GW131 := n2_; have GE131 := n3_; clear n0_ n1_ n2_ n3_; clear hb hbox hg) | ((with_reducible refine gate_dst (N := 3) rfl ?_); refine box_event ?hg (N := 3) ?hd (cs := #[.int .i64 a1_0, .int .i64 a1_1, .bool a1_2, .int .i64 a1_3, .int .i64 a1_4, .int .i64 a1_5]) (t := 105) ?hr ?_; (case hd => rfl); (case hg => rfl); (case hr => first | (go_simp; done) | (go_simp; rfl)); intro gb132 hg w5 hbox hb; have n0_ := Aside0.mk (blk_below (g := gb131) (o := .cells #[.int .i64 a0_0, .int .i64 a0_1, .slice A0_2 l0_2.length c0_2, .int .i64 a0_3, .int .i64 a0_4, .int .i64 a0_5, .int .i64 a0_6, .slice A0_7 l0_7.length c0_7] 27 (0, 0)) (by (with_reducible repeat (first | refine blk_drewN ?_ _ | refine blk_drew ?_ | refine blk_alloc ?_ _)); exact BK131.out) hb); have n1_ := Aside0.mk (below_step (by repeat (first | (with_reducible first | exact HB.out | apply below_alloc | apply pw_below_drewN | apply below_drew1 | refine below_set ?_ GE131.out) | exact HB.out)) hb); have n2_ := Aside0.mk (hbox); have n3_ := Aside0.mk ((by rw [hg]; exact (below_size (by repeat (first | (with_reducible first | exact HB.out | apply below_alloc | apply pw_below_drewN | apply below_drew1 | refine below_set ?_ GE131.out) | exact HB.out))) : w.heap.size ≤ gb132)); have n4_ := Aside0.mk ((by rw [hg]; exact (below_size (by repeat (first | (with_reducible first | exact HB.out | apply below_alloc | apply pw_below_drewN | apply below_drew1 | refine below_set ?_ GE131.out) | exact HB.out))) : w.heap.size ≤ gb132)); have n5_ := Aside0.mk ((by rw [hg]; exact Nat.ne_of_lt (blk_lt (g := gb131) (o := .cells #[.int .i64 a0_0, .int .i64 a0_1, .slice A0_2 l0_2.length c0_2, .int .i64 a0_3, .int .i64 a0_4, .int .i64 a0_5, .int .i64 a0_6, .slice A0_7 l0_7.length c0_7] 27 (0, 0)) (by (with_reducible repeat (first | refine blk_drewN ?_ _ | refine blk_drew ?_ | refine blk_alloc ?_ _)); exact BK131.out)) : gb131 ≠ gb132)); have n6_ := Aside0.mk ((by rw [hg]; exact Nat.ne_of_gt (blk_lt (g := gb131) (o := .cells #[.int .i64 a0_0, .int .i64 a0_1, .slice A0_2 l0_2.length c0_2, .int .i64 a0_3, .int .i64 a0_4, .int .i64 a0_5, .int .i64 a0_6, .slice A0_7 l0_7.length c0_7] 27 (0, 0)) (by (with_reducible repeat (first | refine blk_drewN ?_ _ | refine blk_drew ?_ | refine blk_alloc ?_ _)); exact BK131.out)) : gb132 ≠ gb131)); clear BK131; clear HB; have BK131 := n0_; have HB := n1_; have BK132 := n2_; have GW132 := n3_; have GE132 := n4_; have NB131_132 := n5_; have NB132_131 := n6_; clear n0_ n1_ n2_ n3_ n4_ n5_ n6_; clear hb hbox hg; have hnb6 := NB131_132.out; have hnc6 := NB132_131.out; have hcz7_0 : w5.cell? ⟨gb131, 0, none⟩ = some (.int .i64 a0_0) := (blk_cell BK131.out 0).trans rfl; have hcz7_1 : w5.cell? ⟨gb131, 1, none⟩ = some (.int .i64 a0_1) := (blk_cell BK131.out 1).trans rfl; have hcz7_2 : w5.cell? ⟨gb131, 2, none⟩ = some (.slice A0_2 l0_2.length c0_2) := (blk_cell BK131.out 2).trans rfl; have hcz7_3 : w5.cell? ⟨gb131, 3, none⟩ = some (.int .i64 a0_3) := (blk_cell BK131.out 3).trans rfl; have hcz7_4 : w5.cell? ⟨gb131, 4, none⟩ = some (.int .i64 a0_4) := (blk_cell BK131.out 4).trans rfl; have hcz7_5 : w5.cell? ⟨gb131, 5, none⟩ = some (.int .i64 a0_5) := (blk_cell BK131.out 5).trans rfl; have hcz7_6 : w5.cell? ⟨gb131, 6, none⟩ = some (.int .i64 a0_6) := (blk_cell BK131.out 6).trans rfl; have hcz7_7 : w5.cell? ⟨gb131, 7, none⟩ = some (.slice A0_7 l0_7.length c0_7) := (blk_cell BK131.out 7).trans rfl; have hfz7_0 := blk_frozen BK131.out 0; have hfz7_1 := blk_frozen BK131.out 1; have hfz7_2 := blk_frozen BK131.out 2; have hfz7_3 := blk_frozen BK131.out 3; have hfz7_4 := blk_frozen BK131.out 4; have hfz7_5 := blk_frozen BK131.out 5; have hfz7_6 := blk_frozen BK131.out 6; have hfz7_7 := blk_frozen BK131.out 7; have hcz8_0 : w5.cell? ⟨gb132, 0, none⟩ = some (.int .i64 a1_0) := (blk_cell BK132.out 0).trans rfl; have hcz8_1 : w5.cell? ⟨gb132, 1, none⟩ = some (.int .i64 a1_1) := (blk_cell BK132.out 1).trans rfl; have hcz8_2 : w5.cell? ⟨gb132, 2, none⟩ = some (.bool a1_2) := (blk_cell BK132.out 2).trans rfl; have hcz8_3 : w5.cell? ⟨gb132, 3, none⟩ = some (.int .i64 a1_3) := (blk_cell BK132.out 3).trans rfl; have hcz8_4 : w5.cell? ⟨gb132, 4, none⟩ = some (.int .i64 a1_4) := (blk_cell BK132.out 4).trans rfl; have hcz8_5 : w5.cell? ⟨gb132, 5, none⟩ = some (.int .i64 a1_5) := (blk_cell BK132.out 5).trans rfl; have hfz8_0 := blk_frozen BK132.out 0; have hfz8_1 := blk_frozen BK132.out 1; have hfz8_2 := blk_frozen BK132.out 2; have hfz8_3 := blk_frozen BK132.out 3; have hfz8_4 := blk_frozen BK132.out 4; have hfz8_5 := blk_frozen BK132.out 5) | ((with_reducible refine gate_callee (f := 83) rfl ?_); refine goesL_ (some 11) rfl rfl Try.func83 (by kernel_rfl) rfl #[.slice A0_2 l0_2.length c0_2, .int .i64 a1_3, .int .i64 a1_4] rfl (by (try simp only [List.map_toArray, List.map_cons, List.map_nil]); first | done | rfl | (simp only [List.length_drop, List.length_take]; rfl)) ?_; (with_reducible refine (step_Want.calls _ _ l0_2 a1_3 a1_4 t133 _ ?side1 ?side2 A3.out).mono ?_); (case side1 => repeat (first | exact (Kd.C_below HR0_2.out HB.out) | (with_reducible refine Kd.C_alloc ?_ _) | (with_reducible refine Kd.C_drewN ?_ _) | (with_reducible refine Kd.C_drew ?_))); (case side2 => exact HC0_2.out); rintro e w9 ⟨rfl, hb⟩; refine ⟨_, rfl, ?_⟩; have n0_ := Aside0.mk (blk_below (g := gb131) (o := .cells #[.int .i64 a0_0, .int .i64 a0_1, .slice A0_2 l0_2.length c0_2, .int .i64 a0_3, .int .i64 a0_4, .int .i64 a0_5, .int .i64 a0_6, .slice A0_7 l0_7.length c0_7] 27 (0, 0)) (by (with_reducible repeat (first | refine blk_drewN ?_ _ | refine blk_drew ?_ | refine blk_alloc ?_ _)); exact BK131.out) hb); have n1_ := Aside0.mk (blk_below (g := gb132) (o := .cells #[.int .i64 a1_0, .int .i64 a1_1, .bool a1_2, .int .i64 a1_3, .int .i64 a1_4, .int .i64 a1_5] 105 (0, 0)) (by (with_reducible repeat (first | refine blk_drewN ?_ _ | refine blk_drew ?_ | refine blk_alloc ?_ _)); exact BK132.out) hb); have n2_ := Aside0.mk (below_step (by repeat (first | (with_reducible first | exact HB.out | apply below_alloc | apply pw_below_drewN | apply below_drew1 | refine below_set ?_ GE131.out | refine below_set ?_ GE132.out) | exact HB.out)) hb); clear BK131; clear BK132; clear HB; have BK131 := n0_; have BK132 := n1_; have HB := n2_; clear n0_ n1_ n2_; (try clear hb); (try clear hb2); (try clear hk); (try clear hi)))
 go_ret
 exact ⟨by first | rfl | (simp [errW_none, errW_some] <;> rfl) | (simp [*, errW_none, errW_some] <;> rfl), by repeat (first | (with_reducible first | exact HB.out | apply below_alloc | apply pw_below_drewN | apply below_drew1 | refine below_set ?_ GE131.out | refine below_set ?_ GE132.out) | exact HB.out)⟩
/-! ### fixed_Sub: function 95 -/
set_option maxHeartbeats 2000000 in
theorem does_sub : Does 103 (fun a b => a - b) := by
 intro a b w a0 a1 b0 b1
 go_enter Try.func103, Try.ntmps103
 go_wp2
 go_ret
 exact ⟨rfl, Drawn0.refl _⟩
def fixed_Sub.f (a0 : Int) (a1 : Int) : Option (Int) := some (satI (satI a0 - satI a1))
set_option maxHeartbeats 2000000 in
theorem fixed_Sub.calls (a0 : Int) (a1 : Int) (r : Int) (w : World) (h : fixed_Sub.f a0 a1 = some r) :
  Calls Try.prog 95 #[.int .i64 a0, .int .i64 a1] w fun e w' => e = .returned (.int .i64 r) ∧ Drawn0 w w' := by
 obtain rfl := Option.some.inj h
 clear h
 go_enter Try.func95, Try.ntmps95
 go_wp2_with (go_at_call 77; refine (two_any _ _ does_sub (enters_of Try.func103 (by kernel_rfl) rfl) a0 a1 _).mono ?_; rintro e w' ⟨rfl, ⟨_, rfl⟩⟩)
 go_ret
 exact ⟨rfl, by repeat (first | exact Drawn0.refl _ | apply Drawn0.step)⟩
/-! ### fixed_signed: function 104 -/
def nearI (n : Int) : Int := if n < 0 then -(Int.tdiv (-n + 500) 1000) else Int.tdiv (n + 500) 1000
set_option maxHeartbeats 2000000 in
theorem near1_any (n : Int) (w : World) (h0 : 0 ≤ n) (h1 : n ≤ 1000000000) : Calls Try.prog 105 #[.int .i64 n] w fun e w' => e = .returned (.int .i64 (Int.tdiv (n + 500) 1000)) ∧ Drawn0 w w' := by
 have e : Int.tdiv (n + 500) 1000 = (n + 500) / 1000 := Int.tdiv_eq_ediv_of_nonneg (by omega)
 rw [e]
 clear e
 go_enter Try.func105, Try.ntmps105
 go_wp2
 go_ret
 exact ⟨rfl, Drawn0.refl _⟩
set_option maxHeartbeats 4000000 in
theorem signed_any (n : Int) (w : World) : Calls Try.prog 104 #[.int .i64 n, .func (.func 105) #[] #[]] w fun e w' => e = .returned (.int .i64 (nearI (satI n))) ∧ Drawn0 w w' := by
 have h1 := satI_lo n
 have h2 := satI_hi n
 by_cases c : satI n < 0
 ·have e : nearI (satI n) = -(Int.tdiv (-satI n + 500) 1000) := by unfold nearI; rw [if_pos c]
  rw [e]
  clear e
  have h3 : 0 ≤ Int.tdiv (-satI n + 500) 1000 := Int.tdiv_nonneg (by omega) (by omega)
  have h4 : Int.tdiv (-satI n + 500) 1000 ≤ 1000000 := by rw [Int.tdiv_eq_ediv_of_nonneg (by omega)]; omega
  go_enter Try.func104, Try.ntmps104
  go_wp2_with (first | (go_at_call 65; refine (sat_any n _).mono ?_; rintro e w' ⟨rfl, ⟨_, rfl⟩⟩) | (refine (near1_any _ _ (by omega) (by omega)).mono ?_; rintro e w' ⟨rfl, ⟨_, rfl⟩⟩))
  go_ret
  exact ⟨rfl, by repeat (first | exact Drawn0.refl _ | apply Drawn0.step)⟩
 ·have e : nearI (satI n) = Int.tdiv (satI n + 500) 1000 := by unfold nearI; rw [if_neg c]
  rw [e]
  clear e
  have cb : decide (satI n < 0) = false := decide_eq_false c
  have c2 : 0 ≤ satI n := by omega
  clear c
  go_enter Try.func104, Try.ntmps104
  go_wp2_with (first | (go_at_call 65; refine (sat_any n _).mono ?_; rintro e w' ⟨rfl, ⟨_, rfl⟩⟩) | (refine (near1_any _ _ (by omega) (by omega)).mono ?_; rintro e w' ⟨rfl, ⟨_, rfl⟩⟩))
  go_ret
  exact ⟨rfl, by repeat (first | exact Drawn0.refl _ | apply Drawn0.step)⟩
/-! ### fixed_Near: function 96 -/
def fixed_Near.f (a0 : Int) : Option (Int) := some (nearI (satI a0))
set_option maxHeartbeats 2000000 in
theorem fixed_Near.calls (a0 : Int) (r : Int) (w : World) (h : fixed_Near.f a0 = some r) :
  Calls Try.prog 96 #[.int .i64 a0] w fun e w' => e = .returned (.int .i64 r) ∧ Drawn0 w w' := by
 obtain rfl := Option.some.inj h
 clear h
 go_enter Try.func96, Try.ntmps96
 go_wp2_with (go_at_call 104; refine (signed_any a0 _).mono ?_; rintro e w' ⟨rfl, ⟨_, rfl⟩⟩)
 go_ret
 exact ⟨rfl, by repeat (first | exact Drawn0.refl _ | apply Drawn0.step)⟩
/-! ### pid_weighed: function 97 -/
def pid_weighed.l0 : Nat → Int → List (S122) → Int → Int → Option (Int)
 | 0, _, _, _, _ => none
 | k + 1, x3, x6, x7, x8 => if x8 < x7 then (if 0 ≤ x8 then (if x8 < (x6.length : Int) then ((fixed_Mul.f ((rd_T122 x6 x8).f0) ((rd_T122 x6 x8).f1)).bind fun t136 => ((fixed_Add.f x3 t136).bind fun t137 => (pid_weighed.l0 k t137 x6 x7 (wrap64 (x8 + 1))))) else (none)) else (none)) else (some x3)
def pid_weighed.f (k : Nat) (l0 : List (S122)) : Option (Int) := pid_weighed.l0 k 0 l0 (l0.length : Int) 0
set_option maxHeartbeats 8000000 in
set_option maxRecDepth 100000 in
theorem pid_weighed.calls (k : Nat) (A0 : Option Addr) (c0 : Nat) (l0 : List (S122)) (r : Int) (w : World) (hr0 : Kd.C k122 w A0 l0.length l0) (hc0 : l0.length ≤ c0) (h : pid_weighed.f k l0 = some r) :
  Calls Try.prog 97 #[.slice A0 l0.length c0] w fun e w' => e = .returned (.int .i64 r) ∧ Below w.heap.size w w' := by
 have hu122 := Try.underlying122
 have HR0 := Aside0.mk hr0
 have HC0 := Aside0.mk hc0
 clear hr0 hc0
 have HB := Aside0.mk (Below.refl w.heap.size w)
 have H : (pid_weighed.l0 k 0 l0 (l0.length : Int) 0) = some r := h
 clear h
 have H' := Aside0.mk H
 clear H
 go_enter Try.func97, Try.ntmps97
 go_wp2
 go_loopg [3, 8] k (fun kq v3 v8 w' => ∃ (x3_1 : Int) (x8_1 : Int), v3 = .int .i64 x3_1 ∧ v8 = .int .i64 x8_1 ∧ Aside0 (pid_weighed.l0 kq x3_1 l0 (l0.length : Int) x8_1 = some r) ∧ Aside0 (kq ≤ k) ∧ Aside0 (Below w.heap.size w w'))
 case atStart => exact ⟨(0), (0), (by first | rfl | (simp; done) | (simp [*]; done)), (by first | rfl | (simp; done) | (simp [*]; done)), H', ⟨Nat.le_refl _⟩, ⟨by repeat (first | (with_reducible first | exact HB.out | apply below_alloc | apply pw_below_drewN | apply below_drew1) | exact HB.out)⟩⟩
 case round =>
  clear H'
  obtain ⟨x3_1, x8_1, rfl, rfl, HA, HK1, HB⟩ := hrel
  cases gk with
  | zero => exact absurd HA.out (by simp [pid_weighed.l0])
  | succ k1 =>
   have H := HA.out
   clear HA
   simp only [pid_weighed.l0] at H
   by_cases c2 : x8_1 < (l0.length : Int)
   ·rw [if_pos c2] at H
    have c2b0 : decide (x8_1 < (l0.length : Int)) = true := decide_eq_true c2
    clear c2
    by_cases c3 : 0 ≤ x8_1
    ·rw [if_pos c3] at H
     have c3b0 : decide (0 ≤ x8_1) = true := decide_eq_true c3
     clear c3
     by_cases c4 : x8_1 < (l0.length : Int)
     ·rw [if_pos c4] at H
      have c4b0 : decide (x8_1 < (l0.length : Int)) = true := decide_eq_true c4
      clear c4
      replace H := Option.bind_eq_some_iff.mp H
      obtain ⟨t136, A50, H⟩ := H
      replace H : ((fixed_Add.f x3_1 t136).bind fun t137 => (pid_weighed.l0 k1 t137 l0 (l0.length : Int) (wrap64 (x8_1 + 1)))) = some r := H
      have A5 := Aside0.mk A50
      clear A50
      replace H := Option.bind_eq_some_iff.mp H
      obtain ⟨t137, A60, H⟩ := H
      replace H : (pid_weighed.l0 k1 t137 l0 (l0.length : Int) (wrap64 (x8_1 + 1))) = some r := H
      have A6 := Aside0.mk A60
      clear A60
      have H' := Aside0.mk H
      clear H
      have p134 : 0 ≤ (x8_1 : Int) := of_decide_eq_true (by first | (with_reducible assumption) | assumption)
      have q134 : x8_1 < (l0.length : Int) := of_decide_eq_true (by first | (with_reducible assumption) | assumption)
      obtain ⟨ad134, e134, hx134_0, hx134_1⟩ := at_T122 HR0.out x8_1 p134 q134
      cases e134
      replace hx134_0 := (HB.out.cell (World.block_lt_of_cell? w _ hx134_0)).trans hx134_0
      replace hx134_1 := (HB.out.cell (World.block_lt_of_cell? w _ hx134_1)).trans hx134_1
      replace p134 := eq_true p134
      replace q134 := eq_true q134
      go_wp2_with (first | ((with_reducible refine gate_dst (N := 5) rfl ?_); refine box_event ?hg (N := 5) ?hd (cs := #[.int .i64 0, .int .i64 0]) (t := 122) ?hr ?_; (case hd => rfl); (case hg => rfl); (case hr => first | (go_simp; done) | (go_simp; rfl)); intro gb135 hg w7 hbox hb; have n0_ := Aside0.mk (below_step (by repeat (first | (with_reducible first | exact HB.out | apply below_alloc | apply pw_below_drewN | apply below_drew1) | exact HB.out)) hb); have n1_ := Aside0.mk (hbox); have n2_ := Aside0.mk ((by rw [hg]; exact (below_size (by repeat (first | (with_reducible first | exact HB.out | apply below_alloc | apply pw_below_drewN | apply below_drew1) | exact HB.out))) : w.heap.size ≤ gb135)); have n3_ := Aside0.mk ((by rw [hg]; exact (below_size (by repeat (first | (with_reducible first | exact HB.out | apply below_alloc | apply pw_below_drewN | apply below_drew1) | exact HB.out))) : w.heap.size ≤ gb135)); clear HB; have HB := n0_; have BK135 := n1_; have GW135 := n2_; have GE135 := n3_; clear n0_ n1_ n2_ n3_; clear hb hbox hg; have hcz8_0 : w7.cell? ⟨gb135, 0, none⟩ = some (.int .i64 0) := (blk_cell BK135.out 0).trans rfl; have hcz8_1 : w7.cell? ⟨gb135, 1, none⟩ = some (.int .i64 0) := (blk_cell BK135.out 1).trans rfl; have hfz8_0 := blk_frozen BK135.out 0; have hfz8_1 := blk_frozen BK135.out 1) | ((with_reducible refine gate_callee (f := 90) rfl ?_); refine goesL_ (some 17) rfl rfl Try.func90 (by kernel_rfl) rfl #[.int .i64 ((rd_T122 l0 x8_1).f0), .int .i64 ((rd_T122 l0 x8_1).f1)] rfl (by (try simp only [List.map_toArray, List.map_cons, List.map_nil]); first | done | rfl | (simp only [List.length_drop, List.length_take]; rfl)) ?_; (with_reducible refine (fixed_Mul.calls ((rd_T122 l0 x8_1).f0) ((rd_T122 l0 x8_1).f1) t136 _ A5.out).mono ?_); rintro e w' ⟨rfl, ⟨nd, rfl⟩⟩; refine ⟨_, rfl, ?_⟩) | ((with_reducible refine gate_callee (f := 64) rfl ?_); refine goesL_ (some 18) rfl rfl Try.func64 (by kernel_rfl) rfl #[.int .i64 x3_1, .int .i64 t136] rfl (by (try simp only [List.map_toArray, List.map_cons, List.map_nil]); first | done | rfl | (simp only [List.length_drop, List.length_take]; rfl)) ?_; (with_reducible refine (fixed_Add.calls x3_1 t136 t137 _ A6.out).mono ?_); rintro e w' ⟨rfl, ⟨nd, rfl⟩⟩; refine ⟨_, rfl, ?_⟩))
      go_roundg k1
      case measure => have := HK1.out; omega
      case rel => exact ⟨(t137), (wrap64 (x8_1 + 1)), (by first | rfl | (simp; done) | (simp [*]; done)), (by first | rfl | (simp; done) | (simp [*]; done)), H', ⟨by have := HK1.out; omega⟩, ⟨by repeat (first | (with_reducible first | exact HB.out | apply below_alloc | apply pw_below_drewN | apply below_drew1 | refine below_set ?_ GE135.out) | exact HB.out)⟩⟩
     ·rw [if_neg c4] at H
      exact absurd H (by simp)
    ·rw [if_neg c3] at H
     exact absurd H (by simp)
   ·rw [if_neg c2] at H
    have c2b0 : decide (x8_1 < (l0.length : Int)) = false := decide_eq_false c2
    clear c2
    obtain rfl := Option.some.inj H
    go_wp2
    go_ret
    exact ⟨by first | rfl | (simp [errW_none, errW_some] <;> rfl) | (simp [*, errW_none, errW_some] <;> rfl), by repeat (first | (with_reducible first | exact HB.out | apply below_alloc | apply pw_below_drewN | apply below_drew1) | exact HB.out)⟩

/-! ### pid_Next: function 85 -/
def pid_Next.f (k : Nat) (a0_0 : Int) (a0_1 : Int) (l0_2 : List (S56)) (a0_3 : Int) (a0_4 : Int) (a0_5 : Int) (a0_6 : Int) (l0_7 : List (S58)) (a1_0 : Int) (a1_1 : Int) (a1_2 : Bool) (a2 : Int) : Option (Int × Int × Bool × Int) := (fixed_Sub.f a2 a0_1).bind fun t141 => ((fixed_Add.f a1_0 t141).bind fun t143 => (if a1_2 = true then ((fixed_Sub.f t141 a1_1).bind fun t144 => ((pid_weighed.f k (([(⟨a0_3, t141⟩ : S122), (⟨a0_4, t143⟩ : S122), (⟨a0_5, t144⟩ : S122)] : List (S122)))).bind fun t148 => ((fixed_Near.f t148).bind fun t149 => (some (t143, t141, true, mx (-1000) (mn 1000 t149)))))) else ((pid_weighed.f k (([(⟨a0_3, t141⟩ : S122), (⟨a0_4, t143⟩ : S122), (⟨a0_5, 0⟩ : S122)] : List (S122)))).bind fun t153 => ((fixed_Near.f t153).bind fun t154 => (some (t143, t141, true, mx (-1000) (mn 1000 t154)))))))
set_option maxHeartbeats 8000000 in
set_option maxRecDepth 100000 in
theorem pid_Next.calls (k : Nat) (a0_0 : Int) (a0_1 : Int) (A0_2 : Option Addr) (c0_2 : Nat) (l0_2 : List (S56)) (a0_3 : Int) (a0_4 : Int) (a0_5 : Int) (a0_6 : Int) (A0_7 : Option Addr) (c0_7 : Nat) (l0_7 : List (S58)) (a1_0 : Int) (a1_1 : Int) (a1_2 : Bool) (a2 : Int) (r1 : Int) (r2 : Int) (r3 : Bool) (r4 : Int) (w : World) (hr0_2 : Kd.C k56 w A0_2 l0_2.length l0_2) (hc0_2 : l0_2.length ≤ c0_2) (hr0_7 : Kd.C k58 w A0_7 l0_7.length l0_7) (hc0_7 : l0_7.length ≤ c0_7) (h : pid_Next.f k a0_0 a0_1 l0_2 a0_3 a0_4 a0_5 a0_6 l0_7 a1_0 a1_1 a1_2 a2 = some (r1, r2, r3, r4)) :
  Calls Try.prog 85 #[.agg #[.int .i64 a0_0, .int .i64 a0_1, .slice A0_2 l0_2.length c0_2, .int .i64 a0_3, .int .i64 a0_4, .int .i64 a0_5, .int .i64 a0_6, .slice A0_7 l0_7.length c0_7], .agg #[.int .i64 a1_0, .int .i64 a1_1, .bool a1_2], .int .i64 a2] w fun e w' => e = .returned (.tuple #[.agg #[.int .i64 r1, .int .i64 r2, .bool r3], .int .i64 r4]) ∧ Below w.heap.size w w' := by
 have hu27 := Try.underlying27
 have hu29 := Try.underlying29
 have hu122 := Try.underlying122
 have HR0_2 := Aside0.mk hr0_2
 have HC0_2 := Aside0.mk hc0_2
 clear hr0_2 hc0_2
 have HR0_7 := Aside0.mk hr0_7
 have HC0_7 := Aside0.mk hc0_7
 clear hr0_7 hc0_7
 have HB := Aside0.mk (Below.refl w.heap.size w)
 have H : ((fixed_Sub.f a2 a0_1).bind fun t141 => ((fixed_Add.f a1_0 t141).bind fun t143 => (if a1_2 = true then ((fixed_Sub.f t141 a1_1).bind fun t144 => ((pid_weighed.f k (([(⟨a0_3, t141⟩ : S122), (⟨a0_4, t143⟩ : S122), (⟨a0_5, t144⟩ : S122)] : List (S122)))).bind fun t148 => ((fixed_Near.f t148).bind fun t149 => (some (t143, t141, true, mx (-1000) (mn 1000 t149)))))) else ((pid_weighed.f k (([(⟨a0_3, t141⟩ : S122), (⟨a0_4, t143⟩ : S122), (⟨a0_5, 0⟩ : S122)] : List (S122)))).bind fun t153 => ((fixed_Near.f t153).bind fun t154 => (some (t143, t141, true, mx (-1000) (mn 1000 t154)))))))) = some (r1, r2, r3, r4) := h
 clear h
 replace H := Option.bind_eq_some_iff.mp H
 obtain ⟨t141, A40, H⟩ := H
 replace H : ((fixed_Add.f a1_0 t141).bind fun t143 => (if a1_2 = true then ((fixed_Sub.f t141 a1_1).bind fun t144 => ((pid_weighed.f k (([(⟨a0_3, t141⟩ : S122), (⟨a0_4, t143⟩ : S122), (⟨a0_5, t144⟩ : S122)] : List (S122)))).bind fun t148 => ((fixed_Near.f t148).bind fun t149 => (some (t143, t141, true, mx (-1000) (mn 1000 t149)))))) else ((pid_weighed.f k (([(⟨a0_3, t141⟩ : S122), (⟨a0_4, t143⟩ : S122), (⟨a0_5, 0⟩ : S122)] : List (S122)))).bind fun t153 => ((fixed_Near.f t153).bind fun t154 => (some (t143, t141, true, mx (-1000) (mn 1000 t154))))))) = some (r1, r2, r3, r4) := H
 have A4 := Aside0.mk A40
 clear A40
 replace H := Option.bind_eq_some_iff.mp H
 obtain ⟨t143, A50, H⟩ := H
 replace H : (if a1_2 = true then ((fixed_Sub.f t141 a1_1).bind fun t144 => ((pid_weighed.f k (([(⟨a0_3, t141⟩ : S122), (⟨a0_4, t143⟩ : S122), (⟨a0_5, t144⟩ : S122)] : List (S122)))).bind fun t148 => ((fixed_Near.f t148).bind fun t149 => (some (t143, t141, true, mx (-1000) (mn 1000 t149)))))) else ((pid_weighed.f k (([(⟨a0_3, t141⟩ : S122), (⟨a0_4, t143⟩ : S122), (⟨a0_5, 0⟩ : S122)] : List (S122)))).bind fun t153 => ((fixed_Near.f t153).bind fun t154 => (some (t143, t141, true, mx (-1000) (mn 1000 t154)))))) = some (r1, r2, r3, r4) := H
 have A5 := Aside0.mk A50
 clear A50
 by_cases c6 : a1_2 = true
 ·subst c6
  have H1 : ((fixed_Sub.f t141 a1_1).bind fun t144 => ((pid_weighed.f k (([(⟨a0_3, t141⟩ : S122), (⟨a0_4, t143⟩ : S122), (⟨a0_5, t144⟩ : S122)] : List (S122)))).bind fun t148 => ((fixed_Near.f t148).bind fun t149 => (some (t143, t141, true, mx (-1000) (mn 1000 t149)))))) = some (r1, r2, r3, r4) := by rw [if_pos rfl] at H; exact H
  clear H
  have H := H1
  clear H1
  replace H := Option.bind_eq_some_iff.mp H
  obtain ⟨t144, A70, H⟩ := H
  replace H : ((pid_weighed.f k (([(⟨a0_3, t141⟩ : S122), (⟨a0_4, t143⟩ : S122), (⟨a0_5, t144⟩ : S122)] : List (S122)))).bind fun t148 => ((fixed_Near.f t148).bind fun t149 => (some (t143, t141, true, mx (-1000) (mn 1000 t149))))) = some (r1, r2, r3, r4) := H
  have A7 := Aside0.mk A70
  clear A70
  obtain ⟨y145, hy145⟩ : ∃ y_ : List (S122), y_ = (([(⟨a0_3, t141⟩ : S122), (⟨a0_4, t143⟩ : S122), (⟨a0_5, t144⟩ : S122)] : List (S122))) := ⟨_, rfl⟩
  replace H : ((pid_weighed.f k y145).bind fun t148 => ((fixed_Near.f t148).bind fun t149 => (some (t143, t141, true, mx (-1000) (mn 1000 t149))))) = some (r1, r2, r3, r4) := by first | (rw [hy145]; with_reducible exact H) | (have H2_ := (Option.bind_some _ _).symm.trans H; rw [hy145]; with_reducible exact H2_) | (have H2_ := (Option.bind_some _ _).symm.trans H; with_reducible exact H2_) | with_reducible exact H | (rw [hy145]; exact H) | exact H
  have Ny145 := Aside0.mk hy145
  clear hy145
  replace H := Option.bind_eq_some_iff.mp H
  obtain ⟨t148, A80, H⟩ := H
  replace H : ((fixed_Near.f t148).bind fun t149 => (some (t143, t141, true, mx (-1000) (mn 1000 t149)))) = some (r1, r2, r3, r4) := H
  have A8 := Aside0.mk A80
  clear A80
  replace H := Option.bind_eq_some_iff.mp H
  obtain ⟨t149, A90, H⟩ := H
  replace H : (some (t143, t141, true, mx (-1000) (mn 1000 t149))) = some (r1, r2, r3, r4) := H
  have A9 := Aside0.mk A90
  clear A90
  obtain ⟨ji10, hji10⟩ : ∃ j_ : Int, (mn 1000 t149) = j_ := ⟨_, rfl⟩
  replace H : (some (t143, t141, true, mx (-1000) (ji10))) = some (r1, r2, r3, r4) := by first | (rw [hji10] at H; exact H) | (simp only [hji10] at H ⊢; exact H)
  (try rw [hji10] at A4)
  (try rw [hji10] at A5)
  (try rw [hji10] at A7)
  (try rw [hji10] at A8)
  (try rw [hji10] at A9)
  (try (have hji10h : ji10 ≤ 1000 := by (rw [← hji10]; unfold mn; (repeat' split) <;> omega)))
  (try (have hji10g : ji10 ≤ 64 := by omega))
  have hji10_ : (if t149 < 1000 then t149 else 1000) = ji10 := hji10
  obtain ⟨ji11, hji11⟩ : ∃ j_ : Int, (mx (-1000) (ji10)) = j_ := ⟨_, rfl⟩
  replace H : (some (t143, t141, true, ji11)) = some (r1, r2, r3, r4) := by first | (rw [hji11] at H; exact H) | (simp only [hji11] at H ⊢; exact H)
  (try rw [hji11] at A4)
  (try rw [hji11] at A5)
  (try rw [hji11] at A7)
  (try rw [hji11] at A8)
  (try rw [hji11] at A9)
  have hji11_ : (if (-1000) < (ji10) then (ji10) else (-1000)) = ji11 := hji11
  simp only [Option.some.injEq, Prod.mk.injEq] at H
  obtain ⟨rfl, rfl, rfl, rfl⟩ := H
  go_enter Try.func85, Try.ntmps85
  go_wp2_with (first | ((with_reducible refine gate_dst (N := 3) rfl ?_); refine box_event ?hg (N := 3) ?hd (cs := #[.int .i64 a0_0, .int .i64 a0_1, .slice A0_2 l0_2.length c0_2, .int .i64 a0_3, .int .i64 a0_4, .int .i64 a0_5, .int .i64 a0_6, .slice A0_7 l0_7.length c0_7]) (t := 27) ?hr ?_; (case hd => rfl); (case hg => rfl); (case hr => first | (go_simp; done) | (go_simp; rfl)); intro gb138 hg w12 hbox hb; have n0_ := Aside0.mk (below_step (by repeat (first | (with_reducible first | exact HB.out | apply below_alloc | apply pw_below_drewN | apply below_drew1) | exact HB.out)) hb); have n1_ := Aside0.mk (hbox); have n2_ := Aside0.mk ((by rw [hg]; exact (below_size (by repeat (first | (with_reducible first | exact HB.out | apply below_alloc | apply pw_below_drewN | apply below_drew1) | exact HB.out))) : w.heap.size ≤ gb138)); have n3_ := Aside0.mk ((by rw [hg]; exact (below_size (by repeat (first | (with_reducible first | exact HB.out | apply below_alloc | apply pw_below_drewN | apply below_drew1) | exact HB.out))) : w.heap.size ≤ gb138)); clear HB; have HB := n0_; have BK138 := n1_; have GW138 := n2_; have GE138 := n3_; clear n0_ n1_ n2_ n3_; clear hb hbox hg) | ((with_reducible refine gate_dst (N := 4) rfl ?_); refine box_event ?hg (N := 4) ?hd (cs := #[.int .i64 a1_0, .int .i64 a1_1, .bool true]) (t := 29) ?hr ?_; (case hd => rfl); (case hg => rfl); (case hr => first | (go_simp; done) | (go_simp; rfl)); intro gb139 hg w13 hbox hb; have n0_ := Aside0.mk (blk_below (g := gb138) (o := .cells #[.int .i64 a0_0, .int .i64 a0_1, .slice A0_2 l0_2.length c0_2, .int .i64 a0_3, .int .i64 a0_4, .int .i64 a0_5, .int .i64 a0_6, .slice A0_7 l0_7.length c0_7] 27 (0, 0)) (by (with_reducible repeat (first | refine blk_drewN ?_ _ | refine blk_drew ?_ | refine blk_alloc ?_ _)); exact BK138.out) hb); have n1_ := Aside0.mk (below_step (by repeat (first | (with_reducible first | exact HB.out | apply below_alloc | apply pw_below_drewN | apply below_drew1 | refine below_set ?_ GE138.out) | exact HB.out)) hb); have n2_ := Aside0.mk (hbox); have n3_ := Aside0.mk ((by rw [hg]; exact (below_size (by repeat (first | (with_reducible first | exact HB.out | apply below_alloc | apply pw_below_drewN | apply below_drew1 | refine below_set ?_ GE138.out) | exact HB.out))) : w.heap.size ≤ gb139)); have n4_ := Aside0.mk ((by rw [hg]; exact (below_size (by repeat (first | (with_reducible first | exact HB.out | apply below_alloc | apply pw_below_drewN | apply below_drew1 | refine below_set ?_ GE138.out) | exact HB.out))) : w.heap.size ≤ gb139)); have n5_ := Aside0.mk ((by rw [hg]; exact Nat.ne_of_lt (blk_lt (g := gb138) (o := .cells #[.int .i64 a0_0, .int .i64 a0_1, .slice A0_2 l0_2.length c0_2, .int .i64 a0_3, .int .i64 a0_4, .int .i64 a0_5, .int .i64 a0_6, .slice A0_7 l0_7.length c0_7] 27 (0, 0)) (by (with_reducible repeat (first | refine blk_drewN ?_ _ | refine blk_drew ?_ | refine blk_alloc ?_ _)); exact BK138.out)) : gb138 ≠ gb139)); have n6_ := Aside0.mk ((by rw [hg]; exact Nat.ne_of_gt (blk_lt (g := gb138) (o := .cells #[.int .i64 a0_0, .int .i64 a0_1, .slice A0_2 l0_2.length c0_2, .int .i64 a0_3, .int .i64 a0_4, .int .i64 a0_5, .int .i64 a0_6, .slice A0_7 l0_7.length c0_7] 27 (0, 0)) (by (with_reducible repeat (first | refine blk_drewN ?_ _ | refine blk_drew ?_ | refine blk_alloc ?_ _)); exact BK138.out)) : gb139 ≠ gb138)); clear BK138; clear HB; have BK138 := n0_; have HB := n1_; have BK139 := n2_; have GW139 := n3_; have GE139 := n4_; have NB138_139 := n5_; have NB139_138 := n6_; clear n0_ n1_ n2_ n3_ n4_ n5_ n6_; clear hb hbox hg) | ((with_reducible refine gate_dst (N := 6) rfl ?_); refine box_event ?hg (N := 6) ?hd (cs := #[.int .i64 0, .int .i64 0, .bool false]) (t := 29) ?hr ?_; (case hd => rfl); (case hg => rfl); (case hr => first | (go_simp; done) | (go_simp; rfl)); intro gb140 hg w14 hbox hb; have n0_ := Aside0.mk (blk_below (g := gb138) (o := .cells #[.int .i64 a0_0, .int .i64 a0_1, .slice A0_2 l0_2.length c0_2, .int .i64 a0_3, .int .i64 a0_4, .int .i64 a0_5, .int .i64 a0_6, .slice A0_7 l0_7.length c0_7] 27 (0, 0)) (by (with_reducible repeat (first | refine blk_drewN ?_ _ | refine blk_drew ?_ | refine blk_alloc ?_ _)); exact BK138.out) hb); have n1_ := Aside0.mk (blk_below (g := gb139) (o := .cells #[.int .i64 a1_0, .int .i64 a1_1, .bool true] 29 (0, 0)) (by (with_reducible repeat (first | refine blk_drewN ?_ _ | refine blk_drew ?_ | refine blk_alloc ?_ _)); exact BK139.out) hb); have n2_ := Aside0.mk (below_step (by repeat (first | (with_reducible first | exact HB.out | apply below_alloc | apply pw_below_drewN | apply below_drew1 | refine below_set ?_ GE138.out | refine below_set ?_ GE139.out) | exact HB.out)) hb); have n3_ := Aside0.mk (hbox); have n4_ := Aside0.mk ((by rw [hg]; exact (below_size (by repeat (first | (with_reducible first | exact HB.out | apply below_alloc | apply pw_below_drewN | apply below_drew1 | refine below_set ?_ GE138.out | refine below_set ?_ GE139.out) | exact HB.out))) : w.heap.size ≤ gb140)); have n5_ := Aside0.mk ((by rw [hg]; exact (below_size (by repeat (first | (with_reducible first | exact HB.out | apply below_alloc | apply pw_below_drewN | apply below_drew1 | refine below_set ?_ GE138.out | refine below_set ?_ GE139.out) | exact HB.out))) : w.heap.size ≤ gb140)); have n6_ := Aside0.mk ((by rw [hg]; exact Nat.ne_of_lt (blk_lt (g := gb138) (o := .cells #[.int .i64 a0_0, .int .i64 a0_1, .slice A0_2 l0_2.length c0_2, .int .i64 a0_3, .int .i64 a0_4, .int .i64 a0_5, .int .i64 a0_6, .slice A0_7 l0_7.length c0_7] 27 (0, 0)) (by (with_reducible repeat (first | refine blk_drewN ?_ _ | refine blk_drew ?_ | refine blk_alloc ?_ _)); exact BK138.out)) : gb138 ≠ gb140)); have n7_ := Aside0.mk ((by rw [hg]; exact Nat.ne_of_gt (blk_lt (g := gb138) (o := .cells #[.int .i64 a0_0, .int .i64 a0_1, .slice A0_2 l0_2.length c0_2, .int .i64 a0_3, .int .i64 a0_4, .int .i64 a0_5, .int .i64 a0_6, .slice A0_7 l0_7.length c0_7] 27 (0, 0)) (by (with_reducible repeat (first | refine blk_drewN ?_ _ | refine blk_drew ?_ | refine blk_alloc ?_ _)); exact BK138.out)) : gb140 ≠ gb138)); have n8_ := Aside0.mk ((by rw [hg]; exact Nat.ne_of_lt (blk_lt (g := gb139) (o := .cells #[.int .i64 a1_0, .int .i64 a1_1, .bool true] 29 (0, 0)) (by (with_reducible repeat (first | refine blk_drewN ?_ _ | refine blk_drew ?_ | refine blk_alloc ?_ _)); exact BK139.out)) : gb139 ≠ gb140)); have n9_ := Aside0.mk ((by rw [hg]; exact Nat.ne_of_gt (blk_lt (g := gb139) (o := .cells #[.int .i64 a1_0, .int .i64 a1_1, .bool true] 29 (0, 0)) (by (with_reducible repeat (first | refine blk_drewN ?_ _ | refine blk_drew ?_ | refine blk_alloc ?_ _)); exact BK139.out)) : gb140 ≠ gb139)); clear BK138; clear BK139; clear HB; have BK138 := n0_; have BK139 := n1_; have HB := n2_; have BK140 := n3_; have GW140 := n4_; have GE140 := n5_; have NB138_140 := n6_; have NB140_138 := n7_; have NB139_140 := n8_; have NB140_139 := n9_; clear n0_ n1_ n2_ n3_ n4_ n5_ n6_ n7_ n8_ n9_; clear hb hbox hg; have hnb15 := NB138_139.out; have hnc15 := NB139_138.out; have hnb16 := NB138_140.out; have hnc16 := NB140_138.out; have hcz17_0 : w14.cell? ⟨gb138, 0, none⟩ = some (.int .i64 a0_0) := (blk_cell BK138.out 0).trans rfl; have hcz17_1 : w14.cell? ⟨gb138, 1, none⟩ = some (.int .i64 a0_1) := (blk_cell BK138.out 1).trans rfl; have hcz17_2 : w14.cell? ⟨gb138, 2, none⟩ = some (.slice A0_2 l0_2.length c0_2) := (blk_cell BK138.out 2).trans rfl; have hcz17_3 : w14.cell? ⟨gb138, 3, none⟩ = some (.int .i64 a0_3) := (blk_cell BK138.out 3).trans rfl; have hcz17_4 : w14.cell? ⟨gb138, 4, none⟩ = some (.int .i64 a0_4) := (blk_cell BK138.out 4).trans rfl; have hcz17_5 : w14.cell? ⟨gb138, 5, none⟩ = some (.int .i64 a0_5) := (blk_cell BK138.out 5).trans rfl; have hcz17_6 : w14.cell? ⟨gb138, 6, none⟩ = some (.int .i64 a0_6) := (blk_cell BK138.out 6).trans rfl; have hcz17_7 : w14.cell? ⟨gb138, 7, none⟩ = some (.slice A0_7 l0_7.length c0_7) := (blk_cell BK138.out 7).trans rfl; have hfz17_0 := blk_frozen BK138.out 0; have hfz17_1 := blk_frozen BK138.out 1; have hfz17_2 := blk_frozen BK138.out 2; have hfz17_3 := blk_frozen BK138.out 3; have hfz17_4 := blk_frozen BK138.out 4; have hfz17_5 := blk_frozen BK138.out 5; have hfz17_6 := blk_frozen BK138.out 6; have hfz17_7 := blk_frozen BK138.out 7) | ((with_reducible refine gate_callee (f := 95) rfl ?_); refine goesL_ (some 14) rfl rfl Try.func95 (by kernel_rfl) rfl #[.int .i64 a2, .int .i64 a0_1] rfl (by (try simp only [List.map_toArray, List.map_cons, List.map_nil]); first | done | rfl | (simp only [List.length_drop, List.length_take]; rfl)) ?_; (with_reducible refine (fixed_Sub.calls a2 a0_1 t141 _ A4.out).mono ?_); rintro e w' ⟨rfl, ⟨nd, rfl⟩⟩; refine ⟨_, rfl, ?_⟩; (try (rw [drewN_self w14]; generalize hq_ : World.drewN w14 _ = w14; have n0_ : Aside0 (w14.heap[gb138]? = some (.cells #[.int .i64 a0_0, .int .i64 a0_1, .slice A0_2 l0_2.length c0_2, .int .i64 a0_3, .int .i64 a0_4, .int .i64 a0_5, .int .i64 a0_6, .slice A0_7 l0_7.length c0_7] 27 (0, 0))) := ⟨by rw [← hq_]; exact (by (with_reducible repeat (first | refine blk_drewN ?_ _ | refine blk_drew ?_ | refine blk_alloc ?_ _)); exact BK138.out)⟩; have n1_ : Aside0 (w14.heap[gb139]? = some (.cells #[.int .i64 a1_0, .int .i64 a1_1, .bool true] 29 (0, 0))) := ⟨by rw [← hq_]; exact (by (with_reducible repeat (first | refine blk_drewN ?_ _ | refine blk_drew ?_ | refine blk_alloc ?_ _)); exact BK139.out)⟩; have n2_ : Aside0 (w14.heap[gb140]? = some (.cells #[.int .i64 0, .int .i64 0, .bool false] 29 (0, 0))) := ⟨by rw [← hq_]; exact (by (with_reducible repeat (first | refine blk_drewN ?_ _ | refine blk_drew ?_ | refine blk_alloc ?_ _)); exact BK140.out)⟩; have n3_ : Aside0 (Below w.heap.size w w14) := ⟨by rw [← hq_]; exact (by repeat (first | (with_reducible first | exact HB.out | apply below_alloc | apply pw_below_drewN | apply below_drew1 | refine below_set ?_ GE138.out | refine below_set ?_ GE139.out | refine below_set ?_ GE140.out) | exact HB.out))⟩; clear BK138 BK139 BK140 HB hq_; have BK138 := n0_; have BK139 := n1_; have BK140 := n2_; have HB := n3_; clear n0_ n1_ n2_ n3_))) | ((with_reducible refine gate_dst (N := 8) rfl ?_); refine box_event ?hg (N := 8) ?hd (cs := #[.int .i64 0, .int .i64 0, .bool false]) (t := 29) ?hr ?_; (case hd => rfl); (case hg => rfl); (case hr => first | (go_simp; done) | (go_simp; rfl)); intro gb142 hg w18 hbox hb; have n0_ := Aside0.mk (blk_below (g := gb138) (o := .cells #[.int .i64 a0_0, .int .i64 a0_1, .slice A0_2 l0_2.length c0_2, .int .i64 a0_3, .int .i64 a0_4, .int .i64 a0_5, .int .i64 a0_6, .slice A0_7 l0_7.length c0_7] 27 (0, 0)) (by (with_reducible repeat (first | refine blk_drewN ?_ _ | refine blk_drew ?_ | refine blk_alloc ?_ _)); exact BK138.out) hb); have n1_ := Aside0.mk (blk_below (g := gb139) (o := .cells #[.int .i64 a1_0, .int .i64 a1_1, .bool true] 29 (0, 0)) (by (with_reducible repeat (first | refine blk_drewN ?_ _ | refine blk_drew ?_ | refine blk_alloc ?_ _)); exact BK139.out) hb); have n2_ := Aside0.mk (blk_below (g := gb140) (o := .cells #[.int .i64 0, .int .i64 0, .bool false] 29 (0, 0)) (by (with_reducible repeat (first | refine blk_drewN ?_ _ | refine blk_drew ?_ | refine blk_alloc ?_ _)); exact BK140.out) hb); have n3_ := Aside0.mk (below_step (by repeat (first | (with_reducible first | exact HB.out | apply below_alloc | apply pw_below_drewN | apply below_drew1 | refine below_set ?_ GE138.out | refine below_set ?_ GE139.out | refine below_set ?_ GE140.out) | exact HB.out)) hb); have n4_ := Aside0.mk (hbox); have n5_ := Aside0.mk ((by rw [hg]; exact (below_size (by repeat (first | (with_reducible first | exact HB.out | apply below_alloc | apply pw_below_drewN | apply below_drew1 | refine below_set ?_ GE138.out | refine below_set ?_ GE139.out | refine below_set ?_ GE140.out) | exact HB.out))) : w.heap.size ≤ gb142)); have n6_ := Aside0.mk ((by rw [hg]; exact (below_size (by repeat (first | (with_reducible first | exact HB.out | apply below_alloc | apply pw_below_drewN | apply below_drew1 | refine below_set ?_ GE138.out | refine below_set ?_ GE139.out | refine below_set ?_ GE140.out) | exact HB.out))) : w.heap.size ≤ gb142)); have n7_ := Aside0.mk ((by rw [hg]; exact Nat.ne_of_lt (blk_lt (g := gb138) (o := .cells #[.int .i64 a0_0, .int .i64 a0_1, .slice A0_2 l0_2.length c0_2, .int .i64 a0_3, .int .i64 a0_4, .int .i64 a0_5, .int .i64 a0_6, .slice A0_7 l0_7.length c0_7] 27 (0, 0)) (by (with_reducible repeat (first | refine blk_drewN ?_ _ | refine blk_drew ?_ | refine blk_alloc ?_ _)); exact BK138.out)) : gb138 ≠ gb142)); have n8_ := Aside0.mk ((by rw [hg]; exact Nat.ne_of_gt (blk_lt (g := gb138) (o := .cells #[.int .i64 a0_0, .int .i64 a0_1, .slice A0_2 l0_2.length c0_2, .int .i64 a0_3, .int .i64 a0_4, .int .i64 a0_5, .int .i64 a0_6, .slice A0_7 l0_7.length c0_7] 27 (0, 0)) (by (with_reducible repeat (first | refine blk_drewN ?_ _ | refine blk_drew ?_ | refine blk_alloc ?_ _)); exact BK138.out)) : gb142 ≠ gb138)); have n9_ := Aside0.mk ((by rw [hg]; exact Nat.ne_of_lt (blk_lt (g := gb139) (o := .cells #[.int .i64 a1_0, .int .i64 a1_1, .bool true] 29 (0, 0)) (by (with_reducible repeat (first | refine blk_drewN ?_ _ | refine blk_drew ?_ | refine blk_alloc ?_ _)); exact BK139.out)) : gb139 ≠ gb142)); have n10_ := Aside0.mk ((by rw [hg]; exact Nat.ne_of_gt (blk_lt (g := gb139) (o := .cells #[.int .i64 a1_0, .int .i64 a1_1, .bool true] 29 (0, 0)) (by (with_reducible repeat (first | refine blk_drewN ?_ _ | refine blk_drew ?_ | refine blk_alloc ?_ _)); exact BK139.out)) : gb142 ≠ gb139)); have n11_ := Aside0.mk ((by rw [hg]; exact Nat.ne_of_lt (blk_lt (g := gb140) (o := .cells #[.int .i64 0, .int .i64 0, .bool false] 29 (0, 0)) (by (with_reducible repeat (first | refine blk_drewN ?_ _ | refine blk_drew ?_ | refine blk_alloc ?_ _)); exact BK140.out)) : gb140 ≠ gb142)); have n12_ := Aside0.mk ((by rw [hg]; exact Nat.ne_of_gt (blk_lt (g := gb140) (o := .cells #[.int .i64 0, .int .i64 0, .bool false] 29 (0, 0)) (by (with_reducible repeat (first | refine blk_drewN ?_ _ | refine blk_drew ?_ | refine blk_alloc ?_ _)); exact BK140.out)) : gb142 ≠ gb140)); clear BK138; clear BK139; clear BK140; clear HB; have BK138 := n0_; have BK139 := n1_; have BK140 := n2_; have HB := n3_; have BK142 := n4_; have GW142 := n5_; have GE142 := n6_; have NB138_142 := n7_; have NB142_138 := n8_; have NB139_142 := n9_; have NB142_139 := n10_; have NB140_142 := n11_; have NB142_140 := n12_; clear n0_ n1_ n2_ n3_ n4_ n5_ n6_ n7_ n8_ n9_ n10_ n11_ n12_; clear hb hbox hg; have hnb19 := NB142_138.out; have hnc19 := NB138_142.out; have hnb20 := NB142_139.out; have hnc20 := NB139_142.out; have hnb21 := NB142_140.out; have hnc21 := NB140_142.out; have hcz22_0 : w18.cell? ⟨gb142, 0, none⟩ = some (.int .i64 0) := (blk_cell BK142.out 0).trans rfl; have hcz22_1 : w18.cell? ⟨gb142, 1, none⟩ = some (.int .i64 0) := (blk_cell BK142.out 1).trans rfl; have hcz22_2 : w18.cell? ⟨gb142, 2, none⟩ = some (.bool false) := (blk_cell BK142.out 2).trans rfl; have hfz22_0 := blk_frozen BK142.out 0; have hfz22_1 := blk_frozen BK142.out 1; have hfz22_2 := blk_frozen BK142.out 2; have hnb23 := NB139_140.out; have hnc23 := NB140_139.out; have hcz24_0 : w18.cell? ⟨gb139, 0, none⟩ = some (.int .i64 a1_0) := (blk_cell BK139.out 0).trans rfl; have hcz24_1 : w18.cell? ⟨gb139, 1, none⟩ = some (.int .i64 a1_1) := (blk_cell BK139.out 1).trans rfl; have hcz24_2 : w18.cell? ⟨gb139, 2, none⟩ = some (.bool true) := (blk_cell BK139.out 2).trans rfl; have hfz24_0 := blk_frozen BK139.out 0; have hfz24_1 := blk_frozen BK139.out 1; have hfz24_2 := blk_frozen BK139.out 2) | ((with_reducible refine gate_callee (f := 64) rfl ?_); refine goesL_ (some 20) rfl rfl Try.func64 (by kernel_rfl) rfl #[.int .i64 a1_0, .int .i64 t141] rfl (by (try simp only [List.map_toArray, List.map_cons, List.map_nil]); first | done | rfl | (simp only [List.length_drop, List.length_take]; rfl)) ?_; (with_reducible refine (fixed_Add.calls a1_0 t141 t143 _ A5.out).mono ?_); rintro e w' ⟨rfl, ⟨nd, rfl⟩⟩; refine ⟨_, rfl, ?_⟩) | ((with_reducible refine gate_callee (f := 95) rfl ?_); refine goesL_ (some 28) rfl rfl Try.func95 (by kernel_rfl) rfl #[.int .i64 t141, .int .i64 a1_1] rfl (by (try simp only [List.map_toArray, List.map_cons, List.map_nil]); first | done | rfl | (simp only [List.length_drop, List.length_take]; rfl)) ?_; (with_reducible refine (fixed_Sub.calls t141 a1_1 t144 _ A7.out).mono ?_); rintro e w' ⟨rfl, ⟨nd, rfl⟩⟩; refine ⟨_, rfl, ?_⟩; have hcz25_0 : w18.cell? ⟨gb138, 0, none⟩ = some (.int .i64 a0_0) := (blk_cell BK138.out 0).trans rfl; have hcz25_1 : w18.cell? ⟨gb138, 1, none⟩ = some (.int .i64 a0_1) := (blk_cell BK138.out 1).trans rfl; have hcz25_2 : w18.cell? ⟨gb138, 2, none⟩ = some (.slice A0_2 l0_2.length c0_2) := (blk_cell BK138.out 2).trans rfl; have hcz25_3 : w18.cell? ⟨gb138, 3, none⟩ = some (.int .i64 a0_3) := (blk_cell BK138.out 3).trans rfl; have hcz25_4 : w18.cell? ⟨gb138, 4, none⟩ = some (.int .i64 a0_4) := (blk_cell BK138.out 4).trans rfl; have hcz25_5 : w18.cell? ⟨gb138, 5, none⟩ = some (.int .i64 a0_5) := (blk_cell BK138.out 5).trans rfl; have hcz25_6 : w18.cell? ⟨gb138, 6, none⟩ = some (.int .i64 a0_6) := (blk_cell BK138.out 6).trans rfl; have hcz25_7 : w18.cell? ⟨gb138, 7, none⟩ = some (.slice A0_7 l0_7.length c0_7) := (blk_cell BK138.out 7).trans rfl; have hfz25_0 := blk_frozen BK138.out 0; have hfz25_1 := blk_frozen BK138.out 1; have hfz25_2 := blk_frozen BK138.out 2; have hfz25_3 := blk_frozen BK138.out 3; have hfz25_4 := blk_frozen BK138.out 4; have hfz25_5 := blk_frozen BK138.out 5; have hfz25_6 := blk_frozen BK138.out 6; have hfz25_7 := blk_frozen BK138.out 7) | ((with_reducible refine gate_dst (N := 43) rfl ?_); refine Kd.R_lit k122 _ 122 ?hg (N := 43) ?hd (xs := ([(⟨a0_3, t141⟩ : S122), (⟨a0_4, t143⟩ : S122), (⟨a0_5, t144⟩ : S122)] : List (S122))) (inner := [.int .i64 a0_3, .int .i64 t141, .int .i64 a0_4, .int .i64 t143, .int .i64 a0_5, .int .i64 t144]) (ok := fun _ => True) (okp := fun _ => True) ?hr ?hp (fun _ hk => hk) trivial (Below.refl _ _) (Nat.le_refl _) (by simp) ?_; (case hd => rfl); (case hg => rfl); (case hr => first | (go_simp; done) | (go_simp; rfl)); (case hp => exact (Reps.c2 (show Kd.M k122 _ _ _ (⟨a0_3, t141⟩ : S122) [.int .i64 a0_3, .int .i64 t141] from (k122_mkM _ _ _ (⟨a0_3, t141⟩ : S122) )) (Reps.c2 (show Kd.M k122 _ _ _ (⟨a0_4, t143⟩ : S122) [.int .i64 a0_4, .int .i64 t143] from (k122_mkM _ _ _ (⟨a0_4, t143⟩ : S122) )) (Reps.c2 (show Kd.M k122 _ _ _ (⟨a0_5, t144⟩ : S122) [.int .i64 a0_5, .int .i64 t144] from (k122_mkM _ _ _ (⟨a0_5, t144⟩ : S122) )) (Reps.none _ _))))); intro v146 w26 ho27 hb hg_ hnew_; clear hg_ hnew_; (first | rw [← Ny145.out] at ho27 | (simp only [Int.reduceToNat] at ho27; rw [← Ny145.out] at ho27)); have n0_ := Aside0.mk (Kd.R_lower ho27 (below_size (by repeat (first | (with_reducible first | exact HB.out | apply below_alloc | apply pw_below_drewN | apply below_drew1 | refine below_set ?_ GE138.out | refine below_set ?_ GE139.out | refine below_set ?_ GE140.out | refine below_set ?_ GE142.out) | exact HB.out)))); have n1_ := Aside0.mk (blk_below (g := gb138) (o := .cells #[.int .i64 a0_0, .int .i64 a0_1, .slice A0_2 l0_2.length c0_2, .int .i64 a0_3, .int .i64 a0_4, .int .i64 a0_5, .int .i64 a0_6, .slice A0_7 l0_7.length c0_7] 27 (0, 0)) (by (with_reducible repeat (first | refine blk_drewN ?_ _ | refine blk_drew ?_ | refine blk_alloc ?_ _)); refine blk_far ?_ NB138_142.out _; (with_reducible repeat (first | refine blk_drewN ?_ _ | refine blk_drew ?_ | refine blk_alloc ?_ _)); refine blk_far ?_ NB138_142.out _; (with_reducible repeat (first | refine blk_drewN ?_ _ | refine blk_drew ?_ | refine blk_alloc ?_ _)); refine blk_far ?_ NB138_142.out _; (with_reducible repeat (first | refine blk_drewN ?_ _ | refine blk_drew ?_ | refine blk_alloc ?_ _)); refine blk_far ?_ NB138_142.out _; (with_reducible repeat (first | refine blk_drewN ?_ _ | refine blk_drew ?_ | refine blk_alloc ?_ _)); exact BK138.out) hb); have n2_ := Aside0.mk (blk_below (g := gb139) (o := .cells #[.int .i64 a1_0, .int .i64 a1_1, .bool true] 29 (0, 0)) (by (with_reducible repeat (first | refine blk_drewN ?_ _ | refine blk_drew ?_ | refine blk_alloc ?_ _)); refine blk_far ?_ NB139_142.out _; (with_reducible repeat (first | refine blk_drewN ?_ _ | refine blk_drew ?_ | refine blk_alloc ?_ _)); refine blk_far ?_ NB139_142.out _; (with_reducible repeat (first | refine blk_drewN ?_ _ | refine blk_drew ?_ | refine blk_alloc ?_ _)); refine blk_far ?_ NB139_142.out _; (with_reducible repeat (first | refine blk_drewN ?_ _ | refine blk_drew ?_ | refine blk_alloc ?_ _)); refine blk_far ?_ NB139_142.out _; (with_reducible repeat (first | refine blk_drewN ?_ _ | refine blk_drew ?_ | refine blk_alloc ?_ _)); exact BK139.out) hb); have n3_ := Aside0.mk (blk_below (g := gb140) (o := .cells #[.int .i64 0, .int .i64 0, .bool false] 29 (0, 0)) (by (with_reducible repeat (first | refine blk_drewN ?_ _ | refine blk_drew ?_ | refine blk_alloc ?_ _)); refine blk_far ?_ NB140_142.out _; (with_reducible repeat (first | refine blk_drewN ?_ _ | refine blk_drew ?_ | refine blk_alloc ?_ _)); refine blk_far ?_ NB140_142.out _; (with_reducible repeat (first | refine blk_drewN ?_ _ | refine blk_drew ?_ | refine blk_alloc ?_ _)); refine blk_far ?_ NB140_142.out _; (with_reducible repeat (first | refine blk_drewN ?_ _ | refine blk_drew ?_ | refine blk_alloc ?_ _)); refine blk_far ?_ NB140_142.out _; (with_reducible repeat (first | refine blk_drewN ?_ _ | refine blk_drew ?_ | refine blk_alloc ?_ _)); exact BK140.out) hb); have n4_ := Aside0.mk (blk_below (g := gb142) (o := .cells #[.int .i64 t143, .int .i64 t141, .bool true] 29 (0, 0)) (by (with_reducible repeat (first | refine blk_drewN ?_ _ | refine blk_drew ?_ | refine blk_alloc ?_ _)); refine blk_put (cs := #[.int .i64 0, .int .i64 t141, .bool true]) ?_ 0 _ rfl; (with_reducible repeat (first | refine blk_drewN ?_ _ | refine blk_drew ?_ | refine blk_alloc ?_ _)); refine blk_put (cs := #[.int .i64 0, .int .i64 t141, .bool false]) ?_ 2 _ rfl; (with_reducible repeat (first | refine blk_drewN ?_ _ | refine blk_drew ?_ | refine blk_alloc ?_ _)); refine blk_put (cs := #[.int .i64 0, .int .i64 0, .bool false]) ?_ 1 _ rfl; (with_reducible repeat (first | refine blk_drewN ?_ _ | refine blk_drew ?_ | refine blk_alloc ?_ _)); refine blk_put (cs := #[.int .i64 0, .int .i64 0, .bool false]) ?_ 0 _ rfl; (with_reducible repeat (first | refine blk_drewN ?_ _ | refine blk_drew ?_ | refine blk_alloc ?_ _)); exact BK142.out) hb); have n5_ := Aside0.mk (below_step (by repeat (first | (with_reducible first | exact HB.out | apply below_alloc | apply pw_below_drewN | apply below_drew1 | refine below_set ?_ GE138.out | refine below_set ?_ GE139.out | refine below_set ?_ GE140.out | refine below_set ?_ GE142.out) | exact HB.out)) hb); clear BK138; clear BK139; clear BK140; clear BK142; clear HB; have HO147 := n0_; have BK138 := n1_; have BK139 := n2_; have BK140 := n3_; have BK142 := n4_; have HB := n5_; clear n0_ n1_ n2_ n3_ n4_ n5_; clear hb ho27; obtain ⟨Ao28, co28, eo28⟩ := Kd.R_slice HO147.out; subst eo28) | ((with_reducible refine gate_callee (f := 97) rfl ?_); refine goesL_ (some 44) rfl rfl Try.func97 (by kernel_rfl) rfl #[.slice Ao28 y145.length co28] rfl (by (try simp only [List.map_toArray, List.map_cons, List.map_nil]); first | done | rfl | (simp only [List.length_drop, List.length_take]; rfl)) ?_; (with_reducible refine (pid_weighed.calls k _ _ y145 t148 _ ?side1 ?side2 A8.out).mono ?_); (case side1 => repeat (first | exact (Kd.R_reads' HO147.out).2.2 | (with_reducible refine Kd.C_alloc ?_ _) | (with_reducible refine Kd.C_drewN ?_ _) | (with_reducible refine Kd.C_drew ?_))); (case side2 => exact (Kd.R_reads' HO147.out).2.1); rintro e w29 ⟨rfl, hb⟩; refine ⟨_, rfl, ?_⟩; have n0_ := Aside0.mk (Kd.R_below (by (with_reducible repeat (first | apply Kd.R_alloc | apply Kd.R_drewN | apply Kd.R_drew)); exact HO147.out) hb); have n1_ := Aside0.mk (blk_below (g := gb138) (o := .cells #[.int .i64 a0_0, .int .i64 a0_1, .slice A0_2 l0_2.length c0_2, .int .i64 a0_3, .int .i64 a0_4, .int .i64 a0_5, .int .i64 a0_6, .slice A0_7 l0_7.length c0_7] 27 (0, 0)) (by (with_reducible repeat (first | refine blk_drewN ?_ _ | refine blk_drew ?_ | refine blk_alloc ?_ _)); exact BK138.out) hb); have n2_ := Aside0.mk (blk_below (g := gb139) (o := .cells #[.int .i64 a1_0, .int .i64 a1_1, .bool true] 29 (0, 0)) (by (with_reducible repeat (first | refine blk_drewN ?_ _ | refine blk_drew ?_ | refine blk_alloc ?_ _)); exact BK139.out) hb); have n3_ := Aside0.mk (blk_below (g := gb140) (o := .cells #[.int .i64 0, .int .i64 0, .bool false] 29 (0, 0)) (by (with_reducible repeat (first | refine blk_drewN ?_ _ | refine blk_drew ?_ | refine blk_alloc ?_ _)); exact BK140.out) hb); have n4_ := Aside0.mk (blk_below (g := gb142) (o := .cells #[.int .i64 t143, .int .i64 t141, .bool true] 29 (0, 0)) (by (with_reducible repeat (first | refine blk_drewN ?_ _ | refine blk_drew ?_ | refine blk_alloc ?_ _)); exact BK142.out) hb); have n5_ := Aside0.mk (below_step (by repeat (first | (with_reducible first | exact HB.out | apply below_alloc | apply pw_below_drewN | apply below_drew1 | refine below_set ?_ GE138.out | refine below_set ?_ GE139.out | refine below_set ?_ GE140.out | refine below_set ?_ GE142.out) | exact HB.out)) hb); clear HO147; clear BK138; clear BK139; clear BK140; clear BK142; clear HB; have HO147 := n0_; have BK138 := n1_; have BK139 := n2_; have BK140 := n3_; have BK142 := n4_; have HB := n5_; clear n0_ n1_ n2_ n3_ n4_ n5_; (try clear hb); (try clear hb2); (try clear hk); (try clear hi)) | ((with_reducible refine gate_callee (f := 96) rfl ?_); refine goesL_ (some 45) rfl rfl Try.func96 (by kernel_rfl) rfl #[.int .i64 t148] rfl (by (try simp only [List.map_toArray, List.map_cons, List.map_nil]); first | done | rfl | (simp only [List.length_drop, List.length_take]; rfl)) ?_; (with_reducible refine (fixed_Near.calls t148 t149 _ A9.out).mono ?_); rintro e w' ⟨rfl, ⟨nd, rfl⟩⟩; refine ⟨_, rfl, ?_⟩; (try (rw [drewN_self w29]; generalize hq_ : World.drewN w29 _ = w29; have n0_ : Aside0 (Kd.R k122 122 w29 w.heap.size (fun _ => True) (.slice Ao28 y145.length co28) y145) := ⟨by rw [← hq_]; exact (by (with_reducible repeat (first | apply Kd.R_alloc | apply Kd.R_drewN | apply Kd.R_drew)); exact HO147.out)⟩; have n1_ : Aside0 (w29.heap[gb138]? = some (.cells #[.int .i64 a0_0, .int .i64 a0_1, .slice A0_2 l0_2.length c0_2, .int .i64 a0_3, .int .i64 a0_4, .int .i64 a0_5, .int .i64 a0_6, .slice A0_7 l0_7.length c0_7] 27 (0, 0))) := ⟨by rw [← hq_]; exact (by (with_reducible repeat (first | refine blk_drewN ?_ _ | refine blk_drew ?_ | refine blk_alloc ?_ _)); exact BK138.out)⟩; have n2_ : Aside0 (w29.heap[gb139]? = some (.cells #[.int .i64 a1_0, .int .i64 a1_1, .bool true] 29 (0, 0))) := ⟨by rw [← hq_]; exact (by (with_reducible repeat (first | refine blk_drewN ?_ _ | refine blk_drew ?_ | refine blk_alloc ?_ _)); exact BK139.out)⟩; have n3_ : Aside0 (w29.heap[gb140]? = some (.cells #[.int .i64 0, .int .i64 0, .bool false] 29 (0, 0))) := ⟨by rw [← hq_]; exact (by (with_reducible repeat (first | refine blk_drewN ?_ _ | refine blk_drew ?_ | refine blk_alloc ?_ _)); exact BK140.out)⟩; have n4_ : Aside0 (w29.heap[gb142]? = some (.cells #[.int .i64 t143, .int .i64 t141, .bool true] 29 (0, 0))) := ⟨by rw [← hq_]; exact (by (with_reducible repeat (first | refine blk_drewN ?_ _ | refine blk_drew ?_ | refine blk_alloc ?_ _)); exact BK142.out)⟩; have n5_ : Aside0 (Below w.heap.size w w29) := ⟨by rw [← hq_]; exact (by repeat (first | (with_reducible first | exact HB.out | apply below_alloc | apply pw_below_drewN | apply below_drew1 | refine below_set ?_ GE138.out | refine below_set ?_ GE139.out | refine below_set ?_ GE140.out | refine below_set ?_ GE142.out) | exact HB.out))⟩; clear HO147 BK138 BK139 BK140 BK142 HB hq_; have HO147 := n0_; have BK138 := n1_; have BK139 := n2_; have BK140 := n3_; have BK142 := n4_; have HB := n5_; clear n0_ n1_ n2_ n3_ n4_ n5_)); have hcz30_0 : w29.cell? ⟨gb142, 0, none⟩ = some (.int .i64 t143) := (blk_cell BK142.out 0).trans rfl; have hcz30_1 : w29.cell? ⟨gb142, 1, none⟩ = some (.int .i64 t141) := (blk_cell BK142.out 1).trans rfl; have hcz30_2 : w29.cell? ⟨gb142, 2, none⟩ = some (.bool true) := (blk_cell BK142.out 2).trans rfl; have hfz30_0 := blk_frozen BK142.out 0; have hfz30_1 := blk_frozen BK142.out 1; have hfz30_2 := blk_frozen BK142.out 2; have hcz31_0 : w29.cell? ⟨gb140, 0, none⟩ = some (.int .i64 0) := (blk_cell BK140.out 0).trans rfl; have hcz31_1 : w29.cell? ⟨gb140, 1, none⟩ = some (.int .i64 0) := (blk_cell BK140.out 1).trans rfl; have hcz31_2 : w29.cell? ⟨gb140, 2, none⟩ = some (.bool false) := (blk_cell BK140.out 2).trans rfl; have hfz31_0 := blk_frozen BK140.out 0; have hfz31_1 := blk_frozen BK140.out 1; have hfz31_2 := blk_frozen BK140.out 2))
  refine bodyPost_ret (results_ct rfl _ _ gb140 29 #[.int .i64 t143, .int .i64 t141, .bool true] (0, 0) _ rfl (by (with_reducible repeat (first | refine blk_drewN ?_ _ | refine blk_drew ?_ | refine blk_alloc ?_ _)); refine blk_put (cs := #[.int .i64 t143, .int .i64 t141, .bool false]) ?_ 2 _ rfl; (with_reducible repeat (first | refine blk_drewN ?_ _ | refine blk_drew ?_ | refine blk_alloc ?_ _)); refine blk_put (cs := #[.int .i64 t143, .int .i64 0, .bool false]) ?_ 1 _ rfl; (with_reducible repeat (first | refine blk_drewN ?_ _ | refine blk_drew ?_ | refine blk_alloc ?_ _)); refine blk_put (cs := #[.int .i64 0, .int .i64 0, .bool false]) ?_ 0 _ rfl; (with_reducible repeat (first | refine blk_drewN ?_ _ | refine blk_drew ?_ | refine blk_alloc ?_ _)); exact BK140.out) Try.underlying29 rfl (by kernel_rfl)) rfl ?_
  exact ⟨by first | rfl | (simp [errW_none, errW_some] <;> rfl) | (simp only [← hji10, ← hji11]; first | rfl | (simp [errW_none, errW_some] <;> rfl)) | (simp [*, errW_none, errW_some] <;> rfl) | (have e_ : ji10 = ji11 := (by omega); subst e_; rfl), by repeat (first | (with_reducible first | exact HB.out | apply below_alloc | apply pw_below_drewN | apply below_drew1 | refine below_set ?_ GE138.out | refine below_set ?_ GE139.out | refine below_set ?_ GE140.out | refine below_set ?_ GE142.out) | exact HB.out)⟩
 ·replace c6 := Bool.eq_false_iff.mpr c6
  subst c6
  have H1 : ((pid_weighed.f k (([(⟨a0_3, t141⟩ : S122), (⟨a0_4, t143⟩ : S122), (⟨a0_5, 0⟩ : S122)] : List (S122)))).bind fun t153 => ((fixed_Near.f t153).bind fun t154 => (some (t143, t141, true, mx (-1000) (mn 1000 t154))))) = some (r1, r2, r3, r4) := by rw [if_neg (show ¬ (false = true) by decide)] at H; exact H
  clear H
  have H := H1
  clear H1
  obtain ⟨y150, hy150⟩ : ∃ y_ : List (S122), y_ = (([(⟨a0_3, t141⟩ : S122), (⟨a0_4, t143⟩ : S122), (⟨a0_5, 0⟩ : S122)] : List (S122))) := ⟨_, rfl⟩
  replace H : ((pid_weighed.f k y150).bind fun t153 => ((fixed_Near.f t153).bind fun t154 => (some (t143, t141, true, mx (-1000) (mn 1000 t154))))) = some (r1, r2, r3, r4) := by first | (rw [hy150]; with_reducible exact H) | (have H2_ := (Option.bind_some _ _).symm.trans H; rw [hy150]; with_reducible exact H2_) | (have H2_ := (Option.bind_some _ _).symm.trans H; with_reducible exact H2_) | with_reducible exact H | (rw [hy150]; exact H) | exact H
  have Ny150 := Aside0.mk hy150
  clear hy150
  replace H := Option.bind_eq_some_iff.mp H
  obtain ⟨t153, A320, H⟩ := H
  replace H : ((fixed_Near.f t153).bind fun t154 => (some (t143, t141, true, mx (-1000) (mn 1000 t154)))) = some (r1, r2, r3, r4) := H
  have A32 := Aside0.mk A320
  clear A320
  replace H := Option.bind_eq_some_iff.mp H
  obtain ⟨t154, A330, H⟩ := H
  replace H : (some (t143, t141, true, mx (-1000) (mn 1000 t154))) = some (r1, r2, r3, r4) := H
  have A33 := Aside0.mk A330
  clear A330
  obtain ⟨ji34, hji34⟩ : ∃ j_ : Int, (mn 1000 t154) = j_ := ⟨_, rfl⟩
  replace H : (some (t143, t141, true, mx (-1000) (ji34))) = some (r1, r2, r3, r4) := by first | (rw [hji34] at H; exact H) | (simp only [hji34] at H ⊢; exact H)
  (try rw [hji34] at A4)
  (try rw [hji34] at A5)
  (try rw [hji34] at A32)
  (try rw [hji34] at A33)
  (try (have hji34h : ji34 ≤ 1000 := by (rw [← hji34]; unfold mn; (repeat' split) <;> omega)))
  (try (have hji34g : ji34 ≤ 64 := by omega))
  have hji34_ : (if t154 < 1000 then t154 else 1000) = ji34 := hji34
  obtain ⟨ji35, hji35⟩ : ∃ j_ : Int, (mx (-1000) (ji34)) = j_ := ⟨_, rfl⟩
  replace H : (some (t143, t141, true, ji35)) = some (r1, r2, r3, r4) := by first | (rw [hji35] at H; exact H) | (simp only [hji35] at H ⊢; exact H)
  (try rw [hji35] at A4)
  (try rw [hji35] at A5)
  (try rw [hji35] at A32)
  (try rw [hji35] at A33)
  have hji35_ : (if (-1000) < (ji34) then (ji34) else (-1000)) = ji35 := hji35
  simp only [Option.some.injEq, Prod.mk.injEq] at H
  obtain ⟨rfl, rfl, rfl, rfl⟩ := H
  go_enter Try.func85, Try.ntmps85
  go_wp2_with (first | ((with_reducible refine gate_dst (N := 3) rfl ?_); refine box_event ?hg (N := 3) ?hd (cs := #[.int .i64 a0_0, .int .i64 a0_1, .slice A0_2 l0_2.length c0_2, .int .i64 a0_3, .int .i64 a0_4, .int .i64 a0_5, .int .i64 a0_6, .slice A0_7 l0_7.length c0_7]) (t := 27) ?hr ?_; (case hd => rfl); (case hg => rfl); (case hr => first | (go_simp; done) | (go_simp; rfl)); intro gb138 hg w36 hbox hb; have n0_ := Aside0.mk (below_step (by repeat (first | (with_reducible first | exact HB.out | apply below_alloc | apply pw_below_drewN | apply below_drew1) | exact HB.out)) hb); have n1_ := Aside0.mk (hbox); have n2_ := Aside0.mk ((by rw [hg]; exact (below_size (by repeat (first | (with_reducible first | exact HB.out | apply below_alloc | apply pw_below_drewN | apply below_drew1) | exact HB.out))) : w.heap.size ≤ gb138)); have n3_ := Aside0.mk ((by rw [hg]; exact (below_size (by repeat (first | (with_reducible first | exact HB.out | apply below_alloc | apply pw_below_drewN | apply below_drew1) | exact HB.out))) : w.heap.size ≤ gb138)); clear HB; have HB := n0_; have BK138 := n1_; have GW138 := n2_; have GE138 := n3_; clear n0_ n1_ n2_ n3_; clear hb hbox hg) | ((with_reducible refine gate_dst (N := 4) rfl ?_); refine box_event ?hg (N := 4) ?hd (cs := #[.int .i64 a1_0, .int .i64 a1_1, .bool false]) (t := 29) ?hr ?_; (case hd => rfl); (case hg => rfl); (case hr => first | (go_simp; done) | (go_simp; rfl)); intro gb139 hg w37 hbox hb; have n0_ := Aside0.mk (blk_below (g := gb138) (o := .cells #[.int .i64 a0_0, .int .i64 a0_1, .slice A0_2 l0_2.length c0_2, .int .i64 a0_3, .int .i64 a0_4, .int .i64 a0_5, .int .i64 a0_6, .slice A0_7 l0_7.length c0_7] 27 (0, 0)) (by (with_reducible repeat (first | refine blk_drewN ?_ _ | refine blk_drew ?_ | refine blk_alloc ?_ _)); exact BK138.out) hb); have n1_ := Aside0.mk (below_step (by repeat (first | (with_reducible first | exact HB.out | apply below_alloc | apply pw_below_drewN | apply below_drew1 | refine below_set ?_ GE138.out) | exact HB.out)) hb); have n2_ := Aside0.mk (hbox); have n3_ := Aside0.mk ((by rw [hg]; exact (below_size (by repeat (first | (with_reducible first | exact HB.out | apply below_alloc | apply pw_below_drewN | apply below_drew1 | refine below_set ?_ GE138.out) | exact HB.out))) : w.heap.size ≤ gb139)); have n4_ := Aside0.mk ((by rw [hg]; exact (below_size (by repeat (first | (with_reducible first | exact HB.out | apply below_alloc | apply pw_below_drewN | apply below_drew1 | refine below_set ?_ GE138.out) | exact HB.out))) : w.heap.size ≤ gb139)); have n5_ := Aside0.mk ((by rw [hg]; exact Nat.ne_of_lt (blk_lt (g := gb138) (o := .cells #[.int .i64 a0_0, .int .i64 a0_1, .slice A0_2 l0_2.length c0_2, .int .i64 a0_3, .int .i64 a0_4, .int .i64 a0_5, .int .i64 a0_6, .slice A0_7 l0_7.length c0_7] 27 (0, 0)) (by (with_reducible repeat (first | refine blk_drewN ?_ _ | refine blk_drew ?_ | refine blk_alloc ?_ _)); exact BK138.out)) : gb138 ≠ gb139)); have n6_ := Aside0.mk ((by rw [hg]; exact Nat.ne_of_gt (blk_lt (g := gb138) (o := .cells #[.int .i64 a0_0, .int .i64 a0_1, .slice A0_2 l0_2.length c0_2, .int .i64 a0_3, .int .i64 a0_4, .int .i64 a0_5, .int .i64 a0_6, .slice A0_7 l0_7.length c0_7] 27 (0, 0)) (by (with_reducible repeat (first | refine blk_drewN ?_ _ | refine blk_drew ?_ | refine blk_alloc ?_ _)); exact BK138.out)) : gb139 ≠ gb138)); clear BK138; clear HB; have BK138 := n0_; have HB := n1_; have BK139 := n2_; have GW139 := n3_; have GE139 := n4_; have NB138_139 := n5_; have NB139_138 := n6_; clear n0_ n1_ n2_ n3_ n4_ n5_ n6_; clear hb hbox hg) | ((with_reducible refine gate_dst (N := 6) rfl ?_); refine box_event ?hg (N := 6) ?hd (cs := #[.int .i64 0, .int .i64 0, .bool false]) (t := 29) ?hr ?_; (case hd => rfl); (case hg => rfl); (case hr => first | (go_simp; done) | (go_simp; rfl)); intro gb140 hg w38 hbox hb; have n0_ := Aside0.mk (blk_below (g := gb138) (o := .cells #[.int .i64 a0_0, .int .i64 a0_1, .slice A0_2 l0_2.length c0_2, .int .i64 a0_3, .int .i64 a0_4, .int .i64 a0_5, .int .i64 a0_6, .slice A0_7 l0_7.length c0_7] 27 (0, 0)) (by (with_reducible repeat (first | refine blk_drewN ?_ _ | refine blk_drew ?_ | refine blk_alloc ?_ _)); exact BK138.out) hb); have n1_ := Aside0.mk (blk_below (g := gb139) (o := .cells #[.int .i64 a1_0, .int .i64 a1_1, .bool false] 29 (0, 0)) (by (with_reducible repeat (first | refine blk_drewN ?_ _ | refine blk_drew ?_ | refine blk_alloc ?_ _)); exact BK139.out) hb); have n2_ := Aside0.mk (below_step (by repeat (first | (with_reducible first | exact HB.out | apply below_alloc | apply pw_below_drewN | apply below_drew1 | refine below_set ?_ GE138.out | refine below_set ?_ GE139.out) | exact HB.out)) hb); have n3_ := Aside0.mk (hbox); have n4_ := Aside0.mk ((by rw [hg]; exact (below_size (by repeat (first | (with_reducible first | exact HB.out | apply below_alloc | apply pw_below_drewN | apply below_drew1 | refine below_set ?_ GE138.out | refine below_set ?_ GE139.out) | exact HB.out))) : w.heap.size ≤ gb140)); have n5_ := Aside0.mk ((by rw [hg]; exact (below_size (by repeat (first | (with_reducible first | exact HB.out | apply below_alloc | apply pw_below_drewN | apply below_drew1 | refine below_set ?_ GE138.out | refine below_set ?_ GE139.out) | exact HB.out))) : w.heap.size ≤ gb140)); have n6_ := Aside0.mk ((by rw [hg]; exact Nat.ne_of_lt (blk_lt (g := gb138) (o := .cells #[.int .i64 a0_0, .int .i64 a0_1, .slice A0_2 l0_2.length c0_2, .int .i64 a0_3, .int .i64 a0_4, .int .i64 a0_5, .int .i64 a0_6, .slice A0_7 l0_7.length c0_7] 27 (0, 0)) (by (with_reducible repeat (first | refine blk_drewN ?_ _ | refine blk_drew ?_ | refine blk_alloc ?_ _)); exact BK138.out)) : gb138 ≠ gb140)); have n7_ := Aside0.mk ((by rw [hg]; exact Nat.ne_of_gt (blk_lt (g := gb138) (o := .cells #[.int .i64 a0_0, .int .i64 a0_1, .slice A0_2 l0_2.length c0_2, .int .i64 a0_3, .int .i64 a0_4, .int .i64 a0_5, .int .i64 a0_6, .slice A0_7 l0_7.length c0_7] 27 (0, 0)) (by (with_reducible repeat (first | refine blk_drewN ?_ _ | refine blk_drew ?_ | refine blk_alloc ?_ _)); exact BK138.out)) : gb140 ≠ gb138)); have n8_ := Aside0.mk ((by rw [hg]; exact Nat.ne_of_lt (blk_lt (g := gb139) (o := .cells #[.int .i64 a1_0, .int .i64 a1_1, .bool false] 29 (0, 0)) (by (with_reducible repeat (first | refine blk_drewN ?_ _ | refine blk_drew ?_ | refine blk_alloc ?_ _)); exact BK139.out)) : gb139 ≠ gb140)); have n9_ := Aside0.mk ((by rw [hg]; exact Nat.ne_of_gt (blk_lt (g := gb139) (o := .cells #[.int .i64 a1_0, .int .i64 a1_1, .bool false] 29 (0, 0)) (by (with_reducible repeat (first | refine blk_drewN ?_ _ | refine blk_drew ?_ | refine blk_alloc ?_ _)); exact BK139.out)) : gb140 ≠ gb139)); clear BK138; clear BK139; clear HB; have BK138 := n0_; have BK139 := n1_; have HB := n2_; have BK140 := n3_; have GW140 := n4_; have GE140 := n5_; have NB138_140 := n6_; have NB140_138 := n7_; have NB139_140 := n8_; have NB140_139 := n9_; clear n0_ n1_ n2_ n3_ n4_ n5_ n6_ n7_ n8_ n9_; clear hb hbox hg; have hnb39 := NB138_139.out; have hnc39 := NB139_138.out; have hnb40 := NB138_140.out; have hnc40 := NB140_138.out; have hcz41_0 : w38.cell? ⟨gb138, 0, none⟩ = some (.int .i64 a0_0) := (blk_cell BK138.out 0).trans rfl; have hcz41_1 : w38.cell? ⟨gb138, 1, none⟩ = some (.int .i64 a0_1) := (blk_cell BK138.out 1).trans rfl; have hcz41_2 : w38.cell? ⟨gb138, 2, none⟩ = some (.slice A0_2 l0_2.length c0_2) := (blk_cell BK138.out 2).trans rfl; have hcz41_3 : w38.cell? ⟨gb138, 3, none⟩ = some (.int .i64 a0_3) := (blk_cell BK138.out 3).trans rfl; have hcz41_4 : w38.cell? ⟨gb138, 4, none⟩ = some (.int .i64 a0_4) := (blk_cell BK138.out 4).trans rfl; have hcz41_5 : w38.cell? ⟨gb138, 5, none⟩ = some (.int .i64 a0_5) := (blk_cell BK138.out 5).trans rfl; have hcz41_6 : w38.cell? ⟨gb138, 6, none⟩ = some (.int .i64 a0_6) := (blk_cell BK138.out 6).trans rfl; have hcz41_7 : w38.cell? ⟨gb138, 7, none⟩ = some (.slice A0_7 l0_7.length c0_7) := (blk_cell BK138.out 7).trans rfl; have hfz41_0 := blk_frozen BK138.out 0; have hfz41_1 := blk_frozen BK138.out 1; have hfz41_2 := blk_frozen BK138.out 2; have hfz41_3 := blk_frozen BK138.out 3; have hfz41_4 := blk_frozen BK138.out 4; have hfz41_5 := blk_frozen BK138.out 5; have hfz41_6 := blk_frozen BK138.out 6; have hfz41_7 := blk_frozen BK138.out 7) | ((with_reducible refine gate_callee (f := 95) rfl ?_); refine goesL_ (some 14) rfl rfl Try.func95 (by kernel_rfl) rfl #[.int .i64 a2, .int .i64 a0_1] rfl (by (try simp only [List.map_toArray, List.map_cons, List.map_nil]); first | done | rfl | (simp only [List.length_drop, List.length_take]; rfl)) ?_; (with_reducible refine (fixed_Sub.calls a2 a0_1 t141 _ A4.out).mono ?_); rintro e w' ⟨rfl, ⟨nd, rfl⟩⟩; refine ⟨_, rfl, ?_⟩; (try (rw [drewN_self w38]; generalize hq_ : World.drewN w38 _ = w38; have n0_ : Aside0 (w38.heap[gb138]? = some (.cells #[.int .i64 a0_0, .int .i64 a0_1, .slice A0_2 l0_2.length c0_2, .int .i64 a0_3, .int .i64 a0_4, .int .i64 a0_5, .int .i64 a0_6, .slice A0_7 l0_7.length c0_7] 27 (0, 0))) := ⟨by rw [← hq_]; exact (by (with_reducible repeat (first | refine blk_drewN ?_ _ | refine blk_drew ?_ | refine blk_alloc ?_ _)); exact BK138.out)⟩; have n1_ : Aside0 (w38.heap[gb139]? = some (.cells #[.int .i64 a1_0, .int .i64 a1_1, .bool false] 29 (0, 0))) := ⟨by rw [← hq_]; exact (by (with_reducible repeat (first | refine blk_drewN ?_ _ | refine blk_drew ?_ | refine blk_alloc ?_ _)); exact BK139.out)⟩; have n2_ : Aside0 (w38.heap[gb140]? = some (.cells #[.int .i64 0, .int .i64 0, .bool false] 29 (0, 0))) := ⟨by rw [← hq_]; exact (by (with_reducible repeat (first | refine blk_drewN ?_ _ | refine blk_drew ?_ | refine blk_alloc ?_ _)); exact BK140.out)⟩; have n3_ : Aside0 (Below w.heap.size w w38) := ⟨by rw [← hq_]; exact (by repeat (first | (with_reducible first | exact HB.out | apply below_alloc | apply pw_below_drewN | apply below_drew1 | refine below_set ?_ GE138.out | refine below_set ?_ GE139.out | refine below_set ?_ GE140.out) | exact HB.out))⟩; clear BK138 BK139 BK140 HB hq_; have BK138 := n0_; have BK139 := n1_; have BK140 := n2_; have HB := n3_; clear n0_ n1_ n2_ n3_))) | ((with_reducible refine gate_dst (N := 8) rfl ?_); refine box_event ?hg (N := 8) ?hd (cs := #[.int .i64 0, .int .i64 0, .bool false]) (t := 29) ?hr ?_; (case hd => rfl); (case hg => rfl); (case hr => first | (go_simp; done) | (go_simp; rfl)); intro gb142 hg w42 hbox hb; have n0_ := Aside0.mk (blk_below (g := gb138) (o := .cells #[.int .i64 a0_0, .int .i64 a0_1, .slice A0_2 l0_2.length c0_2, .int .i64 a0_3, .int .i64 a0_4, .int .i64 a0_5, .int .i64 a0_6, .slice A0_7 l0_7.length c0_7] 27 (0, 0)) (by (with_reducible repeat (first | refine blk_drewN ?_ _ | refine blk_drew ?_ | refine blk_alloc ?_ _)); exact BK138.out) hb); have n1_ := Aside0.mk (blk_below (g := gb139) (o := .cells #[.int .i64 a1_0, .int .i64 a1_1, .bool false] 29 (0, 0)) (by (with_reducible repeat (first | refine blk_drewN ?_ _ | refine blk_drew ?_ | refine blk_alloc ?_ _)); exact BK139.out) hb); have n2_ := Aside0.mk (blk_below (g := gb140) (o := .cells #[.int .i64 0, .int .i64 0, .bool false] 29 (0, 0)) (by (with_reducible repeat (first | refine blk_drewN ?_ _ | refine blk_drew ?_ | refine blk_alloc ?_ _)); exact BK140.out) hb); have n3_ := Aside0.mk (below_step (by repeat (first | (with_reducible first | exact HB.out | apply below_alloc | apply pw_below_drewN | apply below_drew1 | refine below_set ?_ GE138.out | refine below_set ?_ GE139.out | refine below_set ?_ GE140.out) | exact HB.out)) hb); have n4_ := Aside0.mk (hbox); have n5_ := Aside0.mk ((by rw [hg]; exact (below_size (by repeat (first | (with_reducible first | exact HB.out | apply below_alloc | apply pw_below_drewN | apply below_drew1 | refine below_set ?_ GE138.out | refine below_set ?_ GE139.out | refine below_set ?_ GE140.out) | exact HB.out))) : w.heap.size ≤ gb142)); have n6_ := Aside0.mk ((by rw [hg]; exact (below_size (by repeat (first | (with_reducible first | exact HB.out | apply below_alloc | apply pw_below_drewN | apply below_drew1 | refine below_set ?_ GE138.out | refine below_set ?_ GE139.out | refine below_set ?_ GE140.out) | exact HB.out))) : w.heap.size ≤ gb142)); have n7_ := Aside0.mk ((by rw [hg]; exact Nat.ne_of_lt (blk_lt (g := gb138) (o := .cells #[.int .i64 a0_0, .int .i64 a0_1, .slice A0_2 l0_2.length c0_2, .int .i64 a0_3, .int .i64 a0_4, .int .i64 a0_5, .int .i64 a0_6, .slice A0_7 l0_7.length c0_7] 27 (0, 0)) (by (with_reducible repeat (first | refine blk_drewN ?_ _ | refine blk_drew ?_ | refine blk_alloc ?_ _)); exact BK138.out)) : gb138 ≠ gb142)); have n8_ := Aside0.mk ((by rw [hg]; exact Nat.ne_of_gt (blk_lt (g := gb138) (o := .cells #[.int .i64 a0_0, .int .i64 a0_1, .slice A0_2 l0_2.length c0_2, .int .i64 a0_3, .int .i64 a0_4, .int .i64 a0_5, .int .i64 a0_6, .slice A0_7 l0_7.length c0_7] 27 (0, 0)) (by (with_reducible repeat (first | refine blk_drewN ?_ _ | refine blk_drew ?_ | refine blk_alloc ?_ _)); exact BK138.out)) : gb142 ≠ gb138)); have n9_ := Aside0.mk ((by rw [hg]; exact Nat.ne_of_lt (blk_lt (g := gb139) (o := .cells #[.int .i64 a1_0, .int .i64 a1_1, .bool false] 29 (0, 0)) (by (with_reducible repeat (first | refine blk_drewN ?_ _ | refine blk_drew ?_ | refine blk_alloc ?_ _)); exact BK139.out)) : gb139 ≠ gb142)); have n10_ := Aside0.mk ((by rw [hg]; exact Nat.ne_of_gt (blk_lt (g := gb139) (o := .cells #[.int .i64 a1_0, .int .i64 a1_1, .bool false] 29 (0, 0)) (by (with_reducible repeat (first | refine blk_drewN ?_ _ | refine blk_drew ?_ | refine blk_alloc ?_ _)); exact BK139.out)) : gb142 ≠ gb139)); have n11_ := Aside0.mk ((by rw [hg]; exact Nat.ne_of_lt (blk_lt (g := gb140) (o := .cells #[.int .i64 0, .int .i64 0, .bool false] 29 (0, 0)) (by (with_reducible repeat (first | refine blk_drewN ?_ _ | refine blk_drew ?_ | refine blk_alloc ?_ _)); exact BK140.out)) : gb140 ≠ gb142)); have n12_ := Aside0.mk ((by rw [hg]; exact Nat.ne_of_gt (blk_lt (g := gb140) (o := .cells #[.int .i64 0, .int .i64 0, .bool false] 29 (0, 0)) (by (with_reducible repeat (first | refine blk_drewN ?_ _ | refine blk_drew ?_ | refine blk_alloc ?_ _)); exact BK140.out)) : gb142 ≠ gb140)); clear BK138; clear BK139; clear BK140; clear HB; have BK138 := n0_; have BK139 := n1_; have BK140 := n2_; have HB := n3_; have BK142 := n4_; have GW142 := n5_; have GE142 := n6_; have NB138_142 := n7_; have NB142_138 := n8_; have NB139_142 := n9_; have NB142_139 := n10_; have NB140_142 := n11_; have NB142_140 := n12_; clear n0_ n1_ n2_ n3_ n4_ n5_ n6_ n7_ n8_ n9_ n10_ n11_ n12_; clear hb hbox hg; have hnb43 := NB142_138.out; have hnc43 := NB138_142.out; have hnb44 := NB142_139.out; have hnc44 := NB139_142.out; have hnb45 := NB142_140.out; have hnc45 := NB140_142.out; have hcz46_0 : w42.cell? ⟨gb142, 0, none⟩ = some (.int .i64 0) := (blk_cell BK142.out 0).trans rfl; have hcz46_1 : w42.cell? ⟨gb142, 1, none⟩ = some (.int .i64 0) := (blk_cell BK142.out 1).trans rfl; have hcz46_2 : w42.cell? ⟨gb142, 2, none⟩ = some (.bool false) := (blk_cell BK142.out 2).trans rfl; have hfz46_0 := blk_frozen BK142.out 0; have hfz46_1 := blk_frozen BK142.out 1; have hfz46_2 := blk_frozen BK142.out 2; have hnb47 := NB139_140.out; have hnc47 := NB140_139.out; have hcz48_0 : w42.cell? ⟨gb139, 0, none⟩ = some (.int .i64 a1_0) := (blk_cell BK139.out 0).trans rfl; have hcz48_1 : w42.cell? ⟨gb139, 1, none⟩ = some (.int .i64 a1_1) := (blk_cell BK139.out 1).trans rfl; have hcz48_2 : w42.cell? ⟨gb139, 2, none⟩ = some (.bool false) := (blk_cell BK139.out 2).trans rfl; have hfz48_0 := blk_frozen BK139.out 0; have hfz48_1 := blk_frozen BK139.out 1; have hfz48_2 := blk_frozen BK139.out 2) | ((with_reducible refine gate_callee (f := 64) rfl ?_); refine goesL_ (some 20) rfl rfl Try.func64 (by kernel_rfl) rfl #[.int .i64 a1_0, .int .i64 t141] rfl (by (try simp only [List.map_toArray, List.map_cons, List.map_nil]); first | done | rfl | (simp only [List.length_drop, List.length_take]; rfl)) ?_; (with_reducible refine (fixed_Add.calls a1_0 t141 t143 _ A5.out).mono ?_); rintro e w' ⟨rfl, ⟨nd, rfl⟩⟩; refine ⟨_, rfl, ?_⟩; have hcz49_0 : w42.cell? ⟨gb138, 0, none⟩ = some (.int .i64 a0_0) := (blk_cell BK138.out 0).trans rfl; have hcz49_1 : w42.cell? ⟨gb138, 1, none⟩ = some (.int .i64 a0_1) := (blk_cell BK138.out 1).trans rfl; have hcz49_2 : w42.cell? ⟨gb138, 2, none⟩ = some (.slice A0_2 l0_2.length c0_2) := (blk_cell BK138.out 2).trans rfl; have hcz49_3 : w42.cell? ⟨gb138, 3, none⟩ = some (.int .i64 a0_3) := (blk_cell BK138.out 3).trans rfl; have hcz49_4 : w42.cell? ⟨gb138, 4, none⟩ = some (.int .i64 a0_4) := (blk_cell BK138.out 4).trans rfl; have hcz49_5 : w42.cell? ⟨gb138, 5, none⟩ = some (.int .i64 a0_5) := (blk_cell BK138.out 5).trans rfl; have hcz49_6 : w42.cell? ⟨gb138, 6, none⟩ = some (.int .i64 a0_6) := (blk_cell BK138.out 6).trans rfl; have hcz49_7 : w42.cell? ⟨gb138, 7, none⟩ = some (.slice A0_7 l0_7.length c0_7) := (blk_cell BK138.out 7).trans rfl; have hfz49_0 := blk_frozen BK138.out 0; have hfz49_1 := blk_frozen BK138.out 1; have hfz49_2 := blk_frozen BK138.out 2; have hfz49_3 := blk_frozen BK138.out 3; have hfz49_4 := blk_frozen BK138.out 4; have hfz49_5 := blk_frozen BK138.out 5; have hfz49_6 := blk_frozen BK138.out 6; have hfz49_7 := blk_frozen BK138.out 7) | ((with_reducible refine gate_dst (N := 43) rfl ?_); refine Kd.R_lit k122 _ 122 ?hg (N := 43) ?hd (xs := ([(⟨a0_3, t141⟩ : S122), (⟨a0_4, t143⟩ : S122), (⟨a0_5, 0⟩ : S122)] : List (S122))) (inner := [.int .i64 a0_3, .int .i64 t141, .int .i64 a0_4, .int .i64 t143, .int .i64 a0_5, .int .i64 0]) (ok := fun _ => True) (okp := fun _ => True) ?hr ?hp (fun _ hk => hk) trivial (Below.refl _ _) (Nat.le_refl _) (by simp) ?_; (case hd => rfl); (case hg => rfl); (case hr => first | (go_simp; done) | (go_simp; rfl)); (case hp => exact (Reps.c2 (show Kd.M k122 _ _ _ (⟨a0_3, t141⟩ : S122) [.int .i64 a0_3, .int .i64 t141] from (k122_mkM _ _ _ (⟨a0_3, t141⟩ : S122) )) (Reps.c2 (show Kd.M k122 _ _ _ (⟨a0_4, t143⟩ : S122) [.int .i64 a0_4, .int .i64 t143] from (k122_mkM _ _ _ (⟨a0_4, t143⟩ : S122) )) (Reps.c2 (show Kd.M k122 _ _ _ (⟨a0_5, 0⟩ : S122) [.int .i64 a0_5, .int .i64 0] from (k122_mkM _ _ _ (⟨a0_5, 0⟩ : S122) )) (Reps.none _ _))))); intro v151 w50 ho51 hb hg_ hnew_; clear hg_ hnew_; (first | rw [← Ny150.out] at ho51 | (simp only [Int.reduceToNat] at ho51; rw [← Ny150.out] at ho51)); have n0_ := Aside0.mk (Kd.R_lower ho51 (below_size (by repeat (first | (with_reducible first | exact HB.out | apply below_alloc | apply pw_below_drewN | apply below_drew1 | refine below_set ?_ GE138.out | refine below_set ?_ GE139.out | refine below_set ?_ GE140.out | refine below_set ?_ GE142.out) | exact HB.out)))); have n1_ := Aside0.mk (blk_below (g := gb138) (o := .cells #[.int .i64 a0_0, .int .i64 a0_1, .slice A0_2 l0_2.length c0_2, .int .i64 a0_3, .int .i64 a0_4, .int .i64 a0_5, .int .i64 a0_6, .slice A0_7 l0_7.length c0_7] 27 (0, 0)) (by (with_reducible repeat (first | refine blk_drewN ?_ _ | refine blk_drew ?_ | refine blk_alloc ?_ _)); refine blk_far ?_ NB138_142.out _; (with_reducible repeat (first | refine blk_drewN ?_ _ | refine blk_drew ?_ | refine blk_alloc ?_ _)); refine blk_far ?_ NB138_142.out _; (with_reducible repeat (first | refine blk_drewN ?_ _ | refine blk_drew ?_ | refine blk_alloc ?_ _)); refine blk_far ?_ NB138_142.out _; (with_reducible repeat (first | refine blk_drewN ?_ _ | refine blk_drew ?_ | refine blk_alloc ?_ _)); refine blk_far ?_ NB138_142.out _; (with_reducible repeat (first | refine blk_drewN ?_ _ | refine blk_drew ?_ | refine blk_alloc ?_ _)); exact BK138.out) hb); have n2_ := Aside0.mk (blk_below (g := gb139) (o := .cells #[.int .i64 a1_0, .int .i64 a1_1, .bool false] 29 (0, 0)) (by (with_reducible repeat (first | refine blk_drewN ?_ _ | refine blk_drew ?_ | refine blk_alloc ?_ _)); refine blk_far ?_ NB139_142.out _; (with_reducible repeat (first | refine blk_drewN ?_ _ | refine blk_drew ?_ | refine blk_alloc ?_ _)); refine blk_far ?_ NB139_142.out _; (with_reducible repeat (first | refine blk_drewN ?_ _ | refine blk_drew ?_ | refine blk_alloc ?_ _)); refine blk_far ?_ NB139_142.out _; (with_reducible repeat (first | refine blk_drewN ?_ _ | refine blk_drew ?_ | refine blk_alloc ?_ _)); refine blk_far ?_ NB139_142.out _; (with_reducible repeat (first | refine blk_drewN ?_ _ | refine blk_drew ?_ | refine blk_alloc ?_ _)); exact BK139.out) hb); have n3_ := Aside0.mk (blk_below (g := gb140) (o := .cells #[.int .i64 0, .int .i64 0, .bool false] 29 (0, 0)) (by (with_reducible repeat (first | refine blk_drewN ?_ _ | refine blk_drew ?_ | refine blk_alloc ?_ _)); refine blk_far ?_ NB140_142.out _; (with_reducible repeat (first | refine blk_drewN ?_ _ | refine blk_drew ?_ | refine blk_alloc ?_ _)); refine blk_far ?_ NB140_142.out _; (with_reducible repeat (first | refine blk_drewN ?_ _ | refine blk_drew ?_ | refine blk_alloc ?_ _)); refine blk_far ?_ NB140_142.out _; (with_reducible repeat (first | refine blk_drewN ?_ _ | refine blk_drew ?_ | refine blk_alloc ?_ _)); refine blk_far ?_ NB140_142.out _; (with_reducible repeat (first | refine blk_drewN ?_ _ | refine blk_drew ?_ | refine blk_alloc ?_ _)); exact BK140.out) hb); have n4_ := Aside0.mk (blk_below (g := gb142) (o := .cells #[.int .i64 t143, .int .i64 t141, .bool true] 29 (0, 0)) (by (with_reducible repeat (first | refine blk_drewN ?_ _ | refine blk_drew ?_ | refine blk_alloc ?_ _)); refine blk_put (cs := #[.int .i64 0, .int .i64 t141, .bool true]) ?_ 0 _ rfl; (with_reducible repeat (first | refine blk_drewN ?_ _ | refine blk_drew ?_ | refine blk_alloc ?_ _)); refine blk_put (cs := #[.int .i64 0, .int .i64 t141, .bool false]) ?_ 2 _ rfl; (with_reducible repeat (first | refine blk_drewN ?_ _ | refine blk_drew ?_ | refine blk_alloc ?_ _)); refine blk_put (cs := #[.int .i64 0, .int .i64 0, .bool false]) ?_ 1 _ rfl; (with_reducible repeat (first | refine blk_drewN ?_ _ | refine blk_drew ?_ | refine blk_alloc ?_ _)); refine blk_put (cs := #[.int .i64 0, .int .i64 0, .bool false]) ?_ 0 _ rfl; (with_reducible repeat (first | refine blk_drewN ?_ _ | refine blk_drew ?_ | refine blk_alloc ?_ _)); exact BK142.out) hb); have n5_ := Aside0.mk (below_step (by repeat (first | (with_reducible first | exact HB.out | apply below_alloc | apply pw_below_drewN | apply below_drew1 | refine below_set ?_ GE138.out | refine below_set ?_ GE139.out | refine below_set ?_ GE140.out | refine below_set ?_ GE142.out) | exact HB.out)) hb); clear BK138; clear BK139; clear BK140; clear BK142; clear HB; have HO152 := n0_; have BK138 := n1_; have BK139 := n2_; have BK140 := n3_; have BK142 := n4_; have HB := n5_; clear n0_ n1_ n2_ n3_ n4_ n5_; clear hb ho51; obtain ⟨Ao52, co52, eo52⟩ := Kd.R_slice HO152.out; subst eo52) | ((with_reducible refine gate_callee (f := 97) rfl ?_); refine goesL_ (some 44) rfl rfl Try.func97 (by kernel_rfl) rfl #[.slice Ao52 y150.length co52] rfl (by (try simp only [List.map_toArray, List.map_cons, List.map_nil]); first | done | rfl | (simp only [List.length_drop, List.length_take]; rfl)) ?_; (with_reducible refine (pid_weighed.calls k _ _ y150 t153 _ ?side1 ?side2 A32.out).mono ?_); (case side1 => repeat (first | exact (Kd.R_reads' HO152.out).2.2 | (with_reducible refine Kd.C_alloc ?_ _) | (with_reducible refine Kd.C_drewN ?_ _) | (with_reducible refine Kd.C_drew ?_))); (case side2 => exact (Kd.R_reads' HO152.out).2.1); rintro e w53 ⟨rfl, hb⟩; refine ⟨_, rfl, ?_⟩; have n0_ := Aside0.mk (Kd.R_below (by (with_reducible repeat (first | apply Kd.R_alloc | apply Kd.R_drewN | apply Kd.R_drew)); exact HO152.out) hb); have n1_ := Aside0.mk (blk_below (g := gb138) (o := .cells #[.int .i64 a0_0, .int .i64 a0_1, .slice A0_2 l0_2.length c0_2, .int .i64 a0_3, .int .i64 a0_4, .int .i64 a0_5, .int .i64 a0_6, .slice A0_7 l0_7.length c0_7] 27 (0, 0)) (by (with_reducible repeat (first | refine blk_drewN ?_ _ | refine blk_drew ?_ | refine blk_alloc ?_ _)); exact BK138.out) hb); have n2_ := Aside0.mk (blk_below (g := gb139) (o := .cells #[.int .i64 a1_0, .int .i64 a1_1, .bool false] 29 (0, 0)) (by (with_reducible repeat (first | refine blk_drewN ?_ _ | refine blk_drew ?_ | refine blk_alloc ?_ _)); exact BK139.out) hb); have n3_ := Aside0.mk (blk_below (g := gb140) (o := .cells #[.int .i64 0, .int .i64 0, .bool false] 29 (0, 0)) (by (with_reducible repeat (first | refine blk_drewN ?_ _ | refine blk_drew ?_ | refine blk_alloc ?_ _)); exact BK140.out) hb); have n4_ := Aside0.mk (blk_below (g := gb142) (o := .cells #[.int .i64 t143, .int .i64 t141, .bool true] 29 (0, 0)) (by (with_reducible repeat (first | refine blk_drewN ?_ _ | refine blk_drew ?_ | refine blk_alloc ?_ _)); exact BK142.out) hb); have n5_ := Aside0.mk (below_step (by repeat (first | (with_reducible first | exact HB.out | apply below_alloc | apply pw_below_drewN | apply below_drew1 | refine below_set ?_ GE138.out | refine below_set ?_ GE139.out | refine below_set ?_ GE140.out | refine below_set ?_ GE142.out) | exact HB.out)) hb); clear HO152; clear BK138; clear BK139; clear BK140; clear BK142; clear HB; have HO152 := n0_; have BK138 := n1_; have BK139 := n2_; have BK140 := n3_; have BK142 := n4_; have HB := n5_; clear n0_ n1_ n2_ n3_ n4_ n5_; (try clear hb); (try clear hb2); (try clear hk); (try clear hi)) | ((with_reducible refine gate_callee (f := 96) rfl ?_); refine goesL_ (some 45) rfl rfl Try.func96 (by kernel_rfl) rfl #[.int .i64 t153] rfl (by (try simp only [List.map_toArray, List.map_cons, List.map_nil]); first | done | rfl | (simp only [List.length_drop, List.length_take]; rfl)) ?_; (with_reducible refine (fixed_Near.calls t153 t154 _ A33.out).mono ?_); rintro e w' ⟨rfl, ⟨nd, rfl⟩⟩; refine ⟨_, rfl, ?_⟩; (try (rw [drewN_self w53]; generalize hq_ : World.drewN w53 _ = w53; have n0_ : Aside0 (Kd.R k122 122 w53 w.heap.size (fun _ => True) (.slice Ao52 y150.length co52) y150) := ⟨by rw [← hq_]; exact (by (with_reducible repeat (first | apply Kd.R_alloc | apply Kd.R_drewN | apply Kd.R_drew)); exact HO152.out)⟩; have n1_ : Aside0 (w53.heap[gb138]? = some (.cells #[.int .i64 a0_0, .int .i64 a0_1, .slice A0_2 l0_2.length c0_2, .int .i64 a0_3, .int .i64 a0_4, .int .i64 a0_5, .int .i64 a0_6, .slice A0_7 l0_7.length c0_7] 27 (0, 0))) := ⟨by rw [← hq_]; exact (by (with_reducible repeat (first | refine blk_drewN ?_ _ | refine blk_drew ?_ | refine blk_alloc ?_ _)); exact BK138.out)⟩; have n2_ : Aside0 (w53.heap[gb139]? = some (.cells #[.int .i64 a1_0, .int .i64 a1_1, .bool false] 29 (0, 0))) := ⟨by rw [← hq_]; exact (by (with_reducible repeat (first | refine blk_drewN ?_ _ | refine blk_drew ?_ | refine blk_alloc ?_ _)); exact BK139.out)⟩; have n3_ : Aside0 (w53.heap[gb140]? = some (.cells #[.int .i64 0, .int .i64 0, .bool false] 29 (0, 0))) := ⟨by rw [← hq_]; exact (by (with_reducible repeat (first | refine blk_drewN ?_ _ | refine blk_drew ?_ | refine blk_alloc ?_ _)); exact BK140.out)⟩; have n4_ : Aside0 (w53.heap[gb142]? = some (.cells #[.int .i64 t143, .int .i64 t141, .bool true] 29 (0, 0))) := ⟨by rw [← hq_]; exact (by (with_reducible repeat (first | refine blk_drewN ?_ _ | refine blk_drew ?_ | refine blk_alloc ?_ _)); exact BK142.out)⟩; have n5_ : Aside0 (Below w.heap.size w w53) := ⟨by rw [← hq_]; exact (by repeat (first | (with_reducible first | exact HB.out | apply below_alloc | apply pw_below_drewN | apply below_drew1 | refine below_set ?_ GE138.out | refine below_set ?_ GE139.out | refine below_set ?_ GE140.out | refine below_set ?_ GE142.out) | exact HB.out))⟩; clear HO152 BK138 BK139 BK140 BK142 HB hq_; have HO152 := n0_; have BK138 := n1_; have BK139 := n2_; have BK140 := n3_; have BK142 := n4_; have HB := n5_; clear n0_ n1_ n2_ n3_ n4_ n5_)); have hcz54_0 : w53.cell? ⟨gb142, 0, none⟩ = some (.int .i64 t143) := (blk_cell BK142.out 0).trans rfl; have hcz54_1 : w53.cell? ⟨gb142, 1, none⟩ = some (.int .i64 t141) := (blk_cell BK142.out 1).trans rfl; have hcz54_2 : w53.cell? ⟨gb142, 2, none⟩ = some (.bool true) := (blk_cell BK142.out 2).trans rfl; have hfz54_0 := blk_frozen BK142.out 0; have hfz54_1 := blk_frozen BK142.out 1; have hfz54_2 := blk_frozen BK142.out 2; have hcz55_0 : w53.cell? ⟨gb140, 0, none⟩ = some (.int .i64 0) := (blk_cell BK140.out 0).trans rfl; have hcz55_1 : w53.cell? ⟨gb140, 1, none⟩ = some (.int .i64 0) := (blk_cell BK140.out 1).trans rfl; have hcz55_2 : w53.cell? ⟨gb140, 2, none⟩ = some (.bool false) := (blk_cell BK140.out 2).trans rfl; have hfz55_0 := blk_frozen BK140.out 0; have hfz55_1 := blk_frozen BK140.out 1; have hfz55_2 := blk_frozen BK140.out 2))
  refine bodyPost_ret (results_ct rfl _ _ gb140 29 #[.int .i64 t143, .int .i64 t141, .bool true] (0, 0) _ rfl (by (with_reducible repeat (first | refine blk_drewN ?_ _ | refine blk_drew ?_ | refine blk_alloc ?_ _)); refine blk_put (cs := #[.int .i64 t143, .int .i64 t141, .bool false]) ?_ 2 _ rfl; (with_reducible repeat (first | refine blk_drewN ?_ _ | refine blk_drew ?_ | refine blk_alloc ?_ _)); refine blk_put (cs := #[.int .i64 t143, .int .i64 0, .bool false]) ?_ 1 _ rfl; (with_reducible repeat (first | refine blk_drewN ?_ _ | refine blk_drew ?_ | refine blk_alloc ?_ _)); refine blk_put (cs := #[.int .i64 0, .int .i64 0, .bool false]) ?_ 0 _ rfl; (with_reducible repeat (first | refine blk_drewN ?_ _ | refine blk_drew ?_ | refine blk_alloc ?_ _)); exact BK140.out) Try.underlying29 rfl (by kernel_rfl)) rfl ?_
  exact ⟨by first | rfl | (simp [errW_none, errW_some] <;> rfl) | (simp only [← hji34, ← hji35]; first | rfl | (simp [errW_none, errW_some] <;> rfl)) | (simp [*, errW_none, errW_some] <;> rfl) | (have e_ : ji34 = ji35 := (by omega); subst e_; rfl), by repeat (first | (with_reducible first | exact HB.out | apply below_alloc | apply pw_below_drewN | apply below_drew1 | refine below_set ?_ GE138.out | refine below_set ?_ GE139.out | refine below_set ?_ GE140.out | refine below_set ?_ GE142.out) | exact HB.out)⟩
/-! ### policy_kinds_3: function 84 -/
def policy_kinds_3.f (k : Nat) (a0_0 : Int) (a0_1 : Int) (l0_2 : List (S56)) (a0_3 : Int) (a0_4 : Int) (a0_5 : Int) (a0_6 : Int) (l0_7 : List (S58)) (a1_0 : Int) (a1_1 : Int) (a1_2 : Bool) (a1_3 : Int) (a1_4 : Int) (a1_5 : Int) : Option (Int × Int × Bool × Int) := (pid_Next.f k a0_0 a0_1 l0_2 a0_3 a0_4 a0_5 a0_6 l0_7 a1_0 a1_1 a1_2 a1_4).bind fun bt158 => (some (bt158.1, bt158.2.1, bt158.2.2.1, bt158.2.2.2))
set_option maxHeartbeats 8000000 in
set_option maxRecDepth 100000 in
theorem policy_kinds_3.calls (k : Nat) (a0_0 : Int) (a0_1 : Int) (A0_2 : Option Addr) (c0_2 : Nat) (l0_2 : List (S56)) (a0_3 : Int) (a0_4 : Int) (a0_5 : Int) (a0_6 : Int) (A0_7 : Option Addr) (c0_7 : Nat) (l0_7 : List (S58)) (a1_0 : Int) (a1_1 : Int) (a1_2 : Bool) (a1_3 : Int) (a1_4 : Int) (a1_5 : Int) (r1 : Int) (r2 : Int) (r3 : Bool) (r4 : Int) (w : World) (hr0_2 : Kd.C k56 w A0_2 l0_2.length l0_2) (hc0_2 : l0_2.length ≤ c0_2) (hr0_7 : Kd.C k58 w A0_7 l0_7.length l0_7) (hc0_7 : l0_7.length ≤ c0_7) (h : policy_kinds_3.f k a0_0 a0_1 l0_2 a0_3 a0_4 a0_5 a0_6 l0_7 a1_0 a1_1 a1_2 a1_3 a1_4 a1_5 = some (r1, r2, r3, r4)) :
  Calls Try.prog 84 #[.agg #[.int .i64 a0_0, .int .i64 a0_1, .slice A0_2 l0_2.length c0_2, .int .i64 a0_3, .int .i64 a0_4, .int .i64 a0_5, .int .i64 a0_6, .slice A0_7 l0_7.length c0_7], .agg #[.int .i64 a1_0, .int .i64 a1_1, .bool a1_2, .int .i64 a1_3, .int .i64 a1_4, .int .i64 a1_5]] w fun e w' => e = .returned (.tuple #[.agg #[.int .i64 r1, .int .i64 r2, .bool r3], .int .i64 r4]) ∧ Below w.heap.size w w' := by
 have hu27 := Try.underlying27
 have hu105 := Try.underlying105
 have hu29 := Try.underlying29
 have HR0_2 := Aside0.mk hr0_2
 have HC0_2 := Aside0.mk hc0_2
 clear hr0_2 hc0_2
 have HR0_7 := Aside0.mk hr0_7
 have HC0_7 := Aside0.mk hc0_7
 clear hr0_7 hc0_7
 have HB := Aside0.mk (Below.refl w.heap.size w)
 have H : ((pid_Next.f k a0_0 a0_1 l0_2 a0_3 a0_4 a0_5 a0_6 l0_7 a1_0 a1_1 a1_2 a1_4).bind fun bt158 => (some (bt158.1, bt158.2.1, bt158.2.2.1, bt158.2.2.2))) = some (r1, r2, r3, r4) := h
 clear h
 replace H := Option.bind_eq_some_iff.mp H
 obtain ⟨⟨t158, t159, t160, t161⟩, A30, H⟩ := H
 replace H : (some (t158, t159, t160, t161)) = some (r1, r2, r3, r4) := H
 have A3 := Aside0.mk A30
 clear A30
 simp only [Option.some.injEq, Prod.mk.injEq] at H
 obtain ⟨rfl, rfl, rfl, rfl⟩ := H
 go_enter Try.func84, Try.ntmps84
 go_wp2_with (first | ((with_reducible refine gate_dst (N := 2) rfl ?_); refine box_event ?hg (N := 2) ?hd (cs := #[.int .i64 a0_0, .int .i64 a0_1, .slice A0_2 l0_2.length c0_2, .int .i64 a0_3, .int .i64 a0_4, .int .i64 a0_5, .int .i64 a0_6, .slice A0_7 l0_7.length c0_7]) (t := 27) ?hr ?_; (case hd => rfl); (case hg => rfl); (case hr => first | (go_simp; done) | (go_simp; rfl)); intro gb155 hg w4 hbox hb; have n0_ := Aside0.mk (below_step (by repeat (first | (with_reducible first | exact HB.out | apply below_alloc | apply pw_below_drewN | apply below_drew1) | exact HB.out)) hb); have n1_ := Aside0.mk (hbox); have n2_ := Aside0.mk ((by rw [hg]; exact (below_size (by repeat (first | (with_reducible first | exact HB.out | apply below_alloc | apply pw_below_drewN | apply below_drew1) | exact HB.out))) : w.heap.size ≤ gb155)); have n3_ := Aside0.mk ((by rw [hg]; exact (below_size (by repeat (first | (with_reducible first | exact HB.out | apply below_alloc | apply pw_below_drewN | apply below_drew1) | exact HB.out))) : w.heap.size ≤ gb155)); clear HB; have HB := n0_; have BK155 := n1_; have GW155 := n2_; have GE155 := n3_; clear n0_ n1_ n2_ n3_; clear hb hbox hg) | ((with_reducible refine gate_dst (N := 3) rfl ?_); refine box_event ?hg (N := 3) ?hd (cs := #[.int .i64 a1_0, .int .i64 a1_1, .bool a1_2, .int .i64 a1_3, .int .i64 a1_4, .int .i64 a1_5]) (t := 105) ?hr ?_; (case hd => rfl); (case hg => rfl); (case hr => first | (go_simp; done) | (go_simp; rfl)); intro gb156 hg w5 hbox hb; have n0_ := Aside0.mk (blk_below (g := gb155) (o := .cells #[.int .i64 a0_0, .int .i64 a0_1, .slice A0_2 l0_2.length c0_2, .int .i64 a0_3, .int .i64 a0_4, .int .i64 a0_5, .int .i64 a0_6, .slice A0_7 l0_7.length c0_7] 27 (0, 0)) (by (with_reducible repeat (first | refine blk_drewN ?_ _ | refine blk_drew ?_ | refine blk_alloc ?_ _)); exact BK155.out) hb); have n1_ := Aside0.mk (below_step (by repeat (first | (with_reducible first | exact HB.out | apply below_alloc | apply pw_below_drewN | apply below_drew1 | refine below_set ?_ GE155.out) | exact HB.out)) hb); have n2_ := Aside0.mk (hbox); have n3_ := Aside0.mk ((by rw [hg]; exact (below_size (by repeat (first | (with_reducible first | exact HB.out | apply below_alloc | apply pw_below_drewN | apply below_drew1 | refine below_set ?_ GE155.out) | exact HB.out))) : w.heap.size ≤ gb156)); have n4_ := Aside0.mk ((by rw [hg]; exact (below_size (by repeat (first | (with_reducible first | exact HB.out | apply below_alloc | apply pw_below_drewN | apply below_drew1 | refine below_set ?_ GE155.out) | exact HB.out))) : w.heap.size ≤ gb156)); have n5_ := Aside0.mk ((by rw [hg]; exact Nat.ne_of_lt (blk_lt (g := gb155) (o := .cells #[.int .i64 a0_0, .int .i64 a0_1, .slice A0_2 l0_2.length c0_2, .int .i64 a0_3, .int .i64 a0_4, .int .i64 a0_5, .int .i64 a0_6, .slice A0_7 l0_7.length c0_7] 27 (0, 0)) (by (with_reducible repeat (first | refine blk_drewN ?_ _ | refine blk_drew ?_ | refine blk_alloc ?_ _)); exact BK155.out)) : gb155 ≠ gb156)); have n6_ := Aside0.mk ((by rw [hg]; exact Nat.ne_of_gt (blk_lt (g := gb155) (o := .cells #[.int .i64 a0_0, .int .i64 a0_1, .slice A0_2 l0_2.length c0_2, .int .i64 a0_3, .int .i64 a0_4, .int .i64 a0_5, .int .i64 a0_6, .slice A0_7 l0_7.length c0_7] 27 (0, 0)) (by (with_reducible repeat (first | refine blk_drewN ?_ _ | refine blk_drew ?_ | refine blk_alloc ?_ _)); exact BK155.out)) : gb156 ≠ gb155)); clear BK155; clear HB; have BK155 := n0_; have HB := n1_; have BK156 := n2_; have GW156 := n3_; have GE156 := n4_; have NB155_156 := n5_; have NB156_155 := n6_; clear n0_ n1_ n2_ n3_ n4_ n5_ n6_; clear hb hbox hg) | ((with_reducible refine gate_dst (N := 4) rfl ?_); refine box_event ?hg (N := 4) ?hd (cs := #[.int .i64 0, .int .i64 0, .bool false]) (t := 29) ?hr ?_; (case hd => rfl); (case hg => rfl); (case hr => first | (go_simp; done) | (go_simp; rfl)); intro gb157 hg w6 hbox hb; have n0_ := Aside0.mk (blk_below (g := gb155) (o := .cells #[.int .i64 a0_0, .int .i64 a0_1, .slice A0_2 l0_2.length c0_2, .int .i64 a0_3, .int .i64 a0_4, .int .i64 a0_5, .int .i64 a0_6, .slice A0_7 l0_7.length c0_7] 27 (0, 0)) (by (with_reducible repeat (first | refine blk_drewN ?_ _ | refine blk_drew ?_ | refine blk_alloc ?_ _)); exact BK155.out) hb); have n1_ := Aside0.mk (blk_below (g := gb156) (o := .cells #[.int .i64 a1_0, .int .i64 a1_1, .bool a1_2, .int .i64 a1_3, .int .i64 a1_4, .int .i64 a1_5] 105 (0, 0)) (by (with_reducible repeat (first | refine blk_drewN ?_ _ | refine blk_drew ?_ | refine blk_alloc ?_ _)); exact BK156.out) hb); have n2_ := Aside0.mk (below_step (by repeat (first | (with_reducible first | exact HB.out | apply below_alloc | apply pw_below_drewN | apply below_drew1 | refine below_set ?_ GE155.out | refine below_set ?_ GE156.out) | exact HB.out)) hb); have n3_ := Aside0.mk (hbox); have n4_ := Aside0.mk ((by rw [hg]; exact (below_size (by repeat (first | (with_reducible first | exact HB.out | apply below_alloc | apply pw_below_drewN | apply below_drew1 | refine below_set ?_ GE155.out | refine below_set ?_ GE156.out) | exact HB.out))) : w.heap.size ≤ gb157)); have n5_ := Aside0.mk ((by rw [hg]; exact (below_size (by repeat (first | (with_reducible first | exact HB.out | apply below_alloc | apply pw_below_drewN | apply below_drew1 | refine below_set ?_ GE155.out | refine below_set ?_ GE156.out) | exact HB.out))) : w.heap.size ≤ gb157)); have n6_ := Aside0.mk ((by rw [hg]; exact Nat.ne_of_lt (blk_lt (g := gb155) (o := .cells #[.int .i64 a0_0, .int .i64 a0_1, .slice A0_2 l0_2.length c0_2, .int .i64 a0_3, .int .i64 a0_4, .int .i64 a0_5, .int .i64 a0_6, .slice A0_7 l0_7.length c0_7] 27 (0, 0)) (by (with_reducible repeat (first | refine blk_drewN ?_ _ | refine blk_drew ?_ | refine blk_alloc ?_ _)); exact BK155.out)) : gb155 ≠ gb157)); have n7_ := Aside0.mk ((by rw [hg]; exact Nat.ne_of_gt (blk_lt (g := gb155) (o := .cells #[.int .i64 a0_0, .int .i64 a0_1, .slice A0_2 l0_2.length c0_2, .int .i64 a0_3, .int .i64 a0_4, .int .i64 a0_5, .int .i64 a0_6, .slice A0_7 l0_7.length c0_7] 27 (0, 0)) (by (with_reducible repeat (first | refine blk_drewN ?_ _ | refine blk_drew ?_ | refine blk_alloc ?_ _)); exact BK155.out)) : gb157 ≠ gb155)); have n8_ := Aside0.mk ((by rw [hg]; exact Nat.ne_of_lt (blk_lt (g := gb156) (o := .cells #[.int .i64 a1_0, .int .i64 a1_1, .bool a1_2, .int .i64 a1_3, .int .i64 a1_4, .int .i64 a1_5] 105 (0, 0)) (by (with_reducible repeat (first | refine blk_drewN ?_ _ | refine blk_drew ?_ | refine blk_alloc ?_ _)); exact BK156.out)) : gb156 ≠ gb157)); have n9_ := Aside0.mk ((by rw [hg]; exact Nat.ne_of_gt (blk_lt (g := gb156) (o := .cells #[.int .i64 a1_0, .int .i64 a1_1, .bool a1_2, .int .i64 a1_3, .int .i64 a1_4, .int .i64 a1_5] 105 (0, 0)) (by (with_reducible repeat (first | refine blk_drewN ?_ _ | refine blk_drew ?_ | refine blk_alloc ?_ _)); exact BK156.out)) : gb157 ≠ gb156)); clear BK155; clear BK156; clear HB; have BK155 := n0_; have BK156 := n1_; have HB := n2_; have BK157 := n3_; have GW157 := n4_; have GE157 := n5_; have NB155_157 := n6_; have NB157_155 := n7_; have NB156_157 := n8_; have NB157_156 := n9_; clear n0_ n1_ n2_ n3_ n4_ n5_ n6_ n7_ n8_ n9_; clear hb hbox hg; have hnb7 := NB155_156.out; have hnc7 := NB156_155.out; have hnb8 := NB155_157.out; have hnc8 := NB157_155.out; have hcz9_0 : w6.cell? ⟨gb155, 0, none⟩ = some (.int .i64 a0_0) := (blk_cell BK155.out 0).trans rfl; have hcz9_1 : w6.cell? ⟨gb155, 1, none⟩ = some (.int .i64 a0_1) := (blk_cell BK155.out 1).trans rfl; have hcz9_2 : w6.cell? ⟨gb155, 2, none⟩ = some (.slice A0_2 l0_2.length c0_2) := (blk_cell BK155.out 2).trans rfl; have hcz9_3 : w6.cell? ⟨gb155, 3, none⟩ = some (.int .i64 a0_3) := (blk_cell BK155.out 3).trans rfl; have hcz9_4 : w6.cell? ⟨gb155, 4, none⟩ = some (.int .i64 a0_4) := (blk_cell BK155.out 4).trans rfl; have hcz9_5 : w6.cell? ⟨gb155, 5, none⟩ = some (.int .i64 a0_5) := (blk_cell BK155.out 5).trans rfl; have hcz9_6 : w6.cell? ⟨gb155, 6, none⟩ = some (.int .i64 a0_6) := (blk_cell BK155.out 6).trans rfl; have hcz9_7 : w6.cell? ⟨gb155, 7, none⟩ = some (.slice A0_7 l0_7.length c0_7) := (blk_cell BK155.out 7).trans rfl; have hfz9_0 := blk_frozen BK155.out 0; have hfz9_1 := blk_frozen BK155.out 1; have hfz9_2 := blk_frozen BK155.out 2; have hfz9_3 := blk_frozen BK155.out 3; have hfz9_4 := blk_frozen BK155.out 4; have hfz9_5 := blk_frozen BK155.out 5; have hfz9_6 := blk_frozen BK155.out 6; have hfz9_7 := blk_frozen BK155.out 7; have hnb10 := NB156_157.out; have hnc10 := NB157_156.out; have hcz11_0 : w6.cell? ⟨gb156, 0, none⟩ = some (.int .i64 a1_0) := (blk_cell BK156.out 0).trans rfl; have hcz11_1 : w6.cell? ⟨gb156, 1, none⟩ = some (.int .i64 a1_1) := (blk_cell BK156.out 1).trans rfl; have hcz11_2 : w6.cell? ⟨gb156, 2, none⟩ = some (.bool a1_2) := (blk_cell BK156.out 2).trans rfl; have hcz11_3 : w6.cell? ⟨gb156, 3, none⟩ = some (.int .i64 a1_3) := (blk_cell BK156.out 3).trans rfl; have hcz11_4 : w6.cell? ⟨gb156, 4, none⟩ = some (.int .i64 a1_4) := (blk_cell BK156.out 4).trans rfl; have hcz11_5 : w6.cell? ⟨gb156, 5, none⟩ = some (.int .i64 a1_5) := (blk_cell BK156.out 5).trans rfl; have hfz11_0 := blk_frozen BK156.out 0; have hfz11_1 := blk_frozen BK156.out 1; have hfz11_2 := blk_frozen BK156.out 2; have hfz11_3 := blk_frozen BK156.out 3; have hfz11_4 := blk_frozen BK156.out 4; have hfz11_5 := blk_frozen BK156.out 5) | ((with_reducible refine gate_callee (f := 85) rfl ?_); refine goesL_ (some 11) rfl rfl Try.func85 (by kernel_rfl) rfl #[.agg #[.int .i64 a0_0, .int .i64 a0_1, .slice A0_2 l0_2.length c0_2, .int .i64 a0_3, .int .i64 a0_4, .int .i64 a0_5, .int .i64 a0_6, .slice A0_7 l0_7.length c0_7], .agg #[.int .i64 a1_0, .int .i64 a1_1, .bool a1_2], .int .i64 a1_4] rfl (by (try simp only [List.map_toArray, List.map_cons, List.map_nil]); first | done | rfl | (simp only [List.length_drop, List.length_take]; rfl)) ?_; (with_reducible refine (pid_Next.calls k a0_0 a0_1 _ _ l0_2 a0_3 a0_4 a0_5 a0_6 _ _ l0_7 a1_0 a1_1 a1_2 a1_4 t158 t159 t160 t161 _ ?side1 ?side2 ?side3 ?side4 A3.out).mono ?_); (case side1 => repeat (first | exact (Kd.C_below HR0_2.out HB.out) | (with_reducible refine Kd.C_alloc ?_ _) | (with_reducible refine Kd.C_drewN ?_ _) | (with_reducible refine Kd.C_drew ?_))); (case side2 => exact HC0_2.out); (case side3 => repeat (first | exact (Kd.C_below HR0_7.out HB.out) | (with_reducible refine Kd.C_alloc ?_ _) | (with_reducible refine Kd.C_drewN ?_ _) | (with_reducible refine Kd.C_drew ?_))); (case side4 => exact HC0_7.out); rintro e w12 ⟨rfl, hb⟩; refine ⟨_, rfl, ?_⟩; have n0_ := Aside0.mk (blk_below (g := gb155) (o := .cells #[.int .i64 a0_0, .int .i64 a0_1, .slice A0_2 l0_2.length c0_2, .int .i64 a0_3, .int .i64 a0_4, .int .i64 a0_5, .int .i64 a0_6, .slice A0_7 l0_7.length c0_7] 27 (0, 0)) (by (with_reducible repeat (first | refine blk_drewN ?_ _ | refine blk_drew ?_ | refine blk_alloc ?_ _)); exact BK155.out) hb); have n1_ := Aside0.mk (blk_below (g := gb156) (o := .cells #[.int .i64 a1_0, .int .i64 a1_1, .bool a1_2, .int .i64 a1_3, .int .i64 a1_4, .int .i64 a1_5] 105 (0, 0)) (by (with_reducible repeat (first | refine blk_drewN ?_ _ | refine blk_drew ?_ | refine blk_alloc ?_ _)); exact BK156.out) hb); have n2_ := Aside0.mk (blk_below (g := gb157) (o := .cells #[.int .i64 0, .int .i64 0, .bool false] 29 (0, 0)) (by (with_reducible repeat (first | refine blk_drewN ?_ _ | refine blk_drew ?_ | refine blk_alloc ?_ _)); exact BK157.out) hb); have n3_ := Aside0.mk (below_step (by repeat (first | (with_reducible first | exact HB.out | apply below_alloc | apply pw_below_drewN | apply below_drew1 | refine below_set ?_ GE155.out | refine below_set ?_ GE156.out | refine below_set ?_ GE157.out) | exact HB.out)) hb); clear BK155; clear BK156; clear BK157; clear HB; have BK155 := n0_; have BK156 := n1_; have BK157 := n2_; have HB := n3_; clear n0_ n1_ n2_ n3_; (try clear hb); (try clear hb2); (try clear hk); (try clear hi); have hcz13_0 : w12.cell? ⟨gb157, 0, none⟩ = some (.int .i64 0) := (blk_cell BK157.out 0).trans rfl; have hcz13_1 : w12.cell? ⟨gb157, 1, none⟩ = some (.int .i64 0) := (blk_cell BK157.out 1).trans rfl; have hcz13_2 : w12.cell? ⟨gb157, 2, none⟩ = some (.bool false) := (blk_cell BK157.out 2).trans rfl; have hfz13_0 := blk_frozen BK157.out 0; have hfz13_1 := blk_frozen BK157.out 1; have hfz13_2 := blk_frozen BK157.out 2))
 refine bodyPost_ret (results_ct rfl _ _ gb157 29 #[.int .i64 t158, .int .i64 t159, .bool t160] (0, 0) _ rfl (by (with_reducible repeat (first | refine blk_drewN ?_ _ | refine blk_drew ?_ | refine blk_alloc ?_ _)); refine blk_put (cs := #[.int .i64 t158, .int .i64 t159, .bool false]) ?_ 2 _ rfl; (with_reducible repeat (first | refine blk_drewN ?_ _ | refine blk_drew ?_ | refine blk_alloc ?_ _)); refine blk_put (cs := #[.int .i64 t158, .int .i64 0, .bool false]) ?_ 1 _ rfl; (with_reducible repeat (first | refine blk_drewN ?_ _ | refine blk_drew ?_ | refine blk_alloc ?_ _)); refine blk_put (cs := #[.int .i64 0, .int .i64 0, .bool false]) ?_ 0 _ rfl; (with_reducible repeat (first | refine blk_drewN ?_ _ | refine blk_drew ?_ | refine blk_alloc ?_ _)); exact BK157.out) Try.underlying29 rfl (by kernel_rfl)) rfl ?_
 exact ⟨by first | rfl | (simp [errW_none, errW_some] <;> rfl) | (simp [*, errW_none, errW_some] <;> rfl), by repeat (first | (with_reducible first | exact HB.out | apply below_alloc | apply pw_below_drewN | apply below_drew1 | refine below_set ?_ GE155.out | refine below_set ?_ GE156.out | refine below_set ?_ GE157.out) | exact HB.out)⟩
/-! ### sched_At: function 98 -/
def sched_At.f (a0 : Int) (a1 : Int) : Option (Int) := if a0 = 0 then (none) else (some (Int.tmod (wrap64 ((Int.tmod a1 a0) + a0)) a0))
set_option maxHeartbeats 8000000 in
set_option maxRecDepth 100000 in
theorem sched_At.calls (a0 : Int) (a1 : Int) (r : Int) (w : World) (h : sched_At.f a0 a1 = some r) :
  Calls Try.prog 98 #[.int .i64 a0, .int .i64 a1] w fun e w' => e = .returned (.int .i64 r) ∧ Drawn0 w w' := by
 have H : (if a0 = 0 then (none) else (some (Int.tmod (wrap64 ((Int.tmod a1 a0) + a0)) a0))) = some r := h
 clear h
 by_cases c3 : a0 = 0
 ·rw [if_pos c3] at H
  exact absurd H (by simp)
 ·rw [if_neg c3] at H
  have c3b0 : (a0 == 0) = false := beq_eq_false_iff_ne.mpr c3
  have c3b1 : (a0 != 0) = true := bne_iff_ne.mpr c3
  obtain rfl := Option.some.inj H
  go_enter Try.func98, Try.ntmps98
  go_wp2
  go_ret
  exact ⟨by first | rfl | (simp; done) | (simp [*]; done), by repeat (first | exact Drawn0.refl _ | apply Drawn0.step)⟩

-- NOT PRINTED: function 99 (api_Slot_99)
/-! ### sched_Want: function 87 -/
attribute [local go_sem] Oper.semAt_some
def backS (zs : List S58) (at_ : Int) : Int := match zs.reverse.find? (fun s => decide (s.f0 ≤ at_)) with
 | some s => s.f1
 | none => 0
def sched_Want.f (a0 : Int) (l1 : List (S58)) (a2 : Int) : Option (Int) := (sched_At.f a0 a2).bind fun t => some (backS l1 t)

def uptoS {α : Type} (f : Nat → α) (k : Nat) : List α := (List.range k).map f
theorem uptoS_succ {α : Type} (f : Nat → α) (k : Nat) : uptoS f (k + 1) = uptoS f k ++ [f k] := by simp [uptoS, List.range_succ]
theorem uptoS_length {α : Type} (f : Nat → α) (k : Nat) : (uptoS f k).length = k := by simp [uptoS]
def fSl (zs : List S58) (len : Nat) (j : Nat) : Int × S58 := ((len : Int) - 1 - (j : Int), rd_T58 zs ((len : Int) - 1 - (j : Int)))
theorem fSl_at (zs : List S58) (len : Nat) (x : Int) (h1 : x < (len : Int)) : fSl zs len ((len : Int) - 1 - x).toNat = (x, rd_T58 zs x) := by
 unfold fSl
 rw [Int.toNat_of_nonneg (by omega)]
 rw [show (len : Int) - 1 - ((len : Int) - 1 - x) = x by omega]
theorem uptoS_step (zs : List S58) (len : Nat) (x : Int) (h0 : 0 ≤ x) (h1 : x < (len : Int)) :
  uptoS (fSl zs len) ((len : Int) - 1 - (x - 1)).toNat = uptoS (fSl zs len) ((len : Int) - 1 - x).toNat ++ [(x, rd_T58 zs x)] := by
 rw [show ((len : Int) - 1 - (x - 1)).toNat = ((len : Int) - 1 - x).toNat + 1 by omega, uptoS_succ, fSl_at zs len x h1]

set_option maxRecDepth 100000 in
set_option maxHeartbeats 2000000 in
theorem backS1_in (F : Fence) (n : Nat) (h7 : F.fn 106) (hro : F.round = none) (hn : 1 ≤ n) (l Bs : Nat) (A : Option Addr) (len cap : Nat) (zs : List S58) (w0 : World) (hBs0 : Bs < w0.heap.size)
  (hC : Kd.C k58 w0 A len zs) (J Jx : List (Int × S58) → World → Prop)
  (hY : ∀ pre x W, J pre W → pre.length < len → YieldAt F (n - 1) Try.prog l #[.int .i64 x.1, .agg #[.int .i64 x.2.f0, .int .i64 x.2.f1]] W fun e W' =>
   (e = .returned (.bool true) ∧ J (pre ++ [x]) W' ∧ Below w0.heap.size W W') ∨ (e = .returned (.bool false) ∧ Jx (pre ++ [x]) W'))
  (W : World) (hW : Below w0.heap.size w0 W) (hBs : w0.cell? ⟨Bs, 0, none⟩ = some (.slice A len cap)) (h0 : J [] W) :
  CallsIn F n Try.prog 106 #[.func (.yield l) #[] #[], .pointer (some ⟨Bs, 0, none⟩)] W fun e W' => (∃ v, e = .returned v) ∧
   ((∃ ys, ys = uptoS (fSl zs len) len ∧ J ys W') ∨ (∃ pre, (∃ k, k ≤ len ∧ pre = uptoS (fSl zs len) k) ∧ Jx pre W')) := by
 have hlen : len ≤ 9223372036854775807 := hC.2.1
 have hb0 := (hW.cell (p := ⟨Bs, 0, none⟩) hBs0).trans hBs
 refine callsIn_of_wp Try.func106 rfl h7 ?_ hro
 simp only [Try.ntmps106, List.size_toArray, List.length_cons, List.length_nil, Nat.reduceAdd, Nat.reduceSub, Array.replicate_succ, Array.replicate_zero, List.push_toArray, List.append_toArray, List.nil_append, List.cons_append]
 have hz0 : (0 : Int) ≤ (len : Int) := by omega
 have hz1 : (len : Int) ≤ 9223372036854775807 := by omega
 gi_wp2
 gi_loopw [3] (fun i wr => ∃ x : Int, i = .int .i64 x ∧ -1 ≤ x ∧ x < (len : Int) ∧ J (uptoS (fSl zs len) ((len : Int) - 1 - x).toNat) wr ∧ Below w0.heap.size w0 wr)
  (fun i _ => (intOf i + 1).toNat)
 case atStart => exact ⟨(len : Int) - 1, by first | rfl | simp, by omega, by omega, by rw [show ((len : Int) - 1 - ((len : Int) - 1)).toNat = 0 by omega]; exact h0, hW⟩
 case round =>
  obtain ⟨x, rfl, hx0, hx1, hJs, hnx⟩ := hrel
  have hbs := (hnx.cell (p := ⟨Bs, 0, none⟩) hBs0).trans hBs
  have hCr := Kd.C_below hC hnx
  by_cases hlt : 0 ≤ x
  ·obtain ⟨ad, e, hc0, hc1⟩ := at_T58 hCr x hlt hx1
   cases e
   obtain ⟨fn, tmps, assign, body, hy, hR⟩ := hY _ (x, rd_T58 zs x) wr hJs (by rw [uptoS_length]; omega)
   dsimp only at hy
   gi_wp2
   refine hR.mono ?_
   rintro e W3 (⟨rfl, hJ3, hk3⟩ | ⟨rfl, hJx3⟩)
   ·gi_wp2
    go_roundw
    case rel => exact ⟨x - 1, by first | rfl | simp, by omega, by omega, by rw [uptoS_step zs len x hlt hx1]; exact hJ3, hnx.trans hk3⟩
    case measure => simp [intOf]; omega
   ·gi_wp2
    refine bodyPost_ret (results_none rfl _ _ _) rfl ?_
    exact ⟨⟨_, rfl⟩, .inr ⟨_, ⟨((len : Int) - 1 - (x - 1)).toNat, by omega, (uptoS_step zs len x hlt hx1).symm⟩, hJx3⟩⟩
  ·obtain rfl : x = -1 := by omega
   gi_wp2
   go_end0
   rw [show ((len : Int) - 1 - -1).toNat = len by omega] at hJs
   exact ⟨⟨_, rfl⟩, .inl hJs⟩

set_option maxHeartbeats 1000000 in
theorem backS_in (F : Fence) (n : Nat) (h5 : F.fn 99) (hro : F.round = none) (a : Option Addr) (len cap : Nat) (w : World) :
  CallsIn F n Try.prog 99 #[.slice a len cap] w fun e w' => e = .returned (.func (.func 106) #[] #[.pointer (some ⟨w.heap.size, 0, none⟩)]) ∧ w' = w.alloc (.cells #[.slice a len cap] 25) := by
 refine callsIn_of_wp Try.func99 rfl h5 ?_ hro
 simp only [Try.ntmps99, List.size_toArray, List.length_cons, List.length_nil, Nat.reduceAdd, Nat.reduceSub, Array.replicate_succ, Array.replicate_zero, List.push_toArray, List.append_toArray, List.nil_append, List.cons_append]
 gi_wp2
 go_ret
 exact ⟨rfl, rfl⟩

theorem backS_stops (F : Fence) (n : Nat) (h8 : F.fn 106) (hro : F.round = none) (hn : 1 ≤ n) (Bs : Nat) (A : Option Addr) (len cap : Nat) (zs : List S58) (w : World) (hBs : Bs < w.heap.size)
  (hc : w.cell? ⟨Bs, 0, none⟩ = some (.slice A len cap)) (hC : Kd.C k58 w A len zs) :
  SeqStopsK F n Try.prog 106 #[.pointer (some ⟨Bs, 0, none⟩)] (fun x : Int × S58 => #[Value.int .i64 x.1, .agg #[.int .i64 x.2.f0, .int .i64 x.2.f1]]) (Below w.heap.size) (fun ys => ys = uptoS (fSl zs len) len)
   (fun pre => ∃ k, k ≤ len ∧ pre = uptoS (fSl zs len) k) len w := fun l J Jx W hW _ _ hY h0 =>
 backS1_in F n h8 hro hn l Bs A len cap zs w hBs hC J Jx hY W hW hc h0

theorem backS_none (zs : List S58) (at_ : Int) (h : ∀ p ∈ uptoS (fSl zs zs.length) zs.length, ¬ p.2.f0 ≤ at_) : backS zs at_ = 0 := by
 unfold backS
 rw [List.find?_eq_none.2 ?_]
 intro s hs
 rw [List.mem_reverse, List.mem_iff_getElem] at hs
 obtain ⟨i, hi, rfl⟩ := hs
 have := h (fSl zs zs.length (zs.length - 1 - i)) (by simp only [uptoS, List.mem_map, List.mem_range]; exact ⟨_, by omega, rfl⟩)
 simp only [fSl] at this
 rw [show (zs.length : Int) - 1 - ((zs.length - 1 - i : Nat) : Int) = (i : Int) by omega] at this
 simpa [rd_T58, hi] using this

theorem backS_some (zs : List S58) (at_ : Int) (k : Nat) (hk : k < zs.length) (h : ∀ p ∈ uptoS (fSl zs zs.length) k, ¬ p.2.f0 ≤ at_) (hp : (fSl zs zs.length k).2.f0 ≤ at_) : backS zs at_ = (fSl zs zs.length k).2.f1 := by
 unfold backS
 have e : zs.reverse[k]? = some (fSl zs zs.length k).2 := by
  rw [List.getElem?_reverse hk]
  simp only [fSl, rd_T58]
  rw [show ((zs.length : Int) - 1 - (k : Int)).toNat = zs.length - 1 - k by omega]
  rw [List.getD_eq_getElem?_getD, List.getElem?_eq_getElem (by omega)]
  rfl
 rw [show zs.reverse.find? (fun s => decide (s.f0 ≤ at_)) = some (fSl zs zs.length k).2 from ?_]
 rw [List.find?_eq_some_iff_getElem]
 refine ⟨by simpa using hp, k, by simpa using hk, ?_, ?_⟩
 ·rw [List.getElem?_eq_getElem (by simpa using hk)] at e
  exact Option.some.inj e
 ·intro j hj
  have := h (fSl zs zs.length j) (by simp only [uptoS, List.mem_map, List.mem_range]; exact ⟨_, hj, rfl⟩)
  simp only [List.getElem_reverse]
  simp only [fSl, rd_T58] at this
  rw [show ((zs.length : Int) - 1 - (j : Int)).toNat = zs.length - 1 - j by omega] at this
  rw [List.getD_eq_getElem?_getD, List.getElem?_eq_getElem (by omega)] at this
  simpa using this

def SwIni (t : Int) (pre : List (Int × S58)) : Prop := ∀ p ∈ pre, ¬ p.2.f0 ≤ t
def SwLast (t : Int) (pre : List (Int × S58)) (v : Int) : Prop := ∃ ini last, pre = ini ++ [last] ∧ (∀ p ∈ ini, ¬ p.2.f0 ≤ t) ∧ last.2.f0 ≤ t ∧ v = last.2.f1
theorem swIni_snoc {t : Int} {pre : List (Int × S58)} {x : Int × S58} (h : SwIni t pre) (hx : ¬ x.2.f0 ≤ t) : SwIni t (pre ++ [x]) :=
 fun p hp => (List.mem_append.1 hp).elim (h p) (fun e => by rw [List.mem_singleton.1 e]; exact hx)
/-- BLOCK B is the box of an element. -/
def BlkS (W : World) (B : Nat) (s : S58) : Prop := W.heap[B]? = some (.cells #[.int .i64 s.f0, .int .i64 s.f1] 58 (0, 0))
theorem blkS_own (B : Nat) (s : S58) : Own (fun (_ : Unit) W => BlkS W B s) := fun _ X Y row hs hg hrow => (grownBy_keeps_cells hg hrow hs rfl).trans hs

set_option maxRecDepth 100000 in
set_option maxHeartbeats 2000000 in
theorem sched_Want.calls (a0 : Int) (A1 : Option Addr) (c1 : Nat) (l1 : List (S58)) (a2 : Int) (r : Int) (w : World) (hr1 : Kd.C k58 w A1 l1.length l1) (hc1 : l1.length ≤ c1) (h : sched_Want.f a0 l1 a2 = some r) :
  Calls Try.prog 87 #[.int .i64 a0, .slice A1 l1.length c1, .int .i64 a2] w fun e w' => e = .returned (.int .i64 r) ∧ Below w.heap.size w w' := by
 obtain ⟨t, ht0, hr⟩ := Option.bind_eq_some_iff.mp h
 obtain rfl := Option.some.inj hr
 have ht := Aside0.mk ht0
 clear ht0 hr h
 have HR1 := Aside0.mk hr1
 clear hr1
 refine (callsIn_wide (n := 3)).1 ?_
 have h1 : 1 ≤ 3 := by omega
 have hro : Fence.wide.round = none := rfl
 refine callsIn_of_wp_marks Try.func87 rfl trivial ?_ hro
 simp only [Try.ntmps87, List.size_toArray, List.length_cons, List.length_nil, Nat.reduceAdd, Nat.reduceSub, Array.replicate_succ, Array.replicate_zero, List.push_toArray, List.append_toArray, List.nil_append, List.cons_append]
 gi_wp2_with (first | (refine ⟨trivial, ?_⟩; gi_at_call 98; refine (callsIn_wide.2 (sched_At.calls a0 a2 t _ ht.out)).mono ?_; rintro e w' ⟨rfl, ⟨nd, rfl⟩⟩) | (refine ⟨trivial, ?_⟩; gi_at_call 99; refine (backS_in _ 2 trivial hro _ _ _ _).mono ?_; rintro e w' ⟨rfl, rfl⟩))
 have bR : Boxed (((((w.alloc (.cells #[.int .i64 0] 3)).drewN nd).alloc (.cells #[.int .i64 t] 2)).alloc (.cells #[.slice A1 l1.length c1] 25))) w.heap.size 3 (.int .i64 0) := ((show Boxed ((w.alloc (.cells #[.int .i64 0] 3)).drewN nd) w.heap.size 3 (.int .i64 0) from Boxed.new w 3 (.int .i64 0)).alloc _).alloc _
 have bT : Boxed (((((w.alloc (.cells #[.int .i64 0] 3)).drewN nd).alloc (.cells #[.int .i64 t] 2)).alloc (.cells #[.slice A1 l1.length c1] 25))) (w.heap.size + 1) 2 (.int .i64 t) := by
  have z := (Boxed.new ((w.alloc (.cells #[.int .i64 0] 3)).drewN nd) 2 (.int .i64 t)).alloc (.cells #[.slice A1 l1.length c1] 25)
  exact (show (w.alloc (.cells #[.int .i64 0] 3)).heap.size = w.heap.size + 1 from World.size_alloc _ _) ▸ z
 have bN : Boxed (((((w.alloc (.cells #[.int .i64 0] 3)).drewN nd).alloc (.cells #[.int .i64 t] 2)).alloc (.cells #[.slice A1 l1.length c1] 25))) (w.heap.size + 1 + 1) 25 (.slice A1 l1.length c1) := by
  have z := Boxed.new (((w.alloc (.cells #[.int .i64 0] 3)).drewN nd).alloc (.cells #[.int .i64 t] 2)) 25 (.slice A1 l1.length c1)
  rw [World.size_alloc] at z
  exact (show (w.alloc (.cells #[.int .i64 0] 3)).heap.size = w.heap.size + 1 from World.size_alloc _ _) ▸ z
 have hB0 : Below w.heap.size w (((((w.alloc (.cells #[.int .i64 0] 3)).drewN nd).alloc (.cells #[.int .i64 t] 2)).alloc (.cells #[.slice A1 l1.length c1] 25))) := ((pw_below_drewN ((Below.refl _ w).alloc (Nat.le_refl _) _) nd).alloc (show w.heap.size ≤ (w.alloc (.cells #[.int .i64 0] 3)).heap.size by rw [World.size_alloc]; omega) _).alloc (by rw [World.size_alloc]; exact (show w.heap.size ≤ (w.alloc (.cells #[.int .i64 0] 3)).heap.size + 1 by rw [World.size_alloc]; omega)) _
 have hsz : (((((w.alloc (.cells #[.int .i64 0] 3)).drewN nd).alloc (.cells #[.int .i64 t] 2)).alloc (.cells #[.slice A1 l1.length c1] 25))).heap.size = w.heap.size + 3 := by
  rw [World.size_alloc, World.size_alloc]
  exact congrArg (· + 1 + 1) (World.size_alloc w (.cells #[.int .i64 0] 3))
 obtain ⟨W0, hW0⟩ : ∃ W0, (((((w.alloc (.cells #[.int .i64 0] 3)).drewN nd).alloc (.cells #[.int .i64 t] 2)).alloc (.cells #[.slice A1 l1.length c1] 25))) = W0 := ⟨_, rfl⟩
 rw [hW0] at bR bT bN hB0 hsz ⊢
 clear hW0
 have hC0 := Kd.C_below HR1.out hB0
 refine wpIn_rangeFunc_ownH hro h1 (gf := 106) (lb := #[.pointer (some ⟨w.heap.size + 1 + 1, 0, none⟩)]) rfl trivial (enters_of Try.func106 (by kernel_rfl) rfl)
  (backS_stops Fence.wide 2 trivial hro (by omega) (w.heap.size + 1 + 1) A1 l1.length c1 l1 W0 (by omega) bN.cell hC0) belowK_t (belowK_b (Nat.le_refl _)) (Below.refl _ _) (fun _ => rfl)
  (fun pre W => (SwIni t pre ∧ Boxed W w.heap.size 3 (.int .i64 0) ∧ Boxed W (w.heap.size + 1) 2 (.int .i64 t)) ∧ Below w.heap.size w W ∧ W0.heap.size ≤ W.heap.size)
  (fun c pre W => (c = .ret ∧ ∃ v, SwLast t pre v ∧ Boxed W w.heap.size 3 (.int .i64 v)) ∧ Below w.heap.size w W)
  (OwnFrom.and (OwnFrom.and (ownFrom_pure _ _) (OwnFrom.and (Own.from (boxed_own _ _ _) _) (Own.from (boxed_own _ _ _) _))) (OwnFrom.and (ownFrom_below (Nat.le_refl _) (by omega)) (fun s X Y row hs hg hr => Nat.le_trans hs hg.size)))
  (fun c => OwnFrom.and (Own.from (fun s X Y row hs hg hr => by obtain ⟨hc, v, e1, e4⟩ := hs; exact ⟨hc, v, e1, boxed_own w.heap.size 3 (fun (_ : Unit) => Value.int .i64 v) () X Y row e4 hg hr⟩) _) (ownFrom_below (Nat.le_refl _) (by omega)))
  ⟨⟨fun _ h => (by cases h), bR, bT⟩, hB0, Nat.le_refl _⟩
  (fun x a' W => ∃ Bx, W0.heap.size ≤ Bx ∧ BlkS W Bx x.2 ∧ a' = { tmps := #[.int .i64 a0, .slice A1 l1.length c1, .int .i64 a2, undef, undef, undef, .pointer (some ⟨w.heap.size, 0, none⟩), .pointer (some ⟨w.heap.size + 1, 0, none⟩), undef, .pointer (some ⟨Bx, 0, none⟩), .int .i64 a0, .int .i64 a2, .int .i64 t, .slice A1 l1.length c1, .func (.func 106) #[] #[.pointer (some ⟨w.heap.size + 1 + 1, 0, none⟩)], .int .i64 x.1, .agg #[.int .i64 x.2.f0, .int .i64 x.2.f1], undef, undef, undef, undef, undef, undef], defers := [] })
  (fun x a' _ X Y row hs hg hr => by obtain ⟨Bx, h1, h2, h3⟩ := hs; exact ⟨Bx, h1, blkS_own Bx x.2 () X Y row h2 hg (fun r e => (hr r e).2), h3⟩)
  ?assign ?body ?done ?stop
 case assign =>
  rintro l pre x W K ⟨⟨hp0, bR1, bT1⟩, hB1, hz0⟩ hK
  have hp := Aside0.mk hp0
  have hz1 := Aside0.mk hz0
  have hs1 := Aside0.mk hsz
  have hK1 := Aside0.mk hK
  clear hp0 hz0 hsz hK
  have hu := Try.underlying58
  gi_wp2
  exact hK1.out _ _ ((KeepsOthers.alloc _ _).from _) ((Below.refl _ W).alloc hz1.out _) ⟨⟨hp.out, bR1.alloc _, bT1.alloc _⟩, hB1.alloc hB1.size _, by rw [World.size_alloc]; have := hz1.out; omega⟩ ⟨W.heap.size, hz1.out, blk_new W _, rfl⟩
 case body =>
  rintro l pre x a' W hl ⟨r, hr⟩ ⟨⟨hp0, bR1, bT1⟩, hB1, hz0⟩ ⟨Bx, hBx, bX, rfl⟩ hlt
  have hp := Aside0.mk hp0
  have hz1 := Aside0.mk hz0
  have hs1 := Aside0.mk hsz
  clear hp0 hz0 hsz
  have hx0 := blk_cell bX 0
  have hx1 := blk_cell bX 1
  simp only [List.getElem?_toArray, List.getElem?_cons_zero, List.getElem?_cons_succ] at hx0 hx1
  have cT := bT1.cell
  have cR := bR1.cell
  have fR := bR1.frozen
  have hu := Try.underlying58
  by_cases hle : x.2.f0 ≤ t
  ·gi_wp2
   exact ⟨(KeepsOthers.setCell _ _ _).from _, ⟨rfl, x.2.f1, ⟨pre, x, rfl, hp.out, hle, rfl⟩, bR1.set _⟩, hB1.setCell (p := ⟨w.heap.size, 0, none⟩) (Nat.le_refl _) _⟩
  ·have hle' := Aside0.mk hle
   have hleb : decide (x.2.f0 ≤ t) = false := decide_eq_false hle
   clear hle
   gi_wp2
   exact ⟨KeepsFrom.refl _ _, Below.refl _ _, ⟨swIni_snoc hp.out (by have := hle'.out; omega), bR1, bT1⟩, hB1, hz1.out⟩
 case done =>
  rintro D ys W hD rfl ⟨⟨hp, bR1, bT1⟩, hB1, hz1⟩ hK
  have cR := bR1.cell
  have fR := bR1.frozen
  have hfin := Aside0.mk (backS_none l1 t hp)
  have hs1 := Aside0.mk hsz
  clear hp hz1 hsz
  gi_wp2
  have hK' := (KeepsOthers.setCell W ⟨w.heap.size, 0, none⟩ (.int .i64 0)).same D _ hK rfl
  refine ⟨by simp, .inl ⟨_, _, rfl, run_takeDeferred hK', ?_⟩⟩
  have hc5 := cell_kept (World.cell?_setCell_same' W ⟨w.heap.size, 0, none⟩ (.int .i64 0) (by rw [cR]; rfl)) (grownBy_putObj' _ D (.deferred none)) (fun r e => by cases e; exact ⟨_, hK', rfl⟩)
  have hD' : w.heap.size ≤ D := by have := hs1.out; omega
  refine ⟨.int .i64 0, ?_, by rw [hfin.out], (hB1.setCell (p := ⟨w.heap.size, 0, none⟩) (Nat.le_refl _) _).trans (belowK_b (w := w) (Nat.le_refl _) _ D _ _ hD' hK' rfl rfl)⟩
  simp [results, Try.f87, go_sem, hc5]
 case stop =>
  rintro D c pre W hD ⟨k, hk, rfl⟩ ⟨⟨rfl, v, ⟨ini, last, e1, e2, e3, rfl⟩, bR1⟩, hB1⟩ hK
  have cR := bR1.cell
  obtain ⟨k', rfl⟩ : ∃ k', k = k' + 1 := by
   cases k with
   | zero => simp [uptoS] at e1
   | succ k' => exact ⟨k', rfl⟩
  rw [uptoS_succ] at e1
  obtain ⟨rfl, e5⟩ := List.append_inj' e1 rfl
  obtain rfl : fSl l1 l1.length k' = last := by simpa using e5
  have hfin := Aside0.mk (backS_some l1 t k' (by omega) e2 e3)
  have hs1 := Aside0.mk hsz
  clear e1 e2 e3 e5 hsz
  gi_wp2
  refine ⟨by simp, .inl ⟨_, _, rfl, run_takeDeferred hK, ?_⟩⟩
  have hc5 := cell_kept cR (grownBy_putObj' _ D (.deferred none)) (fun r e => by cases e; exact ⟨_, hK, rfl⟩)
  have hD' : w.heap.size ≤ D := by have := hs1.out; omega
  refine ⟨.int .i64 (fSl l1 l1.length k').2.f1, ?_, by rw [hfin.out], hB1.trans (belowK_b (w := w) (Nat.le_refl _) W D _ _ hD' hK rfl rfl)⟩
  simp [results, Try.f87, go_sem, hc5]
/-! ### policy_kinds_4: function 86 -/
def policy_kinds_4.f (a0_0 : Int) (a0_1 : Int) (l0_2 : List (S56)) (a0_3 : Int) (a0_4 : Int) (a0_5 : Int) (a0_6 : Int) (l0_7 : List (S58)) (a1_0 : Int) (a1_1 : Int) (a1_2 : Bool) (a1_3 : Int) (a1_4 : Int) (a1_5 : Int) : Option (Int) := (sched_Want.f a0_6 l0_7 a1_5).bind fun t164 => (some t164)
set_option maxHeartbeats 8000000 in
set_option maxRecDepth 100000 in
theorem policy_kinds_4.calls (a0_0 : Int) (a0_1 : Int) (A0_2 : Option Addr) (c0_2 : Nat) (l0_2 : List (S56)) (a0_3 : Int) (a0_4 : Int) (a0_5 : Int) (a0_6 : Int) (A0_7 : Option Addr) (c0_7 : Nat) (l0_7 : List (S58)) (a1_0 : Int) (a1_1 : Int) (a1_2 : Bool) (a1_3 : Int) (a1_4 : Int) (a1_5 : Int) (r : Int) (w : World) (hr0_2 : Kd.C k56 w A0_2 l0_2.length l0_2) (hc0_2 : l0_2.length ≤ c0_2) (hr0_7 : Kd.C k58 w A0_7 l0_7.length l0_7) (hc0_7 : l0_7.length ≤ c0_7) (h : policy_kinds_4.f a0_0 a0_1 l0_2 a0_3 a0_4 a0_5 a0_6 l0_7 a1_0 a1_1 a1_2 a1_3 a1_4 a1_5 = some r) :
  Calls Try.prog 86 #[.agg #[.int .i64 a0_0, .int .i64 a0_1, .slice A0_2 l0_2.length c0_2, .int .i64 a0_3, .int .i64 a0_4, .int .i64 a0_5, .int .i64 a0_6, .slice A0_7 l0_7.length c0_7], .agg #[.int .i64 a1_0, .int .i64 a1_1, .bool a1_2, .int .i64 a1_3, .int .i64 a1_4, .int .i64 a1_5]] w fun e w' => e = .returned (.int .i64 r) ∧ Below w.heap.size w w' := by
 have hu27 := Try.underlying27
 have hu105 := Try.underlying105
 have HR0_2 := Aside0.mk hr0_2
 have HC0_2 := Aside0.mk hc0_2
 clear hr0_2 hc0_2
 have HR0_7 := Aside0.mk hr0_7
 have HC0_7 := Aside0.mk hc0_7
 clear hr0_7 hc0_7
 have HB := Aside0.mk (Below.refl w.heap.size w)
 have H : ((sched_Want.f a0_6 l0_7 a1_5).bind fun t164 => (some t164)) = some r := h
 clear h
 replace H := Option.bind_eq_some_iff.mp H
 obtain ⟨t164, A30, H⟩ := H
 replace H : (some t164) = some r := H
 have A3 := Aside0.mk A30
 clear A30
 obtain rfl := Option.some.inj H
 go_enter Try.func86, Try.ntmps86
 go_wp2_with (first | ((with_reducible refine gate_dst (N := 2) rfl ?_); refine box_event ?hg (N := 2) ?hd (cs := #[.int .i64 a0_0, .int .i64 a0_1, .slice A0_2 l0_2.length c0_2, .int .i64 a0_3, .int .i64 a0_4, .int .i64 a0_5, .int .i64 a0_6, .slice A0_7 l0_7.length c0_7]) (t := 27) ?hr ?_; (case hd => rfl); (case hg => rfl); (case hr => first | (go_simp; done) | (go_simp; rfl)); intro gb162 hg w4 hbox hb; have n0_ := Aside0.mk (below_step (by repeat (first | (with_reducible first | exact HB.out | apply below_alloc | apply pw_below_drewN | apply below_drew1) | exact HB.out)) hb); have n1_ := Aside0.mk (hbox); have n2_ := Aside0.mk ((by rw [hg]; exact (below_size (by repeat (first | (with_reducible first | exact HB.out | apply below_alloc | apply pw_below_drewN | apply below_drew1) | exact HB.out))) : w.heap.size ≤ gb162)); have n3_ := Aside0.mk ((by rw [hg]; exact (below_size (by repeat (first | (with_reducible first | exact HB.out | apply below_alloc | apply pw_below_drewN | apply below_drew1) | exact HB.out))) : w.heap.size ≤ gb162)); clear HB; have HB := n0_; have BK162 := n1_; have GW162 := n2_; have GE162 := n3_; clear n0_ n1_ n2_ n3_; clear hb hbox hg) | ((with_reducible refine gate_dst (N := 3) rfl ?_); refine box_event ?hg (N := 3) ?hd (cs := #[.int .i64 a1_0, .int .i64 a1_1, .bool a1_2, .int .i64 a1_3, .int .i64 a1_4, .int .i64 a1_5]) (t := 105) ?hr ?_; (case hd => rfl); (case hg => rfl); (case hr => first | (go_simp; done) | (go_simp; rfl)); intro gb163 hg w5 hbox hb; have n0_ := Aside0.mk (blk_below (g := gb162) (o := .cells #[.int .i64 a0_0, .int .i64 a0_1, .slice A0_2 l0_2.length c0_2, .int .i64 a0_3, .int .i64 a0_4, .int .i64 a0_5, .int .i64 a0_6, .slice A0_7 l0_7.length c0_7] 27 (0, 0)) (by (with_reducible repeat (first | refine blk_drewN ?_ _ | refine blk_drew ?_ | refine blk_alloc ?_ _)); exact BK162.out) hb); have n1_ := Aside0.mk (below_step (by repeat (first | (with_reducible first | exact HB.out | apply below_alloc | apply pw_below_drewN | apply below_drew1 | refine below_set ?_ GE162.out) | exact HB.out)) hb); have n2_ := Aside0.mk (hbox); have n3_ := Aside0.mk ((by rw [hg]; exact (below_size (by repeat (first | (with_reducible first | exact HB.out | apply below_alloc | apply pw_below_drewN | apply below_drew1 | refine below_set ?_ GE162.out) | exact HB.out))) : w.heap.size ≤ gb163)); have n4_ := Aside0.mk ((by rw [hg]; exact (below_size (by repeat (first | (with_reducible first | exact HB.out | apply below_alloc | apply pw_below_drewN | apply below_drew1 | refine below_set ?_ GE162.out) | exact HB.out))) : w.heap.size ≤ gb163)); have n5_ := Aside0.mk ((by rw [hg]; exact Nat.ne_of_lt (blk_lt (g := gb162) (o := .cells #[.int .i64 a0_0, .int .i64 a0_1, .slice A0_2 l0_2.length c0_2, .int .i64 a0_3, .int .i64 a0_4, .int .i64 a0_5, .int .i64 a0_6, .slice A0_7 l0_7.length c0_7] 27 (0, 0)) (by (with_reducible repeat (first | refine blk_drewN ?_ _ | refine blk_drew ?_ | refine blk_alloc ?_ _)); exact BK162.out)) : gb162 ≠ gb163)); have n6_ := Aside0.mk ((by rw [hg]; exact Nat.ne_of_gt (blk_lt (g := gb162) (o := .cells #[.int .i64 a0_0, .int .i64 a0_1, .slice A0_2 l0_2.length c0_2, .int .i64 a0_3, .int .i64 a0_4, .int .i64 a0_5, .int .i64 a0_6, .slice A0_7 l0_7.length c0_7] 27 (0, 0)) (by (with_reducible repeat (first | refine blk_drewN ?_ _ | refine blk_drew ?_ | refine blk_alloc ?_ _)); exact BK162.out)) : gb163 ≠ gb162)); clear BK162; clear HB; have BK162 := n0_; have HB := n1_; have BK163 := n2_; have GW163 := n3_; have GE163 := n4_; have NB162_163 := n5_; have NB163_162 := n6_; clear n0_ n1_ n2_ n3_ n4_ n5_ n6_; clear hb hbox hg; have hnb6 := NB162_163.out; have hnc6 := NB163_162.out; have hcz7_0 : w5.cell? ⟨gb162, 0, none⟩ = some (.int .i64 a0_0) := (blk_cell BK162.out 0).trans rfl; have hcz7_1 : w5.cell? ⟨gb162, 1, none⟩ = some (.int .i64 a0_1) := (blk_cell BK162.out 1).trans rfl; have hcz7_2 : w5.cell? ⟨gb162, 2, none⟩ = some (.slice A0_2 l0_2.length c0_2) := (blk_cell BK162.out 2).trans rfl; have hcz7_3 : w5.cell? ⟨gb162, 3, none⟩ = some (.int .i64 a0_3) := (blk_cell BK162.out 3).trans rfl; have hcz7_4 : w5.cell? ⟨gb162, 4, none⟩ = some (.int .i64 a0_4) := (blk_cell BK162.out 4).trans rfl; have hcz7_5 : w5.cell? ⟨gb162, 5, none⟩ = some (.int .i64 a0_5) := (blk_cell BK162.out 5).trans rfl; have hcz7_6 : w5.cell? ⟨gb162, 6, none⟩ = some (.int .i64 a0_6) := (blk_cell BK162.out 6).trans rfl; have hcz7_7 : w5.cell? ⟨gb162, 7, none⟩ = some (.slice A0_7 l0_7.length c0_7) := (blk_cell BK162.out 7).trans rfl; have hfz7_0 := blk_frozen BK162.out 0; have hfz7_1 := blk_frozen BK162.out 1; have hfz7_2 := blk_frozen BK162.out 2; have hfz7_3 := blk_frozen BK162.out 3; have hfz7_4 := blk_frozen BK162.out 4; have hfz7_5 := blk_frozen BK162.out 5; have hfz7_6 := blk_frozen BK162.out 6; have hfz7_7 := blk_frozen BK162.out 7; have hcz8_0 : w5.cell? ⟨gb163, 0, none⟩ = some (.int .i64 a1_0) := (blk_cell BK163.out 0).trans rfl; have hcz8_1 : w5.cell? ⟨gb163, 1, none⟩ = some (.int .i64 a1_1) := (blk_cell BK163.out 1).trans rfl; have hcz8_2 : w5.cell? ⟨gb163, 2, none⟩ = some (.bool a1_2) := (blk_cell BK163.out 2).trans rfl; have hcz8_3 : w5.cell? ⟨gb163, 3, none⟩ = some (.int .i64 a1_3) := (blk_cell BK163.out 3).trans rfl; have hcz8_4 : w5.cell? ⟨gb163, 4, none⟩ = some (.int .i64 a1_4) := (blk_cell BK163.out 4).trans rfl; have hcz8_5 : w5.cell? ⟨gb163, 5, none⟩ = some (.int .i64 a1_5) := (blk_cell BK163.out 5).trans rfl; have hfz8_0 := blk_frozen BK163.out 0; have hfz8_1 := blk_frozen BK163.out 1; have hfz8_2 := blk_frozen BK163.out 2; have hfz8_3 := blk_frozen BK163.out 3; have hfz8_4 := blk_frozen BK163.out 4; have hfz8_5 := blk_frozen BK163.out 5) | ((with_reducible refine gate_callee (f := 87) rfl ?_); refine goesL_ (some 11) rfl rfl Try.func87 (by kernel_rfl) rfl #[.int .i64 a0_6, .slice A0_7 l0_7.length c0_7, .int .i64 a1_5] rfl (by (try simp only [List.map_toArray, List.map_cons, List.map_nil]); first | done | rfl | (simp only [List.length_drop, List.length_take]; rfl)) ?_; (with_reducible refine (sched_Want.calls a0_6 _ _ l0_7 a1_5 t164 _ ?side1 ?side2 A3.out).mono ?_); (case side1 => repeat (first | exact (Kd.C_below HR0_7.out HB.out) | (with_reducible refine Kd.C_alloc ?_ _) | (with_reducible refine Kd.C_drewN ?_ _) | (with_reducible refine Kd.C_drew ?_))); (case side2 => exact HC0_7.out); rintro e w9 ⟨rfl, hb⟩; refine ⟨_, rfl, ?_⟩; have n0_ := Aside0.mk (blk_below (g := gb162) (o := .cells #[.int .i64 a0_0, .int .i64 a0_1, .slice A0_2 l0_2.length c0_2, .int .i64 a0_3, .int .i64 a0_4, .int .i64 a0_5, .int .i64 a0_6, .slice A0_7 l0_7.length c0_7] 27 (0, 0)) (by (with_reducible repeat (first | refine blk_drewN ?_ _ | refine blk_drew ?_ | refine blk_alloc ?_ _)); exact BK162.out) hb); have n1_ := Aside0.mk (blk_below (g := gb163) (o := .cells #[.int .i64 a1_0, .int .i64 a1_1, .bool a1_2, .int .i64 a1_3, .int .i64 a1_4, .int .i64 a1_5] 105 (0, 0)) (by (with_reducible repeat (first | refine blk_drewN ?_ _ | refine blk_drew ?_ | refine blk_alloc ?_ _)); exact BK163.out) hb); have n2_ := Aside0.mk (below_step (by repeat (first | (with_reducible first | exact HB.out | apply below_alloc | apply pw_below_drewN | apply below_drew1 | refine below_set ?_ GE162.out | refine below_set ?_ GE163.out) | exact HB.out)) hb); clear BK162; clear BK163; clear HB; have BK162 := n0_; have BK163 := n1_; have HB := n2_; clear n0_ n1_ n2_; (try clear hb); (try clear hb2); (try clear hk); (try clear hi)))
 go_ret
 exact ⟨by first | rfl | (simp [errW_none, errW_some] <;> rfl) | (simp [*, errW_none, errW_some] <;> rfl), by repeat (first | (with_reducible first | exact HB.out | apply below_alloc | apply pw_below_drewN | apply below_drew1 | refine below_set ?_ GE162.out | refine below_set ?_ GE163.out) | exact HB.out)⟩
/-! ### policy_kinds: function 68 -/
theorem push_set (h : Array Obj) (o o' : Obj) : (h.push o).setIfInBounds h.size o' = h.push o' := by
 apply Array.toList_inj.1
 rw [Array.toList_setIfInBounds, Array.toList_push, Array.toList_push, List.set_append_right _ _ (by simp)]
 simp
theorem alloc_set (W : World) (o o' : Obj) : ({ heap := (W.alloc o).heap.setIfInBounds W.heap.size o', tape := W.tape, drawn := W.drawn, os := W.os, output := W.output } : World) = W.alloc o' := by
 show ({ heap := (W.heap.push o).setIfInBounds W.heap.size o', tape := W.tape, drawn := W.drawn, os := W.os, output := W.output } : World) = { heap := W.heap.push o', tape := W.tape, drawn := W.drawn, os := W.os, output := W.output }
 rw [push_set]
theorem alloc_at (W : World) (o : Obj) : (W.alloc o).heap[W.heap.size]? = some o := by
 show (W.heap.push o)[W.heap.size]? = some o
 simp
theorem kPut (n : Int) (es : Array MapEntry) (clock : Nat) (hf : Instr.findNow (.int .i64) (.int .i64 n) es.toList 0 = some none) (v : Value) (W : World) :
  (Instr.mapUpdate 110 (.map (some W.heap.size)) (.int .i64 n) v).run Try.prog (W.alloc (.map es clock)) = .ok () (W.alloc (.map (es.push { key := .int .i64 n, val := v, born := clock }) (clock + 1))) := by
 have hb : (W.alloc (.map es clock)).heap[W.heap.size]? = some (.map es clock) := alloc_at W _
 have hm := Try.underlying110
 have hd := Try.underlying3
 have hc := MapKept.run_checkKey (P := Try.prog) (w := W.alloc (.map es clock)) (k := .int .i64 n) hd (by simp [MapKept.IsKey]) false 9999
 have he : ∀ o, ({ W.alloc (.map es clock) with heap := (W.alloc (.map es clock)).heap.setIfInBounds W.heap.size o } : World) = W.alloc o := fun o => alloc_set W _ o
 unfold Instr.mapUpdate
 simp only [Sem.run_bind, run_underlying hm, Result.andThen, MapKept.run_getObj_map hb, hc, MapKept.run_findKey hd hf, MapKept.run_setObj_map _ hb, he]
/-- The map of kinds. -/
def kMap : Obj := .map #[{ key := .int .i64 1, val := .agg #[.func (Fn.func 80) #[] #[], .nilFunc], born := 0 }, { key := .int .i64 2, val := .agg #[.func (Fn.func 82) #[] #[], .nilFunc], born := 1 }, { key := .int .i64 3, val := .agg #[.nilFunc, .func (Fn.func 84) #[] #[]], born := 2 }, { key := .int .i64 4, val := .agg #[.func (Fn.func 86) #[] #[], .nilFunc], born := 3 }] 4
theorem policy_kinds.calls (w : World) :
  Calls Try.prog 68 #[] w fun e w' => e = .returned (.map (some w.heap.size)) ∧ w' = w.alloc kMap := by
 have hmm := @run_makeMap Try.prog
 have h1 := kPut 1 #[] 0 (by rfl)
 have h2 : ∀ v v1 W, _ := fun v v1 W => kPut 2 #[{ key := .int .i64 1, val := v, born := 0 }] 1 (by rfl) v1 W
 have h3 : ∀ v v1 v2 W, _ := fun v v1 v2 W => kPut 3 #[{ key := .int .i64 1, val := v, born := 0 }, { key := .int .i64 2, val := v1, born := 1 }] 2 (by rfl) v2 W
 have h4 : ∀ v v1 v2 v3 W, _ := fun v v1 v2 v3 W => kPut 4 #[{ key := .int .i64 1, val := v, born := 0 }, { key := .int .i64 2, val := v1, born := 1 }, { key := .int .i64 3, val := v2, born := 2 }] 3 (by rfl) v3 W
 simp only [List.push_toArray, List.nil_append, List.cons_append] at h1 h2 h3 h4
 go_enter Try.func68, Try.ntmps68
 go_wp2
 go_ret
 exact ⟨rfl, rfl⟩
theorem kLook (n : Int) (i : Nat) (v : Value) (hf : ∀ es clock, kMap = .map es clock → es.isEmpty = false ∧ Instr.findNow (.int .i64) (.int .i64 n) es.toList 0 = some (some (i, v))) (b : Nat) (W : World) (hb : W.heap[b]? = some kMap) :
  (Instr.lookup 110 (.map (some b)) (.int .i64 n) false).run Try.prog W = .ok v W := by
 have hm := Try.underlying110
 have hd := Try.underlying3
 have hc := MapKept.run_checkKey (P := Try.prog) (w := W) (k := .int .i64 n) hd (by simp [MapKept.IsKey])
 obtain ⟨es, clock, hk⟩ : ∃ es clock, kMap = .map es clock := ⟨_, _, rfl⟩
 obtain ⟨he, hf⟩ := hf es clock hk
 rw [hk] at hb
 unfold Instr.lookup
 simp only [Sem.run_bind, run_underlying hm, Result.andThen, MapKept.run_getObj_map hb, hc, MapKept.run_findKey hd hf, Sem.run_pure]
 rfl
theorem kLook1 (b : Nat) (W : World) (hb : W.heap[b]? = some kMap) : (Instr.lookup 110 (.map (some b)) (.int .i64 1) false).run Try.prog W = .ok (.agg #[.func (Fn.func 80) #[] #[], .nilFunc]) W := kLook 1 0 _ (fun es clock h => by cases h; exact ⟨rfl, rfl⟩) b W hb
theorem kLook2 (b : Nat) (W : World) (hb : W.heap[b]? = some kMap) : (Instr.lookup 110 (.map (some b)) (.int .i64 2) false).run Try.prog W = .ok (.agg #[.func (Fn.func 82) #[] #[], .nilFunc]) W := kLook 2 1 _ (fun es clock h => by cases h; exact ⟨rfl, rfl⟩) b W hb
theorem kLook3 (b : Nat) (W : World) (hb : W.heap[b]? = some kMap) : (Instr.lookup 110 (.map (some b)) (.int .i64 3) false).run Try.prog W = .ok (.agg #[.nilFunc, .func (Fn.func 84) #[] #[]]) W := kLook 3 2 _ (fun es clock h => by cases h; exact ⟨rfl, rfl⟩) b W hb
theorem kLook4 (b : Nat) (W : World) (hb : W.heap[b]? = some kMap) : (Instr.lookup 110 (.map (some b)) (.int .i64 4) false).run Try.prog W = .ok (.agg #[.func (Fn.func 86) #[] #[], .nilFunc]) W := kLook 4 3 _ (fun es clock h => by cases h; exact ⟨rfl, rfl⟩) b W hb
theorem kLook0 (n : Int) (h1 : n ≠ 1) (h2 : n ≠ 2) (h3 : n ≠ 3) (h4 : n ≠ 4) (b : Nat) (W : World) (hb : W.heap[b]? = some kMap) :
  (Instr.lookup 110 (.map (some b)) (.int .i64 n) false).run Try.prog W = .ok (.agg #[.nilFunc, .nilFunc]) W := by
 have hm := Try.underlying110
 have hd := Try.underlying3
 have hc := MapKept.run_checkKey (P := Try.prog) (w := W) (k := .int .i64 n) hd (by simp [MapKept.IsKey])
 have hf : ∀ es clock, kMap = .map es clock → Instr.findNow (.int .i64) (.int .i64 n) es.toList 0 = some none := fun es clock h => by
  cases h
  have b1 : (n == 1) = false := by simpa using h1
  have b2 : (n == 2) = false := by simpa using h2
  have b3 : (n == 3) = false := by simpa using h3
  have b4 : (n == 4) = false := by simpa using h4
  simp [Instr.findNow, Instr.sameNow, b1, b2, b3, b4]
 obtain ⟨es, clock, hk⟩ : ∃ es clock, kMap = .map es clock := ⟨_, _, rfl⟩
 have hf := hf es clock hk
 rw [hk] at hb
 have hz : (zeroValue 109).run Try.prog W = .ok (.agg #[.nilFunc, .nilFunc]) W := by kernel_rfl
 unfold Instr.lookup
 simp only [Sem.run_bind, run_underlying hm, Result.andThen, MapKept.run_getObj_map hb, hc, MapKept.run_findKey hd hf, Sem.run_pure, hz]
 rfl
end Go.Proofs.Ytefgoffaidjiaaa.PAll
