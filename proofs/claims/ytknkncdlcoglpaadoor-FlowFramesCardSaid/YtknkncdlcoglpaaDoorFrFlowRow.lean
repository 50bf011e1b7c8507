import Derived.Test.YtknkncdlcoglpaaDoorPFrx3
import Derived.WalkKit
import Derived.ProofKit
import Derived.OpenShut
import Derived.ShutString
import Derived.ChangeOld
import Derived.Below
import Derived.SizedLaws
import Derived.Lib.SmallJoins
import Derived.ChangeArms
import Derived.Deep.SlicePairs
import Derived.Deep.Matrix
import Derived.ChangeSame
import Derived.ChangeVars
import Derived.JoinedOf
import Derived.RowKit
import Derived.RowKitTokens
import Derived.LaidLaws
import Derived.LaidHandle
import Derived.Stop.Joined
import Derived.Test.YtknkncdlcoglpaaDoorRows
namespace Go.Proofs.YtknkncdlcoglpaaDoor.FrFlowRow
open Go.ChangeShapes Go.WideShapes Go.ChangeAt Go.RowKit Go.Joins Go.Deep Go.Proofs.YtknkncdlcoglpaaDoor.PFr Go.Proofs.YtknkncdlcoglpaaDoorW.PrintWords Go.Proofs.YtknkncdlcoglpaaDoorW.PrintLast
/-! What comes in, read: bytes, rows of bytes, a flow; and the variable that errors.As reads. -/
section
variable {H : Type} {enc : TypeId × Value → H} {W : World}
set_option maxRecDepth 100000 in
theorem brows_in {fuel : Nat} {cs : List Value} {x : DataW H × List MemPlace} (h : DataW.trod enc Tryd.prog W 0 (fun _ => true) true fuel 23 cs = some x) :
    ∃ (A : Option Addr) (l : List (List Int)) (c : Nat), cs = [.slice A l.length c] ∧ l.length ≤ c ∧ Kd.C (Kd.slice 5 (Kd.int .u8)) W A l.length l ∧ ∀ y ∈ l, ∀ z ∈ y, (Lit.int .u8 z).wf = true := by
  rcases open_int_rows Tryd.underlying23 Tryd.underlying26 Tryd.underlying5 (by kernel_rfl) (by kernel_rfl) h with ⟨rfl, _⟩ | ⟨a, len, cap, A, L, C, Z, rfl, _, hl, hm, _, hx⟩
  · exact ⟨none, [], 0, rfl, Nat.le_refl _, ⟨rfl, by simp, fun h => absurd h (by simp)⟩, fun y hy => by cases hy⟩
  · obtain ⟨q, hq⟩ := choose_lt (n := cap) (α := List Int) (p := fun i (s : List Int) => (∃ cs, (Kd.slice 5 (Kd.int .u8)).K W s cs ∧ cs = [.slice (A i) (L i) (C i)]) ∧ ∀ z ∈ s, (Lit.int .u8 z).wf = true) (fun i hi => by
      obtain ⟨h1, h2, h3, h4, h5, h6, h7⟩ := hx i hi
      rcases hA : A i with _ | a'
      · have hc0 := h6 hA
        have hl0 : L i = 0 := by omega
        rw [hc0, hl0]
        exact ⟨[], ⟨_, ⟨none, 0, rfl, Nat.le_refl _, ⟨rfl, by simp, fun h => absurd h (by simp)⟩⟩, rfl⟩, fun z hz => by cases hz⟩
      · obtain ⟨l, e, hr, _, hw, hc⟩ := ReadsInt.ofRowC (k := .u8) (w := W) (a := some a') (len := L i) (cap := C i) (zs := Z i) (.inr ⟨a', rfl, h2, h3, by simpa using h4, fun c hc => (h7 a' hA).2 c (by omega), h5⟩)
        exact ⟨l, ⟨_, ⟨some a', C i, rfl, hc, Kd.C_of_reads (d := (0 : Int)) (h1 := fun _ => rfl) hr⟩, by rw [e]⟩, hw⟩)
    refine ⟨some a, (List.range len).map q, cap, by simp, by simpa using hl, ⟨rfl, by simp; unfold maxLen at hm; omega, fun _ => ⟨a, rfl, fun j s hs => ?_⟩⟩, fun y hy => ?_⟩
    · rw [List.getElem?_map] at hs
      obtain ⟨j', hj', rfl⟩ := Option.map_eq_some_iff.1 hs
      have hj : j < len := by
        have := (List.getElem?_eq_some_iff.1 hj').1
        simpa using this
      obtain rfl : j' = j := by
        have := (List.getElem?_eq_some_iff.1 hj').2
        simpa using this.symm
      obtain ⟨⟨cs, hk, rfl⟩, _⟩ := hq j' (by omega)
      have g0 := (hx j' (by omega)).1
      refine ⟨_, rfl, hk, fun i u hu => ?_⟩
      have hsz : (Kd.slice 5 (Kd.int .u8)).sz = 1 := rfl
      rw [hsz]
      rcases i with _ | i
      · simp at hu; rw [← hu]; simpa using g0
      · simp at hu
    · obtain ⟨j, hj, rfl⟩ := List.mem_map.1 hy
      have := List.mem_range.1 hj
      exact (hq j (by omega)).2
set_option maxRecDepth 100000 in
theorem flow_arg {r : Reach} {b0 : Nat} {v : Value} {d : DataW H} {p : List MemPlace} (hv : Value.okWide Tryd.prog W r b0 25 v) (h : DataW.Trod enc Tryd.prog W 0 (fun _ => true) true 25 v d p) :
    ∃ (a : Int) (A : Option Addr) (l : List (List Int)) (c : Nat), v = .agg #[.int .u32 a, .slice A l.length c] ∧ l.length ≤ c ∧ Kd.C (Kd.slice 5 (Kd.int .u8)) W A l.length l ∧ (Lit.int .u32 a).wf = true ∧ ∀ y ∈ l, ∀ z ∈ y, (Lit.int .u8 z).wf = true := by
  obtain ⟨c0, c1, z0, z1, m, rfl, _, _, x0, x1⟩ := open_agg2 Tryd.underlying25 (by kernel_rfl) (by kernel_rfl) hv h
  obtain ⟨a0, e0, rfl, w0⟩ := DataW.trod_int Tryd.underlying22 x0
  obtain ⟨A, l, c', e1, h1, h2, h3⟩ := brows_in x1
  obtain rfl : c0 = .int .u32 a0 := by simpa using e0
  obtain rfl : c1 = .slice A l.length c' := by simpa using e1
  exact ⟨_, _, _, _, rfl, h1, h2, w0, h3⟩
end
theorem et_ : Tryd.prog.globalNamed "errors.errorType" = some 0 := by kernel_rfl
theorem rt_ : (Tryd.prog.cutTypes.find? (·.1 == "internal/reflectlite.rtype")).map (·.2) = some 99 := by kernel_rfl
theorem oneRow_ : ((List.range 152).filter fun t => Tryd.prog.rowNamed t [101, 114, 114, 111, 114]) = [62] := by kernel_rfl
theorem size_ : Tryd.prog.types.size = 152 := by kernel_rfl
/-- What the row's condition gives: the variable's one cell. -/
theorem errT_of {W : World} (h : laidMetH Tryd.prog Rows.flowBackRow.laid W) : errT W := by
  have h' : laidMet Tryd.prog [] W ∧ handlesMet Tryd.prog Rows.flowBackRow.laid W := h
  obtain ⟨name, u, ty, e1, e2, e3, e4, e5⟩ := h'.2 _ (List.mem_singleton.2 rfl)
  have en : name = [101, 114, 114, 111, 114] := (Option.some.inj e1).symm
  subst en
  obtain rfl := Option.some.inj (rt_.symm.trans e2)
  have hm : ty ∈ (List.range 152).filter fun t => Tryd.prog.rowNamed t [101, 114, 114, 111, 114] := List.mem_filter.2 ⟨List.mem_range.2 (by rw [← size_]; exact e3), e4⟩
  rw [oneRow_] at hm
  obtain rfl := List.mem_singleton.1 hm
  have hh : typeHandle Tryd.prog 62 = .pointer (some ⟨1, 62, none⟩) := by kernel_rfl
  rw [hh] at e5
  unfold errT
  simpa using World.var?_cell et_ e5 0
/-- A world that meets the condition: the settled one, the variable's cell laid. -/
noncomputable def laidWorld (os : Os) : World :=
  let w0 := World.holding Tryd.prog os ⟨#[], #[], []⟩
  { w0 with heap := w0.heap.modify 0 fun
      | .cells _ t frozen => .cells #[.iface 99 (.agg #[.pointer (some ⟨1, 62, none⟩)])] t frozen
      | o => o }
theorem laidWorld_met (os : Os) (args : Array Value) : laidMetH Tryd.prog Rows.flowBackRow.laid ((laidWorld os).forCall (fun _ _ => 0) ⟨#[], args, []⟩).memory :=
  laidMetH_of_parts (laidMet_nil _ _) (by kernel_rfl)
end Go.Proofs.YtknkncdlcoglpaaDoor.FrFlowRow
