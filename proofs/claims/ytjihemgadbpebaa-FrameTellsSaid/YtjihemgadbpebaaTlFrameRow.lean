import Derived.Test.YtjihemgadbpebaaPTlx6
import Derived.WalkKit
import Derived.ProofKit
import Derived.OpenShut
import Derived.ShutString
import Derived.ChangeOld
import Derived.Below
import Derived.SizedLaws
import Derived.Lib.SmallJoins
import Derived.ChangeArms
import Derived.Deep.SlicePairs
namespace Go.Proofs.Ytjihemgadbpebaa.TlFrameRow
open Go.ChangeShapes Go.WideShapes Go.ChangeAt Go.RowKit Go.Joins Go.Deep Go.Proofs.Ytjihemgadbpebaa.PTl Go.Proofs.YtjihemgadbpebaaW.PrintWords Go.Proofs.YtjihemgadbpebaaW.PrintLast
/-! What comes in, read: bytes, a frame, frames. -/
instance : Inhabited S24 := ⟨⟨0, []⟩⟩
section
variable {H : Type} {enc : TypeId × Value → H} {W : World}
theorem bytes_in {fuel : Nat} {cs : List Value} {x : DataW H × List MemPlace} (h : DataW.trod enc Try.prog W 0 (fun _ => true) true fuel 22 cs = some x) :
    ∃ (A : Option Addr) (l : List Int) (c : Nat), cs = [.slice A l.length c] ∧ l.length ≤ c ∧ Kd.C (Kd.int .u8) W A l.length l ∧ ∀ y ∈ l, (Lit.int .u8 y).wf = true := by
  rcases open_ints Try.underlying22 Try.underlying5 (by kernel_rfl) h with ⟨rfl, _⟩ | ⟨a, len, cap, zs, rfl, _, hl, hm, hz, _, hcell, hwz⟩
  · obtain ⟨l, e, hr, _, hw, hc⟩ := ReadsInt.ofRowC (k := .u8) (w := W) (a := none) (len := 0) (cap := 0) (zs := []) (.inl ⟨rfl, rfl, rfl, rfl⟩)
    exact ⟨none, l, 0, by rw [← e], by omega, Kd.C_of_reads (d := (0 : Int)) (h1 := fun _ => rfl) hr, hw⟩
  · obtain ⟨l, e, hr, _, hw, hc⟩ := ReadsInt.ofRowC (k := .u8) (w := W) (a := some a) (len := len) (cap := cap) (zs := zs) (.inr ⟨a, rfl, hl, hm, by simpa using hz, hcell, hwz⟩)
    exact ⟨some a, l, cap, by rw [← e], hc, Kd.C_of_reads (d := (0 : Int)) (h1 := fun _ => rfl) hr, hw⟩
theorem bytes_arg {r : Reach} {b0 : Nat} {v : Value} {d : DataW H} {p : List MemPlace} (hv : Value.okWide Try.prog W r b0 22 v) (h : DataW.Trod enc Try.prog W 0 (fun _ => true) true 22 v d p) :
    ∃ (A : Option Addr) (l : List Int) (c : Nat), v = .slice A l.length c ∧ l.length ≤ c ∧ Kd.C (Kd.int .u8) W A l.length l ∧ ∀ y ∈ l, (Lit.int .u8 y).wf = true := by
  obtain ⟨a, n, c, rfl⟩ := okWide_slice Try.underlying22 hv
  obtain ⟨fuel, hf⟩ := h
  obtain ⟨A, l, c', e, h1, h2, h3⟩ := bytes_in hf
  simp only [Value.cells, List.cons.injEq, Value.slice.injEq, and_true] at e
  obtain ⟨rfl, rfl, rfl⟩ := e
  exact ⟨_, _, _, rfl, h1, h2, h3⟩
theorem frame_arg {r : Reach} {b0 : Nat} {v : Value} {d : DataW H} {p : List MemPlace} (hv : Value.okWide Try.prog W r b0 24 v) (h : DataW.Trod enc Try.prog W 0 (fun _ => true) true 24 v d p) :
    ∃ (a : Int) (A : Option Addr) (l : List Int) (c : Nat), v = .agg #[.int .i64 a, .slice A l.length c] ∧ l.length ≤ c ∧ Kd.C (Kd.int .u8) W A l.length l ∧ ∀ y ∈ l, (Lit.int .u8 y).wf = true := by
  obtain ⟨c0, c1, z0, z1, m, rfl, _, _, x0, x1⟩ := open_agg2 Try.underlying24 (by kernel_rfl) (by kernel_rfl) hv h
  obtain ⟨a0, e0, rfl, w0⟩ := DataW.trod_int Try.underlying3 x0
  obtain ⟨A, l, c', e1, h1, h2, h3⟩ := bytes_in x1
  obtain rfl : c0 = .int .i64 a0 := by simpa using e0
  obtain rfl : c1 = .slice A l.length c' := by simpa using e1
  exact ⟨_, _, _, _, rfl, h1, h2, h3⟩
theorem frames_in {fuel : Nat} {cs : List Value} {x : DataW H × List MemPlace} (h : DataW.trod enc Try.prog W 0 (fun _ => true) true fuel 31 cs = some x) :
    ∃ (A : Option Addr) (l : List S24) (c : Nat), cs = [.slice A l.length c] ∧ l.length ≤ c ∧ Kd.C k24 W A l.length l ∧ ∀ y ∈ l, ∀ z ∈ y.f1, (Lit.int .u8 z).wf = true := by
  rcases open_slice_pairs Try.underlying31 Try.underlying24 (by kernel_rfl) rfl rfl (by kernel_rfl) (by kernel_rfl) h with ⟨rfl, _⟩ | ⟨a, len, cap, m, n, V0, V1, D0, D1, P0, P1, rfl, _, hl, hm, hmm, _, hx⟩
  · exact ⟨none, [], 0, rfl, Nat.le_refl _, ⟨rfl, by simp, fun h => absurd h (by simp)⟩, fun y hy => by cases hy⟩
  · have hlm : len ≤ m := by rw [hmm]; split <;> omega
    obtain ⟨q, hq⟩ := choose_lt (n := m) (α := S24) (p := fun i (s : S24) => (∃ cs, k24.K W s cs ∧ cs = [V0 i, V1 i]) ∧ ∀ z ∈ s.f1, (Lit.int .u8 z).wf = true) (fun i hi => by
      obtain ⟨_, _, t0, t1⟩ := hx i hi
      obtain ⟨a0, e0, _, _⟩ := DataW.trod_int Try.underlying3 t0
      obtain ⟨A, l, c', e1, h1, h2, h3⟩ := bytes_in t1
      refine ⟨⟨a0, l⟩, ⟨_, k24_mk W ⟨a0, l⟩ h1 h2, ?_⟩, h3⟩
      have f0 : V0 i = .int .i64 a0 := by simpa using e0
      have f1 : V1 i = .slice A l.length c' := by simpa using e1
      rw [f0, f1])
    refine ⟨some a, (List.range len).map q, cap, by simp, by simpa using hl, ⟨rfl, by simp; unfold maxLen at hm; omega, fun _ => ⟨a, rfl, fun j s hs => ?_⟩⟩, fun y hy => ?_⟩
    · rw [List.getElem?_map] at hs
      obtain ⟨j', hj', rfl⟩ := Option.map_eq_some_iff.1 hs
      have hj : j < len := by
        have := (List.getElem?_eq_some_iff.1 hj').1
        simpa using this
      obtain rfl : j' = j := by
        have := (List.getElem?_eq_some_iff.1 hj').2
        simpa using this.symm
      obtain ⟨⟨cs, hk, rfl⟩, _⟩ := hq j' (by omega)
      obtain ⟨g0, g1, _, _⟩ := hx j' (by omega)
      refine ⟨_, k24.K_len hk, hk, fun i u hu => ?_⟩
      have hsz : k24.sz = 2 := rfl
      rw [hsz]
      rcases i with _ | _ | i
      · simp at hu; rw [← hu]; exact g0
      · simp at hu; rw [← hu]; exact g1
      · simp at hu
    · obtain ⟨j, hj, rfl⟩ := List.mem_map.1 hy
      have := List.mem_range.1 hj
      exact (hq j (by omega)).2
theorem frames_arg {r : Reach} {b0 : Nat} {v : Value} {d : DataW H} {p : List MemPlace} (hv : Value.okWide Try.prog W r b0 31 v) (h : DataW.Trod enc Try.prog W 0 (fun _ => true) true 31 v d p) :
    ∃ (A : Option Addr) (l : List S24) (c : Nat), v = .slice A l.length c ∧ l.length ≤ c ∧ Kd.C k24 W A l.length l ∧ ∀ y ∈ l, ∀ z ∈ y.f1, (Lit.int .u8 z).wf = true := by
  obtain ⟨a, n, c, rfl⟩ := okWide_slice Try.underlying31 hv
  obtain ⟨fuel, hf⟩ := h
  obtain ⟨A, l, c', e, h1, h2, h3⟩ := frames_in hf
  simp only [Value.cells, List.cons.injEq, Value.slice.injEq, and_true] at e
  obtain ⟨rfl, rfl, rfl⟩ := e
  exact ⟨_, _, _, rfl, h1, h2, h3⟩
end
end Go.Proofs.Ytjihemgadbpebaa.TlFrameRow
