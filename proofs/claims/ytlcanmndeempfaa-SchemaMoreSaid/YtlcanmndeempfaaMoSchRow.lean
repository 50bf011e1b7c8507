import Derived.Test.YtlcanmndeempfaaMoSchMay
import Derived.WalkKit
import Derived.ProofKit
import Derived.OpenShut
import Derived.ShutString
import Derived.ChangeOld
import Derived.Below
import Derived.SizedLaws
import Derived.Lib.SmallJoins
import Derived.ChangeArms
import Derived.Deep.Slices
import Derived.Deep.Strs
import Derived.ChangeSame
import Derived.RowKit
import Derived.Test.YtlcanmndeempfaaRows
namespace Go.Proofs.Ytlcanmndeempfaa.MoSchRow
open Go.ChangeShapes Go.WideShapes Go.ChangeAt Go.RowKit Go.Joins Go.Deep Go.Proofs.Ytlcanmndeempfaa.PMo Go.Proofs.YtlcanmndeempfaaW.PrintWords Go.Proofs.YtlcanmndeempfaaW.PrintLast Go.Proofs.Ytlcanmndeempfaa.MoSch
/-! What comes in, read: a row of elements of whatever kind; a field, a type, a schema. -/
section
variable {H : Type} {enc : TypeId × Value → H} {W : World}
theorem rows_in {α : Type} [Inhabited α] (d : Kd α) {t e : TypeId} (ht : Try.prog.underlying t = some (.slice e)) (he : Try.prog.cellsOf e = d.sz) (Ok : α → Prop)
    (elem : ∀ n cs x, DataW.trod enc Try.prog W 0 (fun _ => true) true n e cs = some x → ∃ v : α, d.K W v cs ∧ Ok v)
    {fuel : Nat} {cs : List Value} {x : DataW H × List MemPlace} (h : DataW.trod enc Try.prog W 0 (fun _ => true) true fuel t cs = some x) :
    ∃ (A : Option Addr) (l : List α) (c : Nat), cs = [.slice A l.length c] ∧ l.length ≤ c ∧ c ≤ maxLen ∧ Kd.C d W A l.length l ∧ ∀ y ∈ l, Ok y := by
  rcases open_slice ht h with ⟨rfl, _⟩ | ⟨a, len, cap, m, n, D, Pl, rfl, _, hl, hm, hmm, _, hx⟩
  · exact ⟨none, [], 0, rfl, Nat.le_refl _, Nat.zero_le _, ⟨rfl, by simp, fun h => absurd h (by simp)⟩, fun y hy => by cases hy⟩
  · obtain ⟨q, hq⟩ := choose_lt (n := len) (α := α) (p := fun i v => ∃ cs', cs'.length = d.sz ∧ d.K W v cs' ∧ (∀ j u, cs'[j]? = some u → W.cell? (a.add (i * d.sz + j)) = some u) ∧ Ok v) (fun i hi => by
      have him : i < m := by
        rw [hmm]
        simp only [if_true]
        omega
      obtain ⟨cs', h1, h2⟩ := hx i him
      rw [he] at h1
      obtain ⟨_, hlen, hcell⟩ := World.cells?_some h1
      obtain ⟨v, hK, hO⟩ := elem n cs' _ h2
      refine ⟨v, cs', hlen, hK, fun j u hu => ?_, hO⟩
      have hj : j < d.sz := by rw [← hlen]; exact (List.getElem?_eq_some_iff.1 hu).1
      have := hcell j hj
      rw [Go.Deep.add_add] at this
      exact this.trans hu)
    refine ⟨some a, (List.range len).map q, cap, by simp, by simpa using hl, hm, ⟨rfl, by simp; unfold maxLen at hm; omega, fun _ => ⟨a, rfl, fun j s hs => ?_⟩⟩, fun y hy => ?_⟩
    · rw [List.getElem?_map] at hs
      obtain ⟨j', hj', rfl⟩ := Option.map_eq_some_iff.1 hs
      have hj : j < len := by
        have := (List.getElem?_eq_some_iff.1 hj').1
        simpa using this
      obtain rfl : j' = j := by
        have := (List.getElem?_eq_some_iff.1 hj').2
        simpa using this.symm
      obtain ⟨cs', hlen, hK, hc, _⟩ := hq j' hj
      exact ⟨cs', hlen, hK, hc⟩
    · obtain ⟨j, hj, rfl⟩ := List.mem_map.1 hy
      obtain ⟨_, _, _, _, hO⟩ := hq j (List.mem_range.1 hj)
      exact hO
theorem field_in (n : Nat) (cs : List Value) (x : DataW H × List MemPlace) (h : DataW.trod enc Try.prog W 0 (fun _ => true) true n 40 cs = some x) : ∃ v : S40, k40.K W v cs ∧ v.f0.size ≤ maxLen := by
  obtain ⟨y0, y1, y2, m, _, hl, h0, h1, h2⟩ := trod_struct3 Try.underlying40 h
  have hl3 : cs.length = 3 := hl
  match cs, hl3 with
  | [a, b, c], _ =>
    obtain ⟨s0, e0, _, z0⟩ := DataW.trod_string Try.underlying9 h0
    obtain ⟨i1, e1, _, w1⟩ := DataW.trod_int Try.underlying3 h1
    obtain ⟨s2, e2, _, z2⟩ := DataW.trod_string Try.underlying9 h2
    have g0 : [a] = [Value.string s0] := e0
    have g1 : [b] = [Value.int .i64 i1] := e1
    have g2 : [c] = [Value.string s2] := e2
    obtain rfl := (List.cons.inj g0).1
    obtain rfl := (List.cons.inj g1).1
    obtain rfl := (List.cons.inj g2).1
    exact ⟨⟨s0, i1, s2⟩, k40_mk W ⟨s0, i1, s2⟩, z0⟩
noncomputable instance : Inhabited S40 := ⟨z40⟩
noncomputable instance : Inhabited S34 := ⟨z34⟩
theorem type_in (n : Nat) (cs : List Value) (x : DataW H × List MemPlace) (h : DataW.trod enc Try.prog W 0 (fun _ => true) true n 34 cs = some x) : ∃ v : S34, k34.K W v cs ∧ (v.f0.size ≤ maxLen ∧ ∀ f ∈ v.f1, f.f0.size ≤ maxLen) := by
  obtain ⟨y0, y1, m, _, hl, h0, h1⟩ := trod_struct2 Try.underlying34 h
  have hl2 : cs.length = 2 := hl
  match cs, hl2 with
  | [a, b], _ =>
    obtain ⟨s0, e0, _, z0⟩ := DataW.trod_string Try.underlying9 h0
    obtain ⟨A, l, c, e1, hc, _, hC, hO⟩ := rows_in k40 Try.underlying32 (by kernel_rfl) (fun v => v.f0.size ≤ maxLen) field_in h1
    have g0 : [a] = [Value.string s0] := e0
    have g1 : [b] = [Value.slice A l.length c] := e1
    obtain rfl := (List.cons.inj g0).1
    obtain rfl := (List.cons.inj g1).1
    exact ⟨⟨s0, l⟩, k34_mk W ⟨s0, l⟩ hc hC, z0, hO⟩
set_option maxRecDepth 100000 in
theorem schema_arg {r : Reach} {b0 : Nat} {v : Value} {d : DataW H} {p : List MemPlace} (hv : Value.okWide Try.prog W r b0 24 v) (h : DataW.Trod enc Try.prog W 0 (fun _ => true) true 24 v d p) :
    ∃ (A : Option Addr) (l : List S34) (c : Nat), v = .agg #[.slice A l.length c] ∧ l.length ≤ c ∧ Kd.C k34 W A l.length l ∧ smallN l ∧ l.length ≤ 9223372036854775807 := by
  obtain ⟨cs, rfl, hsz⟩ := okWide_struct Try.underlying24 hv
  obtain ⟨fuel, hf⟩ := h
  obtain ⟨y0, n, _, hl, h0⟩ := trod_struct1 Try.underlying24 hf
  obtain ⟨L, rfl⟩ : ∃ L : List Value, cs = L.toArray := ⟨cs.toList, rfl⟩
  have hl1 : L.length = 1 := by
    have : L.toArray.size = 1 := hsz
    simpa using this
  match L, hl1 with
  | [a], _ =>
    obtain ⟨A, l, c, e1, hc, hm, hC, hO⟩ := rows_in k34 Try.underlying22 (by kernel_rfl) (fun v => v.f0.size ≤ maxLen ∧ ∀ f ∈ v.f1, f.f0.size ≤ maxLen) type_in h0
    have g1 : [a] = [Value.slice A l.length c] := e1
    obtain rfl := (List.cons.inj g1).1
    have hM : maxLen ≤ 9223372036854775807 := by decide
    refine ⟨A, l, c, rfl, hc, hC, fun t ht => ⟨Nat.le_trans (hO t ht).1 hM, fun f hf => Nat.le_trans ((hO t ht).2 f hf) hM⟩, by omega⟩
end
end Go.Proofs.Ytlcanmndeempfaa.MoSchRow
