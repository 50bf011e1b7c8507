import Derived.Test.YtlcanmndeempfaaSchRow
import Derived.JoinedCond
import Derived.Deep.CondSized
namespace Go.Proofs.Ytlcanmndeempfaa.SchRow
open Go.ChangeShapes Go.WideShapes Go.ChangeAt Go.RowKit Go.Joins Go.Deep Go.Proofs.Ytlcanmndeempfaa.PAll Go.Proofs.YtlcanmndeempfaaW.PrintWords Go.Proofs.YtlcanmndeempfaaW.PrintLast Go.Proofs.Ytlcanmndeempfaa.Sch
/-! What comes in, read, where its bulk is bounded: names are no longer than the bulk. -/
section
variable {H : Type} {enc : TypeId × Value → H} {W : World}
theorem bulk_part {d : DataW H} {l : List (DataW H)} (h : d ∈ l) : Rows.uptoBulk d ≤ Rows.uptoBulkAll l := by
  induction l with
  | nil => cases h
  | cons x r ih =>
    simp only [Rows.uptoBulkAll]
    cases List.mem_cons.1 h with
    | inl e => subst e; omega
    | inr e => have := ih e; omega
theorem bulk_bound {l : List (DataW H)} (hk : Rows.uptoSmall H l = true) {d : DataW H} (h : d ∈ l) : Rows.uptoBulk d ≤ 1048576 := by
  have h1 : Rows.uptoBulkAll l ≤ 1048576 := of_decide_eq_true hk
  exact Nat.le_trans (bulk_part h) h1
theorem bulk_agg {d : DataW H} {l : List (DataW H)} (h : d ∈ l) : Rows.uptoBulk d ≤ Rows.uptoBulk (.agg l) := by
  have := bulk_part h
  simp only [Rows.uptoBulk]
  omega
theorem bulk_slice {d : DataW H} {l r : List (DataW H)} (h : d ∈ l) : Rows.uptoBulk d ≤ Rows.uptoBulk (.slice l r) := by
  have := bulk_part h
  simp only [Rows.uptoBulk]
  omega
theorem rows_up {α : Type} [Inhabited α] (d : Kd α) {t e : TypeId} (ht : Try.prog.underlying t = some (.slice e)) (he : Try.prog.cellsOf e = d.sz) (Ok : α → Nat → Prop) (up : ∀ v m n, Ok v m → m ≤ n → Ok v n)
    (elem : ∀ n cs x, DataW.trod enc Try.prog W 0 (fun _ => true) true n e cs = some x → ∃ v : α, d.K W v cs ∧ Ok v (Rows.uptoBulk x.1))
    {fuel : Nat} {cs : List Value} {x : DataW H × List MemPlace} (h : DataW.trod enc Try.prog W 0 (fun _ => true) true fuel t cs = some x) :
    ∃ (A : Option Addr) (l : List α) (c : Nat), cs = [.slice A l.length c] ∧ l.length ≤ c ∧ c ≤ maxLen ∧ Kd.C d W A l.length l ∧ ∀ y ∈ l, Ok y (Rows.uptoBulk x.1) := by
  rcases open_slice ht h with ⟨rfl, _⟩ | ⟨a, len, cap, m, n, D, Pl, rfl, _, hl, hm, hmm, rfl, hx⟩
  · exact ⟨none, [], 0, rfl, Nat.le_refl _, Nat.zero_le _, ⟨rfl, by simp, fun h => absurd h (by simp)⟩, fun y hy => by cases hy⟩
  · obtain ⟨q, hq⟩ := choose_lt (n := len) (α := α) (p := fun i v => ∃ cs', cs'.length = d.sz ∧ d.K W v cs' ∧ (∀ j u, cs'[j]? = some u → W.cell? (a.add (i * d.sz + j)) = some u) ∧ Ok v (Rows.uptoBulk (D i))) (fun i hi => by
      have him : i < m := by
        rw [hmm]
        simp only [if_true]
        omega
      obtain ⟨cs', h1, h2⟩ := hx i him
      rw [he] at h1
      obtain ⟨_, hlen, hcell⟩ := World.cells?_some h1
      obtain ⟨v, hK, hO⟩ := elem n cs' _ h2
      refine ⟨v, cs', hlen, hK, fun j u hu => ?_, hO⟩
      have hj : j < d.sz := by rw [← hlen]; exact (List.getElem?_eq_some_iff.1 hu).1
      have := hcell j hj
      rw [Go.Deep.add_add] at this
      exact this.trans hu)
    refine ⟨some a, (List.range len).map q, cap, by simp, by simpa using hl, hm, ⟨rfl, by simp; unfold maxLen at hm; omega, fun _ => ⟨a, rfl, fun j s hs => ?_⟩⟩, fun y hy => ?_⟩
    · rw [List.getElem?_map] at hs
      obtain ⟨j', hj', rfl⟩ := Option.map_eq_some_iff.1 hs
      have hj : j < len := by
        have := (List.getElem?_eq_some_iff.1 hj').1
        simpa using this
      obtain rfl : j' = j := by
        have := (List.getElem?_eq_some_iff.1 hj').2
        simpa using this.symm
      obtain ⟨cs', hlen, hK, hc, _⟩ := hq j' hj
      exact ⟨cs', hlen, hK, hc⟩
    · obtain ⟨j, hj, rfl⟩ := List.mem_map.1 hy
      obtain ⟨_, _, _, _, hO⟩ := hq j (List.mem_range.1 hj)
      exact up _ _ _ hO (bulk_slice (List.mem_map.2 ⟨j, hj, rfl⟩))
theorem bulk_string (b : List UInt8) : b.length ≤ Rows.uptoBulk (DataW.lit (H := H) (.string b)) := by
  simp [Rows.uptoBulk]
theorem field_up (n : Nat) (cs : List Value) (x : DataW H × List MemPlace) (h : DataW.trod enc Try.prog W 0 (fun _ => true) true n 40 cs = some x) : ∃ v : S40, k40.K W v cs ∧ (v.f0.size ≤ maxLen ∧ v.f0.size ≤ Rows.uptoBulk x.1) := by
  obtain ⟨y0, y1, y2, m, rfl, hl, h0, h1, h2⟩ := trod_struct3 Try.underlying40 h
  have hl3 : cs.length = 3 := hl
  match cs, hl3 with
  | [a, b, c], _ =>
    obtain ⟨s0, e0, x0, z0⟩ := DataW.trod_string Try.underlying9 h0
    obtain ⟨i1, e1, _, w1⟩ := DataW.trod_int Try.underlying3 h1
    obtain ⟨s2, e2, _, z2⟩ := DataW.trod_string Try.underlying9 h2
    have g0 : [a] = [Value.string s0] := e0
    have g1 : [b] = [Value.int .i64 i1] := e1
    have g2 : [c] = [Value.string s2] := e2
    obtain rfl := (List.cons.inj g0).1
    obtain rfl := (List.cons.inj g1).1
    obtain rfl := (List.cons.inj g2).1
    refine ⟨⟨s0, i1, s2⟩, k40_mk W ⟨s0, i1, s2⟩, z0, ?_⟩
    have hb := bulk_agg (H := H) (d := y0.1) (l := [y0.1, y1.1, y2.1]) (by simp)
    have hs := bulk_string (H := H) s0.data.toList
    rw [x0] at hb ⊢
    rw [Array.length_toList] at hs
    exact Nat.le_trans hs hb
theorem type_up (n : Nat) (cs : List Value) (x : DataW H × List MemPlace) (h : DataW.trod enc Try.prog W 0 (fun _ => true) true n 34 cs = some x) : ∃ v : S34, k34.K W v cs ∧ ((v.f0.size ≤ maxLen ∧ ∀ f ∈ v.f1, f.f0.size ≤ maxLen) ∧ (v.f0.size ≤ Rows.uptoBulk x.1 ∧ ∀ f ∈ v.f1, f.f0.size ≤ Rows.uptoBulk x.1)) := by
  obtain ⟨y0, y1, m, rfl, hl, h0, h1⟩ := trod_struct2 Try.underlying34 h
  have hl2 : cs.length = 2 := hl
  match cs, hl2 with
  | [a, b], _ =>
    obtain ⟨s0, e0, x0, z0⟩ := DataW.trod_string Try.underlying9 h0
    obtain ⟨A, l, c, e1, hc, _, hC, hO⟩ := rows_up k40 Try.underlying32 (by kernel_rfl) (fun v m => v.f0.size ≤ maxLen ∧ v.f0.size ≤ m) (fun v m n h hm => ⟨h.1, Nat.le_trans h.2 hm⟩) field_up h1
    have g0 : [a] = [Value.string s0] := e0
    have g1 : [b] = [Value.slice A l.length c] := e1
    obtain rfl := (List.cons.inj g0).1
    obtain rfl := (List.cons.inj g1).1
    have b0 := bulk_agg (H := H) (d := y0.1) (l := [y0.1, y1.1]) (by simp)
    have b1 := bulk_agg (H := H) (d := y1.1) (l := [y0.1, y1.1]) (by simp)
    have hs := bulk_string (H := H) s0.data.toList
    rw [Array.length_toList] at hs
    refine ⟨⟨s0, l⟩, k34_mk W ⟨s0, l⟩ hc hC, ⟨z0, fun f hf => (hO f hf).1⟩, ?_, fun f hf => Nat.le_trans (hO f hf).2 b1⟩
    rw [x0] at b0 ⊢
    exact Nat.le_trans hs b0
set_option maxRecDepth 100000 in
theorem schema_up {r : Reach} {b0 : Nat} {v : Value} {d : DataW H} {p : List MemPlace} (hv : Value.okWide Try.prog W r b0 24 v) (h : DataW.Trod enc Try.prog W 0 (fun _ => true) true 24 v d p) :
    ∃ (A : Option Addr) (l : List S34) (c : Nat), v = .agg #[.slice A l.length c] ∧ l.length ≤ c ∧ Kd.C k34 W A l.length l ∧ smallN l ∧ l.length ≤ 9223372036854775807 ∧ ∀ t ∈ l, t.f0.size ≤ Rows.uptoBulk d ∧ ∀ f ∈ t.f1, f.f0.size ≤ Rows.uptoBulk d := by
  obtain ⟨cs, rfl, hsz⟩ := okWide_struct Try.underlying24 hv
  obtain ⟨fuel, hf⟩ := h
  obtain ⟨y0, n, hx, hl, h0⟩ := trod_struct1 Try.underlying24 hf
  obtain ⟨L, rfl⟩ : ∃ L : List Value, cs = L.toArray := ⟨cs.toList, rfl⟩
  have hl1 : L.length = 1 := by
    have : L.toArray.size = 1 := hsz
    simpa using this
  match L, hl1 with
  | [a], _ =>
    obtain ⟨A, l, c, e1, hc, hm, hC, hO⟩ := rows_up k34 Try.underlying22 (by kernel_rfl) (fun v m => (v.f0.size ≤ maxLen ∧ ∀ f ∈ v.f1, f.f0.size ≤ maxLen) ∧ (v.f0.size ≤ m ∧ ∀ f ∈ v.f1, f.f0.size ≤ m)) (fun v m n h hm => ⟨h.1, Nat.le_trans h.2.1 hm, fun f hf => Nat.le_trans (h.2.2 f hf) hm⟩) type_up h0
    have g1 : [a] = [Value.slice A l.length c] := e1
    obtain rfl := (List.cons.inj g1).1
    have hM : maxLen ≤ 9223372036854775807 := by decide
    have hd : d = .agg [y0.1] := congrArg Prod.fst hx
    have b1 := bulk_agg (H := H) (d := y0.1) (l := [y0.1]) (by simp)
    rw [← hd] at b1
    refine ⟨A, l, c, rfl, hc, hC, fun t ht => ⟨Nat.le_trans (hO t ht).1.1 hM, fun f hf => Nat.le_trans ((hO t ht).1.2 f hf) hM⟩, by omega, fun t ht => ⟨Nat.le_trans (hO t ht).2.1 b1, fun f hf => Nat.le_trans ((hO t ht).2.2 f hf) b1⟩⟩
end
end Go.Proofs.Ytlcanmndeempfaa.SchRow
