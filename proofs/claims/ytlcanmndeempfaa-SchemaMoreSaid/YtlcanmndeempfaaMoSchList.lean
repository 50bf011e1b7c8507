import Derived.Test.YtlcanmndeempfaaMoSchMore
namespace Go.Proofs.Ytlcanmndeempfaa.MoSch
open Go.RowKit Go.Proofs.Ytlcanmndeempfaa.PMo Go.Proofs.YtlcanmndeempfaaW.PrintWords Go.Proofs.YtlcanmndeempfaaW.PrintLast
/-! Which schemas may be, told by lists of names. -/
theorem place_none {α : Type} (p : α → Bool) : ∀ (L : List α) (i : Nat), placeOf p L i = -1 ↔ ∀ x ∈ L, p x = false
  | [], _ => ⟨fun _ x hx => absurd hx (by simp), fun _ => rfl⟩
  | x :: t, i => by
    rw [placeOf]
    by_cases c : p x = true
    · rw [if_pos c]
      exact ⟨fun h => absurd h (by omega), fun h => by rw [h x (by simp)] at c; exact absurd c (by decide)⟩
    · rw [if_neg c, place_none p t (i + 1)]
      exact ⟨fun h y hy => (List.mem_cons.1 hy).elim (fun e => by rw [e]; exact Bool.eq_false_iff.2 c) (h y), fun h y hy => h y (List.mem_cons_of_mem _ hy)⟩
theorem place_nodup {α : Type} (f : α → List UInt8) : ∀ (L : List α) (_ : (L.map f).Nodup) (i m : Nat) (hm : m < L.length), placeOf (fun y => f y == f L[m]) L i = ((i + m : Nat) : Int)
  | [], _, _, m, hm => absurd hm (by simp)
  | x :: t, h, i, m, hm => by
    rw [List.map_cons, List.nodup_cons] at h
    rw [placeOf]
    cases m with
    | zero => exact if_pos (beq_self_eq_true _)
    | succ m =>
      have hm' : m < t.length := by simpa using hm
      have hne : ¬ (f x == f t[m]) = true := fun e => h.1 (List.mem_map.2 ⟨t[m], List.getElem_mem hm', (eq_of_beq e).symm⟩)
      have ih := place_nodup f t h.2 (i + 1) m hm'
      rw [show i + 1 + m = i + (m + 1) by omega] at ih
      exact (if_neg hne).trans ih
theorem nodup_place {α : Type} (f : α → List UInt8) : ∀ (L : List α) (i : Nat) (_ : ∀ (m : Nat) (hm : m < L.length), placeOf (fun y => f y == f L[m]) L i = ((i + m : Nat) : Int)), (L.map f).Nodup
  | [], _, _ => List.nodup_nil
  | x :: t, i, h => by
    rw [List.map_cons, List.nodup_cons]
    have hx : ∀ (m : Nat) (hm : m < t.length), ¬ (f x == f t[m]) = true := fun m hm e => by
      have h2 := h (m + 1) (by simpa using hm)
      rw [placeOf] at h2
      have h3 : (if (f x == f t[m]) = true then (i : Int) else placeOf (fun y => f y == f t[m]) t (i + 1)) = ((i + (m + 1) : Nat) : Int) := h2
      rw [if_pos e] at h3
      omega
    refine ⟨fun hmem => ?_, nodup_place f t (i + 1) (fun m hm => ?_)⟩
    · obtain ⟨y, hy, he⟩ := List.mem_map.1 hmem
      obtain ⟨m, hm, rfl⟩ := List.getElem_of_mem hy
      exact hx m hm (beq_iff_eq.2 he.symm)
    · have h2 := h (m + 1) (by simpa using hm)
      rw [placeOf] at h2
      have h3 : (if (f x == f t[m]) = true then (i : Int) else placeOf (fun y => f y == f t[m]) t (i + 1)) = ((i + (m + 1) : Nat) : Int) := h2
      rw [if_neg (hx m hm)] at h3
      rw [h3]
      congr 1
      omega
def tn (t : S34) : List UInt8 := t.f0.toList
def fn (f : S40) : List UInt8 := f.f0.toList
/-- may a field stand, where types of these names are? -/
def fieldP (N : List (List UInt8)) (f : S40) : Prop := nameB f.f0 = true ∧ 0 ≤ f.f1 ∧ f.f1 < 6 ∧ (f.f1 = 5 → f.f2.toList ∈ N) ∧ (f.f1 ≠ 5 → f.f2.toList = [])
theorem idx_mem (T : List S34) (n : ByteArray) : nameIdx T n ≠ -1 ↔ n.toList ∈ T.map tn := by
  unfold nameIdx
  rw [Ne, place_none]
  constructor
  · intro h
    refine Classical.byContradiction fun hn => h fun x hx => ?_
    refine beq_eq_false_iff_ne.2 fun e => hn (List.mem_map.2 ⟨x, hx, e⟩)
  · intro h hn
    obtain ⟨x, hx, he⟩ := List.mem_map.1 h
    have := hn x hx
    exact beq_eq_false_iff_ne.1 this he
theorem fieldB_iff (T : List S34) (f : S40) : fieldB T f = true ↔ fieldP (T.map tn) f := by
  unfold fieldB fieldP
  rw [Bool.and_eq_true, Bool.and_eq_true, Bool.and_eq_true, decide_eq_true_iff, decide_eq_true_iff]
  by_cases c : f.f1 = 5
  · rw [if_pos c, ← idx_mem]
    constructor
    · rintro ⟨h1, h2, h3, h4⟩
      exact ⟨h2, h3, h4, fun _ e => by rw [e] at h1; exact absurd h1 (by decide), fun h => absurd c h⟩
    · rintro ⟨h2, h3, h4, h5, _⟩
      exact ⟨by rw [beq_eq_false_iff_ne.2 (h5 c)]; rfl, h2, h3, h4⟩
  · rw [if_neg c, List.isEmpty_iff]
    constructor
    · rintro ⟨h1, h2, h3, h4⟩
      exact ⟨h2, h3, h4, fun h => absurd h c, fun _ => h1⟩
    · rintro ⟨h2, h3, h4, _, h6⟩
      exact ⟨h6 c, h2, h3, h4⟩
theorem fieldsB_iff (T : List S34) (all : List S40) : ∀ (fs : List S40) (j : Nat), fieldsB T all fs j = true ↔ (∀ f ∈ fs, fieldP (T.map tn) f) ∧ ∀ (m : Nat) (hm : m < fs.length), fieldIdx all (fs[m]).f0 = ((j + m : Nat) : Int)
  | [], j => ⟨fun _ => ⟨fun f hf => absurd hf (by simp), fun m hm => absurd hm (by simp)⟩, fun _ => rfl⟩
  | f :: fs, j => by
    have ih := fieldsB_iff T all fs (j + 1)
    unfold fieldsB
    rw [Bool.and_eq_true, Bool.and_eq_true, ih, fieldB_iff, beq_iff_eq]
    constructor
    · rintro ⟨⟨h1, h2⟩, h3, h4⟩
      refine ⟨fun g hg => (List.mem_cons.1 hg).elim (fun e => e ▸ h1) (h3 g), fun m hm => ?_⟩
      cases m with
      | zero => exact h2
      | succ m =>
        have := h4 m (by simpa using hm)
        rw [show j + 1 + m = j + (m + 1) by omega] at this
        exact this
    · rintro ⟨h1, h2⟩
      refine ⟨⟨h1 f (by simp), h2 0 (by simp)⟩, fun g hg => h1 g (List.mem_cons_of_mem _ hg), fun m hm => ?_⟩
      have := h2 (m + 1) (by simpa using hm)
      rw [show j + (m + 1) = j + 1 + m by omega] at this
      exact this
/-- may a type stand, where types of these names are? -/
def typeP (N : List (List UInt8)) (t : S34) : Prop := nameB t.f0 = true ∧ t.f1.length ≤ 5 ∧ (∀ f ∈ t.f1, fieldP N f) ∧ (t.f1.map fn).Nodup
theorem typesB_iff (T : List S34) : ∀ (L : List S34) (i : Nat), typesB T L i = true ↔ (∀ t ∈ L, typeP (T.map tn) t) ∧ ∀ (m : Nat) (hm : m < L.length), nameIdx T (L[m]).f0 = ((i + m : Nat) : Int)
  | [], i => ⟨fun _ => ⟨fun f hf => absurd hf (by simp), fun m hm => absurd hm (by simp)⟩, fun _ => rfl⟩
  | t :: L, i => by
    have ih := typesB_iff T L (i + 1)
    have ht : typeB T t i = true ↔ typeP (T.map tn) t ∧ nameIdx T t.f0 = (i : Int) := by
      unfold typeB typeP
      rw [Bool.and_eq_true, Bool.and_eq_true, Bool.and_eq_true, fieldsB_iff, beq_iff_eq, decide_eq_true_iff]
      constructor
      · rintro ⟨⟨⟨h1, h2⟩, h3⟩, h4, h5⟩
        exact ⟨⟨h1, h3, h4, nodup_place fn t.f1 0 h5⟩, h2⟩
      · rintro ⟨⟨h1, h3, h4, h5⟩, h2⟩
        exact ⟨⟨⟨h1, h2⟩, h3⟩, h4, fun m hm => place_nodup fn t.f1 h5 0 m hm⟩
    unfold typesB
    rw [Bool.and_eq_true, ih, ht]
    constructor
    · rintro ⟨⟨h1, h2⟩, h3, h4⟩
      refine ⟨fun g hg => (List.mem_cons.1 hg).elim (fun e => e ▸ h1) (h3 g), fun m hm => ?_⟩
      cases m with
      | zero => exact h2
      | succ m =>
        have := h4 m (by simpa using hm)
        rw [show i + 1 + m = i + (m + 1) by omega] at this
        exact this
    · rintro ⟨h1, h2⟩
      refine ⟨⟨h1 t (by simp), h2 0 (by simp)⟩, fun g hg => h1 g (List.mem_cons_of_mem _ hg), fun m hm => ?_⟩
      have := h2 (m + 1) (by simpa using hm)
      rw [show i + (m + 1) = i + 1 + m by omega] at this
      exact this
theorem mayB_iff (T : List S34) : mayB T = true ↔ 1 ≤ T.length ∧ T.length ≤ 4 ∧ (T.map tn).Nodup ∧ ∀ t ∈ T, typeP (T.map tn) t := by
  unfold mayB
  rw [Bool.and_eq_true, Bool.and_eq_true, typesB_iff, decide_eq_true_iff, decide_eq_true_iff]
  constructor
  · rintro ⟨⟨h1, h2⟩, h3, h4⟩
    exact ⟨h1, h2, nodup_place tn T 0 h4, h3⟩
  · rintro ⟨h1, h2, h4, h3⟩
    exact ⟨⟨h1, h2⟩, h3, fun m hm => place_nodup tn T h4 0 m hm⟩
end Go.Proofs.Ytlcanmndeempfaa.MoSch
