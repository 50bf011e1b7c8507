import Derived.Test.YtknkncdlcoglpaaDoorFrFlow
namespace Go.Proofs.YtknkncdlcoglpaaDoor.FrFlow
open Go.RowKit Go.Proofs.YtknkncdlcoglpaaDoor.PFr Go.Proofs.YtknkncdlcoglpaaDoorW.PrintWords Go.Proofs.YtknkncdlcoglpaaDoorW.PrintLast Go.Proofs.YtknkncdlcoglpaaDoor.FrVari
open Go.Proofs.YtknkncdlcoglpaaDoor.FrFrame (frameB frameB_length allL allf_eq allL_frame allL_nil frame_bytes put_ok next_nat getP get_inv get_err allL_cons allL_err)
/-! A flow, read. -/
theorem E_inv : ∀ (N : Nat) (l : List Int), Bytes l → l.length ≤ N → (E N l).all (fun x => x.2) = true → ∃ ns : List Nat, (∀ n ∈ ns, n < 2 ^ 64) ∧ (E N l).map (fun x => x.1) = ns.map (fun n : Nat => (n : Int)) ∧ l = nums ns
  | 0, l, hb, hl, _ => by
    obtain rfl : l = [] := List.eq_nil_of_length_eq_zero (by omega)
    exact ⟨[], (fun _ h => by cases h), rfl, rfl⟩
  | N + 1, l, hb, hl, h => by
    by_cases c : l = []
    · subst c
      exact ⟨[], (fun _ h => by cases h), rfl, rfl⟩
    · have eE : E (N + 1) l = if (g 0 0 l).2 = 0 then [((g 0 0 l).1, false)] else ((g 0 0 l).1, true) :: E N (l.drop (g 0 0 l).2.toNat) := by rw [E, if_neg c]
      by_cases c2 : (g 0 0 l).2 = 0
      · rw [if_pos c2] at eE
        rw [eE] at h
        exact absurd h (by simp)
      · rw [if_neg c2] at eE
        have hle := g_le l hb
        obtain ⟨n, rest, hn, e, eg⟩ := g_read l hb (by omega)
        rw [eE, List.all_cons] at h
        have hd : l.drop (g 0 0 l).2.toNat = rest := by
          rw [eg]
          show l.drop ((pb n).length : Int).toNat = rest
          rw [Int.toNat_natCast, e, List.drop_left]
        have hp := pb_len n
        have hr : rest.length ≤ N := by
          have := congrArg List.length e
          rw [List.length_append] at this
          omega
        have hbr : Bytes rest := fun x hx => hb x (by rw [e]; exact List.mem_append_right _ hx)
        rw [hd] at h
        obtain ⟨ns, h1, h2, h3⟩ := E_inv N rest hbr hr (by simpa using h)
        refine ⟨n :: ns, ?_, ?_, ?_⟩
        · intro m hm
          rcases List.mem_cons.1 hm with rfl | hm
          · exact hn
          · exact h1 m hm
        · rw [eE, hd, List.map_cons, List.map_cons, h2, eg]
        · rw [nums_cons, ← h3]
          exact e
theorem E_nums : ∀ (ns : List Nat) (M : Nat), (∀ n ∈ ns, n < 2 ^ 64) → E (M + ns.length) (nums ns) = ns.map fun n : Nat => ((n : Int), true)
  | [], M, _ => by
    cases M <;> rfl
  | n :: ns, M, h => by
    have e : M + (n :: ns).length = (M + ns.length) + 1 := by rw [List.length_cons]; omega
    rw [e, nums_cons, E_put _ n _ (h n (List.mem_cons_self)), E_nums ns M (fun m hm => h m (List.mem_cons_of_mem _ hm)), List.map_cons]
theorem nums_len : ∀ (ns : List Nat), ns.length ≤ (nums ns).length
  | [] => Nat.le_refl _
  | n :: ns => by
    have := nums_len ns
    have hp := pb_len n
    rw [nums_cons, List.length_append, List.length_cons]
    omega
theorem nums_bytes : ∀ {ns : List Nat}, (∀ n ∈ ns, n < 2 ^ 64) → Bytes (nums ns)
  | [], _ => fun x hx => by cases hx
  | n :: ns, h => by
    rw [nums_cons]
    exact (pb_bytes (h n List.mem_cons_self)).append (nums_bytes fun m hm => h m (List.mem_cons_of_mem _ hm))
def headQ (b : List Int) : Option (Int × Int) := if (A b.length b).2 = true ∧ (A b.length b).1.length = 3 ∧ (A b.length b).1.getD 0 0 = 1 ∧ (A b.length b).1.getD 1 0 ≤ 4294967295 then some ((A b.length b).1.getD 1 0, (A b.length b).1.getD 2 0) else none
theorem A_true {N : Nat} {l : List Int} (hb : Bytes l) (hl : l.length ≤ N) (h : (A N l).2 = true) : ∃ ns : List Nat, (∀ n ∈ ns, n < 2 ^ 64) ∧ (A N l).1 = ns.map (fun n : Nat => (n : Int)) ∧ l = nums ns := by
  unfold A at h ⊢
  by_cases c : (E N l).all (fun x => x.2) = true
  · rw [if_pos c]
    exact E_inv N l hb hl c
  · rw [if_neg c] at h
    exact absurd h (by decide)
theorem A_nums (N : Nat) (ns : List Nat) (h : ∀ n ∈ ns, n < 2 ^ 64) (hN : (nums ns).length ≤ N) : A N (nums ns) = (ns.map (fun n : Nat => (n : Int)), true) := by
  have hl := nums_len ns
  obtain ⟨M, rfl⟩ : ∃ M, N = M + ns.length := ⟨N - ns.length, by omega⟩
  unfold A
  rw [E_nums ns M h, if_pos (by rw [List.all_eq_true]; intro x hx; obtain ⟨n, _, rfl⟩ := List.mem_map.1 hx; rfl), List.map_map]
  rfl
theorem headQ_inv {b : List Int} (hb : Bytes b) {t : Int × Int} (h : headQ b = some t) : ∃ bn mn : Nat, t = ((bn : Int), (mn : Int)) ∧ bn < 2 ^ 32 ∧ mn < 2 ^ 64 ∧ b = nums [1, bn, mn] := by
  unfold headQ at h
  by_cases c : (A b.length b).2 = true ∧ (A b.length b).1.length = 3 ∧ (A b.length b).1.getD 0 0 = 1 ∧ (A b.length b).1.getD 1 0 ≤ 4294967295
  · rw [if_pos c] at h
    have h' := Option.some.inj h
    obtain ⟨c1, c2, c3, c4⟩ := c
    obtain ⟨ns, h1, h2, h3⟩ := A_true hb (Nat.le_refl _) c1
    rw [h2] at c2 c3 c4 h'
    rw [List.length_map] at c2
    match ns, c2, h1, h3 with
    | [x0, x1, x2], _, h1, h3 =>
      have e0 : (([x0, x1, x2] : List Nat).map fun n : Nat => (n : Int)).getD 0 0 = (x0 : Int) := rfl
      have e1 : (([x0, x1, x2] : List Nat).map fun n : Nat => (n : Int)).getD 1 0 = (x1 : Int) := rfl
      have e2 : (([x0, x1, x2] : List Nat).map fun n : Nat => (n : Int)).getD 2 0 = (x2 : Int) := rfl
      rw [e0] at c3
      rw [e1] at c4
      rw [e1, e2] at h'
      obtain rfl : x0 = 1 := by omega
      exact ⟨x1, x2, h'.symm, by omega, h1 x2 (by simp), h3⟩
  · rw [if_neg c] at h
    exact absurd h (by simp)
theorem headQ_put (bn mn : Nat) (h1 : bn < 2 ^ 32) (h2 : mn < 2 ^ 64) : headQ (nums [1, bn, mn]) = some ((bn : Int), (mn : Int)) := by
  unfold headQ
  rw [A_nums _ [1, bn, mn] (fun n hn => by
    simp only [List.mem_cons, List.not_mem_nil, or_false] at hn
    rcases hn with rfl | rfl | rfl <;> omega) (Nat.le_refl _)]
  have e0 : (([1, bn, mn] : List Nat).map fun n : Nat => (n : Int)).getD 0 0 = ((1 : Nat) : Int) := rfl
  have e1 : (([1, bn, mn] : List Nat).map fun n : Nat => (n : Int)).getD 1 0 = (bn : Int) := rfl
  have e2 : (([1, bn, mn] : List Nat).map fun n : Nat => (n : Int)).getD 2 0 = (mn : Int) := rfl
  have e3 : (([1, bn, mn] : List Nat).map fun n : Nat => (n : Int)).length = 3 := rfl
  dsimp only
  rw [e0, e1, e2, e3, if_pos ⟨rfl, rfl, rfl, by omega⟩]
theorem head_eq (k : Nat) (b : List Int) (hb : Bytes b) (hl : b.length ≤ 300) (hk : 1000 ≤ k) : headF k b = some (headQ b) := by
  unfold headF headQ
  rw [Go.Proofs.YtknkncdlcoglpaaDoor.FrVari.all_eq b.length b k (Nat.le_refl _) hb (by omega) (by omega), obind]
  by_cases c : (A b.length b).2 = true ∧ (A b.length b).1.length = 3 ∧ (A b.length b).1.getD 0 0 = 1 ∧ (A b.length b).1.getD 1 0 ≤ 4294967295
  · obtain ⟨ns, h1, h2, h3⟩ := A_true hb (Nat.le_refl _) c.1
    have h0 : 0 ≤ (A b.length b).1.getD 1 0 := by
      rw [h2]
      match ns with
      | [] => exact Int.le_refl _
      | [_] => exact Int.le_refl _
      | _ :: x :: _ => exact Int.natCast_nonneg x
    rw [if_pos c, if_pos h0, if_pos c]
  · rw [if_neg c, if_neg c]
def partQ (b : List Int) (n : Nat) : Option (List Int) := if (g 0 0 b).2 = 0 ∨ (g 0 0 b).1 ≠ (n : Int) then none else some (b.drop (g 0 0 b).2.toNat)
theorem part_eq (k : Nat) (b : List Int) (n : Nat) (hb : Bytes b) (hl : b.length ≤ 300) (hk : 1000 ≤ k) : partF k b n = some (partQ b n) := by
  unfold partF partQ
  rw [get_eq b k hb (by omega) (by omega), obind]
  have hle := g_le b hb
  by_cases c : (g 0 0 b).2 = 0 ∨ (g 0 0 b).1 ≠ (n : Int)
  · rw [if_pos c, if_pos c]
  · rw [if_neg c, if_neg c, if_pos ⟨⟨hle.2.1, hle.1⟩, by omega⟩]
theorem partQ_inv {b p : List Int} {n : Nat} (hb : Bytes b) (h : partQ b n = some p) : b = pb n ++ p := by
  unfold partQ at h
  have hle := g_le b hb
  by_cases c : (g 0 0 b).2 = 0 ∨ (g 0 0 b).1 ≠ (n : Int)
  · rw [if_pos c] at h
    exact absurd h (by simp)
  · rw [if_neg c] at h
    obtain ⟨m, rest, hm, e, eg⟩ := g_read b hb (by omega)
    have h' := Option.some.inj h
    rw [eg] at c h'
    obtain rfl : m = n := by
      have : ¬ ((m : Int) ≠ (n : Int)) := fun hh => c (.inr hh)
      omega
    rw [e] at h' ⊢
    rw [← h']
    show pb m ++ rest = pb m ++ (pb m ++ rest).drop ((pb m).length : Int).toNat
    rw [Int.toNat_natCast, List.drop_left]
theorem partQ_put (n : Nat) (p : List Int) (hn : n < 2 ^ 64) : partQ (pb n ++ p) n = some p := by
  unfold partQ
  have hp := pb_len n
  rw [g_pb n p hn]
  dsimp only
  rw [if_neg (by omega), Int.toNat_natCast, List.drop_left]
def tailQ (b : List Int) (many : Int) (n : Nat) : Bool := decide ((g 0 0 b).2 ≠ 0 ∧ (g 0 0 b).2 = (b.length : Int) ∧ (g 0 0 b).1 = many ∧ (g 0 0 b).1 = (n : Int))
theorem tail_eq (k : Nat) (b : List Int) (many : Int) (n : Nat) (hb : Bytes b) (hl : b.length ≤ 300) (hk : 1000 ≤ k) : tailF k b many n = some (tailQ b many n) := by
  unfold tailF tailQ
  rw [get_eq b k hb (by omega) (by omega), obind]
theorem tailQ_inv {b : List Int} {many : Int} {n : Nat} (hb : Bytes b) (h : tailQ b many n = true) : many = (n : Int) ∧ b = pb n := by
  have h := of_decide_eq_true h
  have hle := g_le b hb
  obtain ⟨m, rest, hm, e, eg⟩ := g_read b hb (by omega)
  rw [eg] at h
  obtain ⟨_, h2, h3, h4⟩ := h
  have h2' : ((pb m).length : Int) = (b.length : Int) := h2
  have h4' : (m : Int) = (n : Int) := h4
  have h3' : (m : Int) = many := h3
  obtain rfl : m = n := by omega
  refine ⟨by omega, ?_⟩
  have hr : rest = [] := by
    have := congrArg List.length e
    rw [List.length_append] at this
    exact List.eq_nil_of_length_eq_zero (by omega)
  rw [e, hr, List.append_nil]
theorem tailQ_put (n : Nat) (hn : n < 2 ^ 64) : tailQ (pb n) (n : Int) n = true := by
  have hp := pb_len n
  have e := g_pb n [] hn
  rw [List.append_nil] at e
  unfold tailQ
  rw [e]
  exact decide_eq_true ⟨by show ((pb n).length : Int) ≠ 0; omega, rfl, rfl, rfl⟩
def kindQ (i n : Nat) : Int := if i = 0 then 1 else if i + 1 = n then 3 else 2
theorem kind_eq (i n : Nat) (h1 : 1 ≤ n) (h2 : n < 1000000) : flow_kind.f (i : Int) (n : Int) = some (kindQ i n) := by
  unfold flow_kind.f kindQ
  have ew : wrap64 ((n : Int) - 1) = (n : Int) - 1 := by unfold wrap64; omega
  rw [ew]
  by_cases c : i = 0
  · rw [if_pos (by omega), if_pos c]
  · by_cases c2 : i + 1 = n
    · rw [if_neg (by omega), if_pos (by omega), if_neg c, if_pos c2]
    · rw [if_neg (by omega), if_neg (by omega), if_neg c, if_neg c2]
def stepQ (c : Int) (b : List Int) (many base : Int) (ps : List (List Int)) : Option (Int × Int × List (List Int)) :=
  if c = 1 then (headQ b).map fun t => (t.2, t.1, ps)
  else if c = 2 then (partQ b ps.length).map fun p => (many, base, ps ++ [p])
  else if tailQ b many ps.length then some (many, base, ps) else none
theorem step_eq (k : Nat) (c : Int) (b : List Int) (many base : Int) (ps : List (List Int)) (hc : c = 1 ∨ c = 2 ∨ c = 3) (hb : Bytes b) (hl : b.length ≤ 300) (hp : ps.length < 1000000) (hk : 1000 ≤ k) : stepF k c b many base ps = some (stepQ c b many base ps) := by
  unfold stepF stepQ
  rcases hc with rfl | rfl | rfl
  · rw [if_pos rfl, if_pos rfl, head_eq k b hb hl hk, obind]
  · rw [if_neg (by decide), if_pos (by omega), if_pos rfl, if_neg (by decide), if_pos rfl, part_eq k b _ hb hl hk, obind]
  · rw [if_neg (by decide), if_pos (by omega), if_neg (by decide), if_pos rfl, if_neg (by decide), if_neg (by decide), tail_eq k b many _ hb hl hk, obind]
def readQ (n : Nat) : Nat → Int → Int → List (List Int) → List Fr → Int × Int × List (List Int)
  | _, _, base, ps, [] => (0, base, ps)
  | i, many, base, ps, x :: xs => if x.f0 = kindQ i n then (match stepQ (kindQ i n) x.f1 many base ps with | none => (4, 0, []) | some t => readQ n (i + 1) t.1 t.2.1 t.2.2 xs) else (4, 0, [])
theorem kindQ_three (i n : Nat) : kindQ i n = 1 ∨ kindQ i n = 2 ∨ kindQ i n = 3 := by
  unfold kindQ
  split
  · exact .inl rfl
  · split
    · exact .inr (.inr rfl)
    · exact .inr (.inl rfl)
theorem stepQ_len {c : Int} {b : List Int} {many base : Int} {ps : List (List Int)} {t : Int × Int × List (List Int)} (h : stepQ c b many base ps = some t) : t.2.2.length ≤ ps.length + 1 := by
  unfold stepQ at h
  split at h
  · obtain ⟨q, _, rfl⟩ := Option.map_eq_some_iff.1 h
    exact Nat.le_succ _
  · split at h
    · obtain ⟨q, _, rfl⟩ := Option.map_eq_some_iff.1 h
      show (ps ++ [q]).length ≤ _
      rw [List.length_append, List.length_singleton]
      exact Nat.le_refl _
    · split at h
      · obtain rfl := Option.some.inj h
        exact Nat.le_succ _
      · exact absurd h (by simp)
theorem readL_eq (k n : Nat) (hk : 1000 ≤ k) (h1 : 1 ≤ n) (h2 : n < 1000000) : ∀ (xs : List Fr) (i : Nat) (many base : Int) (ps : List (List Int)), (∀ x ∈ xs, Bytes x.f1 ∧ x.f1.length ≤ 255) → ps.length + xs.length < 1000000 → readL k n i many base ps xs = some (readQ n i many base ps xs)
  | [], _, _, _, _, _, _ => rfl
  | x :: xs, i, many, base, ps, hx, hl => by
    have hx0 := hx x List.mem_cons_self
    rw [List.length_cons] at hl
    have e : readL k n i many base ps (x :: xs) = (flow_kind.f (i : Int) (n : Int)).bind fun c => if x.f0 = c then (stepF k c x.f1 many base ps).bind fun q => (match q with | none => some (4, 0, []) | some t => readL k n (i + 1) t.1 t.2.1 t.2.2 xs) else some (4, 0, []) := rfl
    have e' : readQ n i many base ps (x :: xs) = if x.f0 = kindQ i n then (match stepQ (kindQ i n) x.f1 many base ps with | none => (4, 0, []) | some t => readQ n (i + 1) t.1 t.2.1 t.2.2 xs) else (4, 0, []) := rfl
    rw [e, e', kind_eq i n h1 h2, obind]
    by_cases c : x.f0 = kindQ i n
    · rw [if_pos c, if_pos c, step_eq k _ _ _ _ _ (kindQ_three i n) hx0.1 (by omega) (by omega) hk, obind]
      cases hs : stepQ (kindQ i n) x.f1 many base ps with
      | none => rfl
      | some t =>
        have := stepQ_len hs
        exact readL_eq k n hk h1 h2 xs (i + 1) t.1 t.2.1 t.2.2 (fun y hy => hx y (List.mem_cons_of_mem _ hy)) (by omega)
    · rw [if_neg c, if_neg c]
/-! all frames of bytes -/
theorem allL_ok : ∀ (m : Nat) (l : List Int), l.length < m → Bytes l → (allL l).2 = 0 → (∀ x ∈ (allL l).1, okR x ∧ Bytes x.f1) ∧ l = bytesF (allL l).1 ∧ (allL l).1.length ≤ l.length
  | 0, _, h, _, _ => absurd h (Nat.not_lt_zero _)
  | m + 1, l, hm, hb, h => by
    by_cases c : l = []
    · subst c
      rw [allL_nil]
      exact ⟨(fun x hx => by cases hx), rfl, Nat.le_refl _⟩
    · by_cases c2 : (getP l).2.2.2 = 0
      · obtain ⟨a, b, r, e, ha, hbl, hbb, hbr, eg⟩ := get_inv hb c2
        subst e
        have ef := allL_frame ha.1 ha.2 hbl hbb hbr
        have hl : (frameB a b ++ r).length = b.length + 10 + r.length := by rw [List.length_append, frameB_length]
        rw [ef] at h ⊢
        by_cases c3 : (allL r).2 = 0
        · rw [if_pos c3] at h ⊢
          obtain ⟨i1, i2, i3⟩ := allL_ok m r (by omega) hbr c3
          refine ⟨?_, ?_, ?_⟩
          · intro x hx
            rcases List.mem_cons.1 hx with rfl | hx
            · exact ⟨⟨ha, hbl⟩, hbb⟩
            · exact i1 x hx
          · rw [bytesF_cons, ← i2]
          · rw [List.length_cons, hl]
            omega
        · rw [if_neg c3] at h
          exact absurd h c3
      · rw [allL_cons hb c, if_neg c2] at h
        exact absurd h c2
theorem allL_bytesF (r : List Int) (hr : Bytes r) : ∀ (F : List Fr), (∀ x ∈ F, okR x ∧ Bytes x.f1) → allL (bytesF F ++ r) = if (allL r).2 = 0 then (F ++ (allL r).1, 0) else ([], (allL r).2)
  | [], _ => by
    show allL r = _
    by_cases c : (allL r).2 = 0
    · rw [if_pos c]
      exact Prod.ext rfl c
    · rw [if_neg c]
      exact Prod.ext (allL_err hr c) rfl
  | x :: F, h => by
    have hx := h x List.mem_cons_self
    have ih := allL_bytesF r hr F fun y hy => h y (List.mem_cons_of_mem _ hy)
    have hbF : Bytes (bytesF F ++ r) := by
      refine Bytes.append ?_ hr
      intro z hz
      obtain ⟨l, hl, hz⟩ := List.mem_flatten.1 hz
      obtain ⟨y, hy, rfl⟩ := List.mem_map.1 hl
      have hy' := h y (List.mem_cons_of_mem _ hy)
      exact frame_bytes hy'.1.1.1 hy'.1.1.2 hy'.1.2 hy'.2 z hz
    rw [bytesF_cons, List.append_assoc, allL_frame hx.1.1.1 hx.1.1.2 hx.1.2 hx.2 hbF, ih]
    by_cases c : (allL r).2 = 0
    · rw [if_pos c, if_pos c]
      rfl
    · simp only [if_neg c]
theorem bytesF_bytes {F : List Fr} (h : ∀ x ∈ F, okR x ∧ Bytes x.f1) : Bytes (bytesF F) := fun z hz => by
  obtain ⟨l, hl, hz⟩ := List.mem_flatten.1 hz
  obtain ⟨y, hy, rfl⟩ := List.mem_map.1 hl
  have hy' := h y hy
  exact frame_bytes hy'.1.1.1 hy'.1.1.2 hy'.1.2 hy'.2 z hz
theorem allL_F {F : List Fr} (h : ∀ x ∈ F, okR x ∧ Bytes x.f1) : allL (bytesF F) = (F, 0) := by
  have := allL_bytesF [] (fun x hx => by cases hx) F h
  rw [List.append_nil, allL_nil] at this
  rw [this, if_pos rfl, List.append_nil]
/-- what Get answers -/
def getQ (l : List Int) : Int × List (List Int) × Int :=
  if (allL l).2 = 0 then (if (allL l).1.length < 2 then (0, [], 4) else
    (if (readQ (allL l).1.length 0 0 0 [] (allL l).1).1 = 0 then (if mayB (readQ (allL l).1.length 0 0 0 [] (allL l).1).2.2 = true then ((readQ (allL l).1.length 0 0 0 [] (allL l).1).2.1, (readQ (allL l).1.length 0 0 0 [] (allL l).1).2.2, 0) else (0, [], 4)) else (0, [], (readQ (allL l).1.length 0 0 0 [] (allL l).1).1))) else (0, [], (allL l).2)
theorem getQ_eq (k : Nat) (l : List Int) (hb : Bytes l) (hl : l.length < 1000000) (hk : l.length + 1010 ≤ k) : flow_Get.f k l = some (getQ l) := by
  unfold flow_Get.f flow_read.f getQ
  rw [allf_eq k l hb hl (by omega), obind]
  by_cases c : (allL l).2 = 0
  · rw [if_pos c, if_pos c]
    by_cases c2 : (allL l).1.length < 2
    · rw [if_pos c2, if_pos c2, obind]
      rfl
    · obtain ⟨h1, h2, h3⟩ := allL_ok (l.length + 1) l (Nat.lt_succ_self _) hb c
      rw [if_neg c2, if_neg c2, if_pos (by omega), readL_eq k _ (by omega) (by omega) (by omega) _ 0 0 0 [] (fun x hx => ⟨(h1 x hx).2, (h1 x hx).1.2⟩) (by rw [List.length_nil]; omega), obind]
      by_cases c3 : (readQ (allL l).1.length 0 0 0 [] (allL l).1).1 = 0
      · rw [if_pos c3, if_pos c3, may_eq, obind, obind]
        by_cases c4 : mayB (readQ (allL l).1.length 0 0 0 [] (allL l).1).2.2 = true
        · rw [if_pos c4, if_pos c4, if_pos c3]
        · rw [if_neg c4, if_neg c4]
          rfl
      · rw [if_neg c3, if_neg c3, obind, if_neg c3]
  · rw [if_neg c, if_neg c, obind]
    dsimp only
    rw [if_neg c]
end Go.Proofs.YtknkncdlcoglpaaDoor.FrFlow
