import Derived.Test.YtknkncdlcoglpaaDoorFrFlowGet
namespace Go.Proofs.YtknkncdlcoglpaaDoor.FrFlow
open Go.RowKit Go.Proofs.YtknkncdlcoglpaaDoor.PFr Go.Proofs.YtknkncdlcoglpaaDoorW.PrintWords Go.Proofs.YtknkncdlcoglpaaDoorW.PrintLast Go.Proofs.YtknkncdlcoglpaaDoor.FrVari
open Go.Proofs.YtknkncdlcoglpaaDoor.FrFrame (frameB frameB_length allL allf_eq allL_frame allL_nil frame_bytes put_ok next_nat getP get_inv get_err allL_cons allL_err equal_eq)
/-! What is put, is read; what is read, was put. -/
def BytesP (ps : List (List Int)) : Prop := ∀ p ∈ ps, Bytes p
theorem partsF_ok : ∀ (ps : List (List Int)) (i : Nat), BytesP ps → upto 200 ps → i + ps.length ≤ 100 → ∀ x ∈ partsF i ps, okR x ∧ Bytes x.f1
  | [], _, _, _, _ => fun x hx => by cases hx
  | p :: ps, i, hb, hu, hi => fun x hx => by
    rw [List.length_cons] at hi
    rcases List.mem_cons.1 hx with rfl | hx
    · have h1 : (pb i).length = 1 := by rw [pb_one (by omega)]; rfl
      have h2 := hu p List.mem_cons_self
      exact ⟨okR_mk 2 _ (by decide) (by decide) (by rw [List.length_append]; omega), (pb_bytes (by omega)).append (hb p List.mem_cons_self)⟩
    · exact partsF_ok ps (i + 1) (fun q hq => hb q (List.mem_cons_of_mem _ hq)) (fun q hq => hu q (List.mem_cons_of_mem _ hq)) (by omega) x hx
theorem framesF_ok {b : Nat} (hb : b < 2 ^ 32) {ps : List (List Int)} (hp : BytesP ps) (hm : mayB ps = true) : ∀ x ∈ framesF b ps, okR x ∧ Bytes x.f1 := fun x hx => by
  obtain ⟨hl, hu⟩ := may_iff.1 hm
  rcases List.mem_cons.1 hx with rfl | hx
  · have := head_len hb hl
    exact ⟨okR_mk 1 _ (by decide) (by decide) (by omega), nums_bytes fun n hn => by
      simp only [List.mem_cons, List.not_mem_nil, or_false] at hn
      rcases hn with rfl | rfl | rfl <;> omega⟩
  · rcases List.mem_append.1 hx with hx | hx
    · exact partsF_ok ps 0 hp hu (by omega) x hx
    · rw [List.mem_singleton.1 hx]
      have := pb_len ps.length
      exact ⟨okR_mk 3 _ (by decide) (by decide) (by omega), pb_bytes (by omega)⟩
theorem flowB_bytes {b : Nat} (hb : b < 2 ^ 32) {ps : List (List Int)} (hp : BytesP ps) (hm : mayB ps = true) : Bytes (flowB b ps) := bytesF_bytes (framesF_ok hb hp hm)
theorem allL_flow {b : Nat} (hb : b < 2 ^ 32) {ps : List (List Int)} (hp : BytesP ps) (hm : mayB ps = true) : allL (flowB b ps) = (framesF b ps, 0) := allL_F (framesF_ok hb hp hm)
theorem readQ_cons (n i : Nat) (many base : Int) (ps : List (List Int)) (x : Fr) (xs : List Fr) : readQ n i many base ps (x :: xs) = if x.f0 = kindQ i n then (match stepQ (kindQ i n) x.f1 many base ps with | none => (4, 0, []) | some t => readQ n (i + 1) t.1 t.2.1 t.2.2 xs) else (4, 0, []) := rfl
theorem readQ_mid (n : Nat) (many base : Int) : ∀ (qs acc : List (List Int)), many = ((acc.length + qs.length : Nat) : Int) → acc.length + qs.length + 2 = n → n < 1000 → readQ n (acc.length + 1) many base acc (partsF acc.length qs ++ [tailR (acc.length + qs.length)]) = (0, base, acc ++ qs)
  | [], acc, hm, hn, h1 => by
    have e : acc.length + ([] : List (List Int)).length = acc.length := rfl
    rw [e] at hm ⊢
    have hk : kindQ (acc.length + 1) n = 3 := by
      unfold kindQ
      rw [if_neg (by omega), if_pos (by rw [List.length_nil] at hn; omega)]
    have hs : stepQ 3 (pb acc.length) many base acc = some (many, base, acc) := by
      unfold stepQ
      rw [if_neg (by decide), if_neg (by decide), hm, tailQ_put acc.length (by omega), if_pos rfl]
    show readQ n (acc.length + 1) many base acc [tailR acc.length] = _
    rw [readQ_cons, hk]
    have e1 : (tailR acc.length).f0 = 3 := rfl
    have e2 : (tailR acc.length).f1 = pb acc.length := rfl
    rw [e1, e2, if_pos rfl, hs, List.append_nil]
    rfl
  | q :: qs, acc, hm, hn, h1 => by
    rw [List.length_cons] at hm hn
    have hk : kindQ (acc.length + 1) n = 2 := by
      unfold kindQ
      rw [if_neg (by omega), if_neg (by omega)]
    have hs : stepQ 2 (pb acc.length ++ q) many base acc = some (many, base, acc ++ [q]) := by
      unfold stepQ
      rw [if_neg (by decide), if_pos rfl, partQ_put acc.length q (by omega)]
      rfl
    have hl : (acc ++ [q]).length = acc.length + 1 := by rw [List.length_append, List.length_singleton]
    have ih := readQ_mid n many base qs (acc ++ [q]) (by rw [hm, hl]; congr 1; omega) (by rw [hl]; omega) h1
    rw [hl] at ih
    have e3 : acc.length + 1 + qs.length = acc.length + (q :: qs).length := by rw [List.length_cons]; omega
    rw [e3] at ih
    show readQ n (acc.length + 1) many base acc ((⟨2, pb acc.length ++ q⟩ : Fr) :: (partsF (acc.length + 1) qs ++ [tailR (acc.length + (q :: qs).length)])) = _
    rw [readQ_cons, hk]
    have e1 : (⟨2, pb acc.length ++ q⟩ : Fr).f0 = 2 := rfl
    have e2 : (⟨2, pb acc.length ++ q⟩ : Fr).f1 = pb acc.length ++ q := rfl
    rw [e1, e2, if_pos rfl, hs]
    dsimp only
    rw [ih, List.append_assoc]
    rfl
theorem get_put {b : Nat} (hb : b < 2 ^ 32) {ps : List (List Int)} (hp : BytesP ps) (hm : mayB ps = true) : getQ (flowB b ps) = ((b : Int), ps, 0) := by
  obtain ⟨hl, hu⟩ := may_iff.1 hm
  unfold getQ
  rw [allL_flow hb hp hm]
  dsimp only
  have hn := framesF_length b ps
  have hr : readQ (framesF b ps).length 0 0 0 [] (framesF b ps) = (0, (b : Int), ps) := by
    have e : framesF b ps = headR b ps.length :: (partsF 0 ps ++ [tailR ps.length]) := rfl
    have hk : kindQ 0 (framesF b ps).length = 1 := rfl
    have hs : stepQ 1 (nums [1, b, ps.length]) 0 0 [] = some ((ps.length : Int), (b : Int), []) := by
      unfold stepQ
      rw [if_pos rfl, headQ_put b ps.length hb (by omega)]
      rfl
    have hmid := readQ_mid (framesF b ps).length (ps.length : Int) (b : Int) ps [] (by simp) (by rw [hn]; simp) (by omega)
    conv => lhs; arg 6; rw [e]
    rw [readQ_cons, hk]
    have e1 : (headR b ps.length).f0 = 1 := rfl
    have e2 : (headR b ps.length).f1 = nums [1, b, ps.length] := rfl
    rw [e1, e2, if_pos rfl, hs]
    simpa using hmid
  rw [if_pos rfl, if_neg (by omega), hr]
  dsimp only
  rw [if_pos rfl, if_pos hm]
theorem four_ne {s : Int × Int × List (List Int)} {b : Int} {ps : List (List Int)} (h : ((4 : Int), (0 : Int), ([] : List (List Int))) = (0, b, ps)) : False := by
  have h1 : (4 : Int) = 0 := congrArg Prod.fst h
  exact absurd h1 (by decide)
theorem readQ_inv (n : Nat) (many base : Int) (b : Int) (ps : List (List Int)) : ∀ (X : List Fr) (acc : List (List Int)), X ≠ [] → acc.length + 1 + X.length = n → (∀ x ∈ X, Bytes x.f1) → readQ n (acc.length + 1) many base acc X = (0, b, ps) →
    b = base ∧ ∃ qs, ps = acc ++ qs ∧ X = partsF acc.length qs ++ [tailR ps.length] ∧ many = (ps.length : Int) ∧ ∀ q ∈ qs, Bytes q
  | [], _, h, _, _, _ => absurd rfl h
  | [x], acc, _, hn, hx, h => by
    have hk : kindQ (acc.length + 1) n = 3 := by
      unfold kindQ
      rw [if_neg (by omega), if_pos (by rw [List.length_singleton] at hn; omega)]
    rw [readQ_cons, hk] at h
    by_cases c : x.f0 = 3
    · rw [if_pos c] at h
      unfold stepQ at h
      rw [if_neg (by decide), if_neg (by decide)] at h
      by_cases c2 : tailQ x.f1 many acc.length = true
      · rw [if_pos c2] at h
        obtain ⟨h1, h2⟩ := tailQ_inv (hx x List.mem_cons_self) c2
        have h' : ((0 : Int), base, acc) = (0, b, ps) := h
        obtain ⟨_, h'⟩ := Prod.mk.inj h'
        obtain ⟨rfl, rfl⟩ := Prod.mk.inj h'
        refine ⟨rfl, [], (List.append_nil _).symm, ?_, h1, fun q hq => by cases hq⟩
        show [x] = [tailR acc.length]
        rw [show x = ⟨x.f0, x.f1⟩ from rfl, c, h2]
        rfl
      · rw [if_neg c2] at h
        exact (four_ne (s := (0, 0, [])) h).elim
    · rw [if_neg c] at h
      exact (four_ne (s := (0, 0, [])) h).elim
  | x :: y :: X, acc, _, hn, hx, h => by
    rw [List.length_cons, List.length_cons] at hn
    have hk : kindQ (acc.length + 1) n = 2 := by
      unfold kindQ
      rw [if_neg (by omega), if_neg (by omega)]
    rw [readQ_cons, hk] at h
    by_cases c : x.f0 = 2
    · rw [if_pos c] at h
      unfold stepQ at h
      rw [if_neg (by decide), if_pos rfl] at h
      cases hq : partQ x.f1 acc.length with
      | none =>
        rw [hq] at h
        exact (four_ne (s := (0, 0, [])) h).elim
      | some p =>
        rw [hq] at h
        have hxb := hx x List.mem_cons_self
        have e := partQ_inv hxb hq
        have hl : (acc ++ [p]).length = acc.length + 1 := by rw [List.length_append, List.length_singleton]
        have h' : readQ n (acc.length + 1 + 1) many base (acc ++ [p]) (y :: X) = (0, b, ps) := h
        rw [← hl] at h'
        obtain ⟨rfl, qs, h2, h3, h4, h5⟩ := readQ_inv n many base b ps (y :: X) (acc ++ [p]) (by simp) (by rw [hl, List.length_cons]; omega) (fun z hz => hx z (List.mem_cons_of_mem _ hz)) h'
        refine ⟨rfl, p :: qs, by rw [h2, List.append_assoc]; rfl, ?_, h4, ?_⟩
        · rw [hl] at h3
          rw [h3]
          show _ = (⟨2, pb acc.length ++ p⟩ : Fr) :: (partsF (acc.length + 1) qs ++ [tailR ps.length])
          rw [← e, show x = ⟨x.f0, x.f1⟩ from rfl, c]
        · intro q hq'
          rcases List.mem_cons.1 hq' with rfl | hq'
          · rw [e] at hxb
            exact fun z hz => hxb z (List.mem_append_right _ hz)
          · exact h5 q hq'
    · rw [if_neg c] at h
      exact (four_ne (s := (0, 0, [])) h).elim
theorem getQ_inv {l : List Int} (hb : Bytes l) (h : (getQ l).2.2 = 0) : ∃ (b : Nat) (ps : List (List Int)), b < 2 ^ 32 ∧ BytesP ps ∧ mayB ps = true ∧ l = flowB b ps ∧ getQ l = ((b : Int), ps, 0) := by
  have key : ∃ (b : Nat) (ps : List (List Int)), b < 2 ^ 32 ∧ BytesP ps ∧ mayB ps = true ∧ l = flowB b ps := by
    unfold getQ at h
    by_cases c : (allL l).2 = 0
    · rw [if_pos c] at h
      by_cases c2 : (allL l).1.length < 2
      · rw [if_pos c2] at h
        exact absurd h (by decide)
      · rw [if_neg c2] at h
        obtain ⟨h1, h2, _⟩ := allL_ok (l.length + 1) l (Nat.lt_succ_self _) hb c
        generalize hF : (allL l).1 = F at *
        match F, c2 with
        | [], c2 => exact absurd (Nat.zero_lt_succ 1) c2
        | x :: X, c2 =>
          have hX : X ≠ [] := by
            rintro rfl
            exact c2 (by simp)
          by_cases c3 : (readQ (x :: X).length 0 0 0 [] (x :: X)).1 = 0
          · rw [if_pos c3] at h
            by_cases c4 : mayB (readQ (x :: X).length 0 0 0 [] (x :: X)).2.2 = true
            · obtain ⟨b, hb'⟩ : ∃ b, b = (readQ (x :: X).length 0 0 0 [] (x :: X)).2.1 := ⟨_, rfl⟩
              obtain ⟨ps, hps⟩ : ∃ ps, ps = (readQ (x :: X).length 0 0 0 [] (x :: X)).2.2 := ⟨_, rfl⟩
              have hr : readQ (x :: X).length 0 0 0 [] (x :: X) = (0, b, ps) := by
                rw [hb', hps]
                exact Prod.ext c3 rfl
              rw [← hps] at c4
              clear hb' hps h c3
              rw [readQ_cons, show kindQ 0 (x :: X).length = 1 from rfl] at hr
              by_cases c5 : x.f0 = 1
              · rw [if_pos c5] at hr
                unfold stepQ at hr
                rw [if_pos rfl] at hr
                cases hq : headQ x.f1 with
                | none =>
                  rw [hq] at hr
                  exact (four_ne (s := (0, 0, [])) hr).elim
                | some t =>
                  obtain ⟨bn, mn, rfl, hbn, hmn, e⟩ := headQ_inv (h1 x List.mem_cons_self).2 hq
                  rw [hq] at hr
                  have hr' : readQ (x :: X).length (([] : List (List Int)).length + 1) (mn : Int) (bn : Int) [] X = (0, b, ps) := hr
                  obtain ⟨rfl, qs, e1, e2, e3, e4⟩ := readQ_inv (x :: X).length (mn : Int) (bn : Int) b ps X [] hX (by rw [List.length_cons, List.length_nil]; omega) (fun z hz => (h1 z (List.mem_cons_of_mem _ hz)).2) hr'
                  rw [List.nil_append] at e1
                  subst e1
                  refine ⟨bn, ps, hbn, e4, c4, ?_⟩
                  rw [h2]
                  unfold flowB framesF
                  rw [e2, show x = ⟨x.f0, x.f1⟩ from rfl, c5, e, show mn = ps.length by omega]
                  rfl
              · rw [if_neg c5] at hr
                exact (four_ne (s := (0, 0, [])) hr).elim
            · rw [if_neg c4] at h
              exact absurd h (by decide)
          · rw [if_neg c3] at h
            exact absurd h c3
    · rw [if_neg c] at h
      exact absurd h c
  obtain ⟨b, ps, h1, h2, h3, rfl⟩ := key
  exact ⟨b, ps, h1, h2, h3, rfl, get_put h1 h2 h3⟩
/-! no flow's bytes begin another's -/
/-! equality -/
theorem eqRows_eq (k : Nat) : ∀ (l m : List (List Int)), l.length = m.length → (∀ p ∈ l, p.length < 1000000 ∧ p.length + 1 ≤ k) → eqRows k (l.zip m) = some (decide (l = m))
  | [], [], _, _ => rfl
  | [], _ :: _, h, _ => by simp at h
  | _ :: _, [], h, _ => by simp at h
  | p :: l, q :: m, h, hp => by
    have h0 := hp p List.mem_cons_self
    have ih := eqRows_eq k l m (by simpa using h) fun z hz => hp z (List.mem_cons_of_mem _ hz)
    show eqRows k ((p, q) :: l.zip m) = _
    unfold eqRows
    dsimp only
    rw [equal_eq k p q h0.1 h0.2, obind]
    by_cases c : p = q
    · rw [decide_eq_true c, if_pos rfl, ih]
      subst c
      simp only [List.cons.injEq, true_and]
    · rw [decide_eq_false c, if_neg (by decide), decide_eq_false (fun hh => c (List.cons.inj hh).1)]
theorem same_eq (k : Nat) (a b : Int) (l m : List (List Int)) (hl : l.length < 1000000) (hp : ∀ p ∈ l, p.length < 1000000 ∧ p.length + 1 ≤ k) : flow_Same.f k a l b m = some (decide (a = b ∧ l = m)) := by
  unfold flow_Same.f equalRows
  by_cases c : a = b
  · rw [if_pos c, if_pos (by omega)]
    by_cases c2 : l.length = m.length
    · rw [if_pos c2, eqRows_eq k l m c2 hp]
      simp [c]
    · rw [if_neg c2, decide_eq_false (fun hh => c2 (by rw [hh.2]))]
  · rw [if_neg c, decide_eq_false (fun hh => c hh.1)]
/-! where frames begin -/
def cutsFrom : Nat → List Fr → List Nat
  | _, [] => []
  | at_, x :: xs => (at_ + x.f1.length + 10) :: cutsFrom (at_ + x.f1.length + 10) xs
theorem cutsFrom_length : ∀ (F : List Fr) (at_ : Nat), (cutsFrom at_ F).length = F.length
  | [], _ => rfl
  | _ :: F, _ => congrArg (· + 1) (cutsFrom_length F _)
def cutsL (F : List Fr) : List Int := (0 :: cutsFrom 0 F).map fun n : Nat => (n : Int)
theorem cuts_sum (at_ n : Nat) (h : at_ + n < 100000000) : wrap64 ((wrap64 ((wrap64 ((at_ : Int) + (n : Int))) + 6)) + 4) = ((at_ + n + 10 : Nat) : Int) := by
  have e1 : wrap64 ((at_ : Int) + (n : Int)) = ((at_ + n : Nat) : Int) := by unfold wrap64; omega
  rw [e1]
  have e2 : wrap64 (((at_ + n : Nat) : Int) + 6) = ((at_ + n + 6 : Nat) : Int) := by unfold wrap64; omega
  rw [e2]
  unfold wrap64
  omega
theorem last_at (n : Nat) (h1 : 1 ≤ n) (h : n < 100000000) : wrap64 ((n : Int) - 1) = ((n - 1 : Nat) : Int) := by unfold wrap64; omega
theorem cuts_loop (F : List Fr) (hF : ∀ x ∈ F, x.f1.length ≤ 255) (hl : F.length < 100000) : ∀ (d i k : Nat) (acc : List Int) (at_ : Nat), i + d = F.length → 1 ≤ acc.length → acc.length + d < 1000000 → at_ + 265 * d < 100000000 → rd acc ((acc.length - 1 : Nat) : Int) = (at_ : Int) → d < k → flow_Cuts.l0 k acc F (F.length : Int) (i : Int) = some (acc ++ (cutsFrom at_ (F.drop i)).map (fun n : Nat => (n : Int)), true)
  | 0, i, k, acc, at_, hi, h1, ha, hb, hr, hk => by
    obtain ⟨k, rfl⟩ : ∃ q, k = q + 1 := ⟨k - 1, by omega⟩
    rw [flow_Cuts.l0.eq_2, if_neg (by omega), List.drop_of_length_le (by omega)]
    exact congrArg (fun l => some (l, true)) (List.append_nil acc).symm
  | d + 1, i, k, acc, at_, hi, h1, ha, hb, hr, hk => by
    obtain ⟨k, rfl⟩ : ∃ q, k = q + 1 := ⟨k - 1, by omega⟩
    have il : i < F.length := by omega
    have hf := hF _ (List.getElem_mem il)
    have t0 : (i : Int) < (F.length : Int) := by omega
    have t1 : (0 : Int) ≤ (i : Int) := by omega
    have t3 : acc.length < 17592186044416 := by omega
    have t4 : (0 : Int) ≤ ((acc.length - 1 : Nat) : Int) := by omega
    have t5 : ((acc.length - 1 : Nat) : Int) < (acc.length : Int) := by omega
    have ih := cuts_loop F hF hl d (i + 1) k (acc ++ [((at_ + F[i].f1.length + 10 : Nat) : Int)]) (at_ + F[i].f1.length + 10) (by omega) (by rw [List.length_append]; omega) (by rw [List.length_append, List.length_singleton]; omega) (by omega) (by
      rw [List.length_append, List.length_singleton, Nat.add_sub_cancel]
      unfold rd
      rw [Int.toNat_natCast, List.getD_eq_getElem?_getD, List.getElem?_append_right (Nat.le_refl _), Nat.sub_self]
      rfl) (by omega)
    have er : rd_T50 F (i : Int) = F[i] := by
      unfold rd_T50
      rw [Int.toNat_natCast, List.getD_eq_getElem?_getD, List.getElem?_eq_getElem il]
      rfl
    have el := last_at acc.length h1 (by omega)
    have es := cuts_sum at_ F[i].f1.length (by omega)
    have ew := next_nat i (by omega)
    rw [flow_Cuts.l0.eq_2, if_pos t0, if_pos t1, if_pos t0, er, el, hr, es, ew, if_pos t4, if_pos t5, if_pos t3, ih, List.drop_eq_getElem_cons il, List.append_assoc]
    rfl
theorem cuts_eq (k : Nat) (l : List Int) (hb : Bytes l) (hl : l.length < 90000) (hk : l.length + 1010 ≤ k) : flow_Cuts.f k l = some (if (getQ l).2.2 = 0 then (cutsL (allL l).1, true) else ([], false)) := by
  unfold flow_Cuts.f
  rw [getQ_eq k l hb (by omega) hk, obind]
  by_cases c : (getQ l).2.2 = 0
  · have c0 : (allL l).2 = 0 := by
      by_cases c1 : (allL l).2 = 0
      · exact c1
      · unfold getQ at c
        rw [if_neg c1] at c
        exact absurd c c1
    obtain ⟨h1, h2, h3⟩ := allL_ok (l.length + 1) l (Nat.lt_succ_self _) hb c0
    rw [if_pos c, if_pos c, allf_eq k l hb (by omega) (by omega), obind]
    exact cuts_loop (allL l).1 (fun x hx => (h1 x hx).1.2) (by omega) (allL l).1.length 0 k [0] 0 (by omega) (by decide) (by rw [List.length_singleton]; omega) (by omega) rfl (by omega)
  · rw [if_neg c, if_neg c]
end Go.Proofs.YtknkncdlcoglpaaDoor.FrFlow
