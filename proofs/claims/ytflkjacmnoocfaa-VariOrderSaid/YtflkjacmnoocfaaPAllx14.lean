-- Written by wip/tools/myprint.py, a program of the prover's own, over the kit's print; the contracts named 'HAND' there are typed by hand.
import Derived.Test.YtflkjacmnoocfaaPAllx0
import Derived.Test.YtflkjacmnoocfaaPAllx4
import Derived.Test.YtflkjacmnoocfaaPAllx5
namespace Go.Proofs.Ytflkjacmnoocfaa.PAll
open Go.RowKit Go.Proofs.YtflkjacmnoocfaaW.PrintWords Go.Proofs.YtflkjacmnoocfaaW.PrintLast Go.Proofs.YtflkjacmnoocfaaW.PrintMore
attribute [local go_sem] max2_int min2_int max_two min_two max_three min_three max_four min_four   -- for this text's walks alone
set_option linter.unusedVariables false
set_option linter.unusedSimpArgs false

/-! ### foliatelaw01_VariOrder: function 8 -/
mutual
def foliatelaw01_VariOrder.j0 : Nat → Int → Int → Bool → List Int → List Int → Bool → Option (Bool)
  | 0, _, _, _, _, _, _ => none
  | k + 1, x0, x1, x5, x6, x7, x27 => if x27 = true then (if x5 = true then (if x0 = x1 then (some ((strOfNums x6).toList == (strOfNums x7).toList)) else (some true)) else (some false)) else (foliatelaw01_VariOrder.l0 k x0 x1 x6 x7 (wrap64 ((x6.length : Int) - 1)))
def foliatelaw01_VariOrder.l0 : Nat → Int → Int → List Int → List Int → Int → Option (Bool)
  | 0, _, _, _, _, _ => none
  | k + 1, x0, x1, x6, x7, x8 => if x8 > 0 then (if 0 ≤ x8 then (if x8 < (x6.length : Int) then (if x8 < (x7.length : Int) then (if (rd x6 x8) = (rd x7 x8) then (foliatelaw01_VariOrder.l0 k x0 x1 x6 x7 (wrap64 (x8 - 1))) else (some ((decide ((rd x6 x8) < (rd x7 x8))) == (decide (x0 < x1))))) else (none)) else (none)) else (none)) else (if 0 ≤ x8 then (if x8 < (x6.length : Int) then (if x8 < (x7.length : Int) then (some ((decide ((rd x6 x8) < (rd x7 x8))) == (decide (x0 < x1)))) else (none)) else (none)) else (none))
end
def foliatelaw01_VariOrder.f (k : Nat) (a0 : Int) (a1 : Int) : Option (Bool) := (foliatelaw01_awake.f k).bind fun t238 => ((vari_Put.f k a0).bind fun t239 => ((vari_Put.f k a1).bind fun t242 => (if t238 = true then (if (t239.length : Int) = (t242.length : Int) then (foliatelaw01_VariOrder.j0 k a0 a1 t238 t239 t242 (a0 == a1)) else (foliatelaw01_VariOrder.j0 k a0 a1 t238 t239 t242 true)) else (foliatelaw01_VariOrder.j0 k a0 a1 t238 t239 t242 true))))
theorem foliatelaw01_VariOrder.mono_l : ∀ k, (∀ y0 y1 y2 y3 y4 y5, LeO (foliatelaw01_VariOrder.j0 k y0 y1 y2 y3 y4 y5) (foliatelaw01_VariOrder.j0 (k + 1) y0 y1 y2 y3 y4 y5)) ∧ (∀ y0 y1 y2 y3 y4, LeO (foliatelaw01_VariOrder.l0 k y0 y1 y2 y3 y4) (foliatelaw01_VariOrder.l0 (k + 1) y0 y1 y2 y3 y4))
  | 0 => ⟨fun _ _ _ _ _ _ r h => by simp [foliatelaw01_VariOrder.j0] at h, fun _ _ _ _ _ r h => by simp [foliatelaw01_VariOrder.l0] at h⟩
  | k + 1 => by
    obtain ⟨ih0, ih1⟩ := foliatelaw01_VariOrder.mono_l k
    refine ⟨?_, ?_⟩
    · intro y0 y1 y2 y3 y4 y5
      unfold foliatelaw01_VariOrder.j0
      repeat' first
      | (with_reducible exact ih0 _ _ _ _ _ _)
      | (with_reducible exact ih1 _ _ _ _ _)
      | (with_reducible exact foliatelaw01_awake.mono _)
      | (with_reducible exact vari_Put.mono _ _)
      | (with_reducible exact LeO.refl _)
      | (with_reducible exact LeO.none _)
      | (with_reducible refine LeO.ite ?_ ?_)
      | (with_reducible refine LeO.bind ?_ (fun _ => ?_))
      | exact ih0 _ _ _ _ _ _
      | exact ih1 _ _ _ _ _
      | exact foliatelaw01_awake.mono _
      | exact vari_Put.mono _ _
      | exact LeO.none _
      | refine LeO.ite ?_ ?_
      | refine LeO.bind ?_ (fun _ => ?_)
    · intro y0 y1 y2 y3 y4
      unfold foliatelaw01_VariOrder.l0
      repeat' first
      | (with_reducible exact ih0 _ _ _ _ _ _)
      | (with_reducible exact ih1 _ _ _ _ _)
      | (with_reducible exact foliatelaw01_awake.mono _)
      | (with_reducible exact vari_Put.mono _ _)
      | (with_reducible exact LeO.refl _)
      | (with_reducible exact LeO.none _)
      | (with_reducible refine LeO.ite ?_ ?_)
      | (with_reducible refine LeO.bind ?_ (fun _ => ?_))
      | exact ih0 _ _ _ _ _ _
      | exact ih1 _ _ _ _ _
      | exact foliatelaw01_awake.mono _
      | exact vari_Put.mono _ _
      | exact LeO.none _
      | refine LeO.ite ?_ ?_
      | refine LeO.bind ?_ (fun _ => ?_)
theorem foliatelaw01_VariOrder.mono : ∀ a0 a1 k, LeO (foliatelaw01_VariOrder.f k a0 a1) (foliatelaw01_VariOrder.f (k + 1) a0 a1) := by
  intro a0 a1 k
  obtain ⟨ih0, ih1⟩ := foliatelaw01_VariOrder.mono_l k
  unfold foliatelaw01_VariOrder.f
  repeat' first
      | (with_reducible exact ih0 _ _ _ _ _ _)
      | (with_reducible exact ih1 _ _ _ _ _)
      | (with_reducible exact foliatelaw01_awake.mono _)
      | (with_reducible exact vari_Put.mono _ _)
      | (with_reducible exact LeO.refl _)
      | (with_reducible exact LeO.none _)
      | (with_reducible refine LeO.ite ?_ ?_)
      | (with_reducible refine LeO.bind ?_ (fun _ => ?_))
      | exact ih0 _ _ _ _ _ _
      | exact ih1 _ _ _ _ _
      | exact foliatelaw01_awake.mono _
      | exact vari_Put.mono _ _
      | exact LeO.none _
      | refine LeO.ite ?_ ?_
      | refine LeO.bind ?_ (fun _ => ?_)
set_option maxHeartbeats 8000000 in
set_option maxRecDepth 100000 in
theorem foliatelaw01_VariOrder.calls (k : Nat) (a0 : Int) (a1 : Int) (r : Bool) (w : World) (h : foliatelaw01_VariOrder.f k a0 a1 = some r) :
    Calls Try.prog 8 #[.int .u64 a0, .int .u64 a1] w fun e w' => e = .returned (.bool r) ∧ Below w.heap.size w w' := by
  have HB := Aside0.mk (Below.refl w.heap.size w)
  have H : ((foliatelaw01_awake.f k).bind fun t238 => ((vari_Put.f k a0).bind fun t239 => ((vari_Put.f k a1).bind fun t242 => (if t238 = true then (if (t239.length : Int) = (t242.length : Int) then (foliatelaw01_VariOrder.j0 k a0 a1 t238 t239 t242 (a0 == a1)) else (foliatelaw01_VariOrder.j0 k a0 a1 t238 t239 t242 true)) else (foliatelaw01_VariOrder.j0 k a0 a1 t238 t239 t242 true))))) = some r := h
  clear h
  replace H := Option.bind_eq_some_iff.mp H
  obtain ⟨t238, A30, H⟩ := H
  replace H : ((vari_Put.f k a0).bind fun t239 => ((vari_Put.f k a1).bind fun t242 => (if t238 = true then (if (t239.length : Int) = (t242.length : Int) then (foliatelaw01_VariOrder.j0 k a0 a1 t238 t239 t242 (a0 == a1)) else (foliatelaw01_VariOrder.j0 k a0 a1 t238 t239 t242 true)) else (foliatelaw01_VariOrder.j0 k a0 a1 t238 t239 t242 true)))) = some r := H
  have A3 := Aside0.mk A30
  clear A30
  replace H := Option.bind_eq_some_iff.mp H
  obtain ⟨t239, A40, H⟩ := H
  replace H : ((vari_Put.f k a1).bind fun t242 => (if t238 = true then (if (t239.length : Int) = (t242.length : Int) then (foliatelaw01_VariOrder.j0 k a0 a1 t238 t239 t242 (a0 == a1)) else (foliatelaw01_VariOrder.j0 k a0 a1 t238 t239 t242 true)) else (foliatelaw01_VariOrder.j0 k a0 a1 t238 t239 t242 true))) = some r := H
  have A4 := Aside0.mk A40
  clear A40
  replace H := Option.bind_eq_some_iff.mp H
  obtain ⟨t242, A50, H⟩ := H
  replace H : (if t238 = true then (if (t239.length : Int) = (t242.length : Int) then (foliatelaw01_VariOrder.j0 k a0 a1 t238 t239 t242 (a0 == a1)) else (foliatelaw01_VariOrder.j0 k a0 a1 t238 t239 t242 true)) else (foliatelaw01_VariOrder.j0 k a0 a1 t238 t239 t242 true)) = some r := H
  have A5 := Aside0.mk A50
  clear A50
  have HC6 := Aside0.mk H
  clear H
  go_enter Try.func8, Try.ntmps8
  go_upto_region 4 with (first | (go_at_call 10; (with_reducible refine (foliatelaw01_awake.calls k  t238 _ A3.out).mono ?_); rintro e w7 ⟨rfl, hb⟩; have n0_ := Aside0.mk (below_step (by repeat (first | (with_reducible first | exact HB.out | apply below_alloc | apply pw_below_drewN | apply below_drew1) | exact HB.out)) hb); clear HB; have HB := n0_; clear n0_; (try clear hb); (try clear hb2); (try clear hk); (try clear hi)) | (go_at_call 16; (with_reducible refine (vari_Put.calls k a0 t239 _ A4.out).mono ?_); rintro e w8 ⟨v240, rfl, ho0, hb⟩; have n0_ := Aside0.mk (Kd.R_lower ho0 (below_size (by repeat (first | (with_reducible first | exact HB.out | apply below_alloc | apply pw_below_drewN | apply below_drew1) | exact HB.out)))); have n1_ := Aside0.mk (below_step (by repeat (first | (with_reducible first | exact HB.out | apply below_alloc | apply pw_below_drewN | apply below_drew1) | exact HB.out)) hb); clear HB; have HO241 := n0_; have HB := n1_; clear n0_ n1_; (try clear hb); (try clear hb2); (try clear hk); (try clear hi); (try clear ho0)) | (go_at_call 16; (with_reducible refine (vari_Put.calls k a1 t242 _ A5.out).mono ?_); rintro e w9 ⟨v243, rfl, ho0, hb⟩; have n0_ := Aside0.mk (Kd.R_elder' (by (with_reducible repeat (first | apply Kd.R_alloc | apply Kd.R_drewN | apply Kd.R_drew)); exact HO241.out) (Kd.R_base ho0) hb); have n1_ := Aside0.mk (Kd.R_lower (Kd.R_new' ho0 (Kd.R_lt (by (with_reducible repeat (first | apply Kd.R_alloc | apply Kd.R_drewN | apply Kd.R_drew)); exact HO241.out))) (below_size (by repeat (first | (with_reducible first | exact HB.out | apply below_alloc | apply pw_below_drewN | apply below_drew1) | exact HB.out)))); have n2_ := Aside0.mk (below_step (by repeat (first | (with_reducible first | exact HB.out | apply below_alloc | apply pw_below_drewN | apply below_drew1) | exact HB.out)) hb); clear HO241; clear HB; have HO241 := n0_; have HO244 := n1_; have HB := n2_; clear n0_ n1_ n2_; (try clear hb); (try clear hb2); (try clear hk); (try clear hi); (try clear ho0)))
  repeat (go_quiet (first | (go_at_call 10; (with_reducible refine (foliatelaw01_awake.calls k  t238 _ A3.out).mono ?_); rintro e w7 ⟨rfl, hb⟩; have n0_ := Aside0.mk (below_step (by repeat (first | (with_reducible first | exact HB.out | apply below_alloc | apply pw_below_drewN | apply below_drew1) | exact HB.out)) hb); clear HB; have HB := n0_; clear n0_; (try clear hb); (try clear hb2); (try clear hk); (try clear hi)) | (go_at_call 16; (with_reducible refine (vari_Put.calls k a0 t239 _ A4.out).mono ?_); rintro e w8 ⟨v240, rfl, ho0, hb⟩; have n0_ := Aside0.mk (Kd.R_lower ho0 (below_size (by repeat (first | (with_reducible first | exact HB.out | apply below_alloc | apply pw_below_drewN | apply below_drew1) | exact HB.out)))); have n1_ := Aside0.mk (below_step (by repeat (first | (with_reducible first | exact HB.out | apply below_alloc | apply pw_below_drewN | apply below_drew1) | exact HB.out)) hb); clear HB; have HO241 := n0_; have HB := n1_; clear n0_ n1_; (try clear hb); (try clear hb2); (try clear hk); (try clear hi); (try clear ho0)) | (go_at_call 16; (with_reducible refine (vari_Put.calls k a1 t242 _ A5.out).mono ?_); rintro e w9 ⟨v243, rfl, ho0, hb⟩; have n0_ := Aside0.mk (Kd.R_elder' (by (with_reducible repeat (first | apply Kd.R_alloc | apply Kd.R_drewN | apply Kd.R_drew)); exact HO241.out) (Kd.R_base ho0) hb); have n1_ := Aside0.mk (Kd.R_lower (Kd.R_new' ho0 (Kd.R_lt (by (with_reducible repeat (first | apply Kd.R_alloc | apply Kd.R_drewN | apply Kd.R_drew)); exact HO241.out))) (below_size (by repeat (first | (with_reducible first | exact HB.out | apply below_alloc | apply pw_below_drewN | apply below_drew1) | exact HB.out)))); have n2_ := Aside0.mk (below_step (by repeat (first | (with_reducible first | exact HB.out | apply below_alloc | apply pw_below_drewN | apply below_drew1) | exact HB.out)) hb); clear HO241; clear HB; have HO241 := n0_; have HO244 := n1_; have HB := n2_; clear n0_ n1_ n2_; (try clear hb); (try clear hb2); (try clear hk); (try clear hi); (try clear ho0))); go_upto_region 4 with (first | (go_at_call 10; (with_reducible refine (foliatelaw01_awake.calls k  t238 _ A3.out).mono ?_); rintro e w7 ⟨rfl, hb⟩; have n0_ := Aside0.mk (below_step (by repeat (first | (with_reducible first | exact HB.out | apply below_alloc | apply pw_below_drewN | apply below_drew1) | exact HB.out)) hb); clear HB; have HB := n0_; clear n0_; (try clear hb); (try clear hb2); (try clear hk); (try clear hi)) | (go_at_call 16; (with_reducible refine (vari_Put.calls k a0 t239 _ A4.out).mono ?_); rintro e w8 ⟨v240, rfl, ho0, hb⟩; have n0_ := Aside0.mk (Kd.R_lower ho0 (below_size (by repeat (first | (with_reducible first | exact HB.out | apply below_alloc | apply pw_below_drewN | apply below_drew1) | exact HB.out)))); have n1_ := Aside0.mk (below_step (by repeat (first | (with_reducible first | exact HB.out | apply below_alloc | apply pw_below_drewN | apply below_drew1) | exact HB.out)) hb); clear HB; have HO241 := n0_; have HB := n1_; clear n0_ n1_; (try clear hb); (try clear hb2); (try clear hk); (try clear hi); (try clear ho0)) | (go_at_call 16; (with_reducible refine (vari_Put.calls k a1 t242 _ A5.out).mono ?_); rintro e w9 ⟨v243, rfl, ho0, hb⟩; have n0_ := Aside0.mk (Kd.R_elder' (by (with_reducible repeat (first | apply Kd.R_alloc | apply Kd.R_drewN | apply Kd.R_drew)); exact HO241.out) (Kd.R_base ho0) hb); have n1_ := Aside0.mk (Kd.R_lower (Kd.R_new' ho0 (Kd.R_lt (by (with_reducible repeat (first | apply Kd.R_alloc | apply Kd.R_drewN | apply Kd.R_drew)); exact HO241.out))) (below_size (by repeat (first | (with_reducible first | exact HB.out | apply below_alloc | apply pw_below_drewN | apply below_drew1) | exact HB.out)))); have n2_ := Aside0.mk (below_step (by repeat (first | (with_reducible first | exact HB.out | apply below_alloc | apply pw_below_drewN | apply below_drew1) | exact HB.out)) hb); clear HO241; clear HB; have HO241 := n0_; have HO244 := n1_; have HB := n2_; clear n0_ n1_ n2_; (try clear hb); (try clear hb2); (try clear hk); (try clear hi); (try clear ho0))))
  (try simp only [Act.put, List.setIfInBounds_toArray, List.set_cons_zero, List.set_cons_succ])
  go_cut [27] (fun v27 wc => ∃ (kq : Nat) (x27_5 : Bool), v27 = .bool x27_5 ∧ Aside0 (foliatelaw01_VariOrder.j0 kq a0 a1 t238 t239 t242 x27_5 = some r) ∧ Aside0 (kq ≤ k) ∧ Aside0 (Kd.R (Kd.int .u8) 5 wc w.heap.size (fun k_ => some k_ ≠ (v243 : Value).ownBlock) v240 t239) ∧ Aside0 (Kd.R (Kd.int .u8) 5 wc w.heap.size (fun k_ => some k_ ≠ (v240 : Value).ownBlock) v243 t242) ∧ Aside0 (Below w.heap.size w wc))
  case first =>
    have H := HC6.out
    clear HC6
    by_cases c10 : t238 = true
    · subst c10
      have H1 : (if (t239.length : Int) = (t242.length : Int) then (foliatelaw01_VariOrder.j0 k a0 a1 true t239 t242 (a0 == a1)) else (foliatelaw01_VariOrder.j0 k a0 a1 true t239 t242 true)) = some r := by rw [if_pos rfl] at H; exact H
      clear H
      have H := H1
      clear H1
      by_cases c11 : (t239.length : Int) = (t242.length : Int)
      · rw [if_pos c11] at H
        have c11b0 : ((t239.length : Int) == (t242.length : Int)) = true := beq_iff_eq.mpr c11
        have c11b1 : ((t239.length : Int) != (t242.length : Int)) = false := bne_eq_false_iff_eq.mpr c11
        have c11b2 : (t239.length == t242.length) = true := by first | simpa using c11 | (simp at c11 ⊢; omega)
        clear c11
        (first | rw [c11b0] | (simp only [i64_w, i32_w]; rw [c11b0]) | skip)
        have H' := Aside0.mk H
        clear H
        obtain ⟨Ao12, co12, eo12⟩ := Kd.R_slice HO241.out
        subst eo12
        obtain ⟨Ao13, co13, eo13⟩ := Kd.R_slice HO244.out
        subst eo13
        go_wp2
        repeat (go_quiet (fail); try go_wp2)
        go_meet
        case rel => exact ⟨_, ((a0 == a1)), (by first | rfl | (simp; done) | (simp [*]; done)), H', ⟨by first | omega | exact Nat.le_refl _⟩, ⟨by (with_reducible repeat (first | apply Kd.R_alloc | apply Kd.R_drewN | apply Kd.R_drew)); exact Kd.R_mono HO241.out (fun _ hk => hk.2)⟩, ⟨by (with_reducible repeat (first | apply Kd.R_alloc | apply Kd.R_drewN | apply Kd.R_drew)); exact Kd.R_mono HO244.out (fun _ hk => hk.2)⟩, ⟨by repeat (first | (with_reducible first | exact HB.out | apply below_alloc | apply pw_below_drewN | apply below_drew1) | exact HB.out)⟩⟩
      · rw [if_neg c11] at H
        have c11b0 : ((t239.length : Int) == (t242.length : Int)) = false := beq_eq_false_iff_ne.mpr c11
        have c11b1 : ((t239.length : Int) != (t242.length : Int)) = true := bne_iff_ne.mpr c11
        have c11b2 : (t239.length == t242.length) = false := by first | simpa using c11 | (simp at c11 ⊢; omega)
        (first | rw [c11b0] | (simp only [i64_w, i32_w]; rw [c11b0]) | skip)
        have H' := Aside0.mk H
        clear H
        obtain ⟨Ao14, co14, eo14⟩ := Kd.R_slice HO241.out
        subst eo14
        obtain ⟨Ao15, co15, eo15⟩ := Kd.R_slice HO244.out
        subst eo15
        go_wp2
        repeat (go_quiet (fail); try go_wp2)
        go_meet
        case rel => exact ⟨_, (true), (by first | rfl | (simp; done) | (simp [*]; done)), H', ⟨by first | omega | exact Nat.le_refl _⟩, ⟨by (with_reducible repeat (first | apply Kd.R_alloc | apply Kd.R_drewN | apply Kd.R_drew)); exact Kd.R_mono HO241.out (fun _ hk => hk.2)⟩, ⟨by (with_reducible repeat (first | apply Kd.R_alloc | apply Kd.R_drewN | apply Kd.R_drew)); exact Kd.R_mono HO244.out (fun _ hk => hk.2)⟩, ⟨by repeat (first | (with_reducible first | exact HB.out | apply below_alloc | apply pw_below_drewN | apply below_drew1) | exact HB.out)⟩⟩
    · replace c10 := Bool.eq_false_iff.mpr c10
      subst c10
      have H1 : (foliatelaw01_VariOrder.j0 k a0 a1 false t239 t242 true) = some r := by rw [if_neg (show ¬ (false = true) by decide)] at H; exact H
      clear H
      have H := H1
      clear H1
      have H' := Aside0.mk H
      clear H
      go_wp2
      repeat (go_quiet (fail); try go_wp2)
      go_meet
      case rel => exact ⟨_, (true), (by first | rfl | (simp; done) | (simp [*]; done)), H', ⟨by first | omega | exact Nat.le_refl _⟩, ⟨by (with_reducible repeat (first | apply Kd.R_alloc | apply Kd.R_drewN | apply Kd.R_drew)); exact Kd.R_mono HO241.out (fun _ hk => hk.2)⟩, ⟨by (with_reducible repeat (first | apply Kd.R_alloc | apply Kd.R_drewN | apply Kd.R_drew)); exact Kd.R_mono HO244.out (fun _ hk => hk.2)⟩, ⟨by repeat (first | (with_reducible first | exact HB.out | apply below_alloc | apply pw_below_drewN | apply below_drew1) | exact HB.out)⟩⟩
  case rest =>
    clear HC6
    try clear c1
    try clear p2
    try clear c8
    try clear c10
    try clear c11
    try clear c11b0
    try clear c11b1
    try clear c11b2
    obtain ⟨kq, x27_5, rfl, HA, HJ5, HO_6, HO_7, HB⟩ := hcut
    cases kq with
    | zero => exact absurd HA.out (by simp [foliatelaw01_VariOrder.j0])
    | succ kj5 =>
      have H := HA.out
      clear HA
      simp only [foliatelaw01_VariOrder.j0] at H
      by_cases c16 : x27_5 = true
      · subst c16
        have H1 : (if t238 = true then (if a0 = a1 then (some ((strOfNums t239).toList == (strOfNums t242).toList)) else (some true)) else (some false)) = some r := by rw [if_pos rfl] at H; exact H
        clear H
        have H := H1
        clear H1
        by_cases c17 : t238 = true
        · subst c17
          have H1 : (if a0 = a1 then (some ((strOfNums t239).toList == (strOfNums t242).toList)) else (some true)) = some r := by rw [if_pos rfl] at H; exact H
          clear H
          have H := H1
          clear H1
          by_cases c18 : a0 = a1
          · rw [if_pos c18] at H
            have c18b0 : (a0 == a1) = true := beq_iff_eq.mpr c18
            have c18b1 : (a0 != a1) = false := bne_eq_false_iff_eq.mpr c18
            clear c18
            obtain rfl := Option.some.inj H
            have hcv19 := own_string (P := Try.prog) Try.underlying23 Try.underlying5 Try.underlying9 (Kd.own_of_R HO_6.out)
            have hcv20 := own_string (P := Try.prog) Try.underlying23 Try.underlying5 Try.underlying9 (Kd.own_of_R HO_7.out)
            go_wp2
            repeat (go_quiet (fail); try go_wp2)
            go_ret
            exact ⟨by first | rfl | (simp [errW_none, errW_some] <;> rfl) | (simp [*, errW_none, errW_some] <;> rfl), by repeat (first | (with_reducible first | exact HB.out | apply below_alloc | apply pw_below_drewN | apply below_drew1) | exact HB.out)⟩
          · rw [if_neg c18] at H
            have c18b0 : (a0 == a1) = false := beq_eq_false_iff_ne.mpr c18
            have c18b1 : (a0 != a1) = true := bne_iff_ne.mpr c18
            obtain rfl := Option.some.inj H
            go_wp2
            repeat (go_quiet (fail); try go_wp2)
            go_ret
            exact ⟨by first | rfl | (simp [errW_none, errW_some] <;> rfl) | (simp [*, errW_none, errW_some] <;> rfl), by repeat (first | (with_reducible first | exact HB.out | apply below_alloc | apply pw_below_drewN | apply below_drew1) | exact HB.out)⟩
        · replace c17 := Bool.eq_false_iff.mpr c17
          subst c17
          have H1 : (some false) = some r := by rw [if_neg (show ¬ (false = true) by decide)] at H; exact H
          clear H
          have H := H1
          clear H1
          obtain rfl := Option.some.inj H
          go_wp2
          repeat (go_quiet (fail); try go_wp2)
          go_ret
          exact ⟨by first | rfl | (simp [errW_none, errW_some] <;> rfl) | (simp [*, errW_none, errW_some] <;> rfl), by repeat (first | (with_reducible first | exact HB.out | apply below_alloc | apply pw_below_drewN | apply below_drew1) | exact HB.out)⟩
      · replace c16 := Bool.eq_false_iff.mpr c16
        subst c16
        have H1 : (foliatelaw01_VariOrder.l0 kj5 a0 a1 t239 t242 (wrap64 ((t239.length : Int) - 1))) = some r := by rw [if_neg (show ¬ (false = true) by decide)] at H; exact H
        clear H
        have H := H1
        clear H1
        have H' := Aside0.mk H
        clear H
        obtain ⟨Ao21, co21, eo21⟩ := Kd.R_slice HO_6.out
        subst eo21
        go_wp2
        repeat (go_quiet (fail); try go_wp2)
        go_loopg [8] kj5 (fun kq v8 w' => ∃ (x8_2 : Int), v8 = .int .i64 x8_2 ∧ Aside0 (foliatelaw01_VariOrder.l0 kq a0 a1 t239 t242 x8_2 = some r) ∧ Aside0 (kq ≤ kj5) ∧ Aside0 (Kd.R (Kd.int .u8) 5 w' w.heap.size (fun k_ => some k_ ≠ (v243 : Value).ownBlock) (.slice Ao21 t239.length co21) t239) ∧ Aside0 (Kd.R (Kd.int .u8) 5 w' w.heap.size (fun k_ => some k_ ≠ ((.slice Ao21 t239.length co21) : Value).ownBlock) v243 t242) ∧ Aside0 (Below w.heap.size w w'))
        case atStart => exact ⟨(wrap64 ((t239.length : Int) - 1)), (by first | rfl | (simp; done) | (simp [*]; done)), H', ⟨Nat.le_refl _⟩, ⟨by (with_reducible repeat (first | apply Kd.R_alloc | apply Kd.R_drewN | apply Kd.R_drew)); exact HO_6.out⟩, ⟨by (with_reducible repeat (first | apply Kd.R_alloc | apply Kd.R_drewN | apply Kd.R_drew)); exact HO_7.out⟩, ⟨by repeat (first | (with_reducible first | exact HB.out | apply below_alloc | apply pw_below_drewN | apply below_drew1) | exact HB.out)⟩⟩
        case round =>
          clear H'
          try clear c1
          try clear hcv1
          try clear p2
          try clear hcv2
          try clear p6
          try clear c8
          try clear c10
          try clear c11
          try clear c11b0
          try clear c11b1
          try clear c11b2
          try clear c16
          try clear c17
          try clear c18
          try clear c18b0
          try clear c18b1
          try clear hcv19
          try clear hcv20
          try clear p2
          obtain ⟨x8_2, rfl, HA, HK2, HO_6, HO_7, HB⟩ := hrel
          cases gk with
          | zero => exact absurd HA.out (by simp [foliatelaw01_VariOrder.l0])
          | succ k2 =>
            have H := HA.out
            clear HA
            simp only [foliatelaw01_VariOrder.l0] at H
            by_cases c22 : x8_2 > 0
            · rw [if_pos c22] at H
              have c22b0 : decide (0 < x8_2) = true := decide_eq_true c22
              clear c22
              by_cases c23 : 0 ≤ x8_2
              · rw [if_pos c23] at H
                have c23b0 : decide (0 ≤ x8_2) = true := decide_eq_true c23
                clear c23
                by_cases c24 : x8_2 < (t239.length : Int)
                · rw [if_pos c24] at H
                  have c24b0 : decide (x8_2 < (t239.length : Int)) = true := decide_eq_true c24
                  clear c24
                  by_cases c25 : x8_2 < (t242.length : Int)
                  · rw [if_pos c25] at H
                    have c25b0 : decide (x8_2 < (t242.length : Int)) = true := decide_eq_true c25
                    clear c25
                    by_cases c26 : (rd t239 x8_2) = (rd t242 x8_2)
                    · rw [if_pos c26] at H
                      have c26b0 : ((rd t239 x8_2) == (rd t242 x8_2)) = true := beq_iff_eq.mpr c26
                      have c26b1 : ((rd t239 x8_2) != (rd t242 x8_2)) = false := bne_eq_false_iff_eq.mpr c26
                      clear c26
                      have H' := Aside0.mk H
                      clear H
                      have p245 : 0 ≤ (x8_2 : Int) := of_decide_eq_true (by first | (with_reducible assumption) | assumption)
                      have q245 : x8_2 < (t239.length : Int) := of_decide_eq_true (by first | (with_reducible assumption) | assumption)
                      obtain ⟨ad245, e245, hx245_0⟩ := Kd.at_int (Kd.R_reads' HO_6.out).2.2 x8_2 p245 q245
                      cases e245
                      replace p245 := eq_true p245
                      replace q245 := eq_true q245
                      obtain ⟨Ao27, co27, eo27⟩ := Kd.R_slice HO_7.out
                      subst eo27
                      have p246 : 0 ≤ (x8_2 : Int) := of_decide_eq_true (by first | (with_reducible assumption) | assumption)
                      have q246 : x8_2 < (t242.length : Int) := of_decide_eq_true (by first | (with_reducible assumption) | assumption)
                      obtain ⟨ad246, e246, hx246_0⟩ := Kd.at_int (Kd.R_reads' HO_7.out).2.2 x8_2 p246 q246
                      cases e246
                      replace p246 := eq_true p246
                      replace q246 := eq_true q246
                      go_wp2
                      repeat (go_quiet (fail); try go_wp2)
                      go_roundg k2
                      case measure => have := HJ5.out; have := HK2.out; omega
                      case rel => exact ⟨(wrap64 (x8_2 - 1)), (by first | rfl | (simp; done) | (simp [*]; done)), H', ⟨by have := HJ5.out; have := HK2.out; omega⟩, ⟨by (with_reducible repeat (first | apply Kd.R_alloc | apply Kd.R_drewN | apply Kd.R_drew)); exact HO_6.out⟩, ⟨by (with_reducible repeat (first | apply Kd.R_alloc | apply Kd.R_drewN | apply Kd.R_drew)); exact HO_7.out⟩, ⟨by repeat (first | (with_reducible first | exact HB.out | apply below_alloc | apply pw_below_drewN | apply below_drew1) | exact HB.out)⟩⟩
                    · rw [if_neg c26] at H
                      have c26b0 : ((rd t239 x8_2) == (rd t242 x8_2)) = false := beq_eq_false_iff_ne.mpr c26
                      have c26b1 : ((rd t239 x8_2) != (rd t242 x8_2)) = true := bne_iff_ne.mpr c26
                      obtain rfl := Option.some.inj H
                      have p245 : 0 ≤ (x8_2 : Int) := of_decide_eq_true (by first | (with_reducible assumption) | assumption)
                      have q245 : x8_2 < (t239.length : Int) := of_decide_eq_true (by first | (with_reducible assumption) | assumption)
                      obtain ⟨ad245, e245, hx245_0⟩ := Kd.at_int (Kd.R_reads' HO_6.out).2.2 x8_2 p245 q245
                      cases e245
                      replace p245 := eq_true p245
                      replace q245 := eq_true q245
                      obtain ⟨Ao28, co28, eo28⟩ := Kd.R_slice HO_7.out
                      subst eo28
                      have p246 : 0 ≤ (x8_2 : Int) := of_decide_eq_true (by first | (with_reducible assumption) | assumption)
                      have q246 : x8_2 < (t242.length : Int) := of_decide_eq_true (by first | (with_reducible assumption) | assumption)
                      obtain ⟨ad246, e246, hx246_0⟩ := Kd.at_int (Kd.R_reads' HO_7.out).2.2 x8_2 p246 q246
                      cases e246
                      replace p246 := eq_true p246
                      replace q246 := eq_true q246
                      have p247 : 0 ≤ (x8_2 : Int) := of_decide_eq_true (by first | (with_reducible assumption) | assumption)
                      have q247 : x8_2 < (t239.length : Int) := of_decide_eq_true (by first | (with_reducible assumption) | assumption)
                      obtain ⟨ad247, e247, hx247_0⟩ := Kd.at_int (Kd.R_reads' HO_6.out).2.2 x8_2 p247 q247
                      obtain rfl : ad245 = ad247 := (by injection e247)
                      replace p247 := eq_true p247
                      replace q247 := eq_true q247
                      have p248 : 0 ≤ (x8_2 : Int) := of_decide_eq_true (by first | (with_reducible assumption) | assumption)
                      have q248 : x8_2 < (t242.length : Int) := of_decide_eq_true (by first | (with_reducible assumption) | assumption)
                      obtain ⟨ad248, e248, hx248_0⟩ := Kd.at_int (Kd.R_reads' HO_7.out).2.2 x8_2 p248 q248
                      obtain rfl : ad246 = ad248 := (by injection e248)
                      replace p248 := eq_true p248
                      replace q248 := eq_true q248
                      go_wp2
                      repeat (go_quiet (fail); try go_wp2)
                      go_ret
                      exact ⟨by first | rfl | (simp [errW_none, errW_some] <;> rfl) | (simp [*, errW_none, errW_some] <;> rfl), by repeat (first | (with_reducible first | exact HB.out | apply below_alloc | apply pw_below_drewN | apply below_drew1) | exact HB.out)⟩
                  · rw [if_neg c25] at H
                    exact absurd H (by simp)
                · rw [if_neg c24] at H
                  exact absurd H (by simp)
              · rw [if_neg c23] at H
                exact absurd H (by simp)
            · rw [if_neg c22] at H
              have c22b0 : decide (0 < x8_2) = false := decide_eq_false c22
              clear c22
              by_cases c29 : 0 ≤ x8_2
              · rw [if_pos c29] at H
                have c29b0 : decide (0 ≤ x8_2) = true := decide_eq_true c29
                clear c29
                by_cases c30 : x8_2 < (t239.length : Int)
                · rw [if_pos c30] at H
                  have c30b0 : decide (x8_2 < (t239.length : Int)) = true := decide_eq_true c30
                  clear c30
                  by_cases c31 : x8_2 < (t242.length : Int)
                  · rw [if_pos c31] at H
                    have c31b0 : decide (x8_2 < (t242.length : Int)) = true := decide_eq_true c31
                    clear c31
                    obtain rfl := Option.some.inj H
                    have p249 : 0 ≤ (x8_2 : Int) := of_decide_eq_true (by first | (with_reducible assumption) | assumption)
                    have q249 : x8_2 < (t239.length : Int) := of_decide_eq_true (by first | (with_reducible assumption) | assumption)
                    obtain ⟨ad249, e249, hx249_0⟩ := Kd.at_int (Kd.R_reads' HO_6.out).2.2 x8_2 p249 q249
                    cases e249
                    replace p249 := eq_true p249
                    replace q249 := eq_true q249
                    obtain ⟨Ao32, co32, eo32⟩ := Kd.R_slice HO_7.out
                    subst eo32
                    have p250 : 0 ≤ (x8_2 : Int) := of_decide_eq_true (by first | (with_reducible assumption) | assumption)
                    have q250 : x8_2 < (t242.length : Int) := of_decide_eq_true (by first | (with_reducible assumption) | assumption)
                    obtain ⟨ad250, e250, hx250_0⟩ := Kd.at_int (Kd.R_reads' HO_7.out).2.2 x8_2 p250 q250
                    cases e250
                    replace p250 := eq_true p250
                    replace q250 := eq_true q250
                    go_wp2
                    repeat (go_quiet (fail); try go_wp2)
                    go_ret
                    exact ⟨by first | rfl | (simp [errW_none, errW_some] <;> rfl) | (simp [*, errW_none, errW_some] <;> rfl), by repeat (first | (with_reducible first | exact HB.out | apply below_alloc | apply pw_below_drewN | apply below_drew1) | exact HB.out)⟩
                  · rw [if_neg c31] at H
                    exact absurd H (by simp)
                · rw [if_neg c30] at H
                  exact absurd H (by simp)
              · rw [if_neg c29] at H
                exact absurd H (by simp)

/-- THE ONE PURE STATEMENT of foliatelaw01_VariOrder: yours. -/
def foliatelaw01_VariOrder.Pure : Prop := ∀ (a0 : Int) (a1 : Int), (Lit.int .u64 a0).wf = true → (Lit.int .u64 a1).wf = true → ∃ k, foliatelaw01_VariOrder.f k a0 a1 = some true
theorem foliatelaw01_VariOrder.walk (P : foliatelaw01_VariOrder.Pure) (a0 : Int) (a1 : Int) (w : World) (w0 : (Lit.int .u64 a0).wf = true) (w1 : (Lit.int .u64 a1).wf = true) :
    Calls Try.prog 8 #[.int .u64 a0, .int .u64 a1] w fun e w' => e = .returned (.bool true) ∧ Below w.heap.size w w' := by
  obtain ⟨k, h⟩ := P a0 a1 w0 w1
  refine (foliatelaw01_VariOrder.calls k a0 a1 true w h).mono ?_
  rintro e w' ⟨rfl, hd⟩
  exact ⟨rfl, hd⟩

end Go.Proofs.Ytflkjacmnoocfaa.PAll
