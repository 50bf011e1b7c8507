-- Written by wip/tools/myprint.py, a program of the prover's own, over the kit's print; the contracts named 'HAND' there are typed by hand.
import Derived.Test.YtflkjacmnoocfaaPAllx0
import Derived.Test.YtflkjacmnoocfaaPAllx1
import Derived.Test.YtflkjacmnoocfaaPAllx3
import Derived.Test.YtflkjacmnoocfaaPAllx5
namespace Go.Proofs.Ytflkjacmnoocfaa.PAll
open Go.RowKit Go.Proofs.YtflkjacmnoocfaaW.PrintWords Go.Proofs.YtflkjacmnoocfaaW.PrintLast Go.Proofs.YtflkjacmnoocfaaW.PrintMore
attribute [local go_sem] max2_int min2_int max_two min_two max_three min_three max_four min_four   -- for this text's walks alone
set_option linter.unusedVariables false
set_option linter.unusedSimpArgs false

/-! ### foliatelaw01_VariFirst: function 9 -/
mutual
def foliatelaw01_VariFirst.j0 : Nat → List Int → Bool → Bool → Option (Bool)
  | 0, _, _, _ => none
  | k + 1, x0, x3, x18 => if x18 = true then (some x3) else ((vari_All.f k x0).bind fun bt252 => ((vari_Get.f k x0).bind fun bt256 => (if (x0.length : Int) = 0 then (foliatelaw01_VariFirst.j1 k x0 bt252.1 bt252.2 bt256.1 bt256.2 true) else (if bt256.2 ≤ 0 then (foliatelaw01_VariFirst.j1 k x0 bt252.1 bt252.2 bt256.1 bt256.2 true) else (foliatelaw01_VariFirst.j1 k x0 bt252.1 bt252.2 bt256.1 bt256.2 (decide (bt256.2 > (x0.length : Int))))))))
def foliatelaw01_VariFirst.j1 : Nat → List Int → List Int → Bool → Int → Int → Bool → Option (Bool)
  | 0, _, _, _, _, _, _ => none
  | k + 1, x0, x4, x5, x6, x7, x42 => if x42 = true then (if (x4.length : Int) = 0 then (if (x5 == ((x0.length : Int) == 0)) = true then (some (x7 == 0)) else (some false)) else (some false)) else (if 0 ≤ x7 then (if x7 ≤ (x0.length : Int) then ((vari_All.f k (x0.drop (x7 : Int).toNat)).bind fun bt259 => (if (x5 != bt259.2) = true then (foliatelaw01_VariFirst.j2 k x4 bt259.1 true) else (if x5 = true then (if (x4.length : Int) = (wrap64 ((bt259.1.length : Int) + 1)) then (if 0 < (x4.length : Int) then (foliatelaw01_VariFirst.j2 k x4 bt259.1 ((rd x4 0) != x6)) else (none)) else (foliatelaw01_VariFirst.j2 k x4 bt259.1 true)) else (foliatelaw01_VariFirst.j2 k x4 bt259.1 false)))) else (none)) else (none))
def foliatelaw01_VariFirst.j2 : Nat → List Int → List Int → Bool → Option (Bool)
  | 0, _, _, _ => none
  | k + 1, x4, x8, x84 => if x84 = true then (some false) else (foliatelaw01_VariFirst.l0 k x4 x8 0)
def foliatelaw01_VariFirst.l0 : Nat → List Int → List Int → Int → Option (Bool)
  | 0, _, _, _ => none
  | k + 1, x4, x8, x10 => if x10 < (x8.length : Int) then (if 0 ≤ (wrap64 (x10 + 1)) then (if (wrap64 (x10 + 1)) < (x4.length : Int) then (if 0 ≤ x10 then (if (rd x4 (wrap64 (x10 + 1))) = (rd x8 x10) then (foliatelaw01_VariFirst.l0 k x4 x8 (wrap64 (x10 + 1))) else (some false)) else (none)) else (none)) else (none)) else (some true)
end
def foliatelaw01_VariFirst.f (k : Nat) (l0 : List Int) : Option (Bool) := (foliatelaw01_awake.f k).bind fun t251 => (if t251 = true then (foliatelaw01_VariFirst.j0 k l0 t251 (decide ((l0.length : Int) > 300))) else (foliatelaw01_VariFirst.j0 k l0 t251 true))
theorem foliatelaw01_VariFirst.mono_l : ∀ k, (∀ y0 y1 y2, LeO (foliatelaw01_VariFirst.j0 k y0 y1 y2) (foliatelaw01_VariFirst.j0 (k + 1) y0 y1 y2)) ∧ (∀ y0 y1 y2 y3 y4 y5, LeO (foliatelaw01_VariFirst.j1 k y0 y1 y2 y3 y4 y5) (foliatelaw01_VariFirst.j1 (k + 1) y0 y1 y2 y3 y4 y5)) ∧ (∀ y0 y1 y2, LeO (foliatelaw01_VariFirst.j2 k y0 y1 y2) (foliatelaw01_VariFirst.j2 (k + 1) y0 y1 y2)) ∧ (∀ y0 y1 y2, LeO (foliatelaw01_VariFirst.l0 k y0 y1 y2) (foliatelaw01_VariFirst.l0 (k + 1) y0 y1 y2))
  | 0 => ⟨fun _ _ _ r h => by simp [foliatelaw01_VariFirst.j0] at h, fun _ _ _ _ _ _ r h => by simp [foliatelaw01_VariFirst.j1] at h, fun _ _ _ r h => by simp [foliatelaw01_VariFirst.j2] at h, fun _ _ _ r h => by simp [foliatelaw01_VariFirst.l0] at h⟩
  | k + 1 => by
    obtain ⟨ih0, ih1, ih2, ih3⟩ := foliatelaw01_VariFirst.mono_l k
    refine ⟨?_, ?_, ?_, ?_⟩
    · intro y0 y1 y2
      unfold foliatelaw01_VariFirst.j0
      repeat' first
      | (with_reducible exact ih0 _ _ _)
      | (with_reducible exact ih1 _ _ _ _ _ _)
      | (with_reducible exact ih2 _ _ _)
      | (with_reducible exact ih3 _ _ _)
      | (with_reducible exact foliatelaw01_awake.mono _)
      | (with_reducible exact vari_All.mono _ _)
      | (with_reducible exact vari_Get.mono _ _)
      | (with_reducible exact LeO.refl _)
      | (with_reducible exact LeO.none _)
      | (with_reducible refine LeO.ite ?_ ?_)
      | (with_reducible refine LeO.bind ?_ (fun _ => ?_))
      | exact ih0 _ _ _
      | exact ih1 _ _ _ _ _ _
      | exact ih2 _ _ _
      | exact ih3 _ _ _
      | exact foliatelaw01_awake.mono _
      | exact vari_All.mono _ _
      | exact vari_Get.mono _ _
      | exact LeO.none _
      | refine LeO.ite ?_ ?_
      | refine LeO.bind ?_ (fun _ => ?_)
    · intro y0 y1 y2 y3 y4 y5
      unfold foliatelaw01_VariFirst.j1
      repeat' first
      | (with_reducible exact ih0 _ _ _)
      | (with_reducible exact ih1 _ _ _ _ _ _)
      | (with_reducible exact ih2 _ _ _)
      | (with_reducible exact ih3 _ _ _)
      | (with_reducible exact foliatelaw01_awake.mono _)
      | (with_reducible exact vari_All.mono _ _)
      | (with_reducible exact vari_Get.mono _ _)
      | (with_reducible exact LeO.refl _)
      | (with_reducible exact LeO.none _)
      | (with_reducible refine LeO.ite ?_ ?_)
      | (with_reducible refine LeO.bind ?_ (fun _ => ?_))
      | exact ih0 _ _ _
      | exact ih1 _ _ _ _ _ _
      | exact ih2 _ _ _
      | exact ih3 _ _ _
      | exact foliatelaw01_awake.mono _
      | exact vari_All.mono _ _
      | exact vari_Get.mono _ _
      | exact LeO.none _
      | refine LeO.ite ?_ ?_
      | refine LeO.bind ?_ (fun _ => ?_)
    · intro y0 y1 y2
      unfold foliatelaw01_VariFirst.j2
      repeat' first
      | (with_reducible exact ih0 _ _ _)
      | (with_reducible exact ih1 _ _ _ _ _ _)
      | (with_reducible exact ih2 _ _ _)
      | (with_reducible exact ih3 _ _ _)
      | (with_reducible exact foliatelaw01_awake.mono _)
      | (with_reducible exact vari_All.mono _ _)
      | (with_reducible exact vari_Get.mono _ _)
      | (with_reducible exact LeO.refl _)
      | (with_reducible exact LeO.none _)
      | (with_reducible refine LeO.ite ?_ ?_)
      | (with_reducible refine LeO.bind ?_ (fun _ => ?_))
      | exact ih0 _ _ _
      | exact ih1 _ _ _ _ _ _
      | exact ih2 _ _ _
      | exact ih3 _ _ _
      | exact foliatelaw01_awake.mono _
      | exact vari_All.mono _ _
      | exact vari_Get.mono _ _
      | exact LeO.none _
      | refine LeO.ite ?_ ?_
      | refine LeO.bind ?_ (fun _ => ?_)
    · intro y0 y1 y2
      unfold foliatelaw01_VariFirst.l0
      repeat' first
      | (with_reducible exact ih0 _ _ _)
      | (with_reducible exact ih1 _ _ _ _ _ _)
      | (with_reducible exact ih2 _ _ _)
      | (with_reducible exact ih3 _ _ _)
      | (with_reducible exact foliatelaw01_awake.mono _)
      | (with_reducible exact vari_All.mono _ _)
      | (with_reducible exact vari_Get.mono _ _)
      | (with_reducible exact LeO.refl _)
      | (with_reducible exact LeO.none _)
      | (with_reducible refine LeO.ite ?_ ?_)
      | (with_reducible refine LeO.bind ?_ (fun _ => ?_))
      | exact ih0 _ _ _
      | exact ih1 _ _ _ _ _ _
      | exact ih2 _ _ _
      | exact ih3 _ _ _
      | exact foliatelaw01_awake.mono _
      | exact vari_All.mono _ _
      | exact vari_Get.mono _ _
      | exact LeO.none _
      | refine LeO.ite ?_ ?_
      | refine LeO.bind ?_ (fun _ => ?_)
theorem foliatelaw01_VariFirst.mono : ∀ a0 k, LeO (foliatelaw01_VariFirst.f k a0) (foliatelaw01_VariFirst.f (k + 1) a0) := by
  intro a0 k
  obtain ⟨ih0, ih1, ih2, ih3⟩ := foliatelaw01_VariFirst.mono_l k
  unfold foliatelaw01_VariFirst.f
  repeat' first
      | (with_reducible exact ih0 _ _ _)
      | (with_reducible exact ih1 _ _ _ _ _ _)
      | (with_reducible exact ih2 _ _ _)
      | (with_reducible exact ih3 _ _ _)
      | (with_reducible exact foliatelaw01_awake.mono _)
      | (with_reducible exact vari_All.mono _ _)
      | (with_reducible exact vari_Get.mono _ _)
      | (with_reducible exact LeO.refl _)
      | (with_reducible exact LeO.none _)
      | (with_reducible refine LeO.ite ?_ ?_)
      | (with_reducible refine LeO.bind ?_ (fun _ => ?_))
      | exact ih0 _ _ _
      | exact ih1 _ _ _ _ _ _
      | exact ih2 _ _ _
      | exact ih3 _ _ _
      | exact foliatelaw01_awake.mono _
      | exact vari_All.mono _ _
      | exact vari_Get.mono _ _
      | exact LeO.none _
      | refine LeO.ite ?_ ?_
      | refine LeO.bind ?_ (fun _ => ?_)
set_option maxHeartbeats 8000000 in
set_option maxRecDepth 100000 in
theorem foliatelaw01_VariFirst.calls (k : Nat) (A0 : Option Addr) (c0 : Nat) (l0 : List Int) (r : Bool) (w : World) (hr0 : Kd.C (Kd.int .u8) w A0 l0.length l0) (hc0 : l0.length ≤ c0) (h : foliatelaw01_VariFirst.f k l0 = some r) :
    Calls Try.prog 9 #[.slice A0 l0.length c0] w fun e w' => e = .returned (.bool r) ∧ Below w.heap.size w w' := by
  have HR0 := Aside0.mk hr0
  have HC0 := Aside0.mk hc0
  clear hr0 hc0
  have HB := Aside0.mk (Below.refl w.heap.size w)
  have H : ((foliatelaw01_awake.f k).bind fun t251 => (if t251 = true then (foliatelaw01_VariFirst.j0 k l0 t251 (decide ((l0.length : Int) > 300))) else (foliatelaw01_VariFirst.j0 k l0 t251 true))) = some r := h
  clear h
  replace H := Option.bind_eq_some_iff.mp H
  obtain ⟨t251, A20, H⟩ := H
  replace H : (if t251 = true then (foliatelaw01_VariFirst.j0 k l0 t251 (decide ((l0.length : Int) > 300))) else (foliatelaw01_VariFirst.j0 k l0 t251 true)) = some r := H
  have A2 := Aside0.mk A20
  clear A20
  have HC3 := Aside0.mk H
  clear H
  go_enter Try.func9, Try.ntmps9
  go_upto_region 2 with (first | (go_at_call 10; (with_reducible refine (foliatelaw01_awake.calls k  t251 _ A2.out).mono ?_); rintro e w4 ⟨rfl, hb⟩; have n0_ := Aside0.mk (below_step (by repeat (first | (with_reducible first | exact HB.out | apply below_alloc | apply pw_below_drewN | apply below_drew1) | exact HB.out)) hb); clear HB; have HB := n0_; clear n0_; (try clear hb); (try clear hb2); (try clear hk); (try clear hi)))
  repeat (go_quiet (first | (go_at_call 10; (with_reducible refine (foliatelaw01_awake.calls k  t251 _ A2.out).mono ?_); rintro e w4 ⟨rfl, hb⟩; have n0_ := Aside0.mk (below_step (by repeat (first | (with_reducible first | exact HB.out | apply below_alloc | apply pw_below_drewN | apply below_drew1) | exact HB.out)) hb); clear HB; have HB := n0_; clear n0_; (try clear hb); (try clear hb2); (try clear hk); (try clear hi))); go_upto_region 2 with (first | (go_at_call 10; (with_reducible refine (foliatelaw01_awake.calls k  t251 _ A2.out).mono ?_); rintro e w4 ⟨rfl, hb⟩; have n0_ := Aside0.mk (below_step (by repeat (first | (with_reducible first | exact HB.out | apply below_alloc | apply pw_below_drewN | apply below_drew1) | exact HB.out)) hb); clear HB; have HB := n0_; clear n0_; (try clear hb); (try clear hb2); (try clear hk); (try clear hi))))
  (try simp only [Act.put, List.setIfInBounds_toArray, List.set_cons_zero, List.set_cons_succ])
  go_cut [18] (fun v18 wc => ∃ (kq : Nat) (x18_2 : Bool), v18 = .bool x18_2 ∧ Aside0 (foliatelaw01_VariFirst.j0 kq l0 t251 x18_2 = some r) ∧ Aside0 (kq ≤ k) ∧ Aside0 (Below w.heap.size w wc))
  case first =>
    have H := HC3.out
    clear HC3
    by_cases c5 : t251 = true
    · subst c5
      have H1 : (foliatelaw01_VariFirst.j0 k l0 true (decide ((l0.length : Int) > 300))) = some r := by rw [if_pos rfl] at H; exact H
      clear H
      have H := H1
      clear H1
      have H' := Aside0.mk H
      clear H
      go_wp2
      repeat (go_quiet (fail); try go_wp2)
      go_meet
      case rel => exact ⟨_, (decide ((l0.length : Int) > 300)), (by first | rfl | (simp; done) | (simp [*]; done)), H', ⟨by first | omega | exact Nat.le_refl _⟩, ⟨by repeat (first | (with_reducible first | exact HB.out | apply below_alloc | apply pw_below_drewN | apply below_drew1) | exact HB.out)⟩⟩
    · replace c5 := Bool.eq_false_iff.mpr c5
      subst c5
      have H1 : (foliatelaw01_VariFirst.j0 k l0 false true) = some r := by rw [if_neg (show ¬ (false = true) by decide)] at H; exact H
      clear H
      have H := H1
      clear H1
      have H' := Aside0.mk H
      clear H
      go_wp2
      repeat (go_quiet (fail); try go_wp2)
      go_meet
      case rel => exact ⟨_, (true), (by first | rfl | (simp; done) | (simp [*]; done)), H', ⟨by first | omega | exact Nat.le_refl _⟩, ⟨by repeat (first | (with_reducible first | exact HB.out | apply below_alloc | apply pw_below_drewN | apply below_drew1) | exact HB.out)⟩⟩
  case rest =>
    clear HC3
    try clear p2
    try clear c5
    obtain ⟨kq, x18_2, rfl, HA, HJ2, HB⟩ := hcut
    cases kq with
    | zero => exact absurd HA.out (by simp [foliatelaw01_VariFirst.j0])
    | succ kj2 =>
      have H := HA.out
      clear HA
      simp only [foliatelaw01_VariFirst.j0] at H
      by_cases c6 : x18_2 = true
      · subst c6
        have H1 : (some t251) = some r := by rw [if_pos rfl] at H; exact H
        clear H
        have H := H1
        clear H1
        obtain rfl := Option.some.inj H
        go_wp2
        repeat (go_quiet (fail); try go_wp2)
        go_ret
        exact ⟨by first | rfl | (simp [errW_none, errW_some] <;> rfl) | (simp [*, errW_none, errW_some] <;> rfl), by repeat (first | (with_reducible first | exact HB.out | apply below_alloc | apply pw_below_drewN | apply below_drew1) | exact HB.out)⟩
      · replace c6 := Bool.eq_false_iff.mpr c6
        subst c6
        have H1 : ((vari_All.f kj2 l0).bind fun bt252 => ((vari_Get.f kj2 l0).bind fun bt256 => (if (l0.length : Int) = 0 then (foliatelaw01_VariFirst.j1 kj2 l0 bt252.1 bt252.2 bt256.1 bt256.2 true) else (if bt256.2 ≤ 0 then (foliatelaw01_VariFirst.j1 kj2 l0 bt252.1 bt252.2 bt256.1 bt256.2 true) else (foliatelaw01_VariFirst.j1 kj2 l0 bt252.1 bt252.2 bt256.1 bt256.2 (decide (bt256.2 > (l0.length : Int)))))))) = some r := by rw [if_neg (show ¬ (false = true) by decide)] at H; exact H
        clear H
        have H := H1
        clear H1
        replace H := Option.bind_eq_some_iff.mp H
        obtain ⟨⟨t252, t253⟩, A70, H⟩ := H
        replace H : ((vari_Get.f kj2 l0).bind fun bt256 => (if (l0.length : Int) = 0 then (foliatelaw01_VariFirst.j1 kj2 l0 t252 t253 bt256.1 bt256.2 true) else (if bt256.2 ≤ 0 then (foliatelaw01_VariFirst.j1 kj2 l0 t252 t253 bt256.1 bt256.2 true) else (foliatelaw01_VariFirst.j1 kj2 l0 t252 t253 bt256.1 bt256.2 (decide (bt256.2 > (l0.length : Int))))))) = some r := H
        have A7 := Aside0.mk A70
        clear A70
        replace H := Option.bind_eq_some_iff.mp H
        obtain ⟨⟨t256, t257⟩, A80, H⟩ := H
        replace H : (if (l0.length : Int) = 0 then (foliatelaw01_VariFirst.j1 kj2 l0 t252 t253 t256 t257 true) else (if t257 ≤ 0 then (foliatelaw01_VariFirst.j1 kj2 l0 t252 t253 t256 t257 true) else (foliatelaw01_VariFirst.j1 kj2 l0 t252 t253 t256 t257 (decide (t257 > (l0.length : Int)))))) = some r := H
        have A8 := Aside0.mk A80
        clear A80
        have HC9 := Aside0.mk H
        clear H
        go_upto_region 6 with (first | (go_at_call 13; (with_reducible refine (vari_All.calls kj2 _ _ l0 t252 t253 _ ?side1 ?side2 A7.out).mono ?_); (case side1 => repeat (first | exact (Kd.C_below HR0.out HB.out) | (with_reducible refine Kd.C_alloc ?_ _) | (with_reducible refine Kd.C_drewN ?_ _) | (with_reducible refine Kd.C_drew ?_))); (case side2 => exact HC0.out); rintro e w10 ⟨v254, rfl, ho0, hb⟩; have n0_ := Aside0.mk (Kd.R_lower ho0 (below_size (by repeat (first | (with_reducible first | exact HB.out | apply below_alloc | apply pw_below_drewN | apply below_drew1) | exact HB.out)))); have n1_ := Aside0.mk (below_step (by repeat (first | (with_reducible first | exact HB.out | apply below_alloc | apply pw_below_drewN | apply below_drew1) | exact HB.out)) hb); clear HB; have HO255 := n0_; have HB := n1_; clear n0_ n1_; (try clear hb); (try clear hb2); (try clear hk); (try clear hi); (try clear ho0)) | (go_at_call 11; (with_reducible refine (vari_Get.calls kj2 _ _ l0 t256 t257 _ ?side1 ?side2 A8.out).mono ?_); (case side1 => repeat (first | exact (Kd.C_below HR0.out HB.out) | (with_reducible refine Kd.C_alloc ?_ _) | (with_reducible refine Kd.C_drewN ?_ _) | (with_reducible refine Kd.C_drew ?_))); (case side2 => exact HC0.out); rintro e w' ⟨rfl, ⟨nd, rfl⟩⟩; (try first | exact ⟨rfl, _, World.drewN_drewN _ _ _⟩ | exact ⟨rfl, _, Eq.trans (World.drewN_drewN _ _ _) (congrArg (World.drewN _) (Nat.add_assoc _ _ _))⟩)))
        repeat (go_quiet (first | (go_at_call 13; (with_reducible refine (vari_All.calls kj2 _ _ l0 t252 t253 _ ?side1 ?side2 A7.out).mono ?_); (case side1 => repeat (first | exact (Kd.C_below HR0.out HB.out) | (with_reducible refine Kd.C_alloc ?_ _) | (with_reducible refine Kd.C_drewN ?_ _) | (with_reducible refine Kd.C_drew ?_))); (case side2 => exact HC0.out); rintro e w10 ⟨v254, rfl, ho0, hb⟩; have n0_ := Aside0.mk (Kd.R_lower ho0 (below_size (by repeat (first | (with_reducible first | exact HB.out | apply below_alloc | apply pw_below_drewN | apply below_drew1) | exact HB.out)))); have n1_ := Aside0.mk (below_step (by repeat (first | (with_reducible first | exact HB.out | apply below_alloc | apply pw_below_drewN | apply below_drew1) | exact HB.out)) hb); clear HB; have HO255 := n0_; have HB := n1_; clear n0_ n1_; (try clear hb); (try clear hb2); (try clear hk); (try clear hi); (try clear ho0)) | (go_at_call 11; (with_reducible refine (vari_Get.calls kj2 _ _ l0 t256 t257 _ ?side1 ?side2 A8.out).mono ?_); (case side1 => repeat (first | exact (Kd.C_below HR0.out HB.out) | (with_reducible refine Kd.C_alloc ?_ _) | (with_reducible refine Kd.C_drewN ?_ _) | (with_reducible refine Kd.C_drew ?_))); (case side2 => exact HC0.out); rintro e w' ⟨rfl, ⟨nd, rfl⟩⟩; (try first | exact ⟨rfl, _, World.drewN_drewN _ _ _⟩ | exact ⟨rfl, _, Eq.trans (World.drewN_drewN _ _ _) (congrArg (World.drewN _) (Nat.add_assoc _ _ _))⟩))); go_upto_region 6 with (first | (go_at_call 13; (with_reducible refine (vari_All.calls kj2 _ _ l0 t252 t253 _ ?side1 ?side2 A7.out).mono ?_); (case side1 => repeat (first | exact (Kd.C_below HR0.out HB.out) | (with_reducible refine Kd.C_alloc ?_ _) | (with_reducible refine Kd.C_drewN ?_ _) | (with_reducible refine Kd.C_drew ?_))); (case side2 => exact HC0.out); rintro e w10 ⟨v254, rfl, ho0, hb⟩; have n0_ := Aside0.mk (Kd.R_lower ho0 (below_size (by repeat (first | (with_reducible first | exact HB.out | apply below_alloc | apply pw_below_drewN | apply below_drew1) | exact HB.out)))); have n1_ := Aside0.mk (below_step (by repeat (first | (with_reducible first | exact HB.out | apply below_alloc | apply pw_below_drewN | apply below_drew1) | exact HB.out)) hb); clear HB; have HO255 := n0_; have HB := n1_; clear n0_ n1_; (try clear hb); (try clear hb2); (try clear hk); (try clear hi); (try clear ho0)) | (go_at_call 11; (with_reducible refine (vari_Get.calls kj2 _ _ l0 t256 t257 _ ?side1 ?side2 A8.out).mono ?_); (case side1 => repeat (first | exact (Kd.C_below HR0.out HB.out) | (with_reducible refine Kd.C_alloc ?_ _) | (with_reducible refine Kd.C_drewN ?_ _) | (with_reducible refine Kd.C_drew ?_))); (case side2 => exact HC0.out); rintro e w' ⟨rfl, ⟨nd, rfl⟩⟩; (try first | exact ⟨rfl, _, World.drewN_drewN _ _ _⟩ | exact ⟨rfl, _, Eq.trans (World.drewN_drewN _ _ _) (congrArg (World.drewN _) (Nat.add_assoc _ _ _))⟩))))
        (try simp only [Act.put, List.setIfInBounds_toArray, List.set_cons_zero, List.set_cons_succ])
        go_cut [42] (fun v42 wc => ∃ (kq : Nat) (x42_8 : Bool), v42 = .bool x42_8 ∧ Aside0 (foliatelaw01_VariFirst.j1 kq l0 t252 t253 t256 t257 x42_8 = some r) ∧ Aside0 (kq ≤ kj2) ∧ Aside0 (Kd.R (Kd.int .u64) 22 wc w.heap.size (fun _ => True) v254 t252) ∧ Aside0 (Below w.heap.size w wc))
        case first =>
          have H := HC9.out
          clear HC9
          by_cases c11 : (l0.length : Int) = 0
          · rw [if_pos c11] at H
            have c11b0 : ((l0.length : Int) == 0) = true := beq_iff_eq.mpr c11
            have c11b1 : ((l0.length : Int) != 0) = false := bne_eq_false_iff_eq.mpr c11
            clear c11
            (first | rw [c11b0] | (simp only [i64_w, i32_w]; rw [c11b0]) | skip)
            have H' := Aside0.mk H
            clear H
            go_wp2
            repeat (go_quiet (fail); try go_wp2)
            go_meet
            case rel => exact ⟨_, (true), (by first | rfl | (simp; done) | (simp [*]; done)), H', ⟨by have := HJ2.out; first | omega | exact Nat.le_refl _⟩, ⟨by (with_reducible repeat (first | apply Kd.R_alloc | apply Kd.R_drewN | apply Kd.R_drew)); exact HO255.out⟩, ⟨by repeat (first | (with_reducible first | exact HB.out | apply below_alloc | apply pw_below_drewN | apply below_drew1) | exact HB.out)⟩⟩
          · rw [if_neg c11] at H
            have c11b0 : ((l0.length : Int) == 0) = false := beq_eq_false_iff_ne.mpr c11
            have c11b1 : ((l0.length : Int) != 0) = true := bne_iff_ne.mpr c11
            have c11b2 : ¬ (l0 = []) := fun h_ => c11 (by rw [h_]; rfl)
            (first | rw [c11b0] | (simp only [i64_w, i32_w]; rw [c11b0]) | skip)
            by_cases c12 : t257 ≤ 0
            · rw [if_pos c12] at H
              have c12b0 : decide (t257 ≤ 0) = true := decide_eq_true c12
              clear c12
              have H' := Aside0.mk H
              clear H
              go_wp2
              repeat (go_quiet (fail); try go_wp2)
              go_meet
              case rel => exact ⟨_, (true), (by first | rfl | (simp; done) | (simp [*]; done)), H', ⟨by have := HJ2.out; first | omega | exact Nat.le_refl _⟩, ⟨by (with_reducible repeat (first | apply Kd.R_alloc | apply Kd.R_drewN | apply Kd.R_drew)); exact HO255.out⟩, ⟨by repeat (first | (with_reducible first | exact HB.out | apply below_alloc | apply pw_below_drewN | apply below_drew1) | exact HB.out)⟩⟩
            · rw [if_neg c12] at H
              have c12b0 : decide (t257 ≤ 0) = false := decide_eq_false c12
              clear c12
              have H' := Aside0.mk H
              clear H
              go_wp2
              repeat (go_quiet (fail); try go_wp2)
              go_meet
              case rel => exact ⟨_, (decide (t257 > (l0.length : Int))), (by first | rfl | (simp; done) | (simp [*]; done)), H', ⟨by have := HJ2.out; first | omega | exact Nat.le_refl _⟩, ⟨by (with_reducible repeat (first | apply Kd.R_alloc | apply Kd.R_drewN | apply Kd.R_drew)); exact HO255.out⟩, ⟨by repeat (first | (with_reducible first | exact HB.out | apply below_alloc | apply pw_below_drewN | apply below_drew1) | exact HB.out)⟩⟩
        case rest =>
          clear HC9
          try clear c1
          try clear p2
          try clear c5
          try clear c6
          try clear c9
          try clear c11
          try clear c11b0
          try clear c11b1
          try clear c11b2
          try clear c12
          try clear c12b0
          try clear p2
          obtain ⟨kq, x42_8, rfl, HA, HJ8, HO_4, HB⟩ := hcut
          cases kq with
          | zero => exact absurd HA.out (by simp [foliatelaw01_VariFirst.j1])
          | succ kj8 =>
            have H := HA.out
            clear HA
            simp only [foliatelaw01_VariFirst.j1] at H
            by_cases c13 : x42_8 = true
            · subst c13
              have H1 : (if (t252.length : Int) = 0 then (if (t253 == ((l0.length : Int) == 0)) = true then (some (t257 == 0)) else (some false)) else (some false)) = some r := by rw [if_pos rfl] at H; exact H
              clear H
              have H := H1
              clear H1
              by_cases c14 : (t252.length : Int) = 0
              · rw [if_pos c14] at H
                have c14b0 : ((t252.length : Int) == 0) = true := beq_iff_eq.mpr c14
                have c14b1 : ((t252.length : Int) != 0) = false := bne_eq_false_iff_eq.mpr c14
                clear c14
                by_cases c15 : (t253 == ((l0.length : Int) == 0)) = true
                · rw [if_pos c15] at H
                  have c15b0 : (t253 == ((l0.length : Int) == 0)) = true := c15
                  (try (have c15b1 : decide (t253 = ((l0.length : Int) == 0)) = true := by simpa using c15))
                  (try (have c15b2 : (t253 == ((l0.length : Int) == 0)) = true := by simpa using c15))
                  clear c15
                  obtain rfl := Option.some.inj H
                  obtain ⟨Ao16, co16, eo16⟩ := Kd.R_slice HO_4.out
                  subst eo16
                  go_wp2
                  repeat (go_quiet (fail); try go_wp2)
                  go_ret
                  exact ⟨by first | rfl | (simp [errW_none, errW_some] <;> rfl) | (simp [*, errW_none, errW_some] <;> rfl), by repeat (first | (with_reducible first | exact HB.out | apply below_alloc | apply pw_below_drewN | apply below_drew1) | exact HB.out)⟩
                · rw [if_neg c15] at H
                  have c15b0 : (t253 == ((l0.length : Int) == 0)) = false := by simpa using c15
                  (try (have c15b1 : decide (t253 = ((l0.length : Int) == 0)) = false := by simpa using c15))
                  (try (have c15b2 : (t253 == ((l0.length : Int) == 0)) = false := by simpa using c15))
                  (try (have c15b3 : ¬ (t253 = ((l0.length : Int) == 0)) := by simpa using c15))
                  clear c15
                  obtain rfl := Option.some.inj H
                  obtain ⟨Ao17, co17, eo17⟩ := Kd.R_slice HO_4.out
                  subst eo17
                  go_wp2
                  repeat (go_quiet (fail); try go_wp2)
                  go_ret
                  exact ⟨by first | rfl | (simp [errW_none, errW_some] <;> rfl) | (simp [*, errW_none, errW_some] <;> rfl), by repeat (first | (with_reducible first | exact HB.out | apply below_alloc | apply pw_below_drewN | apply below_drew1) | exact HB.out)⟩
              · rw [if_neg c14] at H
                have c14b0 : ((t252.length : Int) == 0) = false := beq_eq_false_iff_ne.mpr c14
                have c14b1 : ((t252.length : Int) != 0) = true := bne_iff_ne.mpr c14
                have c14b2 : ¬ (t252 = []) := fun h_ => c14 (by rw [h_]; rfl)
                obtain rfl := Option.some.inj H
                obtain ⟨Ao18, co18, eo18⟩ := Kd.R_slice HO_4.out
                subst eo18
                go_wp2
                repeat (go_quiet (fail); try go_wp2)
                go_ret
                exact ⟨by first | rfl | (simp [errW_none, errW_some] <;> rfl) | (simp [*, errW_none, errW_some] <;> rfl), by repeat (first | (with_reducible first | exact HB.out | apply below_alloc | apply pw_below_drewN | apply below_drew1) | exact HB.out)⟩
            · replace c13 := Bool.eq_false_iff.mpr c13
              subst c13
              have H1 : (if 0 ≤ t257 then (if t257 ≤ (l0.length : Int) then ((vari_All.f kj8 (l0.drop (t257 : Int).toNat)).bind fun bt259 => (if (t253 != bt259.2) = true then (foliatelaw01_VariFirst.j2 kj8 t252 bt259.1 true) else (if t253 = true then (if (t252.length : Int) = (wrap64 ((bt259.1.length : Int) + 1)) then (if 0 < (t252.length : Int) then (foliatelaw01_VariFirst.j2 kj8 t252 bt259.1 ((rd t252 0) != t256)) else (none)) else (foliatelaw01_VariFirst.j2 kj8 t252 bt259.1 true)) else (foliatelaw01_VariFirst.j2 kj8 t252 bt259.1 false)))) else (none)) else (none)) = some r := by rw [if_neg (show ¬ (false = true) by decide)] at H; exact H
              clear H
              have H := H1
              clear H1
              by_cases c19 : 0 ≤ t257
              · rw [if_pos c19] at H
                have c19b0 := eq_true c19
                have c19b1 : decide (0 ≤ t257) = true := decide_eq_true c19
                clear c19
                by_cases c20 : t257 ≤ (l0.length : Int)
                · rw [if_pos c20] at H
                  have c20b0 := eq_true c20
                  have c20b1 : decide (t257 ≤ (l0.length : Int)) = true := decide_eq_true c20
                  clear c20
                  replace H := Option.bind_eq_some_iff.mp H
                  obtain ⟨⟨t259, t260⟩, A210, H⟩ := H
                  replace H : (if (t253 != t260) = true then (foliatelaw01_VariFirst.j2 kj8 t252 t259 true) else (if t253 = true then (if (t252.length : Int) = (wrap64 ((t259.length : Int) + 1)) then (if 0 < (t252.length : Int) then (foliatelaw01_VariFirst.j2 kj8 t252 t259 ((rd t252 0) != t256)) else (none)) else (foliatelaw01_VariFirst.j2 kj8 t252 t259 true)) else (foliatelaw01_VariFirst.j2 kj8 t252 t259 false))) = some r := H
                  have A21 := Aside0.mk A210
                  clear A210
                  have HC22 := Aside0.mk H
                  clear H
                  obtain ⟨i023, hi023, _, hsz23, _⟩ := info_parts info5
                  obtain ⟨A23, hcut23, hA23, hC23⟩ := print_drop_of (P := Try.prog) (Value.int .u8) 0 23 5 .i64 Try.underlying23 hi023 hsz23 A0 c0 l0 t257 (of_decide_eq_true (by first | (with_reducible assumption) | assumption)) (of_decide_eq_true (by first | (with_reducible assumption) | assumption)) HC0.out
                  have HR258 := Aside0.mk (Kd.C_of_reads (h1 := fun _ => rfl) (hA23 _ (Kd.reads_of_C HR0.out)))
                  have HC258 := Aside0.mk hC23
                  clear hA23 hC23 hi023 hsz23
                  go_upto_region 9 with (first | (go_at_call 13; (try rw [show (l0.length - t257.toNat) = (l0.drop (t257 : Int).toNat).length from List.length_drop.symm]); (with_reducible refine (vari_All.calls kj8 _ _ (l0.drop (t257 : Int).toNat) t259 t260 _ ?side1 ?side2 A21.out).mono ?_); (case side1 => repeat (first | exact (Kd.C_below HR258.out HB.out) | (with_reducible refine Kd.C_alloc ?_ _) | (with_reducible refine Kd.C_drewN ?_ _) | (with_reducible refine Kd.C_drew ?_))); (case side2 => exact HC258.out); rintro e w24 ⟨v261, rfl, ho0, hb⟩; have n0_ := Aside0.mk (Kd.R_elder' (by (with_reducible repeat (first | apply Kd.R_alloc | apply Kd.R_drewN | apply Kd.R_drew)); exact HO_4.out) (Kd.R_base ho0) hb); have n1_ := Aside0.mk (Kd.R_lower (Kd.R_new' ho0 (Kd.R_lt (by (with_reducible repeat (first | apply Kd.R_alloc | apply Kd.R_drewN | apply Kd.R_drew)); exact HO_4.out))) (below_size (by repeat (first | (with_reducible first | exact HB.out | apply below_alloc | apply pw_below_drewN | apply below_drew1) | exact HB.out)))); have n2_ := Aside0.mk (below_step (by repeat (first | (with_reducible first | exact HB.out | apply below_alloc | apply pw_below_drewN | apply below_drew1) | exact HB.out)) hb); clear HO_4; clear HB; have HO_4 := n0_; have HO262 := n1_; have HB := n2_; clear n0_ n1_ n2_; (try clear hb); (try clear hb2); (try clear hk); (try clear hi); (try clear ho0)))
                  repeat (go_quiet (first | (go_at_call 13; (try rw [show (l0.length - t257.toNat) = (l0.drop (t257 : Int).toNat).length from List.length_drop.symm]); (with_reducible refine (vari_All.calls kj8 _ _ (l0.drop (t257 : Int).toNat) t259 t260 _ ?side1 ?side2 A21.out).mono ?_); (case side1 => repeat (first | exact (Kd.C_below HR258.out HB.out) | (with_reducible refine Kd.C_alloc ?_ _) | (with_reducible refine Kd.C_drewN ?_ _) | (with_reducible refine Kd.C_drew ?_))); (case side2 => exact HC258.out); rintro e w24 ⟨v261, rfl, ho0, hb⟩; have n0_ := Aside0.mk (Kd.R_elder' (by (with_reducible repeat (first | apply Kd.R_alloc | apply Kd.R_drewN | apply Kd.R_drew)); exact HO_4.out) (Kd.R_base ho0) hb); have n1_ := Aside0.mk (Kd.R_lower (Kd.R_new' ho0 (Kd.R_lt (by (with_reducible repeat (first | apply Kd.R_alloc | apply Kd.R_drewN | apply Kd.R_drew)); exact HO_4.out))) (below_size (by repeat (first | (with_reducible first | exact HB.out | apply below_alloc | apply pw_below_drewN | apply below_drew1) | exact HB.out)))); have n2_ := Aside0.mk (below_step (by repeat (first | (with_reducible first | exact HB.out | apply below_alloc | apply pw_below_drewN | apply below_drew1) | exact HB.out)) hb); clear HO_4; clear HB; have HO_4 := n0_; have HO262 := n1_; have HB := n2_; clear n0_ n1_ n2_; (try clear hb); (try clear hb2); (try clear hk); (try clear hi); (try clear ho0))); go_upto_region 9 with (first | (go_at_call 13; (try rw [show (l0.length - t257.toNat) = (l0.drop (t257 : Int).toNat).length from List.length_drop.symm]); (with_reducible refine (vari_All.calls kj8 _ _ (l0.drop (t257 : Int).toNat) t259 t260 _ ?side1 ?side2 A21.out).mono ?_); (case side1 => repeat (first | exact (Kd.C_below HR258.out HB.out) | (with_reducible refine Kd.C_alloc ?_ _) | (with_reducible refine Kd.C_drewN ?_ _) | (with_reducible refine Kd.C_drew ?_))); (case side2 => exact HC258.out); rintro e w24 ⟨v261, rfl, ho0, hb⟩; have n0_ := Aside0.mk (Kd.R_elder' (by (with_reducible repeat (first | apply Kd.R_alloc | apply Kd.R_drewN | apply Kd.R_drew)); exact HO_4.out) (Kd.R_base ho0) hb); have n1_ := Aside0.mk (Kd.R_lower (Kd.R_new' ho0 (Kd.R_lt (by (with_reducible repeat (first | apply Kd.R_alloc | apply Kd.R_drewN | apply Kd.R_drew)); exact HO_4.out))) (below_size (by repeat (first | (with_reducible first | exact HB.out | apply below_alloc | apply pw_below_drewN | apply below_drew1) | exact HB.out)))); have n2_ := Aside0.mk (below_step (by repeat (first | (with_reducible first | exact HB.out | apply below_alloc | apply pw_below_drewN | apply below_drew1) | exact HB.out)) hb); clear HO_4; clear HB; have HO_4 := n0_; have HO262 := n1_; have HB := n2_; clear n0_ n1_ n2_; (try clear hb); (try clear hb2); (try clear hk); (try clear hi); (try clear ho0))))
                  (try simp only [Act.put, List.setIfInBounds_toArray, List.set_cons_zero, List.set_cons_succ])
                  go_cut [84] (fun v84 wc => ∃ (kq : Nat) (x84_21 : Bool), v84 = .bool x84_21 ∧ Aside0 (foliatelaw01_VariFirst.j2 kq t252 t259 x84_21 = some r) ∧ Aside0 (kq ≤ kj8) ∧ Aside0 (Kd.R (Kd.int .u64) 22 wc w.heap.size (fun k_ => some k_ ≠ (v261 : Value).ownBlock) v254 t252) ∧ Aside0 (Kd.R (Kd.int .u64) 22 wc w.heap.size (fun k_ => some k_ ≠ (v254 : Value).ownBlock) v261 t259) ∧ Aside0 (Below w.heap.size w wc))
                  case first =>
                    have H := HC22.out
                    clear HC22
                    by_cases c25 : (t253 != t260) = true
                    · rw [if_pos c25] at H
                      have c25b0 : (t253 != t260) = true := c25
                      (try (have c25b1 : decide (t253 = t260) = false := by simpa using c25))
                      (try (have c25b2 : (t253 == t260) = false := by simpa using c25))
                      (try (have c25b3 : ¬ (t253 = t260) := by simpa using c25))
                      clear c25
                      (first | rw [c25b0] | (simp only [i64_w, i32_w]; rw [c25b0]) | skip)
                      have H' := Aside0.mk H
                      clear H
                      go_wp2
                      repeat (go_quiet (fail); try go_wp2)
                      go_meet
                      case rel => exact ⟨_, (true), (by first | rfl | (simp; done) | (simp [*]; done)), H', ⟨by have := HJ2.out; have := HJ8.out; first | omega | exact Nat.le_refl _⟩, ⟨by (with_reducible repeat (first | apply Kd.R_alloc | apply Kd.R_drewN | apply Kd.R_drew)); exact Kd.R_mono HO_4.out (fun _ hk => hk.2)⟩, ⟨by (with_reducible repeat (first | apply Kd.R_alloc | apply Kd.R_drewN | apply Kd.R_drew)); exact Kd.R_mono HO262.out (fun _ hk => hk.2)⟩, ⟨by repeat (first | (with_reducible first | exact HB.out | apply below_alloc | apply pw_below_drewN | apply below_drew1) | exact HB.out)⟩⟩
                    · rw [if_neg c25] at H
                      have c25b0 : (t253 != t260) = false := by simpa using c25
                      (try (have c25b1 : decide (t253 = t260) = true := by simpa using c25))
                      (try (have c25b2 : (t253 == t260) = true := by simpa using c25))
                      clear c25
                      (first | rw [c25b0] | (simp only [i64_w, i32_w]; rw [c25b0]) | skip)
                      by_cases c26 : t253 = true
                      · subst c26
                        have H1 : (if (t252.length : Int) = (wrap64 ((t259.length : Int) + 1)) then (if 0 < (t252.length : Int) then (foliatelaw01_VariFirst.j2 kj8 t252 t259 ((rd t252 0) != t256)) else (none)) else (foliatelaw01_VariFirst.j2 kj8 t252 t259 true)) = some r := by rw [if_pos rfl] at H; exact H
                        clear H
                        have H := H1
                        clear H1
                        by_cases c27 : (t252.length : Int) = (wrap64 ((t259.length : Int) + 1))
                        · rw [if_pos c27] at H
                          have c27b0 : ((t252.length : Int) == (wrap64 ((t259.length : Int) + 1))) = true := beq_iff_eq.mpr c27
                          have c27b1 : ((t252.length : Int) != (wrap64 ((t259.length : Int) + 1))) = false := bne_eq_false_iff_eq.mpr c27
                          clear c27
                          by_cases c28 : 0 < (t252.length : Int)
                          · rw [if_pos c28] at H
                            have c28b0 : decide (0 < (t252.length : Int)) = true := decide_eq_true c28
                            have c28b1 : decide (0 < t252.length) = true := decide_eq_true (by omega)
                            clear c28
                            have H' := Aside0.mk H
                            clear H
                            obtain ⟨Ao29, co29, eo29⟩ := Kd.R_slice HO_4.out
                            subst eo29
                            obtain ⟨Ao30, co30, eo30⟩ := Kd.R_slice HO262.out
                            subst eo30
                            have p263 : 0 ≤ (0 : Int) := (by omega)
                            have q263 : 0 < (t252.length : Int) := of_decide_eq_true (by first | (with_reducible assumption) | assumption)
                            obtain ⟨ad263, e263, hx263_0⟩ := Kd.at_int (Kd.R_reads' HO_4.out).2.2 0 p263 q263
                            cases e263
                            have qi263 : (0 < t252.length) = True := eq_true (by omega)
                            (try rw [show ((0 : Int)).toNat = 0 from rfl] at hx263_0)
                            (try rw [Addr.add_zero'] at hx263_0)
                            replace p263 := eq_true p263
                            replace q263 := eq_true q263
                            go_wp2
                            repeat (go_quiet (fail); try go_wp2)
                            go_meet
                            case rel => exact ⟨_, (((rd t252 0) != t256)), (by first | rfl | (simp; done) | (simp [*]; done)), H', ⟨by have := HJ2.out; have := HJ8.out; first | omega | exact Nat.le_refl _⟩, ⟨by (with_reducible repeat (first | apply Kd.R_alloc | apply Kd.R_drewN | apply Kd.R_drew)); exact Kd.R_mono HO_4.out (fun _ hk => hk.2)⟩, ⟨by (with_reducible repeat (first | apply Kd.R_alloc | apply Kd.R_drewN | apply Kd.R_drew)); exact Kd.R_mono HO262.out (fun _ hk => hk.2)⟩, ⟨by repeat (first | (with_reducible first | exact HB.out | apply below_alloc | apply pw_below_drewN | apply below_drew1) | exact HB.out)⟩⟩
                          · rw [if_neg c28] at H
                            exact absurd H (by simp)
                        · rw [if_neg c27] at H
                          have c27b0 : ((t252.length : Int) == (wrap64 ((t259.length : Int) + 1))) = false := beq_eq_false_iff_ne.mpr c27
                          have c27b1 : ((t252.length : Int) != (wrap64 ((t259.length : Int) + 1))) = true := bne_iff_ne.mpr c27
                          have H' := Aside0.mk H
                          clear H
                          obtain ⟨Ao31, co31, eo31⟩ := Kd.R_slice HO_4.out
                          subst eo31
                          obtain ⟨Ao32, co32, eo32⟩ := Kd.R_slice HO262.out
                          subst eo32
                          go_wp2
                          repeat (go_quiet (fail); try go_wp2)
                          go_meet
                          case rel => exact ⟨_, (true), (by first | rfl | (simp; done) | (simp [*]; done)), H', ⟨by have := HJ2.out; have := HJ8.out; first | omega | exact Nat.le_refl _⟩, ⟨by (with_reducible repeat (first | apply Kd.R_alloc | apply Kd.R_drewN | apply Kd.R_drew)); exact Kd.R_mono HO_4.out (fun _ hk => hk.2)⟩, ⟨by (with_reducible repeat (first | apply Kd.R_alloc | apply Kd.R_drewN | apply Kd.R_drew)); exact Kd.R_mono HO262.out (fun _ hk => hk.2)⟩, ⟨by repeat (first | (with_reducible first | exact HB.out | apply below_alloc | apply pw_below_drewN | apply below_drew1) | exact HB.out)⟩⟩
                      · replace c26 := Bool.eq_false_iff.mpr c26
                        subst c26
                        have H1 : (foliatelaw01_VariFirst.j2 kj8 t252 t259 false) = some r := by rw [if_neg (show ¬ (false = true) by decide)] at H; exact H
                        clear H
                        have H := H1
                        clear H1
                        have H' := Aside0.mk H
                        clear H
                        go_wp2
                        repeat (go_quiet (fail); try go_wp2)
                        go_meet
                        case rel => exact ⟨_, (false), (by first | rfl | (simp; done) | (simp [*]; done)), H', ⟨by have := HJ2.out; have := HJ8.out; first | omega | exact Nat.le_refl _⟩, ⟨by (with_reducible repeat (first | apply Kd.R_alloc | apply Kd.R_drewN | apply Kd.R_drew)); exact Kd.R_mono HO_4.out (fun _ hk => hk.2)⟩, ⟨by (with_reducible repeat (first | apply Kd.R_alloc | apply Kd.R_drewN | apply Kd.R_drew)); exact Kd.R_mono HO262.out (fun _ hk => hk.2)⟩, ⟨by repeat (first | (with_reducible first | exact HB.out | apply below_alloc | apply pw_below_drewN | apply below_drew1) | exact HB.out)⟩⟩
                  case rest =>
                    clear HC22
                    try clear c1
                    try clear c2
                    try clear p2
                    try clear q2
                    try clear hx2
                    try clear qi2
                    try clear c5
                    try clear c6
                    try clear p6
                    try clear c9
                    try clear c11
                    try clear c11b0
                    try clear c11b1
                    try clear c11b2
                    try clear c12
                    try clear c12b0
                    try clear c13
                    try clear c14
                    try clear c14b0
                    try clear c14b1
                    try clear c14b2
                    try clear c15
                    try clear c15b0
                    try clear c15b1
                    try clear c15b2
                    try clear c19
                    try clear c19b0
                    try clear c19b1
                    try clear c20
                    try clear c20b0
                    try clear c20b1
                    try clear c25
                    try clear c25b0
                    try clear c25b1
                    try clear c25b2
                    try clear c26
                    try clear p26
                    try clear q26
                    try clear hx26
                    try clear qi26
                    try clear c27
                    try clear c27b0
                    try clear c27b1
                    try clear c28
                    try clear c28b0
                    try clear c28b1
                    try clear hx263_0
                    try clear p2
                    try clear p263
                    try clear q263
                    obtain ⟨kq, x84_21, rfl, HA, HJ21, HO_4, HO_8, HB⟩ := hcut
                    cases kq with
                    | zero => exact absurd HA.out (by simp [foliatelaw01_VariFirst.j2])
                    | succ kj21 =>
                      have H := HA.out
                      clear HA
                      simp only [foliatelaw01_VariFirst.j2] at H
                      by_cases c33 : x84_21 = true
                      · subst c33
                        have H1 : (some false) = some r := by rw [if_pos rfl] at H; exact H
                        clear H
                        have H := H1
                        clear H1
                        obtain rfl := Option.some.inj H
                        go_wp2
                        repeat (go_quiet (fail); try go_wp2)
                        go_ret
                        exact ⟨by first | rfl | (simp [errW_none, errW_some] <;> rfl) | (simp [*, errW_none, errW_some] <;> rfl), by repeat (first | (with_reducible first | exact HB.out | apply below_alloc | apply pw_below_drewN | apply below_drew1) | exact HB.out)⟩
                      · replace c33 := Bool.eq_false_iff.mpr c33
                        subst c33
                        have H1 : (foliatelaw01_VariFirst.l0 kj21 t252 t259 0) = some r := by rw [if_neg (show ¬ (false = true) by decide)] at H; exact H
                        clear H
                        have H := H1
                        clear H1
                        have H' := Aside0.mk H
                        clear H
                        go_wp2
                        repeat (go_quiet (fail); try go_wp2)
                        go_loopg [10] kj21 (fun kq v10 w' => ∃ (x10_4 : Int), v10 = .int .i64 x10_4 ∧ Aside0 (foliatelaw01_VariFirst.l0 kq t252 t259 x10_4 = some r) ∧ Aside0 (kq ≤ kj21) ∧ Aside0 (Kd.R (Kd.int .u64) 22 w' w.heap.size (fun k_ => some k_ ≠ (v261 : Value).ownBlock) v254 t252) ∧ Aside0 (Kd.R (Kd.int .u64) 22 w' w.heap.size (fun k_ => some k_ ≠ (v254 : Value).ownBlock) v261 t259) ∧ Aside0 (Below w.heap.size w w'))
                        case atStart => exact ⟨(0), (by first | rfl | (simp; done) | (simp [*]; done)), H', ⟨Nat.le_refl _⟩, ⟨by (with_reducible repeat (first | apply Kd.R_alloc | apply Kd.R_drewN | apply Kd.R_drew)); exact HO_4.out⟩, ⟨by (with_reducible repeat (first | apply Kd.R_alloc | apply Kd.R_drewN | apply Kd.R_drew)); exact HO_8.out⟩, ⟨by repeat (first | (with_reducible first | exact HB.out | apply below_alloc | apply pw_below_drewN | apply below_drew1) | exact HB.out)⟩⟩
                        case round =>
                          clear H'
                          try clear c1
                          try clear c2
                          try clear p2
                          try clear q2
                          try clear hx2
                          try clear qi2
                          try clear c3
                          try clear c5
                          try clear c6
                          try clear p6
                          try clear c9
                          try clear c11
                          try clear c11b0
                          try clear c11b1
                          try clear c11b2
                          try clear c12
                          try clear c12b0
                          try clear c13
                          try clear c14
                          try clear c14b0
                          try clear c14b1
                          try clear c14b2
                          try clear c15
                          try clear c15b0
                          try clear c15b1
                          try clear c15b2
                          try clear c19
                          try clear c19b0
                          try clear c19b1
                          try clear c20
                          try clear c20b0
                          try clear c20b1
                          try clear c25
                          try clear c25b0
                          try clear c25b1
                          try clear c25b2
                          try clear c26
                          try clear p26
                          try clear q26
                          try clear hx26
                          try clear qi26
                          try clear c27
                          try clear c27b0
                          try clear c27b1
                          try clear c28
                          try clear c28b0
                          try clear c28b1
                          try clear c33
                          try clear hx263_0
                          try clear p2
                          try clear p26
                          try clear p263
                          try clear p6
                          try clear q2
                          try clear q26
                          try clear q263
                          obtain ⟨x10_4, rfl, HA, HK4, HO_4, HO_8, HB⟩ := hrel
                          cases gk with
                          | zero => exact absurd HA.out (by simp [foliatelaw01_VariFirst.l0])
                          | succ k4 =>
                            have H := HA.out
                            clear HA
                            simp only [foliatelaw01_VariFirst.l0] at H
                            by_cases c34 : x10_4 < (t259.length : Int)
                            · rw [if_pos c34] at H
                              have c34b0 : decide (x10_4 < (t259.length : Int)) = true := decide_eq_true c34
                              clear c34
                              obtain ⟨ji35, hji35⟩ : ∃ j_ : Int, (wrap64 (x10_4 + 1)) = j_ := ⟨_, rfl⟩
                              replace H : (if 0 ≤ (ji35) then (if (ji35) < (t252.length : Int) then (if 0 ≤ x10_4 then (if (rd t252 (ji35)) = (rd t259 x10_4) then (foliatelaw01_VariFirst.l0 k4 t252 t259 ji35) else (some false)) else (none)) else (none)) else (none)) = some r := by first | (rw [hji35] at H; exact H) | (simp only [hji35] at H ⊢; exact H)
                              have hji35w : (IntKind.i64.wrap (x10_4 + 1)) = ji35 := (i64_w _).trans hji35
                              by_cases c36 : 0 ≤ (ji35)
                              · rw [if_pos c36] at H
                                have c36b0 : decide (0 ≤ (ji35)) = true := decide_eq_true c36
                                clear c36
                                by_cases c37 : (ji35) < (t252.length : Int)
                                · rw [if_pos c37] at H
                                  have c37b0 : decide ((ji35) < (t252.length : Int)) = true := decide_eq_true c37
                                  clear c37
                                  by_cases c38 : 0 ≤ x10_4
                                  · rw [if_pos c38] at H
                                    have c38b0 : decide (0 ≤ x10_4) = true := decide_eq_true c38
                                    clear c38
                                    by_cases c39 : (rd t252 (ji35)) = (rd t259 x10_4)
                                    · rw [if_pos c39] at H
                                      have c39b0 : ((rd t252 (ji35)) == (rd t259 x10_4)) = true := beq_iff_eq.mpr c39
                                      have c39b1 : ((rd t252 (ji35)) != (rd t259 x10_4)) = false := bne_eq_false_iff_eq.mpr c39
                                      clear c39
                                      have H' := Aside0.mk H
                                      clear H
                                      obtain ⟨Ao40, co40, eo40⟩ := Kd.R_slice HO_8.out
                                      subst eo40
                                      obtain ⟨Ao41, co41, eo41⟩ := Kd.R_slice HO_4.out
                                      subst eo41
                                      have p264 : 0 ≤ ((ji35) : Int) := of_decide_eq_true (by first | (with_reducible assumption) | assumption)
                                      have q264 : (ji35) < (t252.length : Int) := of_decide_eq_true (by first | (with_reducible assumption) | assumption)
                                      obtain ⟨ad264, e264, hx264_0⟩ := Kd.at_int (Kd.R_reads' HO_4.out).2.2 (ji35) p264 q264
                                      cases e264
                                      replace p264 := eq_true p264
                                      replace q264 := eq_true q264
                                      have p265 : 0 ≤ (x10_4 : Int) := of_decide_eq_true (by first | (with_reducible assumption) | assumption)
                                      have q265 : x10_4 < (t259.length : Int) := of_decide_eq_true (by first | (with_reducible assumption) | assumption)
                                      obtain ⟨ad265, e265, hx265_0⟩ := Kd.at_int (Kd.R_reads' HO_8.out).2.2 x10_4 p265 q265
                                      cases e265
                                      replace p265 := eq_true p265
                                      replace q265 := eq_true q265
                                      go_wp2
                                      repeat (go_quiet (fail); try go_wp2)
                                      go_roundg k4
                                      case measure => have := HJ2.out; have := HJ8.out; have := HJ21.out; have := HK4.out; omega
                                      case rel => exact ⟨(ji35), (by first | rfl | (simp; done) | (simp only [← hji35] <;> (first | rfl | simp)) | (simp [*]; done)), H', ⟨by have := HJ2.out; have := HJ8.out; have := HJ21.out; have := HK4.out; omega⟩, ⟨by (with_reducible repeat (first | apply Kd.R_alloc | apply Kd.R_drewN | apply Kd.R_drew)); exact HO_4.out⟩, ⟨by (with_reducible repeat (first | apply Kd.R_alloc | apply Kd.R_drewN | apply Kd.R_drew)); exact HO_8.out⟩, ⟨by repeat (first | (with_reducible first | exact HB.out | apply below_alloc | apply pw_below_drewN | apply below_drew1) | exact HB.out)⟩⟩
                                    · rw [if_neg c39] at H
                                      have c39b0 : ((rd t252 (ji35)) == (rd t259 x10_4)) = false := beq_eq_false_iff_ne.mpr c39
                                      have c39b1 : ((rd t252 (ji35)) != (rd t259 x10_4)) = true := bne_iff_ne.mpr c39
                                      obtain rfl := Option.some.inj H
                                      obtain ⟨Ao42, co42, eo42⟩ := Kd.R_slice HO_8.out
                                      subst eo42
                                      obtain ⟨Ao43, co43, eo43⟩ := Kd.R_slice HO_4.out
                                      subst eo43
                                      have p264 : 0 ≤ ((ji35) : Int) := of_decide_eq_true (by first | (with_reducible assumption) | assumption)
                                      have q264 : (ji35) < (t252.length : Int) := of_decide_eq_true (by first | (with_reducible assumption) | assumption)
                                      obtain ⟨ad264, e264, hx264_0⟩ := Kd.at_int (Kd.R_reads' HO_4.out).2.2 (ji35) p264 q264
                                      cases e264
                                      replace p264 := eq_true p264
                                      replace q264 := eq_true q264
                                      have p265 : 0 ≤ (x10_4 : Int) := of_decide_eq_true (by first | (with_reducible assumption) | assumption)
                                      have q265 : x10_4 < (t259.length : Int) := of_decide_eq_true (by first | (with_reducible assumption) | assumption)
                                      obtain ⟨ad265, e265, hx265_0⟩ := Kd.at_int (Kd.R_reads' HO_8.out).2.2 x10_4 p265 q265
                                      cases e265
                                      replace p265 := eq_true p265
                                      replace q265 := eq_true q265
                                      go_wp2
                                      repeat (go_quiet (fail); try go_wp2)
                                      go_ret
                                      exact ⟨by first | rfl | (simp [errW_none, errW_some] <;> rfl) | (simp only [← hji35]; first | rfl | (simp [errW_none, errW_some] <;> rfl)) | (simp [*, errW_none, errW_some] <;> rfl), by repeat (first | (with_reducible first | exact HB.out | apply below_alloc | apply pw_below_drewN | apply below_drew1) | exact HB.out)⟩
                                  · rw [if_neg c38] at H
                                    exact absurd H (by simp)
                                · rw [if_neg c37] at H
                                  exact absurd H (by simp)
                              · rw [if_neg c36] at H
                                exact absurd H (by simp)
                            · rw [if_neg c34] at H
                              have c34b0 : decide (x10_4 < (t259.length : Int)) = false := decide_eq_false c34
                              clear c34
                              obtain rfl := Option.some.inj H
                              obtain ⟨Ao44, co44, eo44⟩ := Kd.R_slice HO_8.out
                              subst eo44
                              go_wp2
                              repeat (go_quiet (fail); try go_wp2)
                              go_ret
                              exact ⟨by first | rfl | (simp [errW_none, errW_some] <;> rfl) | (simp [*, errW_none, errW_some] <;> rfl), by repeat (first | (with_reducible first | exact HB.out | apply below_alloc | apply pw_below_drewN | apply below_drew1) | exact HB.out)⟩
                · rw [if_neg c20] at H
                  exact absurd H (by simp)
              · rw [if_neg c19] at H
                exact absurd H (by simp)

/-- THE ONE PURE STATEMENT of foliatelaw01_VariFirst: yours. -/
def foliatelaw01_VariFirst.Pure : Prop := ∀ (l0 : List Int), l0.length ≤ maxLen → l0.length * 1 ≤ 140737488351232 → (∀ x ∈ l0, (Lit.int .u8 x).wf = true) → ∃ k, foliatelaw01_VariFirst.f k l0 = some true
theorem foliatelaw01_VariFirst.walk (P : foliatelaw01_VariFirst.Pure) (a0 : Option Addr) (len0 cap0 : Nat) (z0 : List Int) (w : World) (w0 : (a0 = none ∧ len0 = 0 ∧ cap0 = 0 ∧ z0 = []) ∨ ∃ x, a0 = some x ∧ len0 ≤ cap0 ∧ cap0 ≤ maxLen ∧ z0.length = cap0 ∧ (∀ i, i < z0.length → w.cell? (x.add i) = some (.int .u8 (z0.getD i 0))) ∧ ∀ n ∈ z0, (Lit.int .u8 n).wf = true) (y0 : len0 * 1 ≤ 140737488351232) :
    Calls Try.prog 9 #[.slice a0 len0 cap0] w fun e w' => e = .returned (.bool true) ∧ Below w.heap.size w w' := by
  obtain ⟨l0, rfl, hr0, hm0, hw0, hc0⟩ := ReadsInt.ofRowC w0
  obtain ⟨k, h⟩ := P l0 hm0 y0 hw0
  refine (foliatelaw01_VariFirst.calls k _ _ l0 true w (Kd.C_of_reads (d := (0 : Int)) (h1 := fun _ => rfl) hr0) hc0 h).mono ?_
  rintro e w' ⟨rfl, hd⟩
  exact ⟨rfl, hd⟩

end Go.Proofs.Ytflkjacmnoocfaa.PAll
