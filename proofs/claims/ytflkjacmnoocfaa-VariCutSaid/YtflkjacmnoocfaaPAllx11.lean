-- Written by wip/tools/myprint.py, a program of the prover's own, over the kit's print; the contracts named 'HAND' there are typed by hand.
import Derived.Test.YtflkjacmnoocfaaPAllx0
import Derived.Test.YtflkjacmnoocfaaPAllx1
import Derived.Test.YtflkjacmnoocfaaPAllx4
import Derived.Test.YtflkjacmnoocfaaPAllx5
namespace Go.Proofs.Ytflkjacmnoocfaa.PAll
open Go.RowKit Go.Proofs.YtflkjacmnoocfaaW.PrintWords Go.Proofs.YtflkjacmnoocfaaW.PrintLast Go.Proofs.YtflkjacmnoocfaaW.PrintMore
attribute [local go_sem] max2_int min2_int max_two min_two max_three min_three max_four min_four   -- for this text's walks alone
set_option linter.unusedVariables false
set_option linter.unusedSimpArgs false

/-! ### foliatelaw01_VariCut: function 5 -/
def foliatelaw01_VariCut.j0 : Nat → Int → List Int → Bool → Option (Bool)
  | 0, _, _, _ => none
  | k + 1, x2, x8, x30 => if x30 = true then (some false) else (if x2 < 0 then (some true) else (if x2 ≥ (x8.length : Int) then (some true) else (if 0 ≤ x2 then (if x2 ≤ (x8.length : Int) then ((vari_Get.f k (x8.take (x2 : Int).toNat)).bind fun bt210 => (if bt210.1 = 0 then (some (bt210.2 == 0)) else (some false))) else (none)) else (none))))
def foliatelaw01_VariCut.f (k : Nat) (a0 : Int) (a1 : Int) (a2 : Int) : Option (Bool) := (foliatelaw01_awake.f k).bind fun t199 => ((vari_Put.f k a0).bind fun t200 => ((vari_Put.f k a1).bind fun t203 => (if t199 = true then (if a1 ≤ a0 then (foliatelaw01_VariCut.j0 k a2 t200 (decide ((t203.length : Int) > (t200.length : Int)))) else (foliatelaw01_VariCut.j0 k a2 t200 false)) else (foliatelaw01_VariCut.j0 k a2 t200 true))))
theorem foliatelaw01_VariCut.mono_l : ∀ k, (∀ y0 y1 y2, LeO (foliatelaw01_VariCut.j0 k y0 y1 y2) (foliatelaw01_VariCut.j0 (k + 1) y0 y1 y2))
  | 0 => fun _ _ _ r h => by simp [foliatelaw01_VariCut.j0] at h
  | k + 1 => by
    have ih0 := foliatelaw01_VariCut.mono_l k
    · intro y0 y1 y2
      unfold foliatelaw01_VariCut.j0
      repeat' first
      | (with_reducible exact ih0 _ _ _)
      | (with_reducible exact foliatelaw01_awake.mono _)
      | (with_reducible exact vari_Get.mono _ _)
      | (with_reducible exact vari_Put.mono _ _)
      | (with_reducible exact LeO.refl _)
      | (with_reducible exact LeO.none _)
      | (with_reducible refine LeO.ite ?_ ?_)
      | (with_reducible refine LeO.bind ?_ (fun _ => ?_))
      | exact ih0 _ _ _
      | exact foliatelaw01_awake.mono _
      | exact vari_Get.mono _ _
      | exact vari_Put.mono _ _
      | exact LeO.none _
      | refine LeO.ite ?_ ?_
      | refine LeO.bind ?_ (fun _ => ?_)
theorem foliatelaw01_VariCut.mono : ∀ a0 a1 a2 k, LeO (foliatelaw01_VariCut.f k a0 a1 a2) (foliatelaw01_VariCut.f (k + 1) a0 a1 a2) := by
  intro a0 a1 a2 k
  have ih0 := foliatelaw01_VariCut.mono_l k
  unfold foliatelaw01_VariCut.f
  repeat' first
      | (with_reducible exact ih0 _ _ _)
      | (with_reducible exact foliatelaw01_awake.mono _)
      | (with_reducible exact vari_Get.mono _ _)
      | (with_reducible exact vari_Put.mono _ _)
      | (with_reducible exact LeO.refl _)
      | (with_reducible exact LeO.none _)
      | (with_reducible refine LeO.ite ?_ ?_)
      | (with_reducible refine LeO.bind ?_ (fun _ => ?_))
      | exact ih0 _ _ _
      | exact foliatelaw01_awake.mono _
      | exact vari_Get.mono _ _
      | exact vari_Put.mono _ _
      | exact LeO.none _
      | refine LeO.ite ?_ ?_
      | refine LeO.bind ?_ (fun _ => ?_)
set_option maxHeartbeats 8000000 in
set_option maxRecDepth 100000 in
theorem foliatelaw01_VariCut.calls (k : Nat) (a0 : Int) (a1 : Int) (a2 : Int) (r : Bool) (w : World) (h : foliatelaw01_VariCut.f k a0 a1 a2 = some r) :
    Calls Try.prog 5 #[.int .u64 a0, .int .u64 a1, .int .i64 a2] w fun e w' => e = .returned (.bool r) ∧ Below w.heap.size w w' := by
  have HB := Aside0.mk (Below.refl w.heap.size w)
  have H : ((foliatelaw01_awake.f k).bind fun t199 => ((vari_Put.f k a0).bind fun t200 => ((vari_Put.f k a1).bind fun t203 => (if t199 = true then (if a1 ≤ a0 then (foliatelaw01_VariCut.j0 k a2 t200 (decide ((t203.length : Int) > (t200.length : Int)))) else (foliatelaw01_VariCut.j0 k a2 t200 false)) else (foliatelaw01_VariCut.j0 k a2 t200 true))))) = some r := h
  clear h
  replace H := Option.bind_eq_some_iff.mp H
  obtain ⟨t199, A40, H⟩ := H
  replace H : ((vari_Put.f k a0).bind fun t200 => ((vari_Put.f k a1).bind fun t203 => (if t199 = true then (if a1 ≤ a0 then (foliatelaw01_VariCut.j0 k a2 t200 (decide ((t203.length : Int) > (t200.length : Int)))) else (foliatelaw01_VariCut.j0 k a2 t200 false)) else (foliatelaw01_VariCut.j0 k a2 t200 true)))) = some r := H
  have A4 := Aside0.mk A40
  clear A40
  replace H := Option.bind_eq_some_iff.mp H
  obtain ⟨t200, A50, H⟩ := H
  replace H : ((vari_Put.f k a1).bind fun t203 => (if t199 = true then (if a1 ≤ a0 then (foliatelaw01_VariCut.j0 k a2 t200 (decide ((t203.length : Int) > (t200.length : Int)))) else (foliatelaw01_VariCut.j0 k a2 t200 false)) else (foliatelaw01_VariCut.j0 k a2 t200 true))) = some r := H
  have A5 := Aside0.mk A50
  clear A50
  replace H := Option.bind_eq_some_iff.mp H
  obtain ⟨t203, A60, H⟩ := H
  replace H : (if t199 = true then (if a1 ≤ a0 then (foliatelaw01_VariCut.j0 k a2 t200 (decide ((t203.length : Int) > (t200.length : Int)))) else (foliatelaw01_VariCut.j0 k a2 t200 false)) else (foliatelaw01_VariCut.j0 k a2 t200 true)) = some r := H
  have A6 := Aside0.mk A60
  clear A60
  have HC7 := Aside0.mk H
  clear H
  go_enter Try.func5, Try.ntmps5
  go_upto_region 4 with (first | ((with_reducible refine gate_callee (f := 10) rfl ?_); refine goesL_ (some 12) rfl rfl Try.func10 (by kernel_rfl) rfl #[] rfl (by (try simp only [List.map_toArray, List.map_cons, List.map_nil]); first | done | rfl | (simp only [List.length_drop, List.length_take]; rfl)) ?_; (with_reducible refine (foliatelaw01_awake.calls k  t199 _ A4.out).mono ?_); rintro e w8 ⟨rfl, hb⟩; refine ⟨_, rfl, ?_⟩; have n0_ := Aside0.mk (below_step (by repeat (first | (with_reducible first | exact HB.out | apply below_alloc | apply pw_below_drewN | apply below_drew1) | exact HB.out)) hb); clear HB; have HB := n0_; clear n0_; (try clear hb); (try clear hb2); (try clear hk); (try clear hi)) | ((with_reducible refine gate_callee (f := 16) rfl ?_); refine goesL_ (some 14) rfl rfl Try.func16 (by kernel_rfl) rfl #[.int .u64 a0] rfl (by (try simp only [List.map_toArray, List.map_cons, List.map_nil]); first | done | rfl | (simp only [List.length_drop, List.length_take]; rfl)) ?_; (with_reducible refine (vari_Put.calls k a0 t200 _ A5.out).mono ?_); rintro e w9 ⟨v201, rfl, ho0, hb⟩; refine ⟨_, rfl, ?_⟩; have n0_ := Aside0.mk (Kd.R_lower ho0 (below_size (by repeat (first | (with_reducible first | exact HB.out | apply below_alloc | apply pw_below_drewN | apply below_drew1) | exact HB.out)))); have n1_ := Aside0.mk (below_step (by repeat (first | (with_reducible first | exact HB.out | apply below_alloc | apply pw_below_drewN | apply below_drew1) | exact HB.out)) hb); clear HB; have HO202 := n0_; have HB := n1_; clear n0_ n1_; (try clear hb); (try clear hb2); (try clear hk); (try clear hi); (try clear ho0)) | ((with_reducible refine gate_callee (f := 16) rfl ?_); refine goesL_ (some 16) rfl rfl Try.func16 (by kernel_rfl) rfl #[.int .u64 a1] rfl (by (try simp only [List.map_toArray, List.map_cons, List.map_nil]); first | done | rfl | (simp only [List.length_drop, List.length_take]; rfl)) ?_; (with_reducible refine (vari_Put.calls k a1 t203 _ A6.out).mono ?_); rintro e w10 ⟨v204, rfl, ho0, hb⟩; refine ⟨_, rfl, ?_⟩; have n0_ := Aside0.mk (Kd.R_elder' (by (with_reducible repeat (first | apply Kd.R_alloc | apply Kd.R_drewN | apply Kd.R_drew)); exact HO202.out) (Kd.R_base ho0) hb); have n1_ := Aside0.mk (Kd.R_lower (Kd.R_new' ho0 (Kd.R_lt (by (with_reducible repeat (first | apply Kd.R_alloc | apply Kd.R_drewN | apply Kd.R_drew)); exact HO202.out))) (below_size (by repeat (first | (with_reducible first | exact HB.out | apply below_alloc | apply pw_below_drewN | apply below_drew1) | exact HB.out)))); have n2_ := Aside0.mk (below_step (by repeat (first | (with_reducible first | exact HB.out | apply below_alloc | apply pw_below_drewN | apply below_drew1) | exact HB.out)) hb); clear HO202; clear HB; have HO202 := n0_; have HO205 := n1_; have HB := n2_; clear n0_ n1_ n2_; (try clear hb); (try clear hb2); (try clear hk); (try clear hi); (try clear ho0)))
  (try simp only [Act.put, List.setIfInBounds_toArray, List.set_cons_zero, List.set_cons_succ])
  go_cut [30] (fun v30 wc => ∃ (kq : Nat) (x30_6 : Bool), v30 = .bool x30_6 ∧ Aside0 (foliatelaw01_VariCut.j0 kq a2 t200 x30_6 = some r) ∧ Aside0 (kq ≤ k) ∧ Aside0 (Kd.R (Kd.int .u8) 5 wc w.heap.size (fun _ => True) v201 t200) ∧ Aside0 (Below w.heap.size w wc))
  case first =>
    have H := HC7.out
    clear HC7
    by_cases c11 : t199 = true
    · subst c11
      have H1 : (if a1 ≤ a0 then (foliatelaw01_VariCut.j0 k a2 t200 (decide ((t203.length : Int) > (t200.length : Int)))) else (foliatelaw01_VariCut.j0 k a2 t200 false)) = some r := by rw [if_pos rfl] at H; exact H
      clear H
      have H := H1
      clear H1
      by_cases c12 : a1 ≤ a0
      · rw [if_pos c12] at H
        have c12b0 : decide (a1 ≤ a0) = true := decide_eq_true c12
        clear c12
        (first | rw [c12b0] | (simp only [i64_w, i32_w]; rw [c12b0]) | skip)
        have H' := Aside0.mk H
        clear H
        obtain ⟨Ao13, co13, eo13⟩ := Kd.R_slice HO205.out
        subst eo13
        obtain ⟨Ao14, co14, eo14⟩ := Kd.R_slice HO202.out
        subst eo14
        go_wp2
        go_meet
        case rel => exact ⟨_, (decide ((t203.length : Int) > (t200.length : Int))), (by first | rfl | (simp; done) | (simp [*]; done)), H', ⟨by first | omega | exact Nat.le_refl _⟩, ⟨by (with_reducible repeat (first | apply Kd.R_alloc | apply Kd.R_drewN | apply Kd.R_drew)); exact Kd.R_mono HO202.out (fun _ hk => trivial)⟩, ⟨by repeat (first | (with_reducible first | exact HB.out | apply below_alloc | apply pw_below_drewN | apply below_drew1) | exact HB.out)⟩⟩
      · rw [if_neg c12] at H
        have c12b0 : decide (a1 ≤ a0) = false := decide_eq_false c12
        clear c12
        (first | rw [c12b0] | (simp only [i64_w, i32_w]; rw [c12b0]) | skip)
        have H' := Aside0.mk H
        clear H
        go_wp2
        go_meet
        case rel => exact ⟨_, (false), (by first | rfl | (simp; done) | (simp [*]; done)), H', ⟨by first | omega | exact Nat.le_refl _⟩, ⟨by (with_reducible repeat (first | apply Kd.R_alloc | apply Kd.R_drewN | apply Kd.R_drew)); exact Kd.R_mono HO202.out (fun _ hk => trivial)⟩, ⟨by repeat (first | (with_reducible first | exact HB.out | apply below_alloc | apply pw_below_drewN | apply below_drew1) | exact HB.out)⟩⟩
    · replace c11 := Bool.eq_false_iff.mpr c11
      subst c11
      have H1 : (foliatelaw01_VariCut.j0 k a2 t200 true) = some r := by rw [if_neg (show ¬ (false = true) by decide)] at H; exact H
      clear H
      have H := H1
      clear H1
      have H' := Aside0.mk H
      clear H
      go_wp2
      go_meet
      case rel => exact ⟨_, (true), (by first | rfl | (simp; done) | (simp [*]; done)), H', ⟨by first | omega | exact Nat.le_refl _⟩, ⟨by (with_reducible repeat (first | apply Kd.R_alloc | apply Kd.R_drewN | apply Kd.R_drew)); exact Kd.R_mono HO202.out (fun _ hk => trivial)⟩, ⟨by repeat (first | (with_reducible first | exact HB.out | apply below_alloc | apply pw_below_drewN | apply below_drew1) | exact HB.out)⟩⟩
  case rest =>
    clear HC7
    try clear c1
    try clear p2
    try clear c5
    try clear c10
    try clear c11
    try clear c12
    try clear c12b0
    obtain ⟨kq, x30_6, rfl, HA, HJ6, HO_8, HB⟩ := hcut
    cases kq with
    | zero => exact absurd HA.out (by simp [foliatelaw01_VariCut.j0])
    | succ kj6 =>
      have H := HA.out
      clear HA
      simp only [foliatelaw01_VariCut.j0] at H
      by_cases c15 : x30_6 = true
      · subst c15
        have H1 : (some false) = some r := by rw [if_pos rfl] at H; exact H
        clear H
        have H := H1
        clear H1
        obtain rfl := Option.some.inj H
        go_wp2
        go_ret
        exact ⟨by first | rfl | (simp [errW_none, errW_some] <;> rfl) | (simp [*, errW_none, errW_some] <;> rfl), by repeat (first | (with_reducible first | exact HB.out | apply below_alloc | apply pw_below_drewN | apply below_drew1) | exact HB.out)⟩
      · replace c15 := Bool.eq_false_iff.mpr c15
        subst c15
        have H1 : (if a2 < 0 then (some true) else (if a2 ≥ (t200.length : Int) then (some true) else (if 0 ≤ a2 then (if a2 ≤ (t200.length : Int) then ((vari_Get.f kj6 (t200.take (a2 : Int).toNat)).bind fun bt210 => (if bt210.1 = 0 then (some (bt210.2 == 0)) else (some false))) else (none)) else (none)))) = some r := by rw [if_neg (show ¬ (false = true) by decide)] at H; exact H
        clear H
        have H := H1
        clear H1
        by_cases c16 : a2 < 0
        · rw [if_pos c16] at H
          have c16b0 : decide (a2 < 0) = true := decide_eq_true c16
          clear c16
          obtain rfl := Option.some.inj H
          go_wp2
          go_ret
          exact ⟨by first | rfl | (simp [errW_none, errW_some] <;> rfl) | (simp [*, errW_none, errW_some] <;> rfl), by repeat (first | (with_reducible first | exact HB.out | apply below_alloc | apply pw_below_drewN | apply below_drew1) | exact HB.out)⟩
        · rw [if_neg c16] at H
          have c16b0 : decide (a2 < 0) = false := decide_eq_false c16
          clear c16
          by_cases c17 : a2 ≥ (t200.length : Int)
          · rw [if_pos c17] at H
            have c17b0 : decide ((t200.length : Int) ≤ a2) = true := decide_eq_true c17
            clear c17
            obtain rfl := Option.some.inj H
            obtain ⟨Ao18, co18, eo18⟩ := Kd.R_slice HO_8.out
            subst eo18
            go_wp2
            go_ret
            exact ⟨by first | rfl | (simp [errW_none, errW_some] <;> rfl) | (simp [*, errW_none, errW_some] <;> rfl), by repeat (first | (with_reducible first | exact HB.out | apply below_alloc | apply pw_below_drewN | apply below_drew1) | exact HB.out)⟩
          · rw [if_neg c17] at H
            have c17b0 : decide ((t200.length : Int) ≤ a2) = false := decide_eq_false c17
            clear c17
            by_cases c19 : 0 ≤ a2
            · rw [if_pos c19] at H
              have c19b0 := eq_true c19
              have c19b1 : decide (0 ≤ a2) = true := decide_eq_true c19
              clear c19
              by_cases c20 : a2 ≤ (t200.length : Int)
              · rw [if_pos c20] at H
                have c20b0 := eq_true c20
                have c20b1 : decide (a2 ≤ (t200.length : Int)) = true := decide_eq_true c20
                clear c20
                obtain ⟨y206, hy206⟩ : ∃ y_ : List Int, y_ = (t200.take (a2 : Int).toNat) := ⟨_, rfl⟩
                replace H : ((vari_Get.f kj6 y206).bind fun bt210 => (if bt210.1 = 0 then (some (bt210.2 == 0)) else (some false))) = some r := by first | (rw [hy206]; with_reducible exact H) | (have H2_ := (Option.bind_some _ _).symm.trans H; rw [hy206]; with_reducible exact H2_) | (have H2_ := (Option.bind_some _ _).symm.trans H; with_reducible exact H2_) | with_reducible exact H | (rw [hy206]; exact H) | exact H
                have Ny206 := Aside0.mk hy206
                clear hy206
                replace H := Option.bind_eq_some_iff.mp H
                obtain ⟨⟨t210, t211⟩, A210, H⟩ := H
                replace H : (if t210 = 0 then (some (t211 == 0)) else (some false)) = some r := H
                have A21 := Aside0.mk A210
                clear A210
                by_cases c22 : t210 = 0
                · rw [if_pos c22] at H
                  have c22b0 : (t210 == 0) = true := beq_iff_eq.mpr c22
                  have c22b1 : (t210 != 0) = false := bne_eq_false_iff_eq.mpr c22
                  clear c22
                  obtain rfl := Option.some.inj H
                  obtain ⟨Ao23, co23, eo23⟩ := Kd.R_slice HO_8.out
                  subst eo23
                  have q24 : (a2 : Int) ≤ ((t200.length : Int) : Int) := of_decide_eq_true (by first | (with_reducible assumption) | assumption)
                  obtain ⟨i024, hi024, _, hsz24, _⟩ := info_parts info5
                  have hroom24 : t200.length ≤ co23 := (Kd.R_reads' HO_8.out).2.1
                  have hC24 : Kd.C (Kd.int .u8) _ Ao23 t200.length t200 := (Kd.R_reads' HO_8.out).2.2
                  have hcut24 := cut_to (P := Try.prog) 23 5 .i64 Try.underlying23 hi024 Ao23 t200.length co23 a2 (of_decide_eq_true (by first | (with_reducible assumption) | assumption)) q24 hroom24
                  have hr24 := Kd.C_take (m := (a2 : Int).toNat) hC24 (by omega)
                  have hy24 : y206.length = (a2 : Int).toNat := (by rw [Ny206.out, List.length_take]; omega)
                  rw [← Ny206.out] at hr24
                  rw [← hy24] at hcut24
                  have HR209 := Aside0.mk hr24
                  have HC209 := Aside0.mk (show y206.length ≤ co23 from by omega)
                  clear hr24 hC24 hroom24 hi024 hsz24
                  have KY24 := Aside0.mk hy24
                  clear hy24
                  have KL24 := Aside0.mk (show (a2 : Int).toNat ≤ t200.length from by omega)
                  replace q24 := eq_true q24
                  go_wp2_with (first | ((with_reducible refine gate_callee (f := 11) rfl ?_); refine goesL_ (some 43) rfl rfl Try.func11 (by kernel_rfl) rfl #[.slice Ao23 y206.length co23] rfl (by (try simp only [List.map_toArray, List.map_cons, List.map_nil]); first | done | rfl | (simp only [List.length_drop, List.length_take]; rfl)) ?_; (with_reducible refine (vari_Get.calls kj6 _ _ y206 t210 t211 _ ?side1 ?side2 A21.out).mono ?_); (case side1 => repeat (first | exact (by repeat (first | (with_reducible exact HR209.out) | (with_reducible refine Kd.C_alloc ?_ _) | (with_reducible refine Kd.C_drewN ?_ _) | (with_reducible refine Kd.C_drew ?_) | exact HR209.out)) | (with_reducible refine Kd.C_alloc ?_ _) | (with_reducible refine Kd.C_drewN ?_ _) | (with_reducible refine Kd.C_drew ?_))); (case side2 => exact HC209.out); rintro e w' ⟨rfl, ⟨nd, rfl⟩⟩; refine ⟨_, rfl, ?_⟩))
                  go_ret
                  exact ⟨by first | rfl | (simp [errW_none, errW_some] <;> rfl) | (simp [*, errW_none, errW_some] <;> rfl), by repeat (first | (with_reducible first | exact HB.out | apply below_alloc | apply pw_below_drewN | apply below_drew1) | exact HB.out)⟩
                · rw [if_neg c22] at H
                  have c22b0 : (t210 == 0) = false := beq_eq_false_iff_ne.mpr c22
                  have c22b1 : (t210 != 0) = true := bne_iff_ne.mpr c22
                  obtain rfl := Option.some.inj H
                  obtain ⟨Ao25, co25, eo25⟩ := Kd.R_slice HO_8.out
                  subst eo25
                  have q26 : (a2 : Int) ≤ ((t200.length : Int) : Int) := of_decide_eq_true (by first | (with_reducible assumption) | assumption)
                  obtain ⟨i026, hi026, _, hsz26, _⟩ := info_parts info5
                  have hroom26 : t200.length ≤ co25 := (Kd.R_reads' HO_8.out).2.1
                  have hC26 : Kd.C (Kd.int .u8) _ Ao25 t200.length t200 := (Kd.R_reads' HO_8.out).2.2
                  have hcut26 := cut_to (P := Try.prog) 23 5 .i64 Try.underlying23 hi026 Ao25 t200.length co25 a2 (of_decide_eq_true (by first | (with_reducible assumption) | assumption)) q26 hroom26
                  have hr26 := Kd.C_take (m := (a2 : Int).toNat) hC26 (by omega)
                  have hy26 : y206.length = (a2 : Int).toNat := (by rw [Ny206.out, List.length_take]; omega)
                  rw [← Ny206.out] at hr26
                  rw [← hy26] at hcut26
                  have HR209 := Aside0.mk hr26
                  have HC209 := Aside0.mk (show y206.length ≤ co25 from by omega)
                  clear hr26 hC26 hroom26 hi026 hsz26
                  have KY26 := Aside0.mk hy26
                  clear hy26
                  have KL26 := Aside0.mk (show (a2 : Int).toNat ≤ t200.length from by omega)
                  replace q26 := eq_true q26
                  go_wp2_with (first | ((with_reducible refine gate_callee (f := 11) rfl ?_); refine goesL_ (some 43) rfl rfl Try.func11 (by kernel_rfl) rfl #[.slice Ao25 y206.length co25] rfl (by (try simp only [List.map_toArray, List.map_cons, List.map_nil]); first | done | rfl | (simp only [List.length_drop, List.length_take]; rfl)) ?_; (with_reducible refine (vari_Get.calls kj6 _ _ y206 t210 t211 _ ?side1 ?side2 A21.out).mono ?_); (case side1 => repeat (first | exact (by repeat (first | (with_reducible exact HR209.out) | (with_reducible refine Kd.C_alloc ?_ _) | (with_reducible refine Kd.C_drewN ?_ _) | (with_reducible refine Kd.C_drew ?_) | exact HR209.out)) | (with_reducible refine Kd.C_alloc ?_ _) | (with_reducible refine Kd.C_drewN ?_ _) | (with_reducible refine Kd.C_drew ?_))); (case side2 => exact HC209.out); rintro e w' ⟨rfl, ⟨nd, rfl⟩⟩; refine ⟨_, rfl, ?_⟩))
                  go_ret
                  exact ⟨by first | rfl | (simp [errW_none, errW_some] <;> rfl) | (simp [*, errW_none, errW_some] <;> rfl), by repeat (first | (with_reducible first | exact HB.out | apply below_alloc | apply pw_below_drewN | apply below_drew1) | exact HB.out)⟩
              · rw [if_neg c20] at H
                exact absurd H (by simp)
            · rw [if_neg c19] at H
              exact absurd H (by simp)

/-- THE ONE PURE STATEMENT of foliatelaw01_VariCut: yours. -/
def foliatelaw01_VariCut.Pure : Prop := ∀ (a0 : Int) (a1 : Int) (a2 : Int), (Lit.int .u64 a0).wf = true → (Lit.int .u64 a1).wf = true → (Lit.int .i64 a2).wf = true → ∃ k, foliatelaw01_VariCut.f k a0 a1 a2 = some true
theorem foliatelaw01_VariCut.walk (P : foliatelaw01_VariCut.Pure) (a0 : Int) (a1 : Int) (a2 : Int) (w : World) (w0 : (Lit.int .u64 a0).wf = true) (w1 : (Lit.int .u64 a1).wf = true) (w2 : (Lit.int .i64 a2).wf = true) :
    Calls Try.prog 5 #[.int .u64 a0, .int .u64 a1, .int .i64 a2] w fun e w' => e = .returned (.bool true) ∧ Below w.heap.size w w' := by
  obtain ⟨k, h⟩ := P a0 a1 a2 w0 w1 w2
  refine (foliatelaw01_VariCut.calls k a0 a1 a2 true w h).mono ?_
  rintro e w' ⟨rfl, hd⟩
  exact ⟨rfl, hd⟩

end Go.Proofs.Ytflkjacmnoocfaa.PAll
