-- Written by wip/tools/myprint.py, a program of the prover's own, over the kit's print; the contracts named 'HAND' there are typed by hand.
import Derived.Test.YtjihemgadbpebaaPAllx0
import Derived.Test.YtjihemgadbpebaaPAllx1
namespace Go.Proofs.Ytjihemgadbpebaa.PAll
open Go.RowKit Go.Proofs.YtjihemgadbpebaaW.PrintWords Go.Proofs.YtjihemgadbpebaaW.PrintLast Go.Proofs.YtjihemgadbpebaaW.PrintMore
attribute [local go_sem] max2_int min2_int max_two min_two max_three min_three max_four min_four   -- for this text's walks alone
set_option linter.unusedVariables false
set_option linter.unusedSimpArgs false

/-! ### crc_Good: function 31 -/
def crc_Good.l0 : Nat → Int → List Int → Int → Int → Option (Bool)
  | 0, _, _, _, _ => none
  | k + 1, x4, x18, x19, x20 => if x20 < x19 then (if 0 ≤ x20 then (if x20 < (x18.length : Int) then (if 0 ≤ (wrap64 (8 * x20)) then (if ((shr .u32 x4 (wrap64 (8 * x20))) % 256) = (rd x18 x20) then (crc_Good.l0 k x4 x18 x19 (wrap64 (x20 + 1))) else (some false)) else (none)) else (none)) else (none)) else (some true)
def crc_Good.f (k : Nat) (l0 : List Int) : Option (Bool) := if (wrap64 ((l0.length : Int) - 4)) < 0 then (some false) else (if 0 ≤ (wrap64 ((l0.length : Int) - 4)) then (if (wrap64 ((l0.length : Int) - 4)) ≤ (l0.length : Int) then ((crc_Sum.f (l0.take ((wrap64 ((l0.length : Int) - 4)) : Int).toNat)).bind fun t119 => (crc_Good.l0 k t119 (l0.drop ((wrap64 ((l0.length : Int) - 4)) : Int).toNat) ((l0.drop ((wrap64 ((l0.length : Int) - 4)) : Int).toNat).length : Int) 0)) else (none)) else (none))
theorem crc_Good.mono_l : ∀ k, (∀ y0 y1 y2 y3, LeO (crc_Good.l0 k y0 y1 y2 y3) (crc_Good.l0 (k + 1) y0 y1 y2 y3))
  | 0 => fun _ _ _ _ r h => by simp [crc_Good.l0] at h
  | k + 1 => by
    have ih0 := crc_Good.mono_l k
    · intro y0 y1 y2 y3
      unfold crc_Good.l0
      repeat' first
      | (with_reducible exact ih0 _ _ _ _)
      | (with_reducible exact LeO.refl _)
      | (with_reducible exact LeO.none _)
      | (with_reducible refine LeO.ite ?_ ?_)
      | (with_reducible refine LeO.bind ?_ (fun _ => ?_))
      | exact ih0 _ _ _ _
      | exact LeO.none _
      | refine LeO.ite ?_ ?_
      | refine LeO.bind ?_ (fun _ => ?_)
theorem crc_Good.mono : ∀ a0 k, LeO (crc_Good.f k a0) (crc_Good.f (k + 1) a0) := by
  intro a0 k
  have ih0 := crc_Good.mono_l k
  unfold crc_Good.f
  repeat' first
      | (with_reducible exact ih0 _ _ _ _)
      | (with_reducible exact LeO.refl _)
      | (with_reducible exact LeO.none _)
      | (with_reducible refine LeO.ite ?_ ?_)
      | (with_reducible refine LeO.bind ?_ (fun _ => ?_))
      | exact ih0 _ _ _ _
      | exact LeO.none _
      | refine LeO.ite ?_ ?_
      | refine LeO.bind ?_ (fun _ => ?_)
set_option maxHeartbeats 8000000 in
set_option maxRecDepth 100000 in
theorem crc_Good.calls (k : Nat) (A0 : Option Addr) (c0 : Nat) (l0 : List Int) (r : Bool) (w : World) (hr0 : Kd.C (Kd.int .u8) w A0 l0.length l0) (hc0 : l0.length ≤ c0) (h : crc_Good.f k l0 = some r) :
    Calls Try.prog 31 #[.slice A0 l0.length c0] w fun e w' => e = .returned (.bool r) ∧ Below w.heap.size w w' := by
  have HR0 := Aside0.mk hr0
  have HC0 := Aside0.mk hc0
  clear hr0 hc0
  have HB := Aside0.mk (Below.refl w.heap.size w)
  have H : (if (wrap64 ((l0.length : Int) - 4)) < 0 then (some false) else (if 0 ≤ (wrap64 ((l0.length : Int) - 4)) then (if (wrap64 ((l0.length : Int) - 4)) ≤ (l0.length : Int) then ((crc_Sum.f (l0.take ((wrap64 ((l0.length : Int) - 4)) : Int).toNat)).bind fun t119 => (crc_Good.l0 k t119 (l0.drop ((wrap64 ((l0.length : Int) - 4)) : Int).toNat) ((l0.drop ((wrap64 ((l0.length : Int) - 4)) : Int).toNat).length : Int) 0)) else (none)) else (none))) = some r := h
  clear h
  by_cases c2 : (wrap64 ((l0.length : Int) - 4)) < 0
  · rw [if_pos c2] at H
    have c2b0 : decide ((wrap64 ((l0.length : Int) - 4)) < 0) = true := decide_eq_true c2
    clear c2
    obtain rfl := Option.some.inj H
    go_enter Try.func31, Try.ntmps31
    go_wp2
    go_ret
    exact ⟨by first | rfl | (simp [errW_none, errW_some] <;> rfl) | (simp [*, errW_none, errW_some] <;> rfl), by repeat (first | (with_reducible first | exact HB.out | apply below_alloc | apply pw_below_drewN | apply below_drew1) | exact HB.out)⟩
  · rw [if_neg c2] at H
    have c2b0 : decide ((wrap64 ((l0.length : Int) - 4)) < 0) = false := decide_eq_false c2
    clear c2
    obtain ⟨ji3, hji3⟩ : ∃ j_ : Int, (wrap64 ((l0.length : Int) - 4)) = j_ := ⟨_, rfl⟩
    replace H : (if 0 ≤ (ji3) then (if (ji3) ≤ (l0.length : Int) then ((crc_Sum.f (l0.take ((ji3) : Int).toNat)).bind fun t119 => (crc_Good.l0 k t119 (l0.drop ((ji3) : Int).toNat) ((l0.drop ((ji3) : Int).toNat).length : Int) 0)) else (none)) else (none)) = some r := by first | (rw [hji3] at H; exact H) | (simp only [hji3] at H ⊢; exact H)
    (try rw [hji3] at c2b0)
    have hji3w : (IntKind.i64.wrap ((l0.length : Int) - 4)) = ji3 := (i64_w _).trans hji3
    by_cases c4 : 0 ≤ (ji3)
    · rw [if_pos c4] at H
      have c4b0 := eq_true c4
      have c4b1 : decide (0 ≤ (ji3)) = true := decide_eq_true c4
      clear c4
      by_cases c5 : (ji3) ≤ (l0.length : Int)
      · rw [if_pos c5] at H
        have c5b0 := eq_true c5
        have c5b1 : decide ((ji3) ≤ (l0.length : Int)) = true := decide_eq_true c5
        clear c5
        replace H := Option.bind_eq_some_iff.mp H
        obtain ⟨t119, A60, H⟩ := H
        replace H : (crc_Good.l0 k t119 (l0.drop ((ji3) : Int).toNat) ((l0.drop ((ji3) : Int).toNat).length : Int) 0) = some r := H
        have A6 := Aside0.mk A60
        clear A60
        have c7b0 := eq_true (of_decide_eq_true (by first | (with_reducible assumption) | assumption) : 0 ≤ (ji3))
        have c8b0 := eq_true (of_decide_eq_true (by first | (with_reducible assumption) | assumption) : (ji3) ≤ (l0.length : Int))
        have H' := Aside0.mk H
        clear H
        obtain ⟨i09, hi09, _, hsz9, _⟩ := info_parts info5
        obtain ⟨hcut9, hA9, hC9⟩ := print_take_of (P := Try.prog) (Value.int .u8) 0 22 5 .i64 Try.underlying22 hi09 hsz9 A0 c0 l0 (ji3) (of_decide_eq_true (by first | (with_reducible assumption) | assumption)) (of_decide_eq_true (by first | (with_reducible assumption) | assumption)) HC0.out
        have HR118 := Aside0.mk (Kd.C_of_reads (h1 := fun _ => rfl) (hA9 _ (Kd.reads_of_C HR0.out)))
        have HC118 := Aside0.mk hC9
        clear hA9 hC9 hi09 hsz9
        go_enter Try.func31, Try.ntmps31
        go_wp2_with (first | ((with_reducible refine gate_callee (f := 29) rfl ?_); refine goesL_ (some 15) rfl rfl Try.func29 (by kernel_rfl) rfl #[.slice A0 (l0.take ((ji3) : Int).toNat).length c0] rfl (by (try simp only [List.map_toArray, List.map_cons, List.map_nil]); first | done | (rw [show (l0.take ((ji3) : Int).toNat).length = (ji3).toNat from (by rw [List.length_take]; have h_ : ((ji3) : Int) ≤ (l0.length : Int) := of_decide_eq_true (by first | (with_reducible assumption) | assumption); omega)] <;> rfl) | (simp only [hji3]; rfl) | rfl | (simp only [List.length_drop, List.length_take]; rfl)) ?_; (with_reducible refine (crc_Sum.calls _ _ (l0.take ((ji3) : Int).toNat) t119 _ ?side1 ?side2 A6.out).mono ?_); (case side1 => repeat (first | exact HR118.out | (with_reducible refine Kd.C_alloc ?_ _) | (with_reducible refine Kd.C_drewN ?_ _) | (with_reducible refine Kd.C_drew ?_))); (case side2 => exact HC118.out); rintro e w10 ⟨rfl, hb⟩; refine ⟨_, rfl, ?_⟩; have n0_ := Aside0.mk (below_step (by repeat (first | (with_reducible first | exact HB.out | apply below_alloc | apply pw_below_drewN | apply below_drew1) | exact HB.out)) hb); clear HB; have HB := n0_; clear n0_; (try clear hb); (try clear hb2); (try clear hk); (try clear hi); obtain ⟨i011, hi011, _, hsz11, _⟩ := info_parts info5; obtain ⟨A11, hcut11, hA11, hC11⟩ := print_drop_of (P := Try.prog) (Value.int .u8) 0 22 5 .i64 Try.underlying22 hi011 hsz11 A0 c0 l0 (ji3) (of_decide_eq_true (by first | (with_reducible assumption) | assumption)) (of_decide_eq_true (by first | (with_reducible assumption) | assumption)) HC0.out; have HR120 := Aside0.mk (Kd.C_of_reads (h1 := fun _ => rfl) (hA11 _ (Kd.reads_of_C HR0.out))); have HC120 := Aside0.mk hC11; clear hA11 hC11 hi011 hsz11))
        go_loopg [20] k (fun kq v20 w' => ∃ (x20_1 : Int), v20 = .int .i64 x20_1 ∧ Aside0 (crc_Good.l0 kq t119 (l0.drop ((ji3) : Int).toNat) ((l0.drop ((ji3) : Int).toNat).length : Int) x20_1 = some r) ∧ Aside0 (kq ≤ k) ∧ Aside0 (Below w.heap.size w w'))
        case atStart => exact ⟨(0), (by first | rfl | (simp; done) | (simp [*]; done)), H', ⟨Nat.le_refl _⟩, ⟨by repeat (first | (with_reducible first | exact HB.out | apply below_alloc | apply pw_below_drewN | apply below_drew1) | exact HB.out)⟩⟩
        case round =>
          clear H'
          try clear c2
          try clear c2b0
          try clear p2
          try clear c3
          try clear c4
          try clear c4b0
          try clear c4b1
          try clear c5
          try clear c5b0
          try clear c5b1
          try clear p6
          try clear c7
          try clear c7b0
          try clear c8
          try clear c8b0
          obtain ⟨x20_1, rfl, HA, HK1, HB⟩ := hrel
          cases gk with
          | zero => exact absurd HA.out (by simp [crc_Good.l0])
          | succ k1 =>
            have H := HA.out
            clear HA
            simp only [crc_Good.l0] at H
            by_cases c12 : x20_1 < ((l0.drop ((ji3) : Int).toNat).length : Int)
            · rw [if_pos c12] at H
              have c12b0 : decide (x20_1 < ((l0.drop ((ji3) : Int).toNat).length : Int)) = true := decide_eq_true c12
              have c12b0z := c12b0
              simp only [List.length_drop] at c12b0z
              clear c12
              by_cases c13 : 0 ≤ x20_1
              · rw [if_pos c13] at H
                have c13b0 : decide (0 ≤ x20_1) = true := decide_eq_true c13
                clear c13
                by_cases c14 : x20_1 < ((l0.drop ((ji3) : Int).toNat).length : Int)
                · rw [if_pos c14] at H
                  have c14b0 : decide (x20_1 < ((l0.drop ((ji3) : Int).toNat).length : Int)) = true := decide_eq_true c14
                  have c14b0z := c14b0
                  simp only [List.length_drop] at c14b0z
                  clear c14
                  obtain ⟨ji15, hji15⟩ : ∃ j_ : Int, (wrap64 (8 * x20_1)) = j_ := ⟨_, rfl⟩
                  replace H : (if 0 ≤ (ji15) then (if ((shr .u32 t119 (ji15)) % 256) = (rd (l0.drop ((ji3) : Int).toNat) x20_1) then (crc_Good.l0 k1 t119 (l0.drop ((ji3) : Int).toNat) ((l0.drop ((ji3) : Int).toNat).length : Int) (wrap64 (x20_1 + 1))) else (some false)) else (none)) = some r := by first | (rw [hji15] at H; exact H) | (simp only [hji15] at H ⊢; exact H)
                  have hji15w : (IntKind.i64.wrap (8 * x20_1)) = ji15 := (i64_w _).trans hji15
                  by_cases c16 : 0 ≤ (ji15)
                  · rw [if_pos c16] at H
                    have c16b0 := eq_true c16
                    have c16b1 : decide (0 ≤ (ji15)) = true := decide_eq_true c16
                    clear c16
                    obtain ⟨ji17, hji17⟩ : ∃ j_ : Int, (shr .u32 t119 (ji15)) = j_ := ⟨_, rfl⟩
                    replace H : (if ((ji17) % 256) = (rd (l0.drop ((ji3) : Int).toNat) x20_1) then (crc_Good.l0 k1 t119 (l0.drop ((ji3) : Int).toNat) ((l0.drop ((ji3) : Int).toNat).length : Int) (wrap64 (x20_1 + 1))) else (some false)) = some r := by first | (rw [hji17] at H; exact H) | (simp only [hji17] at H ⊢; exact H)
                    have hji17_ : (t119 / 2 ^ min (ji15).toNat 32) = ji17 := hji17
                    have hji17z : (ji15) ≤ 32 → (t119 / 2 ^ (ji15).toNat) = ji17 := shr_small hji17
                    by_cases c18 : ((ji17) % 256) = (rd (l0.drop ((ji3) : Int).toNat) x20_1)
                    · rw [if_pos c18] at H
                      have c18b0 : (((ji17) % 256) == (rd (l0.drop ((ji3) : Int).toNat) x20_1)) = true := beq_iff_eq.mpr c18
                      have c18b1 : (((ji17) % 256) != (rd (l0.drop ((ji3) : Int).toNat) x20_1)) = false := bne_eq_false_iff_eq.mpr c18
                      clear c18
                      have H' := Aside0.mk H
                      clear H
                      have p121 : 0 ≤ (x20_1 : Int) := of_decide_eq_true (by first | (with_reducible assumption) | assumption)
                      have q121 : x20_1 < ((l0.drop ((ji3) : Int).toNat).length : Int) := of_decide_eq_true (by first | (with_reducible assumption) | assumption)
                      obtain ⟨ad121, e121, hx121_0⟩ := Kd.at_int HR120.out x20_1 p121 q121
                      cases e121
                      replace hx121_0 := (HB.out.cell (World.block_lt_of_cell? w _ hx121_0)).trans hx121_0
                      replace p121 := eq_true p121
                      replace q121 := eq_true q121
                      have q121z := q121
                      simp only [List.length_drop] at q121z
                      go_wp2
                      go_roundg k1
                      case measure => have := HK1.out; omega
                      case rel => exact ⟨(wrap64 (x20_1 + 1)), (by first | rfl | (simp; done) | (simp [*]; done)), H', ⟨by have := HK1.out; omega⟩, ⟨by repeat (first | (with_reducible first | exact HB.out | apply below_alloc | apply pw_below_drewN | apply below_drew1) | exact HB.out)⟩⟩
                    · rw [if_neg c18] at H
                      have c18b0 : (((ji17) % 256) == (rd (l0.drop ((ji3) : Int).toNat) x20_1)) = false := beq_eq_false_iff_ne.mpr c18
                      have c18b1 : (((ji17) % 256) != (rd (l0.drop ((ji3) : Int).toNat) x20_1)) = true := bne_iff_ne.mpr c18
                      obtain rfl := Option.some.inj H
                      have p121 : 0 ≤ (x20_1 : Int) := of_decide_eq_true (by first | (with_reducible assumption) | assumption)
                      have q121 : x20_1 < ((l0.drop ((ji3) : Int).toNat).length : Int) := of_decide_eq_true (by first | (with_reducible assumption) | assumption)
                      obtain ⟨ad121, e121, hx121_0⟩ := Kd.at_int HR120.out x20_1 p121 q121
                      cases e121
                      replace hx121_0 := (HB.out.cell (World.block_lt_of_cell? w _ hx121_0)).trans hx121_0
                      replace p121 := eq_true p121
                      replace q121 := eq_true q121
                      have q121z := q121
                      simp only [List.length_drop] at q121z
                      go_wp2
                      go_ret
                      exact ⟨by first | rfl | (simp [errW_none, errW_some] <;> rfl) | (simp only [← hji3, ← hji15, ← hji17]; first | rfl | (simp [errW_none, errW_some] <;> rfl)) | (simp [*, errW_none, errW_some] <;> rfl), by repeat (first | (with_reducible first | exact HB.out | apply below_alloc | apply pw_below_drewN | apply below_drew1) | exact HB.out)⟩
                  · rw [if_neg c16] at H
                    exact absurd H (by simp)
                · rw [if_neg c14] at H
                  exact absurd H (by simp)
              · rw [if_neg c13] at H
                exact absurd H (by simp)
            · rw [if_neg c12] at H
              have c12b0 : decide (x20_1 < ((l0.drop ((ji3) : Int).toNat).length : Int)) = false := decide_eq_false c12
              have c12b0z := c12b0
              simp only [List.length_drop] at c12b0z
              clear c12
              obtain rfl := Option.some.inj H
              go_wp2
              go_ret
              exact ⟨by first | rfl | (simp [errW_none, errW_some] <;> rfl) | (simp only [← hji3]; first | rfl | (simp [errW_none, errW_some] <;> rfl)) | (simp [*, errW_none, errW_some] <;> rfl), by repeat (first | (with_reducible first | exact HB.out | apply below_alloc | apply pw_below_drewN | apply below_drew1) | exact HB.out)⟩
      · rw [if_neg c5] at H
        exact absurd H (by simp)
    · rw [if_neg c4] at H
      exact absurd H (by simp)

/-! ### frame_part: function 24 -/
theorem part_info : (Try.prog.info? 5).map (fun i => (i.zero, i.size, i.bytes)) = some (some (.int .u8 0), 1, 1) := by kernel_rfl
def part_T : Bool × List (List Nat × List Nat) := (true, [([], []), ([], []), ([], []), ([0, 1, 2], [0, 1, 2]), ([], []), ([], []), ([4, 5], [4, 5]), ([3, 0, 1, 2, 3], [3]), ([6, 7, 0, 1, 2, 3, 4, 5, 6, 7], [6]), ([8, 0, 1, 2, 3, 4, 5, 6, 7, 8], [])])
def part_B : List Nat := [0, 0, 0, 7, 0, 0, 48, 15, 255, 511]
theorem part_tab : rtab .any (opsOf Try.f24 6) = part_T := by kernel_rfl
theorem part_bits : waitsOk part_T.2 part_B = true := by kernel_rfl
/-- what part answers: 0: cut; 2: too short; 3: another sum -/
def partE (k : Nat) (l : List Int) (n : Nat) : Option Int := if l.length < n + 4 then some 2 else (crc_Good.f k (l.take (n + 4))).bind fun b => if b = true then some 0 else some 3
set_option maxHeartbeats 4000000 in
theorem part_any (k : Nat) (A0 : Option Addr) (c0 : Nat) (l : List Int) (n : Nat) (r : Int) (w : World) (hr0 : Kd.C (Kd.int .u8) w A0 l.length l) (hc0 : l.length ≤ c0) (hn : n ≤ 1000000) (h : partE k l n = some r) :
    Calls Try.prog 24 #[.slice A0 l.length c0, .int .i64 n] w fun e w' => Below w.heap.size w w' ∧
      ((r = 0 ∧ ∃ A' : Option Addr, e = .returned (.tuple #[.slice A0 n n, .slice A' (l.length - (n + 4)) (c0 - (n + 4)), .int .i64 0]) ∧ Kd.C (Kd.int .u8) w A' (l.drop (n + 4)).length (l.drop (n + 4)) ∧ n + 4 ≤ l.length) ∨
       (r ≠ 0 ∧ e = .returned (.tuple #[.slice none 0 0, .slice none 0 0, .int .i64 r]))) := by
  have HR := Aside0.mk hr0
  have HC := Aside0.mk hc0
  obtain ⟨i0, hi0, _, hsz, _⟩ := info_parts part_info
  have kw : wrap64 ((n : Int) + 4) = ((n : Int) + 4) := by unfold wrap64; omega
  unfold partE at h
  by_cases hl : l.length < n + 4
  · rw [if_pos hl] at h
    obtain rfl := Option.some.inj h
    have kl : decide ((l.length : Int) < ((n : Int) + 4)) = true := decide_eq_true (by omega)
    have HL := Aside0.mk hl
    clear hr0 hc0 h hl
    go_enter Try.func24, Try.ntmps24
    go_wp2
    all_goals (refine bodyPost_ret (results_list (rs := [.tmp 4, .tmp 5, .tmp 6]) (vs := [_, _, _]) rfl (by simp) (.tmp (.tmp (.tmp .nil)))) rfl ?_)
    all_goals exact ⟨Below.refl _ _, .inr ⟨by decide, rfl⟩⟩
  · rw [if_neg hl] at h
    obtain ⟨b, hb, h⟩ := Option.bind_eq_some_iff.mp h
    have kl : decide ((l.length : Int) < ((n : Int) + 4)) = false := decide_eq_false (by omega)
    obtain ⟨hcutA, hA, hCA⟩ := print_take_of (P := Try.prog) (Value.int .u8) 0 22 5 .i64 Try.underlying22 hi0 hsz A0 c0 l ((n : Int) + 4) (by omega) (by omega) hc0
    obtain ⟨A7, hcut7, hA7, hC7⟩ := print_drop_of (P := Try.prog) (Value.int .u8) 0 22 5 .i64 Try.underlying22 hi0 hsz A0 c0 l ((n : Int) + 4) (by omega) (by omega) hc0
    have hRA := Aside0.mk (Kd.C_of_reads (h1 := fun _ => rfl) (hA _ (Kd.reads_of_C hr0)))
    have hR7 := Aside0.mk (Kd.C_of_reads (h1 := fun _ => rfl) (hA7 _ (Kd.reads_of_C hr0)))
    have HCA := Aside0.mk hCA
    have ht : ((n : Int) + 4).toNat = n + 4 := by omega
    have hlt : (l.take (n + 4)).length = n + 4 := by rw [List.length_take]; omega
    have hld : (l.drop (n + 4)).length = l.length - (n + 4) := List.length_drop
    rw [ht] at hcutA hcut7
    rw [hlt] at hcutA
    rw [hld] at hcut7
    have hcutn : ∀ W : World, (Instr.slice 22 (.slice A0 l.length c0) none (some (.int .i64 (n : Int))) (some (.int .i64 (n : Int)))).run Try.prog W = .ok (.slice A0 n n) W := fun W => by
      have a1 : (0 : Int) ≤ (n : Int) := by omega
      have a2 : (n : Int) ≤ (c0 : Int) := by omega
      have he : Try.prog.elem 22 = 5 := by kernel_rfl
      have hse : ∀ W, (sizeOf 5).run Try.prog W = .ok 1 W := fun W => by simp [sizeOf, typeInfo, hi0, hsz]
      have hu : Try.prog.underlying 22 = some (.slice (Try.prog.elem 22)) := by rw [he]; exact Try.underlying22
      rw [run_slice_hm (P := Try.prog) (w := W) 22 A0 l.length c0 hu .i64 .i64 (n : Int) (n : Int) a1 (Int.le_refl _) a2, he, hse]
      have ha : (A0.map fun x => x.add 0) = A0 := by cases A0 <;> simp [Addr.add]
      simp [sliced, Result.andThen, ha]
    have HL := Aside0.mk hl
    cases b with
    | true =>
      have hz := Option.some.inj h
      replace hz : (0 : Int) = r := hz
      subst hz
      clear hr0 hc0 h hl hA hA7 hCA hC7
      go_enter Try.func24, Try.ntmps24
      go_wp2_with (go_at_call 31; rw [← hlt]; refine (crc_Good.calls k A0 c0 (l.take (n + 4)) true _ (by have := hRA.out; rw [ht] at this; exact this) (by have := HCA.out; rw [ht] at this; exact this) hb).mono ?_; rintro e w1 ⟨rfl, hbw⟩)
      refine start_ (n := 10) (S := fun w' => True) (ds := []) #[false, false, false, false, false, false, false, false, false, false] (by kernel_rfl) rfl rfl trivial (fun hHeld => ?_)
      refine with_tabW part_tab part_bits (fun HT_ HW_ => ?_)
      refine pure_ (i := 0) (N := some 21) (v := ?_) (a' := ?_) #[true, false, false, false, false, false, false, false, false, false] rfl rfl (any_of HT_.out (by kernel_rfl)) (fun _ _ _ h => h) (Or.inl ⟨by rfl, ?_⟩) ?_ ?_
      rotate_left
      · intro w'
        go_simp
        with_reducible rfl
      rotate_left
      · simp only [Act.put, List.setIfInBounds_toArray, List.set_cons_zero, List.set_cons_succ, i64_w, i32_w]
        rfl
      refine pure_ (i := 1) (N := some 22) (v := ?_) (a' := ?_) #[true, true, false, false, false, false, false, false, false, false] rfl rfl (any_of HT_.out (by kernel_rfl)) (fun _ _ _ h => h) (Or.inl ⟨by rfl, ?_⟩) ?_ ?_
      rotate_left
      · intro w'
        go_simp
        with_reducible rfl
      rotate_left
      · simp only [Act.put, List.setIfInBounds_toArray, List.set_cons_zero, List.set_cons_succ, i64_w, i32_w]
        rfl
      refine pure_ (i := 2) (N := some 23) (v := ?_) (a' := ?_) #[true, true, true, false, false, false, false, false, false, false] rfl rfl (any_of HT_.out (by kernel_rfl)) (fun _ _ _ h => h) (Or.inl ⟨by rfl, ?_⟩) ?_ ?_
      rotate_left
      · intro w'
        go_simp
        with_reducible rfl
      rotate_left
      · simp only [Act.put, List.setIfInBounds_toArray, List.set_cons_zero, List.set_cons_succ, i64_w, i32_w]
        rfl
      refine pure_ (i := 3) (N := some 24) (v := ?_) (a' := ?_) #[true, true, true, true, false, false, false, false, false, false] rfl rfl (any_of HT_.out (by kernel_rfl)) (fun _ _ _ h => h) (Or.inl ⟨by rfl, ?_⟩) ?_ ?_
      rotate_left
      · intro w'
        go_simp
        with_reducible rfl
      rotate_left
      · simp only [Act.put, List.setIfInBounds_toArray, List.set_cons_zero, List.set_cons_succ, i64_w, i32_w]
        rfl
      refine pure_ (i := 4) (N := some 25) (v := ?_) (a' := ?_) #[true, true, true, true, true, false, false, false, false, false] rfl rfl (any_of HT_.out (by kernel_rfl)) (fun _ _ _ h => h) (Or.inl ⟨by rfl, ?_⟩) ?_ ?_
      rotate_left
      · intro w'
        go_simp
        with_reducible rfl
      rotate_left
      · simp only [Act.put, List.setIfInBounds_toArray, List.set_cons_zero, List.set_cons_succ, i64_w, i32_w]
        rfl
      refine pure_ (i := 5) (N := some 26) (v := ?_) (a' := ?_) #[true, true, true, true, true, true, false, false, false, false] rfl rfl (any_of HT_.out (by kernel_rfl)) (fun _ _ _ h => h) (Or.inl ⟨by rfl, ?_⟩) ?_ ?_
      rotate_left
      · intro w'
        go_simp
        with_reducible rfl
      rotate_left
      · simp only [Act.put, List.setIfInBounds_toArray, List.set_cons_zero, List.set_cons_succ, i64_w, i32_w]
        rfl
      refine pure_ (i := 6) (N := some 27) (v := ?_) (a' := ?_) #[true, true, true, true, true, true, true, false, false, false] rfl rfl (any_of HT_.out (by kernel_rfl)) (fun _ _ _ h => h) (Or.inl ⟨by rfl, ?_⟩) ?_ ?_
      rotate_left
      · intro w'
        go_simp
        with_reducible rfl
      rotate_left
      · simp only [Act.put, List.setIfInBounds_toArray, List.set_cons_zero, List.set_cons_succ, i64_w, i32_w]
        rfl
      refine pure_ (i := 7) (N := some 4) (v := ?_) (a' := ?_) #[true, true, true, true, true, true, true, true, false, false] rfl rfl (any_of HT_.out (by kernel_rfl)) (fun _ _ _ h => h) (Or.inl ⟨by rfl, ?_⟩) ?_ ?_
      rotate_left
      · intro w'
        go_simp
        with_reducible rfl
      rotate_left
      · simp only [Act.put, List.setIfInBounds_toArray, List.set_cons_zero, List.set_cons_succ, i64_w, i32_w]
        rfl
      refine pure_ (i := 8) (N := some 5) (v := ?_) (a' := ?_) #[true, true, true, true, true, true, true, true, true, false] rfl rfl (any_of HT_.out (by kernel_rfl)) (fun _ _ _ h => h) (Or.inl ⟨by rfl, ?_⟩) ?_ ?_
      rotate_left
      · intro w'
        go_simp
        with_reducible rfl
      rotate_left
      · simp only [Act.put, List.setIfInBounds_toArray, List.set_cons_zero, List.set_cons_succ, i64_w, i32_w]
        rfl
      refine pure_ (i := 9) (N := some 6) (v := ?_) (a' := ?_) #[true, true, true, true, true, true, true, true, true, true] rfl rfl (any_of HT_.out (by kernel_rfl)) (fun _ _ _ h => h) (Or.inl ⟨by rfl, ?_⟩) ?_ ?_
      rotate_left
      · intro w'
        go_simp
        with_reducible rfl
      rotate_left
      · simp only [Act.put, List.setIfInBounds_toArray, List.set_cons_zero, List.set_cons_succ, i64_w, i32_w]
        rfl
      refine done_ (done_of HT_.out (by kernel_rfl)) ?_
      simp only [Exit.then]
      go_at_K
      go_wp2
      refine bodyPost_ret (results_list (rs := [.tmp 4, .tmp 5, .tmp 6]) (vs := [_, _, _]) rfl (by simp) (.tmp (.tmp (.tmp .nil)))) rfl ?_
      exact ⟨below_drew1 hbw, .inl ⟨by first | rfl | trivial, A7, rfl, by have h_ := hR7.out; rw [ht] at h_; exact h_, by have := HL.out; omega⟩⟩
    | false =>
      have hz := Option.some.inj h
      replace hz : (3 : Int) = r := hz
      subst hz
      clear hr0 hc0 h hl hA hA7 hCA hC7
      go_enter Try.func24, Try.ntmps24
      go_wp2_with (go_at_call 31; rw [← hlt]; refine (crc_Good.calls k A0 c0 (l.take (n + 4)) false _ (by have := hRA.out; rw [ht] at this; exact this) (by have := HCA.out; rw [ht] at this; exact this) hb).mono ?_; rintro e w1 ⟨rfl, hbw⟩)
      all_goals (refine bodyPost_ret (results_list (rs := [.tmp 4, .tmp 5, .tmp 6]) (vs := [_, _, _]) rfl (by simp) (.tmp (.tmp (.tmp .nil)))) rfl ?_)
      all_goals exact ⟨hbw, .inr ⟨by decide, rfl⟩⟩

/-! ### slices_Clone_byte_byte: function 25 -/
theorem clone_info : (Try.prog.info? 5).map (fun i => (i.zero, i.size, i.bytes)) = some (some (.int .u8 0), 1, 1) := by kernel_rfl
theorem clone_eql (w : World) (a : Option Addr) (l c : Nat) : (binOp .eql 22 (.slice a l c) (.slice none 0 0)).run Try.prog w = .ok (.bool a.isNone) w := Lib.run_eql_slice_nil w 22 5 a l c 0 0 Try.underlying22
def slices_Clone_byte_byte.f (l0 : List Int) : Option (List Int) := if l0.length < 140737488355328 then some l0 else none
set_option maxHeartbeats 1000000 in
theorem slices_Clone_byte_byte.calls (A0 : Option Addr) (c0 : Nat) (l0 : List Int) (r : List Int) (w : World) (hr0 : Kd.C (Kd.int .u8) w A0 l0.length l0) (hc0 : l0.length ≤ c0) (h : slices_Clone_byte_byte.f l0 = some r) :
    Calls Try.prog 25 #[.slice A0 l0.length c0] w fun e w' => ∃ v0_ : Value, e = .returned (v0_) ∧ Kd.R (Kd.int .u8) 5 w' w.heap.size (fun _ => True) v0_ r ∧ Below w.heap.size w w' := by
  have HR0 := Aside0.mk hr0
  have hq := clone_eql
  unfold slices_Clone_byte_byte.f at h
  by_cases hl : l0.length < 140737488355328
  · rw [if_pos hl] at h
    obtain rfl := Option.some.inj h
    have HL := Aside0.mk hl
    clear h hl hr0 hc0
    cases A0 with
    | none =>
      have hz : l0.length = 0 := by
        rcases Nat.eq_zero_or_pos l0.length with h | h
        · exact h
        · obtain ⟨ad, e, _⟩ := HR0.out.2.2 h
          cases e
      have HZ := Aside0.mk (List.eq_nil_of_length_eq_zero hz)
      clear hz
      go_enter Try.func25, Try.ntmps25
      go_wp2
      go_ret
      exact ⟨_, rfl, by rw [HZ.out]; exact Kd.R_nil _ _ _ _ _, Below.refl _ _⟩
    | some ad =>
      go_enter Try.func25, Try.ntmps25
      go_wp2_with (first | ((with_reducible refine gate_builtin (b := .append) (xs := #[.tmp 5, .tmp 6]) rfl ?_); at_builtin; refine Kd.R_append_rows (Kd.int .u8) (w0 := w) w.heap.size rfl (.tmp 5) (.tmp 6) 22 5 (.int .u8 0) 1 rfl Try.underlying22 clone_info rfl (by decide) (by omega) (.slice (some ⟨w.heap.size, 0, none⟩) 0 0) [] l0 _ _ _ (fun _ => True) (fun _ => False) rfl rfl ?aO ?aR (fun _ _ h => h) (fun _ h => h.elim) ?aF ?aB ?aS ?aL ?_; (case aR => exact Kd.C_alloc HR0.out _); (case aO => exact Kd.R_of_own ⟨by simp [encs], .inr ⟨w.heap.size, 0, #[], rfl, Nat.le_refl _, heap_alloc_new _ _, by simp, by simp, by simp, by simp [encs]⟩⟩ (fun _ _ => trivial)); (case aF => exact fun _ _ => trivial); (case aB => exact (Below.refl _ _).alloc (Nat.le_refl _) _); (case aS => simp); (case aL => have := HL.out; simp; omega); intro v1 w1 ho hb hg hat))
      go_ret
      exact ⟨_, rfl, by simpa using ho, hb⟩
  · rw [if_neg hl] at h
    exact absurd h (by simp)

/-! ### frame_Get: function 13 -/
def frame_Get.f (k : Nat) (l0 : List Int) : Option (Int × List Int × Int × Int) :=
  (partE k l0 2).bind fun e => if e = 0 then
    (if ((0 ≤ l0.getD 0 0 ∧ l0.getD 0 0 ≤ 255) ∧ (0 ≤ l0.getD 1 0 ∧ l0.getD 1 0 ≤ 255)) ∧ l0.length < 140737488355328 then
      (partE k (l0.drop 6) (l0.getD 1 0).toNat).bind fun e2 => if e2 = 0 then some (l0.getD 0 0, (l0.drop 6).take (l0.getD 1 0).toNat, 10 + l0.getD 1 0, 0) else some (0, [], 0, e2)
    else none)
  else some (0, [], 0, e)
theorem frame_Get.mono : ∀ a0 k, LeO (frame_Get.f k a0) (frame_Get.f (k + 1) a0) := by
  intro a0 k
  have hp : ∀ l n, LeO (partE k l n) (partE (k + 1) l n) := fun l n => LeO.ite (LeO.refl _) (LeO.bind (crc_Good.mono _ _) fun _ => LeO.refl _)
  exact LeO.bind (hp _ _) fun _ => LeO.ite (LeO.ite (LeO.bind (hp _ _) fun _ => LeO.refl _) (LeO.none _)) (LeO.refl _)
def get_T : Bool × List (List Nat × List Nat) := (true, [([], []), ([0], [0]), ([1], [1]), ([2], [2]), ([], []), ([4], [4]), ([3, 5], [3, 5]), ([], []), ([7], [7]), ([], []), ([9], [9]), ([8, 10], [8, 10]), ([6, 5, 0, 1, 2, 3, 4, 5, 6], [6]), ([11, 12, 0, 1, 2, 3, 4, 5, 6, 7, 8, 9, 10, 11, 12], [11]), ([13, 0, 1, 2, 3, 4, 5, 6, 7, 8, 9, 10, 11, 12, 13], [])])
def get_B : List Nat := [0, 1, 3, 7, 0, 16, 63, 0, 128, 0, 512, 1920, 127, 8191, 16383]
theorem get_tab : rtab .any (opsOf Try.f13 7) = get_T := by kernel_rfl
theorem get_bits : waitsOk get_T.2 get_B = true := by kernel_rfl
theorem get_info : (Try.prog.info? 5).map (fun i => (i.zero, i.size, i.bytes)) = some (some (.int .u8 0), 1, 1) := by kernel_rfl
set_option maxHeartbeats 8000000 in
set_option maxRecDepth 100000 in
theorem frame_Get.calls (k : Nat) (A0 : Option Addr) (c0 : Nat) (l0 : List Int) (r1 : Int) (r2 : List Int) (r3 : Int) (r4 : Int) (w : World) (hr0 : Kd.C (Kd.int .u8) w A0 l0.length l0) (hc0 : l0.length ≤ c0) (h : frame_Get.f k l0 = some (r1, r2, r3, r4)) :
    Calls Try.prog 13 #[.slice A0 l0.length c0] w fun e w' => ∃ v1_ : Value, e = .returned (.tuple #[.agg #[.int .i64 r1, v1_], .int .i64 r3, .int .i64 r4]) ∧ Kd.R (Kd.int .u8) 5 w' w.heap.size (fun _ => True) v1_ r2 ∧ Below w.heap.size w w' := by
  have hu24 := Try.underlying24
  have HR0 := Aside0.mk hr0
  have HC0 := Aside0.mk hc0
  clear hr0 hc0
  unfold frame_Get.f at h
  obtain ⟨e1, he1, h⟩ := Option.bind_eq_some_iff.mp h
  have HE1 := Aside0.mk he1
  by_cases c1 : e1 = 0
  · rw [if_pos c1] at h
    subst c1
    by_cases c2 : ((0 ≤ l0.getD 0 0 ∧ l0.getD 0 0 ≤ 255) ∧ (0 ≤ l0.getD 1 0 ∧ l0.getD 1 0 ≤ 255)) ∧ l0.length < 140737488355328
    · rw [if_pos c2] at h
      obtain ⟨e2, he2, h⟩ := Option.bind_eq_some_iff.mp h
      obtain ⟨⟨⟨z0, z1⟩, y0, y1⟩, hlen⟩ := c2
      have h6 : 6 ≤ l0.length := by
        unfold partE at he1
        by_cases hl : l0.length < 2 + 4
        · rw [if_pos hl] at he1
          exact absurd he1 (by decide)
        · omega
      obtain ⟨ad, rfl, hx1⟩ := Kd.at_int HR0.out 1 (by omega) (by omega)
      obtain ⟨ad', e', hx0⟩ := Kd.at_int HR0.out 0 (by omega) (by omega)
      obtain rfl : ad = ad' := by injection e'
      clear e'
      replace hx1 : w.cell? ⟨ad.block, ad.off + 1, none⟩ = some (.int .u8 (l0.getD 1 0)) := by have := add_field ad 0 1 (by omega); rw [Addr.add_zero'] at this; rw [← this]; exact hx1
      replace hx0 : w.cell? ad = some (.int .u8 (l0.getD 0 0)) := by have := hx0; rw [show ((0 : Int)).toNat = 0 from rfl, Addr.add_zero'] at this; exact this
      obtain ⟨n0, hn0⟩ : ∃ n : Nat, l0.getD 0 0 = (n : Int) := ⟨(l0.getD 0 0).toNat, by omega⟩
      obtain ⟨n1, hn1⟩ : ∃ n : Nat, l0.getD 1 0 = (n : Int) := ⟨(l0.getD 1 0).toNat, by omega⟩
      rw [hn0, hn1] at h
      rw [hn0] at hx0 z0 z1
      rw [hn1] at hx1 y0 y1 he2
      rw [show ((n1 : Int)).toNat = n1 from rfl] at he2 h
      have kw0 : wrap64 (n0 : Int) = (n0 : Int) := by unfold wrap64; omega
      have kw1 : wrap64 (n1 : Int) = (n1 : Int) := by unfold wrap64; omega
      have HE2 := Aside0.mk he2
      have hld : (l0.drop 6).length = l0.length - 6 := List.length_drop
      have HLD := Aside0.mk hld
      have H6 := Aside0.mk h6
      have HNN := Aside0.mk (show n1 ≤ 1000000 by omega)
      have HLL := Aside0.mk hlen
      clear he2 he1 hld hlen z0 z1 y0 y1 hn0 hn1
      have P1 : ∀ W, Kd.C (Kd.int .u8) W (some ad) l0.length l0 → Calls Try.prog 24 #[.slice (some ad) l0.length c0, .int .i64 2] W fun e w' => ∃ A7, e = .returned (.tuple #[.slice (some ad) 2 2, .slice A7 (l0.length - 6) (c0 - 6), .int .i64 0]) ∧ Aside0 (Kd.C (Kd.int .u8) w' A7 (l0.drop 6).length (l0.drop 6)) ∧ Aside0 (Below W.heap.size W w') := by
        intro W hC
        refine (part_any k (some ad) c0 l0 2 0 W hC HC0.out (by omega) HE1.out).mono ?_
        rintro e w1 ⟨hb, (⟨-, A7, rfl, hC7, -⟩ | ⟨h0, -⟩)⟩
        · exact ⟨A7, rfl, ⟨Kd.C_below hC7 hb⟩, ⟨hb⟩⟩
        · exact absurd rfl h0
      by_cases c3 : e2 = 0
      · rw [if_pos c3] at h
        subst c3
        simp only [Option.some.injEq, Prod.mk.injEq] at h
        obtain ⟨rfl, rfl, rfl, rfl⟩ := h
        have h2 : n1 + 4 ≤ (l0.drop 6).length := by
          have he := HE2.out
          unfold partE at he
          by_cases hl : (l0.drop 6).length < n1 + 4
          · rw [if_pos hl] at he
            exact absurd he (by decide)
          · omega
        obtain ⟨body, hbody⟩ : ∃ b, b = (l0.drop 6).take n1 := ⟨_, rfl⟩
        rw [← hbody]
        have hbl : body.length = n1 := by rw [hbody, List.length_take]; omega
        obtain ⟨L9, hL9⟩ : ∃ n, n = l0.length - 6 - (n1 + 4) := ⟨_, rfl⟩
        have k9 : wrap64 ((l0.length : Int) - (L9 : Int)) = 10 + (n1 : Int) := by have := HLD.out; have := HLL.out; unfold wrap64; omega
        have H01 : (0 < l0.length) := by omega
        have P2 : ∀ A7 W, Kd.C (Kd.int .u8) W A7 (l0.drop 6).length (l0.drop 6) → Calls Try.prog 24 #[.slice A7 (l0.length - 6) (c0 - 6), .int .i64 (n1 : Int)] W fun e w' => ∃ A9, e = .returned (.tuple #[.slice A7 n1 n1, .slice A9 L9 (c0 - 6 - (n1 + 4)), .int .i64 0]) ∧ Aside0 (Kd.C (Kd.int .u8) w' A7 n1 body) ∧ Aside0 (Below W.heap.size W w') := by
          intro A7 W hC
          rw [show l0.length - 6 = (l0.drop 6).length from HLD.out.symm]
          refine (part_any k A7 (c0 - 6) (l0.drop 6) n1 0 W hC (by have := HC0.out; have := HLD.out; omega) HNN.out HE2.out).mono ?_
          obtain ⟨i0, hi0, _, hsz, _⟩ := info_parts get_info
          obtain ⟨hcutA, hA, hCA⟩ := print_take_of (P := Try.prog) (Value.int .u8) 0 22 5 .i64 Try.underlying22 hi0 hsz A7 (l0.drop 6).length (l0.drop 6) (n1 : Int) (by omega) (by omega) (Nat.le_refl _)
          have hCb : Kd.C (Kd.int .u8) W A7 n1 body := by
            have := Kd.C_of_reads (h1 := fun _ => rfl) (hA _ (Kd.reads_of_C hC))
            rw [show ((n1 : Int)).toNat = n1 from rfl, ← hbody, hbl] at this
            exact this
          rintro e w2 ⟨hb2, (⟨-, A9, rfl, -, -⟩ | ⟨h0, -⟩)⟩
          · exact ⟨A9, by rw [HLD.out, hL9], ⟨Kd.C_below hCb hb2⟩, ⟨hb2⟩⟩
          · exact absurd rfl h0
        have P3 : ∀ A7 W, Kd.C (Kd.int .u8) W A7 n1 body → Calls Try.prog 25 #[.slice A7 n1 n1] W fun e w' => ∃ v0_ : Value, e = .returned (v0_) ∧ Aside0 (Kd.R (Kd.int .u8) 5 w' W.heap.size (fun _ => True) v0_ body) ∧ Aside0 (Below W.heap.size W w') := by
          intro A7 W hC
          have hf : slices_Clone_byte_byte.f body = some body := by
            unfold slices_Clone_byte_byte.f
            rw [if_pos (by have := HNN.out; omega)]
          have := slices_Clone_byte_byte.calls A7 body.length body body W (by rw [hbl]; exact hC) (Nat.le_refl _) hf
          rw [hbl] at this
          refine this.mono ?_
          rintro e w' ⟨v, rfl, h1, h2⟩
          exact ⟨v, rfl, ⟨h1⟩, ⟨h2⟩⟩
        have HBY := Aside0.mk hbody
        have HBL := Aside0.mk hbl
        clear h6 h2 hbody hbl hL9
        go_enter Try.func13, Try.ntmps13
        go_upto_region 7 with (first
          | (go_at_call 24; with_reducible refine (P1 _ (Kd.C_alloc HR0.out _)).mono ?_; rintro e w1 ⟨A7, rfl, HC7, hb⟩; have HB1 := Aside0.mk (below_then ((Below.refl w.heap.size w).alloc (Nat.le_refl _) _) (by simp) hb.out); have HBK : Aside0 (w1.heap[w.heap.size]? = some (.cells #[.int .i64 0, .slice none 0 0] 24 (0, 0))) := ⟨blk_below (heap_alloc_new _ _) hb.out⟩; have hx1' := (HB1.out.cell (World.block_lt_of_cell? w _ hx1)).trans hx1; clear hb)
          | (go_at_call 24; with_reducible refine (P2 A7 w1 HC7.out).mono ?_; rintro e w2 ⟨A9, rfl, HC8, hb2⟩; have HBK2 := Aside0.mk (blk_below HBK.out hb2.out); have HB2 := Aside0.mk (below_then HB1.out (HB1.out.size) hb2.out); clear hb2))
        have hxs := (HB2.out.cell (World.block_lt_of_cell? w _ hx0)).trans hx0
        have HXS := Aside0.mk hxs
        have HB3 := Aside0.mk (below_drew1 HB2.out)
        have HBK3 := Aside0.mk (blk_drew HBK2.out)
        have HC9 := Aside0.mk (Kd.C_drew HC8.out)
        have HLT := Aside0.mk (World.block_lt_of_cell? w _ hx0)
        clear hx1' hxs hx1
        refine start_ (n := 15) (S := fun w' => w'.cell? ad = some (.int .u8 (n0 : Int))) (ds := []) #[false, false, false, false, false, false, false, false, false, false, false, false, false, false, false] (by kernel_rfl) rfl rfl (HXS.out) (fun hHeld => ?_)
        refine with_tabW get_tab get_bits (fun HT_ HW_ => ?_)
        generalize w2.drew = w3 at HB3 HBK3 HC9 hHeld ⊢
        refine pure_ (i := 0) (N := some 33) (v := ?_) (a' := ?_) #[true, false, false, false, false, false, false, false, false, false, false, false, false, false, false] rfl rfl (any_of HT_.out (by kernel_rfl)) (fun _ _ _ h => h) (Or.inl ⟨by rfl, ?_⟩) ?_ ?_
        rotate_left
        · intro w'
          go_simp
          with_reducible rfl
        rotate_left
        · simp only [Act.put, List.setIfInBounds_toArray, List.set_cons_zero, List.set_cons_succ, i64_w, i32_w]
          rfl
        refine pure_ (i := 1) (N := some 34) (v := ?_) (a' := ?_) #[true, true, false, false, false, false, false, false, false, false, false, false, false, false, false] rfl rfl (any_of HT_.out (by kernel_rfl)) (fun _ _ _ h => h) (Or.inl ⟨by rfl, ?_⟩) ?_ ?_
        rotate_left
        · intro w'
          go_simp
          with_reducible rfl
        rotate_left
        · simp only [Act.put, List.setIfInBounds_toArray, List.set_cons_zero, List.set_cons_succ, i64_w, i32_w]
          rfl
        refine pure_ (i := 4) (N := some 37) (v := ?_) (a' := ?_) #[true, true, false, false, true, false, false, false, false, false, false, false, false, false, false] rfl rfl (any_of HT_.out (by kernel_rfl)) (fun _ _ _ h => h) (Or.inl ⟨by rfl, ?_⟩) ?_ ?_
        rotate_left
        · intro w'
          go_simp
          with_reducible rfl
        rotate_left
        · simp only [Act.put, List.setIfInBounds_toArray, List.set_cons_zero, List.set_cons_succ, i64_w, i32_w]
          rfl
        refine pure_ (i := 7) (N := some 40) (v := ?_) (a' := ?_) #[true, true, false, false, true, false, false, true, false, false, false, false, false, false, false] rfl rfl (any_of HT_.out (by kernel_rfl)) (fun _ _ _ h => h) (Or.inl ⟨by rfl, ?_⟩) ?_ ?_
        rotate_left
        · intro w'
          go_simp
          with_reducible rfl
        rotate_left
        · simp only [Act.put, List.setIfInBounds_toArray, List.set_cons_zero, List.set_cons_succ, i64_w, i32_w]
          rfl
        refine pure_ (i := 8) (N := some 41) (v := ?_) (a' := ?_) #[true, true, false, false, true, false, false, true, true, false, false, false, false, false, false] rfl rfl (any_of HT_.out (by kernel_rfl)) (fun _ _ _ h => h) (Or.inl ⟨by rfl, ?_⟩) ?_ ?_
        rotate_left
        · intro w'
          go_simp
          with_reducible rfl
        rotate_left
        · simp only [Act.put, List.setIfInBounds_toArray, List.set_cons_zero, List.set_cons_succ, i64_w, i32_w]
          rfl
        refine pure_ (i := 9) (N := some 42) (v := ?_) (a' := ?_) #[true, true, false, false, true, false, false, true, true, true, false, false, false, false, false] rfl rfl (any_of HT_.out (by kernel_rfl)) (fun _ _ _ h => h) (Or.inl ⟨by rfl, ?_⟩) ?_ ?_
        rotate_left
        · intro w'
          go_simp
          with_reducible rfl
        rotate_left
        · simp only [Act.put, List.setIfInBounds_toArray, List.set_cons_zero, List.set_cons_succ, i64_w, i32_w]
          rfl
        refine pure_ (i := 10) (N := some 43) (v := ?_) (a' := ?_) #[true, true, false, false, true, false, false, true, true, true, true, false, false, false, false] rfl rfl (any_of HT_.out (by kernel_rfl)) (fun _ _ _ h => h) (Or.inl ⟨by rfl, ?_⟩) ?_ ?_
        rotate_left
        · intro w'
          go_simp
          with_reducible rfl
        rotate_left
        · simp only [Act.put, List.setIfInBounds_toArray, List.set_cons_zero, List.set_cons_succ, i64_w, i32_w]
          rfl
        refine pure_ (i := 11) (N := some 44) (v := ?_) (a' := ?_) #[true, true, false, false, true, false, false, true, true, true, true, true, false, false, false] rfl rfl (any_of HT_.out (by kernel_rfl)) (fun _ _ _ h => h) (Or.inl ⟨by rfl, ?_⟩) ?_ ?_
        rotate_left
        · intro w'
          go_simp
          with_reducible rfl
        rotate_left
        · simp only [Act.put, List.setIfInBounds_toArray, List.set_cons_zero, List.set_cons_succ, i64_w, i32_w]
          rfl
        refine take_ (i := 2) (N := some 35) (v := ?_) (a' := ?_) #[true, true, true, false, true, false, false, true, true, true, true, true, false, false, false] rfl rfl (take_ofW HT_.out HW_.out (by kernel_rfl)) (fun _ _ _ h => h) (Or.inl ⟨by rfl, ?_⟩) hHeld ?_ ?_
        rotate_left
        · rintro w' s0
          go_simp
          with_reducible rfl
        rotate_left
        · simp only [Act.put, List.setIfInBounds_toArray, List.set_cons_zero, List.set_cons_succ, i64_w, i32_w]
          rfl
        refine pure_ (i := 3) (N := some 36) (v := ?_) (a' := ?_) #[true, true, true, true, true, false, false, true, true, true, true, true, false, false, false] rfl rfl (any_of HT_.out (by kernel_rfl)) (fun _ _ _ h => h) (Or.inl ⟨by rfl, ?_⟩) ?_ ?_
        rotate_left
        · intro w'
          go_simp
          with_reducible rfl
        rotate_left
        · simp only [Act.put, List.setIfInBounds_toArray, List.set_cons_zero, List.set_cons_succ, i64_w, i32_w]
          rfl
        refine one_ (i := 5) (N := some 38) #[true, true, true, true, true, true, false, true, true, true, true, true, false, false, false] rfl rfl (one_of HT_.out (by kernel_rfl)) (by decide) (fun K hK => ?_)
        refine goes_ Try.func25 (by kernel_rfl) rfl #[.slice A7 n1 n1] (by rfl) rfl rfl (by simp only [List.map_toArray, List.map_cons, List.map_nil]; rfl) ?_
        with_reducible refine (P3 A7 w3 HC9.out).mono ?_
        rintro e w4 ⟨v0, rfl, HO, hb4⟩
        refine ⟨_, rfl, ?_⟩
        have HBK4 := Aside0.mk (blk_below HBK3.out hb4.out)
        have HB4 := Aside0.mk (below_then HB3.out (HB3.out.size) hb4.out)
        have HX4 := Aside0.mk ((hb4.out.cell (World.block_lt_of_cell? _ _ hHeld)).trans hHeld)
        have HO4 := Aside0.mk (Kd.R_lower HO.out HB3.out.size)
        obtain ⟨Ao, co, eo⟩ := Kd.R_slice HO4.out
        subst eo
        refine hK.out _ _ HX4.out (fun hHeld => ?_)
        clear hK K HO hb4
        refine norm_ (a' := ?_) ?_ ?_
        rotate_left
        · show Act.put _ (some 38) _ = _
          simp only [Act.put, List.setIfInBounds_toArray, List.set_cons_zero, List.set_cons_succ, i64_w, i32_w]
          rfl
        refine pure_ (i := 6) (N := some 39) (v := ?_) (a' := ?_) #[true, true, true, true, true, true, true, true, true, true, true, true, false, false, false] rfl rfl (any_of HT_.out (by kernel_rfl)) (fun _ _ _ h => h) (Or.inl ⟨by rfl, ?_⟩) ?_ ?_
        rotate_left
        · intro w'
          go_simp
          with_reducible rfl
        rotate_left
        · simp only [Act.put, List.setIfInBounds_toArray, List.set_cons_zero, List.set_cons_succ, i64_w, i32_w]
          rfl
        refine one_ (i := 12) (N := none) #[true, true, true, true, true, true, true, true, true, true, true, true, true, false, false] rfl rfl (one_of HT_.out (by kernel_rfl)) (by decide) (fun K hK => ?_)
        have hs0 : w4.cell? ⟨w.heap.size, 0, none⟩ = some (.int .i64 0) := (blk_cell HBK4.out 0).trans rfl
        have hf0 := blk_frozen HBK4.out 0
        have hs1 : w4.cell? ⟨w.heap.size, 1, none⟩ = some (.slice none 0 0) := (blk_cell HBK4.out 1).trans rfl
        have hf1 := blk_frozen HBK4.out 1
        refine skip_ (w1 := ?_) (by rfl) rfl ?_ ?_
        rotate_left
        · go_simp
          rfl
        refine hK.out _ _ ((cell_far (p := ⟨w.heap.size, _, none⟩) (Nat.ne_of_lt HLT.out) _).trans ((cell_far (p := ⟨w.heap.size, _, none⟩) (Nat.ne_of_lt HLT.out) _).trans HX4.out)) (fun hHeld => ?_)
        clear hK K
        refine pure_ (i := 13) (N := some 3) (v := ?_) (a' := ?_) #[true, true, true, true, true, true, true, true, true, true, true, true, true, true, false] rfl rfl (any_of HT_.out (by kernel_rfl)) (fun _ _ _ h => h) (Or.inl ⟨by rfl, ?_⟩) ?_ ?_
        rotate_left
        · intro w'
          go_simp
          with_reducible rfl
        rotate_left
        · simp only [Act.put, List.setIfInBounds_toArray, List.set_cons_zero, List.set_cons_succ, i64_w, i32_w]
          rfl
        refine pure_ (i := 14) (N := some 4) (v := ?_) (a' := ?_) #[true, true, true, true, true, true, true, true, true, true, true, true, true, true, true] rfl rfl (any_of HT_.out (by kernel_rfl)) (fun _ _ _ h => h) (Or.inl ⟨by rfl, ?_⟩) ?_ ?_
        rotate_left
        · intro w'
          go_simp
          with_reducible rfl
        rotate_left
        · simp only [Act.put, List.setIfInBounds_toArray, List.set_cons_zero, List.set_cons_succ, i64_w, i32_w]
          rfl
        refine done_ (done_of HT_.out (by kernel_rfl)) ?_
        go_wp2
        refine bodyPost_ret (results_ctt rfl _ _ w.heap.size 24 #[.int .i64 (n0 : Int), .slice Ao body.length co] (0, 0) _ rfl (by (with_reducible repeat (first | refine blk_drewN ?_ _ | refine blk_drew ?_ | refine blk_alloc ?_ _)); refine blk_put (cs := #[.int .i64 (n0 : Int), .slice none 0 0]) ?_ 1 _ rfl; (with_reducible repeat (first | refine blk_drewN ?_ _ | refine blk_drew ?_ | refine blk_alloc ?_ _)); refine blk_put (cs := #[.int .i64 0, .slice none 0 0]) ?_ 0 _ rfl; (with_reducible repeat (first | refine blk_drewN ?_ _ | refine blk_drew ?_ | refine blk_alloc ?_ _)); exact HBK4.out) Try.underlying24 rfl (by kernel_rfl)) rfl ?_
        exact ⟨_, rfl, Kd.R_mono (Kd.R_far (p := ⟨w.heap.size, 1, none⟩) (Kd.R_far (p := ⟨w.heap.size, 0, none⟩) (Kd.R_types HO4.out HBK4.out (by decide)) (fun _ hk => hk.2) (.int .i64 (n0 : Int))) (fun _ hk => hk.2) (.slice Ao body.length co)) (fun _ hk => trivial), by repeat (first | (with_reducible first | apply below_alloc | apply pw_below_drewN | apply below_drew1 | refine below_set ?_ (Nat.le_refl _)) | exact HB4.out)⟩
      · rw [if_neg c3] at h
        simp only [Option.some.injEq, Prod.mk.injEq] at h
        obtain ⟨rfl, rfl, rfl, rfl⟩ := h
        have c3b : (e2 != 0) = true := bne_iff_ne.mpr c3
        have HN2 := Aside0.mk c3
        have H01 : (0 < l0.length) := by omega
        clear c3 h6
        go_enter Try.func13, Try.ntmps13
        have P2 : ∀ A7 W, Kd.C (Kd.int .u8) W A7 (l0.drop 6).length (l0.drop 6) → Calls Try.prog 24 #[.slice A7 (l0.length - 6) (c0 - 6), .int .i64 (n1 : Int)] W fun e w' => e = .returned (.tuple #[.slice none 0 0, .slice none 0 0, .int .i64 e2]) ∧ Aside0 (Below W.heap.size W w') := by
          intro A7 W hC
          rw [show l0.length - 6 = (l0.drop 6).length from HLD.out.symm]
          refine (part_any k A7 (c0 - 6) (l0.drop 6) n1 e2 W hC (by have := HC0.out; have := HLD.out; omega) HNN.out HE2.out).mono ?_
          rintro e w2 ⟨hb2, (⟨h0, -⟩ | ⟨-, rfl⟩)⟩
          · exact absurd h0 HN2.out
          · exact ⟨rfl, ⟨hb2⟩⟩
        go_wp2_with (first
          | (go_at_call 24; with_reducible refine (P1 _ (Kd.C_alloc HR0.out _)).mono ?_; rintro e w1 ⟨A7, rfl, HC7, hb⟩; have HB1 := Aside0.mk (below_then ((Below.refl w.heap.size w).alloc (Nat.le_refl _) _) (by simp) hb.out); have HBK : Aside0 (w1.heap[w.heap.size]? = some (.cells #[.int .i64 0, .slice none 0 0] 24 (0, 0))) := ⟨blk_below (heap_alloc_new _ _) hb.out⟩; have hx1' := (HB1.out.cell (World.block_lt_of_cell? w _ hx1)).trans hx1; have hx0' := (HB1.out.cell (World.block_lt_of_cell? w _ hx0)).trans hx0; clear hb)
          | (go_at_call 24; with_reducible refine (P2 A7 w1 HC7.out).mono ?_; rintro e w2 ⟨rfl, hb2⟩; have HBK2 := Aside0.mk (blk_below HBK.out hb2.out); have hs0 : w2.cell? ⟨w.heap.size, 0, none⟩ = some (.int .i64 0) := (blk_cell HBK2.out 0).trans rfl; have hs1 : w2.cell? ⟨w.heap.size, 1, none⟩ = some (.slice none 0 0) := (blk_cell HBK2.out 1).trans rfl; have hf0 := blk_frozen HBK2.out 0; have hf1 := blk_frozen HBK2.out 1; have HB2 := Aside0.mk (below_then HB1.out (HB1.out.size) hb2.out); clear hb2))
        refine bodyPost_ret (results_ctt rfl _ _ w.heap.size 24 #[.int .i64 0, .slice none 0 0] (0, 0) _ rfl (by (with_reducible repeat (first | refine blk_drewN ?_ _ | refine blk_drew ?_ | refine blk_alloc ?_ _)); refine blk_put (cs := #[.int .i64 0, .slice none 0 0]) ?_ 1 _ rfl; (with_reducible repeat (first | refine blk_drewN ?_ _ | refine blk_drew ?_ | refine blk_alloc ?_ _)); refine blk_put (cs := #[.int .i64 0, .slice none 0 0]) ?_ 0 _ rfl; (with_reducible repeat (first | refine blk_drewN ?_ _ | refine blk_drew ?_ | refine blk_alloc ?_ _)); exact HBK2.out) Try.underlying24 rfl (by kernel_rfl)) rfl ?_
        exact ⟨_, rfl, Kd.R_nil _ _ _ _ _, by repeat (first | (with_reducible first | apply below_alloc | apply pw_below_drewN | apply below_drew1 | refine below_set ?_ (Nat.le_refl _)) | exact HB2.out)⟩
    · rw [if_neg c2] at h
      exact absurd h (by simp)
  · rw [if_neg c1] at h
    simp only [Option.some.injEq, Prod.mk.injEq] at h
    obtain ⟨rfl, rfl, rfl, rfl⟩ := h
    have c1b : (e1 != 0) = true := bne_iff_ne.mpr c1
    clear he1
    have HN1 := Aside0.mk c1
    clear c1
    go_enter Try.func13, Try.ntmps13
    go_wp2_with (go_at_call 24; refine (part_any k A0 c0 l0 2 e1 _ (Kd.C_alloc HR0.out _) HC0.out (by omega) HE1.out).mono ?_; rintro e w1 ⟨hb, (⟨h0, -⟩ | ⟨-, rfl⟩)⟩; (exact absurd h0 HN1.out); have BK : w1.heap[w.heap.size]? = some (.cells #[.int .i64 0, .slice none 0 0] 24 (0, 0)) := blk_below (heap_alloc_new _ _) hb; have hs0 : w1.cell? ⟨w.heap.size, 0, none⟩ = some (.int .i64 0) := (blk_cell BK 0).trans rfl; have hs1 : w1.cell? ⟨w.heap.size, 1, none⟩ = some (.slice none 0 0) := (blk_cell BK 1).trans rfl; have hf0 := blk_frozen BK 0; have hf1 := blk_frozen BK 1; have HBK := Aside0.mk BK; clear BK)
    refine bodyPost_ret (results_ctt rfl _ _ w.heap.size 24 #[.int .i64 0, .slice none 0 0] (0, 0) _ rfl (by (with_reducible repeat (first | refine blk_drewN ?_ _ | refine blk_drew ?_ | refine blk_alloc ?_ _)); refine blk_put (cs := #[.int .i64 0, .slice none 0 0]) ?_ 1 _ rfl; (with_reducible repeat (first | refine blk_drewN ?_ _ | refine blk_drew ?_ | refine blk_alloc ?_ _)); refine blk_put (cs := #[.int .i64 0, .slice none 0 0]) ?_ 0 _ rfl; (with_reducible repeat (first | refine blk_drewN ?_ _ | refine blk_drew ?_ | refine blk_alloc ?_ _)); exact HBK.out) Try.underlying24 rfl (by kernel_rfl)) rfl ?_
    exact ⟨_, rfl, Kd.R_nil _ _ _ _ _, by repeat (first | (with_reducible first | apply below_alloc | apply pw_below_drewN | apply below_drew1 | refine below_set ?_ (Nat.le_refl _)) | exact below_then ((Below.refl _ _).alloc (Nat.le_refl _) _) (by simp) hb)⟩

/-! ### frame_All: function 15 -/
def frame_All.l0 : Nat → List Int → List (S24) → Option ((List (S24)) × Int)
  | 0, _, _ => none
  | k + 1, b, out => if b = [] then some (out, 0) else (frame_Get.f k b).bind fun t => if t.2.2.2 = 0 then (if (0 < t.2.2.1 ∧ t.2.2.1 ≤ (b.length : Int)) ∧ out.length < 4398046511104 then frame_All.l0 k (b.drop t.2.2.1.toNat) (out ++ [(⟨t.1, t.2.1⟩ : S24)]) else none) else some ([], t.2.2.2)
def frame_All.f (k : Nat) (l0 : List Int) : Option ((List (S24)) × Int) := frame_All.l0 k l0 []
theorem frame_All.mono_l : ∀ k, ∀ b out, LeO (frame_All.l0 k b out) (frame_All.l0 (k + 1) b out)
  | 0 => fun _ _ r h => by simp [frame_All.l0] at h
  | k + 1 => fun b out => by
    rw [frame_All.l0.eq_2, frame_All.l0.eq_2]
    exact LeO.ite (LeO.refl _) (LeO.bind (frame_Get.mono _ _) fun _ => LeO.ite (LeO.ite (frame_All.mono_l k _ _) (LeO.none _)) (LeO.refl _))
theorem frame_All.mono : ∀ a0 k, LeO (frame_All.f k a0) (frame_All.f (k + 1) a0) := fun a0 k => frame_All.mono_l k a0 []
theorem all_info1 : (Try.prog.info? 5).map (fun i => (i.zero, i.size, i.bytes)) = some (some (.int .u8 0), 1, 1) := by kernel_rfl
theorem all_info2 : (Try.prog.info? 24).map (fun i => (i.zero, i.size, i.bytes)) = some (some (.agg #[(.int .i64 0), (.slice none 0 0)]), 2, 32) := by kernel_rfl
theorem scope_jumps_ {P : Program} {a : Act} {w : World} {Q : Exit → Act → World → Prop} {c rest : Code} (l : Nat) (J : Act → World → Prop) (μ : Act → World → Nat) (hf : findLabel c l = some (.seq .skip rest))
    (pass : ∀ a w, J a w → rest.wp P (Exit.jump l (fun a' w' => J a' w' ∧ μ a' w' < μ a w) Q) a w)
    (first : (∀ a w, J a w → rest.wp P (Exit.jump l J Q) a w) → c.wp P (Exit.jump l J Q) a w) : (Code.scope c).wp P Q a w := by
  refine wp_scope_jumps l J μ hf (first fun a w h => Go.wp_mono (pass a w h) ?_) (fun a w h => wp_seq (wp_skip (pass a w h)))
  intro e a' w' hq
  cases e <;> first | exact hq | exact ⟨hq.1, hq.2.1⟩
def lenOf : Value → Nat | .slice _ n _ => n | _ => 0
set_option maxHeartbeats 8000000 in
set_option maxRecDepth 100000 in
theorem frame_All.calls (k : Nat) (A0 : Option Addr) (c0 : Nat) (l0 : List Int) (r1 : List (S24)) (r2 : Int) (w : World) (hr0 : Kd.C (Kd.int .u8) w A0 l0.length l0) (hc0 : l0.length ≤ c0) (h : frame_All.f k l0 = some (r1, r2)) :
    Calls Try.prog 15 #[.slice A0 l0.length c0] w fun e w' => ∃ v0_ : Value, e = .returned (.tuple #[v0_, .int .i64 r2]) ∧ Kd.S k24 24 w' w.heap.size (fun _ => True) v0_ r1 ∧ Below w.heap.size w w' := by
  have hu24 := Try.underlying24
  have HR0 := Aside0.mk hr0
  have HC0 := Aside0.mk hc0
  have HE0 := Aside0.mk (show frame_All.l0 k l0 [] = some (r1, r2) from h)
  clear hr0 hc0 h
  obtain ⟨J, hJ⟩ : ∃ J : Act → World → Prop, J = fun a' W => ∃ (k : Nat) (b : List Int) (A : Option Addr) (c : Nat) (x4 : List (S24)) (v4 : Value) (i0 : Int) (Ab : Option Addr) (lb cb : Nat) (u6 u7 u8 u9 u10 u11 u12 u13 u14 u15 u16 u17 u18 u19 u20 u21 u22 u23 u24 u25 u26 u27 : Value),
      a' = { tmps := #[.slice A b.length c, undef, .slice none 0 0, .int .i64 0, v4, .pointer (some ⟨w.heap.size, 0, none⟩), u6, u7, u8, u9, u10, u11, u12, u13, u14, u15, u16, u17, u18, u19, u20, u21, u22, u23, u24, u25, u26, u27], defers := [] } ∧
      Aside0 (frame_All.l0 k b x4 = some (r1, r2)) ∧ Aside0 (Kd.C (Kd.int .u8) w A b.length b) ∧ Aside0 (b.length ≤ c) ∧
      Aside0 (Kd.S k24 24 W w.heap.size (fun k_ => k_ ≠ w.heap.size) v4 x4) ∧ Aside0 (W.heap[w.heap.size]? = some (.cells #[.int .i64 i0, .slice Ab lb cb] 24 (0, 0))) ∧ Aside0 (Below w.heap.size w W) := ⟨_, rfl⟩
  go_enter Try.func15, Try.ntmps15
  go_wp2
  refine scope_jumps_ 0 J (fun a' _ => lenOf (a'.tmps.getD 0 undef)) rfl ?_ ?_
  · rw [hJ]
    rintro a' W ⟨k, b, A, c, x4, v4, i0, Ab, lb, cb, u6, u7, u8, u9, u10, u11, u12, u13, u14, u15, u16, u17, u18, u19, u20, u21, u22, u23, u24, u25, u26, u27, rfl, HE, HR, HC, HO_4, BK, HB⟩
    cases k with
    | zero => exact absurd HE.out (by simp [frame_All.l0])
    | succ k =>
      have H := HE.out
      rw [frame_All.l0.eq_2] at H
      by_cases hnil : b = []
      · rw [if_pos hnil] at H
        simp only [Option.some.injEq, Prod.mk.injEq] at H
        obtain ⟨rfl, rfl⟩ := H
        have hz : b.length = 0 := by rw [hnil]; rfl
        have he0 : ((b.length : Int) == 0) = true := by rw [hz]; rfl
        clear hnil hz
        go_wp2
        simp only [Exit.jump]
        refine bodyPost_ret (results_tmp2 rfl _ _ _) rfl ?_
        exact ⟨_, rfl, Kd.S_mono HO_4.out (fun _ _ => trivial), HB.out⟩
      · rw [if_neg hnil] at H
        have hpos : 0 < b.length := by rcases b with _ | _ <;> simp_all
        have he0 : ((b.length : Int) == 0) = false := beq_eq_false_iff_ne.mpr (by omega)
        have HPOS := Aside0.mk hpos
        obtain ⟨⟨t1, t2, t3, t4⟩, hg, H⟩ := Option.bind_eq_some_iff.mp H
        replace H : (if t4 = 0 then (if (0 < t3 ∧ t3 ≤ (b.length : Int)) ∧ x4.length < 4398046511104 then frame_All.l0 k (b.drop t3.toNat) (x4 ++ [(⟨t1, t2⟩ : S24)]) else none) else some ([], t4)) = some (r1, r2) := H
        have HG := Aside0.mk hg
        clear hg hnil hpos HE
        by_cases c6 : t4 = 0
        · rw [if_pos c6] at H
          by_cases c7 : (0 < t3 ∧ t3 ≤ (b.length : Int)) ∧ x4.length < 4398046511104
          · rw [if_pos c7] at H
            have HH := Aside0.mk H
            have c6b0 : (t4 == 0) = true := beq_iff_eq.mpr c6
            obtain ⟨i0_, hi0, _, hsz, _⟩ := info_parts all_info1
            obtain ⟨A8, hcut8, hA8, hC8⟩ := print_drop_of (P := Try.prog) (Value.int .u8) 0 22 5 .i64 Try.underlying22 hi0 hsz A c b t3 (by omega) (by omega) HC.out
            have HR8 := Aside0.mk (Kd.C_of_reads (h1 := fun _ => rfl) (hA8 _ (Kd.reads_of_C HR.out)))
            have HC8 := Aside0.mk hC8
            rw [List.length_drop] at hcut8
            have HC7 := Aside0.mk c7
            have c71 := eq_true (show (0 : Int) ≤ t3 by omega)
            have c72 := eq_true c7.1.2
            clear hA8 hC8 hi0 hsz H c6 c7
            go_wp2_with (first
              | (go_at_call 13; with_reducible refine (frame_Get.calls k A c b t1 t2 t3 t4 W (Kd.C_below HR.out HB.out) HC.out HG.out).mono ?_; rintro e w1 ⟨v0, rfl, ho0, hb⟩; have n0_ := Aside0.mk (Kd.S_elder' HO_4.out (Kd.R_base ho0) hb); have n1_ := Aside0.mk (Kd.R_lower ho0 HB.out.size); have n2_ := Aside0.mk (below_then HB.out HB.out.size hb); have n3_ := Aside0.mk (blk_below BK.out hb); clear HO_4 HB BK; have HO_4 := n0_; have HO5 := n1_; have HB := n2_; have BK := n3_; clear n0_ n1_ n2_ n3_ hb ho0; have hcz0 : w1.cell? ⟨w.heap.size, 0, none⟩ = some (.int .i64 i0) := (blk_cell BK.out 0).trans rfl; have hcz1 : w1.cell? ⟨w.heap.size, 1, none⟩ = some (.slice Ab lb cb) := (blk_cell BK.out 1).trans rfl; have hfz0 := blk_frozen BK.out 0; have hfz1 := blk_frozen BK.out 1; obtain ⟨Ao, co, eo⟩ := Kd.R_slice HO5.out; subst eo)
              | ((with_reducible refine gate_store (t := 24) (p := 5) rfl ?_); refine store_event (t := 24) (p := 5) (v := ?vo_w13) (w1 := ((w1.setCell ⟨w.heap.size, 0, none⟩ (.int .i64 t1)).setCell ⟨w.heap.size, 1, none⟩ (.slice Ao t2.length co))) ?hg ?ho ?hn ?hr ?_; (case ho => rfl); (case hg => rfl); (case hn => rfl); (case hr => first | (go_simp; done) | (go_simp; rfl)); intro w2 hw; have n0_ : Aside0 (Kd.S k24 24 w2 w.heap.size (fun k_ => some k_ ≠ (.slice Ao t2.length co : Value).ownBlock ∧ k_ ≠ w.heap.size) v4 x4) := ⟨by rw [hw]; exact Kd.S_mono (Kd.S_far (p := ⟨w.heap.size, 1, none⟩) (Kd.S_far (p := ⟨w.heap.size, 0, none⟩) (Kd.S_mono HO_4.out (fun k_ hk => (⟨hk, hk.1⟩ : _ ∧ k_ ≠ w.heap.size))) (fun _ hk => hk.2) (.int .i64 t1)) (fun _ hk => hk.2) (.slice Ao t2.length co)) (fun _ hk => ⟨hk.1.2, hk.2⟩)⟩; have n1_ : Aside0 (Kd.R (Kd.int .u8) 5 w2 w.heap.size (fun _ => True) (.slice Ao t2.length co) t2) := ⟨by rw [hw]; exact Kd.R_mono (Kd.R_far (p := ⟨w.heap.size, 1, none⟩) (Kd.R_far (p := ⟨w.heap.size, 0, none⟩) (Kd.R_types HO5.out BK.out (by decide)) (fun _ hk => hk.2) (.int .i64 t1)) (fun _ hk => hk.2) (.slice Ao t2.length co)) (fun _ hk => trivial)⟩; have n2_ : Aside0 (w2.heap[w.heap.size]? = some (.cells #[.int .i64 t1, .slice Ao t2.length co] 24 (0, 0))) := ⟨by rw [hw]; refine blk_put (cs := #[.int .i64 t1, .slice Ab lb cb]) ?_ 1 _ rfl; refine blk_put (cs := #[.int .i64 i0, .slice Ab lb cb]) ?_ 0 _ rfl; exact BK.out⟩; have n3_ : Aside0 (Below w.heap.size w w2) := ⟨by rw [hw]; repeat (first | (with_reducible refine below_set ?_ (Nat.le_refl _)) | exact HB.out)⟩; clear hw hcz0 hcz1 hfz0 hfz1; clear HO_4 HO5 BK HB; have HO_4 := n0_; have HO5 := n1_; have BK := n2_; have HB := n3_; clear n0_ n1_ n2_ n3_; have hcz0 : w2.cell? ⟨w.heap.size, 0, none⟩ = some (.int .i64 t1) := (blk_cell BK.out 0).trans rfl; have hcz1 : w2.cell? ⟨w.heap.size, 1, none⟩ = some (.slice Ao t2.length co) := (blk_cell BK.out 1).trans rfl; have hfz0 := blk_frozen BK.out 0; have hfz1 := blk_frozen BK.out 1)
              | ((with_reducible refine gate_builtin (b := .append) (xs := #[.tmp 20, .tmp 22]) rfl ?_); at_builtin; refine Kd.S_append k24 (w0 := w) w.heap.size rfl (.tmp 20) (.tmp 22) 31 24 (.agg #[(.int .i64 0), (.slice none 0 0)]) 32 rfl Try.underlying31 all_info2 rfl (by decide) (by omega) v4 x4 (⟨t1, t2⟩ : S24) [.int .i64 t1, .slice Ao t2.length co] (fun k_ => k_ ≠ w.heap.size) (fun k_ => some k_ = (.slice Ao t2.length co : Value).ownBlock) rfl rfl ?aP (fun k_ hk_ => ((Kd.R_mono (ok' := fun k_ => ((fun k_ => k_ ≠ w.heap.size)) k_ ∧ some k_ ≠ (v4 : Value).ownBlock) (Kd.R_types (Kd.R_apart' (HO5.out) (Kd.S_typed HO_4.out) (by decide)) BK.out (by decide)) (fun k_ hk => ⟨hk.2, hk.1.2⟩))).1 k_ hk_.symm) ?aF ?aO ?aB ?aS ?aL ?_; (case aP => exact k24_mkM _ _ _ (⟨t1, t2⟩ : S24) (Kd.R_mono (Kd.R_tight rfl (Kd.R_mono (ok' := fun k_ => ((fun k_ => k_ ≠ w.heap.size)) k_ ∧ some k_ ≠ (v4 : Value).ownBlock) (Kd.R_types (Kd.R_apart' (HO5.out) (Kd.S_typed HO_4.out) (by decide)) BK.out (by decide)) (fun k_ hk => ⟨hk.2, hk.1.2⟩))) (fun _ h_ => h_))); (case aB => exact (by repeat (first | (with_reducible first | exact HB.out | apply below_alloc | apply pw_below_drewN | apply below_drew1) | exact HB.out))); (case aF => exact (fun k_ hk => Kd.freshB (g := w.heap.size) (o := .cells #[.int .i64 t1, .slice Ao t2.length co] 24 (0, 0)) (by (with_reducible repeat (first | refine blk_drewN ?_ _ | refine blk_drew ?_ | refine blk_alloc ?_ _)); exact BK.out) k_ hk)); (case aO => exact (by (with_reducible repeat (first | apply Kd.S_alloc | apply Kd.S_drewN | apply Kd.S_drew)); exact Kd.S_mono HO_4.out (fun k_ hk => ⟨hk.2, fun e_ => hk.1 e_⟩))); (case aS => exact (below_size (by repeat (first | (with_reducible first | exact HB.out | apply below_alloc | apply pw_below_drewN | apply below_drew1) | exact HB.out)))); (case aL => have := HC7.out; omega); intro v9 w3 ho hb hg hat; have n0_ := Aside0.mk (blk_grown (g := w.heap.size) (o := .cells #[.int .i64 t1, .slice Ao t2.length co] 24 (0, 0)) (by (with_reducible repeat (first | refine blk_drewN ?_ _ | refine blk_drew ?_ | refine blk_alloc ?_ _)); exact BK.out) hg (Kd.S_away HO_4.out (fun _ hk => hk.2))); have n1_ := Aside0.mk (hb); have n2_ := Aside0.mk (ho); clear BK HB HO_4 HO5; have BK := n0_; have HB := n1_; have HO9 := n2_; clear n0_ n1_ n2_; clear ho hb hg hat))
            go_step3
            simp only [Exit.then]
            refine ⟨rfl, ⟨k, b.drop t3.toNat, A8, c - t3.toNat, _, _, t1, _, _, _, _, _, _, _, _, _, _, _, _, _, _, _, _, _, _, _, _, _, _, _, _, _, by rw [List.length_drop], HH, HR8, HC8, HO9, BK, HB⟩, ?_⟩
            show b.length - t3.toNat < b.length
            have := HC7.out
            have := HPOS.out
            omega
          · rw [if_neg c7] at H
            exact absurd H (by simp)
        · rw [if_neg c6] at H
          simp only [Option.some.injEq, Prod.mk.injEq] at H
          obtain ⟨rfl, rfl⟩ := H
          have c6b0 : (t4 == 0) = false := beq_eq_false_iff_ne.mpr c6
          clear c6
          go_wp2_with (first
              | (go_at_call 13; with_reducible refine (frame_Get.calls k A c b t1 t2 t3 t4 W (Kd.C_below HR.out HB.out) HC.out HG.out).mono ?_; rintro e w1 ⟨v0, rfl, ho0, hb⟩; have n0_ := Aside0.mk (Kd.S_elder' HO_4.out (Kd.R_base ho0) hb); have n1_ := Aside0.mk (Kd.R_lower ho0 HB.out.size); have n2_ := Aside0.mk (below_then HB.out HB.out.size hb); have n3_ := Aside0.mk (blk_below BK.out hb); clear HO_4 HB BK; have HO_4 := n0_; have HO5 := n1_; have HB := n2_; have BK := n3_; clear n0_ n1_ n2_ n3_ hb ho0; have hcz0 : w1.cell? ⟨w.heap.size, 0, none⟩ = some (.int .i64 i0) := (blk_cell BK.out 0).trans rfl; have hcz1 : w1.cell? ⟨w.heap.size, 1, none⟩ = some (.slice Ab lb cb) := (blk_cell BK.out 1).trans rfl; have hfz0 := blk_frozen BK.out 0; have hfz1 := blk_frozen BK.out 1; obtain ⟨Ao, co, eo⟩ := Kd.R_slice HO5.out; subst eo)
              | ((with_reducible refine gate_store (t := 24) (p := 5) rfl ?_); refine store_event (t := 24) (p := 5) (v := ?vo_w13) (w1 := ((w1.setCell ⟨w.heap.size, 0, none⟩ (.int .i64 t1)).setCell ⟨w.heap.size, 1, none⟩ (.slice Ao t2.length co))) ?hg ?ho ?hn ?hr ?_; (case ho => rfl); (case hg => rfl); (case hn => rfl); (case hr => first | (go_simp; done) | (go_simp; rfl)); intro w2 hw; have n0_ : Aside0 (Kd.S k24 24 w2 w.heap.size (fun k_ => some k_ ≠ (.slice Ao t2.length co : Value).ownBlock ∧ k_ ≠ w.heap.size) v4 x4) := ⟨by rw [hw]; exact Kd.S_mono (Kd.S_far (p := ⟨w.heap.size, 1, none⟩) (Kd.S_far (p := ⟨w.heap.size, 0, none⟩) (Kd.S_mono HO_4.out (fun k_ hk => (⟨hk, hk.1⟩ : _ ∧ k_ ≠ w.heap.size))) (fun _ hk => hk.2) (.int .i64 t1)) (fun _ hk => hk.2) (.slice Ao t2.length co)) (fun _ hk => ⟨hk.1.2, hk.2⟩)⟩; have n1_ : Aside0 (Kd.R (Kd.int .u8) 5 w2 w.heap.size (fun _ => True) (.slice Ao t2.length co) t2) := ⟨by rw [hw]; exact Kd.R_mono (Kd.R_far (p := ⟨w.heap.size, 1, none⟩) (Kd.R_far (p := ⟨w.heap.size, 0, none⟩) (Kd.R_types HO5.out BK.out (by decide)) (fun _ hk => hk.2) (.int .i64 t1)) (fun _ hk => hk.2) (.slice Ao t2.length co)) (fun _ hk => trivial)⟩; have n2_ : Aside0 (w2.heap[w.heap.size]? = some (.cells #[.int .i64 t1, .slice Ao t2.length co] 24 (0, 0))) := ⟨by rw [hw]; refine blk_put (cs := #[.int .i64 t1, .slice Ab lb cb]) ?_ 1 _ rfl; refine blk_put (cs := #[.int .i64 i0, .slice Ab lb cb]) ?_ 0 _ rfl; exact BK.out⟩; have n3_ : Aside0 (Below w.heap.size w w2) := ⟨by rw [hw]; repeat (first | (with_reducible refine below_set ?_ (Nat.le_refl _)) | exact HB.out)⟩; clear hw hcz0 hcz1 hfz0 hfz1; clear HO_4 HO5 BK HB; have HO_4 := n0_; have HO5 := n1_; have BK := n2_; have HB := n3_; clear n0_ n1_ n2_ n3_; have hcz0 : w2.cell? ⟨w.heap.size, 0, none⟩ = some (.int .i64 t1) := (blk_cell BK.out 0).trans rfl; have hcz1 : w2.cell? ⟨w.heap.size, 1, none⟩ = some (.slice Ao t2.length co) := (blk_cell BK.out 1).trans rfl; have hfz0 := blk_frozen BK.out 0; have hfz1 := blk_frozen BK.out 1)
              | ((with_reducible refine gate_builtin (b := .append) (xs := #[.tmp 20, .tmp 22]) rfl ?_); at_builtin; refine Kd.S_append k24 (w0 := w) w.heap.size rfl (.tmp 20) (.tmp 22) 31 24 (.agg #[(.int .i64 0), (.slice none 0 0)]) 32 rfl Try.underlying31 all_info2 rfl (by decide) (by omega) v4 x4 (⟨t1, t2⟩ : S24) [.int .i64 t1, .slice Ao t2.length co] (fun k_ => k_ ≠ w.heap.size) (fun k_ => some k_ = (.slice Ao t2.length co : Value).ownBlock) rfl rfl ?aP (fun k_ hk_ => ((Kd.R_mono (ok' := fun k_ => ((fun k_ => k_ ≠ w.heap.size)) k_ ∧ some k_ ≠ (v4 : Value).ownBlock) (Kd.R_types (Kd.R_apart' (HO5.out) (Kd.S_typed HO_4.out) (by decide)) BK.out (by decide)) (fun k_ hk => ⟨hk.2, hk.1.2⟩))).1 k_ hk_.symm) ?aF ?aO ?aB ?aS ?aL ?_; (case aP => exact k24_mkM _ _ _ (⟨t1, t2⟩ : S24) (Kd.R_mono (Kd.R_tight rfl (Kd.R_mono (ok' := fun k_ => ((fun k_ => k_ ≠ w.heap.size)) k_ ∧ some k_ ≠ (v4 : Value).ownBlock) (Kd.R_types (Kd.R_apart' (HO5.out) (Kd.S_typed HO_4.out) (by decide)) BK.out (by decide)) (fun k_ hk => ⟨hk.2, hk.1.2⟩))) (fun _ h_ => h_))); (case aB => exact (by repeat (first | (with_reducible first | exact HB.out | apply below_alloc | apply pw_below_drewN | apply below_drew1) | exact HB.out))); (case aF => exact (fun k_ hk => Kd.freshB (g := w.heap.size) (o := .cells #[.int .i64 t1, .slice Ao t2.length co] 24 (0, 0)) (by (with_reducible repeat (first | refine blk_drewN ?_ _ | refine blk_drew ?_ | refine blk_alloc ?_ _)); exact BK.out) k_ hk)); (case aO => exact (by (with_reducible repeat (first | apply Kd.S_alloc | apply Kd.S_drewN | apply Kd.S_drew)); exact Kd.S_mono HO_4.out (fun k_ hk => ⟨hk.2, fun e_ => hk.1 e_⟩))); (case aS => exact (below_size (by repeat (first | (with_reducible first | exact HB.out | apply below_alloc | apply pw_below_drewN | apply below_drew1) | exact HB.out)))); (case aL => have := HC7.out; omega); intro v9 w3 ho hb hg hat; have n0_ := Aside0.mk (blk_grown (g := w.heap.size) (o := .cells #[.int .i64 t1, .slice Ao t2.length co] 24 (0, 0)) (by (with_reducible repeat (first | refine blk_drewN ?_ _ | refine blk_drew ?_ | refine blk_alloc ?_ _)); exact BK.out) hg (Kd.S_away HO_4.out (fun _ hk => hk.2))); have n1_ := Aside0.mk (hb); have n2_ := Aside0.mk (ho); clear BK HB HO_4 HO5; have BK := n0_; have HB := n1_; have HO9 := n2_; clear n0_ n1_ n2_; clear ho hb hg hat))
          simp only [Exit.jump]
          refine bodyPost_ret (results_tmp2 rfl _ _ _) rfl ?_
          exact ⟨_, rfl, Kd.S_nil _ _ _ _ _, HB.out⟩
  · intro PASS
    have HB := Aside0.mk ((Below.refl w.heap.size w).alloc (Nat.le_refl _) (.cells #[.int .i64 0, .slice none 0 0] 24 (0, 0)))
    go_wp2
    go_step3
    simp only [Exit.then]
    rename_i hK_
    refine hK_ _ _ (PASS _ _ ?_)
    rw [hJ]
    exact ⟨k, l0, A0, c0, [], _, 0, none, 0, 0, _, _, _, _, _, _, _, _, _, _, _, _, _, _, _, _, _, _, _, _, _, _, rfl, HE0, HR0, HC0, ⟨Kd.S_nil _ _ _ _ _⟩, ⟨heap_alloc_new _ _⟩, HB⟩

end Go.Proofs.Ytjihemgadbpebaa.PAll
