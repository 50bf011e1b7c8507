-- Written by wip/tools/myprint.py, a program of the prover's own, over the kit's print; the contracts named 'HAND' there are typed by hand.
import Derived.Test.YtlcanmndeempfaaPAllx0
namespace Go.Proofs.Ytlcanmndeempfaa.PAll
open Go.RowKit Go.Proofs.YtlcanmndeempfaaW.PrintWords Go.Proofs.YtlcanmndeempfaaW.PrintLast Go.Proofs.YtlcanmndeempfaaW.PrintMore
attribute [local go_sem] max2_int min2_int max_two min_two max_three min_three max_four min_four   -- for this text's walks alone
set_option linter.unusedVariables false
set_option linter.unusedSimpArgs false

/-! ### foliateref05_sign: function 53 -/
mutual
def foliateref05_sign.j0 : Nat → ByteArray → Int → Int → Int → Int → Bool → Option (Int × Int)
  | 0, _, _, _, _, _, _ => none
  | k + 1, x0, x4, x5, x6, x7, x20 => if x20 = true then (foliateref05_sign.j1 k x0 x4 2 128 (wrap64 (x4 - 192))) else (foliateref05_sign.j1 k x0 x4 x5 x6 x7)
def foliateref05_sign.j1 : Nat → ByteArray → Int → Int → Int → Int → Option (Int × Int)
  | 0, _, _, _, _, _ => none
  | k + 1, x0, x4, x5, x6, x7 => if x4 ≥ 224 then (foliateref05_sign.j2 k x0 x4 x5 x6 x7 (decide (x4 < 240))) else (foliateref05_sign.j2 k x0 x4 x5 x6 x7 false)
def foliateref05_sign.j2 : Nat → ByteArray → Int → Int → Int → Int → Bool → Option (Int × Int)
  | 0, _, _, _, _, _, _ => none
  | k + 1, x0, x4, x5, x6, x7, x28 => if x28 = true then (foliateref05_sign.j3 k x0 x4 3 2048 (wrap64 (x4 - 224))) else (foliateref05_sign.j3 k x0 x4 x5 x6 x7)
def foliateref05_sign.j3 : Nat → ByteArray → Int → Int → Int → Int → Option (Int × Int)
  | 0, _, _, _, _, _ => none
  | k + 1, x0, x4, x5, x6, x7 => if x4 ≥ 240 then (foliateref05_sign.j4 k x0 x4 x5 x6 x7 (decide (x4 < 245))) else (foliateref05_sign.j4 k x0 x4 x5 x6 x7 false)
def foliateref05_sign.j4 : Nat → ByteArray → Int → Int → Int → Int → Bool → Option (Int × Int)
  | 0, _, _, _, _, _, _ => none
  | k + 1, x0, x4, x5, x6, x7, x36 => if x36 = true then (foliateref05_sign.j5 k x0 4 65536 (wrap64 (x4 - 240))) else (foliateref05_sign.j5 k x0 x5 x6 x7)
def foliateref05_sign.j5 : Nat → ByteArray → Int → Int → Int → Option (Int × Int)
  | 0, _, _, _, _ => none
  | k + 1, x0, x5, x6, x7 => if x5 = 0 then (foliateref05_sign.j6 k x0 x5 x6 x7 true) else (foliateref05_sign.j6 k x0 x5 x6 x7 (decide ((x0.size : Int) < x5)))
def foliateref05_sign.j6 : Nat → ByteArray → Int → Int → Int → Bool → Option (Int × Int)
  | 0, _, _, _, _, _ => none
  | k + 1, x0, x5, x6, x7, x46 => if x46 = true then (some (65533, 1)) else (foliateref05_sign.l0 k x0 x5 x6 x7 1)
def foliateref05_sign.l0 : Nat → ByteArray → Int → Int → Int → Int → Option (Int × Int)
  | 0, _, _, _, _, _ => none
  | k + 1, x0, x5, x6, x7, x8 => if x8 < x5 then (if 0 ≤ x8 then (if x8 < (x0.size : Int) then (if (bt x0 x8) < 128 then (some (65533, 1)) else (if (bt x0 x8) > 191 then (some (65533, 1)) else (foliateref05_sign.l0 k x0 x5 x6 (wrap64 ((wrap64 ((wrap64 (64 * x7)) + (wrap64 (bt x0 x8)))) - 128)) (wrap64 (x8 + 1))))) else (none)) else (none)) else (if x7 < x6 then (some (65533, 1)) else (if x7 > 1114111 then (some (65533, 1)) else (if x7 ≥ 55296 then (if x7 ≤ 57343 then (some (65533, 1)) else (some (x7, x5))) else (some (x7, x5)))))
end
def foliateref05_sign.f (k : Nat) (a0 : ByteArray) : Option (Int × Int) := if 0 < (a0.size : Int) then (if (wrap64 (bt a0 0)) < 128 then (some (wrap64 (bt a0 0), 1)) else (if (wrap64 (bt a0 0)) ≥ 194 then (foliateref05_sign.j0 k a0 (wrap64 (bt a0 0)) 0 0 0 (decide ((wrap64 (bt a0 0)) < 224))) else (foliateref05_sign.j0 k a0 (wrap64 (bt a0 0)) 0 0 0 false))) else (none)
set_option maxHeartbeats 8000000 in
set_option maxRecDepth 100000 in
theorem foliateref05_sign.calls (k : Nat) (a0 : ByteArray) (r1 : Int) (r2 : Int) (w : World) (h : foliateref05_sign.f k a0 = some (r1, r2)) :
    Calls Try.prog 53 #[.string a0] w fun e w' => e = .returned (.tuple #[.int .i64 r1, .int .i64 r2]) ∧ Drawn0 w w' := by
  have H : (if 0 < (a0.size : Int) then (if (wrap64 (bt a0 0)) < 128 then (some (wrap64 (bt a0 0), 1)) else (if (wrap64 (bt a0 0)) ≥ 194 then (foliateref05_sign.j0 k a0 (wrap64 (bt a0 0)) 0 0 0 (decide ((wrap64 (bt a0 0)) < 224))) else (foliateref05_sign.j0 k a0 (wrap64 (bt a0 0)) 0 0 0 false))) else (none)) = some (r1, r2) := h
  clear h
  by_cases c2 : 0 < (a0.size : Int)
  · rw [if_pos c2] at H
    have c2b0 : decide (0 < (a0.size : Int)) = true := decide_eq_true c2
    have c2b1 : decide (0 < a0.size) = true := decide_eq_true (by omega)
    clear c2
    by_cases c4 : (wrap64 (bt a0 0)) < 128
    · rw [if_pos c4] at H
      have c4b0 : decide ((wrap64 (bt a0 0)) < 128) = true := decide_eq_true c4
      clear c4
      simp only [Option.some.injEq, Prod.mk.injEq] at H
      obtain ⟨rfl, rfl⟩ := H
      have p3 : 0 ≤ (0 : Int) := (by omega)
      have q3 : 0 < a0.size := (by have : (0 : Int) < (a0.size : Int) := of_decide_eq_true (by first | (with_reducible assumption) | assumption); omega)
      have hx3 : ∀ h : 0 < a0.size, ((a0[0]'h).toNat : Int) = bt a0 0 := bt_at a0 0
      clear p3
      have qi3 : (0 < (a0.size : Int)) = True := eq_true (of_decide_eq_true (by first | (with_reducible assumption) | assumption))
      replace q3 := eq_true q3
      go_enter Try.func53, Try.ntmps53
      go_wp2
      go_ret2
      exact ⟨by first | rfl | (simp; done) | (simp [*]; done), by repeat (first | exact Drawn0.refl _ | apply Drawn0.step)⟩
    · rw [if_neg c4] at H
      have c4b0 : decide ((wrap64 (bt a0 0)) < 128) = false := decide_eq_false c4
      clear c4
      have HC5 := Aside0.mk H
      clear H
      have p3 : 0 ≤ (0 : Int) := (by omega)
      have q3 : 0 < a0.size := (by have : (0 : Int) < (a0.size : Int) := of_decide_eq_true (by first | (with_reducible assumption) | assumption); omega)
      have hx3 : ∀ h : 0 < a0.size, ((a0[0]'h).toNat : Int) = bt a0 0 := bt_at a0 0
      clear p3
      have qi3 : (0 < (a0.size : Int)) = True := eq_true (of_decide_eq_true (by first | (with_reducible assumption) | assumption))
      replace q3 := eq_true q3
      go_enter Try.func53, Try.ntmps53
      go_upto_region 7 with (fail)
      go_cut [20] (fun v20 wc => ∃ (kq : Nat) (x20_4 : Bool), v20 = .bool x20_4 ∧ Aside0 (foliateref05_sign.j0 kq a0 (wrap64 (bt a0 0)) 0 0 0 x20_4 = some (r1, r2)) ∧ Aside0 (kq ≤ k) ∧ Drawn0 w wc)
      case first =>
        have H := HC5.out
        clear HC5
        by_cases c6 : (wrap64 (bt a0 0)) ≥ 194
        · rw [if_pos c6] at H
          have c6b0 : decide (194 ≤ (wrap64 (bt a0 0))) = true := decide_eq_true c6
          clear c6
          (first | rw [c6b0] | (simp only [i64_w, i32_w]; rw [c6b0]) | skip)
          have H' := Aside0.mk H
          clear H
          go_wp2
          go_meet
          case rel => exact ⟨_, (decide ((wrap64 (bt a0 0)) < 224)), (by first | rfl | (simp; done) | (simp [*]; done)), H', ⟨by first | omega | exact Nat.le_refl _⟩, by repeat (first | exact Drawn0.refl _ | apply Drawn0.step)⟩
        · rw [if_neg c6] at H
          have c6b0 : decide (194 ≤ (wrap64 (bt a0 0))) = false := decide_eq_false c6
          clear c6
          (first | rw [c6b0] | (simp only [i64_w, i32_w]; rw [c6b0]) | skip)
          have H' := Aside0.mk H
          clear H
          go_wp2
          go_meet
          case rel => exact ⟨_, (false), (by first | rfl | (simp; done) | (simp [*]; done)), H', ⟨by first | omega | exact Nat.le_refl _⟩, by repeat (first | exact Drawn0.refl _ | apply Drawn0.step)⟩
      case rest =>
        clear HC5
        try clear c2
        try clear c2b0
        try clear c2b1
        try clear p2
        try clear p3
        try clear q3
        try clear hx3
        try clear qi3
        try clear c4
        try clear c4b0
        try clear c5
        try clear c6
        try clear c6b0
        try clear p6
        try clear p3
        try clear q3
        obtain ⟨kq, x20_4, rfl, HA, HJ4, ⟨mc4, rfl⟩⟩ := hcut
        cases kq with
        | zero => exact absurd HA.out (by simp [foliateref05_sign.j0])
        | succ kj4 =>
          have H := HA.out
          clear HA
          simp only [foliateref05_sign.j0] at H
          have HC7 := Aside0.mk H
          clear H
          go_upto_if 20 with (fail)
          go_cut [5, 6, 7] (fun v5 v6 v7 wc => ∃ (kq : Nat) (x5_6 : Int) (x6_6 : Int) (x7_6 : Int), v5 = .int .i64 x5_6 ∧ v6 = .int .i64 x6_6 ∧ v7 = .int .i64 x7_6 ∧ Aside0 (foliateref05_sign.j1 kq a0 (wrap64 (bt a0 0)) x5_6 x6_6 x7_6 = some (r1, r2)) ∧ Aside0 (kq ≤ kj4) ∧ Drawn0 w wc)
          case first =>
            have H := HC7.out
            clear HC7
            by_cases c8 : x20_4 = true
            · subst c8
              have H1 : (foliateref05_sign.j1 kj4 a0 (wrap64 (bt a0 0)) 2 128 (wrap64 ((wrap64 (bt a0 0)) - 192))) = some (r1, r2) := by rw [if_pos rfl] at H; exact H
              clear H
              have H := H1
              clear H1
              have H' := Aside0.mk H
              clear H
              go_wp2
              go_meet
              case rel => exact ⟨_, (2), (128), (wrap64 ((wrap64 (bt a0 0)) - 192)), (by first | rfl | (simp; done) | (simp [*]; done)), (by first | rfl | (simp; done) | (simp [*]; done)), (by first | rfl | (simp; done) | (simp [*]; done)), H', ⟨by have := HJ4.out; first | omega | exact Nat.le_refl _⟩, by repeat (first | exact Drawn0.refl _ | apply Drawn0.step)⟩
            · replace c8 := Bool.eq_false_iff.mpr c8
              subst c8
              have H1 : (foliateref05_sign.j1 kj4 a0 (wrap64 (bt a0 0)) 0 0 0) = some (r1, r2) := by rw [if_neg (show ¬ (false = true) by decide)] at H; exact H
              clear H
              have H := H1
              clear H1
              have H' := Aside0.mk H
              clear H
              go_wp2
              go_meet
              case rel => exact ⟨_, (0), (0), (0), (by first | rfl | (simp; done) | (simp [*]; done)), (by first | rfl | (simp; done) | (simp [*]; done)), (by first | rfl | (simp; done) | (simp [*]; done)), H', ⟨by have := HJ4.out; first | omega | exact Nat.le_refl _⟩, by repeat (first | exact Drawn0.refl _ | apply Drawn0.step)⟩
          case rest =>
            clear HC7
            try clear c2
            try clear c2b0
            try clear c2b1
            try clear p2
            try clear p3
            try clear q3
            try clear hx3
            try clear qi3
            try clear c4
            try clear c4b0
            try clear c5
            try clear c6
            try clear c6b0
            try clear p6
            try clear c8
            try clear p2
            try clear p3
            try clear p6
            try clear q3
            obtain ⟨kq, x5_6, x6_6, x7_6, rfl, rfl, rfl, HA, HJ6, ⟨mc6, rfl⟩⟩ := hcut
            cases kq with
            | zero => exact absurd HA.out (by simp [foliateref05_sign.j1])
            | succ kj6 =>
              have H := HA.out
              clear HA
              simp only [foliateref05_sign.j1] at H
              have HC9 := Aside0.mk H
              clear H
              go_upto_region 11 with (fail)
              go_cut [28] (fun v28 wc => ∃ (kq : Nat) (x28_8 : Bool), v28 = .bool x28_8 ∧ Aside0 (foliateref05_sign.j2 kq a0 (wrap64 (bt a0 0)) x5_6 x6_6 x7_6 x28_8 = some (r1, r2)) ∧ Aside0 (kq ≤ kj6) ∧ Drawn0 w wc)
              case first =>
                have H := HC9.out
                clear HC9
                by_cases c10 : (wrap64 (bt a0 0)) ≥ 224
                · rw [if_pos c10] at H
                  have c10b0 : decide (224 ≤ (wrap64 (bt a0 0))) = true := decide_eq_true c10
                  clear c10
                  (first | rw [c10b0] | (simp only [i64_w, i32_w]; rw [c10b0]) | skip)
                  have H' := Aside0.mk H
                  clear H
                  go_wp2
                  go_meet
                  case rel => exact ⟨_, (decide ((wrap64 (bt a0 0)) < 240)), (by first | rfl | (simp; done) | (simp [*]; done)), H', ⟨by have := HJ4.out; have := HJ6.out; first | omega | exact Nat.le_refl _⟩, by repeat (first | exact Drawn0.refl _ | apply Drawn0.step)⟩
                · rw [if_neg c10] at H
                  have c10b0 : decide (224 ≤ (wrap64 (bt a0 0))) = false := decide_eq_false c10
                  clear c10
                  (first | rw [c10b0] | (simp only [i64_w, i32_w]; rw [c10b0]) | skip)
                  have H' := Aside0.mk H
                  clear H
                  go_wp2
                  go_meet
                  case rel => exact ⟨_, (false), (by first | rfl | (simp; done) | (simp [*]; done)), H', ⟨by have := HJ4.out; have := HJ6.out; first | omega | exact Nat.le_refl _⟩, by repeat (first | exact Drawn0.refl _ | apply Drawn0.step)⟩
              case rest =>
                clear HC9
                try clear c1
                try clear c2
                try clear c2b0
                try clear c2b1
                try clear p2
                try clear p3
                try clear q3
                try clear hx3
                try clear qi3
                try clear c4
                try clear c4b0
                try clear c5
                try clear c6
                try clear c6b0
                try clear p6
                try clear c8
                try clear c10
                try clear c10b0
                try clear p2
                try clear p3
                try clear p6
                try clear q3
                obtain ⟨kq, x28_8, rfl, HA, HJ8, ⟨mc8, rfl⟩⟩ := hcut
                cases kq with
                | zero => exact absurd HA.out (by simp [foliateref05_sign.j2])
                | succ kj8 =>
                  have H := HA.out
                  clear HA
                  simp only [foliateref05_sign.j2] at H
                  have HC11 := Aside0.mk H
                  clear H
                  go_upto_if 28 with (fail)
                  go_cut [5, 6, 7] (fun v5 v6 v7 wc => ∃ (kq : Nat) (x5_10 : Int) (x6_10 : Int) (x7_10 : Int), v5 = .int .i64 x5_10 ∧ v6 = .int .i64 x6_10 ∧ v7 = .int .i64 x7_10 ∧ Aside0 (foliateref05_sign.j3 kq a0 (wrap64 (bt a0 0)) x5_10 x6_10 x7_10 = some (r1, r2)) ∧ Aside0 (kq ≤ kj8) ∧ Drawn0 w wc)
                  case first =>
                    have H := HC11.out
                    clear HC11
                    by_cases c12 : x28_8 = true
                    · subst c12
                      have H1 : (foliateref05_sign.j3 kj8 a0 (wrap64 (bt a0 0)) 3 2048 (wrap64 ((wrap64 (bt a0 0)) - 224))) = some (r1, r2) := by rw [if_pos rfl] at H; exact H
                      clear H
                      have H := H1
                      clear H1
                      have H' := Aside0.mk H
                      clear H
                      go_wp2
                      go_meet
                      case rel => exact ⟨_, (3), (2048), (wrap64 ((wrap64 (bt a0 0)) - 224)), (by first | rfl | (simp; done) | (simp [*]; done)), (by first | rfl | (simp; done) | (simp [*]; done)), (by first | rfl | (simp; done) | (simp [*]; done)), H', ⟨by have := HJ4.out; have := HJ6.out; have := HJ8.out; first | omega | exact Nat.le_refl _⟩, by repeat (first | exact Drawn0.refl _ | apply Drawn0.step)⟩
                    · replace c12 := Bool.eq_false_iff.mpr c12
                      subst c12
                      have H1 : (foliateref05_sign.j3 kj8 a0 (wrap64 (bt a0 0)) x5_6 x6_6 x7_6) = some (r1, r2) := by rw [if_neg (show ¬ (false = true) by decide)] at H; exact H
                      clear H
                      have H := H1
                      clear H1
                      have H' := Aside0.mk H
                      clear H
                      go_wp2
                      go_meet
                      case rel => exact ⟨_, (x5_6), (x6_6), (x7_6), (by first | rfl | (simp; done) | (simp [*]; done)), (by first | rfl | (simp; done) | (simp [*]; done)), (by first | rfl | (simp; done) | (simp [*]; done)), H', ⟨by have := HJ4.out; have := HJ6.out; have := HJ8.out; first | omega | exact Nat.le_refl _⟩, by repeat (first | exact Drawn0.refl _ | apply Drawn0.step)⟩
                  case rest =>
                    clear HC11
                    try clear c1
                    try clear c2
                    try clear c2b0
                    try clear c2b1
                    try clear p2
                    try clear p3
                    try clear q3
                    try clear hx3
                    try clear qi3
                    try clear c4
                    try clear c4b0
                    try clear c5
                    try clear c6
                    try clear c6b0
                    try clear p6
                    try clear c8
                    try clear c10
                    try clear c10b0
                    try clear c12
                    try clear p2
                    try clear p3
                    try clear p6
                    try clear q3
                    obtain ⟨kq, x5_10, x6_10, x7_10, rfl, rfl, rfl, HA, HJ10, ⟨mc10, rfl⟩⟩ := hcut
                    cases kq with
                    | zero => exact absurd HA.out (by simp [foliateref05_sign.j3])
                    | succ kj10 =>
                      have H := HA.out
                      clear HA
                      simp only [foliateref05_sign.j3] at H
                      have HC13 := Aside0.mk H
                      clear H
                      go_upto_region 15 with (fail)
                      go_cut [36] (fun v36 wc => ∃ (kq : Nat) (x36_12 : Bool), v36 = .bool x36_12 ∧ Aside0 (foliateref05_sign.j4 kq a0 (wrap64 (bt a0 0)) x5_10 x6_10 x7_10 x36_12 = some (r1, r2)) ∧ Aside0 (kq ≤ kj10) ∧ Drawn0 w wc)
                      case first =>
                        have H := HC13.out
                        clear HC13
                        by_cases c14 : (wrap64 (bt a0 0)) ≥ 240
                        · rw [if_pos c14] at H
                          have c14b0 : decide (240 ≤ (wrap64 (bt a0 0))) = true := decide_eq_true c14
                          clear c14
                          (first | rw [c14b0] | (simp only [i64_w, i32_w]; rw [c14b0]) | skip)
                          have H' := Aside0.mk H
                          clear H
                          go_wp2
                          go_meet
                          case rel => exact ⟨_, (decide ((wrap64 (bt a0 0)) < 245)), (by first | rfl | (simp; done) | (simp [*]; done)), H', ⟨by have := HJ4.out; have := HJ6.out; have := HJ8.out; have := HJ10.out; first | omega | exact Nat.le_refl _⟩, by repeat (first | exact Drawn0.refl _ | apply Drawn0.step)⟩
                        · rw [if_neg c14] at H
                          have c14b0 : decide (240 ≤ (wrap64 (bt a0 0))) = false := decide_eq_false c14
                          clear c14
                          (first | rw [c14b0] | (simp only [i64_w, i32_w]; rw [c14b0]) | skip)
                          have H' := Aside0.mk H
                          clear H
                          go_wp2
                          go_meet
                          case rel => exact ⟨_, (false), (by first | rfl | (simp; done) | (simp [*]; done)), H', ⟨by have := HJ4.out; have := HJ6.out; have := HJ8.out; have := HJ10.out; first | omega | exact Nat.le_refl _⟩, by repeat (first | exact Drawn0.refl _ | apply Drawn0.step)⟩
                      case rest =>
                        clear HC13
                        try clear c1
                        try clear c2
                        try clear c2b0
                        try clear c2b1
                        try clear p2
                        try clear p3
                        try clear q3
                        try clear hx3
                        try clear qi3
                        try clear c4
                        try clear c4b0
                        try clear c5
                        try clear c6
                        try clear c6b0
                        try clear p6
                        try clear c8
                        try clear c10
                        try clear c10b0
                        try clear c12
                        try clear c14
                        try clear c14b0
                        try clear p2
                        try clear p3
                        try clear p6
                        try clear q3
                        obtain ⟨kq, x36_12, rfl, HA, HJ12, ⟨mc12, rfl⟩⟩ := hcut
                        cases kq with
                        | zero => exact absurd HA.out (by simp [foliateref05_sign.j4])
                        | succ kj12 =>
                          have H := HA.out
                          clear HA
                          simp only [foliateref05_sign.j4] at H
                          have HC15 := Aside0.mk H
                          clear H
                          go_upto_if 36 with (fail)
                          go_cut [5, 6, 7] (fun v5 v6 v7 wc => ∃ (kq : Nat) (x5_14 : Int) (x6_14 : Int) (x7_14 : Int), v5 = .int .i64 x5_14 ∧ v6 = .int .i64 x6_14 ∧ v7 = .int .i64 x7_14 ∧ Aside0 (foliateref05_sign.j5 kq a0 x5_14 x6_14 x7_14 = some (r1, r2)) ∧ Aside0 (kq ≤ kj12) ∧ Drawn0 w wc)
                          case first =>
                            have H := HC15.out
                            clear HC15
                            by_cases c16 : x36_12 = true
                            · subst c16
                              have H1 : (foliateref05_sign.j5 kj12 a0 4 65536 (wrap64 ((wrap64 (bt a0 0)) - 240))) = some (r1, r2) := by rw [if_pos rfl] at H; exact H
                              clear H
                              have H := H1
                              clear H1
                              have H' := Aside0.mk H
                              clear H
                              go_wp2
                              go_meet
                              case rel => exact ⟨_, (4), (65536), (wrap64 ((wrap64 (bt a0 0)) - 240)), (by first | rfl | (simp; done) | (simp [*]; done)), (by first | rfl | (simp; done) | (simp [*]; done)), (by first | rfl | (simp; done) | (simp [*]; done)), H', ⟨by have := HJ4.out; have := HJ6.out; have := HJ8.out; have := HJ10.out; have := HJ12.out; first | omega | exact Nat.le_refl _⟩, by repeat (first | exact Drawn0.refl _ | apply Drawn0.step)⟩
                            · replace c16 := Bool.eq_false_iff.mpr c16
                              subst c16
                              have H1 : (foliateref05_sign.j5 kj12 a0 x5_10 x6_10 x7_10) = some (r1, r2) := by rw [if_neg (show ¬ (false = true) by decide)] at H; exact H
                              clear H
                              have H := H1
                              clear H1
                              have H' := Aside0.mk H
                              clear H
                              go_wp2
                              go_meet
                              case rel => exact ⟨_, (x5_10), (x6_10), (x7_10), (by first | rfl | (simp; done) | (simp [*]; done)), (by first | rfl | (simp; done) | (simp [*]; done)), (by first | rfl | (simp; done) | (simp [*]; done)), H', ⟨by have := HJ4.out; have := HJ6.out; have := HJ8.out; have := HJ10.out; have := HJ12.out; first | omega | exact Nat.le_refl _⟩, by repeat (first | exact Drawn0.refl _ | apply Drawn0.step)⟩
                          case rest =>
                            clear HC15
                            try clear c1
                            try clear c2
                            try clear c2b0
                            try clear c2b1
                            try clear p2
                            try clear p3
                            try clear q3
                            try clear hx3
                            try clear qi3
                            try clear c4
                            try clear c4b0
                            try clear c5
                            try clear c6
                            try clear c6b0
                            try clear p6
                            try clear c8
                            try clear c10
                            try clear c10b0
                            try clear c12
                            try clear c14
                            try clear c14b0
                            try clear c16
                            try clear p2
                            try clear p3
                            try clear p6
                            try clear q3
                            obtain ⟨kq, x5_14, x6_14, x7_14, rfl, rfl, rfl, HA, HJ14, ⟨mc14, rfl⟩⟩ := hcut
                            cases kq with
                            | zero => exact absurd HA.out (by simp [foliateref05_sign.j5])
                            | succ kj14 =>
                              have H := HA.out
                              clear HA
                              simp only [foliateref05_sign.j5] at H
                              have HC17 := Aside0.mk H
                              clear H
                              go_upto_region 19 with (fail)
                              go_cut [46] (fun v46 wc => ∃ (kq : Nat) (x46_16 : Bool), v46 = .bool x46_16 ∧ Aside0 (foliateref05_sign.j6 kq a0 x5_14 x6_14 x7_14 x46_16 = some (r1, r2)) ∧ Aside0 (kq ≤ kj14) ∧ Drawn0 w wc)
                              case first =>
                                have H := HC17.out
                                clear HC17
                                by_cases c18 : x5_14 = 0
                                · rw [if_pos c18] at H
                                  have c18b0 : (x5_14 == 0) = true := beq_iff_eq.mpr c18
                                  have c18b1 : (x5_14 != 0) = false := bne_eq_false_iff_eq.mpr c18
                                  clear c18
                                  (first | rw [c18b0] | (simp only [i64_w, i32_w]; rw [c18b0]) | skip)
                                  have H' := Aside0.mk H
                                  clear H
                                  go_wp2
                                  go_meet
                                  case rel => exact ⟨_, (true), (by first | rfl | (simp; done) | (simp [*]; done)), H', ⟨by have := HJ4.out; have := HJ6.out; have := HJ8.out; have := HJ10.out; have := HJ12.out; have := HJ14.out; first | omega | exact Nat.le_refl _⟩, by repeat (first | exact Drawn0.refl _ | apply Drawn0.step)⟩
                                · rw [if_neg c18] at H
                                  have c18b0 : (x5_14 == 0) = false := beq_eq_false_iff_ne.mpr c18
                                  have c18b1 : (x5_14 != 0) = true := bne_iff_ne.mpr c18
                                  (first | rw [c18b0] | (simp only [i64_w, i32_w]; rw [c18b0]) | skip)
                                  have H' := Aside0.mk H
                                  clear H
                                  go_wp2
                                  go_meet
                                  case rel => exact ⟨_, (decide ((a0.size : Int) < x5_14)), (by first | rfl | (simp; done) | (simp [*]; done)), H', ⟨by have := HJ4.out; have := HJ6.out; have := HJ8.out; have := HJ10.out; have := HJ12.out; have := HJ14.out; first | omega | exact Nat.le_refl _⟩, by repeat (first | exact Drawn0.refl _ | apply Drawn0.step)⟩
                              case rest =>
                                clear HC17
                                try clear c1
                                try clear c2
                                try clear c2b0
                                try clear c2b1
                                try clear p2
                                try clear p3
                                try clear q3
                                try clear hx3
                                try clear qi3
                                try clear c4
                                try clear c4b0
                                try clear c5
                                try clear c6
                                try clear c6b0
                                try clear p6
                                try clear c8
                                try clear c10
                                try clear c10b0
                                try clear c12
                                try clear c14
                                try clear c14b0
                                try clear c16
                                try clear c18
                                try clear c18b0
                                try clear c18b1
                                try clear p2
                                try clear p3
                                try clear p6
                                try clear q3
                                obtain ⟨kq, x46_16, rfl, HA, HJ16, ⟨mc16, rfl⟩⟩ := hcut
                                cases kq with
                                | zero => exact absurd HA.out (by simp [foliateref05_sign.j6])
                                | succ kj16 =>
                                  have H := HA.out
                                  clear HA
                                  simp only [foliateref05_sign.j6] at H
                                  by_cases c19 : x46_16 = true
                                  · subst c19
                                    have H1 : (some (65533, 1)) = some (r1, r2) := by rw [if_pos rfl] at H; exact H
                                    clear H
                                    have H := H1
                                    clear H1
                                    simp only [Option.some.injEq, Prod.mk.injEq] at H
                                    obtain ⟨rfl, rfl⟩ := H
                                    go_wp2
                                    go_ret2
                                    exact ⟨by first | rfl | (simp; done) | (simp [*]; done), by repeat (first | exact Drawn0.refl _ | apply Drawn0.step)⟩
                                  · replace c19 := Bool.eq_false_iff.mpr c19
                                    subst c19
                                    have H1 : (foliateref05_sign.l0 kj16 a0 x5_14 x6_14 x7_14 1) = some (r1, r2) := by rw [if_neg (show ¬ (false = true) by decide)] at H; exact H
                                    clear H
                                    have H := H1
                                    clear H1
                                    have H' := Aside0.mk H
                                    clear H
                                    go_wp2
                                    go_loopg [7, 8] kj16 (fun kq v7 v8 w' => ∃ (x7_8 : Int) (x8_8 : Int), v7 = .int .i64 x7_8 ∧ v8 = .int .i64 x8_8 ∧ Aside0 (foliateref05_sign.l0 kq a0 x5_14 x6_14 x7_8 x8_8 = some (r1, r2)) ∧ Aside0 (kq ≤ kj16) ∧ Drawn0 w w')
                                    case atStart => exact ⟨(x7_14), (1), (by first | rfl | (simp; done) | (simp [*]; done)), (by first | rfl | (simp; done) | (simp [*]; done)), H', ⟨Nat.le_refl _⟩, by repeat (first | exact Drawn0.refl _ | apply Drawn0.step)⟩
                                    case round =>
                                      clear H'
                                      try clear c1
                                      try clear c2
                                      try clear c2b0
                                      try clear c2b1
                                      try clear p2
                                      try clear p3
                                      try clear q3
                                      try clear hx3
                                      try clear qi3
                                      try clear c4
                                      try clear c4b0
                                      try clear c5
                                      try clear c6
                                      try clear c6b0
                                      try clear p6
                                      try clear c8
                                      try clear c10
                                      try clear c10b0
                                      try clear c12
                                      try clear c14
                                      try clear c14b0
                                      try clear c16
                                      try clear c18
                                      try clear c18b0
                                      try clear c18b1
                                      try clear c19
                                      try clear p2
                                      try clear p3
                                      try clear p6
                                      try clear q3
                                      obtain ⟨x7_8, x8_8, rfl, rfl, HA, HK8, ⟨m8, rfl⟩⟩ := hrel
                                      cases gk with
                                      | zero => exact absurd HA.out (by simp [foliateref05_sign.l0])
                                      | succ k8 =>
                                        have H := HA.out
                                        clear HA
                                        simp only [foliateref05_sign.l0] at H
                                        by_cases c20 : x8_8 < x5_14
                                        · rw [if_pos c20] at H
                                          have c20b0 : decide (x8_8 < x5_14) = true := decide_eq_true c20
                                          clear c20
                                          by_cases c21 : 0 ≤ x8_8
                                          · rw [if_pos c21] at H
                                            have c21b0 : decide (0 ≤ x8_8) = true := decide_eq_true c21
                                            clear c21
                                            by_cases c22 : x8_8 < (a0.size : Int)
                                            · rw [if_pos c22] at H
                                              have c22b0 : decide (x8_8 < (a0.size : Int)) = true := decide_eq_true c22
                                              clear c22
                                              by_cases c24 : (bt a0 x8_8) < 128
                                              · rw [if_pos c24] at H
                                                have c24b0 : decide ((bt a0 x8_8) < 128) = true := decide_eq_true c24
                                                clear c24
                                                simp only [Option.some.injEq, Prod.mk.injEq] at H
                                                obtain ⟨rfl, rfl⟩ := H
                                                have p23 : 0 ≤ (x8_8 : Int) := of_decide_eq_true (by first | (with_reducible assumption) | assumption)
                                                have q23 : x8_8 < (a0.size : Int) := of_decide_eq_true (by first | (with_reducible assumption) | assumption)
                                                have hx23 := bt_at a0 x8_8
                                                replace p23 := eq_true p23
                                                replace q23 := eq_true q23
                                                go_wp2
                                                go_ret2
                                                exact ⟨by first | rfl | (simp; done) | (simp [*]; done), by repeat (first | exact Drawn0.refl _ | apply Drawn0.step)⟩
                                              · rw [if_neg c24] at H
                                                have c24b0 : decide ((bt a0 x8_8) < 128) = false := decide_eq_false c24
                                                clear c24
                                                by_cases c26 : (bt a0 x8_8) > 191
                                                · rw [if_pos c26] at H
                                                  have c26b0 : decide (191 < (bt a0 x8_8)) = true := decide_eq_true c26
                                                  clear c26
                                                  simp only [Option.some.injEq, Prod.mk.injEq] at H
                                                  obtain ⟨rfl, rfl⟩ := H
                                                  have p23 : 0 ≤ (x8_8 : Int) := of_decide_eq_true (by first | (with_reducible assumption) | assumption)
                                                  have q23 : x8_8 < (a0.size : Int) := of_decide_eq_true (by first | (with_reducible assumption) | assumption)
                                                  have hx23 := bt_at a0 x8_8
                                                  replace p23 := eq_true p23
                                                  replace q23 := eq_true q23
                                                  have p25 : 0 ≤ (x8_8 : Int) := of_decide_eq_true (by first | (with_reducible assumption) | assumption)
                                                  have q25 : x8_8 < (a0.size : Int) := of_decide_eq_true (by first | (with_reducible assumption) | assumption)
                                                  have hx25 := bt_at a0 x8_8
                                                  replace p25 := eq_true p25
                                                  replace q25 := eq_true q25
                                                  go_wp2
                                                  go_ret2
                                                  exact ⟨by first | rfl | (simp; done) | (simp [*]; done), by repeat (first | exact Drawn0.refl _ | apply Drawn0.step)⟩
                                                · rw [if_neg c26] at H
                                                  have c26b0 : decide (191 < (bt a0 x8_8)) = false := decide_eq_false c26
                                                  clear c26
                                                  have H' := Aside0.mk H
                                                  clear H
                                                  have p23 : 0 ≤ (x8_8 : Int) := of_decide_eq_true (by first | (with_reducible assumption) | assumption)
                                                  have q23 : x8_8 < (a0.size : Int) := of_decide_eq_true (by first | (with_reducible assumption) | assumption)
                                                  have hx23 := bt_at a0 x8_8
                                                  replace p23 := eq_true p23
                                                  replace q23 := eq_true q23
                                                  have p25 : 0 ≤ (x8_8 : Int) := of_decide_eq_true (by first | (with_reducible assumption) | assumption)
                                                  have q25 : x8_8 < (a0.size : Int) := of_decide_eq_true (by first | (with_reducible assumption) | assumption)
                                                  have hx25 := bt_at a0 x8_8
                                                  replace p25 := eq_true p25
                                                  replace q25 := eq_true q25
                                                  have p27 : 0 ≤ (x8_8 : Int) := of_decide_eq_true (by first | (with_reducible assumption) | assumption)
                                                  have q27 : x8_8 < (a0.size : Int) := of_decide_eq_true (by first | (with_reducible assumption) | assumption)
                                                  have hx27 := bt_at a0 x8_8
                                                  replace p27 := eq_true p27
                                                  replace q27 := eq_true q27
                                                  go_wp2
                                                  go_roundg k8
                                                  case measure => have := HJ4.out; have := HJ6.out; have := HJ8.out; have := HJ10.out; have := HJ12.out; have := HJ14.out; have := HJ16.out; have := HK8.out; omega
                                                  case rel => exact ⟨(wrap64 ((wrap64 ((wrap64 (64 * x7_8)) + (wrap64 (bt a0 x8_8)))) - 128)), (wrap64 (x8_8 + 1)), (by first | rfl | (simp; done) | (simp [*]; done)), (by first | rfl | (simp; done) | (simp [*]; done)), H', ⟨by have := HJ4.out; have := HJ6.out; have := HJ8.out; have := HJ10.out; have := HJ12.out; have := HJ14.out; have := HJ16.out; have := HK8.out; omega⟩, by repeat (first | exact Drawn0.refl _ | apply Drawn0.step)⟩
                                            · rw [if_neg c22] at H
                                              exact absurd H (by simp)
                                          · rw [if_neg c21] at H
                                            exact absurd H (by simp)
                                        · rw [if_neg c20] at H
                                          have c20b0 : decide (x8_8 < x5_14) = false := decide_eq_false c20
                                          clear c20
                                          by_cases c28 : x7_8 < x6_14
                                          · rw [if_pos c28] at H
                                            have c28b0 : decide (x7_8 < x6_14) = true := decide_eq_true c28
                                            clear c28
                                            simp only [Option.some.injEq, Prod.mk.injEq] at H
                                            obtain ⟨rfl, rfl⟩ := H
                                            go_wp2
                                            go_ret2
                                            exact ⟨by first | rfl | (simp; done) | (simp [*]; done), by repeat (first | exact Drawn0.refl _ | apply Drawn0.step)⟩
                                          · rw [if_neg c28] at H
                                            have c28b0 : decide (x7_8 < x6_14) = false := decide_eq_false c28
                                            clear c28
                                            by_cases c29 : x7_8 > 1114111
                                            · rw [if_pos c29] at H
                                              have c29b0 : decide (1114111 < x7_8) = true := decide_eq_true c29
                                              clear c29
                                              simp only [Option.some.injEq, Prod.mk.injEq] at H
                                              obtain ⟨rfl, rfl⟩ := H
                                              go_wp2
                                              go_ret2
                                              exact ⟨by first | rfl | (simp; done) | (simp [*]; done), by repeat (first | exact Drawn0.refl _ | apply Drawn0.step)⟩
                                            · rw [if_neg c29] at H
                                              have c29b0 : decide (1114111 < x7_8) = false := decide_eq_false c29
                                              clear c29
                                              by_cases c30 : x7_8 ≥ 55296
                                              · rw [if_pos c30] at H
                                                have c30b0 : decide (55296 ≤ x7_8) = true := decide_eq_true c30
                                                clear c30
                                                by_cases c31 : x7_8 ≤ 57343
                                                · rw [if_pos c31] at H
                                                  have c31b0 : decide (x7_8 ≤ 57343) = true := decide_eq_true c31
                                                  clear c31
                                                  simp only [Option.some.injEq, Prod.mk.injEq] at H
                                                  obtain ⟨rfl, rfl⟩ := H
                                                  go_wp2
                                                  go_ret2
                                                  exact ⟨by first | rfl | (simp; done) | (simp [*]; done), by repeat (first | exact Drawn0.refl _ | apply Drawn0.step)⟩
                                                · rw [if_neg c31] at H
                                                  have c31b0 : decide (x7_8 ≤ 57343) = false := decide_eq_false c31
                                                  clear c31
                                                  simp only [Option.some.injEq, Prod.mk.injEq] at H
                                                  obtain ⟨rfl, rfl⟩ := H
                                                  go_wp2
                                                  go_ret2
                                                  exact ⟨by first | rfl | (simp; done) | (simp [*]; done), by repeat (first | exact Drawn0.refl _ | apply Drawn0.step)⟩
                                              · rw [if_neg c30] at H
                                                have c30b0 : decide (55296 ≤ x7_8) = false := decide_eq_false c30
                                                clear c30
                                                simp only [Option.some.injEq, Prod.mk.injEq] at H
                                                obtain ⟨rfl, rfl⟩ := H
                                                go_wp2
                                                go_ret2
                                                exact ⟨by first | rfl | (simp; done) | (simp [*]; done), by repeat (first | exact Drawn0.refl _ | apply Drawn0.step)⟩
  · rw [if_neg c2] at H
    exact absurd H (by simp)

end Go.Proofs.Ytlcanmndeempfaa.PAll
