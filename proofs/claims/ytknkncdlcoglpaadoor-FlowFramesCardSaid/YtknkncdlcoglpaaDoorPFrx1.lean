-- Written by wip/tools/myprint.py, a program of the prover's own, over the kit's print; the contracts named 'HAND' there are typed by hand.
import Derived.Test.YtknkncdlcoglpaaDoorPFrx0
namespace Go.Proofs.YtknkncdlcoglpaaDoor.PFr
open Go.RowKit Go.Proofs.YtknkncdlcoglpaaDoorW.PrintWords Go.Proofs.YtknkncdlcoglpaaDoorW.PrintLast Go.Proofs.YtknkncdlcoglpaaDoorW.PrintMore
attribute [local go_sem] max2_int min2_int max_two min_two max_three min_three max_four min_four   -- for this text's walks alone
set_option linter.unusedVariables false
set_option linter.unusedSimpArgs false

-- NOT PRINTED: function 52 (slices_IndexFunc_byte_byte)

-- NOT PRINTED: function 34 (slices_ContainsFunc_byte_byte)

/-! ### flow_May: function 21 -/
/-- no part is longer than 200 bytes -/
def partsOk (l : List (List Int)) : Bool := l.all fun p => decide (p.length ≤ 200)
theorem long_any (A : Option Addr) (n c : Nat) (w : World) : Calls Tryd.prog 33 #[.slice A n c] w fun e w' => e = .returned (.bool (decide ((200 : Int) < (n : Int)))) ∧ w' = w := by
  go_enter Tryd.func33, Tryd.ntmps33
  go_wp2
  go_ret
  exact ⟨rfl, rfl⟩
theorem partsOk_take (l : List (List Int)) (k : Nat) (h : k < l.length) : partsOk (l.take (k + 1)) = (partsOk (l.take k) && decide ((l.getD k []).length ≤ 200)) := by
  unfold partsOk
  rw [List.take_succ_eq_append_getElem h, List.all_append, List.getD_eq_getElem?_getD, List.getElem?_eq_getElem h]
  simp
theorem partsOk_mono (l : List (List Int)) (k : Nat) (h : partsOk (l.take k) = false) : partsOk l = false := by
  unfold partsOk at *
  rw [← List.take_append_drop k l, List.all_append, h]
  rfl
theorem index_at {w : World} {A : Option Addr} {n : Nat} {xs : List (List Int)} (h : Kd.C (Kd.slice 5 (Kd.int .u8)) w A n xs) (hn : n = xs.length) (i : Nat) (h1 : i < n) : ∃ ad A0 c0, ∃ row : List Int, A = some ad ∧ w.cell? (ad.add i) = some (.slice A0 row.length c0) ∧ row = xs.getD i [] := by
  obtain ⟨ad, c, e, _, hK, hc0⟩ := Kd.C_get h ([] : List Int) (i : Int) (by omega) (by omega)
  have hc : ∀ j u, c[j]? = some u → w.cell? (ad.add ((i : Int).toNat * 1 + j)) = some u := hc0
  obtain ⟨A0, c0, rfl, l0, g0⟩ := hK
  exact ⟨ad, A0, c0, _, e, by have hq := hc 0 _ rfl; rwa [Nat.mul_one, Nat.add_zero] at hq, rfl⟩
set_option maxHeartbeats 4000000 in
theorem index_long (A0 : Option Addr) (c0 : Nat) (l0 : List (List Int)) (w : World) (hr0 : Kd.C (Kd.slice 5 (Kd.int .u8)) w A0 l0.length l0) (hl : l0.length ≤ 1000) :
    Calls Tryd.prog 52 #[.slice A0 l0.length c0, .func (.func 33) #[] #[]] w fun e w' => ∃ z : Int, e = .returned (.int .i64 z) ∧ Aside0 (decide (0 ≤ z) = !(partsOk l0)) ∧ Below w.heap.size w w' := by
  obtain ⟨n, hn⟩ : ∃ n, n = l0.length := ⟨_, rfl⟩
  rw [← hn] at hr0 hl ⊢
  have HR := Aside0.mk hr0
  have HN := Aside0.mk hn
  have HL := Aside0.mk hl
  clear hr0 hn hl
  go_enter Tryd.func52, Tryd.ntmps52
  go_wp2
  go_loopw [8] (fun i wr => ∃ k : Nat, k ≤ n ∧ i = .int .i64 (k : Int) ∧ Aside0 (partsOk (l0.take k) = true) ∧ Aside0 (Below w.heap.size w wr)) (fun i _ => match i with | .int _ m => ((n : Int) - m).toNat | _ => 0)
  case atStart => exact ⟨0, by omega, rfl, ⟨rfl⟩, ⟨Below.refl _ _⟩⟩
  case round =>
    obtain ⟨k, hk, rfl, HP, HB⟩ := hrel
    by_cases hlt : k < n
    · have hb : decide ((k : Int) < (n : Int)) = true := decide_eq_true (by omega)
      have hb2 : decide (k < n) = true := decide_eq_true (by omega)
      have hat_ := index_at (Kd.C_below HR.out HB.out) HN.out k hlt
      obtain ⟨ad, A1, c1, row, rfl, hcell, hrow⟩ := hat_
      have HROW := Aside0.mk hrow
      have HLT := Aside0.mk hlt
      have hk1 : wrap64 ((k : Int) + 1) = (k : Int) + 1 := by have := HL.out; unfold wrap64; omega
      have ht := partsOk_take l0 k (by have := HN.out; omega)
      rw [HP.out, Bool.true_and, ← hrow] at ht
      have HT := Aside0.mk ht
      clear hrow ht hk
      by_cases hlong : row.length ≤ 200
      · have hd : decide ((200 : Int) < (row.length : Int)) = false := decide_eq_false (by omega)
        have HLO := Aside0.mk hlong
        clear hlong
        go_wp2_with (go_at_call 33; refine (long_any A1 row.length c1 _).mono ?_; rintro e w1 ⟨rfl, rfl⟩)
        go_roundw
        case rel => exact ⟨k + 1, HLT.out, by rw [hk1]; rfl, ⟨by rw [HT.out]; exact decide_eq_true HLO.out⟩, HB⟩
        case measure => rw [hk1]; have := HLT.out; simp; omega
      · have hd : decide ((200 : Int) < (row.length : Int)) = true := decide_eq_true (by omega)
        have hbad : partsOk l0 = false := partsOk_mono l0 (k + 1) (by rw [HT.out]; exact decide_eq_false hlong)
        have HBAD := Aside0.mk hbad
        clear hlong hbad
        go_wp2_with (go_at_call 33; refine (long_any A1 row.length c1 _).mono ?_; rintro e w1 ⟨rfl, rfl⟩)
        go_ret
        exact ⟨_, rfl, ⟨by rw [HBAD.out]; exact decide_eq_true (by omega)⟩, HB.out⟩
    · have hb : decide ((k : Int) < (n : Int)) = false := decide_eq_false (by omega)
      have hb2 : decide (k < n) = false := decide_eq_false (by omega)
      obtain rfl : k = n := by omega
      have hp := HP.out
      rw [List.take_of_length_le (by have := HN.out; omega)] at hp
      have HPP := Aside0.mk hp
      clear hlt hk hp
      go_wp2
      go_ret
      exact ⟨_, rfl, ⟨by rw [HPP.out]; rfl⟩, HB.out⟩
theorem contains_long (A0 : Option Addr) (c0 : Nat) (l0 : List (List Int)) (w : World) (hr0 : Kd.C (Kd.slice 5 (Kd.int .u8)) w A0 l0.length l0) (hl : l0.length ≤ 1000) :
    Calls Tryd.prog 34 #[.slice A0 l0.length c0, .func (.func 33) #[] #[]] w fun e w' => e = .returned (.bool (!(partsOk l0))) ∧ Below w.heap.size w w' := by
  have HR := Aside0.mk hr0
  have HL := Aside0.mk hl
  clear hr0 hl
  go_enter Tryd.func34, Tryd.ntmps34
  go_wp2_with (go_at_call 52; refine (index_long A0 c0 l0 _ HR.out HL.out).mono ?_; rintro e w1 ⟨z, rfl, hz, hb⟩; have hzz := hz.out)
  go_ret
  exact ⟨rfl, hb⟩
def flow_May.f (a0_0 : Int) (l0_1 : List (List Int)) : Option Bool := some (decide (l0_1.length ≤ 40) && partsOk l0_1)
set_option maxHeartbeats 4000000 in
theorem flow_May.calls (a0_0 : Int) (A0_1 : Option Addr) (c0_1 : Nat) (l0_1 : List (List Int)) (r : Bool) (w : World) (hr0_1 : Kd.C (Kd.slice 5 (Kd.int .u8)) w A0_1 l0_1.length l0_1) (hc0_1 : l0_1.length ≤ c0_1) (h : flow_May.f a0_0 l0_1 = some r) :
    Calls Tryd.prog 21 #[.agg #[.int .u32 a0_0, .slice A0_1 l0_1.length c0_1]] w fun e w' => e = .returned (.bool r) ∧ Below w.heap.size w w' := by
  obtain rfl := Option.some.inj h
  have HR := Aside0.mk hr0_1
  clear h hr0_1 hc0_1
  by_cases c : l0_1.length ≤ 40
  · have e1 : (decide (l0_1.length ≤ 40) && partsOk l0_1) = partsOk l0_1 := by rw [decide_eq_true c, Bool.true_and]
    rw [e1]
    have d1 : decide ((l0_1.length : Int) ≤ 40) = true := decide_eq_true (by omega)
    have d2 : decide (l0_1.length ≤ 40) = true := decide_eq_true c
    have HL := Aside0.mk (show l0_1.length ≤ 1000 by omega)
    clear e1 c
    go_enter Tryd.func21, Tryd.ntmps21
    go_wp2_with (go_at_call 34; refine (contains_long A0_1 c0_1 l0_1 _ (Kd.C_alloc HR.out _) HL.out).mono ?_; rintro e w1 ⟨rfl, hb⟩)
    go_ret
    exact ⟨rfl, below_then ((Below.refl _ _).alloc (Nat.le_refl _) _) (by simp) hb⟩
  · have e1 : (decide (l0_1.length ≤ 40) && partsOk l0_1) = false := by rw [decide_eq_false c, Bool.false_and]
    rw [e1]
    have d1 : decide ((l0_1.length : Int) ≤ 40) = false := decide_eq_false (by omega)
    have d2 : decide (l0_1.length ≤ 40) = false := decide_eq_false c
    clear e1 c
    go_enter Tryd.func21, Tryd.ntmps21
    go_wp2
    go_ret
    exact ⟨rfl, (Below.refl _ _).alloc (Nat.le_refl _) _⟩

/-! ### vari_Put: function 38 -/
def vari_Put.l0 : Nat → Int → List Int → Option (List Int)
  | 0, _, _ => none
  | k + 1, x0, x3 => if x0 ≥ 128 then (if x3.length < 140737488355328 then (vari_Put.l0 k (x0 / 128) (x3 ++ [Go.bits .or .u8 ((x0) % 256) 128])) else (none)) else (if x3.length < 140737488355328 then (some (x3 ++ [(x0) % 256])) else (none))
def vari_Put.f (k : Nat) (a0 : Int) : Option (List Int) := vari_Put.l0 k a0 ([] : List Int)
set_option maxHeartbeats 8000000 in
set_option maxRecDepth 100000 in
theorem vari_Put.calls (k : Nat) (a0 : Int) (r : List Int) (w : World) (h : vari_Put.f k a0 = some r) :
    Calls Tryd.prog 38 #[.int .u64 a0] w fun e w' => ∃ v0_ : Value, e = .returned (v0_) ∧ Kd.R (Kd.int .u8) 5 w' w.heap.size (fun _ => True) v0_ r ∧ Below w.heap.size w w' := by
  have HB := Aside0.mk (Below.refl w.heap.size w)
  have H : (vari_Put.l0 k a0 ([] : List Int)) = some r := h
  clear h
  have H' := Aside0.mk H
  clear H
  go_enter Tryd.func38, Tryd.ntmps38
  go_wp2
  go_loopg [0, 3] k (fun kq v0 v3 w' => ∃ (x0_1 : Int) (x3_1 : List Int), v0 = .int .u64 x0_1 ∧ Aside0 (vari_Put.l0 kq x0_1 x3_1 = some r) ∧ Aside0 (kq ≤ k) ∧ Aside0 (Kd.R (Kd.int .u8) 5 w' w.heap.size (fun _ => True) v3 x3_1) ∧ Aside0 (Below w.heap.size w w'))
  case atStart => exact ⟨(a0), (([] : List Int)), (by first | rfl | (simp; done) | (simp [*]; done)), H', ⟨Nat.le_refl _⟩, ⟨by first | exact Kd.R_nil _ _ _ _ _ | exact Kd.N_nil _ _ _ _ _ | exact Kd.V_nil _ _ _ _ _ | exact Kd.Q_nil _ _ _ _ _ | exact Kd.S_nil _ _ _ _ _⟩, ⟨by repeat (first | (with_reducible first | exact HB.out | apply below_alloc | apply pw_below_drewN | apply below_drew1) | exact HB.out)⟩⟩
  case round =>
    clear H'
    obtain ⟨x0_1, x3_1, rfl, HA, HK1, HO_3, HB⟩ := hrel
    cases gk with
    | zero => exact absurd HA.out (by simp [vari_Put.l0])
    | succ k1 =>
      have H := HA.out
      clear HA
      simp only [vari_Put.l0] at H
      by_cases c2 : x0_1 ≥ 128
      · rw [if_pos c2] at H
        have c2b0 : decide (128 ≤ x0_1) = true := decide_eq_true c2
        clear c2
        by_cases c3 : x3_1.length < 140737488355328
        · rw [if_pos c3] at H
          have LMc3 := Aside0.mk c3
          clear c3
          obtain ⟨y101, hy101⟩ : ∃ y_ : List Int, y_ = (x3_1 ++ [Go.bits .or .u8 ((x0_1) % 256) 128]) := ⟨_, rfl⟩
          replace H : (vari_Put.l0 k1 (x0_1 / 128) y101) = some r := by first | (rw [hy101]; with_reducible exact H) | (have H2_ := (Option.bind_some _ _).symm.trans H; rw [hy101]; with_reducible exact H2_) | (have H2_ := (Option.bind_some _ _).symm.trans H; with_reducible exact H2_) | with_reducible exact H | (rw [hy101]; exact H) | exact H
          have Ny101 := Aside0.mk hy101
          clear hy101
          have H' := Aside0.mk H
          clear H
          go_wp2_with (first | ((with_reducible refine gate_builtin (b := .append) (xs := #[.tmp 8, .tmp 12]) rfl ?_); at_builtin; refine Kd.R_append (Kd.int .u8) (w0 := w) w.heap.size rfl (.tmp 8) (.tmp 12) 26 5 (.int .u8 0) 1 rfl Tryd.underlying26 info5 rfl (by decide) (by omega) u3 x3_1 (Go.bits .or .u8 ((x0_1) % 256) 128) [.int .u8 (Go.bits .or .u8 ((x0_1) % 256) 128)] (fun _ => True) (fun _ => False) rfl rfl ?aP (fun _ hk => hk.elim) ?aF ?aO ?aB ?aS ?aL ?_; (case aP => exact rfl); (case aB => exact (by repeat (first | (with_reducible first | exact HB.out | apply below_alloc | apply pw_below_drewN | apply below_drew1) | exact HB.out))); (case aF => exact (fun _ _ => trivial)); (case aO => exact (by (with_reducible repeat (first | apply Kd.R_alloc | apply Kd.R_drewN | apply Kd.R_drew)); exact HO_3.out)); (case aS => exact (below_size (by repeat (first | (with_reducible first | exact HB.out | apply below_alloc | apply pw_below_drewN | apply below_drew1) | exact HB.out)))); (case aL => have := LMc3.out; omega); intro v102 w4 ho hb hg hat; rw [← Ny101.out] at ho; have n0_ := Aside0.mk (hb); have n1_ := Aside0.mk (ho); clear HB; clear HO_3; have HB := n0_; have HO103 := n1_; clear n0_ n1_; clear ho hb hg hat))
          go_roundg k1
          case measure => have := HK1.out; omega
          case rel => exact ⟨(x0_1 / 128), (y101), (by first | rfl | (simp; done) | (simp [*]; done)), H', ⟨by have := HK1.out; omega⟩, ⟨by (with_reducible repeat (first | apply Kd.R_alloc | apply Kd.R_drewN | apply Kd.R_drew)); exact HO103.out⟩, ⟨by repeat (first | (with_reducible first | exact HB.out | apply below_alloc | apply pw_below_drewN | apply below_drew1) | exact HB.out)⟩⟩
        · rw [if_neg c3] at H
          exact absurd H (by simp)
      · rw [if_neg c2] at H
        have c2b0 : decide (128 ≤ x0_1) = false := decide_eq_false c2
        clear c2
        by_cases c5 : x3_1.length < 140737488355328
        · rw [if_pos c5] at H
          have LMc5 := Aside0.mk c5
          clear c5
          obtain ⟨y104, hy104⟩ : ∃ y_ : List Int, y_ = (x3_1 ++ [(x0_1) % 256]) := ⟨_, rfl⟩
          replace H : (some y104) = some r := by first | (rw [hy104]; with_reducible exact H) | (have H2_ := (Option.bind_some _ _).symm.trans H; rw [hy104]; with_reducible exact H2_) | (have H2_ := (Option.bind_some _ _).symm.trans H; with_reducible exact H2_) | with_reducible exact H | (rw [hy104]; exact H) | exact H
          have Ny104 := Aside0.mk hy104
          clear hy104
          obtain rfl := Option.some.inj H
          go_wp2_with (first | ((with_reducible refine gate_builtin (b := .append) (xs := #[.tmp 14, .tmp 17]) rfl ?_); at_builtin; refine Kd.R_append (Kd.int .u8) (w0 := w) w.heap.size rfl (.tmp 14) (.tmp 17) 26 5 (.int .u8 0) 1 rfl Tryd.underlying26 info5 rfl (by decide) (by omega) u3 x3_1 ((x0_1) % 256) [.int .u8 ((x0_1) % 256)] (fun _ => True) (fun _ => False) rfl rfl ?aP (fun _ hk => hk.elim) ?aF ?aO ?aB ?aS ?aL ?_; (case aP => exact rfl); (case aB => exact (by repeat (first | (with_reducible first | exact HB.out | apply below_alloc | apply pw_below_drewN | apply below_drew1) | exact HB.out))); (case aF => exact (fun _ _ => trivial)); (case aO => exact (by (with_reducible repeat (first | apply Kd.R_alloc | apply Kd.R_drewN | apply Kd.R_drew)); exact HO_3.out)); (case aS => exact (below_size (by repeat (first | (with_reducible first | exact HB.out | apply below_alloc | apply pw_below_drewN | apply below_drew1) | exact HB.out)))); (case aL => have := LMc5.out; omega); intro v105 w6 ho hb hg hat; rw [← Ny104.out] at ho; have n0_ := Aside0.mk (hb); have n1_ := Aside0.mk (ho); clear HB; clear HO_3; have HB := n0_; have HO106 := n1_; clear n0_ n1_; clear ho hb hg hat))
          go_ret
          exact ⟨_, by first | rfl | (simp [errW_none, errW_some] <;> rfl) | (simp [*, errW_none, errW_some] <;> rfl), by (with_reducible repeat (first | apply Kd.R_alloc | apply Kd.R_drewN | apply Kd.R_drew)); exact HO106.out, by repeat (first | (with_reducible first | exact HB.out | apply below_alloc | apply pw_below_drewN | apply below_drew1) | exact HB.out)⟩
        · rw [if_neg c5] at H
          exact absurd H (by simp)

/-! ### flow_numbers: function 25 -/
def flow_numbers.l0 : Nat → List Int → List Int → Int → Int → Option (List Int)
  | 0, _, _, _, _ => none
  | k + 1, x3, x6, x7, x8 => if x8 < x7 then (if 0 ≤ x8 then (if x8 < (x6.length : Int) then ((vari_Put.f k (rd x6 x8)).bind fun t108 => (if x3.length + t108.length < 140737488355328 then (flow_numbers.l0 k (x3 ++ t108) x6 x7 (wrap64 (x8 + 1))) else (none))) else (none)) else (none)) else (some x3)
def flow_numbers.f (k : Nat) (l0 : List Int) : Option (List Int) := flow_numbers.l0 k ([] : List Int) l0 (l0.length : Int) 0
set_option maxHeartbeats 8000000 in
set_option maxRecDepth 100000 in
theorem flow_numbers.calls (k : Nat) (A0 : Option Addr) (c0 : Nat) (l0 : List Int) (r : List Int) (w : World) (hr0 : Kd.C (Kd.int .u64) w A0 l0.length l0) (hc0 : l0.length ≤ c0) (h : flow_numbers.f k l0 = some r) :
    Calls Tryd.prog 25 #[.slice A0 l0.length c0] w fun e w' => ∃ v0_ : Value, e = .returned (v0_) ∧ Kd.R (Kd.int .u8) 5 w' w.heap.size (fun _ => True) v0_ r ∧ Below w.heap.size w w' := by
  have HR0 := Aside0.mk hr0
  have HC0 := Aside0.mk hc0
  clear hr0 hc0
  have HB := Aside0.mk (Below.refl w.heap.size w)
  have H : (flow_numbers.l0 k ([] : List Int) l0 (l0.length : Int) 0) = some r := h
  clear h
  have H' := Aside0.mk H
  clear H
  go_enter Tryd.func25, Tryd.ntmps25
  go_wp2
  go_loopg [3, 8] k (fun kq v3 v8 w' => ∃ (x3_1 : List Int) (x8_1 : Int), v8 = .int .i64 x8_1 ∧ Aside0 (flow_numbers.l0 kq x3_1 l0 (l0.length : Int) x8_1 = some r) ∧ Aside0 (kq ≤ k) ∧ Aside0 (Kd.R (Kd.int .u8) 5 w' w.heap.size (fun _ => True) v3 x3_1) ∧ Aside0 (Below w.heap.size w w'))
  case atStart => exact ⟨(([] : List Int)), (0), (by first | rfl | (simp; done) | (simp [*]; done)), H', ⟨Nat.le_refl _⟩, ⟨by first | exact Kd.R_nil _ _ _ _ _ | exact Kd.N_nil _ _ _ _ _ | exact Kd.V_nil _ _ _ _ _ | exact Kd.Q_nil _ _ _ _ _ | exact Kd.S_nil _ _ _ _ _⟩, ⟨by repeat (first | (with_reducible first | exact HB.out | apply below_alloc | apply pw_below_drewN | apply below_drew1) | exact HB.out)⟩⟩
  case round =>
    clear H'
    obtain ⟨x3_1, x8_1, rfl, HA, HK1, HO_3, HB⟩ := hrel
    cases gk with
    | zero => exact absurd HA.out (by simp [flow_numbers.l0])
    | succ k1 =>
      have H := HA.out
      clear HA
      simp only [flow_numbers.l0] at H
      by_cases c2 : x8_1 < (l0.length : Int)
      · rw [if_pos c2] at H
        have c2b0 : decide (x8_1 < (l0.length : Int)) = true := decide_eq_true c2
        clear c2
        by_cases c3 : 0 ≤ x8_1
        · rw [if_pos c3] at H
          have c3b0 : decide (0 ≤ x8_1) = true := decide_eq_true c3
          clear c3
          by_cases c4 : x8_1 < (l0.length : Int)
          · rw [if_pos c4] at H
            have c4b0 : decide (x8_1 < (l0.length : Int)) = true := decide_eq_true c4
            clear c4
            replace H := Option.bind_eq_some_iff.mp H
            obtain ⟨t108, A50, H⟩ := H
            replace H : (if x3_1.length + t108.length < 140737488355328 then (flow_numbers.l0 k1 (x3_1 ++ t108) l0 (l0.length : Int) (wrap64 (x8_1 + 1))) else (none)) = some r := H
            have A5 := Aside0.mk A50
            clear A50
            by_cases c6 : x3_1.length + t108.length < 140737488355328
            · rw [if_pos c6] at H
              have LMc6 := Aside0.mk c6
              clear c6
              obtain ⟨y111, hy111⟩ : ∃ y_ : List Int, y_ = (x3_1 ++ t108) := ⟨_, rfl⟩
              replace H : (flow_numbers.l0 k1 y111 l0 (l0.length : Int) (wrap64 (x8_1 + 1))) = some r := by first | (rw [hy111]; with_reducible exact H) | (have H2_ := (Option.bind_some _ _).symm.trans H; rw [hy111]; with_reducible exact H2_) | (have H2_ := (Option.bind_some _ _).symm.trans H; with_reducible exact H2_) | with_reducible exact H | (rw [hy111]; exact H) | exact H
              have Ny111 := Aside0.mk hy111
              clear hy111
              have H' := Aside0.mk H
              clear H
              have p107 : 0 ≤ (x8_1 : Int) := of_decide_eq_true (by first | (with_reducible assumption) | assumption)
              have q107 : x8_1 < (l0.length : Int) := of_decide_eq_true (by first | (with_reducible assumption) | assumption)
              obtain ⟨ad107, e107, hx107_0⟩ := Kd.at_int HR0.out x8_1 p107 q107
              cases e107
              replace hx107_0 := (HB.out.cell (World.block_lt_of_cell? w _ hx107_0)).trans hx107_0
              replace p107 := eq_true p107
              replace q107 := eq_true q107
              go_wp2_with (first | ((with_reducible refine gate_callee (f := 38) rfl ?_); refine goesL_ (some 14) rfl rfl Tryd.func38 (by kernel_rfl) rfl #[.int .u64 (rd l0 x8_1)] rfl (by (try simp only [List.map_toArray, List.map_cons, List.map_nil]); first | done | rfl | (simp only [List.length_drop, List.length_take]; rfl)) ?_; (with_reducible refine (vari_Put.calls k1 (rd l0 x8_1) t108 _ A5.out).mono ?_); rintro e w7 ⟨v109, rfl, ho0, hb⟩; refine ⟨_, rfl, ?_⟩; have n0_ := Aside0.mk (Kd.R_elder' (by (with_reducible repeat (first | apply Kd.R_alloc | apply Kd.R_drewN | apply Kd.R_drew)); exact HO_3.out) (Kd.R_base ho0) hb); have n1_ := Aside0.mk (Kd.R_lower (Kd.R_new' ho0 (Kd.R_lt (by (with_reducible repeat (first | apply Kd.R_alloc | apply Kd.R_drewN | apply Kd.R_drew)); exact HO_3.out))) (below_size (by repeat (first | (with_reducible first | exact HB.out | apply below_alloc | apply pw_below_drewN | apply below_drew1) | exact HB.out)))); have n2_ := Aside0.mk (below_step (by repeat (first | (with_reducible first | exact HB.out | apply below_alloc | apply pw_below_drewN | apply below_drew1) | exact HB.out)) hb); clear HO_3; clear HB; have HO_3 := n0_; have HO110 := n1_; have HB := n2_; clear n0_ n1_ n2_; (try clear hb); (try clear hb2); (try clear hk); (try clear hi); (try clear ho0); obtain ⟨Ao9, co9, eo9⟩ := Kd.R_slice HO110.out; subst eo9) | ((with_reducible refine gate_builtin (b := .append) (xs := #[.tmp 12, .tmp 14]) rfl ?_); at_builtin; refine Kd.R_append_rows (Kd.int .u8) (w0 := w) w.heap.size rfl (.tmp 12) (.tmp 14) 26 5 (.int .u8 0) 1 rfl Tryd.underlying26 info5 rfl (by decide) (by omega) u3 x3_1 t108 _ _ _ (fun k_ => some k_ ≠ (.slice Ao9 t108.length co9 : Value).ownBlock) (fun _ => False) rfl rfl ?aO ?aR (fun _ _ h => h) (fun _ h => h.elim) ?aF ?aB ?aS ?aL ?_; (case aR => repeat (first | exact (Kd.R_reads' HO110.out).2.2 | (with_reducible refine Kd.C_alloc ?_ _) | (with_reducible refine Kd.C_drewN ?_ _) | (with_reducible refine Kd.C_drew ?_))); (case aB => exact (by repeat (first | (with_reducible first | exact HB.out | apply below_alloc | apply pw_below_drewN | apply below_drew1) | exact HB.out))); (case aF => exact (fun k_ hk => Kd.fresh' (Kd.R_lt (by (with_reducible repeat (first | apply Kd.R_alloc | apply Kd.R_drewN | apply Kd.R_drew)); exact HO110.out)) k_ hk)); (case aO => exact (by (with_reducible repeat (first | apply Kd.R_alloc | apply Kd.R_drewN | apply Kd.R_drew)); exact Kd.R_mono HO_3.out (fun _ hk => hk.2))); (case aS => exact (below_size (by repeat (first | (with_reducible first | exact HB.out | apply below_alloc | apply pw_below_drewN | apply below_drew1) | exact HB.out)))); (case aL => have := LMc6.out; omega); intro v112 w8 ho hb hg hat; rw [← Ny111.out] at ho; have n0_ := Aside0.mk (Kd.R_after (ok := (fun _ => True)) (by (with_reducible repeat (first | apply Kd.R_alloc | apply Kd.R_drewN | apply Kd.R_drew)); exact HO110.out) hg hat); have n1_ := Aside0.mk (hb); have n2_ := Aside0.mk (ho); clear HO110; clear HB; clear HO_3; have HO110 := n0_; have HB := n1_; have HO113 := n2_; clear n0_ n1_ n2_; clear ho hb hg hat))
              go_roundg k1
              case measure => have := HK1.out; omega
              case rel => exact ⟨(y111), (wrap64 (x8_1 + 1)), (by first | rfl | (simp; done) | (simp [*]; done)), H', ⟨by have := HK1.out; omega⟩, ⟨by (with_reducible repeat (first | apply Kd.R_alloc | apply Kd.R_drewN | apply Kd.R_drew)); exact Kd.R_mono HO113.out (fun _ hk => trivial)⟩, ⟨by repeat (first | (with_reducible first | exact HB.out | apply below_alloc | apply pw_below_drewN | apply below_drew1) | exact HB.out)⟩⟩
            · rw [if_neg c6] at H
              exact absurd H (by simp)
          · rw [if_neg c4] at H
            exact absurd H (by simp)
        · rw [if_neg c3] at H
          exact absurd H (by simp)
      · rw [if_neg c2] at H
        have c2b0 : decide (x8_1 < (l0.length : Int)) = false := decide_eq_false c2
        clear c2
        obtain rfl := Option.some.inj H
        go_wp2
        go_ret
        exact ⟨_, by first | rfl | (simp [errW_none, errW_some] <;> rfl) | (simp [*, errW_none, errW_some] <;> rfl), by (with_reducible repeat (first | apply Kd.R_alloc | apply Kd.R_drewN | apply Kd.R_drew)); exact HO_3.out, by repeat (first | (with_reducible first | exact HB.out | apply below_alloc | apply pw_below_drewN | apply below_drew1) | exact HB.out)⟩

/-! ### slices_Grow_byte_byte: function 55 -/
theorem grow_info : (Tryd.prog.info? 5).map (fun i => (i.zero, i.size, i.bytes)) = some (some (.int .u8 0), 1, 1) := by kernel_rfl
set_option maxHeartbeats 4000000 in
/-- slices.Grow of nil: a new row, bare, with room. -/
theorem grow_nil (n : Nat) (w : World) (hn : 0 < n) (hbig : n ≤ 140737488355328) :
    Calls Tryd.prog 55 #[.slice none 0 0, .int .i64 n] w fun e w' => ∃ v, e = .returned v ∧ Kd.R (Kd.int .u8) 5 w' w.heap.size (fun _ => True) v [] ∧ Below w.heap.size w w' := by
  obtain ⟨i0, hi0, hz0, hs0, hb0⟩ := info_parts grow_info
  have h1 : ¬ ((n : Int) < 0) := by omega
  have h2 : wrap64 ((0 : Int) - (0 : Int)) = 0 := by unfold wrap64; omega
  have h3 : wrap64 ((n : Int) - 0) = (n : Int) := by unfold wrap64; omega
  have h3' : wrap64 (n : Int) = (n : Int) := by unfold wrap64; omega
  have h4 : (n : Int) > 0 := by omega
  have h4' : 0 < n := by omega
  have hold : (Builtin.firstCells i0.size 0 (.slice none 0 0)).run Tryd.prog w.drew = .ok (([] : List Value).toArray) w.drew := run_firstCells_none w.drew i0.size 0 0 0
  have hrz : ∀ ty, (Builtin.append_ #[26, 3] ty #[.slice none 0 0, .int .i64 (n : Int)]).run Tryd.prog w =
      .ok (.slice (some ⟨w.heap.size, 0, none⟩) n (grownCap w n 0 5)) (w.drew.alloc (.cells (([] : List Value).toArray ++ Builtin.zeroCells (Value.int .u8 0).cells n ++ Builtin.zeroCells (Value.int .u8 0).cells (grownCap w n 0 5 - n)) 5)) := fun ty => by
    have h := Lib.run_append_grow_zeros (P := Tryd.prog) w 26 3 ty 5 i0 (.int .u8 0) .i64 .i64 Tryd.underlying26 Tryd.underlying3 hi0 hz0 none 0 0 [] hold n hn (by omega) (by omega) (by omega) (by rw [hb0]; omega)
      (by have := growslice_fits (need := n) (old := 0) (bytes := i0.bytes) (by omega) (by rw [hb0]; omega); simpa using this)
    simpa using h
  have hGn : n ≤ grownCap w n 0 5 := grownCap_ge w _ _ _
  obtain ⟨G, hG⟩ : ∃ G, G = grownCap w n 0 5 := ⟨_, rfl⟩
  rw [← hG] at hrz hGn
  have hG63 : G ≤ 9223372036854775807 := by
    have := grownCap_le_maxLen w n 0 5 (by unfold maxLen; omega)
    rw [← hG] at this
    unfold maxLen at this
    omega
  clear hold hG
  go_enter Tryd.func55, Tryd.ntmps55
  go_wp2_with (at_builtin; refine Lib.wpList_append_run _ rfl _ _ _ _ rfl _ _ rfl rfl _ _ (hrz _) ?_)
  all_goals
    go_ret
    refine ⟨_, rfl, ?_, ?_⟩
    · exact Kd.R_of_own (enc := Value.int .u8) ⟨by simp [encs], .inr ⟨w.heap.size, G, _, rfl, Nat.le_refl _, heap_alloc_new _ _, Nat.zero_le _, by unfold maxLen; omega, by simp [Builtin.zeroCells]; omega, by simp [encs]⟩⟩ (fun _ _ => trivial)
    · exact below_drew1 ((Below.refl _ w).alloc (Nat.le_refl _) _)
set_option maxHeartbeats 4000000 in
theorem grow_zero (w : World) : Calls Tryd.prog 55 #[.slice none 0 0, .int .i64 0] w fun e w' => e = .returned (.slice none 0 0) ∧ Below w.heap.size w w' := by
  have h2 : wrap64 ((0 : Int) - (0 : Int)) = 0 := by unfold wrap64; omega
  go_enter Tryd.func55, Tryd.ntmps55
  go_wp2
  go_ret
  exact ⟨rfl, Below.refl _ _⟩
theorem grow_any (n : Nat) (w : World) (hbig : n ≤ 140737488355328) :
    Calls Tryd.prog 55 #[.slice none 0 0, .int .i64 n] w fun e w' => ∃ v, e = .returned v ∧ Kd.R (Kd.int .u8) 5 w' w.heap.size (fun _ => True) v [] ∧ Below w.heap.size w w' := by
  rcases Nat.eq_zero_or_pos n with rfl | hn
  · refine (grow_zero w).mono ?_
    rintro e w' ⟨rfl, hb⟩
    exact ⟨_, rfl, Kd.R_nil _ _ _ _ _, hb⟩
  · exact grow_nil n w hn hbig

/-! ### slices_Concat_byte_byte: function 39 -/
def slices_Concat_byte_byte.f (l0 : List (List Int)) : Option (List Int) := if l0.flatten.length < 140737488355328 ∧ l0.length < 140737488355328 then some l0.flatten else none
def catL (l : List (List Int)) (k : Nat) : List Int := (l.take k).flatten
def catN (l : List (List Int)) (k : Nat) : Nat := (catL l k).length
theorem catL_zero (l : List (List Int)) : catL l 0 = [] := rfl
theorem catN_zero (l : List (List Int)) : catN l 0 = 0 := rfl
theorem catL_all (l : List (List Int)) : catL l l.length = l.flatten := by simp [catL]
theorem catN_le (l : List (List Int)) (i : Nat) : catN l i ≤ l.flatten.length := by
  unfold catN catL
  conv => rhs; rw [← List.take_append_drop i l, List.flatten_append, List.length_append]
  omega
theorem concat_at {w : World} {A : Option Addr} {n : Nat} {xs : List (List Int)} (h : Kd.C (Kd.slice 5 (Kd.int .u8)) w A n xs) (hn : n = xs.length) (i : Nat) (h1 : i < n) : ∃ ad A0 c0, ∃ row : List Int, A = some ad ∧ w.cell? (ad.add i) = some (.slice A0 row.length c0) ∧ row.length ≤ c0 ∧ (Kd.int .u8).C w A0 row.length row ∧ catL xs (i + 1) = catL xs i ++ row ∧ catN xs (i + 1) = catN xs i + row.length := by
  obtain ⟨ad, c, e, _, hK, hc0⟩ := Kd.C_get h ([] : List Int) (i : Int) (by omega) (by omega)
  have hc : ∀ j u, c[j]? = some u → w.cell? (ad.add ((i : Int).toNat * 1 + j)) = some u := hc0
  obtain ⟨A0, c0, rfl, l0, g0⟩ := hK
  have hrow : catL xs (i + 1) = catL xs i ++ xs.getD i [] := by
    unfold catL
    rw [List.take_succ_eq_append_getElem (by omega : i < xs.length), List.flatten_append, List.getD_eq_getElem?_getD, List.getElem?_eq_getElem (by omega : i < xs.length)]
    simp
  exact ⟨ad, A0, c0, _, e, by have hq := hc 0 _ rfl; rwa [Nat.mul_one, Nat.add_zero] at hq, l0, g0, hrow, by unfold catN; rw [hrow, List.length_append]; rfl⟩
set_option maxHeartbeats 4000000 in
theorem slices_Concat_byte_byte.calls (A0 : Option Addr) (c0 : Nat) (l0 : List (List Int)) (r : List Int) (w : World) (hr0 : Kd.C (Kd.slice 5 (Kd.int .u8)) w A0 l0.length l0) (hc0 : l0.length ≤ c0) (h : slices_Concat_byte_byte.f l0 = some r) :
    Calls Tryd.prog 39 #[.slice A0 l0.length c0] w fun e w' => ∃ v0_ : Value, e = .returned (v0_) ∧ Kd.R (Kd.int .u8) 5 w' w.heap.size (fun _ => True) v0_ r ∧ Below w.heap.size w w' := by
  unfold slices_Concat_byte_byte.f at h
  by_cases hl : l0.flatten.length < 140737488355328 ∧ l0.length < 140737488355328
  · rw [if_pos hl] at h
    obtain rfl := Option.some.inj h
    have HL := Aside0.mk hl.1
    have HL2 := Aside0.mk hl.2
    obtain ⟨n, hn⟩ : ∃ n, n = l0.length := ⟨_, rfl⟩
    rw [← hn] at hr0 ⊢
    have HR := Aside0.mk hr0
    have HN := Aside0.mk hn
    clear h hl hr0 hc0 hn
    go_enter Tryd.func39, Tryd.ntmps39
    go_wp2
    go_loop [3, 11] (fun a i => ∃ k : Nat, k ≤ n ∧ a = .int .i64 (catN l0 k : Int) ∧ i = .int .i64 (k : Int)) (fun _ i => match i with | .int _ m => ((n : Int) - m).toNat | _ => 0)
    case atStart => exact ⟨0, by omega, by rw [catN_zero]; rfl, rfl⟩
    case round =>
      obtain ⟨k, hk, rfl, rfl⟩ := hrel
      by_cases hlt : k < n
      · have hb : decide ((k : Int) < (n : Int)) = true := decide_eq_true (by omega)
        have hb2 : decide (k < n) = true := decide_eq_true (by omega)
        have hat_ := concat_at HR.out HN.out k hlt
        obtain ⟨ad, A1, c1, row, rfl, hcell, hlc, hC, hcl, hcn⟩ := hat_
        have hle := catN_le l0 (k + 1)
        have hw : wrap64 ((catN l0 k : Int) + (row.length : Int)) = (catN l0 (k + 1) : Int) := by
          have := HL.out
          unfold wrap64
          omega
        have hneg : decide ((catN l0 (k + 1) : Int) < 0) = false := decide_eq_false (by omega)
        have hk1 : wrap64 ((k : Int) + 1) = (k : Int) + 1 := by have := HL2.out; have := HN.out; unfold wrap64; omega
        have HLT := Aside0.mk hlt
        clear hC hlc hcl hcn hle hk
        go_wp2
        go_round
        case rel => exact ⟨k + 1, HLT.out, by rw [hw], by rw [hk1]; rfl⟩
        case measure => simp; have := HLT.out; omega
      · have hb : decide ((k : Int) < (n : Int)) = false := decide_eq_false (by omega)
        have hb2 : decide (k < n) = false := decide_eq_false (by omega)
        obtain rfl : k = n := by omega
        clear hlt hk
        have hkn : catN l0 k ≤ 140737488355328 := by have := HL.out; have := catN_le l0 k; omega
        have HKN := Aside0.mk hkn
        clear hkn
        go_wp2_with (go_at_call 55; refine (grow_any (catN l0 k) w HKN.out).mono ?_; rintro e w1 ⟨v, rfl, ho, hbw⟩)
        clear hb hb2
        go_loopw [6, 27] (fun a i wr => Aside0 (Below w.heap.size w wr) ∧ ∃ j : Nat, j ≤ k ∧ i = .int .i64 (j : Int) ∧ Aside0 (Kd.R (Kd.int .u8) 5 wr w.heap.size (fun _ => True) a (catL l0 j))) (fun _ i _ => match i with | .int _ m => ((k : Int) - m).toNat | _ => 0)
        case atStart => exact ⟨⟨hbw⟩, 0, by omega, rfl, ⟨by rw [catL_zero]; exact ho⟩⟩
        case round =>
          clear hbw ho
          obtain ⟨HB, j, hj, rfl, HO⟩ := hrel
          by_cases hlt : j < k
          · have hb : decide ((j : Int) < (k : Int)) = true := decide_eq_true (by omega)
            have hb2 : decide (j < k) = true := decide_eq_true (by omega)
            have hat_ := concat_at (Kd.C_below HR.out HB.out) HN.out j hlt
            obtain ⟨ad, A1, c1, row, rfl, hcell0, hlc, hC, hcl, hcn⟩ := hat_
            have HC := Aside0.mk hC
            have hle : (catL l0 j).length + row.length < 140737488355328 := by
              have h1 := catN_le l0 (j + 1)
              have := HL.out
              have h2 : catN l0 j = (catL l0 j).length := rfl
              omega
            have HLE := Aside0.mk hle
            have HCL := Aside0.mk hcl
            have hk1 : wrap64 ((j : Int) + 1) = (j : Int) + 1 := by have := HL2.out; have := HN.out; unfold wrap64; omega
            have HLT := Aside0.mk hlt
            clear hC hlc hcl hcn hle hj
            go_wp2_with (first | ((with_reducible refine gate_builtin (b := .append) (xs := #[.tmp 31, .tmp 32]) rfl ?_); at_builtin; refine Kd.R_append_rows (Kd.int .u8) (w0 := w) w.heap.size rfl (.tmp 31) (.tmp 32) 26 5 (.int .u8 0) 1 rfl Tryd.underlying26 grow_info rfl (by decide) (by omega) _ (catL l0 j) row _ _ _ (fun _ => True) (fun _ => False) rfl rfl HO.out HC.out (fun _ _ h => h) (fun _ h => h.elim) (fun _ _ => trivial) HB.out (below_size HB.out) (by have := HLE.out; omega) ?_; intro v1 w2 ho2 hb2 hg2 hat2))
            go_roundw
            case rel => exact ⟨⟨hb2⟩, j + 1, HLT.out, by rw [hk1]; rfl, ⟨by rw [HCL.out]; exact ho2⟩⟩
            case measure => simp; have := HLT.out; omega
          · have hb : decide ((j : Int) < (k : Int)) = false := decide_eq_false (by omega)
            have hb2 : decide (j < k) = false := decide_eq_false (by omega)
            obtain rfl : j = k := by omega
            clear hlt hj
            go_wp2
            go_ret
            exact ⟨_, rfl, by have := HO.out; rw [HN.out, catL_all] at this; exact this, HB.out⟩
  · rw [if_neg hl] at h
    exact absurd h (by simp)

/-! ### crc_table: function 68 -/
set_option maxHeartbeats 400000
theorem hide {p : Prop} (h : p) : Hid p := h
def stp (n : Int) : Int := if Go.bits .and .u32 n 1 = 1 then Go.bits .xor .u32 (n / 2) 3988292384 else n / 2

theorem step_any (n : Int) (w : World) :
    Calls Tryd.prog 71 #[.int .u32 n] w fun e w' => e = .returned (.int .u32 (stp n)) ∧ w = w' := by
  unfold stp
  by_cases h : Go.bits .and .u32 n 1 = 1
  · have h1 : (Go.bits .and .u32 n 1 == 1) = true := beq_iff_eq.mpr h
    rw [if_pos h]
    clear h
    go_enter Tryd.func71, Tryd.ntmps71
    go_wp2
    go_ret
    exact ⟨rfl, rfl⟩
  · have h1 : (Go.bits .and .u32 n 1 == 1) = false := beq_eq_false_iff_ne.mpr h
    rw [if_neg h]
    clear h
    go_enter Tryd.func71, Tryd.ntmps71
    go_wp2
    go_ret
    exact ⟨rfl, rfl⟩
def Z256 : Array Value := Array.replicate 256 (.int .u32 0)
theorem zero35 (w : World) : (zeroValue 118).run Tryd.prog w = .ok (.agg Z256) w := by kernel_rfl

/-- The 256 cells of a function on numbers. -/
def Tab (g : Nat → Int) : Array Value := Array.ofFn (n := 256) fun j => .int .u32 (g j.val)
theorem Tab_get (g : Nat → Int) (i : Nat) (h : i < 256) : (Tab g)[i]? = some (.int .u32 (g i)) := by
  simp [Tab, h]
def upd (g : Nat → Int) (i : Nat) (x : Int) : Nat → Int := fun j => if j = i then x else g j
theorem Tab_set (g : Nat → Int) (i : Nat) (x : Int) : (Tab g).setIfInBounds i (.int .u32 x) = Tab (upd g i x) := by
  apply Array.ext
  · simp [Tab]
  · intro j h1 h2
    simp only [Tab, Array.size_setIfInBounds, Array.size_ofFn] at h1
    rw [Array.getElem_setIfInBounds]
    · by_cases e : i = j
      · subst e; simp [Tab, upd]
      · simp [Tab, upd, e]; omega
    · simpa [Tab] using h1
theorem Z_tab : Z256 = Tab (fun _ => 0) := by
  apply Array.ext
  · simp [Z256, Tab]
  · intro j h1 h2
    simp [Z256, Tab]

/-- block N holds the table of g -/
def HasTab (N : Nat) (g : Nat → Int) (w : World) : Prop := w.heap[N]? = some (.cells (Tab g) 118 (0, 0))
theorem HasTab.cell {N : Nat} {g : Nat → Int} {w : World} (h : HasTab N g w) (i : Nat) (hi : i < 256) : w.cell? ⟨N, i, none⟩ = some (.int .u32 (g i)) := by
  unfold HasTab at h
  simp [World.cell?, h, Tab_get g i hi]
theorem HasTab.frozen {N : Nat} {g : Nat → Int} {w : World} (h : HasTab N g w) (i : Nat) : w.frozen? ⟨N, i, none⟩ = false := by
  unfold HasTab at h
  simp [World.frozen?, h]
theorem HasTab.set {N : Nat} {g : Nat → Int} {w : World} (h : HasTab N g w) (i : Nat) (x : Int) : HasTab N (upd g i x) (w.setCell ⟨N, i, none⟩ (.int .u32 x)) := by
  unfold HasTab at *
  simp only [World.setCell, Array.getElem?_modify, if_true, h, Option.map_some, Option.isSome_none, Bool.false_eq_true, if_false, Tab_set]
theorem HasTab.start (w : World) : HasTab (w.heap.size + 1) (fun _ => 0) ((w.alloc (.cells Z256 118)).alloc (.cells Z256 118)) := by
  unfold HasTab
  rw [← Z_tab]
  have h : w.heap.size + 1 = (w.alloc (.cells Z256 118)).heap.size := by simp
  rw [h]
  simp only [World.alloc, Array.getElem?_push_size]


def itr : Nat → Int → Int
  | 0, x => x
  | m + 1, x => stp (itr m x)
def tb (j : Nat) : Int := itr 8 j
theorem Tab_congr {g h : Nat → Int} (e : ∀ j, j < 256 → g j = h j) : Tab g = Tab h := by
  apply Array.ext
  · simp [Tab]
  · intro j h1 h2
    have : j < 256 := by simpa [Tab] using h1
    simp [Tab, e j this]
theorem Tab_one {g : Nat → Int} : (Tab g).all (·.oneCell') = true := by
  rw [Array.all_eq_true]
  intro i h
  simp [Tab, Value.oneCell']
theorem crc_below_setRow {B g : Nat} {w0 w : World} (hb : Below B w0 w) (hBg : B ≤ g) (cs : Array Value) : Below B w0 (w.setRow g cs) :=
  hb.trans ⟨rfl, rfl, rfl, by simp, fun k hk => setRow_other w g k cs (by omega)⟩
theorem und35 : Tryd.prog.underlying 118 = some (.array 256 22) := by kernel_rfl
theorem sz35 : (Tryd.prog.info? 118).map (·.size) = some 256 := by kernel_rfl

set_option maxRecDepth 100000 in
theorem table_any (w : World) :
    Calls Tryd.prog 68 #[] w fun e w' => e = .returned (.agg (Tab tb)) ∧ Below w.heap.size w w' := by
  have hz := zero35
  go_enter Tryd.func68, Tryd.ntmps68
  go_wp2
  go_loopw [4] (fun v4 wr => ∃ (k : Nat) (g : Nat → Int), k ≤ 256 ∧ v4 = .int .i64 k ∧ Hid (∀ j, j < k → g j = tb j) ∧ HasTab (w.heap.size + 1) g wr ∧ wr.heap[w.heap.size]? = some (.cells Z256 118 (0, 0)) ∧ Below w.heap.size w wr) (fun v _ => 256 - (intOf v).toNat)
  case atStart => exact ⟨0, fun _ => 0, by omega, rfl, hide (fun j hj => absurd hj (by omega)), HasTab.start w, heap_alloc2_old w _ _, ((Below.refl _ _).alloc (Nat.le_refl _) _).alloc (by simp) _⟩
  case round =>
    obtain ⟨k, g, hk, rfl, HG, HT, HZ, HB⟩ := hrel
    have HZ' := hide HZ
    clear HZ
    by_cases hlt : k < 256
    · have hb : decide ((k : Int) < 256) = true := decide_eq_true (by omega)
      have hc := HT.cell k hlt
      have hf := HT.frozen k
      have HT' := hide HT
      clear HT
      go_wp2
      obtain ⟨wo, hwo⟩ : ∃ wo : World, wo = wr.setCell ⟨w.heap.size + 1, k, none⟩ (.int .u32 k) := ⟨_, rfl⟩
      rw [← hwo]
      have HT1 : HasTab (w.heap.size + 1) (upd g k k) wo := hwo ▸ HT'.out.set k k
      have HZ1 : wo.heap[w.heap.size]? = some (.cells Z256 118 (0, 0)) := by rw [hwo, heap_setCell_other _ _ _ _ (by simp)]; exact HZ'.out
      have HB1 : Below w.heap.size w wo := hwo ▸ HB.setCell (by simp) _
      clear hwo hc hf HT' HZ' HB
      go_loopw [11] (fun v11 wr' => ∃ (m : Nat) (g' : Nat → Int), m ≤ 8 ∧ v11 = .int .i64 m ∧ Hid (g' k = itr m k ∧ ∀ j, j ≠ k → g' j = g j) ∧ HasTab (w.heap.size + 1) g' wr' ∧ wr'.heap[w.heap.size]? = some (.cells Z256 118 (0, 0)) ∧ Below w.heap.size w wr') (fun v _ => 8 - (intOf v).toNat)
      case atStart => exact ⟨0, _, by omega, rfl, hide ⟨by simp [upd, itr], fun j hj => by simp [upd, hj]⟩, HT1, HZ1, HB1⟩
      case round =>
        obtain ⟨m, g', hm, rfl, HG', HT, HZ, HB⟩ := hrel
        have HZ' := hide HZ
        clear HZ
        by_cases hlt' : m < 8
        · have hc := HT.cell k hlt
          have hf := HT.frozen k
          have HT' := hide HT
          clear HT
          go_wp2_with (go_at_call 71; refine (step_any _ _).mono ?_; rintro e w' ⟨rfl, rfl⟩)
          go_roundw
          case rel => exact ⟨m + 1, upd g' k (stp (g' k)), by omega, by go_num, hide ⟨by simp [upd, itr, HG'.out.1], fun j hj => by simp [upd, hj]; exact HG'.out.2 j hj⟩, HT'.out.set k _, by rw [heap_setCell_other _ _ _ _ (by simp)]; exact HZ'.out, HB.setCell (by simp) _⟩
          case measure => simp [intOf]; omega
        · go_wp2
          go_roundw
          case rel => exact ⟨k + 1, g', by omega, by go_num, hide (fun j hj => by
            by_cases e : j = k
            · subst e; obtain rfl : m = 8 := by omega
              exact HG'.out.1
            · rw [HG'.out.2 j e]; exact HG.out j (by omega)), HT, HZ'.out, HB⟩
          case measure => simp [intOf]; omega
    · have HT' := hide HT
      clear HT
      go_wp2_with (first
        | (refine wpList_load_row rfl 118 (.tmp 2) rfl (w.heap.size + 1) rfl 118 (Tab g) (0, 0) _ HT'.out und35 rfl (by rw [sz35]; simp [Tab]) ?_)
        | (refine wpList_store_row rfl 118 (.tmp 0) (.tmp 22) rfl w.heap.size (Tab g) rfl rfl 118 Z256 HZ'.out (by rw [sz35]; simp [Tab]) (by simp [Tab, Z256]) Tab_one ?_))
      obtain rfl : k = 256 := by omega
      have E : Tab g = Tab tb := Tab_congr HG.out
      have HZ2 : (wr.setRow w.heap.size (Tab g)).heap[w.heap.size]? = some (.cells (Tab tb) 118 (0, 0)) := by rw [setRow_heap _ _ _ _ _ _ HZ'.out, E]
      refine bodyPost_ret (results_cell_row Tryd.results68 _ _ w.heap.size 118 (Tab tb) (0, 0) _ rfl HZ2 und35 rfl (by rw [sz35]; simp [Tab])) rfl ⟨rfl, crc_below_setRow HB (Nat.le_refl _) _⟩


/-! ### crc_With: function 65 -/
def crcStep (n c : Int) : Int := Go.bits .xor .u32 (n / 256) (tb (Go.bits .xor .u8 (n % 256) c).toNat)
def crcFold (n : Int) (l : List Int) : Int := l.foldl crcStep n
def crc_With.f (a0 : Int) (l1 : List Int) : Option Int := some (Go.bits .xor .u32 (crcFold (Go.bits .xor .u32 a0 4294967295) l1) 4294967295)
theorem xor8_range (a b : Int) : 0 ≤ Go.bits .xor .u8 a b ∧ Go.bits .xor .u8 a b < 256 := by
  simp only [Go.bits, IntKind.wrap_u8]; omega
theorem xor32_range (a b : Int) : 0 ≤ Go.bits .xor .u32 a b ∧ Go.bits .xor .u32 a b < 4294967296 := by
  simp only [Go.bits, IntKind.wrap_u32]; omega
theorem take_snoc (l : List Int) (k : Nat) (h : k < l.length) : l.take (k + 1) = l.take k ++ [rd l (k : Int)] := by
  rw [List.take_succ_eq_append_getElem h]; simp [rd, List.getD_eq_getElem?_getD, List.getElem?_eq_getElem h]
theorem crcFold_snoc (n : Int) (l : List Int) (k : Nat) (h : k < l.length) : crcFold n (l.take (k + 1)) = crcStep (crcFold n (l.take k)) (rd l (k : Int)) := by
  rw [take_snoc l k h]; simp [crcFold]
set_option maxHeartbeats 8000000 in
set_option maxRecDepth 100000 in
theorem crc_With.calls (a0 : Int) (A1 : Option Addr) (c1 : Nat) (l1 : List Int) (r : Int) (w : World) (hr1 : Kd.C (Kd.int .u8) w A1 l1.length l1) (hc1 : l1.length ≤ c1) (h : crc_With.f a0 l1 = some r) :
    Calls Tryd.prog 65 #[.int .u32 a0, .slice A1 l1.length c1] w fun e w' => e = .returned (.int .u32 r) ∧ Below w.heap.size w w' := by
  have HR1 := Aside0.mk hr1
  clear hr1 hc1
  obtain rfl := Option.some.inj h
  clear h
  have hz := zero35
  go_enter Tryd.func65, Tryd.ntmps65
  go_wp2_with (first
    | (go_at_call 68; refine (table_any _).mono ?_; rintro e w1 ⟨rfl, HB⟩)
    | (refine wpList_store_row rfl 118 (.tmp 5) (.tmp 9) rfl w1.heap.size (Tab tb) rfl rfl 118 Z256 (heap_alloc_new _ _) (by rw [sz35]; simp [Tab]) (by simp [Tab, Z256]) Tab_one ?_))
  obtain ⟨w2, hw2⟩ : ∃ w2 : World, w2 = (w1.alloc (Obj.cells Z256 118)).setRow w1.heap.size (Tab tb) := ⟨_, rfl⟩
  rw [← hw2]
  have HT : HasTab w1.heap.size tb w2 := by rw [hw2]; exact setRow_heap _ _ _ _ _ _ (heap_alloc_new _ _)
  have HB2 : Below w.heap.size w w2 := by rw [hw2]; exact crc_below_setRow (HB.alloc HB.size _) HB.size _
  have HR2 := Aside0.mk (Kd.C_below HR1.out HB2)
  clear hw2 HR1 HB
  have HT' := hide HT
  clear HT
  go_loop [6, 14] (fun v6 v14 => ∃ (k : Nat) (n : Int), k ≤ l1.length ∧ v6 = .int .u32 n ∧ v14 = .int .i64 k ∧ 0 ≤ n ∧ n < 4294967296 ∧ Hid (n = crcFold (Go.bits .xor .u32 a0 4294967295) (l1.take k))) (fun _ v => l1.length - (intOf v).toNat)
  case atStart => exact ⟨0, _, by omega, rfl, rfl, (xor32_range _ _).1, (xor32_range _ _).2, hide (by simp [crcFold])⟩
  case round =>
    obtain ⟨k, n, hk, rfl, rfl, hn0, hn1, HN⟩ := hrel
    have hm : l1.length ≤ 9223372036854775807 := HR2.out.2.1
    by_cases hlt : k < l1.length
    · obtain ⟨ad, e1, hx⟩ := Kd.at_int HR2.out (k : Int) (by omega) (by omega)
      cases e1
      simp only [Int.toNat_natCast] at hx
      have hi0 := (xor8_range (n % 256) (rd l1 k)).1
      have hi1 := (xor8_range (n % 256) (rd l1 k)).2
      have hc := HT'.out.cell (Go.bits .xor .u8 (n % 256) (rd l1 k)).toNat (by omega)
      go_wp2
      go_round
      case rel => exact ⟨k + 1, _, by omega, rfl, by go_num, (xor32_range _ _).1, (xor32_range _ _).2, hide (by rw [crcFold_snoc _ _ _ hlt, ← HN.out]; rfl)⟩
      case measure => simp [intOf]; omega
    · go_wp2
      go_ret
      obtain rfl : k = l1.length := by omega
      have e := HN.out
      rw [List.take_length] at e
      exact ⟨by rw [← e]; rfl, HB2⟩

/-! ### crc_Sum: function 56 -/
def crc_Sum.f (l0 : List Int) : Option (Int) := (crc_With.f 0 l0).bind fun t114 => (some t114)
set_option maxHeartbeats 8000000 in
set_option maxRecDepth 100000 in
theorem crc_Sum.calls (A0 : Option Addr) (c0 : Nat) (l0 : List Int) (r : Int) (w : World) (hr0 : Kd.C (Kd.int .u8) w A0 l0.length l0) (hc0 : l0.length ≤ c0) (h : crc_Sum.f l0 = some r) :
    Calls Tryd.prog 56 #[.slice A0 l0.length c0] w fun e w' => e = .returned (.int .u32 r) ∧ Below w.heap.size w w' := by
  have HR0 := Aside0.mk hr0
  have HC0 := Aside0.mk hc0
  clear hr0 hc0
  have HB := Aside0.mk (Below.refl w.heap.size w)
  have H : ((crc_With.f 0 l0).bind fun t114 => (some t114)) = some r := h
  clear h
  replace H := Option.bind_eq_some_iff.mp H
  obtain ⟨t114, A20, H⟩ := H
  replace H : (some t114) = some r := H
  have A2 := Aside0.mk A20
  clear A20
  obtain rfl := Option.some.inj H
  go_enter Tryd.func56, Tryd.ntmps56
  go_wp2_with (first | ((with_reducible refine gate_callee (f := 65) rfl ?_); refine goesL_ (some 4) rfl rfl Tryd.func65 (by kernel_rfl) rfl #[.int .u32 0, .slice A0 l0.length c0] rfl (by (try simp only [List.map_toArray, List.map_cons, List.map_nil]); first | done | rfl | (simp only [List.length_drop, List.length_take]; rfl)) ?_; (with_reducible refine (crc_With.calls 0 _ _ l0 t114 _ ?side1 ?side2 A2.out).mono ?_); (case side1 => repeat (first | exact HR0.out | (with_reducible refine Kd.C_alloc ?_ _) | (with_reducible refine Kd.C_drewN ?_ _) | (with_reducible refine Kd.C_drew ?_))); (case side2 => exact HC0.out); rintro e w3 ⟨rfl, hb⟩; refine ⟨_, rfl, ?_⟩; have n0_ := Aside0.mk (below_step (by repeat (first | (with_reducible first | exact HB.out | apply below_alloc | apply pw_below_drewN | apply below_drew1) | exact HB.out)) hb); clear HB; have HB := n0_; clear n0_; (try clear hb); (try clear hb2); (try clear hk); (try clear hi)))
  go_ret
  exact ⟨by first | rfl | (simp [errW_none, errW_some] <;> rfl) | (simp [*, errW_none, errW_some] <;> rfl), by repeat (first | (with_reducible first | exact HB.out | apply below_alloc | apply pw_below_drewN | apply below_drew1) | exact HB.out)⟩

/-! ### crc_Seal: function 40 -/
def sealOf (n : Int) : List Int := [n % 256, n / 256 % 256, n / 65536 % 256, n / 16777216 % 256]
def crc_Seal.f (l0 : List Int) : Option (List Int) := (crc_Sum.f l0).bind fun n => if l0.length + 4 < 140737488355328 then some (l0 ++ sealOf n) else none
theorem seal_info : (Tryd.prog.info? 5).map (fun i => (i.zero, i.size, i.bytes)) = some (some (.int .u8 0), 1, 1) := by kernel_rfl
theorem seal_make (m : Nat) (hm : m + 4 < 140737488355328) :
    ∀ W : World, (Instr.makeSlice 26 (.int .i64 (m : Int)) (.int .i64 ((m : Int) + 4))).run Tryd.prog W = .ok (.slice (some ⟨W.heap.size, 0, none⟩) m (m + 4)) (W.alloc (.cells (madeCells #[.int .u8 0] (m + 4)) 5)) := by
  intro W
  obtain ⟨i0, hi, hz0, hz1, hz2⟩ := info_parts seal_info
  have h := run_make (P := Tryd.prog) W 26 5 i0 (.int .u8 0) Tryd.underlying26 hi hz0 .i64 .i64 (m : Int) ((m : Int) + 4) (by omega) (by omega) (by rw [hz2]; omega) (by omega)
  rw [h, hz1]
  have e : ((m : Int) + 4).toNat = m + 4 := by omega
  simp only [Int.toNat_natCast, e, Nat.mul_one]
  rfl
theorem seal_own (W : World) (base m : Nat) (hb : base ≤ W.heap.size) (hm : m + 4 < 140737488355328) :
    (Kd.int .u8).R 5 (W.alloc (.cells (madeCells #[.int .u8 0] (m + 4)) 5)) base (fun _ => True) (.slice (some ⟨W.heap.size, 0, none⟩) m (m + 4)) (List.replicate m 0) := by
  refine Kd.R_of_own ?_ (fun _ _ => trivial)
  refine ⟨by simp [encs], .inr ⟨W.heap.size, m + 4, madeCells #[.int .u8 0] (m + 4), by simp, hb, heap_alloc_new _ _, by simp, by simp only [maxLen]; omega, by simp [size_madeCells], ?_⟩⟩
  apply List.ext_getElem
  · simp [size_madeCells, encs]
  · intro i h1 h2
    simp [madeCells, encs, Nat.mod_one]
theorem sealOf_take (n : Int) (k : Nat) (h : k < 4) : (sealOf n).take (k + 1) = (sealOf n).take k ++ [n / 2 ^ (8 * k) % 256] := by
  have : k = 0 ∨ k = 1 ∨ k = 2 ∨ k = 3 := by omega
  rcases this with rfl | rfl | rfl | rfl <;> simp [sealOf]
set_option maxHeartbeats 8000000 in
set_option maxRecDepth 100000 in
theorem crc_Seal.calls (A0 : Option Addr) (c0 : Nat) (l0 : List Int) (r : List Int) (w : World) (hr0 : Kd.C (Kd.int .u8) w A0 l0.length l0) (hc0 : l0.length ≤ c0) (h : crc_Seal.f l0 = some r) :
    Calls Tryd.prog 40 #[.slice A0 l0.length c0] w fun e w' => ∃ v0_ : Value, e = .returned (v0_) ∧ Kd.R (Kd.int .u8) 5 w' w.heap.size (fun _ => True) v0_ r ∧ Below w.heap.size w w' := by
  have HR0 := Aside0.mk hr0
  have HC0 := Aside0.mk hc0
  clear hr0 hc0
  obtain ⟨n, A2, h⟩ := Option.bind_eq_some_iff.mp h
  by_cases hl : l0.length + 4 < 140737488355328
  · rw [if_pos hl] at h
    obtain rfl := Option.some.inj h
    clear h
    have A2' := hide A2
    clear A2
    have hmk := seal_make l0.length hl
    go_enter Tryd.func40, Tryd.ntmps40
    go_wp2_with (first
      | (go_at_call 56; with_reducible refine (crc_Sum.calls _ _ l0 n _ HR0.out HC0.out A2'.out).mono ?_; rintro e w1 ⟨rfl, HB⟩)
      | ((with_reducible refine gate_builtin (b := .copy) (xs := #[.tmp 14, .tmp 15]) rfl ?_); refine Kd.R_copy (d := 0) (w0 := w) w.heap.size rfl (.tmp 14) (.tmp 15) 26 26 5 rfl Tryd.underlying26 (by kernel_rfl) (.slice (some ⟨w1.heap.size, 0, none⟩) l0.length (l0.length + 4)) (List.replicate l0.length 0) l0 A0 l0.length c0 (fun _ => True) rfl rfl (seal_own w1 _ _ (Below.size HB) hl) (Kd.C_alloc (Kd.C_below HR0.out HB) _) (below_alloc HB _) (by simp; exact Nat.le_succ_of_le (Below.size HB)) ?_; intro w2 HO HB2 hg))
    have HO2 := hide HO
    clear HO hg hmk A2' HB HR0 HC0 h
    go_loopw [4, 17] (fun v4 v17 wr => ∃ k : Nat, k ≤ 4 ∧ v17 = .int .i64 k ∧ Hid ((Kd.int .u8).R 5 wr w.heap.size (fun _ => True) v4 (l0 ++ (sealOf n).take k)) ∧ Below w.heap.size w wr) (fun _ v _ => 4 - (intOf v).toNat)
    case atStart => exact ⟨0, by omega, rfl, hide (by have := HO2.out; simp only [List.length_replicate, Nat.min_self, List.take_length] at this; rw [List.take_zero]; rw [List.drop_of_length_le (by simp)] at this; exact this), HB2⟩
    case round =>
      obtain ⟨k, hk, rfl, HR, HB⟩ := hrel
      clear HO2 HB2
      by_cases hlt : k < 4
      · have hb : decide ((k : Int) < 4) = true := decide_eq_true (by omega)
        have HT := sealOf_take n k hlt
        have HT' := hide HT
        clear HT
        go_wp2_with (first | ((with_reducible refine gate_builtin (b := .append) (xs := #[.tmp 20, .tmp 26]) rfl ?_); at_builtin; refine Kd.R_append (Kd.int .u8) (w0 := w) w.heap.size rfl (.tmp 20) (.tmp 26) 26 5 (.int .u8 0) 1 rfl Tryd.underlying26 seal_info rfl (by decide) (by omega) u4 (l0 ++ (sealOf n).take k) (n / 2 ^ (8 * k) % 256) [.int .u8 (n / 2 ^ (8 * k) % 256)] (fun _ => True) (fun _ => False) rfl rfl rfl (fun _ hk => hk.elim) (fun _ _ => trivial) HR.out HB (Below.size HB) (by simp [sealOf]; omega) ?_; intro v1 w3 ho hb1 hg hat; have HR2 := hide ho; clear ho hg hat HB HR))
        go_roundw
        case rel => exact ⟨k + 1, by omega, by go_num, hide (by have := HR2.out; rw [HT'.out, ← List.append_assoc]; exact this), hb1⟩
        case measure => simp [intOf]; omega
      · go_wp2
        go_ret
        obtain rfl : k = 4 := by omega
        exact ⟨_, rfl, by have := HR.out; simpa [sealOf] using this, HB⟩
  · rw [if_neg hl] at h
    exact absurd h (by simp)

end Go.Proofs.YtknkncdlcoglpaaDoor.PFr
