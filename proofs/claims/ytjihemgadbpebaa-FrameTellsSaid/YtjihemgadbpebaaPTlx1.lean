-- Written by wip/tools/myprint.py, a program of the prover's own, over the kit's print; the contracts named 'HAND' there are typed by hand.
import Derived.Test.YtjihemgadbpebaaPTlx0
namespace Go.Proofs.Ytjihemgadbpebaa.PTl
open Go.RowKit Go.Proofs.YtjihemgadbpebaaW.PrintWords Go.Proofs.YtjihemgadbpebaaW.PrintLast Go.Proofs.YtjihemgadbpebaaW.PrintMore
attribute [local go_sem] max2_int min2_int max_two min_two max_three min_three max_four min_four   -- for this text's walks alone
set_option linter.unusedVariables false
set_option linter.unusedSimpArgs false

/-! ### slices_Grow_byte_byte: function 28 -/
theorem grow_info : (Try.prog.info? 5).map (fun i => (i.zero, i.size, i.bytes)) = some (some (.int .u8 0), 1, 1) := by kernel_rfl
set_option maxHeartbeats 4000000 in
/-- slices.Grow of nil: a new row, bare, with room. -/
theorem grow_nil (n : Nat) (w : World) (hn : 0 < n) (hbig : n ≤ 140737488355328) :
    Calls Try.prog 28 #[.slice none 0 0, .int .i64 n] w fun e w' => ∃ v, e = .returned v ∧ Kd.R (Kd.int .u8) 5 w' w.heap.size (fun _ => True) v [] ∧ Below w.heap.size w w' := by
  obtain ⟨i0, hi0, hz0, hs0, hb0⟩ := info_parts grow_info
  have h1 : ¬ ((n : Int) < 0) := by omega
  have h2 : wrap64 ((0 : Int) - (0 : Int)) = 0 := by unfold wrap64; omega
  have h3 : wrap64 ((n : Int) - 0) = (n : Int) := by unfold wrap64; omega
  have h3' : wrap64 (n : Int) = (n : Int) := by unfold wrap64; omega
  have h4 : (n : Int) > 0 := by omega
  have h4' : 0 < n := by omega
  have hold : (Builtin.firstCells i0.size 0 (.slice none 0 0)).run Try.prog w.drew = .ok (([] : List Value).toArray) w.drew := run_firstCells_none w.drew i0.size 0 0 0
  have hrz : ∀ ty, (Builtin.append_ #[22, 3] ty #[.slice none 0 0, .int .i64 (n : Int)]).run Try.prog w =
      .ok (.slice (some ⟨w.heap.size, 0, none⟩) n (grownCap w n 0 5)) (w.drew.alloc (.cells (([] : List Value).toArray ++ Builtin.zeroCells (Value.int .u8 0).cells n ++ Builtin.zeroCells (Value.int .u8 0).cells (grownCap w n 0 5 - n)) 5)) := fun ty => by
    have h := Lib.run_append_grow_zeros (P := Try.prog) w 22 3 ty 5 i0 (.int .u8 0) .i64 .i64 Try.underlying22 Try.underlying3 hi0 hz0 none 0 0 [] hold n hn (by omega) (by omega) (by omega) (by rw [hb0]; omega)
      (by have := growslice_fits (need := n) (old := 0) (bytes := i0.bytes) (by omega) (by rw [hb0]; omega); simpa using this)
    simpa using h
  have hGn : n ≤ grownCap w n 0 5 := grownCap_ge w _ _ _
  obtain ⟨G, hG⟩ : ∃ G, G = grownCap w n 0 5 := ⟨_, rfl⟩
  rw [← hG] at hrz hGn
  have hG63 : G ≤ 9223372036854775807 := by
    have := grownCap_le_maxLen w n 0 5 (by unfold maxLen; omega)
    rw [← hG] at this
    unfold maxLen at this
    omega
  clear hold hG
  go_enter Try.func28, Try.ntmps28
  go_wp2_with (at_builtin; refine Lib.wpList_append_run _ rfl _ _ _ _ rfl _ _ rfl rfl _ _ (hrz _) ?_)
  all_goals
    go_ret
    refine ⟨_, rfl, ?_, ?_⟩
    · exact Kd.R_of_own (enc := Value.int .u8) ⟨by simp [encs], .inr ⟨w.heap.size, G, _, rfl, Nat.le_refl _, heap_alloc_new _ _, Nat.zero_le _, by unfold maxLen; omega, by simp [Builtin.zeroCells]; omega, by simp [encs]⟩⟩ (fun _ _ => trivial)
    · exact below_drew1 ((Below.refl _ w).alloc (Nat.le_refl _) _)
set_option maxHeartbeats 4000000 in
theorem grow_zero (w : World) : Calls Try.prog 28 #[.slice none 0 0, .int .i64 0] w fun e w' => e = .returned (.slice none 0 0) ∧ Below w.heap.size w w' := by
  have h2 : wrap64 ((0 : Int) - (0 : Int)) = 0 := by unfold wrap64; omega
  go_enter Try.func28, Try.ntmps28
  go_wp2
  go_ret
  exact ⟨rfl, Below.refl _ _⟩
theorem grow_any (n : Nat) (w : World) (hbig : n ≤ 140737488355328) :
    Calls Try.prog 28 #[.slice none 0 0, .int .i64 n] w fun e w' => ∃ v, e = .returned v ∧ Kd.R (Kd.int .u8) 5 w' w.heap.size (fun _ => True) v [] ∧ Below w.heap.size w w' := by
  rcases Nat.eq_zero_or_pos n with rfl | hn
  · refine (grow_zero w).mono ?_
    rintro e w' ⟨rfl, hb⟩
    exact ⟨_, rfl, Kd.R_nil _ _ _ _ _, hb⟩
  · exact grow_nil n w hn hbig

/-! ### slices_Concat_byte_byte: function 21 -/
def slices_Concat_byte_byte.f (l0 : List (List Int)) : Option (List Int) := if l0.flatten.length < 140737488355328 ∧ l0.length < 140737488355328 then some l0.flatten else none
def catL (l : List (List Int)) (k : Nat) : List Int := (l.take k).flatten
def catN (l : List (List Int)) (k : Nat) : Nat := (catL l k).length
theorem catL_zero (l : List (List Int)) : catL l 0 = [] := rfl
theorem catN_zero (l : List (List Int)) : catN l 0 = 0 := rfl
theorem catL_all (l : List (List Int)) : catL l l.length = l.flatten := by simp [catL]
theorem catN_le (l : List (List Int)) (i : Nat) : catN l i ≤ l.flatten.length := by
  unfold catN catL
  conv => rhs; rw [← List.take_append_drop i l, List.flatten_append, List.length_append]
  omega
theorem concat_at {w : World} {A : Option Addr} {n : Nat} {xs : List (List Int)} (h : Kd.C (Kd.slice 5 (Kd.int .u8)) w A n xs) (hn : n = xs.length) (i : Nat) (h1 : i < n) : ∃ ad A0 c0, ∃ row : List Int, A = some ad ∧ w.cell? (ad.add i) = some (.slice A0 row.length c0) ∧ row.length ≤ c0 ∧ (Kd.int .u8).C w A0 row.length row ∧ catL xs (i + 1) = catL xs i ++ row ∧ catN xs (i + 1) = catN xs i + row.length := by
  obtain ⟨ad, c, e, _, hK, hc0⟩ := Kd.C_get h ([] : List Int) (i : Int) (by omega) (by omega)
  have hc : ∀ j u, c[j]? = some u → w.cell? (ad.add ((i : Int).toNat * 1 + j)) = some u := hc0
  obtain ⟨A0, c0, rfl, l0, g0⟩ := hK
  have hrow : catL xs (i + 1) = catL xs i ++ xs.getD i [] := by
    unfold catL
    rw [List.take_succ_eq_append_getElem (by omega : i < xs.length), List.flatten_append, List.getD_eq_getElem?_getD, List.getElem?_eq_getElem (by omega : i < xs.length)]
    simp
  exact ⟨ad, A0, c0, _, e, by have hq := hc 0 _ rfl; rwa [Nat.mul_one, Nat.add_zero] at hq, l0, g0, hrow, by unfold catN; rw [hrow, List.length_append]; rfl⟩
set_option maxHeartbeats 4000000 in
theorem slices_Concat_byte_byte.calls (A0 : Option Addr) (c0 : Nat) (l0 : List (List Int)) (r : List Int) (w : World) (hr0 : Kd.C (Kd.slice 5 (Kd.int .u8)) w A0 l0.length l0) (hc0 : l0.length ≤ c0) (h : slices_Concat_byte_byte.f l0 = some r) :
    Calls Try.prog 21 #[.slice A0 l0.length c0] w fun e w' => ∃ v0_ : Value, e = .returned (v0_) ∧ Kd.R (Kd.int .u8) 5 w' w.heap.size (fun _ => True) v0_ r ∧ Below w.heap.size w w' := by
  unfold slices_Concat_byte_byte.f at h
  by_cases hl : l0.flatten.length < 140737488355328 ∧ l0.length < 140737488355328
  · rw [if_pos hl] at h
    obtain rfl := Option.some.inj h
    have HL := Aside0.mk hl.1
    have HL2 := Aside0.mk hl.2
    obtain ⟨n, hn⟩ : ∃ n, n = l0.length := ⟨_, rfl⟩
    rw [← hn] at hr0 ⊢
    have HR := Aside0.mk hr0
    have HN := Aside0.mk hn
    clear h hl hr0 hc0 hn
    go_enter Try.func21, Try.ntmps21
    go_wp2
    go_loop [3, 11] (fun a i => ∃ k : Nat, k ≤ n ∧ a = .int .i64 (catN l0 k : Int) ∧ i = .int .i64 (k : Int)) (fun _ i => match i with | .int _ m => ((n : Int) - m).toNat | _ => 0)
    case atStart => exact ⟨0, by omega, by rw [catN_zero]; rfl, rfl⟩
    case round =>
      obtain ⟨k, hk, rfl, rfl⟩ := hrel
      by_cases hlt : k < n
      · have hb : decide ((k : Int) < (n : Int)) = true := decide_eq_true (by omega)
        have hb2 : decide (k < n) = true := decide_eq_true (by omega)
        have hat_ := concat_at HR.out HN.out k hlt
        obtain ⟨ad, A1, c1, row, rfl, hcell, hlc, hC, hcl, hcn⟩ := hat_
        have hle := catN_le l0 (k + 1)
        have hw : wrap64 ((catN l0 k : Int) + (row.length : Int)) = (catN l0 (k + 1) : Int) := by
          have := HL.out
          unfold wrap64
          omega
        have hneg : decide ((catN l0 (k + 1) : Int) < 0) = false := decide_eq_false (by omega)
        have hk1 : wrap64 ((k : Int) + 1) = (k : Int) + 1 := by have := HL2.out; have := HN.out; unfold wrap64; omega
        have HLT := Aside0.mk hlt
        clear hC hlc hcl hcn hle hk
        go_wp2
        go_round
        case rel => exact ⟨k + 1, HLT.out, by rw [hw], by rw [hk1]; rfl⟩
        case measure => simp; have := HLT.out; omega
      · have hb : decide ((k : Int) < (n : Int)) = false := decide_eq_false (by omega)
        have hb2 : decide (k < n) = false := decide_eq_false (by omega)
        obtain rfl : k = n := by omega
        clear hlt hk
        have hkn : catN l0 k ≤ 140737488355328 := by have := HL.out; have := catN_le l0 k; omega
        have HKN := Aside0.mk hkn
        clear hkn
        go_wp2_with (go_at_call 28; refine (grow_any (catN l0 k) w HKN.out).mono ?_; rintro e w1 ⟨v, rfl, ho, hbw⟩)
        clear hb hb2
        go_loopw [6, 27] (fun a i wr => Aside0 (Below w.heap.size w wr) ∧ ∃ j : Nat, j ≤ k ∧ i = .int .i64 (j : Int) ∧ Aside0 (Kd.R (Kd.int .u8) 5 wr w.heap.size (fun _ => True) a (catL l0 j))) (fun _ i _ => match i with | .int _ m => ((k : Int) - m).toNat | _ => 0)
        case atStart => exact ⟨⟨hbw⟩, 0, by omega, rfl, ⟨by rw [catL_zero]; exact ho⟩⟩
        case round =>
          clear hbw ho
          obtain ⟨HB, j, hj, rfl, HO⟩ := hrel
          by_cases hlt : j < k
          · have hb : decide ((j : Int) < (k : Int)) = true := decide_eq_true (by omega)
            have hb2 : decide (j < k) = true := decide_eq_true (by omega)
            have hat_ := concat_at (Kd.C_below HR.out HB.out) HN.out j hlt
            obtain ⟨ad, A1, c1, row, rfl, hcell0, hlc, hC, hcl, hcn⟩ := hat_
            have HC := Aside0.mk hC
            have hle : (catL l0 j).length + row.length < 140737488355328 := by
              have h1 := catN_le l0 (j + 1)
              have := HL.out
              have h2 : catN l0 j = (catL l0 j).length := rfl
              omega
            have HLE := Aside0.mk hle
            have HCL := Aside0.mk hcl
            have hk1 : wrap64 ((j : Int) + 1) = (j : Int) + 1 := by have := HL2.out; have := HN.out; unfold wrap64; omega
            have HLT := Aside0.mk hlt
            clear hC hlc hcl hcn hle hj
            go_wp2_with (first | ((with_reducible refine gate_builtin (b := .append) (xs := #[.tmp 31, .tmp 32]) rfl ?_); at_builtin; refine Kd.R_append_rows (Kd.int .u8) (w0 := w) w.heap.size rfl (.tmp 31) (.tmp 32) 22 5 (.int .u8 0) 1 rfl Try.underlying22 grow_info rfl (by decide) (by omega) _ (catL l0 j) row _ _ _ (fun _ => True) (fun _ => False) rfl rfl HO.out HC.out (fun _ _ h => h) (fun _ h => h.elim) (fun _ _ => trivial) HB.out (below_size HB.out) (by have := HLE.out; omega) ?_; intro v1 w2 ho2 hb2 hg2 hat2))
            go_roundw
            case rel => exact ⟨⟨hb2⟩, j + 1, HLT.out, by rw [hk1]; rfl, ⟨by rw [HCL.out]; exact ho2⟩⟩
            case measure => simp; have := HLT.out; omega
          · have hb : decide ((j : Int) < (k : Int)) = false := decide_eq_false (by omega)
            have hb2 : decide (j < k) = false := decide_eq_false (by omega)
            obtain rfl : j = k := by omega
            clear hlt hj
            go_wp2
            go_ret
            exact ⟨_, rfl, by have := HO.out; rw [HN.out, catL_all] at this; exact this, HB.out⟩
  · rw [if_neg hl] at h
    exact absurd h (by simp)

end Go.Proofs.Ytjihemgadbpebaa.PTl
