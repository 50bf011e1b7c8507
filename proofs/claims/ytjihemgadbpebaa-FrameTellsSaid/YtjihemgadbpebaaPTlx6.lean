-- Written by wip/tools/myprint.py, a program of the prover's own, over the kit's print; the contracts named 'HAND' there are typed by hand.
import Derived.Test.YtjihemgadbpebaaPTlx0
import Derived.Test.YtjihemgadbpebaaPTlx5
namespace Go.Proofs.Ytjihemgadbpebaa.PTl
open Go.RowKit Go.Proofs.YtjihemgadbpebaaW.PrintWords Go.Proofs.YtjihemgadbpebaaW.PrintLast Go.Proofs.YtjihemgadbpebaaW.PrintMore
attribute [local go_sem] max2_int min2_int max_two min_two max_three min_three max_four min_four   -- for this text's walks alone
set_option linter.unusedVariables false
set_option linter.unusedSimpArgs false

/-! ### frame_part: function 24 -/
theorem part_info : (Try.prog.info? 5).map (fun i => (i.zero, i.size, i.bytes)) = some (some (.int .u8 0), 1, 1) := by kernel_rfl
def part_T : Bool × List (List Nat × List Nat) := (true, [([], []), ([], []), ([], []), ([0, 1, 2], [0, 1, 2]), ([], []), ([], []), ([4, 5], [4, 5]), ([3, 0, 1, 2, 3], [3]), ([6, 7, 0, 1, 2, 3, 4, 5, 6, 7], [6]), ([8, 0, 1, 2, 3, 4, 5, 6, 7, 8], [])])
def part_B : List Nat := [0, 0, 0, 7, 0, 0, 48, 15, 255, 511]
theorem part_tab : rtab .any (opsOf Try.f24 6) = part_T := by kernel_rfl
theorem part_bits : waitsOk part_T.2 part_B = true := by kernel_rfl
/-- what part answers: 0: cut; 2: too short; 3: another sum -/
def partE (k : Nat) (l : List Int) (n : Nat) : Option Int := if l.length < n + 4 then some 2 else (crc_Good.f k (l.take (n + 4))).bind fun b => if b = true then some 0 else some 3
set_option maxHeartbeats 4000000 in
theorem part_any (k : Nat) (A0 : Option Addr) (c0 : Nat) (l : List Int) (n : Nat) (r : Int) (w : World) (hr0 : Kd.C (Kd.int .u8) w A0 l.length l) (hc0 : l.length ≤ c0) (hn : n ≤ 1000000) (h : partE k l n = some r) :
    Calls Try.prog 24 #[.slice A0 l.length c0, .int .i64 n] w fun e w' => Below w.heap.size w w' ∧
      ((r = 0 ∧ ∃ A' : Option Addr, e = .returned (.tuple #[.slice A0 n n, .slice A' (l.length - (n + 4)) (c0 - (n + 4)), .int .i64 0]) ∧ Kd.C (Kd.int .u8) w A' (l.drop (n + 4)).length (l.drop (n + 4)) ∧ n + 4 ≤ l.length) ∨
       (r ≠ 0 ∧ e = .returned (.tuple #[.slice none 0 0, .slice none 0 0, .int .i64 r]))) := by
  have HR := Aside0.mk hr0
  have HC := Aside0.mk hc0
  obtain ⟨i0, hi0, _, hsz, _⟩ := info_parts part_info
  have kw : wrap64 ((n : Int) + 4) = ((n : Int) + 4) := by unfold wrap64; omega
  unfold partE at h
  by_cases hl : l.length < n + 4
  · rw [if_pos hl] at h
    obtain rfl := Option.some.inj h
    have kl : decide ((l.length : Int) < ((n : Int) + 4)) = true := decide_eq_true (by omega)
    have HL := Aside0.mk hl
    clear hr0 hc0 h hl
    go_enter Try.func24, Try.ntmps24
    go_wp2
    all_goals (refine bodyPost_ret (results_list (rs := [.tmp 4, .tmp 5, .tmp 6]) (vs := [_, _, _]) rfl (by simp) (.tmp (.tmp (.tmp .nil)))) rfl ?_)
    all_goals exact ⟨Below.refl _ _, .inr ⟨by decide, rfl⟩⟩
  · rw [if_neg hl] at h
    obtain ⟨b, hb, h⟩ := Option.bind_eq_some_iff.mp h
    have kl : decide ((l.length : Int) < ((n : Int) + 4)) = false := decide_eq_false (by omega)
    obtain ⟨hcutA, hA, hCA⟩ := print_take_of (P := Try.prog) (Value.int .u8) 0 22 5 .i64 Try.underlying22 hi0 hsz A0 c0 l ((n : Int) + 4) (by omega) (by omega) hc0
    obtain ⟨A7, hcut7, hA7, hC7⟩ := print_drop_of (P := Try.prog) (Value.int .u8) 0 22 5 .i64 Try.underlying22 hi0 hsz A0 c0 l ((n : Int) + 4) (by omega) (by omega) hc0
    have hRA := Aside0.mk (Kd.C_of_reads (h1 := fun _ => rfl) (hA _ (Kd.reads_of_C hr0)))
    have hR7 := Aside0.mk (Kd.C_of_reads (h1 := fun _ => rfl) (hA7 _ (Kd.reads_of_C hr0)))
    have HCA := Aside0.mk hCA
    have ht : ((n : Int) + 4).toNat = n + 4 := by omega
    have hlt : (l.take (n + 4)).length = n + 4 := by rw [List.length_take]; omega
    have hld : (l.drop (n + 4)).length = l.length - (n + 4) := List.length_drop
    rw [ht] at hcutA hcut7
    rw [hlt] at hcutA
    rw [hld] at hcut7
    have hcutn : ∀ W : World, (Instr.slice 22 (.slice A0 l.length c0) none (some (.int .i64 (n : Int))) (some (.int .i64 (n : Int)))).run Try.prog W = .ok (.slice A0 n n) W := fun W => by
      have a1 : (0 : Int) ≤ (n : Int) := by omega
      have a2 : (n : Int) ≤ (c0 : Int) := by omega
      have he : Try.prog.elem 22 = 5 := by kernel_rfl
      have hse : ∀ W, (sizeOf 5).run Try.prog W = .ok 1 W := fun W => by simp [sizeOf, typeInfo, hi0, hsz]
      have hu : Try.prog.underlying 22 = some (.slice (Try.prog.elem 22)) := by rw [he]; exact Try.underlying22
      rw [run_slice_hm (P := Try.prog) (w := W) 22 A0 l.length c0 hu .i64 .i64 (n : Int) (n : Int) a1 (Int.le_refl _) a2, he, hse]
      have ha : (A0.map fun x => x.add 0) = A0 := by cases A0 <;> simp [Addr.add]
      simp [sliced, Result.andThen, ha]
    have HL := Aside0.mk hl
    cases b with
    | true =>
      have hz := Option.some.inj h
      replace hz : (0 : Int) = r := hz
      subst hz
      clear hr0 hc0 h hl hA hA7 hCA hC7
      go_enter Try.func24, Try.ntmps24
      go_wp2_with (go_at_call 31; rw [← hlt]; refine (crc_Good.calls k A0 c0 (l.take (n + 4)) true _ (by have := hRA.out; rw [ht] at this; exact this) (by have := HCA.out; rw [ht] at this; exact this) hb).mono ?_; rintro e w1 ⟨rfl, hbw⟩)
      refine start_ (n := 10) (S := fun w' => True) (ds := []) #[false, false, false, false, false, false, false, false, false, false] (by kernel_rfl) rfl rfl trivial (fun hHeld => ?_)
      refine with_tabW part_tab part_bits (fun HT_ HW_ => ?_)
      refine pure_ (i := 0) (N := some 21) (v := ?_) (a' := ?_) #[true, false, false, false, false, false, false, false, false, false] rfl rfl (any_of HT_.out (by kernel_rfl)) (fun _ _ _ h => h) (Or.inl ⟨by rfl, ?_⟩) ?_ ?_
      rotate_left
      · intro w'
        go_simp
        with_reducible rfl
      rotate_left
      · simp only [Act.put, List.setIfInBounds_toArray, List.set_cons_zero, List.set_cons_succ, i64_w, i32_w]
        rfl
      refine pure_ (i := 1) (N := some 22) (v := ?_) (a' := ?_) #[true, true, false, false, false, false, false, false, false, false] rfl rfl (any_of HT_.out (by kernel_rfl)) (fun _ _ _ h => h) (Or.inl ⟨by rfl, ?_⟩) ?_ ?_
      rotate_left
      · intro w'
        go_simp
        with_reducible rfl
      rotate_left
      · simp only [Act.put, List.setIfInBounds_toArray, List.set_cons_zero, List.set_cons_succ, i64_w, i32_w]
        rfl
      refine pure_ (i := 2) (N := some 23) (v := ?_) (a' := ?_) #[true, true, true, false, false, false, false, false, false, false] rfl rfl (any_of HT_.out (by kernel_rfl)) (fun _ _ _ h => h) (Or.inl ⟨by rfl, ?_⟩) ?_ ?_
      rotate_left
      · intro w'
        go_simp
        with_reducible rfl
      rotate_left
      · simp only [Act.put, List.setIfInBounds_toArray, List.set_cons_zero, List.set_cons_succ, i64_w, i32_w]
        rfl
      refine pure_ (i := 3) (N := some 24) (v := ?_) (a' := ?_) #[true, true, true, true, false, false, false, false, false, false] rfl rfl (any_of HT_.out (by kernel_rfl)) (fun _ _ _ h => h) (Or.inl ⟨by rfl, ?_⟩) ?_ ?_
      rotate_left
      · intro w'
        go_simp
        with_reducible rfl
      rotate_left
      · simp only [Act.put, List.setIfInBounds_toArray, List.set_cons_zero, List.set_cons_succ, i64_w, i32_w]
        rfl
      refine pure_ (i := 4) (N := some 25) (v := ?_) (a' := ?_) #[true, true, true, true, true, false, false, false, false, false] rfl rfl (any_of HT_.out (by kernel_rfl)) (fun _ _ _ h => h) (Or.inl ⟨by rfl, ?_⟩) ?_ ?_
      rotate_left
      · intro w'
        go_simp
        with_reducible rfl
      rotate_left
      · simp only [Act.put, List.setIfInBounds_toArray, List.set_cons_zero, List.set_cons_succ, i64_w, i32_w]
        rfl
      refine pure_ (i := 5) (N := some 26) (v := ?_) (a' := ?_) #[true, true, true, true, true, true, false, false, false, false] rfl rfl (any_of HT_.out (by kernel_rfl)) (fun _ _ _ h => h) (Or.inl ⟨by rfl, ?_⟩) ?_ ?_
      rotate_left
      · intro w'
        go_simp
        with_reducible rfl
      rotate_left
      · simp only [Act.put, List.setIfInBounds_toArray, List.set_cons_zero, List.set_cons_succ, i64_w, i32_w]
        rfl
      refine pure_ (i := 6) (N := some 27) (v := ?_) (a' := ?_) #[true, true, true, true, true, true, true, false, false, false] rfl rfl (any_of HT_.out (by kernel_rfl)) (fun _ _ _ h => h) (Or.inl ⟨by rfl, ?_⟩) ?_ ?_
      rotate_left
      · intro w'
        go_simp
        with_reducible rfl
      rotate_left
      · simp only [Act.put, List.setIfInBounds_toArray, List.set_cons_zero, List.set_cons_succ, i64_w, i32_w]
        rfl
      refine pure_ (i := 7) (N := some 4) (v := ?_) (a' := ?_) #[true, true, true, true, true, true, true, true, false, false] rfl rfl (any_of HT_.out (by kernel_rfl)) (fun _ _ _ h => h) (Or.inl ⟨by rfl, ?_⟩) ?_ ?_
      rotate_left
      · intro w'
        go_simp
        with_reducible rfl
      rotate_left
      · simp only [Act.put, List.setIfInBounds_toArray, List.set_cons_zero, List.set_cons_succ, i64_w, i32_w]
        rfl
      refine pure_ (i := 8) (N := some 5) (v := ?_) (a' := ?_) #[true, true, true, true, true, true, true, true, true, false] rfl rfl (any_of HT_.out (by kernel_rfl)) (fun _ _ _ h => h) (Or.inl ⟨by rfl, ?_⟩) ?_ ?_
      rotate_left
      · intro w'
        go_simp
        with_reducible rfl
      rotate_left
      · simp only [Act.put, List.setIfInBounds_toArray, List.set_cons_zero, List.set_cons_succ, i64_w, i32_w]
        rfl
      refine pure_ (i := 9) (N := some 6) (v := ?_) (a' := ?_) #[true, true, true, true, true, true, true, true, true, true] rfl rfl (any_of HT_.out (by kernel_rfl)) (fun _ _ _ h => h) (Or.inl ⟨by rfl, ?_⟩) ?_ ?_
      rotate_left
      · intro w'
        go_simp
        with_reducible rfl
      rotate_left
      · simp only [Act.put, List.setIfInBounds_toArray, List.set_cons_zero, List.set_cons_succ, i64_w, i32_w]
        rfl
      refine done_ (done_of HT_.out (by kernel_rfl)) ?_
      simp only [Exit.then]
      go_at_K
      go_wp2
      refine bodyPost_ret (results_list (rs := [.tmp 4, .tmp 5, .tmp 6]) (vs := [_, _, _]) rfl (by simp) (.tmp (.tmp (.tmp .nil)))) rfl ?_
      exact ⟨below_drew1 hbw, .inl ⟨by first | rfl | trivial, A7, rfl, by have h_ := hR7.out; rw [ht] at h_; exact h_, by have := HL.out; omega⟩⟩
    | false =>
      have hz := Option.some.inj h
      replace hz : (3 : Int) = r := hz
      subst hz
      clear hr0 hc0 h hl hA hA7 hCA hC7
      go_enter Try.func24, Try.ntmps24
      go_wp2_with (go_at_call 31; rw [← hlt]; refine (crc_Good.calls k A0 c0 (l.take (n + 4)) false _ (by have := hRA.out; rw [ht] at this; exact this) (by have := HCA.out; rw [ht] at this; exact this) hb).mono ?_; rintro e w1 ⟨rfl, hbw⟩)
      all_goals (refine bodyPost_ret (results_list (rs := [.tmp 4, .tmp 5, .tmp 6]) (vs := [_, _, _]) rfl (by simp) (.tmp (.tmp (.tmp .nil)))) rfl ?_)
      all_goals exact ⟨hbw, .inr ⟨by decide, rfl⟩⟩

/-! ### slices_Clone_byte_byte: function 25 -/
theorem clone_info : (Try.prog.info? 5).map (fun i => (i.zero, i.size, i.bytes)) = some (some (.int .u8 0), 1, 1) := by kernel_rfl
theorem clone_eql (w : World) (a : Option Addr) (l c : Nat) : (binOp .eql 22 (.slice a l c) (.slice none 0 0)).run Try.prog w = .ok (.bool a.isNone) w := Lib.run_eql_slice_nil w 22 5 a l c 0 0 Try.underlying22
def slices_Clone_byte_byte.f (l0 : List Int) : Option (List Int) := if l0.length < 140737488355328 then some l0 else none
set_option maxHeartbeats 1000000 in
theorem slices_Clone_byte_byte.calls (A0 : Option Addr) (c0 : Nat) (l0 : List Int) (r : List Int) (w : World) (hr0 : Kd.C (Kd.int .u8) w A0 l0.length l0) (hc0 : l0.length ≤ c0) (h : slices_Clone_byte_byte.f l0 = some r) :
    Calls Try.prog 25 #[.slice A0 l0.length c0] w fun e w' => ∃ v0_ : Value, e = .returned (v0_) ∧ Kd.R (Kd.int .u8) 5 w' w.heap.size (fun _ => True) v0_ r ∧ Below w.heap.size w w' := by
  have HR0 := Aside0.mk hr0
  have hq := clone_eql
  unfold slices_Clone_byte_byte.f at h
  by_cases hl : l0.length < 140737488355328
  · rw [if_pos hl] at h
    obtain rfl := Option.some.inj h
    have HL := Aside0.mk hl
    clear h hl hr0 hc0
    cases A0 with
    | none =>
      have hz : l0.length = 0 := by
        rcases Nat.eq_zero_or_pos l0.length with h | h
        · exact h
        · obtain ⟨ad, e, _⟩ := HR0.out.2.2 h
          cases e
      have HZ := Aside0.mk (List.eq_nil_of_length_eq_zero hz)
      clear hz
      go_enter Try.func25, Try.ntmps25
      go_wp2
      go_ret
      exact ⟨_, rfl, by rw [HZ.out]; exact Kd.R_nil _ _ _ _ _, Below.refl _ _⟩
    | some ad =>
      go_enter Try.func25, Try.ntmps25
      go_wp2_with (first | ((with_reducible refine gate_builtin (b := .append) (xs := #[.tmp 5, .tmp 6]) rfl ?_); at_builtin; refine Kd.R_append_rows (Kd.int .u8) (w0 := w) w.heap.size rfl (.tmp 5) (.tmp 6) 22 5 (.int .u8 0) 1 rfl Try.underlying22 clone_info rfl (by decide) (by omega) (.slice (some ⟨w.heap.size, 0, none⟩) 0 0) [] l0 _ _ _ (fun _ => True) (fun _ => False) rfl rfl ?aO ?aR (fun _ _ h => h) (fun _ h => h.elim) ?aF ?aB ?aS ?aL ?_; (case aR => exact Kd.C_alloc HR0.out _); (case aO => exact Kd.R_of_own ⟨by simp [encs], .inr ⟨w.heap.size, 0, #[], rfl, Nat.le_refl _, heap_alloc_new _ _, by simp, by simp, by simp, by simp [encs]⟩⟩ (fun _ _ => trivial)); (case aF => exact fun _ _ => trivial); (case aB => exact (Below.refl _ _).alloc (Nat.le_refl _) _); (case aS => simp); (case aL => have := HL.out; simp; omega); intro v1 w1 ho hb hg hat))
      go_ret
      exact ⟨_, rfl, by simpa using ho, hb⟩
  · rw [if_neg hl] at h
    exact absurd h (by simp)

end Go.Proofs.Ytjihemgadbpebaa.PTl
