-- Written by wip/tools/myprint.py, a program of the prover's own, over the kit's print; the contracts named 'HAND' there are typed by hand.
import Derived.Test.YtepgcejgjfeolaaPTlx0
import Derived.Test.YtepgcejgjfeolaaPTlx2
namespace Go.Proofs.Ytepgcejgjfeolaa.PTl
open Go.RowKit Go.Proofs.YtepgcejgjfeolaaW.PrintWords Go.Proofs.YtepgcejgjfeolaaW.PrintLast Go.Proofs.YtepgcejgjfeolaaW.PrintMore
attribute [local go_sem] max2_int min2_int max_two min_two max_three min_three max_four min_four   -- for this text's walks alone
set_option linter.unusedVariables false
set_option linter.unusedSimpArgs false

/-! ### value_Put: function 11 -/
theorem put_info : (Try.prog.info? 5).map (fun i => (i.zero, i.size, i.bytes)) = some (some (.int .u8 0), 1, 1) := by kernel_rfl
def value_Put.f (k : Nat) (a0_0 : ByteArray) (a0_1 : Int) (a0_2 : ByteArray) (a1_0 : Int) (a1_1 : ByteArray) (a1_2 : Int) : Option (List Int × Bool) :=
  if fitsV a0_1 a1_0 a1_1 a1_2 = true then
    (if a0_1 = 4 then ((vari_Put.f k (a1_1.size : Int)).bind fun t => if t.length + a1_1.size < 140737488355328 then some (t ++ bytesOf a1_1, true) else none)
     else (if a0_1 = 5 then ((vari_Put.f k (a1_2 + 1)).bind fun t => some (t, true))
     else ((vari_Zig.f a1_0).bind fun z => (vari_Put.f k z).bind fun t => some (t, true))))
  else some ([], false)
theorem value_Put.mono : ∀ a0 a1 a2 a3 a4 a5 k, LeO (value_Put.f k a0 a1 a2 a3 a4 a5) (value_Put.f (k + 1) a0 a1 a2 a3 a4 a5) := by
  intro a0 a1 a2 a3 a4 a5 k
  unfold value_Put.f
  repeat' first
      | (with_reducible exact vari_Put.mono _ _)
      | (with_reducible exact LeO.refl _)
      | (with_reducible exact LeO.none _)
      | (with_reducible refine LeO.ite ?_ ?_)
      | (with_reducible refine LeO.bind ?_ (fun _ => ?_))
theorem fits_true {k N : Int} {S : ByteArray} {R : Int} (h : fitsV k N S R = true) :
    ((0 ≤ k ∧ k ≤ 3) ∧ ofV k N S R = .iface 3 (.int .i64 N)) ∨ (k = 4 ∧ (S.size : Int) ≤ 12 ∧ ofV k N S R = .iface 9 (.string S)) ∨ (k = 5 ∧ -1 ≤ R ∧ R ≤ 1073741824 ∧ ofV k N S R = .iface 45 (.int .i64 R)) := by
  unfold fitsV at h
  unfold ofV
  by_cases c1 : (0 ≤ k ∧ k ≤ 3) ∧ S.toList = [] ∧ R = 0
  · rw [if_pos c1]; exact .inl ⟨c1.1, rfl⟩
  rw [if_neg c1] at h ⊢
  by_cases c2 : k = 4 ∧ N = 0 ∧ R = 0
  · rw [if_pos c2] at h ⊢; exact .inr (.inl ⟨c2.1, of_decide_eq_true h, rfl⟩)
  rw [if_neg c2] at h ⊢
  by_cases c3 : k = 5 ∧ N = 0 ∧ S.toList = []
  · rw [if_pos c3] at h ⊢
    simp only [Bool.and_eq_true, decide_eq_true_eq] at h
    exact .inr (.inr ⟨c3.1, h.1, h.2, rfl⟩)
  rw [if_neg c3] at h
  exact absurd h (by decide)
set_option maxHeartbeats 8000000 in
set_option maxRecDepth 100000 in
theorem value_Put.calls (k : Nat) (a0_0 : ByteArray) (a0_1 : Int) (a0_2 : ByteArray) (a1_0 : Int) (a1_1 : ByteArray) (a1_2 : Int) (r1 : List Int) (r2 : Bool) (w : World) (h : value_Put.f k a0_0 a0_1 a0_2 a1_0 a1_1 a1_2 = some (r1, r2)) :
    Calls Try.prog 11 #[.agg #[.string a0_0, .int .i64 a0_1, .string a0_2], .agg #[.int .i64 a1_0, .string a1_1, .int .i64 a1_2]] w fun e w' => ∃ v0_ : Value, e = .returned (.tuple #[v0_, .bool r2]) ∧ Kd.R (Kd.int .u8) 5 w' w.heap.size (fun _ => True) v0_ r1 ∧ Below w.heap.size w w' := by
  unfold value_Put.f at h
  by_cases hf : fitsV a0_1 a1_0 a1_1 a1_2 = true
  · rw [if_pos hf] at h
    rcases fits_true hf with ⟨hk, hof⟩ | ⟨hk, hsz, hof⟩ | ⟨hk, hR0, hR1, hof⟩
    · have n4 : ¬ a0_1 = 4 := by omega
      have n5 : ¬ a0_1 = 5 := by omega
      rw [if_neg n4, if_neg n5] at h
      obtain ⟨z, hz, h⟩ := Option.bind_eq_some_iff.mp h
      obtain ⟨t, ht, h⟩ := Option.bind_eq_some_iff.mp h
      simp only [Option.some.injEq, Prod.mk.injEq] at h
      obtain ⟨rfl, rfl⟩ := h
      have HZ := Aside0.mk hz
      have HT := Aside0.mk ht
      have OFC := fun w => of_any a0_1 a1_0 a1_1 a1_2 w
      have FIC := fun w => fits_any a0_1 a1_0 a1_1 a1_2 w
      rw [hof] at OFC FIC
      rw [hf] at FIC
      have OFC := Aside0.mk OFC
      have FIC := Aside0.mk FIC
      clear hz ht hof hk n4 n5 hf
      have t1 := ta_3_9
      have t2 := ta_3_45
      have t3 := ta_int
      go_enter Try.func11, Try.ntmps11
      go_wp2_with (first
        | (go_at_call 19; refine (OFC.out _).mono ?_; rintro e w1 ⟨rfl, hb1⟩; have d1 : w1.cell? ⟨w.heap.size, 1, none⟩ = some (.int .i64 a0_1) := (hb1.cell (p := ⟨w.heap.size, 1, none⟩) (by simp; omega)).trans (by rw [cell_of_row _ _ _ _ _ _ (heap_alloc2_old _ _ _)]; rfl))
        | (go_at_call 20; refine (FIC.out _).mono ?_; rintro e w2 ⟨rfl, ⟨m2, rfl⟩⟩)
        | (go_at_call 22; refine (vari_Zig.calls a1_0 z _ HZ.out).mono ?_; rintro e w3 ⟨rfl, ⟨m3, rfl⟩⟩)
        | (go_at_call 21; refine (vari_Put.calls k z t _ HT.out).mono ?_; rintro e w4 ⟨v0, rfl, hr, hb4⟩))
      have HB1 : Below w.heap.size w w1 := below_then (((Below.refl _ _).alloc (Nat.le_refl _) _).alloc (by simp) _) (by simp; omega) hb1
      go_ret2
      exact ⟨_, rfl, Kd.R_lower hr (by simpa using HB1.size), below_then (pw_below_drewN HB1 _) (by simpa using HB1.size) hb4⟩
    · subst hk
      rw [if_pos rfl] at h
      obtain ⟨t, ht, h⟩ := Option.bind_eq_some_iff.mp h
      by_cases hlen : t.length + a1_1.size < 140737488355328
      · rw [if_pos hlen] at h
        simp only [Option.some.injEq, Prod.mk.injEq] at h
        obtain ⟨rfl, rfl⟩ := h
        have HT := Aside0.mk ht
        have HL := Aside0.mk hlen
        have OFC := fun w => of_any 4 a1_0 a1_1 a1_2 w
        have FIC := fun w => fits_any 4 a1_0 a1_1 a1_2 w
        rw [hof] at OFC FIC
        rw [hf] at FIC
        have OFC := Aside0.mk OFC
        have FIC := Aside0.mk FIC
        clear ht hof hf hlen
        have t1 := ta_9_9
        go_enter Try.func11, Try.ntmps11
        go_wp2_with (first
          | (go_at_call 19; refine (OFC.out _).mono ?_; rintro e w1 ⟨rfl, hb1⟩; have d1 : w1.cell? ⟨w.heap.size, 1, none⟩ = some (.int .i64 4) := (hb1.cell (p := ⟨w.heap.size, 1, none⟩) (by simp; omega)).trans (by rw [cell_of_row _ _ _ _ _ _ (heap_alloc2_old _ _ _)]; rfl))
          | (go_at_call 20; refine (FIC.out _).mono ?_; rintro e w2 ⟨rfl, ⟨m2, rfl⟩⟩)
          | (go_at_call 21; refine (vari_Put.calls k (a1_1.size : Int) t _ HT.out).mono ?_; rintro e w4 ⟨v0, rfl, hr, hb4⟩; have HR4 := Aside0.mk hr; clear hr)
          | (at_builtin; refine print_append_str (w0 := w) w.heap.size rfl (.tmp 29) (.tmp 30) 26 9 5 rfl Try.underlying26 Try.underlying9 put_info v0 t a1_1 rfl rfl ?aO ?aB ?aS ?aL ?_; (case aO => exact own_less (Kd.own_of_R HR4.out) (by have := hb1.size; simp at this ⊢; omega)); (case aB => exact below_then (pw_below_drewN (below_then (((Below.refl _ _).alloc (Nat.le_refl _) _).alloc (by simp) _) (by simp; omega) hb1) _) (by have := hb1.size; simp at this ⊢; omega) hb4); (case aS => have h1 := hb1.size; have h4 := hb4.size; simp at h1 h4 ⊢; omega); (case aL => have := HL.out; omega); intro v5 w5 ho5 hb5 hg5))
        go_ret2
        exact ⟨_, rfl, Kd.R_of_own ho5 (fun _ _ => trivial), hb5⟩
      · rw [if_neg hlen] at h
        exact absurd h (by simp)
    · subst hk
      have n4 : ¬ (5 : Int) = 4 := by decide
      rw [if_neg n4, if_pos rfl] at h
      obtain ⟨t, ht, h⟩ := Option.bind_eq_some_iff.mp h
      simp only [Option.some.injEq, Prod.mk.injEq] at h
      obtain ⟨rfl, rfl⟩ := h
      have HT := Aside0.mk ht
      have OFC := fun w => of_any 5 a1_0 a1_1 a1_2 w
      have FIC := fun w => fits_any 5 a1_0 a1_1 a1_2 w
      rw [hof] at OFC FIC
      rw [hf] at FIC
      have OFC := Aside0.mk OFC
      have FIC := Aside0.mk FIC
      clear ht hof n4 hf
      have t1 := ta_45_9
      have t2 := ta_45_45
      go_enter Try.func11, Try.ntmps11
      go_wp2_with (first
        | (go_at_call 19; refine (OFC.out _).mono ?_; rintro e w1 ⟨rfl, hb1⟩; have d1 : w1.cell? ⟨w.heap.size, 1, none⟩ = some (.int .i64 5) := (hb1.cell (p := ⟨w.heap.size, 1, none⟩) (by simp; omega)).trans (by rw [cell_of_row _ _ _ _ _ _ (heap_alloc2_old _ _ _)]; rfl))
        | (go_at_call 20; refine (FIC.out _).mono ?_; rintro e w2 ⟨rfl, ⟨m2, rfl⟩⟩)
        | (go_at_call 21; refine (vari_Put.calls k (a1_2 + 1) t _ HT.out).mono ?_; rintro e w4 ⟨v0, rfl, hr, hb4⟩))
      have HB1 : Below w.heap.size w w1 := below_then (((Below.refl _ _).alloc (Nat.le_refl _) _).alloc (by simp) _) (by simp; omega) hb1
      go_ret2
      exact ⟨_, rfl, Kd.R_lower hr (by simpa using HB1.size), below_then (pw_below_drewN HB1 _) (by simpa using HB1.size) hb4⟩
  · rw [if_neg hf] at h
    have hf : fitsV a0_1 a1_0 a1_1 a1_2 = false := by simpa using hf
    simp only [Option.some.injEq, Prod.mk.injEq] at h
    obtain ⟨rfl, rfl⟩ := h
    have OFC := Aside0.mk (fun w => of_any a0_1 a1_0 a1_1 a1_2 w)
    have FIC := fun w => fits_any a0_1 a1_0 a1_1 a1_2 w
    rw [hf] at FIC
    have FIC := Aside0.mk FIC
    clear hf
    go_enter Try.func11, Try.ntmps11
    go_wp2_with (first
      | (go_at_call 19; refine (OFC.out _).mono ?_; rintro e w1 ⟨rfl, hb1⟩; have d1 : w1.cell? ⟨w.heap.size, 1, none⟩ = some (.int .i64 a0_1) := (hb1.cell (p := ⟨w.heap.size, 1, none⟩) (by simp; omega)).trans (by rw [cell_of_row _ _ _ _ _ _ (heap_alloc2_old _ _ _)]; rfl))
      | (go_at_call 20; refine (FIC.out _).mono ?_; rintro e w2 ⟨rfl, ⟨m2, rfl⟩⟩))
    have HB1 : Below w.heap.size w w1 := below_then (((Below.refl _ _).alloc (Nat.le_refl _) _).alloc (by simp) _) (by simp; omega) hb1
    go_ret2
    exact ⟨_, rfl, Kd.R_nil _ _ _ _ _, pw_below_drewN HB1 _⟩

/-! ### value_Fits: function 16 -/
def value_Fits.f (a0_0 : ByteArray) (a0_1 : Int) (a0_2 : ByteArray) (a1_0 : Int) (a1_1 : ByteArray) (a1_2 : Int) : Option Bool := some (fitsV a0_1 a1_0 a1_1 a1_2)
set_option maxHeartbeats 4000000 in
theorem value_Fits.calls (a0_0 : ByteArray) (a0_1 : Int) (a0_2 : ByteArray) (a1_0 : Int) (a1_1 : ByteArray) (a1_2 : Int) (r : Bool) (w : World) (h : value_Fits.f a0_0 a0_1 a0_2 a1_0 a1_1 a1_2 = some r) :
    Calls Try.prog 16 #[.agg #[.string a0_0, .int .i64 a0_1, .string a0_2], .agg #[.int .i64 a1_0, .string a1_1, .int .i64 a1_2]] w fun e w' => e = .returned (.bool r) ∧ Below w.heap.size w w' := by
  obtain rfl := Option.some.inj h
  clear h
  go_enter Try.func16, Try.ntmps16
  go_wp2
  obtain ⟨W, hW⟩ : ∃ W : World, W = (w.alloc (.cells #[.string a0_0, .int .i64 a0_1, .string a0_2] 23)).alloc (.cells #[.int .i64 a1_0, .string a1_1, .int .i64 a1_2] 25) := ⟨_, rfl⟩
  rw [← hW]
  have c1 : W.cell? ⟨w.heap.size, 1, none⟩ = some (.int .i64 a0_1) := by rw [hW, cell_of_row _ _ _ _ _ _ (heap_alloc2_old _ _ _)]; rfl
  have c2 : W.cell? ⟨w.heap.size + 1, 0, none⟩ = some (.int .i64 a1_0) := by rw [hW, cell_of_row _ _ _ _ _ _ (heap_alloc2_new _ _ _)]; rfl
  have c3 : W.cell? ⟨w.heap.size + 1, 1, none⟩ = some (.string a1_1) := by rw [hW, cell_of_row _ _ _ _ _ _ (heap_alloc2_new _ _ _)]; rfl
  have c4 : W.cell? ⟨w.heap.size + 1, 2, none⟩ = some (.int .i64 a1_2) := by rw [hW, cell_of_row _ _ _ _ _ _ (heap_alloc2_new _ _ _)]; rfl
  have hB : Below w.heap.size w W := by rw [hW]; exact ((Below.refl _ _).alloc (Nat.le_refl _) _).alloc (by simp) _
  have hs : w.heap.size + 2 = W.heap.size := by rw [hW]; simp
  have hl1 : w.heap.size < W.heap.size := by omega
  have hl2 : w.heap.size + 1 < W.heap.size := by omega
  clear hW hs
  go_region_held3 (fun w' => w'.cell? ⟨w.heap.size, 1, none⟩ = some (.int .i64 a0_1) ∧ w'.cell? ⟨w.heap.size + 1, 0, none⟩ = some (.int .i64 a1_0) ∧ w'.cell? ⟨w.heap.size + 1, 1, none⟩ = some (.string a1_1) ∧ w'.cell? ⟨w.heap.size + 1, 2, none⟩ = some (.int .i64 a1_2))
    (first | exact ⟨c1, c2, c3, c4⟩ | exact ⟨d1, d2, d3, d4⟩ | exact ⟨e1, e2, e3, e4⟩)
    (first
      | (go_at_call 19
         refine (of_any a0_1 a1_0 a1_1 a1_2 _).mono ?_
         rintro e w1 ⟨rfl, hb1⟩
         have d1 := (hb1.cell (p := ⟨w.heap.size, 1, none⟩) (by simpa using hl1)).trans c1
         have d2 := (hb1.cell (p := ⟨w.heap.size + 1, 0, none⟩) (by simpa using hl2)).trans c2
         have d3 := (hb1.cell (p := ⟨w.heap.size + 1, 1, none⟩) (by simpa using hl2)).trans c3
         have d4 := (hb1.cell (p := ⟨w.heap.size + 1, 2, none⟩) (by simpa using hl2)).trans c4)
      | (go_at_call 20
         refine (fits_any a0_1 a1_0 a1_1 a1_2 _).mono ?_
         rintro e w2 ⟨rfl, hd2⟩
         obtain ⟨m2, rfl⟩ := hd2.out
         have e1 : (w1.drewN m2).cell? ⟨w.heap.size, 1, none⟩ = some (.int .i64 a0_1) := d1
         have e2 : (w1.drewN m2).cell? ⟨w.heap.size + 1, 0, none⟩ = some (.int .i64 a1_0) := d2
         have e3 : (w1.drewN m2).cell? ⟨w.heap.size + 1, 1, none⟩ = some (.string a1_1) := d3
         have e4 : (w1.drewN m2).cell? ⟨w.heap.size + 1, 2, none⟩ = some (.int .i64 a1_2) := d4))
  go_wp2
  go_ret
  exact ⟨rfl, pw_below_drewN (below_then (below_drew hB) hB.size hb1) _⟩

end Go.Proofs.Ytepgcejgjfeolaa.PTl
