-- Written by wip/tools/myprint.py, a program of the prover's own, over the kit's print; the contracts named 'HAND' there are typed by hand.
import Derived.Test.YtknkncdlcoglpaaDoorPFrx0
import Derived.Test.YtknkncdlcoglpaaDoorPFrx1
import Derived.Test.YtknkncdlcoglpaaDoorPFrx2
import Derived.Test.YtknkncdlcoglpaaDoorPFrx6
namespace Go.Proofs.YtknkncdlcoglpaaDoor.PFr
open Go.RowKit Go.Proofs.YtknkncdlcoglpaaDoorW.PrintWords Go.Proofs.YtknkncdlcoglpaaDoorW.PrintLast Go.Proofs.YtknkncdlcoglpaaDoorW.PrintMore
attribute [local go_sem] max2_int min2_int max_two min_two max_three min_three max_four min_four   -- for this text's walks alone
set_option linter.unusedVariables false
set_option linter.unusedSimpArgs false

/-! ### foliatelaw04_awake: function 10 -/
def foliatelaw04_awake.f (k : Nat)  : Option (Bool) := (flow_Put.f k 0 ([] : List (List Int))).bind fun bt209 => ((flow_Put.f k 300 (([(([5] : List Int))] : List (List Int)))).bind fun bt219 => ((flow_Get.f k bt219.1).bind fun bt223 => ((flow_Cuts.f k bt219.1).bind fun bt229 => (if bt209.2 = 0 then (if (bt209.1.length : Int) = 24 then (if bt219.2 = 0 then (if (bt219.1.length : Int) = 37 then (if bt223.2.2 = 0 then (if bt223.1 = 300 then (if (bt223.2.1.length : Int) = 1 then (if bt229.2 = true then (if (bt229.1.length : Int) = 4 then (if 3 < (bt229.1.length : Int) then (if (rd bt229.1 3) = 37 then ((flow_May.f bt223.1 bt223.2.1).bind fun t234 => (if t234 = true then ((flow_Same.f k bt223.1 bt223.2.1 bt223.1 bt223.2.1).bind fun t235 => (some t235)) else (none))) else (none)) else (none)) else (none)) else (none)) else (none)) else (none)) else (none)) else (none)) else (none)) else (none)) else (none)))))
set_option maxHeartbeats 8000000 in
set_option maxRecDepth 100000 in
theorem foliatelaw04_awake.calls (k : Nat)  (r : Bool) (w : World) (h : foliatelaw04_awake.f k  = some r) (hE : errT w) :
    Calls Tryd.prog 10 #[] w fun e w' => e = .returned (.bool r) ∧ Below w.heap.size w w' := by
  have HE := Aside0.mk hE
  clear hE
  have hu25 := Tryd.underlying25
  have HB := Aside0.mk (Below.refl w.heap.size w)
  have H : ((flow_Put.f k 0 ([] : List (List Int))).bind fun bt209 => ((flow_Put.f k 300 (([(([5] : List Int))] : List (List Int)))).bind fun bt219 => ((flow_Get.f k bt219.1).bind fun bt223 => ((flow_Cuts.f k bt219.1).bind fun bt229 => (if bt209.2 = 0 then (if (bt209.1.length : Int) = 24 then (if bt219.2 = 0 then (if (bt219.1.length : Int) = 37 then (if bt223.2.2 = 0 then (if bt223.1 = 300 then (if (bt223.2.1.length : Int) = 1 then (if bt229.2 = true then (if (bt229.1.length : Int) = 4 then (if 3 < (bt229.1.length : Int) then (if (rd bt229.1 3) = 37 then ((flow_May.f bt223.1 bt223.2.1).bind fun t234 => (if t234 = true then ((flow_Same.f k bt223.1 bt223.2.1 bt223.1 bt223.2.1).bind fun t235 => (some t235)) else (none))) else (none)) else (none)) else (none)) else (none)) else (none)) else (none)) else (none)) else (none)) else (none)) else (none)) else (none)))))) = some r := h
  clear h
  replace H := Option.bind_eq_some_iff.mp H
  obtain ⟨⟨t209, t212⟩, A10, H⟩ := H
  replace H : ((flow_Put.f k 300 (([(([5] : List Int))] : List (List Int)))).bind fun bt219 => ((flow_Get.f k bt219.1).bind fun bt223 => ((flow_Cuts.f k bt219.1).bind fun bt229 => (if t212 = 0 then (if (t209.length : Int) = 24 then (if bt219.2 = 0 then (if (bt219.1.length : Int) = 37 then (if bt223.2.2 = 0 then (if bt223.1 = 300 then (if (bt223.2.1.length : Int) = 1 then (if bt229.2 = true then (if (bt229.1.length : Int) = 4 then (if 3 < (bt229.1.length : Int) then (if (rd bt229.1 3) = 37 then ((flow_May.f bt223.1 bt223.2.1).bind fun t234 => (if t234 = true then ((flow_Same.f k bt223.1 bt223.2.1 bt223.1 bt223.2.1).bind fun t235 => (some t235)) else (none))) else (none)) else (none)) else (none)) else (none)) else (none)) else (none)) else (none)) else (none)) else (none)) else (none)) else (none))))) = some r := H
  have A1 := Aside0.mk A10
  clear A10
  obtain ⟨y213, hy213⟩ : ∃ y_ : List Int, y_ = (([5] : List Int)) := ⟨_, rfl⟩
  replace H : ((flow_Put.f k 300 (([y213] : List (List Int)))).bind fun bt219 => ((flow_Get.f k bt219.1).bind fun bt223 => ((flow_Cuts.f k bt219.1).bind fun bt229 => (if t212 = 0 then (if (t209.length : Int) = 24 then (if bt219.2 = 0 then (if (bt219.1.length : Int) = 37 then (if bt223.2.2 = 0 then (if bt223.1 = 300 then (if (bt223.2.1.length : Int) = 1 then (if bt229.2 = true then (if (bt229.1.length : Int) = 4 then (if 3 < (bt229.1.length : Int) then (if (rd bt229.1 3) = 37 then ((flow_May.f bt223.1 bt223.2.1).bind fun t234 => (if t234 = true then ((flow_Same.f k bt223.1 bt223.2.1 bt223.1 bt223.2.1).bind fun t235 => (some t235)) else (none))) else (none)) else (none)) else (none)) else (none)) else (none)) else (none)) else (none)) else (none)) else (none)) else (none)) else (none))))) = some r := by first | (rw [hy213]; with_reducible exact H) | (have H2_ := (Option.bind_some _ _).symm.trans H; rw [hy213]; with_reducible exact H2_) | (have H2_ := (Option.bind_some _ _).symm.trans H; with_reducible exact H2_) | with_reducible exact H | (rw [hy213]; exact H) | exact H
  have Ny213 := Aside0.mk hy213
  clear hy213
  obtain ⟨y216, hy216⟩ : ∃ y_ : List (List Int), y_ = (([y213] : List (List Int))) := ⟨_, rfl⟩
  replace H : ((flow_Put.f k 300 y216).bind fun bt219 => ((flow_Get.f k bt219.1).bind fun bt223 => ((flow_Cuts.f k bt219.1).bind fun bt229 => (if t212 = 0 then (if (t209.length : Int) = 24 then (if bt219.2 = 0 then (if (bt219.1.length : Int) = 37 then (if bt223.2.2 = 0 then (if bt223.1 = 300 then (if (bt223.2.1.length : Int) = 1 then (if bt229.2 = true then (if (bt229.1.length : Int) = 4 then (if 3 < (bt229.1.length : Int) then (if (rd bt229.1 3) = 37 then ((flow_May.f bt223.1 bt223.2.1).bind fun t234 => (if t234 = true then ((flow_Same.f k bt223.1 bt223.2.1 bt223.1 bt223.2.1).bind fun t235 => (some t235)) else (none))) else (none)) else (none)) else (none)) else (none)) else (none)) else (none)) else (none)) else (none)) else (none)) else (none)) else (none))))) = some r := by first | (rw [hy216]; with_reducible exact H) | (have H2_ := (Option.bind_some _ _).symm.trans H; rw [hy216]; with_reducible exact H2_) | (have H2_ := (Option.bind_some _ _).symm.trans H; with_reducible exact H2_) | with_reducible exact H | (rw [hy216]; exact H) | exact H
  have Ny216 := Aside0.mk hy216
  clear hy216
  replace H := Option.bind_eq_some_iff.mp H
  obtain ⟨⟨t219, t222⟩, A20, H⟩ := H
  replace H : ((flow_Get.f k t219).bind fun bt223 => ((flow_Cuts.f k t219).bind fun bt229 => (if t212 = 0 then (if (t209.length : Int) = 24 then (if t222 = 0 then (if (t219.length : Int) = 37 then (if bt223.2.2 = 0 then (if bt223.1 = 300 then (if (bt223.2.1.length : Int) = 1 then (if bt229.2 = true then (if (bt229.1.length : Int) = 4 then (if 3 < (bt229.1.length : Int) then (if (rd bt229.1 3) = 37 then ((flow_May.f bt223.1 bt223.2.1).bind fun t234 => (if t234 = true then ((flow_Same.f k bt223.1 bt223.2.1 bt223.1 bt223.2.1).bind fun t235 => (some t235)) else (none))) else (none)) else (none)) else (none)) else (none)) else (none)) else (none)) else (none)) else (none)) else (none)) else (none)) else (none)))) = some r := H
  have A2 := Aside0.mk A20
  clear A20
  replace H := Option.bind_eq_some_iff.mp H
  obtain ⟨⟨t223, t224, t227⟩, A30, H⟩ := H
  replace H : ((flow_Cuts.f k t219).bind fun bt229 => (if t212 = 0 then (if (t209.length : Int) = 24 then (if t222 = 0 then (if (t219.length : Int) = 37 then (if t227 = 0 then (if t223 = 300 then (if (t224.length : Int) = 1 then (if bt229.2 = true then (if (bt229.1.length : Int) = 4 then (if 3 < (bt229.1.length : Int) then (if (rd bt229.1 3) = 37 then ((flow_May.f t223 t224).bind fun t234 => (if t234 = true then ((flow_Same.f k t223 t224 t223 t224).bind fun t235 => (some t235)) else (none))) else (none)) else (none)) else (none)) else (none)) else (none)) else (none)) else (none)) else (none)) else (none)) else (none)) else (none))) = some r := H
  have A3 := Aside0.mk A30
  clear A30
  replace H := Option.bind_eq_some_iff.mp H
  obtain ⟨⟨t229, t230⟩, A40, H⟩ := H
  replace H : (if t212 = 0 then (if (t209.length : Int) = 24 then (if t222 = 0 then (if (t219.length : Int) = 37 then (if t227 = 0 then (if t223 = 300 then (if (t224.length : Int) = 1 then (if t230 = true then (if (t229.length : Int) = 4 then (if 3 < (t229.length : Int) then (if (rd t229 3) = 37 then ((flow_May.f t223 t224).bind fun t234 => (if t234 = true then ((flow_Same.f k t223 t224 t223 t224).bind fun t235 => (some t235)) else (none))) else (none)) else (none)) else (none)) else (none)) else (none)) else (none)) else (none)) else (none)) else (none)) else (none)) else (none)) = some r := H
  have A4 := Aside0.mk A40
  clear A40
  by_cases c5 : t212 = 0
  · rw [if_pos c5] at H
    have c5b0 : (t212 == 0) = true := beq_iff_eq.mpr c5
    have c5b1 : (t212 != 0) = false := bne_eq_false_iff_eq.mpr c5
    clear c5
    by_cases c6 : (t209.length : Int) = 24
    · rw [if_pos c6] at H
      have c6b0 : ((t209.length : Int) == 24) = true := beq_iff_eq.mpr c6
      have c6b1 : ((t209.length : Int) != 24) = false := bne_eq_false_iff_eq.mpr c6
      clear c6
      by_cases c7 : t222 = 0
      · rw [if_pos c7] at H
        have c7b0 : (t222 == 0) = true := beq_iff_eq.mpr c7
        have c7b1 : (t222 != 0) = false := bne_eq_false_iff_eq.mpr c7
        clear c7
        by_cases c8 : (t219.length : Int) = 37
        · rw [if_pos c8] at H
          have c8b0 : ((t219.length : Int) == 37) = true := beq_iff_eq.mpr c8
          have c8b1 : ((t219.length : Int) != 37) = false := bne_eq_false_iff_eq.mpr c8
          clear c8
          by_cases c9 : t227 = 0
          · rw [if_pos c9] at H
            have c9b0 : (t227 == 0) = true := beq_iff_eq.mpr c9
            have c9b1 : (t227 != 0) = false := bne_eq_false_iff_eq.mpr c9
            clear c9
            by_cases c10 : t223 = 300
            · rw [if_pos c10] at H
              have c10b0 : (t223 == 300) = true := beq_iff_eq.mpr c10
              have c10b1 : (t223 != 300) = false := bne_eq_false_iff_eq.mpr c10
              clear c10
              by_cases c11 : (t224.length : Int) = 1
              · rw [if_pos c11] at H
                have c11b0 : ((t224.length : Int) == 1) = true := beq_iff_eq.mpr c11
                have c11b1 : ((t224.length : Int) != 1) = false := bne_eq_false_iff_eq.mpr c11
                clear c11
                by_cases c12 : t230 = true
                · subst c12
                  have H1 : (if (t229.length : Int) = 4 then (if 3 < (t229.length : Int) then (if (rd t229 3) = 37 then ((flow_May.f t223 t224).bind fun t234 => (if t234 = true then ((flow_Same.f k t223 t224 t223 t224).bind fun t235 => (some t235)) else (none))) else (none)) else (none)) else (none)) = some r := by rw [if_pos rfl] at H; exact H
                  clear H
                  have H := H1
                  clear H1
                  by_cases c13 : (t229.length : Int) = 4
                  · rw [if_pos c13] at H
                    have c13b0 : ((t229.length : Int) == 4) = true := beq_iff_eq.mpr c13
                    have c13b1 : ((t229.length : Int) != 4) = false := bne_eq_false_iff_eq.mpr c13
                    clear c13
                    by_cases c14 : 3 < (t229.length : Int)
                    · rw [if_pos c14] at H
                      have c14b0 : decide (3 < (t229.length : Int)) = true := decide_eq_true c14
                      have c14b1 : decide (3 < t229.length) = true := decide_eq_true (by omega)
                      clear c14
                      by_cases c15 : (rd t229 3) = 37
                      · rw [if_pos c15] at H
                        have c15b0 : ((rd t229 3) == 37) = true := beq_iff_eq.mpr c15
                        have c15b1 : ((rd t229 3) != 37) = false := bne_eq_false_iff_eq.mpr c15
                        clear c15
                        replace H := Option.bind_eq_some_iff.mp H
                        obtain ⟨t234, A160, H⟩ := H
                        replace H : (if t234 = true then ((flow_Same.f k t223 t224 t223 t224).bind fun t235 => (some t235)) else (none)) = some r := H
                        have A16 := Aside0.mk A160
                        clear A160
                        by_cases c17 : t234 = true
                        · subst c17
                          have H1 : ((flow_Same.f k t223 t224 t223 t224).bind fun t235 => (some t235)) = some r := by rw [if_pos rfl] at H; exact H
                          clear H
                          have H := H1
                          clear H1
                          replace H := Option.bind_eq_some_iff.mp H
                          obtain ⟨t235, A180, H⟩ := H
                          replace H : (some t235) = some r := H
                          have A18 := Aside0.mk A180
                          clear A180
                          obtain rfl := Option.some.inj H
                          go_enter Tryd.func10, Tryd.ntmps10
                          go_wp2_with (first | ((with_reducible refine gate_callee (f := 12) rfl ?_); refine goesL_ (some 11) rfl rfl Tryd.func12 (by kernel_rfl) rfl #[.agg #[.int .u32 0, .slice none 0 0]] rfl (by (try simp only [List.map_toArray, List.map_cons, List.map_nil]); first | done | rfl | (simp only [List.length_drop, List.length_take]; rfl)) ?_; (refine (flow_Put.calls k 0 _ _ ([] : List (List Int)) t209 t212 _ ?side1 ?side2 A1.out).mono ?_); (case side1 => exact Kd.C_nil _ _); (case side2 => exact Nat.le_refl _); rintro e w19 ⟨v210, rfl, ho0, hb⟩; refine ⟨_, rfl, ?_⟩; have n0_ := Aside0.mk (Kd.R_lower ho0 (below_size (by repeat (first | (with_reducible first | exact HB.out | apply below_alloc | apply pw_below_drewN | apply below_drew1) | exact HB.out)))); have n1_ := Aside0.mk (below_step (by repeat (first | (with_reducible first | exact HB.out | apply below_alloc | apply pw_below_drewN | apply below_drew1) | exact HB.out)) hb); clear HB; have HO211 := n0_; have HB := n1_; clear n0_ n1_; (try clear hb); (try clear hb2); (try clear hk); (try clear hi); (try clear ho0)) | ((with_reducible refine gate_dst (N := 15) rfl ?_); (try (refine gate_guard (by rfl) ?_; dsimp only)); refine Kd.R_lit (Kd.int .u8) _ 5 ?hg (N := 15) ?hd (xs := ([5] : List Int)) (inner := [.int .u8 5]) (ok := fun _ => True) (okp := fun _ => True) ?hr ?hp (fun _ hk => hk) trivial (Below.refl _ _) (Nat.le_refl _) (by simp) ?_; (case hd => rfl); (case hg => rfl); (case hr => first | (go_simp; done) | (go_simp; rfl)); (case hp => exact (Reps.one (show Kd.M (Kd.int .u8) _ _ _ 5 [.int .u8 5] from rfl) (Reps.none _ _))); intro v214 w20 ho21 hb hg_ hnew_; clear hg_ hnew_; (first | rw [← Ny213.out] at ho21 | (simp only [Int.reduceToNat] at ho21; rw [← Ny213.out] at ho21)); have n0_ := Aside0.mk (Kd.R_elder' (by (with_reducible repeat (first | apply Kd.R_alloc | apply Kd.R_drewN | apply Kd.R_drew)); exact HO211.out) (Kd.R_base ho21) hb); have n1_ := Aside0.mk (Kd.R_lower (Kd.R_new' ho21 (Kd.R_lt (by (with_reducible repeat (first | apply Kd.R_alloc | apply Kd.R_drewN | apply Kd.R_drew)); exact HO211.out))) (below_size (by repeat (first | (with_reducible first | exact HB.out | apply below_alloc | apply pw_below_drewN | apply below_drew1) | exact HB.out)))); have n2_ := Aside0.mk (below_step (by repeat (first | (with_reducible first | exact HB.out | apply below_alloc | apply pw_below_drewN | apply below_drew1) | exact HB.out)) hb); clear HO211; clear HB; have HO211 := n0_; have HO215 := n1_; have HB := n2_; clear n0_ n1_ n2_; clear hb ho21; obtain ⟨Ao22, co22, eo22⟩ := Kd.R_slice HO215.out; subst eo22) | ((with_reducible refine gate_dst (N := 16) rfl ?_); (try (refine gate_guard (by rfl) ?_; dsimp only)); refine Kd.N_lit (Kd.slice 5 (Kd.int .u8)) _ 26 ?hg (N' := 16) ?hd (xs := ([y213] : List (List Int))) (inner := [.slice Ao22 y213.length co22]) (ok := (fun k_ => some k_ ≠ (v210 : Value).ownBlock)) (okp := (fun k_ => some k_ ≠ (v210 : Value).ownBlock)) ?hr ?hp (fun _ hk => hk) ((show ∀ k_, w20.heap.size ≤ k_ → (fun k_ => some k_ ≠ (v210 : Value).ownBlock) k_ from fun k_ hk => Kd.fresh' (Kd.R_lt (by (with_reducible repeat (first | apply Kd.R_alloc | apply Kd.R_drewN | apply Kd.R_drew)); exact HO211.out)) k_ hk) _ (Nat.le_refl _)) (Below.refl _ _) (Nat.le_refl _) (by simp) ?_; (case hd => rfl); (case hg => rfl); (case hr => first | (go_simp; done) | (go_simp; rfl)); (case hp => exact (Reps.one (show Kd.FK (Kd.slice 5 (Kd.int .u8)) _ _ y213 [.slice Ao22 y213.length co22] from (Kd.FK_slice_mk (Kd.R_reads' (Kd.R_mono (ok' := (fun k_ => some k_ ≠ (v210 : Value).ownBlock)) (HO215.out) (fun k_ hk => hk.2))).2.1 (Kd.R_F (Kd.R_mono (ok' := (fun k_ => some k_ ≠ (v210 : Value).ownBlock)) (HO215.out) (fun k_ hk => hk.2))))) (Reps.none _ _))); intro v217 w23 ho24 hb hg_ hnew_; clear hg_ hnew_; (first | rw [← Ny216.out] at ho24 | (simp only [Int.reduceToNat] at ho24; rw [← Ny216.out] at ho24)); have n0_ := Aside0.mk (Kd.R_below (by (with_reducible repeat (first | apply Kd.R_alloc | apply Kd.R_drewN | apply Kd.R_drew)); exact HO211.out) hb); have n1_ := Aside0.mk (Kd.N_lower ho24 (below_size (by repeat (first | (with_reducible first | exact HB.out | apply below_alloc | apply pw_below_drewN | apply below_drew1) | exact HB.out)))); have n2_ := Aside0.mk (below_step (by repeat (first | (with_reducible first | exact HB.out | apply below_alloc | apply pw_below_drewN | apply below_drew1) | exact HB.out)) hb); clear HO211; clear HB; clear HO215; have HO211 := n0_; have HO218 := n1_; have HB := n2_; clear n0_ n1_ n2_; clear hb ho24; obtain ⟨Ao25, co25, eo25⟩ := Kd.N_slice HO218.out; subst eo25) | ((with_reducible refine gate_callee (f := 12) rfl ?_); refine goesL_ (some 18) rfl rfl Tryd.func12 (by kernel_rfl) rfl #[.agg #[.int .u32 300, .slice Ao25 y216.length co25]] rfl (by (try simp only [List.map_toArray, List.map_cons, List.map_nil]); first | done | rfl | (simp only [List.length_drop, List.length_take]; rfl)) ?_; (with_reducible refine (flow_Put.calls k 300 _ _ y216 t219 t222 _ ?side1 ?side2 A2.out).mono ?_); (case side1 => repeat (first | exact (Kd.N_reads' HO218.out).2.2 | (with_reducible refine Kd.C_alloc ?_ _) | (with_reducible refine Kd.C_drewN ?_ _) | (with_reducible refine Kd.C_drew ?_))); (case side2 => exact (Kd.N_reads' HO218.out).2.1); rintro e w26 ⟨v220, rfl, ho0, hb⟩; refine ⟨_, rfl, ?_⟩; have n0_ := Aside0.mk (Kd.R_elder' (by (with_reducible repeat (first | apply Kd.R_alloc | apply Kd.R_drewN | apply Kd.R_drew)); exact HO211.out) (Kd.R_base ho0) hb); have n1_ := Aside0.mk (Kd.N_elder' (by (with_reducible repeat (first | apply Kd.N_alloc | apply Kd.N_drewN | apply Kd.N_drew)); exact HO218.out) (Kd.R_base ho0) hb); have n2_ := Aside0.mk (Kd.R_lower (Kd.R_new' ho0 (Kd.R_lt (by (with_reducible repeat (first | apply Kd.R_alloc | apply Kd.R_drewN | apply Kd.R_drew)); exact HO211.out))) (below_size (by repeat (first | (with_reducible first | exact HB.out | apply below_alloc | apply pw_below_drewN | apply below_drew1) | exact HB.out)))); have n3_ := Aside0.mk (below_step (by repeat (first | (with_reducible first | exact HB.out | apply below_alloc | apply pw_below_drewN | apply below_drew1) | exact HB.out)) hb); clear HO211; clear HO218; clear HB; have HO211 := n0_; have HO218 := n1_; have HO221 := n2_; have HB := n3_; clear n0_ n1_ n2_ n3_; (try clear hb); (try clear hb2); (try clear hk); (try clear hi); (try clear ho0); obtain ⟨Ao27, co27, eo27⟩ := Kd.R_slice HO221.out; subst eo27) | ((with_reducible refine gate_callee (f := 14) rfl ?_); refine goesL_ (some 23) rfl rfl Tryd.func14 (by kernel_rfl) rfl #[.slice Ao27 t219.length co27] rfl (by (try simp only [List.map_toArray, List.map_cons, List.map_nil]); first | done | rfl | (simp only [List.length_drop, List.length_take]; rfl)) ?_; (with_reducible refine (flow_Get.calls k _ _ t219 t223 t224 t227 _ ?side1 ?side2 A3.out ?errE).mono ?_); (case errE => exact errT_below HE.out (by repeat (first | (with_reducible first | exact HB.out | apply below_alloc | apply pw_below_drewN | apply below_drew1) | exact HB.out)) (Nat.le_refl _)); (case side1 => repeat (first | exact (Kd.R_reads' HO221.out).2.2 | (with_reducible refine Kd.C_alloc ?_ _) | (with_reducible refine Kd.C_drewN ?_ _) | (with_reducible refine Kd.C_drew ?_))); (case side2 => exact (Kd.R_reads' HO221.out).2.1); rintro e w28 ⟨v225, rfl, ho0, hb⟩; refine ⟨_, rfl, ?_⟩; have n0_ := Aside0.mk (Kd.R_below (by (with_reducible repeat (first | apply Kd.R_alloc | apply Kd.R_drewN | apply Kd.R_drew)); exact HO211.out) hb); have n1_ := Aside0.mk (Kd.N_elder' (by (with_reducible repeat (first | apply Kd.N_alloc | apply Kd.N_drewN | apply Kd.N_drew)); exact HO218.out) (by first | exact Kd.N_base ho0 | exact Kd.S_base ho0) hb); have n2_ := Aside0.mk (Kd.R_below (by (with_reducible repeat (first | apply Kd.R_alloc | apply Kd.R_drewN | apply Kd.R_drew)); exact HO221.out) hb); have n3_ := Aside0.mk (Kd.N_lower (Kd.N_mono (ok' := fun k_ => some k_ ≠ (v210 : Value).ownBlock ∧ some k_ ≠ (.slice Ao25 y216.length co25 : Value).ownBlock ∧ some k_ ≠ (.slice Ao27 t219.length co27 : Value).ownBlock) (Kd.S_N (Kd.S_bound ho0)) (fun k_ hk_ => ⟨(Kd.fresh' (Kd.R_lt (by (with_reducible repeat (first | apply Kd.R_alloc | apply Kd.R_drewN | apply Kd.R_drew)); exact HO211.out)) k_ hk_.2.1), (Kd.fresh' (Kd.N_lt (by (with_reducible repeat (first | apply Kd.N_alloc | apply Kd.N_drewN | apply Kd.N_drew)); exact HO218.out)) k_ hk_.2.1), (Kd.fresh' (Kd.R_lt (by (with_reducible repeat (first | apply Kd.R_alloc | apply Kd.R_drewN | apply Kd.R_drew)); exact HO221.out)) k_ hk_.2.1)⟩)) (below_size (by repeat (first | (with_reducible first | exact HB.out | apply below_alloc | apply pw_below_drewN | apply below_drew1) | exact HB.out)))); have n4_ := Aside0.mk (below_step (by repeat (first | (with_reducible first | exact HB.out | apply below_alloc | apply pw_below_drewN | apply below_drew1) | exact HB.out)) hb); clear HO211; clear HO218; clear HO221; clear HB; have HO211 := n0_; have HO218 := n1_; have HO221 := n2_; have HO226 := n3_; have HB := n4_; clear n0_ n1_ n2_ n3_ n4_; (try clear hb); (try clear hb2); (try clear hk); (try clear hi); (try clear ho0)) | ((with_reducible refine gate_dst (N := 5) rfl ?_); (try (refine gate_guard (by rfl) ?_; dsimp only)); refine box_event ?hg (N := 5) ?hd (cs := #[.int .u32 0, .slice none 0 0]) (t := 25) ?hr ?_; (case hd => rfl); (case hg => rfl); (case hr => first | (go_simp; done) | (go_simp; rfl)); intro gb228 hg w29 hbox hb; have n0_ := Aside0.mk (Kd.R_below (by (with_reducible repeat (first | apply Kd.R_alloc | apply Kd.R_drewN | apply Kd.R_drew)); exact HO211.out) hb); have n1_ := Aside0.mk (Kd.N_below (Kd.N_elderB (by (with_reducible repeat (first | apply Kd.N_alloc | apply Kd.N_drewN | apply Kd.N_drew)); exact HO218.out) gb228 (Nat.le_of_eq hg.symm)) hb); have n2_ := Aside0.mk (Kd.R_below (by (with_reducible repeat (first | apply Kd.R_alloc | apply Kd.R_drewN | apply Kd.R_drew)); exact HO221.out) hb); have n3_ := Aside0.mk (Kd.N_below (Kd.N_elderB (by (with_reducible repeat (first | apply Kd.N_alloc | apply Kd.N_drewN | apply Kd.N_drew)); exact HO226.out) gb228 (Nat.le_of_eq hg.symm)) hb); have n4_ := Aside0.mk (below_step (by repeat (first | (with_reducible first | exact HB.out | apply below_alloc | apply pw_below_drewN | apply below_drew1) | exact HB.out)) hb); have n5_ := Aside0.mk (hbox); have n6_ := Aside0.mk ((by rw [hg]; exact (below_size (by repeat (first | (with_reducible first | exact HB.out | apply below_alloc | apply pw_below_drewN | apply below_drew1) | exact HB.out))) : w.heap.size ≤ gb228)); have n7_ := Aside0.mk ((by rw [hg]; exact (below_size (by repeat (first | (with_reducible first | exact HB.out | apply below_alloc | apply pw_below_drewN | apply below_drew1) | exact HB.out))) : w.heap.size ≤ gb228)); clear HO211; clear HO218; clear HO221; clear HO226; clear HB; have HO211 := n0_; have HO218 := n1_; have HO221 := n2_; have HO226 := n3_; have HB := n4_; have BK228 := n5_; have GW228 := n6_; have GE228 := n7_; clear n0_ n1_ n2_ n3_ n4_ n5_ n6_ n7_; clear hb hbox hg; have hcz30_0 : w29.cell? ⟨gb228, 0, none⟩ = some (.int .u32 0) := (blk_cell BK228.out 0).trans rfl; have hcz30_1 : w29.cell? ⟨gb228, 1, none⟩ = some (.slice none 0 0) := (blk_cell BK228.out 1).trans rfl; have hfz30_0 := blk_frozen BK228.out 0; have hfz30_1 := blk_frozen BK228.out 1; obtain ⟨Ao31, co31, eo31⟩ := Kd.N_slice HO226.out; subst eo31) | ((with_reducible refine gate_callee (f := 16) rfl ?_); refine goesL_ (some 28) rfl rfl Tryd.func16 (by kernel_rfl) rfl #[.slice Ao27 t219.length co27] rfl (by (try simp only [List.map_toArray, List.map_cons, List.map_nil]); first | done | rfl | (simp only [List.length_drop, List.length_take]; rfl)) ?_; (with_reducible refine (flow_Cuts.calls k _ _ t219 t229 true _ ?side1 ?side2 A4.out ?errE).mono ?_); (case errE => exact errT_below HE.out (by repeat (first | (with_reducible first | exact HB.out | apply below_alloc | apply pw_below_drewN | apply below_drew1 | refine below_set ?_ GE228.out) | exact HB.out)) (Nat.le_refl _)); (case side1 => refine (Kd.R_reads' (e := 5) (base := w.heap.size) (ok := fun k_ => (True ∧ some k_ ≠ (v210 : Value).ownBlock)) (n := t219.length) (c := co27) ?_).2.2; exact (by (with_reducible repeat (first | apply Kd.R_alloc | apply Kd.R_drewN | apply Kd.R_drew)); exact (Kd.R_mono (Kd.R_far (p := ⟨gb228, 1, none⟩) (Kd.R_far (p := ⟨gb228, 0, none⟩) (Kd.R_types HO221.out BK228.out (by decide)) (fun _ hk => hk.2) (.int .u32 t223)) (fun _ hk => hk.2) (.slice Ao31 t224.length co31)) (fun _ h_ => h_.1)))); (case side2 => exact (Kd.R_reads' HO221.out).2.1); rintro e w32 ⟨v231, rfl, ho0, hb⟩; refine ⟨_, rfl, ?_⟩; have n0_ := Aside0.mk (Kd.R_below (by (with_reducible repeat (first | apply Kd.R_alloc | apply Kd.R_drewN | apply Kd.R_drew)); exact (Kd.R_mono (Kd.R_far (p := ⟨gb228, 1, none⟩) (Kd.R_far (p := ⟨gb228, 0, none⟩) (Kd.R_types HO211.out BK228.out (by decide)) (fun _ hk => hk.2) (.int .u32 t223)) (fun _ hk => hk.2) (.slice Ao31 t224.length co31)) (fun _ h_ => h_.1))) hb); have n1_ := Aside0.mk (Kd.N_elder' (by (with_reducible repeat (first | apply Kd.N_alloc | apply Kd.N_drewN | apply Kd.N_drew)); exact (Kd.N_mono (Kd.N_far (p := ⟨gb228, 1, none⟩) (Kd.N_far (p := ⟨gb228, 0, none⟩) (Kd.N_mono HO218.out (fun k_ hk => (⟨hk, hk.2⟩ : _ ∧ k_ ≠ gb228))) (fun _ hk => hk.2) (.int .u32 t223)) (fun _ hk => hk.2) (.slice Ao31 t224.length co31)) (fun _ h_ => h_.1))) (Kd.R_base ho0) hb); have n2_ := Aside0.mk (Kd.R_below (by (with_reducible repeat (first | apply Kd.R_alloc | apply Kd.R_drewN | apply Kd.R_drew)); exact (Kd.R_mono (Kd.R_far (p := ⟨gb228, 1, none⟩) (Kd.R_far (p := ⟨gb228, 0, none⟩) (Kd.R_types HO221.out BK228.out (by decide)) (fun _ hk => hk.2) (.int .u32 t223)) (fun _ hk => hk.2) (.slice Ao31 t224.length co31)) (fun _ h_ => h_.1))) hb); have n3_ := Aside0.mk (Kd.N_elder' (by (with_reducible repeat (first | apply Kd.N_alloc | apply Kd.N_drewN | apply Kd.N_drew)); exact (Kd.N_mono (Kd.N_far (p := ⟨gb228, 1, none⟩) (Kd.N_far (p := ⟨gb228, 0, none⟩) (Kd.N_mono HO226.out (fun k_ hk => (⟨hk, hk.2⟩ : _ ∧ k_ ≠ gb228))) (fun _ hk => hk.2) (.int .u32 t223)) (fun _ hk => hk.2) (.slice Ao31 t224.length co31)) (fun _ h_ => h_.1))) (Kd.R_base ho0) hb); have n4_ := Aside0.mk (Kd.R_lower ho0 (below_size (by repeat (first | (with_reducible first | exact HB.out | apply below_alloc | apply pw_below_drewN | apply below_drew1 | refine below_set ?_ GE228.out) | exact HB.out)))); have n5_ := Aside0.mk (blk_below (g := gb228) (o := .cells #[.int .u32 t223, .slice Ao31 t224.length co31] 25 (0, 0)) (by (with_reducible repeat (first | refine blk_drewN ?_ _ | refine blk_drew ?_ | refine blk_alloc ?_ _)); refine blk_put (cs := #[.int .u32 t223, .slice none 0 0]) ?_ 1 _ rfl; (with_reducible repeat (first | refine blk_drewN ?_ _ | refine blk_drew ?_ | refine blk_alloc ?_ _)); refine blk_put (cs := #[.int .u32 0, .slice none 0 0]) ?_ 0 _ rfl; (with_reducible repeat (first | refine blk_drewN ?_ _ | refine blk_drew ?_ | refine blk_alloc ?_ _)); exact BK228.out) hb); have n6_ := Aside0.mk (below_step (by repeat (first | (with_reducible first | exact HB.out | apply below_alloc | apply pw_below_drewN | apply below_drew1 | refine below_set ?_ GE228.out) | exact HB.out)) hb); clear HO211; clear HO218; clear HO221; clear HO226; clear BK228; clear HB; have HO211 := n0_; have HO218 := n1_; have HO221 := n2_; have HO226 := n3_; have HO232 := n4_; have BK228 := n5_; have HB := n6_; clear n0_ n1_ n2_ n3_ n4_ n5_ n6_; (try clear hb); (try clear hb2); (try clear hk); (try clear hi); (try clear ho0); obtain ⟨Ao33, co33, eo33⟩ := Kd.R_slice HO211.out; subst eo33; have hcz34_0 : w32.cell? ⟨gb228, 0, none⟩ = some (.int .u32 t223) := (blk_cell BK228.out 0).trans rfl; have hcz34_1 : w32.cell? ⟨gb228, 1, none⟩ = some (.slice Ao31 t224.length co31) := (blk_cell BK228.out 1).trans rfl; have hfz34_0 := blk_frozen BK228.out 0; have hfz34_1 := blk_frozen BK228.out 1; obtain ⟨Ao35, co35, eo35⟩ := Kd.R_slice HO232.out; subst eo35; have p233 : 0 ≤ (3 : Int) := (by omega); have q233 : 3 < (t229.length : Int) := of_decide_eq_true (by first | (with_reducible assumption) | assumption); obtain ⟨ad233, e233, hx233_0⟩ := Kd.at_int (Kd.R_reads' HO232.out).2.2 3 p233 q233; cases e233; (try simp only [show (3 : Int).toNat = 3 from rfl, Nat.reduceMul, Nat.reduceEqDiff, Go.Addr.add, ↓reduceIte] at hx233_0); have qi233 : (3 < t229.length) = True := eq_true (by omega); (try rw [show ((3 : Int)).toNat = 3 from rfl] at hx233_0); replace p233 := eq_true p233; replace q233 := eq_true q233) | (go_at_call 21; (with_reducible refine (flow_May.calls t223 _ _ t224 true _ ?side1 ?side2 A16.out).mono ?_); (case side1 => repeat (first | exact (Kd.N_reads' HO226.out).2.2 | (with_reducible refine Kd.C_alloc ?_ _) | (with_reducible refine Kd.C_drewN ?_ _) | (with_reducible refine Kd.C_drew ?_))); (case side2 => exact (Kd.N_reads' HO226.out).2.1); rintro e w36 ⟨rfl, hb⟩; have n0_ := Aside0.mk (Kd.R_below (by (with_reducible repeat (first | apply Kd.R_alloc | apply Kd.R_drewN | apply Kd.R_drew)); exact HO211.out) hb); have n1_ := Aside0.mk (Kd.N_below (by (with_reducible repeat (first | apply Kd.N_alloc | apply Kd.N_drewN | apply Kd.N_drew)); exact HO218.out) hb); have n2_ := Aside0.mk (Kd.R_below (by (with_reducible repeat (first | apply Kd.R_alloc | apply Kd.R_drewN | apply Kd.R_drew)); exact HO221.out) hb); have n3_ := Aside0.mk (Kd.N_below (by (with_reducible repeat (first | apply Kd.N_alloc | apply Kd.N_drewN | apply Kd.N_drew)); exact HO226.out) hb); have n4_ := Aside0.mk (Kd.R_below (by (with_reducible repeat (first | apply Kd.R_alloc | apply Kd.R_drewN | apply Kd.R_drew)); exact HO232.out) hb); have n5_ := Aside0.mk (blk_below (g := gb228) (o := .cells #[.int .u32 t223, .slice Ao31 t224.length co31] 25 (0, 0)) (by (with_reducible repeat (first | refine blk_drewN ?_ _ | refine blk_drew ?_ | refine blk_alloc ?_ _)); exact BK228.out) hb); have n6_ := Aside0.mk (below_step (by repeat (first | (with_reducible first | exact HB.out | apply below_alloc | apply pw_below_drewN | apply below_drew1 | refine below_set ?_ GE228.out) | exact HB.out)) hb); clear HO211; clear HO218; clear HO221; clear HO226; clear HO232; clear BK228; clear HB; have HO211 := n0_; have HO218 := n1_; have HO221 := n2_; have HO226 := n3_; have HO232 := n4_; have BK228 := n5_; have HB := n6_; clear n0_ n1_ n2_ n3_ n4_ n5_ n6_; (try clear hb); (try clear hb2); (try clear hk); (try clear hi); have hcz37_0 : w36.cell? ⟨gb228, 0, none⟩ = some (.int .u32 t223) := (blk_cell BK228.out 0).trans rfl; have hcz37_1 : w36.cell? ⟨gb228, 1, none⟩ = some (.slice Ao31 t224.length co31) := (blk_cell BK228.out 1).trans rfl; have hfz37_0 := blk_frozen BK228.out 0; have hfz37_1 := blk_frozen BK228.out 1) | (go_at_call 22; (with_reducible refine (flow_Same.calls k t223 _ _ t224 t223 _ _ t224 t235 _ ?side1 ?side2 ?side3 ?side4 A18.out).mono ?_); (case side1 => repeat (first | exact (Kd.N_reads' HO226.out).2.2 | (with_reducible refine Kd.C_alloc ?_ _) | (with_reducible refine Kd.C_drewN ?_ _) | (with_reducible refine Kd.C_drew ?_))); (case side2 => exact (Kd.N_reads' HO226.out).2.1); (case side3 => repeat (first | exact (Kd.N_reads' HO226.out).2.2 | (with_reducible refine Kd.C_alloc ?_ _) | (with_reducible refine Kd.C_drewN ?_ _) | (with_reducible refine Kd.C_drew ?_))); (case side4 => exact (Kd.N_reads' HO226.out).2.1); rintro e w38 ⟨rfl, hb⟩; have n0_ := Aside0.mk (Kd.R_below (by (with_reducible repeat (first | apply Kd.R_alloc | apply Kd.R_drewN | apply Kd.R_drew)); exact HO211.out) hb); have n1_ := Aside0.mk (Kd.N_below (by (with_reducible repeat (first | apply Kd.N_alloc | apply Kd.N_drewN | apply Kd.N_drew)); exact HO218.out) hb); have n2_ := Aside0.mk (Kd.R_below (by (with_reducible repeat (first | apply Kd.R_alloc | apply Kd.R_drewN | apply Kd.R_drew)); exact HO221.out) hb); have n3_ := Aside0.mk (Kd.N_below (by (with_reducible repeat (first | apply Kd.N_alloc | apply Kd.N_drewN | apply Kd.N_drew)); exact HO226.out) hb); have n4_ := Aside0.mk (Kd.R_below (by (with_reducible repeat (first | apply Kd.R_alloc | apply Kd.R_drewN | apply Kd.R_drew)); exact HO232.out) hb); have n5_ := Aside0.mk (blk_below (g := gb228) (o := .cells #[.int .u32 t223, .slice Ao31 t224.length co31] 25 (0, 0)) (by (with_reducible repeat (first | refine blk_drewN ?_ _ | refine blk_drew ?_ | refine blk_alloc ?_ _)); exact BK228.out) hb); have n6_ := Aside0.mk (below_step (by repeat (first | (with_reducible first | exact HB.out | apply below_alloc | apply pw_below_drewN | apply below_drew1 | refine below_set ?_ GE228.out) | exact HB.out)) hb); clear HO211; clear HO218; clear HO221; clear HO226; clear HO232; clear BK228; clear HB; have HO211 := n0_; have HO218 := n1_; have HO221 := n2_; have HO226 := n3_; have HO232 := n4_; have BK228 := n5_; have HB := n6_; clear n0_ n1_ n2_ n3_ n4_ n5_ n6_; (try clear hb); (try clear hb2); (try clear hk); (try clear hi)))
                          go_ret
                          exact ⟨by first | rfl | (simp [errW_none, errW_some] <;> rfl) | (simp [*, errW_none, errW_some] <;> rfl), by repeat (first | (with_reducible first | exact HB.out | apply below_alloc | apply pw_below_drewN | apply below_drew1 | refine below_set ?_ GE228.out) | exact HB.out)⟩
                        · replace c17 := Bool.eq_false_iff.mpr c17
                          subst c17
                          have H1 : (none) = some r := by rw [if_neg (show ¬ (false = true) by decide)] at H; exact H
                          clear H
                          have H := H1
                          clear H1
                          exact absurd H (by simp)
                      · rw [if_neg c15] at H
                        exact absurd H (by simp)
                    · rw [if_neg c14] at H
                      exact absurd H (by simp)
                  · rw [if_neg c13] at H
                    exact absurd H (by simp)
                · replace c12 := Bool.eq_false_iff.mpr c12
                  subst c12
                  have H1 : (none) = some r := by rw [if_neg (show ¬ (false = true) by decide)] at H; exact H
                  clear H
                  have H := H1
                  clear H1
                  exact absurd H (by simp)
              · rw [if_neg c11] at H
                exact absurd H (by simp)
            · rw [if_neg c10] at H
              exact absurd H (by simp)
          · rw [if_neg c9] at H
            exact absurd H (by simp)
        · rw [if_neg c8] at H
          exact absurd H (by simp)
      · rw [if_neg c7] at H
        exact absurd H (by simp)
    · rw [if_neg c6] at H
      exact absurd H (by simp)
  · rw [if_neg c5] at H
    exact absurd H (by simp)

/-! ### foliatelaw04_Few: function 11 -/
def foliatelaw04_Few.l0 : Nat → Int → Int → List (List Int) → Option (Bool)
  | 0, _, _, _ => none
  | k + 1, x5, x237000, x237001 => if x5 < (x237001.length : Int) then (if 0 ≤ x5 then (if ((rd_L2 x237001 x5).length : Int) > 300 then (some false) else (foliatelaw04_Few.l0 k (wrap64 (x5 + 1)) x237000 x237001)) else (none)) else (some true)
def foliatelaw04_Few.f (k : Nat) (a0_0 : Int) (l0_1 : List (List Int)) (a1 : Int) : Option (Bool) := if (l0_1.length : Int) > a1 then (some false) else (foliatelaw04_Few.l0 k 0 a0_0 l0_1)
set_option maxHeartbeats 8000000 in
set_option maxRecDepth 100000 in
theorem foliatelaw04_Few.calls (k : Nat) (a0_0 : Int) (A0_1 : Option Addr) (c0_1 : Nat) (l0_1 : List (List Int)) (a1 : Int) (r : Bool) (w : World) (hr0_1 : Kd.C (Kd.slice 5 (Kd.int .u8)) w A0_1 l0_1.length l0_1) (hc0_1 : l0_1.length ≤ c0_1) (h : foliatelaw04_Few.f k a0_0 l0_1 a1 = some r) :
    Calls Tryd.prog 11 #[.agg #[.int .u32 a0_0, .slice A0_1 l0_1.length c0_1], .int .i64 a1] w fun e w' => e = .returned (.bool r) ∧ Below w.heap.size w w' := by
  have hu25 := Tryd.underlying25
  have HR0_1 := Aside0.mk hr0_1
  have HC0_1 := Aside0.mk hc0_1
  clear hr0_1 hc0_1
  have HB := Aside0.mk (Below.refl w.heap.size w)
  have H : (if (l0_1.length : Int) > a1 then (some false) else (foliatelaw04_Few.l0 k 0 a0_0 l0_1)) = some r := h
  clear h
  by_cases c3 : (l0_1.length : Int) > a1
  · rw [if_pos c3] at H
    have c3b0 : decide (a1 < (l0_1.length : Int)) = true := decide_eq_true c3
    clear c3
    obtain rfl := Option.some.inj H
    go_enter Tryd.func11, Tryd.ntmps11
    go_wp2_with (first | ((with_reducible refine gate_dst (N := 2) rfl ?_); refine box_event ?hg (N := 2) ?hd (cs := #[.int .u32 a0_0, .slice A0_1 l0_1.length c0_1]) (t := 25) ?hr ?_; (case hd => rfl); (case hg => rfl); (case hr => first | (go_simp; done) | (go_simp; rfl)); intro gb236 hg w4 hbox hb; have n0_ := Aside0.mk (below_step (by repeat (first | (with_reducible first | exact HB.out | apply below_alloc | apply pw_below_drewN | apply below_drew1) | exact HB.out)) hb); have n1_ := Aside0.mk (hbox); have n2_ := Aside0.mk ((by rw [hg]; exact (below_size (by repeat (first | (with_reducible first | exact HB.out | apply below_alloc | apply pw_below_drewN | apply below_drew1) | exact HB.out))) : w.heap.size ≤ gb236)); have n3_ := Aside0.mk ((by rw [hg]; exact (below_size (by repeat (first | (with_reducible first | exact HB.out | apply below_alloc | apply pw_below_drewN | apply below_drew1) | exact HB.out))) : w.heap.size ≤ gb236)); clear HB; have HB := n0_; have BK236 := n1_; have GW236 := n2_; have GE236 := n3_; clear n0_ n1_ n2_ n3_; clear hb hbox hg; have hcz5_0 : w4.cell? ⟨gb236, 0, none⟩ = some (.int .u32 a0_0) := (blk_cell BK236.out 0).trans rfl; have hcz5_1 : w4.cell? ⟨gb236, 1, none⟩ = some (.slice A0_1 l0_1.length c0_1) := (blk_cell BK236.out 1).trans rfl; have hfz5_0 := blk_frozen BK236.out 0; have hfz5_1 := blk_frozen BK236.out 1))
    go_ret
    exact ⟨by first | rfl | (simp [errW_none, errW_some] <;> rfl) | (simp [*, errW_none, errW_some] <;> rfl), by repeat (first | (with_reducible first | exact HB.out | apply below_alloc | apply pw_below_drewN | apply below_drew1 | refine below_set ?_ GE236.out) | exact HB.out)⟩
  · rw [if_neg c3] at H
    have c3b0 : decide (a1 < (l0_1.length : Int)) = false := decide_eq_false c3
    clear c3
    have H' := Aside0.mk H
    clear H
    go_enter Tryd.func11, Tryd.ntmps11
    go_wp2_with (first | ((with_reducible refine gate_dst (N := 2) rfl ?_); refine box_event ?hg (N := 2) ?hd (cs := #[.int .u32 a0_0, .slice A0_1 l0_1.length c0_1]) (t := 25) ?hr ?_; (case hd => rfl); (case hg => rfl); (case hr => first | (go_simp; done) | (go_simp; rfl)); intro gb236 hg w6 hbox hb; have n0_ := Aside0.mk (below_step (by repeat (first | (with_reducible first | exact HB.out | apply below_alloc | apply pw_below_drewN | apply below_drew1) | exact HB.out)) hb); have n1_ := Aside0.mk (hbox); have n2_ := Aside0.mk ((by rw [hg]; exact (below_size (by repeat (first | (with_reducible first | exact HB.out | apply below_alloc | apply pw_below_drewN | apply below_drew1) | exact HB.out))) : w.heap.size ≤ gb236)); have n3_ := Aside0.mk ((by rw [hg]; exact (below_size (by repeat (first | (with_reducible first | exact HB.out | apply below_alloc | apply pw_below_drewN | apply below_drew1) | exact HB.out))) : w.heap.size ≤ gb236)); clear HB; have HB := n0_; have BK236 := n1_; have GW236 := n2_; have GE236 := n3_; clear n0_ n1_ n2_ n3_; clear hb hbox hg; have hcz7_0 : w6.cell? ⟨gb236, 0, none⟩ = some (.int .u32 a0_0) := (blk_cell BK236.out 0).trans rfl; have hcz7_1 : w6.cell? ⟨gb236, 1, none⟩ = some (.slice A0_1 l0_1.length c0_1) := (blk_cell BK236.out 1).trans rfl; have hfz7_0 := blk_frozen BK236.out 0; have hfz7_1 := blk_frozen BK236.out 1))
    go_loopg [5] k (fun kq v5 w' => ∃ (x5_1 : Int), v5 = .int .i64 x5_1 ∧ Aside0 (foliatelaw04_Few.l0 kq x5_1 a0_0 l0_1 = some r) ∧ Aside0 (kq ≤ k) ∧ Aside0 (w'.heap[gb236]? = some (.cells #[.int .u32 a0_0, (.slice A0_1 l0_1.length c0_1)] 25 (0, 0))) ∧ Aside0 (Below w.heap.size w w'))
    case atStart => exact ⟨(0), (by first | rfl | (simp; done) | (simp [*]; done)), H', ⟨Nat.le_refl _⟩, ⟨by (with_reducible repeat (first | refine blk_drewN ?_ _ | refine blk_drew ?_ | refine blk_alloc ?_ _)); exact BK236.out⟩, ⟨by repeat (first | (with_reducible first | exact HB.out | apply below_alloc | apply pw_below_drewN | apply below_drew1 | refine below_set ?_ GE236.out) | exact HB.out)⟩⟩
    case round =>
      clear H'
      try clear c1
      try clear p2
      try clear c3
      try clear c3b0
      try clear hcz5_0
      try clear hcz5_1
      try clear hcz7_0
      try clear hcz7_1
      try clear hfz5_0
      try clear hfz5_1
      try clear hfz7_0
      try clear hfz7_1
      obtain ⟨x5_1, rfl, HA, HK1, BK236, HB⟩ := hrel
      cases gk with
      | zero => exact absurd HA.out (by simp [foliatelaw04_Few.l0])
      | succ k1 =>
        have H := HA.out
        clear HA
        simp only [foliatelaw04_Few.l0] at H
        by_cases c8 : x5_1 < (l0_1.length : Int)
        · rw [if_pos c8] at H
          have c8b0 : decide (x5_1 < (l0_1.length : Int)) = true := decide_eq_true c8
          clear c8
          by_cases c9 : 0 ≤ x5_1
          · rw [if_pos c9] at H
            have c9b0 : decide (0 ≤ x5_1) = true := decide_eq_true c9
            clear c9
            by_cases c10 : ((rd_L2 l0_1 x5_1).length : Int) > 300
            · rw [if_pos c10] at H
              have c10b0 : decide (300 < ((rd_L2 l0_1 x5_1).length : Int)) = true := decide_eq_true c10
              have c10b1 : decide (300 < (rd_L2 l0_1 x5_1).length) = true := decide_eq_true (by omega)
              clear c10
              obtain rfl := Option.some.inj H
              have hcz11_0 : wr.cell? ⟨gb236, 0, none⟩ = some (.int .u32 a0_0) := (blk_cell BK236.out 0).trans rfl
              have hcz11_1 : wr.cell? ⟨gb236, 1, none⟩ = some (.slice A0_1 l0_1.length c0_1) := (blk_cell BK236.out 1).trans rfl
              have hfz11_0 := blk_frozen BK236.out 0
              have hfz11_1 := blk_frozen BK236.out 1
              have p237 : 0 ≤ (x5_1 : Int) := of_decide_eq_true (by first | (with_reducible assumption) | assumption)
              have q237 : x5_1 < (l0_1.length : Int) := of_decide_eq_true (by first | (with_reducible assumption) | assumption)
              obtain ⟨ad237, A237_0, c237_0, e237, hx237_0, hl237_0, hi237_0⟩ := at_L2 HR0_1.out x5_1 p237 q237
              cases e237
              replace hx237_0 := (HB.out.cell (World.block_lt_of_cell? w _ hx237_0)).trans hx237_0
              have HR237_0 := Aside0.mk hi237_0
              have HC237_0 := Aside0.mk hl237_0
              clear hi237_0 hl237_0
              replace p237 := eq_true p237
              replace q237 := eq_true q237
              go_wp2
              go_ret
              exact ⟨by first | rfl | (simp [errW_none, errW_some] <;> rfl) | (simp [*, errW_none, errW_some] <;> rfl), by repeat (first | (with_reducible first | exact HB.out | apply below_alloc | apply pw_below_drewN | apply below_drew1 | refine below_set ?_ GE236.out) | exact HB.out)⟩
            · rw [if_neg c10] at H
              have c10b0 : decide (300 < ((rd_L2 l0_1 x5_1).length : Int)) = false := decide_eq_false c10
              have c10b1 : decide (300 < (rd_L2 l0_1 x5_1).length) = false := decide_eq_false (by omega)
              clear c10
              have H' := Aside0.mk H
              clear H
              have hcz12_0 : wr.cell? ⟨gb236, 0, none⟩ = some (.int .u32 a0_0) := (blk_cell BK236.out 0).trans rfl
              have hcz12_1 : wr.cell? ⟨gb236, 1, none⟩ = some (.slice A0_1 l0_1.length c0_1) := (blk_cell BK236.out 1).trans rfl
              have hfz12_0 := blk_frozen BK236.out 0
              have hfz12_1 := blk_frozen BK236.out 1
              have p237 : 0 ≤ (x5_1 : Int) := of_decide_eq_true (by first | (with_reducible assumption) | assumption)
              have q237 : x5_1 < (l0_1.length : Int) := of_decide_eq_true (by first | (with_reducible assumption) | assumption)
              obtain ⟨ad237, A237_0, c237_0, e237, hx237_0, hl237_0, hi237_0⟩ := at_L2 HR0_1.out x5_1 p237 q237
              cases e237
              replace hx237_0 := (HB.out.cell (World.block_lt_of_cell? w _ hx237_0)).trans hx237_0
              have HR237_0 := Aside0.mk hi237_0
              have HC237_0 := Aside0.mk hl237_0
              clear hi237_0 hl237_0
              replace p237 := eq_true p237
              replace q237 := eq_true q237
              go_wp2
              go_roundg k1
              case measure => have := HK1.out; omega
              case rel => exact ⟨(wrap64 (x5_1 + 1)), (by first | rfl | (simp; done) | (simp [*]; done)), H', ⟨by have := HK1.out; omega⟩, ⟨by (with_reducible repeat (first | refine blk_drewN ?_ _ | refine blk_drew ?_ | refine blk_alloc ?_ _)); exact BK236.out⟩, ⟨by repeat (first | (with_reducible first | exact HB.out | apply below_alloc | apply pw_below_drewN | apply below_drew1 | refine below_set ?_ GE236.out) | exact HB.out)⟩⟩
          · rw [if_neg c9] at H
            exact absurd H (by simp)
        · rw [if_neg c8] at H
          have c8b0 : decide (x5_1 < (l0_1.length : Int)) = false := decide_eq_false c8
          clear c8
          obtain rfl := Option.some.inj H
          have hcz13_0 : wr.cell? ⟨gb236, 0, none⟩ = some (.int .u32 a0_0) := (blk_cell BK236.out 0).trans rfl
          have hcz13_1 : wr.cell? ⟨gb236, 1, none⟩ = some (.slice A0_1 l0_1.length c0_1) := (blk_cell BK236.out 1).trans rfl
          have hfz13_0 := blk_frozen BK236.out 0
          have hfz13_1 := blk_frozen BK236.out 1
          go_wp2
          go_ret
          exact ⟨by first | rfl | (simp [errW_none, errW_some] <;> rfl) | (simp [*, errW_none, errW_some] <;> rfl), by repeat (first | (with_reducible first | exact HB.out | apply below_alloc | apply pw_below_drewN | apply below_drew1 | refine below_set ?_ GE236.out) | exact HB.out)⟩

end Go.Proofs.YtknkncdlcoglpaaDoor.PFr
