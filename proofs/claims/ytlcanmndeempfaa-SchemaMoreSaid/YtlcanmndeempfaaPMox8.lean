-- Written by wip/tools/myprint.py, a program of the prover's own, over the kit's print; the contracts named 'HAND' there are typed by hand.
import Derived.Test.YtlcanmndeempfaaPMox0
import Derived.Test.YtlcanmndeempfaaPMox2
import Derived.Test.YtlcanmndeempfaaPMox3
import Derived.Test.YtlcanmndeempfaaPMox4
import Derived.Test.YtlcanmndeempfaaPMox6
import Derived.Test.YtlcanmndeempfaaPMox7
namespace Go.Proofs.Ytlcanmndeempfaa.PMo
open Go.RowKit Go.Proofs.YtlcanmndeempfaaW.PrintWords Go.Proofs.YtlcanmndeempfaaW.PrintLast Go.Proofs.YtlcanmndeempfaaW.PrintMore
attribute [local go_sem] max2_int min2_int max_two min_two max_three min_three max_four min_four   -- for this text's walks alone
set_option linter.unusedVariables false
set_option linter.unusedSimpArgs false

/-! ### foliatelaw06_awake: function 9 -/
def foliatelaw06_awake.f (k : Nat)  : Option (Bool) := (schema_Read.f k (⟨#[97, 123, 110, 58, 105, 51, 50, 44, 111, 58, 42, 97, 125]⟩ : ByteArray)).bind fun bt130 => (if bt130.2 = true then ((foliatelaw06_One.f).bind fun t135 => ((schema_Same.f k bt130.1 t135).bind fun t138 => (if t138 = true then ((foliatelaw06_One.f).bind fun t139 => ((schema_Text.f k t139).bind fun t142 => (if t142.toList = ([97, 123, 110, 58, 105, 51, 50, 44, 111, 58, 42, 97, 125] : List UInt8) then ((foliatelaw06_One.f).bind fun t143 => ((schema_May.f k t143).bind fun t146 => (if t146 = true then ((foliatelaw06_One.f).bind fun t147 => ((schema_Find.f t147 (⟨#[97]⟩ : ByteArray)).bind fun t150 => (if t150 = 0 then ((foliatelaw06_One.f).bind fun t151 => (if 0 < (t151.length : Int) then ((schema_Field.f ((rd_T34 t151 0).f0) ((rd_T34 t151 0).f1) (⟨#[111]⟩ : ByteArray)).bind fun t155 => (some (t155 == 1))) else (none))) else (none)))) else (none)))) else (none)))) else (none)))) else (none))
theorem foliatelaw06_awake.mono : ∀ k, LeO (foliatelaw06_awake.f k ) (foliatelaw06_awake.f (k + 1) ) := by
  intro  k
  unfold foliatelaw06_awake.f
  repeat' first
      | (with_reducible exact schema_May.mono _ _)
      | (with_reducible exact schema_Read.mono _ _)
      | (with_reducible exact schema_Same.mono _ _ _)
      | (with_reducible exact schema_Text.mono _ _)
      | (with_reducible exact LeO.refl _)
      | (with_reducible exact LeO.none _)
      | (with_reducible refine LeO.ite ?_ ?_)
      | (with_reducible refine LeO.bind ?_ (fun _ => ?_))
      | exact schema_May.mono _ _
      | exact schema_Read.mono _ _
      | exact schema_Same.mono _ _ _
      | exact schema_Text.mono _ _
      | exact LeO.none _
      | refine LeO.ite ?_ ?_
      | refine LeO.bind ?_ (fun _ => ?_)
def foliatelaw06_awake.T2 : Bool × List (List Nat × List Nat) := (true, [([], []), ([0], [0]), ([1], [1]), ([1, 1], [1]), ([2, 3, 3, 1], [1, 2, 3]), ([1, 4], [1, 4]), ([5, 4], [5]), ([6, 6], [6]), ([7, 7, 6], [6, 7]), ([8, 6], [6, 8]), ([6, 9], [6, 9]), ([10, 8], [10]), ([11, 11], [11]), ([12, 12, 11], [11, 12]), ([11, 13], [11, 13]), ([14, 13], [14]), ([15, 15], [15]), ([16, 16, 15], [15, 16]), ([17, 15], [15, 17]), ([15, 18], [15, 18]), ([19, 17], [19]), ([20, 20], [20]), ([21, 20], [20, 21]), ([22, 20], [20, 22]), ([23, 20], [20, 23]), ([24, 21, 20], [20, 24]), ([25, 20], [20, 25]), ([20, 26], [20, 26]), ([27, 25, 0, 1, 2, 3, 4, 5, 6, 7, 8, 9, 10, 11, 12, 13, 14, 15, 16, 17, 18, 19, 20, 21, 22, 23, 24, 25, 26, 27], [27])])
def foliatelaw06_awake.B2 : List Nat := [0, 1, 3, 3, 15, 31, 63, 127, 255, 511, 1023, 2047, 4095, 8191, 16383, 32767, 65535, 131071, 262143, 524287, 1048575, 2097151, 4194303, 8388607, 16777215, 33554431, 67108863, 134217727, 268435455]
theorem foliatelaw06_awake.tab2 : rtab .any (opsOf Try.f9 2) = foliatelaw06_awake.T2 := by kernel_rfl
theorem foliatelaw06_awake.bits2 : waitsOk foliatelaw06_awake.T2.2 foliatelaw06_awake.B2 = true := by kernel_rfl
set_option maxHeartbeats 8000000 in
set_option maxRecDepth 100000 in
theorem foliatelaw06_awake.calls (k : Nat)  (r : Bool) (w : World) (h : foliatelaw06_awake.f k  = some r) :
    Calls Try.prog 9 #[] w fun e w' => e = .returned (.bool r) ∧ Below w.heap.size w w' := by
  have hu24 := Try.underlying24
  have hu34 := Try.underlying34
  have HB := Aside0.mk (Below.refl w.heap.size w)
  have H : ((schema_Read.f k (⟨#[97, 123, 110, 58, 105, 51, 50, 44, 111, 58, 42, 97, 125]⟩ : ByteArray)).bind fun bt130 => (if bt130.2 = true then ((foliatelaw06_One.f).bind fun t135 => ((schema_Same.f k bt130.1 t135).bind fun t138 => (if t138 = true then ((foliatelaw06_One.f).bind fun t139 => ((schema_Text.f k t139).bind fun t142 => (if t142.toList = ([97, 123, 110, 58, 105, 51, 50, 44, 111, 58, 42, 97, 125] : List UInt8) then ((foliatelaw06_One.f).bind fun t143 => ((schema_May.f k t143).bind fun t146 => (if t146 = true then ((foliatelaw06_One.f).bind fun t147 => ((schema_Find.f t147 (⟨#[97]⟩ : ByteArray)).bind fun t150 => (if t150 = 0 then ((foliatelaw06_One.f).bind fun t151 => (if 0 < (t151.length : Int) then ((schema_Field.f ((rd_T34 t151 0).f0) ((rd_T34 t151 0).f1) (⟨#[111]⟩ : ByteArray)).bind fun t155 => (some (t155 == 1))) else (none))) else (none)))) else (none)))) else (none)))) else (none)))) else (none))) = some r := h
  clear h
  replace H := Option.bind_eq_some_iff.mp H
  obtain ⟨⟨t130, t133⟩, A10, H⟩ := H
  replace H : (if t133 = true then ((foliatelaw06_One.f).bind fun t135 => ((schema_Same.f k t130 t135).bind fun t138 => (if t138 = true then ((foliatelaw06_One.f).bind fun t139 => ((schema_Text.f k t139).bind fun t142 => (if t142.toList = ([97, 123, 110, 58, 105, 51, 50, 44, 111, 58, 42, 97, 125] : List UInt8) then ((foliatelaw06_One.f).bind fun t143 => ((schema_May.f k t143).bind fun t146 => (if t146 = true then ((foliatelaw06_One.f).bind fun t147 => ((schema_Find.f t147 (⟨#[97]⟩ : ByteArray)).bind fun t150 => (if t150 = 0 then ((foliatelaw06_One.f).bind fun t151 => (if 0 < (t151.length : Int) then ((schema_Field.f ((rd_T34 t151 0).f0) ((rd_T34 t151 0).f1) (⟨#[111]⟩ : ByteArray)).bind fun t155 => (some (t155 == 1))) else (none))) else (none)))) else (none)))) else (none)))) else (none)))) else (none)) = some r := H
  have A1 := Aside0.mk A10
  clear A10
  by_cases c2 : t133 = true
  · subst c2
    have H1 : ((foliatelaw06_One.f).bind fun t135 => ((schema_Same.f k t130 t135).bind fun t138 => (if t138 = true then ((foliatelaw06_One.f).bind fun t139 => ((schema_Text.f k t139).bind fun t142 => (if t142.toList = ([97, 123, 110, 58, 105, 51, 50, 44, 111, 58, 42, 97, 125] : List UInt8) then ((foliatelaw06_One.f).bind fun t143 => ((schema_May.f k t143).bind fun t146 => (if t146 = true then ((foliatelaw06_One.f).bind fun t147 => ((schema_Find.f t147 (⟨#[97]⟩ : ByteArray)).bind fun t150 => (if t150 = 0 then ((foliatelaw06_One.f).bind fun t151 => (if 0 < (t151.length : Int) then ((schema_Field.f ((rd_T34 t151 0).f0) ((rd_T34 t151 0).f1) (⟨#[111]⟩ : ByteArray)).bind fun t155 => (some (t155 == 1))) else (none))) else (none)))) else (none)))) else (none)))) else (none)))) = some r := by rw [if_pos rfl] at H; exact H
    clear H
    have H := H1
    clear H1
    replace H := Option.bind_eq_some_iff.mp H
    obtain ⟨t135, A30, H⟩ := H
    replace H : ((schema_Same.f k t130 t135).bind fun t138 => (if t138 = true then ((foliatelaw06_One.f).bind fun t139 => ((schema_Text.f k t139).bind fun t142 => (if t142.toList = ([97, 123, 110, 58, 105, 51, 50, 44, 111, 58, 42, 97, 125] : List UInt8) then ((foliatelaw06_One.f).bind fun t143 => ((schema_May.f k t143).bind fun t146 => (if t146 = true then ((foliatelaw06_One.f).bind fun t147 => ((schema_Find.f t147 (⟨#[97]⟩ : ByteArray)).bind fun t150 => (if t150 = 0 then ((foliatelaw06_One.f).bind fun t151 => (if 0 < (t151.length : Int) then ((schema_Field.f ((rd_T34 t151 0).f0) ((rd_T34 t151 0).f1) (⟨#[111]⟩ : ByteArray)).bind fun t155 => (some (t155 == 1))) else (none))) else (none)))) else (none)))) else (none)))) else (none))) = some r := H
    have A3 := Aside0.mk A30
    clear A30
    replace H := Option.bind_eq_some_iff.mp H
    obtain ⟨t138, A40, H⟩ := H
    replace H : (if t138 = true then ((foliatelaw06_One.f).bind fun t139 => ((schema_Text.f k t139).bind fun t142 => (if t142.toList = ([97, 123, 110, 58, 105, 51, 50, 44, 111, 58, 42, 97, 125] : List UInt8) then ((foliatelaw06_One.f).bind fun t143 => ((schema_May.f k t143).bind fun t146 => (if t146 = true then ((foliatelaw06_One.f).bind fun t147 => ((schema_Find.f t147 (⟨#[97]⟩ : ByteArray)).bind fun t150 => (if t150 = 0 then ((foliatelaw06_One.f).bind fun t151 => (if 0 < (t151.length : Int) then ((schema_Field.f ((rd_T34 t151 0).f0) ((rd_T34 t151 0).f1) (⟨#[111]⟩ : ByteArray)).bind fun t155 => (some (t155 == 1))) else (none))) else (none)))) else (none)))) else (none)))) else (none)) = some r := H
    have A4 := Aside0.mk A40
    clear A40
    by_cases c5 : t138 = true
    · subst c5
      have H1 : ((foliatelaw06_One.f).bind fun t139 => ((schema_Text.f k t139).bind fun t142 => (if t142.toList = ([97, 123, 110, 58, 105, 51, 50, 44, 111, 58, 42, 97, 125] : List UInt8) then ((foliatelaw06_One.f).bind fun t143 => ((schema_May.f k t143).bind fun t146 => (if t146 = true then ((foliatelaw06_One.f).bind fun t147 => ((schema_Find.f t147 (⟨#[97]⟩ : ByteArray)).bind fun t150 => (if t150 = 0 then ((foliatelaw06_One.f).bind fun t151 => (if 0 < (t151.length : Int) then ((schema_Field.f ((rd_T34 t151 0).f0) ((rd_T34 t151 0).f1) (⟨#[111]⟩ : ByteArray)).bind fun t155 => (some (t155 == 1))) else (none))) else (none)))) else (none)))) else (none)))) = some r := by rw [if_pos rfl] at H; exact H
      clear H
      have H := H1
      clear H1
      replace H := Option.bind_eq_some_iff.mp H
      obtain ⟨t139, A60, H⟩ := H
      replace H : ((schema_Text.f k t139).bind fun t142 => (if t142.toList = ([97, 123, 110, 58, 105, 51, 50, 44, 111, 58, 42, 97, 125] : List UInt8) then ((foliatelaw06_One.f).bind fun t143 => ((schema_May.f k t143).bind fun t146 => (if t146 = true then ((foliatelaw06_One.f).bind fun t147 => ((schema_Find.f t147 (⟨#[97]⟩ : ByteArray)).bind fun t150 => (if t150 = 0 then ((foliatelaw06_One.f).bind fun t151 => (if 0 < (t151.length : Int) then ((schema_Field.f ((rd_T34 t151 0).f0) ((rd_T34 t151 0).f1) (⟨#[111]⟩ : ByteArray)).bind fun t155 => (some (t155 == 1))) else (none))) else (none)))) else (none)))) else (none))) = some r := H
      have A6 := Aside0.mk A60
      clear A60
      replace H := Option.bind_eq_some_iff.mp H
      obtain ⟨t142, A70, H⟩ := H
      replace H : (if t142.toList = ([97, 123, 110, 58, 105, 51, 50, 44, 111, 58, 42, 97, 125] : List UInt8) then ((foliatelaw06_One.f).bind fun t143 => ((schema_May.f k t143).bind fun t146 => (if t146 = true then ((foliatelaw06_One.f).bind fun t147 => ((schema_Find.f t147 (⟨#[97]⟩ : ByteArray)).bind fun t150 => (if t150 = 0 then ((foliatelaw06_One.f).bind fun t151 => (if 0 < (t151.length : Int) then ((schema_Field.f ((rd_T34 t151 0).f0) ((rd_T34 t151 0).f1) (⟨#[111]⟩ : ByteArray)).bind fun t155 => (some (t155 == 1))) else (none))) else (none)))) else (none)))) else (none)) = some r := H
      have A7 := Aside0.mk A70
      clear A70
      by_cases c8 : t142.toList = ([97, 123, 110, 58, 105, 51, 50, 44, 111, 58, 42, 97, 125] : List UInt8)
      · rw [if_pos c8] at H
        have c8b0 : (t142.toList == ([97, 123, 110, 58, 105, 51, 50, 44, 111, 58, 42, 97, 125] : List UInt8)) = true := beq_iff_eq.mpr c8
        have c8b1 : (t142.toList != ([97, 123, 110, 58, 105, 51, 50, 44, 111, 58, 42, 97, 125] : List UInt8)) = false := bne_eq_false_iff_eq.mpr c8
        clear c8
        replace H := Option.bind_eq_some_iff.mp H
        obtain ⟨t143, A90, H⟩ := H
        replace H : ((schema_May.f k t143).bind fun t146 => (if t146 = true then ((foliatelaw06_One.f).bind fun t147 => ((schema_Find.f t147 (⟨#[97]⟩ : ByteArray)).bind fun t150 => (if t150 = 0 then ((foliatelaw06_One.f).bind fun t151 => (if 0 < (t151.length : Int) then ((schema_Field.f ((rd_T34 t151 0).f0) ((rd_T34 t151 0).f1) (⟨#[111]⟩ : ByteArray)).bind fun t155 => (some (t155 == 1))) else (none))) else (none)))) else (none))) = some r := H
        have A9 := Aside0.mk A90
        clear A90
        replace H := Option.bind_eq_some_iff.mp H
        obtain ⟨t146, A100, H⟩ := H
        replace H : (if t146 = true then ((foliatelaw06_One.f).bind fun t147 => ((schema_Find.f t147 (⟨#[97]⟩ : ByteArray)).bind fun t150 => (if t150 = 0 then ((foliatelaw06_One.f).bind fun t151 => (if 0 < (t151.length : Int) then ((schema_Field.f ((rd_T34 t151 0).f0) ((rd_T34 t151 0).f1) (⟨#[111]⟩ : ByteArray)).bind fun t155 => (some (t155 == 1))) else (none))) else (none)))) else (none)) = some r := H
        have A10 := Aside0.mk A100
        clear A100
        by_cases c11 : t146 = true
        · subst c11
          have H1 : ((foliatelaw06_One.f).bind fun t147 => ((schema_Find.f t147 (⟨#[97]⟩ : ByteArray)).bind fun t150 => (if t150 = 0 then ((foliatelaw06_One.f).bind fun t151 => (if 0 < (t151.length : Int) then ((schema_Field.f ((rd_T34 t151 0).f0) ((rd_T34 t151 0).f1) (⟨#[111]⟩ : ByteArray)).bind fun t155 => (some (t155 == 1))) else (none))) else (none)))) = some r := by rw [if_pos rfl] at H; exact H
          clear H
          have H := H1
          clear H1
          replace H := Option.bind_eq_some_iff.mp H
          obtain ⟨t147, A120, H⟩ := H
          replace H : ((schema_Find.f t147 (⟨#[97]⟩ : ByteArray)).bind fun t150 => (if t150 = 0 then ((foliatelaw06_One.f).bind fun t151 => (if 0 < (t151.length : Int) then ((schema_Field.f ((rd_T34 t151 0).f0) ((rd_T34 t151 0).f1) (⟨#[111]⟩ : ByteArray)).bind fun t155 => (some (t155 == 1))) else (none))) else (none))) = some r := H
          have A12 := Aside0.mk A120
          clear A120
          replace H := Option.bind_eq_some_iff.mp H
          obtain ⟨t150, A130, H⟩ := H
          replace H : (if t150 = 0 then ((foliatelaw06_One.f).bind fun t151 => (if 0 < (t151.length : Int) then ((schema_Field.f ((rd_T34 t151 0).f0) ((rd_T34 t151 0).f1) (⟨#[111]⟩ : ByteArray)).bind fun t155 => (some (t155 == 1))) else (none))) else (none)) = some r := H
          have A13 := Aside0.mk A130
          clear A130
          by_cases c14 : t150 = 0
          · rw [if_pos c14] at H
            have c14b0 : (t150 == 0) = true := beq_iff_eq.mpr c14
            have c14b1 : (t150 != 0) = false := bne_eq_false_iff_eq.mpr c14
            clear c14
            replace H := Option.bind_eq_some_iff.mp H
            obtain ⟨t151, A150, H⟩ := H
            replace H : (if 0 < (t151.length : Int) then ((schema_Field.f ((rd_T34 t151 0).f0) ((rd_T34 t151 0).f1) (⟨#[111]⟩ : ByteArray)).bind fun t155 => (some (t155 == 1))) else (none)) = some r := H
            have A15 := Aside0.mk A150
            clear A150
            by_cases c16 : 0 < (t151.length : Int)
            · rw [if_pos c16] at H
              have c16b0 : decide (0 < (t151.length : Int)) = true := decide_eq_true c16
              have c16b1 : decide (0 < t151.length) = true := decide_eq_true (by omega)
              clear c16
              replace H := Option.bind_eq_some_iff.mp H
              obtain ⟨t155, A170, H⟩ := H
              replace H : (some (t155 == 1)) = some r := H
              have A17 := Aside0.mk A170
              clear A170
              obtain rfl := Option.some.inj H
              go_enter Try.func9, Try.ntmps9
              try go_wp2_with (first | ((with_reducible refine gate_callee (f := 11) rfl ?_); refine goesL_ (some 4) rfl rfl Try.func11 (by kernel_rfl) rfl #[.string (⟨#[97, 123, 110, 58, 105, 51, 50, 44, 111, 58, 42, 97, 125]⟩ : ByteArray)] rfl (by (try simp only [List.map_toArray, List.map_cons, List.map_nil]); first | done | rfl | (simp only [List.length_drop, List.length_take]; rfl)) ?_; (with_reducible refine (schema_Read.calls k (⟨#[97, 123, 110, 58, 105, 51, 50, 44, 111, 58, 42, 97, 125]⟩ : ByteArray) t130 true _ A1.out).mono ?_); rintro e w18 ⟨v131, rfl, ho0, hb⟩; refine ⟨_, rfl, ?_⟩; have n0_ := Aside0.mk (Kd.N_lower (Kd.N_mono (ok' := fun k_ => True) (Kd.S_N (Kd.S_bound ho0)) (fun k_ hk_ => trivial)) (below_size (by repeat (first | (with_reducible first | exact HB.out | apply below_alloc | apply pw_below_drewN | apply below_drew1) | exact HB.out)))); have n1_ := Aside0.mk (below_step (by repeat (first | (with_reducible first | exact HB.out | apply below_alloc | apply pw_below_drewN | apply below_drew1) | exact HB.out)) hb); clear HB; have HO132 := n0_; have HB := n1_; clear n0_ n1_; (try clear hb); (try clear hb2); (try clear hk); (try clear hi); (try clear ho0)) | ((with_reducible refine gate_dst (N := 1) rfl ?_); refine box_event ?hg (N := 1) ?hd (cs := #[.slice none 0 0]) (t := 24) ?hr ?_; (case hd => rfl); (case hg => rfl); (case hr => first | (go_simp; done) | (go_simp; rfl)); intro gb134 hg w19 hbox hb; have n0_ := Aside0.mk (Kd.N_below (Kd.N_elderB (by (with_reducible repeat (first | apply Kd.N_alloc | apply Kd.N_drewN | apply Kd.N_drew)); exact HO132.out) gb134 (Nat.le_of_eq hg.symm)) hb); have n1_ := Aside0.mk (below_step (by repeat (first | (with_reducible first | exact HB.out | apply below_alloc | apply pw_below_drewN | apply below_drew1) | exact HB.out)) hb); have n2_ := Aside0.mk (hbox); have n3_ := Aside0.mk ((by rw [hg]; exact (below_size (by repeat (first | (with_reducible first | exact HB.out | apply below_alloc | apply pw_below_drewN | apply below_drew1) | exact HB.out))) : w.heap.size ≤ gb134)); have n4_ := Aside0.mk ((by rw [hg]; exact (below_size (by repeat (first | (with_reducible first | exact HB.out | apply below_alloc | apply pw_below_drewN | apply below_drew1) | exact HB.out))) : w.heap.size ≤ gb134)); clear HO132; clear HB; have HO132 := n0_; have HB := n1_; have BK134 := n2_; have GW134 := n3_; have GE134 := n4_; clear n0_ n1_ n2_ n3_ n4_; clear hb hbox hg; obtain ⟨Ao20, co20, eo20⟩ := Kd.N_slice HO132.out; subst eo20; have hcz21_0 : w19.cell? ⟨gb134, 0, none⟩ = some (.slice none 0 0) := (blk_cell BK134.out 0).trans rfl; have hfz21_0 := blk_frozen BK134.out 0))
              have n0_ : Aside0 (Kd.N k34 34 (w19.setCell ⟨gb134, 0, none⟩ (.slice Ao20 t130.length co20)) w.heap.size (fun k_ => k_ ≠ gb134) (.slice Ao20 t130.length co20) t130) := ⟨by (with_reducible repeat (first | apply Kd.N_alloc | apply Kd.N_drewN | apply Kd.N_drew)); exact Kd.N_mono (Kd.N_far (p := ⟨gb134, 0, none⟩) (Kd.N_mono HO132.out (fun k_ hk => (⟨hk, hk.2⟩ : _ ∧ k_ ≠ gb134))) (fun _ hk => hk.2) (.slice Ao20 t130.length co20)) (fun _ hk => hk.1.2)⟩
              have n1_ : Aside0 ((w19.setCell ⟨gb134, 0, none⟩ (.slice Ao20 t130.length co20)).heap[gb134]? = some (.cells #[.slice Ao20 t130.length co20] 24 (0, 0))) := ⟨by (with_reducible repeat (first | refine blk_drewN ?_ _ | refine blk_drew ?_ | refine blk_alloc ?_ _)); refine blk_put (cs := #[.slice none 0 0]) ?_ 0 _ rfl; (with_reducible repeat (first | refine blk_drewN ?_ _ | refine blk_drew ?_ | refine blk_alloc ?_ _)); exact BK134.out⟩
              have n2_ : Aside0 (Below w.heap.size w (w19.setCell ⟨gb134, 0, none⟩ (.slice Ao20 t130.length co20))) := ⟨by repeat (first | (with_reducible first | exact HB.out | apply below_alloc | apply pw_below_drewN | apply below_drew1 | refine below_set ?_ GE134.out) | exact HB.out)⟩
              (try clear HO132)
              (try clear BK134)
              (try clear HB)
              generalize (w19.setCell ⟨gb134, 0, none⟩ (.slice Ao20 t130.length co20)) = w22 at n0_ n1_ n2_ ⊢
              have HO132 := n0_
              have BK134 := n1_
              have HB := n2_
              clear n0_ n1_ n2_
              have n0_ := Aside0.mk (Kd.N_drew HO132.out)
              have n1_ := Aside0.mk (blk_drew BK134.out)
              have n2_ := Aside0.mk (below_drew1 HB.out)
              clear HO132
              clear BK134
              clear HB
              have HO132 := n0_
              have BK134 := n1_
              have HB := n2_
              clear n0_ n1_ n2_
              refine start_ (n := 29) (S := fun w' => w'.cell? ⟨gb134, 0, none⟩ = some (.slice Ao20 t130.length co20)) (ds := []) #[false, false, false, false, false, false, false, false, false, false, false, false, false, false, false, false, false, false, false, false, false, false, false, false, false, false, false, false, false] (by kernel_rfl) rfl rfl ((blk_cell BK134.out 0).trans rfl) (fun hHeld => ?_); refine with_tabW foliatelaw06_awake.tab2 foliatelaw06_awake.bits2 (fun HT_ HW_ => ?_)
              generalize w22.drew = w23 at HO132 BK134 HB hHeld ⊢
              refine pure_ (i := 0) (N := some 7) (v := ?_) (a' := ?_) #[true, false, false, false, false, false, false, false, false, false, false, false, false, false, false, false, false, false, false, false, false, false, false, false, false, false, false, false, false] rfl rfl (any_of HT_.out (by kernel_rfl)) (fun _ _ _ h => h) (Or.inl ⟨by rfl, ?_⟩) ?_ ?_
              rotate_left
              · intro w'
                go_simp
                with_reducible rfl
              rotate_left
              · simp only [Act.put, List.setIfInBounds_toArray, List.set_cons_zero, List.set_cons_succ, i64_w, i32_w]
                rfl
              refine pure_ (i := 1) (N := some 8) (v := ?_) (a' := ?_) #[true, true, false, false, false, false, false, false, false, false, false, false, false, false, false, false, false, false, false, false, false, false, false, false, false, false, false, false, false] rfl rfl (any_of HT_.out (by kernel_rfl)) (fun _ _ _ h => h) (Or.inl ⟨by rfl, ?_⟩) ?_ ?_
              rotate_left
              · intro w'
                go_simp
                with_reducible rfl
              rotate_left
              · simp only [Act.put, List.setIfInBounds_toArray, List.set_cons_zero, List.set_cons_succ, i64_w, i32_w]
                rfl
              refine take_ (i := 2) (N := some 9) (v := ?_) (a' := ?_) #[true, true, true, false, false, false, false, false, false, false, false, false, false, false, false, false, false, false, false, false, false, false, false, false, false, false, false, false, false] rfl rfl (take_ofW HT_.out HW_.out (by kernel_rfl)) (fun _ _ _ h => h) (Or.inl ⟨by rfl, ?_⟩) hHeld ?_ ?_
              rotate_left
              · rintro w' s0
                go_simp
                with_reducible rfl
              rotate_left
              · simp only [Act.put, List.setIfInBounds_toArray, List.set_cons_zero, List.set_cons_succ, i64_w, i32_w]
                rfl
              refine one_ (i := 3) (N := some 10) #[true, true, true, true, false, false, false, false, false, false, false, false, false, false, false, false, false, false, false, false, false, false, false, false, false, false, false, false, false] rfl rfl (one_of HT_.out (by kernel_rfl)) (by decide) (fun K hK => ?_)
              refine goes_ Try.func23 (by kernel_rfl) rfl #[] (by rfl) rfl rfl (by (try simp only [List.map_toArray, List.map_cons, List.map_nil]); first | done | rfl | (simp only [List.length_drop, List.length_take]; rfl)) ?_
              with_reducible refine (foliatelaw06_One.calls  t135 _ A3.out).mono ?_
              rintro e w24 ⟨v136, rfl, ho0, hb⟩
              refine ⟨_, rfl, ?_⟩
              have n0_ := Aside0.mk (Kd.N_elder' (by (with_reducible repeat (first | apply Kd.N_alloc | apply Kd.N_drewN | apply Kd.N_drew)); exact HO132.out) (by first | exact Kd.N_base ho0 | exact Kd.S_base ho0) hb)
              have n1_ := Aside0.mk (Kd.N_lower (Kd.N_mono (ok' := fun k_ => some k_ ≠ (.slice Ao20 t130.length co20 : Value).ownBlock ∧ k_ ≠ gb134) ho0 (fun k_ hk_ => ⟨(Kd.fresh' (Kd.N_lt (by (with_reducible repeat (first | apply Kd.N_alloc | apply Kd.N_drewN | apply Kd.N_drew)); exact HO132.out)) k_ hk_), (Kd.freshB (g := gb134) (o := .cells #[.slice Ao20 t130.length co20] 24 (0, 0)) (by (with_reducible repeat (first | refine blk_drewN ?_ _ | refine blk_drew ?_ | refine blk_alloc ?_ _)); exact BK134.out) k_ hk_)⟩)) (below_size (by repeat (first | (with_reducible first | exact HB.out | apply below_alloc | apply pw_below_drewN | apply below_drew1 | refine below_set ?_ GE134.out) | exact HB.out))))
              have n2_ := Aside0.mk (blk_below (g := gb134) (o := .cells #[.slice Ao20 t130.length co20] 24 (0, 0)) (by (with_reducible repeat (first | refine blk_drewN ?_ _ | refine blk_drew ?_ | refine blk_alloc ?_ _)); exact BK134.out) hb)
              have n3_ := Aside0.mk (below_step (by repeat (first | (with_reducible first | exact HB.out | apply below_alloc | apply pw_below_drewN | apply below_drew1 | refine below_set ?_ GE134.out) | exact HB.out)) hb)
              clear HO132
              clear BK134
              clear HB
              have HO132 := n0_
              have HO137 := n1_
              have BK134 := n2_
              have HB := n3_
              clear n0_ n1_ n2_ n3_
              (try clear hb)
              (try clear hb2)
              (try clear hk)
              (try clear hi)
              (try clear ho0)
              obtain ⟨Ao25, co25, eo25⟩ := Kd.N_slice HO137.out
              (first | subst eo25 | (injection eo25 with f1_ f2_ f3_; have f4_ := f1_.symm; have f5_ := f3_.symm; clear f1_ f2_ f3_; subst f4_; subst f5_))
              refine hK.out _ _ ((blk_cell BK134.out 0).trans rfl) (fun hHeld => ?_)
              clear hK K
              refine norm_ (a' := ?_) ?_ ?_
              rotate_left
              · show Act.put _ (some 10) _ = _
                simp only [Act.put, List.setIfInBounds_toArray, List.set_cons_zero, List.set_cons_succ, i64_w, i32_w]
                rfl
              refine one_ (i := 4) (N := some 11) #[true, true, true, true, true, false, false, false, false, false, false, false, false, false, false, false, false, false, false, false, false, false, false, false, false, false, false, false, false] rfl rfl (one_of HT_.out (by kernel_rfl)) (by decide) (fun K hK => ?_)
              refine goes_ Try.func18 (by kernel_rfl) rfl #[.agg #[.slice Ao20 t130.length co20], .agg #[.slice Ao25 t135.length co25]] (by rfl) rfl rfl (by (try simp only [List.map_toArray, List.map_cons, List.map_nil]); first | done | rfl | (simp only [List.length_drop, List.length_take]; rfl)) ?_
              with_reducible refine (schema_Same.calls k _ _ t130 _ _ t135 true _ ?side1 ?side2 ?side3 ?side4 A4.out).mono ?_
              (case side1 => repeat (first | exact (Kd.N_reads' HO132.out).2.2 | (with_reducible refine Kd.C_alloc ?_ _) | (with_reducible refine Kd.C_drewN ?_ _) | (with_reducible refine Kd.C_drew ?_)))
              (case side2 => exact (Kd.N_reads' HO132.out).2.1)
              (case side3 => repeat (first | exact (Kd.N_reads' HO137.out).2.2 | (with_reducible refine Kd.C_alloc ?_ _) | (with_reducible refine Kd.C_drewN ?_ _) | (with_reducible refine Kd.C_drew ?_)))
              (case side4 => exact (Kd.N_reads' HO137.out).2.1)
              rintro e w26 ⟨rfl, hb⟩
              refine ⟨_, rfl, ?_⟩
              have n0_ := Aside0.mk (Kd.N_below (by (with_reducible repeat (first | apply Kd.N_alloc | apply Kd.N_drewN | apply Kd.N_drew)); exact HO132.out) hb)
              have n1_ := Aside0.mk (Kd.N_below (by (with_reducible repeat (first | apply Kd.N_alloc | apply Kd.N_drewN | apply Kd.N_drew)); exact HO137.out) hb)
              have n2_ := Aside0.mk (blk_below (g := gb134) (o := .cells #[.slice Ao20 t130.length co20] 24 (0, 0)) (by (with_reducible repeat (first | refine blk_drewN ?_ _ | refine blk_drew ?_ | refine blk_alloc ?_ _)); exact BK134.out) hb)
              have n3_ := Aside0.mk (below_step (by repeat (first | (with_reducible first | exact HB.out | apply below_alloc | apply pw_below_drewN | apply below_drew1 | refine below_set ?_ GE134.out) | exact HB.out)) hb)
              clear HO132
              clear HO137
              clear BK134
              clear HB
              have HO132 := n0_
              have HO137 := n1_
              have BK134 := n2_
              have HB := n3_
              clear n0_ n1_ n2_ n3_
              (try clear hb)
              (try clear hb2)
              (try clear hk)
              (try clear hi)
              refine hK.out _ _ ((blk_cell BK134.out 0).trans rfl) (fun hHeld => ?_)
              clear hK K
              refine norm_ (a' := ?_) ?_ ?_
              rotate_left
              · show Act.put _ (some 11) _ = _
                simp only [Act.put, List.setIfInBounds_toArray, List.set_cons_zero, List.set_cons_succ, i64_w, i32_w]
                rfl
              refine pure_ (i := 5) (N := some 12) (v := ?_) (a' := ?_) #[true, true, true, true, true, true, false, false, false, false, false, false, false, false, false, false, false, false, false, false, false, false, false, false, false, false, false, false, false] rfl rfl (any_of HT_.out (by kernel_rfl)) (fun _ _ _ h => h) (Or.inl ⟨by rfl, ?_⟩) ?_ ?_
              rotate_left
              · intro w'
                go_simp
                with_reducible rfl
              rotate_left
              · simp only [Act.put, List.setIfInBounds_toArray, List.set_cons_zero, List.set_cons_succ, i64_w, i32_w]
                rfl
              refine pure_ (i := 6) (N := some 13) (v := ?_) (a' := ?_) #[true, true, true, true, true, true, true, false, false, false, false, false, false, false, false, false, false, false, false, false, false, false, false, false, false, false, false, false, false] rfl rfl (any_of HT_.out (by kernel_rfl)) (fun _ _ _ h => h) (Or.inl ⟨by rfl, ?_⟩) ?_ ?_
              rotate_left
              · intro w'
                go_simp
                with_reducible rfl
              rotate_left
              · simp only [Act.put, List.setIfInBounds_toArray, List.set_cons_zero, List.set_cons_succ, i64_w, i32_w]
                rfl
              refine one_ (i := 7) (N := some 14) #[true, true, true, true, true, true, true, true, false, false, false, false, false, false, false, false, false, false, false, false, false, false, false, false, false, false, false, false, false] rfl rfl (one_of HT_.out (by kernel_rfl)) (by decide) (fun K hK => ?_)
              refine goes_ Try.func23 (by kernel_rfl) rfl #[] (by rfl) rfl rfl (by (try simp only [List.map_toArray, List.map_cons, List.map_nil]); first | done | rfl | (simp only [List.length_drop, List.length_take]; rfl)) ?_
              with_reducible refine (foliatelaw06_One.calls  t139 _ A6.out).mono ?_
              rintro e w27 ⟨v140, rfl, ho0, hb⟩
              refine ⟨_, rfl, ?_⟩
              have n0_ := Aside0.mk (Kd.N_elder' (by (with_reducible repeat (first | apply Kd.N_alloc | apply Kd.N_drewN | apply Kd.N_drew)); exact HO132.out) (by first | exact Kd.N_base ho0 | exact Kd.S_base ho0) hb)
              have n1_ := Aside0.mk (Kd.N_elder' (by (with_reducible repeat (first | apply Kd.N_alloc | apply Kd.N_drewN | apply Kd.N_drew)); exact HO137.out) (by first | exact Kd.N_base ho0 | exact Kd.S_base ho0) hb)
              have n2_ := Aside0.mk (Kd.N_lower (Kd.N_mono (ok' := fun k_ => some k_ ≠ (.slice Ao20 t130.length co20 : Value).ownBlock ∧ some k_ ≠ (.slice Ao25 t135.length co25 : Value).ownBlock ∧ k_ ≠ gb134) ho0 (fun k_ hk_ => ⟨(Kd.fresh' (Kd.N_lt (by (with_reducible repeat (first | apply Kd.N_alloc | apply Kd.N_drewN | apply Kd.N_drew)); exact HO132.out)) k_ hk_), (Kd.fresh' (Kd.N_lt (by (with_reducible repeat (first | apply Kd.N_alloc | apply Kd.N_drewN | apply Kd.N_drew)); exact HO137.out)) k_ hk_), (Kd.freshB (g := gb134) (o := .cells #[.slice Ao20 t130.length co20] 24 (0, 0)) (by (with_reducible repeat (first | refine blk_drewN ?_ _ | refine blk_drew ?_ | refine blk_alloc ?_ _)); exact BK134.out) k_ hk_)⟩)) (below_size (by repeat (first | (with_reducible first | exact HB.out | apply below_alloc | apply pw_below_drewN | apply below_drew1 | refine below_set ?_ GE134.out) | exact HB.out))))
              have n3_ := Aside0.mk (blk_below (g := gb134) (o := .cells #[.slice Ao20 t130.length co20] 24 (0, 0)) (by (with_reducible repeat (first | refine blk_drewN ?_ _ | refine blk_drew ?_ | refine blk_alloc ?_ _)); exact BK134.out) hb)
              have n4_ := Aside0.mk (below_step (by repeat (first | (with_reducible first | exact HB.out | apply below_alloc | apply pw_below_drewN | apply below_drew1 | refine below_set ?_ GE134.out) | exact HB.out)) hb)
              clear HO132
              clear HO137
              clear BK134
              clear HB
              have HO132 := n0_
              have HO137 := n1_
              have HO141 := n2_
              have BK134 := n3_
              have HB := n4_
              clear n0_ n1_ n2_ n3_ n4_
              (try clear hb)
              (try clear hb2)
              (try clear hk)
              (try clear hi)
              (try clear ho0)
              obtain ⟨Ao28, co28, eo28⟩ := Kd.N_slice HO141.out
              (first | subst eo28 | (injection eo28 with f1_ f2_ f3_; have f4_ := f1_.symm; have f5_ := f3_.symm; clear f1_ f2_ f3_; subst f4_; subst f5_))
              refine hK.out _ _ ((blk_cell BK134.out 0).trans rfl) (fun hHeld => ?_)
              clear hK K
              refine norm_ (a' := ?_) ?_ ?_
              rotate_left
              · show Act.put _ (some 14) _ = _
                simp only [Act.put, List.setIfInBounds_toArray, List.set_cons_zero, List.set_cons_succ, i64_w, i32_w]
                rfl
              refine one_ (i := 8) (N := some 15) #[true, true, true, true, true, true, true, true, true, false, false, false, false, false, false, false, false, false, false, false, false, false, false, false, false, false, false, false, false] rfl rfl (one_of HT_.out (by kernel_rfl)) (by decide) (fun K hK => ?_)
              refine goes_ Try.func19 (by kernel_rfl) rfl #[.agg #[.slice Ao28 t139.length co28]] (by rfl) rfl rfl (by (try simp only [List.map_toArray, List.map_cons, List.map_nil]); first | done | rfl | (simp only [List.length_drop, List.length_take]; rfl)) ?_
              with_reducible refine (schema_Text.calls k _ _ t139 t142 _ ?side1 ?side2 A7.out).mono ?_
              (case side1 => repeat (first | exact (Kd.N_reads' HO141.out).2.2 | (with_reducible refine Kd.C_alloc ?_ _) | (with_reducible refine Kd.C_drewN ?_ _) | (with_reducible refine Kd.C_drew ?_)))
              (case side2 => exact (Kd.N_reads' HO141.out).2.1)
              rintro e w29 ⟨rfl, hb⟩
              refine ⟨_, rfl, ?_⟩
              have n0_ := Aside0.mk (Kd.N_below (by (with_reducible repeat (first | apply Kd.N_alloc | apply Kd.N_drewN | apply Kd.N_drew)); exact HO132.out) hb)
              have n1_ := Aside0.mk (Kd.N_below (by (with_reducible repeat (first | apply Kd.N_alloc | apply Kd.N_drewN | apply Kd.N_drew)); exact HO137.out) hb)
              have n2_ := Aside0.mk (Kd.N_below (by (with_reducible repeat (first | apply Kd.N_alloc | apply Kd.N_drewN | apply Kd.N_drew)); exact HO141.out) hb)
              have n3_ := Aside0.mk (blk_below (g := gb134) (o := .cells #[.slice Ao20 t130.length co20] 24 (0, 0)) (by (with_reducible repeat (first | refine blk_drewN ?_ _ | refine blk_drew ?_ | refine blk_alloc ?_ _)); exact BK134.out) hb)
              have n4_ := Aside0.mk (below_step (by repeat (first | (with_reducible first | exact HB.out | apply below_alloc | apply pw_below_drewN | apply below_drew1 | refine below_set ?_ GE134.out) | exact HB.out)) hb)
              clear HO132
              clear HO137
              clear HO141
              clear BK134
              clear HB
              have HO132 := n0_
              have HO137 := n1_
              have HO141 := n2_
              have BK134 := n3_
              have HB := n4_
              clear n0_ n1_ n2_ n3_ n4_
              (try clear hb)
              (try clear hb2)
              (try clear hk)
              (try clear hi)
              refine hK.out _ _ ((blk_cell BK134.out 0).trans rfl) (fun hHeld => ?_)
              clear hK K
              refine norm_ (a' := ?_) ?_ ?_
              rotate_left
              · show Act.put _ (some 15) _ = _
                simp only [Act.put, List.setIfInBounds_toArray, List.set_cons_zero, List.set_cons_succ, i64_w, i32_w]
                rfl
              refine pure_ (i := 9) (N := some 16) (v := ?_) (a' := ?_) #[true, true, true, true, true, true, true, true, true, true, false, false, false, false, false, false, false, false, false, false, false, false, false, false, false, false, false, false, false] rfl rfl (any_of HT_.out (by kernel_rfl)) (fun _ _ _ h => h) (Or.inl ⟨by rfl, ?_⟩) ?_ ?_
              rotate_left
              · intro w'
                go_simp
                with_reducible rfl
              rotate_left
              · simp only [Act.put, List.setIfInBounds_toArray, List.set_cons_zero, List.set_cons_succ, i64_w, i32_w]
                rfl
              refine pure_ (i := 10) (N := some 17) (v := ?_) (a' := ?_) #[true, true, true, true, true, true, true, true, true, true, true, false, false, false, false, false, false, false, false, false, false, false, false, false, false, false, false, false, false] rfl rfl (any_of HT_.out (by kernel_rfl)) (fun _ _ _ h => h) (Or.inl ⟨by rfl, ?_⟩) ?_ ?_
              rotate_left
              · intro w'
                go_simp
                with_reducible rfl
              rotate_left
              · simp only [Act.put, List.setIfInBounds_toArray, List.set_cons_zero, List.set_cons_succ, i64_w, i32_w]
                rfl
              refine pure_ (i := 11) (N := some 18) (v := ?_) (a' := ?_) #[true, true, true, true, true, true, true, true, true, true, true, true, false, false, false, false, false, false, false, false, false, false, false, false, false, false, false, false, false] rfl rfl (any_of HT_.out (by kernel_rfl)) (fun _ _ _ h => h) (Or.inl ⟨by rfl, ?_⟩) ?_ ?_
              rotate_left
              · intro w'
                go_simp
                with_reducible rfl
              rotate_left
              · simp only [Act.put, List.setIfInBounds_toArray, List.set_cons_zero, List.set_cons_succ, i64_w, i32_w]
                rfl
              refine one_ (i := 12) (N := some 19) #[true, true, true, true, true, true, true, true, true, true, true, true, true, false, false, false, false, false, false, false, false, false, false, false, false, false, false, false, false] rfl rfl (one_of HT_.out (by kernel_rfl)) (by decide) (fun K hK => ?_)
              refine goes_ Try.func23 (by kernel_rfl) rfl #[] (by rfl) rfl rfl (by (try simp only [List.map_toArray, List.map_cons, List.map_nil]); first | done | rfl | (simp only [List.length_drop, List.length_take]; rfl)) ?_
              with_reducible refine (foliatelaw06_One.calls  t143 _ A9.out).mono ?_
              rintro e w30 ⟨v144, rfl, ho0, hb⟩
              refine ⟨_, rfl, ?_⟩
              have n0_ := Aside0.mk (Kd.N_elder' (by (with_reducible repeat (first | apply Kd.N_alloc | apply Kd.N_drewN | apply Kd.N_drew)); exact HO132.out) (by first | exact Kd.N_base ho0 | exact Kd.S_base ho0) hb)
              have n1_ := Aside0.mk (Kd.N_elder' (by (with_reducible repeat (first | apply Kd.N_alloc | apply Kd.N_drewN | apply Kd.N_drew)); exact HO137.out) (by first | exact Kd.N_base ho0 | exact Kd.S_base ho0) hb)
              have n2_ := Aside0.mk (Kd.N_elder' (by (with_reducible repeat (first | apply Kd.N_alloc | apply Kd.N_drewN | apply Kd.N_drew)); exact HO141.out) (by first | exact Kd.N_base ho0 | exact Kd.S_base ho0) hb)
              have n3_ := Aside0.mk (Kd.N_lower (Kd.N_mono (ok' := fun k_ => some k_ ≠ (.slice Ao20 t130.length co20 : Value).ownBlock ∧ some k_ ≠ (.slice Ao25 t135.length co25 : Value).ownBlock ∧ some k_ ≠ (.slice Ao28 t139.length co28 : Value).ownBlock ∧ k_ ≠ gb134) ho0 (fun k_ hk_ => ⟨(Kd.fresh' (Kd.N_lt (by (with_reducible repeat (first | apply Kd.N_alloc | apply Kd.N_drewN | apply Kd.N_drew)); exact HO132.out)) k_ hk_), (Kd.fresh' (Kd.N_lt (by (with_reducible repeat (first | apply Kd.N_alloc | apply Kd.N_drewN | apply Kd.N_drew)); exact HO137.out)) k_ hk_), (Kd.fresh' (Kd.N_lt (by (with_reducible repeat (first | apply Kd.N_alloc | apply Kd.N_drewN | apply Kd.N_drew)); exact HO141.out)) k_ hk_), (Kd.freshB (g := gb134) (o := .cells #[.slice Ao20 t130.length co20] 24 (0, 0)) (by (with_reducible repeat (first | refine blk_drewN ?_ _ | refine blk_drew ?_ | refine blk_alloc ?_ _)); exact BK134.out) k_ hk_)⟩)) (below_size (by repeat (first | (with_reducible first | exact HB.out | apply below_alloc | apply pw_below_drewN | apply below_drew1 | refine below_set ?_ GE134.out) | exact HB.out))))
              have n4_ := Aside0.mk (blk_below (g := gb134) (o := .cells #[.slice Ao20 t130.length co20] 24 (0, 0)) (by (with_reducible repeat (first | refine blk_drewN ?_ _ | refine blk_drew ?_ | refine blk_alloc ?_ _)); exact BK134.out) hb)
              have n5_ := Aside0.mk (below_step (by repeat (first | (with_reducible first | exact HB.out | apply below_alloc | apply pw_below_drewN | apply below_drew1 | refine below_set ?_ GE134.out) | exact HB.out)) hb)
              clear HO132
              clear HO137
              clear HO141
              clear BK134
              clear HB
              have HO132 := n0_
              have HO137 := n1_
              have HO141 := n2_
              have HO145 := n3_
              have BK134 := n4_
              have HB := n5_
              clear n0_ n1_ n2_ n3_ n4_ n5_
              (try clear hb)
              (try clear hb2)
              (try clear hk)
              (try clear hi)
              (try clear ho0)
              obtain ⟨Ao31, co31, eo31⟩ := Kd.N_slice HO145.out
              (first | subst eo31 | (injection eo31 with f1_ f2_ f3_; have f4_ := f1_.symm; have f5_ := f3_.symm; clear f1_ f2_ f3_; subst f4_; subst f5_))
              refine hK.out _ _ ((blk_cell BK134.out 0).trans rfl) (fun hHeld => ?_)
              clear hK K
              refine norm_ (a' := ?_) ?_ ?_
              rotate_left
              · show Act.put _ (some 19) _ = _
                simp only [Act.put, List.setIfInBounds_toArray, List.set_cons_zero, List.set_cons_succ, i64_w, i32_w]
                rfl
              refine one_ (i := 13) (N := some 20) #[true, true, true, true, true, true, true, true, true, true, true, true, true, true, false, false, false, false, false, false, false, false, false, false, false, false, false, false, false] rfl rfl (one_of HT_.out (by kernel_rfl)) (by decide) (fun K hK => ?_)
              refine goes_ Try.func17 (by kernel_rfl) rfl #[.agg #[.slice Ao31 t143.length co31]] (by rfl) rfl rfl (by (try simp only [List.map_toArray, List.map_cons, List.map_nil]); first | done | rfl | (simp only [List.length_drop, List.length_take]; rfl)) ?_
              with_reducible refine (schema_May.calls k _ _ t143 true _ ?side1 ?side2 A10.out).mono ?_
              (case side1 => repeat (first | exact (Kd.N_reads' HO145.out).2.2 | (with_reducible refine Kd.C_alloc ?_ _) | (with_reducible refine Kd.C_drewN ?_ _) | (with_reducible refine Kd.C_drew ?_)))
              (case side2 => exact (Kd.N_reads' HO145.out).2.1)
              rintro e w32 ⟨rfl, hb⟩
              refine ⟨_, rfl, ?_⟩
              have n0_ := Aside0.mk (Kd.N_below (by (with_reducible repeat (first | apply Kd.N_alloc | apply Kd.N_drewN | apply Kd.N_drew)); exact HO132.out) hb)
              have n1_ := Aside0.mk (Kd.N_below (by (with_reducible repeat (first | apply Kd.N_alloc | apply Kd.N_drewN | apply Kd.N_drew)); exact HO137.out) hb)
              have n2_ := Aside0.mk (Kd.N_below (by (with_reducible repeat (first | apply Kd.N_alloc | apply Kd.N_drewN | apply Kd.N_drew)); exact HO141.out) hb)
              have n3_ := Aside0.mk (Kd.N_below (by (with_reducible repeat (first | apply Kd.N_alloc | apply Kd.N_drewN | apply Kd.N_drew)); exact HO145.out) hb)
              have n4_ := Aside0.mk (blk_below (g := gb134) (o := .cells #[.slice Ao20 t130.length co20] 24 (0, 0)) (by (with_reducible repeat (first | refine blk_drewN ?_ _ | refine blk_drew ?_ | refine blk_alloc ?_ _)); exact BK134.out) hb)
              have n5_ := Aside0.mk (below_step (by repeat (first | (with_reducible first | exact HB.out | apply below_alloc | apply pw_below_drewN | apply below_drew1 | refine below_set ?_ GE134.out) | exact HB.out)) hb)
              clear HO132
              clear HO137
              clear HO141
              clear HO145
              clear BK134
              clear HB
              have HO132 := n0_
              have HO137 := n1_
              have HO141 := n2_
              have HO145 := n3_
              have BK134 := n4_
              have HB := n5_
              clear n0_ n1_ n2_ n3_ n4_ n5_
              (try clear hb)
              (try clear hb2)
              (try clear hk)
              (try clear hi)
              refine hK.out _ _ ((blk_cell BK134.out 0).trans rfl) (fun hHeld => ?_)
              clear hK K
              refine norm_ (a' := ?_) ?_ ?_
              rotate_left
              · show Act.put _ (some 20) _ = _
                simp only [Act.put, List.setIfInBounds_toArray, List.set_cons_zero, List.set_cons_succ, i64_w, i32_w]
                rfl
              refine pure_ (i := 14) (N := some 21) (v := ?_) (a' := ?_) #[true, true, true, true, true, true, true, true, true, true, true, true, true, true, true, false, false, false, false, false, false, false, false, false, false, false, false, false, false] rfl rfl (any_of HT_.out (by kernel_rfl)) (fun _ _ _ h => h) (Or.inl ⟨by rfl, ?_⟩) ?_ ?_
              rotate_left
              · intro w'
                go_simp
                with_reducible rfl
              rotate_left
              · simp only [Act.put, List.setIfInBounds_toArray, List.set_cons_zero, List.set_cons_succ, i64_w, i32_w]
                rfl
              refine pure_ (i := 15) (N := some 22) (v := ?_) (a' := ?_) #[true, true, true, true, true, true, true, true, true, true, true, true, true, true, true, true, false, false, false, false, false, false, false, false, false, false, false, false, false] rfl rfl (any_of HT_.out (by kernel_rfl)) (fun _ _ _ h => h) (Or.inl ⟨by rfl, ?_⟩) ?_ ?_
              rotate_left
              · intro w'
                go_simp
                with_reducible rfl
              rotate_left
              · simp only [Act.put, List.setIfInBounds_toArray, List.set_cons_zero, List.set_cons_succ, i64_w, i32_w]
                rfl
              refine one_ (i := 16) (N := some 23) #[true, true, true, true, true, true, true, true, true, true, true, true, true, true, true, true, true, false, false, false, false, false, false, false, false, false, false, false, false] rfl rfl (one_of HT_.out (by kernel_rfl)) (by decide) (fun K hK => ?_)
              refine goes_ Try.func23 (by kernel_rfl) rfl #[] (by rfl) rfl rfl (by (try simp only [List.map_toArray, List.map_cons, List.map_nil]); first | done | rfl | (simp only [List.length_drop, List.length_take]; rfl)) ?_
              with_reducible refine (foliatelaw06_One.calls  t147 _ A12.out).mono ?_
              rintro e w33 ⟨v148, rfl, ho0, hb⟩
              refine ⟨_, rfl, ?_⟩
              have n0_ := Aside0.mk (Kd.N_elder' (by (with_reducible repeat (first | apply Kd.N_alloc | apply Kd.N_drewN | apply Kd.N_drew)); exact HO132.out) (by first | exact Kd.N_base ho0 | exact Kd.S_base ho0) hb)
              have n1_ := Aside0.mk (Kd.N_elder' (by (with_reducible repeat (first | apply Kd.N_alloc | apply Kd.N_drewN | apply Kd.N_drew)); exact HO137.out) (by first | exact Kd.N_base ho0 | exact Kd.S_base ho0) hb)
              have n2_ := Aside0.mk (Kd.N_elder' (by (with_reducible repeat (first | apply Kd.N_alloc | apply Kd.N_drewN | apply Kd.N_drew)); exact HO141.out) (by first | exact Kd.N_base ho0 | exact Kd.S_base ho0) hb)
              have n3_ := Aside0.mk (Kd.N_elder' (by (with_reducible repeat (first | apply Kd.N_alloc | apply Kd.N_drewN | apply Kd.N_drew)); exact HO145.out) (by first | exact Kd.N_base ho0 | exact Kd.S_base ho0) hb)
              have n4_ := Aside0.mk (Kd.N_lower (Kd.N_mono (ok' := fun k_ => some k_ ≠ (.slice Ao20 t130.length co20 : Value).ownBlock ∧ some k_ ≠ (.slice Ao25 t135.length co25 : Value).ownBlock ∧ some k_ ≠ (.slice Ao28 t139.length co28 : Value).ownBlock ∧ some k_ ≠ (.slice Ao31 t143.length co31 : Value).ownBlock ∧ k_ ≠ gb134) ho0 (fun k_ hk_ => ⟨(Kd.fresh' (Kd.N_lt (by (with_reducible repeat (first | apply Kd.N_alloc | apply Kd.N_drewN | apply Kd.N_drew)); exact HO132.out)) k_ hk_), (Kd.fresh' (Kd.N_lt (by (with_reducible repeat (first | apply Kd.N_alloc | apply Kd.N_drewN | apply Kd.N_drew)); exact HO137.out)) k_ hk_), (Kd.fresh' (Kd.N_lt (by (with_reducible repeat (first | apply Kd.N_alloc | apply Kd.N_drewN | apply Kd.N_drew)); exact HO141.out)) k_ hk_), (Kd.fresh' (Kd.N_lt (by (with_reducible repeat (first | apply Kd.N_alloc | apply Kd.N_drewN | apply Kd.N_drew)); exact HO145.out)) k_ hk_), (Kd.freshB (g := gb134) (o := .cells #[.slice Ao20 t130.length co20] 24 (0, 0)) (by (with_reducible repeat (first | refine blk_drewN ?_ _ | refine blk_drew ?_ | refine blk_alloc ?_ _)); exact BK134.out) k_ hk_)⟩)) (below_size (by repeat (first | (with_reducible first | exact HB.out | apply below_alloc | apply pw_below_drewN | apply below_drew1 | refine below_set ?_ GE134.out) | exact HB.out))))
              have n5_ := Aside0.mk (blk_below (g := gb134) (o := .cells #[.slice Ao20 t130.length co20] 24 (0, 0)) (by (with_reducible repeat (first | refine blk_drewN ?_ _ | refine blk_drew ?_ | refine blk_alloc ?_ _)); exact BK134.out) hb)
              have n6_ := Aside0.mk (below_step (by repeat (first | (with_reducible first | exact HB.out | apply below_alloc | apply pw_below_drewN | apply below_drew1 | refine below_set ?_ GE134.out) | exact HB.out)) hb)
              clear HO132
              clear HO137
              clear HO141
              clear HO145
              clear BK134
              clear HB
              have HO132 := n0_
              have HO137 := n1_
              have HO141 := n2_
              have HO145 := n3_
              have HO149 := n4_
              have BK134 := n5_
              have HB := n6_
              clear n0_ n1_ n2_ n3_ n4_ n5_ n6_
              (try clear hb)
              (try clear hb2)
              (try clear hk)
              (try clear hi)
              (try clear ho0)
              obtain ⟨Ao34, co34, eo34⟩ := Kd.N_slice HO149.out
              (first | subst eo34 | (injection eo34 with f1_ f2_ f3_; have f4_ := f1_.symm; have f5_ := f3_.symm; clear f1_ f2_ f3_; subst f4_; subst f5_))
              refine hK.out _ _ ((blk_cell BK134.out 0).trans rfl) (fun hHeld => ?_)
              clear hK K
              refine norm_ (a' := ?_) ?_ ?_
              rotate_left
              · show Act.put _ (some 23) _ = _
                simp only [Act.put, List.setIfInBounds_toArray, List.set_cons_zero, List.set_cons_succ, i64_w, i32_w]
                rfl
              refine one_ (i := 17) (N := some 24) #[true, true, true, true, true, true, true, true, true, true, true, true, true, true, true, true, true, true, false, false, false, false, false, false, false, false, false, false, false] rfl rfl (one_of HT_.out (by kernel_rfl)) (by decide) (fun K hK => ?_)
              refine goes_ Try.func21 (by kernel_rfl) rfl #[.agg #[.slice Ao34 t147.length co34], .string (⟨#[97]⟩ : ByteArray)] (by rfl) rfl rfl (by (try simp only [List.map_toArray, List.map_cons, List.map_nil]); first | done | rfl | (simp only [List.length_drop, List.length_take]; rfl)) ?_
              with_reducible refine (schema_Find.calls _ _ t147 (⟨#[97]⟩ : ByteArray) t150 _ ?side1 ?side2 A13.out).mono ?_
              (case side1 => repeat (first | exact (Kd.N_reads' HO149.out).2.2 | (with_reducible refine Kd.C_alloc ?_ _) | (with_reducible refine Kd.C_drewN ?_ _) | (with_reducible refine Kd.C_drew ?_)))
              (case side2 => exact (Kd.N_reads' HO149.out).2.1)
              rintro e w35 ⟨rfl, hb⟩
              refine ⟨_, rfl, ?_⟩
              have n0_ := Aside0.mk (Kd.N_below (by (with_reducible repeat (first | apply Kd.N_alloc | apply Kd.N_drewN | apply Kd.N_drew)); exact HO132.out) hb)
              have n1_ := Aside0.mk (Kd.N_below (by (with_reducible repeat (first | apply Kd.N_alloc | apply Kd.N_drewN | apply Kd.N_drew)); exact HO137.out) hb)
              have n2_ := Aside0.mk (Kd.N_below (by (with_reducible repeat (first | apply Kd.N_alloc | apply Kd.N_drewN | apply Kd.N_drew)); exact HO141.out) hb)
              have n3_ := Aside0.mk (Kd.N_below (by (with_reducible repeat (first | apply Kd.N_alloc | apply Kd.N_drewN | apply Kd.N_drew)); exact HO145.out) hb)
              have n4_ := Aside0.mk (Kd.N_below (by (with_reducible repeat (first | apply Kd.N_alloc | apply Kd.N_drewN | apply Kd.N_drew)); exact HO149.out) hb)
              have n5_ := Aside0.mk (blk_below (g := gb134) (o := .cells #[.slice Ao20 t130.length co20] 24 (0, 0)) (by (with_reducible repeat (first | refine blk_drewN ?_ _ | refine blk_drew ?_ | refine blk_alloc ?_ _)); exact BK134.out) hb)
              have n6_ := Aside0.mk (below_step (by repeat (first | (with_reducible first | exact HB.out | apply below_alloc | apply pw_below_drewN | apply below_drew1 | refine below_set ?_ GE134.out) | exact HB.out)) hb)
              clear HO132
              clear HO137
              clear HO141
              clear HO145
              clear HO149
              clear BK134
              clear HB
              have HO132 := n0_
              have HO137 := n1_
              have HO141 := n2_
              have HO145 := n3_
              have HO149 := n4_
              have BK134 := n5_
              have HB := n6_
              clear n0_ n1_ n2_ n3_ n4_ n5_ n6_
              (try clear hb)
              (try clear hb2)
              (try clear hk)
              (try clear hi)
              refine hK.out _ _ ((blk_cell BK134.out 0).trans rfl) (fun hHeld => ?_)
              clear hK K
              refine norm_ (a' := ?_) ?_ ?_
              rotate_left
              · show Act.put _ (some 24) _ = _
                simp only [Act.put, List.setIfInBounds_toArray, List.set_cons_zero, List.set_cons_succ, i64_w, i32_w]
                rfl
              refine pure_ (i := 18) (N := some 25) (v := ?_) (a' := ?_) #[true, true, true, true, true, true, true, true, true, true, true, true, true, true, true, true, true, true, true, false, false, false, false, false, false, false, false, false, false] rfl rfl (any_of HT_.out (by kernel_rfl)) (fun _ _ _ h => h) (Or.inl ⟨by rfl, ?_⟩) ?_ ?_
              rotate_left
              · intro w'
                go_simp
                with_reducible rfl
              rotate_left
              · simp only [Act.put, List.setIfInBounds_toArray, List.set_cons_zero, List.set_cons_succ, i64_w, i32_w]
                rfl
              refine pure_ (i := 19) (N := some 26) (v := ?_) (a' := ?_) #[true, true, true, true, true, true, true, true, true, true, true, true, true, true, true, true, true, true, true, true, false, false, false, false, false, false, false, false, false] rfl rfl (any_of HT_.out (by kernel_rfl)) (fun _ _ _ h => h) (Or.inl ⟨by rfl, ?_⟩) ?_ ?_
              rotate_left
              · intro w'
                go_simp
                with_reducible rfl
              rotate_left
              · simp only [Act.put, List.setIfInBounds_toArray, List.set_cons_zero, List.set_cons_succ, i64_w, i32_w]
                rfl
              refine pure_ (i := 20) (N := some 27) (v := ?_) (a' := ?_) #[true, true, true, true, true, true, true, true, true, true, true, true, true, true, true, true, true, true, true, true, true, false, false, false, false, false, false, false, false] rfl rfl (any_of HT_.out (by kernel_rfl)) (fun _ _ _ h => h) (Or.inl ⟨by rfl, ?_⟩) ?_ ?_
              rotate_left
              · intro w'
                go_simp
                with_reducible rfl
              rotate_left
              · simp only [Act.put, List.setIfInBounds_toArray, List.set_cons_zero, List.set_cons_succ, i64_w, i32_w]
                rfl
              refine one_ (i := 21) (N := some 28) #[true, true, true, true, true, true, true, true, true, true, true, true, true, true, true, true, true, true, true, true, true, true, false, false, false, false, false, false, false] rfl rfl (one_of HT_.out (by kernel_rfl)) (by decide) (fun K hK => ?_)
              refine goes_ Try.func23 (by kernel_rfl) rfl #[] (by rfl) rfl rfl (by (try simp only [List.map_toArray, List.map_cons, List.map_nil]); first | done | rfl | (simp only [List.length_drop, List.length_take]; rfl)) ?_
              with_reducible refine (foliatelaw06_One.calls  t151 _ A15.out).mono ?_
              rintro e w36 ⟨v152, rfl, ho0, hb⟩
              refine ⟨_, rfl, ?_⟩
              have n0_ := Aside0.mk (Kd.N_elder' (by (with_reducible repeat (first | apply Kd.N_alloc | apply Kd.N_drewN | apply Kd.N_drew)); exact HO132.out) (by first | exact Kd.N_base ho0 | exact Kd.S_base ho0) hb)
              have n1_ := Aside0.mk (Kd.N_elder' (by (with_reducible repeat (first | apply Kd.N_alloc | apply Kd.N_drewN | apply Kd.N_drew)); exact HO137.out) (by first | exact Kd.N_base ho0 | exact Kd.S_base ho0) hb)
              have n2_ := Aside0.mk (Kd.N_elder' (by (with_reducible repeat (first | apply Kd.N_alloc | apply Kd.N_drewN | apply Kd.N_drew)); exact HO141.out) (by first | exact Kd.N_base ho0 | exact Kd.S_base ho0) hb)
              have n3_ := Aside0.mk (Kd.N_elder' (by (with_reducible repeat (first | apply Kd.N_alloc | apply Kd.N_drewN | apply Kd.N_drew)); exact HO145.out) (by first | exact Kd.N_base ho0 | exact Kd.S_base ho0) hb)
              have n4_ := Aside0.mk (Kd.N_elder' (by (with_reducible repeat (first | apply Kd.N_alloc | apply Kd.N_drewN | apply Kd.N_drew)); exact HO149.out) (by first | exact Kd.N_base ho0 | exact Kd.S_base ho0) hb)
              have n5_ := Aside0.mk (Kd.N_lower (Kd.N_mono (ok' := fun k_ => some k_ ≠ (.slice Ao20 t130.length co20 : Value).ownBlock ∧ some k_ ≠ (.slice Ao25 t135.length co25 : Value).ownBlock ∧ some k_ ≠ (.slice Ao28 t139.length co28 : Value).ownBlock ∧ some k_ ≠ (.slice Ao31 t143.length co31 : Value).ownBlock ∧ some k_ ≠ (.slice Ao34 t147.length co34 : Value).ownBlock ∧ k_ ≠ gb134) ho0 (fun k_ hk_ => ⟨(Kd.fresh' (Kd.N_lt (by (with_reducible repeat (first | apply Kd.N_alloc | apply Kd.N_drewN | apply Kd.N_drew)); exact HO132.out)) k_ hk_), (Kd.fresh' (Kd.N_lt (by (with_reducible repeat (first | apply Kd.N_alloc | apply Kd.N_drewN | apply Kd.N_drew)); exact HO137.out)) k_ hk_), (Kd.fresh' (Kd.N_lt (by (with_reducible repeat (first | apply Kd.N_alloc | apply Kd.N_drewN | apply Kd.N_drew)); exact HO141.out)) k_ hk_), (Kd.fresh' (Kd.N_lt (by (with_reducible repeat (first | apply Kd.N_alloc | apply Kd.N_drewN | apply Kd.N_drew)); exact HO145.out)) k_ hk_), (Kd.fresh' (Kd.N_lt (by (with_reducible repeat (first | apply Kd.N_alloc | apply Kd.N_drewN | apply Kd.N_drew)); exact HO149.out)) k_ hk_), (Kd.freshB (g := gb134) (o := .cells #[.slice Ao20 t130.length co20] 24 (0, 0)) (by (with_reducible repeat (first | refine blk_drewN ?_ _ | refine blk_drew ?_ | refine blk_alloc ?_ _)); exact BK134.out) k_ hk_)⟩)) (below_size (by repeat (first | (with_reducible first | exact HB.out | apply below_alloc | apply pw_below_drewN | apply below_drew1 | refine below_set ?_ GE134.out) | exact HB.out))))
              have n6_ := Aside0.mk (blk_below (g := gb134) (o := .cells #[.slice Ao20 t130.length co20] 24 (0, 0)) (by (with_reducible repeat (first | refine blk_drewN ?_ _ | refine blk_drew ?_ | refine blk_alloc ?_ _)); exact BK134.out) hb)
              have n7_ := Aside0.mk (below_step (by repeat (first | (with_reducible first | exact HB.out | apply below_alloc | apply pw_below_drewN | apply below_drew1 | refine below_set ?_ GE134.out) | exact HB.out)) hb)
              clear HO132
              clear HO137
              clear HO141
              clear HO145
              clear HO149
              clear BK134
              clear HB
              have HO132 := n0_
              have HO137 := n1_
              have HO141 := n2_
              have HO145 := n3_
              have HO149 := n4_
              have HO153 := n5_
              have BK134 := n6_
              have HB := n7_
              clear n0_ n1_ n2_ n3_ n4_ n5_ n6_ n7_
              (try clear hb)
              (try clear hb2)
              (try clear hk)
              (try clear hi)
              (try clear ho0)
              obtain ⟨Ao37, co37, eo37⟩ := Kd.N_slice HO153.out
              (first | subst eo37 | (injection eo37 with f1_ f2_ f3_; have f4_ := f1_.symm; have f5_ := f3_.symm; clear f1_ f2_ f3_; subst f4_; subst f5_))
              have p154 : 0 ≤ (0 : Int) := (by omega)
              have q154 : 0 < (t151.length : Int) := of_decide_eq_true (by first | (with_reducible assumption) | assumption)
              obtain ⟨ad154, A154_1, c154_1, e154, hx154_0, hx154_1, hl154_1, hi154_1⟩ := at_T34 (Kd.N_reads' HO153.out).2.2 0 p154 q154
              cases e154
              obtain ⟨ce154, hce154, hMe154, hcc154⟩ := Kd.N_get HO153.out z34 0 p154 (by first | exact q154 | exact of_decide_eq_true (by first | (with_reducible assumption) | assumption) | (have e_ := (Kd.N_reads' HO153.out).1; omega))
              obtain ⟨ua154_1, uc154_1, rfl, ul154_1, ge154_1⟩ := k34_openF hMe154
              have hv154_1 := hcc154 1 _ rfl
              rw [add_field _ _ 1 (by omega)] at hv154_1
              replace hv154_1 := Option.some.inj (hv154_1.symm.trans hx154_1)
              injection hv154_1 with hva_ hvn_ hvc_
              rw [hva_] at ge154_1
              rw [hvc_] at ul154_1
              have HL154_1 := Aside0.mk (show Kd.V k40 40 _ w.heap.size _ _ ((rd_T34 t151 0).f1) from Kd.V_mk ul154_1 ge154_1)
              clear hva_ hvn_ hvc_ ge154_1 ul154_1
              clear hcc154 hce154
              have qi154 : (0 < t151.length) = True := eq_true (by omega)
              (try rw [show ((0 : Int)).toNat = 0 from rfl] at hx154_0)
              (try rw [show 0 * 2 = 0 from rfl] at hx154_0)
              (try rw [Addr.add_zero'] at hx154_0)
              (try rw [show ((0 : Int)).toNat = 0 from rfl] at hx154_1)
              (try rw [show 0 * 2 = 0 from rfl] at hx154_1)
              (try rw [Addr.add_zero'] at hx154_1)
              have HR154_1 := Aside0.mk hi154_1
              have HC154_1 := Aside0.mk hl154_1
              clear hi154_1 hl154_1
              replace p154 := eq_true p154
              replace q154 := eq_true q154
              refine hK.out _ _ ((blk_cell BK134.out 0).trans rfl) (fun hHeld => ?_)
              clear hK K
              refine norm_ (a' := ?_) ?_ ?_
              rotate_left
              · show Act.put _ (some 28) _ = _
                simp only [Act.put, List.setIfInBounds_toArray, List.set_cons_zero, List.set_cons_succ, i64_w, i32_w]
                rfl
              have hfld : ∀ w' : World, (Instr.field 24 (.agg #[.slice (some ad154) t151.length co37]) 0).run Try.prog w' = .ok (.slice (some ad154) t151.length co37) w' := fun w' => rfl
              refine pure_ (i := 22) (N := some 29) (v := ?_) (a' := ?_) #[true, true, true, true, true, true, true, true, true, true, true, true, true, true, true, true, true, true, true, true, true, true, true, false, false, false, false, false, false] rfl rfl (any_of HT_.out (by kernel_rfl)) (fun _ _ _ h => h) (Or.inl ⟨by rfl, ?_⟩) ?_ ?_
              rotate_left
              · intro w'
                go_simp
                with_reducible rfl
              rotate_left
              · simp only [Act.put, List.setIfInBounds_toArray, List.set_cons_zero, List.set_cons_succ, i64_w, i32_w]
                rfl
              refine pure_ (i := 23) (N := some 30) (v := ?_) (a' := ?_) #[true, true, true, true, true, true, true, true, true, true, true, true, true, true, true, true, true, true, true, true, true, true, true, true, false, false, false, false, false] rfl rfl (any_of HT_.out (by kernel_rfl)) (fun _ _ _ h => h) (Or.inl ⟨by rfl, ?_⟩) ?_ ?_
              rotate_left
              · intro w'
                go_simp
                with_reducible rfl
              rotate_left
              · simp only [Act.put, List.setIfInBounds_toArray, List.set_cons_zero, List.set_cons_succ, i64_w, i32_w]
                rfl
              clear hfld
              refine one_ (i := 24) (N := some 31) #[true, true, true, true, true, true, true, true, true, true, true, true, true, true, true, true, true, true, true, true, true, true, true, true, true, false, false, false, false] rfl rfl (one_of HT_.out (by kernel_rfl)) (by decide) (fun K hK => ?_)
              refine value_ (w1 := w36) (v := .agg #[.string ((rd_T34 t151 0).f0), .slice A154_1 ((rd_T34 t151 0).f1).length c154_1]) (by rfl) rfl ?_ ?_
              · go_simp
              refine hK.out _ _ hHeld (fun hHeld => ?_)
              clear hK K
              refine norm_ (a' := ?_) ?_ ?_
              rotate_left
              · show Act.put _ (some 31) _ = _
                simp only [Act.put, List.setIfInBounds_toArray, List.set_cons_zero, List.set_cons_succ, i64_w, i32_w]
                rfl
              refine one_ (i := 25) (N := some 32) #[true, true, true, true, true, true, true, true, true, true, true, true, true, true, true, true, true, true, true, true, true, true, true, true, true, true, false, false, false] rfl rfl (one_of HT_.out (by kernel_rfl)) (by decide) (fun K hK => ?_)
              refine goes_ Try.func15 (by kernel_rfl) rfl #[.agg #[.string ((rd_T34 t151 0).f0), .slice A154_1 ((rd_T34 t151 0).f1).length c154_1], .string (⟨#[111]⟩ : ByteArray)] (by rfl) rfl rfl (by (try simp only [List.map_toArray, List.map_cons, List.map_nil]); first | done | rfl | (simp only [List.length_drop, List.length_take]; rfl)) ?_
              with_reducible refine (schema_Field.calls ((rd_T34 t151 0).f0) _ _ ((rd_T34 t151 0).f1) (⟨#[111]⟩ : ByteArray) t155 _ ?side1 ?side2 A17.out).mono ?_
              (case side1 => repeat (first | exact (by repeat (first | (with_reducible exact HR154_1.out) | (with_reducible refine Kd.C_alloc ?_ _) | (with_reducible refine Kd.C_drewN ?_ _) | (with_reducible refine Kd.C_drew ?_) | exact HR154_1.out)) | (with_reducible refine Kd.C_alloc ?_ _) | (with_reducible refine Kd.C_drewN ?_ _) | (with_reducible refine Kd.C_drew ?_)))
              (case side2 => exact HC154_1.out)
              rintro e w38 ⟨rfl, hb⟩
              refine ⟨_, rfl, ?_⟩
              have n0_ := Aside0.mk (Kd.N_below (by (with_reducible repeat (first | apply Kd.N_alloc | apply Kd.N_drewN | apply Kd.N_drew)); exact HO132.out) hb)
              have n1_ := Aside0.mk (Kd.N_below (by (with_reducible repeat (first | apply Kd.N_alloc | apply Kd.N_drewN | apply Kd.N_drew)); exact HO137.out) hb)
              have n2_ := Aside0.mk (Kd.N_below (by (with_reducible repeat (first | apply Kd.N_alloc | apply Kd.N_drewN | apply Kd.N_drew)); exact HO141.out) hb)
              have n3_ := Aside0.mk (Kd.N_below (by (with_reducible repeat (first | apply Kd.N_alloc | apply Kd.N_drewN | apply Kd.N_drew)); exact HO145.out) hb)
              have n4_ := Aside0.mk (Kd.N_below (by (with_reducible repeat (first | apply Kd.N_alloc | apply Kd.N_drewN | apply Kd.N_drew)); exact HO149.out) hb)
              have n5_ := Aside0.mk (Kd.N_below (by (with_reducible repeat (first | apply Kd.N_alloc | apply Kd.N_drewN | apply Kd.N_drew)); exact HO153.out) hb)
              have n6_ := Aside0.mk (Kd.V_below (by (with_reducible repeat (first | apply Kd.V_alloc | apply Kd.V_drewN | apply Kd.V_drew)); exact HL154_1.out) hb)
              have n7_ := Aside0.mk (blk_below (g := gb134) (o := .cells #[.slice Ao20 t130.length co20] 24 (0, 0)) (by (with_reducible repeat (first | refine blk_drewN ?_ _ | refine blk_drew ?_ | refine blk_alloc ?_ _)); exact BK134.out) hb)
              have n8_ := Aside0.mk (Kd.C_below (by repeat (first | (with_reducible exact HR154_1.out) | (with_reducible refine Kd.C_alloc ?_ _) | (with_reducible refine Kd.C_drewN ?_ _) | (with_reducible refine Kd.C_drew ?_) | exact HR154_1.out)) hb)
              have n9_ := Aside0.mk (below_step (by repeat (first | (with_reducible first | exact HB.out | apply below_alloc | apply pw_below_drewN | apply below_drew1 | refine below_set ?_ GE134.out) | exact HB.out)) hb)
              clear HO132
              clear HO137
              clear HO141
              clear HO145
              clear HO149
              clear HO153
              clear HL154_1
              clear BK134
              clear HR154_1
              clear HB
              have HO132 := n0_
              have HO137 := n1_
              have HO141 := n2_
              have HO145 := n3_
              have HO149 := n4_
              have HO153 := n5_
              have HL154_1 := n6_
              have BK134 := n7_
              have HR154_1 := n8_
              have HB := n9_
              clear n0_ n1_ n2_ n3_ n4_ n5_ n6_ n7_ n8_ n9_
              (try clear hb)
              (try clear hb2)
              (try clear hk)
              (try clear hi)
              refine hK.out _ _ ((blk_cell BK134.out 0).trans rfl) (fun hHeld => ?_)
              clear hK K
              refine norm_ (a' := ?_) ?_ ?_
              rotate_left
              · show Act.put _ (some 32) _ = _
                simp only [Act.put, List.setIfInBounds_toArray, List.set_cons_zero, List.set_cons_succ, i64_w, i32_w]
                rfl
              refine pure_ (i := 26) (N := some 33) (v := ?_) (a' := ?_) #[true, true, true, true, true, true, true, true, true, true, true, true, true, true, true, true, true, true, true, true, true, true, true, true, true, true, true, false, false] rfl rfl (any_of HT_.out (by kernel_rfl)) (fun _ _ _ h => h) (Or.inl ⟨by rfl, ?_⟩) ?_ ?_
              rotate_left
              · intro w'
                go_simp
                with_reducible rfl
              rotate_left
              · simp only [Act.put, List.setIfInBounds_toArray, List.set_cons_zero, List.set_cons_succ, i64_w, i32_w]
                rfl
              refine pure_ (i := 27) (N := some 34) (v := ?_) (a' := ?_) #[true, true, true, true, true, true, true, true, true, true, true, true, true, true, true, true, true, true, true, true, true, true, true, true, true, true, true, true, false] rfl rfl (any_of HT_.out (by kernel_rfl)) (fun _ _ _ h => h) (Or.inl ⟨by rfl, ?_⟩) ?_ ?_
              rotate_left
              · intro w'
                go_simp
                with_reducible rfl
              rotate_left
              · simp only [Act.put, List.setIfInBounds_toArray, List.set_cons_zero, List.set_cons_succ, i64_w, i32_w]
                rfl
              refine pure_ (i := 28) (N := some 0) (v := ?_) (a' := ?_) #[true, true, true, true, true, true, true, true, true, true, true, true, true, true, true, true, true, true, true, true, true, true, true, true, true, true, true, true, true] rfl rfl (any_of HT_.out (by kernel_rfl)) (fun _ _ _ h => h) (Or.inl ⟨by rfl, ?_⟩) ?_ ?_
              rotate_left
              · intro w'
                go_simp
                with_reducible rfl
              rotate_left
              · simp only [Act.put, List.setIfInBounds_toArray, List.set_cons_zero, List.set_cons_succ, i64_w, i32_w]
                rfl
              refine done_ (done_of HT_.out (by kernel_rfl)) ?_
              try go_wp2
              go_ret
              exact ⟨by first | rfl | (simp [errW_none, errW_some] <;> rfl) | (simp [*, errW_none, errW_some] <;> rfl), by repeat (first | (with_reducible first | exact HB.out | apply below_alloc | apply pw_below_drewN | apply below_drew1 | refine below_set ?_ GE134.out) | exact HB.out)⟩
            · rw [if_neg c16] at H
              exact absurd H (by simp)
          · rw [if_neg c14] at H
            have c14b0 : (t150 == 0) = false := beq_eq_false_iff_ne.mpr c14
            have c14b1 : (t150 != 0) = true := bne_iff_ne.mpr c14
            exact absurd H (by simp)
        · replace c11 := Bool.eq_false_iff.mpr c11
          subst c11
          have H1 : (none) = some r := by rw [if_neg (show ¬ (false = true) by decide)] at H; exact H
          clear H
          have H := H1
          clear H1
          exact absurd H (by simp)
      · rw [if_neg c8] at H
        have c8b0 : (t142.toList == ([97, 123, 110, 58, 105, 51, 50, 44, 111, 58, 42, 97, 125] : List UInt8)) = false := beq_eq_false_iff_ne.mpr c8
        have c8b1 : (t142.toList != ([97, 123, 110, 58, 105, 51, 50, 44, 111, 58, 42, 97, 125] : List UInt8)) = true := bne_iff_ne.mpr c8
        exact absurd H (by simp)
    · replace c5 := Bool.eq_false_iff.mpr c5
      subst c5
      have H1 : (none) = some r := by rw [if_neg (show ¬ (false = true) by decide)] at H; exact H
      clear H
      have H := H1
      clear H1
      exact absurd H (by simp)
  · replace c2 := Bool.eq_false_iff.mpr c2
    subst c2
    have H1 : (none) = some r := by rw [if_neg (show ¬ (false = true) by decide)] at H; exact H
    clear H
    have H := H1
    clear H1
    exact absurd H (by simp)

/-! ### foliatelaw06_Few: function 10 -/
def foliatelaw06_Few.l0 : Nat → Int → Int → List (S34) → Option (Bool)
  | 0, _, _, _ => none
  | k + 1, x1, x5, x157000 => if x5 < (x157000.length : Int) then (if 0 ≤ x5 then (if (((rd_T34 x157000 x5).f1).length : Int) > x1 then (some false) else (foliatelaw06_Few.l0 k x1 (wrap64 (x5 + 1)) x157000)) else (none)) else (some (decide ((x157000.length : Int) ≤ x1)))
def foliatelaw06_Few.f (k : Nat) (l0_0 : List (S34)) (a1 : Int) : Option (Bool) := foliatelaw06_Few.l0 k a1 0 l0_0
theorem foliatelaw06_Few.mono_l : ∀ k, (∀ y0 y1 y2, LeO (foliatelaw06_Few.l0 k y0 y1 y2) (foliatelaw06_Few.l0 (k + 1) y0 y1 y2))
  | 0 => fun _ _ _ r h => by simp [foliatelaw06_Few.l0] at h
  | k + 1 => by
    have ih0 := foliatelaw06_Few.mono_l k
    · intro y0 y1 y2
      unfold foliatelaw06_Few.l0
      repeat' first
      | (with_reducible exact ih0 _ _ _)
      | (with_reducible exact LeO.refl _)
      | (with_reducible exact LeO.none _)
      | (with_reducible refine LeO.ite ?_ ?_)
      | (with_reducible refine LeO.bind ?_ (fun _ => ?_))
      | exact ih0 _ _ _
      | exact LeO.none _
      | refine LeO.ite ?_ ?_
      | refine LeO.bind ?_ (fun _ => ?_)
theorem foliatelaw06_Few.mono : ∀ a0 a1 k, LeO (foliatelaw06_Few.f k a0 a1) (foliatelaw06_Few.f (k + 1) a0 a1) := by
  intro a0 a1 k
  have ih0 := foliatelaw06_Few.mono_l k
  unfold foliatelaw06_Few.f
  repeat' first
      | (with_reducible exact ih0 _ _ _)
      | (with_reducible exact LeO.refl _)
      | (with_reducible exact LeO.none _)
      | (with_reducible refine LeO.ite ?_ ?_)
      | (with_reducible refine LeO.bind ?_ (fun _ => ?_))
      | exact ih0 _ _ _
      | exact LeO.none _
      | refine LeO.ite ?_ ?_
      | refine LeO.bind ?_ (fun _ => ?_)
set_option maxHeartbeats 8000000 in
set_option maxRecDepth 100000 in
theorem foliatelaw06_Few.calls (k : Nat) (A0_0 : Option Addr) (c0_0 : Nat) (l0_0 : List (S34)) (a1 : Int) (r : Bool) (w : World) (hr0_0 : Kd.C k34 w A0_0 l0_0.length l0_0) (hc0_0 : l0_0.length ≤ c0_0) (h : foliatelaw06_Few.f k l0_0 a1 = some r) :
    Calls Try.prog 10 #[.agg #[.slice A0_0 l0_0.length c0_0], .int .i64 a1] w fun e w' => e = .returned (.bool r) ∧ Below w.heap.size w w' := by
  have hu24 := Try.underlying24
  have HR0_0 := Aside0.mk hr0_0
  have HC0_0 := Aside0.mk hc0_0
  clear hr0_0 hc0_0
  have HB := Aside0.mk (Below.refl w.heap.size w)
  have H : (foliatelaw06_Few.l0 k a1 0 l0_0) = some r := h
  clear h
  have H' := Aside0.mk H
  clear H
  go_enter Try.func10, Try.ntmps10
  go_wp2_with (first | ((with_reducible refine gate_dst (N := 2) rfl ?_); refine box_event ?hg (N := 2) ?hd (cs := #[.slice A0_0 l0_0.length c0_0]) (t := 24) ?hr ?_; (case hd => rfl); (case hg => rfl); (case hr => first | (go_simp; done) | (go_simp; rfl)); intro gb156 hg w3 hbox hb; have n0_ := Aside0.mk (below_step (by repeat (first | (with_reducible first | exact HB.out | apply below_alloc | apply pw_below_drewN | apply below_drew1) | exact HB.out)) hb); have n1_ := Aside0.mk (hbox); have n2_ := Aside0.mk ((by rw [hg]; exact (below_size (by repeat (first | (with_reducible first | exact HB.out | apply below_alloc | apply pw_below_drewN | apply below_drew1) | exact HB.out))) : w.heap.size ≤ gb156)); have n3_ := Aside0.mk ((by rw [hg]; exact (below_size (by repeat (first | (with_reducible first | exact HB.out | apply below_alloc | apply pw_below_drewN | apply below_drew1) | exact HB.out))) : w.heap.size ≤ gb156)); clear HB; have HB := n0_; have BK156 := n1_; have GW156 := n2_; have GE156 := n3_; clear n0_ n1_ n2_ n3_; clear hb hbox hg))
  go_loopg [5] k (fun kq v5 w' => ∃ (x5_1 : Int), v5 = .int .i64 x5_1 ∧ Aside0 (foliatelaw06_Few.l0 kq a1 x5_1 l0_0 = some r) ∧ Aside0 (kq ≤ k) ∧ Aside0 (w'.heap[gb156]? = some (.cells #[(.slice A0_0 l0_0.length c0_0)] 24 (0, 0))) ∧ Aside0 (Below w.heap.size w w'))
  case atStart => exact ⟨(0), (by first | rfl | (simp; done) | (simp [*]; done)), H', ⟨Nat.le_refl _⟩, ⟨by (with_reducible repeat (first | refine blk_drewN ?_ _ | refine blk_drew ?_ | refine blk_alloc ?_ _)); exact BK156.out⟩, ⟨by repeat (first | (with_reducible first | exact HB.out | apply below_alloc | apply pw_below_drewN | apply below_drew1 | refine below_set ?_ GE156.out) | exact HB.out)⟩⟩
  case round =>
    clear H'
    try clear c1
    try clear p2
    obtain ⟨x5_1, rfl, HA, HK1, BK156, HB⟩ := hrel
    cases gk with
    | zero => exact absurd HA.out (by simp [foliatelaw06_Few.l0])
    | succ k1 =>
      have H := HA.out
      clear HA
      simp only [foliatelaw06_Few.l0] at H
      by_cases c4 : x5_1 < (l0_0.length : Int)
      · rw [if_pos c4] at H
        have c4b0 : decide (x5_1 < (l0_0.length : Int)) = true := decide_eq_true c4
        clear c4
        by_cases c5 : 0 ≤ x5_1
        · rw [if_pos c5] at H
          have c5b0 : decide (0 ≤ x5_1) = true := decide_eq_true c5
          clear c5
          by_cases c6 : (((rd_T34 l0_0 x5_1).f1).length : Int) > a1
          · rw [if_pos c6] at H
            have c6b0 : decide (a1 < (((rd_T34 l0_0 x5_1).f1).length : Int)) = true := decide_eq_true c6
            clear c6
            obtain rfl := Option.some.inj H
            have hcz7_0 : wr.cell? ⟨gb156, 0, none⟩ = some (.slice A0_0 l0_0.length c0_0) := (blk_cell BK156.out 0).trans rfl
            have hfz7_0 := blk_frozen BK156.out 0
            have p157 : 0 ≤ (x5_1 : Int) := of_decide_eq_true (by first | (with_reducible assumption) | assumption)
            have q157 : x5_1 < (l0_0.length : Int) := of_decide_eq_true (by first | (with_reducible assumption) | assumption)
            obtain ⟨ad157, A157_1, c157_1, e157, hx157_0, hx157_1, hl157_1, hi157_1⟩ := at_T34 HR0_0.out x5_1 p157 q157
            cases e157
            replace hx157_0 := (HB.out.cell (World.block_lt_of_cell? w _ hx157_0)).trans hx157_0
            replace hx157_1 := (HB.out.cell (World.block_lt_of_cell? w _ hx157_1)).trans hx157_1
            have HR157_1 := Aside0.mk hi157_1
            have HC157_1 := Aside0.mk hl157_1
            clear hi157_1 hl157_1
            replace p157 := eq_true p157
            replace q157 := eq_true q157
            go_wp2
            go_ret
            exact ⟨by first | rfl | (simp [errW_none, errW_some] <;> rfl) | (simp [*, errW_none, errW_some] <;> rfl), by repeat (first | (with_reducible first | exact HB.out | apply below_alloc | apply pw_below_drewN | apply below_drew1 | refine below_set ?_ GE156.out) | exact HB.out)⟩
          · rw [if_neg c6] at H
            have c6b0 : decide (a1 < (((rd_T34 l0_0 x5_1).f1).length : Int)) = false := decide_eq_false c6
            clear c6
            have H' := Aside0.mk H
            clear H
            have hcz8_0 : wr.cell? ⟨gb156, 0, none⟩ = some (.slice A0_0 l0_0.length c0_0) := (blk_cell BK156.out 0).trans rfl
            have hfz8_0 := blk_frozen BK156.out 0
            have p157 : 0 ≤ (x5_1 : Int) := of_decide_eq_true (by first | (with_reducible assumption) | assumption)
            have q157 : x5_1 < (l0_0.length : Int) := of_decide_eq_true (by first | (with_reducible assumption) | assumption)
            obtain ⟨ad157, A157_1, c157_1, e157, hx157_0, hx157_1, hl157_1, hi157_1⟩ := at_T34 HR0_0.out x5_1 p157 q157
            cases e157
            replace hx157_0 := (HB.out.cell (World.block_lt_of_cell? w _ hx157_0)).trans hx157_0
            replace hx157_1 := (HB.out.cell (World.block_lt_of_cell? w _ hx157_1)).trans hx157_1
            have HR157_1 := Aside0.mk hi157_1
            have HC157_1 := Aside0.mk hl157_1
            clear hi157_1 hl157_1
            replace p157 := eq_true p157
            replace q157 := eq_true q157
            go_wp2
            go_roundg k1
            case measure => have := HK1.out; omega
            case rel => exact ⟨(wrap64 (x5_1 + 1)), (by first | rfl | (simp; done) | (simp [*]; done)), H', ⟨by have := HK1.out; omega⟩, ⟨by (with_reducible repeat (first | refine blk_drewN ?_ _ | refine blk_drew ?_ | refine blk_alloc ?_ _)); exact BK156.out⟩, ⟨by repeat (first | (with_reducible first | exact HB.out | apply below_alloc | apply pw_below_drewN | apply below_drew1 | refine below_set ?_ GE156.out) | exact HB.out)⟩⟩
        · rw [if_neg c5] at H
          exact absurd H (by simp)
      · rw [if_neg c4] at H
        have c4b0 : decide (x5_1 < (l0_0.length : Int)) = false := decide_eq_false c4
        clear c4
        obtain rfl := Option.some.inj H
        have hcz9_0 : wr.cell? ⟨gb156, 0, none⟩ = some (.slice A0_0 l0_0.length c0_0) := (blk_cell BK156.out 0).trans rfl
        have hfz9_0 := blk_frozen BK156.out 0
        go_wp2
        go_ret
        exact ⟨by first | rfl | (simp [errW_none, errW_some] <;> rfl) | (simp [*, errW_none, errW_some] <;> rfl), by repeat (first | (with_reducible first | exact HB.out | apply below_alloc | apply pw_below_drewN | apply below_drew1 | refine below_set ?_ GE156.out) | exact HB.out)⟩

end Go.Proofs.Ytlcanmndeempfaa.PMo
