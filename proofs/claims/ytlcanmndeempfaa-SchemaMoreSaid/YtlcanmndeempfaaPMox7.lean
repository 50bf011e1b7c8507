-- Written by wip/tools/myprint.py, a program of the prover's own, over the kit's print; the contracts named 'HAND' there are typed by hand.
import Derived.Test.YtlcanmndeempfaaPMox0
import Derived.Test.YtlcanmndeempfaaPMox6
namespace Go.Proofs.Ytlcanmndeempfaa.PMo
open Go.RowKit Go.Proofs.YtlcanmndeempfaaW.PrintWords Go.Proofs.YtlcanmndeempfaaW.PrintLast Go.Proofs.YtlcanmndeempfaaW.PrintMore
attribute [local go_sem] max2_int min2_int max_two min_two max_three min_three max_four min_four   -- for this text's walks alone
set_option linter.unusedVariables false
set_option linter.unusedSimpArgs false

/-! ### schema_Same: function 18 -/
def typeEq (k : Nat) (x y : S34) : Option Bool := if (x.f0.toList == y.f0.toList) = true then api_Field_35.f k x.f1 y.f1 else some false
theorem typeEq.mono (x y : S34) (k : Nat) : LeO (typeEq k x y) (typeEq (k + 1) x y) := LeO.ite (api_Field_35.mono _ _ _) (LeO.refl _)
def eqTypes (k : Nat) : List (S34 × S34) → Option Bool
  | [] => some true
  | p :: t => (typeEq k p.1 p.2).bind fun r => if r = true then eqTypes k t else some false
theorem eqTypes.mono : ∀ (l : List (S34 × S34)) k, LeO (eqTypes k l) (eqTypes (k + 1) l)
  | [], _ => LeO.refl _
  | p :: t, k => by
    rw [eqTypes.eq_2, eqTypes.eq_2]
    exact LeO.bind (typeEq.mono _ _ _) fun _ => LeO.ite (eqTypes.mono t k) (LeO.refl _)
def equalTypes (k : Nat) (l0 l1 : List S34) : Option Bool := if l0.length < 140737488355328 then (if l0.length = l1.length then eqTypes k (l0.zip l1) else some false) else none
set_option maxHeartbeats 4000000 in
theorem typeSame (k : Nat) (n0 : ByteArray) (A0 : Option Addr) (c0 : Nat) (l0 : List S40) (n1 : ByteArray) (A1 : Option Addr) (c1 : Nat) (l1 : List S40) (r : Bool) (w : World) (hr0 : Kd.C k40 w A0 l0.length l0) (hc0 : l0.length ≤ c0) (hr1 : Kd.C k40 w A1 l1.length l1) (hc1 : l1.length ≤ c1) (h : typeEq k ⟨n0, l0⟩ ⟨n1, l1⟩ = some r) :
    Calls Try.prog 34 #[.agg #[.string n0, .slice A0 l0.length c0], .agg #[.string n1, .slice A1 l1.length c1]] w fun e w' => e = .returned (.bool r) ∧ Below w.heap.size w w' := by
  have HR0 := Aside0.mk hr0
  have HR1 := Aside0.mk hr1
  have HC0 := Aside0.mk hc0
  have HC1 := Aside0.mk hc1
  unfold typeEq at h
  clear hr0 hr1 hc0 hc1
  cases c : (n0.toList == n1.toList) with
  | true =>
    rw [show ((⟨n0, l0⟩ : S34).f0.toList == (⟨n1, l1⟩ : S34).f0.toList) = true from c, if_pos rfl] at h
    have HH := Aside0.mk h
    clear h
    go_enter Try.func34, Try.ntmps34
    go_wp2_with (go_at_call 35; refine (api_Field_35.calls k A0 c0 l0 A1 c1 l1 r _ (Kd.C_alloc (Kd.C_alloc HR0.out _) _) HC0.out (Kd.C_alloc (Kd.C_alloc HR1.out _) _) HC1.out HH.out).mono ?_; rintro e w1 ⟨rfl, ⟨m1, rfl⟩⟩)
    go_ret
    exact ⟨rfl, pw_below_drewN (((Below.refl _ _).alloc (Nat.le_refl _) _).alloc (by simp) _) _⟩
  | false =>
    rw [show ((⟨n0, l0⟩ : S34).f0.toList == (⟨n1, l1⟩ : S34).f0.toList) = false from c, if_neg (by decide)] at h
    obtain rfl := Option.some.inj h
    clear h
    go_enter Try.func34, Try.ntmps34
    go_wp2
    go_ret
    exact ⟨rfl, ((Below.refl _ _).alloc (Nat.le_refl _) _).alloc (by simp) _⟩
set_option maxHeartbeats 4000000 in
theorem typesEqual (k : Nat) (A0 : Option Addr) (c0 : Nat) (l0 : List S34) (A1 : Option Addr) (c1 : Nat) (l1 : List S34) (r : Bool) (w : World) (hr0 : Kd.C k34 w A0 l0.length l0) (hr1 : Kd.C k34 w A1 l1.length l1) (h : equalTypes k l0 l1 = some r) :
    Calls Try.prog 33 #[.slice A0 l0.length c0, .slice A1 l1.length c1, .func (.func 34) #[] #[]] w fun e w' => e = .returned (.bool r) ∧ Below w.heap.size w w' := by
  unfold equalTypes at h
  by_cases hb : l0.length < 140737488355328
  rotate_left
  · rw [if_neg hb] at h
    exact absurd h (by simp)
  rw [if_pos hb] at h
  have HB0 := Aside0.mk hb
  by_cases hl : l0.length = l1.length
  · rw [if_pos hl] at h
    obtain ⟨n, hn⟩ : ∃ n, n = l0.length := ⟨_, rfl⟩
    have hn1 : l1.length = n := by omega
    have HN := Aside0.mk hn
    have HN1 := Aside0.mk hn1
    rw [← hn] at hr0 ⊢
    rw [hn1] at hr1 ⊢
    have HR0 := Aside0.mk hr0
    have HR1 := Aside0.mk hr1
    have HH := Aside0.mk h
    have e0 : ((n : Int) != (n : Int)) = false := bne_self_eq_false _
    clear hr0 hr1 h hb hl hn hn1
    go_enter Try.func33, Try.ntmps33
    go_wp2
    go_loopw [17] (fun i wr => ∃ j : Nat, j ≤ n ∧ i = .int .i64 (j : Int) ∧ Aside0 (eqTypes k ((l0.zip l1).drop j) = some r) ∧ Aside0 (Below w.heap.size w wr)) (fun i _ => match i with | .int _ m => ((n : Int) - m).toNat | _ => 0)
    case atStart => exact ⟨0, by omega, rfl, ⟨by rw [List.drop_zero]; exact HH.out⟩, ⟨Below.refl _ _⟩⟩
    case round =>
      clear e0
      obtain ⟨j, hj, rfl, HP, HB⟩ := hrel
      by_cases hlt : j < n
      · have hb : decide ((j : Int) < (n : Int)) = true := decide_eq_true (by omega)
        have hb2 : decide (j < n) = true := decide_eq_true (by omega)
        obtain ⟨ad, A2, c2, e1, hx0, hx1, hrl, hrC⟩ := at_T34 (Kd.C_below HR0.out HB.out) (j : Int) (by omega) (by omega)
        obtain ⟨ad', A3, c3, e1', hy0, hy1, hrl', hrC'⟩ := at_T34 (Kd.C_below HR1.out HB.out) (j : Int) (by omega) (by omega)
        subst e1 e1'
        have er0 : rd_T34 l0 (j : Int) = l0[j]'(by have := HN.out; omega) := by
          unfold rd_T34
          rw [Int.toNat_natCast, List.getD_eq_getElem?_getD, List.getElem?_eq_getElem (by have := HN.out; omega)]
          rfl
        have er1 : rd_T34 l1 (j : Int) = l1[j]'(by have := HN1.out; omega) := by
          unfold rd_T34
          rw [Int.toNat_natCast, List.getD_eq_getElem?_getD, List.getElem?_eq_getElem (by have := HN1.out; omega)]
          rfl
        have hz : (l0.zip l1).drop j = (rd_T34 l0 (j : Int), rd_T34 l1 (j : Int)) :: (l0.zip l1).drop (j + 1) := by
          have jl : j < (l0.zip l1).length := by rw [List.length_zip]; have := HN.out; have := HN1.out; omega
          rw [List.drop_eq_getElem_cons jl, List.getElem_zip, er0, er1]
        clear er0 er1
        have hp := HP.out
        rw [hz, eqTypes.eq_2] at hp
        rw [Int.toNat_natCast] at hx0 hx1 hy0 hy1
        generalize rd_T34 l0 (j : Int) = x at hx0 hx1 hrl hrC hp
        generalize rd_T34 l1 (j : Int) = y at hy0 hy1 hrl' hrC' hp
        obtain ⟨b, hb1, hp⟩ := Option.bind_eq_some_iff.mp hp
        have HB1 := Aside0.mk hb1
        have HC2 := Aside0.mk hrC
        have HC3 := Aside0.mk hrC'
        have HL2 := Aside0.mk hrl
        have HL3 := Aside0.mk hrl'
        have HLT := Aside0.mk hlt
        have hk1 : wrap64 ((j : Int) + 1) = (j : Int) + 1 := by have := HB0.out; have := HN.out; unfold wrap64; omega
        clear hz hb1 hrC hrC' hrl hrl' hj HP
        have hy0a : ∀ o, (wr.alloc o).cell? (ad'.add (j * 2)) = some (Value.string y.f0) := fun o => (World.cell?_alloc_lt _ _ _ (World.block_lt_of_cell? _ _ hy0)).trans hy0
        have hy1a : ∀ o, (wr.alloc o).cell? { block := (ad'.add (j * 2)).block, off := (ad'.add (j * 2)).off + 1 } = some (Value.slice A3 y.f1.length c3) := fun o => (World.cell?_alloc_lt _ _ _ (World.block_lt_of_cell? _ _ hy1)).trans hy1
        have call : ∀ o1 o2, Calls Try.prog 34 #[.agg #[.string x.f0, .slice A2 x.f1.length c2], .agg #[.string y.f0, .slice A3 y.f1.length c3]] ((wr.alloc o1).alloc o2) fun e w' => e = .returned (.bool b) ∧ Below w.heap.size w w' := fun o1 o2 => (typeSame k x.f0 A2 c2 x.f1 y.f0 A3 c3 y.f1 b _ (Kd.C_alloc (Kd.C_alloc HC2.out _) _) HL2.out (Kd.C_alloc (Kd.C_alloc HC3.out _) _) HL3.out HB1.out).mono fun e w' ⟨h1, h2⟩ => ⟨h1, below_step (below_alloc (below_alloc HB.out _) _) h2⟩
        have CALL := Aside0.mk call
        clear call
        cases b with
        | true =>
          have HP2 := Aside0.mk (show eqTypes k ((l0.zip l1).drop (j + 1)) = some r from hp)
          clear hp
          go_wp2_with (go_at_call 34; refine (CALL.out _ _).mono ?_; rintro e w1 ⟨rfl, hbw⟩; have HB2 := Aside0.mk hbw; clear hbw)
          go_roundw
          case rel => exact ⟨j + 1, HLT.out, by rw [hk1]; rfl, HP2, HB2⟩
          case measure => rw [hk1]; have := HLT.out; simp; omega
        | false =>
          obtain rfl : false = r := Option.some.inj hp
          clear hp
          go_wp2_with (go_at_call 34; refine (CALL.out _ _).mono ?_; rintro e w1 ⟨rfl, hbw⟩; have HB2 := Aside0.mk hbw; clear hbw)
          go_ret
          exact ⟨rfl, HB2.out⟩
      · have hb : decide ((j : Int) < (n : Int)) = false := decide_eq_false (by omega)
        have hb2 : decide (j < n) = false := decide_eq_false (by omega)
        obtain rfl : j = n := by omega
        have hp := HP.out
        rw [List.drop_of_length_le (by rw [List.length_zip]; have := HN.out; omega)] at hp
        obtain rfl : true = r := Option.some.inj hp
        clear hlt hj hp
        go_wp2
        go_ret
        exact ⟨rfl, HB.out⟩
  · rw [if_neg hl] at h
    obtain rfl := Option.some.inj h
    have e0 : ((l0.length : Int) != (l1.length : Int)) = true := bne_iff_ne.mpr (by omega)
    clear h hb hr0 hr1
    go_enter Try.func33, Try.ntmps33
    go_wp2
    go_ret
    exact ⟨rfl, Below.refl _ _⟩
def schema_Same.f (k : Nat) (l0_0 : List S34) (l1_0 : List S34) : Option Bool := equalTypes k l0_0 l1_0
theorem schema_Same.mono : ∀ a0 a1 k, LeO (schema_Same.f k a0 a1) (schema_Same.f (k + 1) a0 a1) := fun _ _ _ => LeO.ite (LeO.ite (eqTypes.mono _ _) (LeO.refl _)) (LeO.none _)
set_option maxHeartbeats 4000000 in
theorem schema_Same.calls (k : Nat) (A0_0 : Option Addr) (c0_0 : Nat) (l0_0 : List S34) (A1_0 : Option Addr) (c1_0 : Nat) (l1_0 : List S34) (r : Bool) (w : World) (hr0_0 : Kd.C k34 w A0_0 l0_0.length l0_0) (hc0_0 : l0_0.length ≤ c0_0) (hr1_0 : Kd.C k34 w A1_0 l1_0.length l1_0) (hc1_0 : l1_0.length ≤ c1_0) (h : schema_Same.f k l0_0 l1_0 = some r) :
    Calls Try.prog 18 #[.agg #[.slice A0_0 l0_0.length c0_0], .agg #[.slice A1_0 l1_0.length c1_0]] w fun e w' => e = .returned (.bool r) ∧ Below w.heap.size w w' := by
  have HR0 := Aside0.mk hr0_0
  have HR1 := Aside0.mk hr1_0
  have HH := Aside0.mk (show equalTypes k l0_0 l1_0 = some r from h)
  clear h hr0_0 hr1_0 hc0_0 hc1_0
  go_enter Try.func18, Try.ntmps18
  go_wp2_with (go_at_call 33; refine (typesEqual k A0_0 c0_0 l0_0 A1_0 c1_0 l1_0 r _ (Kd.C_alloc (Kd.C_alloc HR0.out _) _) (Kd.C_alloc (Kd.C_alloc HR1.out _) _) HH.out).mono ?_; rintro e w1 ⟨rfl, hb⟩)
  go_ret
  exact ⟨rfl, below_then (((Below.refl _ _).alloc (Nat.le_refl _) _).alloc (by simp) _) (by simp; omega) hb⟩

/-! ### foliatelaw06_One: function 23 -/
def foliatelaw06_One.f  : Option ((List (S34))) := some (([(⟨(⟨#[97]⟩ : ByteArray), (([(⟨(⟨#[110]⟩ : ByteArray), 2, (⟨#[]⟩ : ByteArray)⟩ : S40), (⟨(⟨#[111]⟩ : ByteArray), 5, (⟨#[97]⟩ : ByteArray)⟩ : S40)] : List (S40)))⟩ : S34)] : List (S34)))
set_option maxHeartbeats 8000000 in
set_option maxRecDepth 100000 in
theorem foliatelaw06_One.calls  (r : List (S34)) (w : World) (h : foliatelaw06_One.f  = some r) :
    Calls Try.prog 23 #[] w fun e w' => ∃ v0_ : Value, e = .returned (.agg #[v0_]) ∧ Kd.N k34 34 w' w.heap.size (fun k_ => (w.heap.size ≤ k_)) v0_ r ∧ Below w.heap.size w w' := by
  have hu24 := Try.underlying24
  have hu40 := Try.underlying40
  have hu34 := Try.underlying34
  have HB := Aside0.mk (Below.refl w.heap.size w)
  have H : (some (([(⟨(⟨#[97]⟩ : ByteArray), (([(⟨(⟨#[110]⟩ : ByteArray), 2, (⟨#[]⟩ : ByteArray)⟩ : S40), (⟨(⟨#[111]⟩ : ByteArray), 5, (⟨#[97]⟩ : ByteArray)⟩ : S40)] : List (S40)))⟩ : S34)] : List (S34)))) = some r := h
  clear h
  obtain ⟨y124, hy124⟩ : ∃ y_ : List (S40), y_ = (([(⟨(⟨#[110]⟩ : ByteArray), 2, (⟨#[]⟩ : ByteArray)⟩ : S40), (⟨(⟨#[111]⟩ : ByteArray), 5, (⟨#[97]⟩ : ByteArray)⟩ : S40)] : List (S40))) := ⟨_, rfl⟩
  replace H : (some (([(⟨(⟨#[97]⟩ : ByteArray), y124⟩ : S34)] : List (S34)))) = some r := by first | (rw [hy124]; with_reducible exact H) | (have H2_ := (Option.bind_some _ _).symm.trans H; rw [hy124]; with_reducible exact H2_) | (have H2_ := (Option.bind_some _ _).symm.trans H; with_reducible exact H2_) | with_reducible exact H | (rw [hy124]; exact H) | exact H
  have Ny124 := Aside0.mk hy124
  clear hy124
  obtain ⟨y127, hy127⟩ : ∃ y_ : List (S34), y_ = (([(⟨(⟨#[97]⟩ : ByteArray), y124⟩ : S34)] : List (S34))) := ⟨_, rfl⟩
  replace H : (some y127) = some r := by first | (rw [hy127]; with_reducible exact H) | (have H2_ := (Option.bind_some _ _).symm.trans H; rw [hy127]; with_reducible exact H2_) | (have H2_ := (Option.bind_some _ _).symm.trans H; with_reducible exact H2_) | with_reducible exact H | (rw [hy127]; exact H) | exact H
  have Ny127 := Aside0.mk hy127
  clear hy127
  obtain rfl := Option.some.inj H
  go_enter Try.func23, Try.ntmps23
  go_wp2_with (first | ((with_reducible refine gate_dst (N := 0) rfl ?_); refine box_event ?hg (N := 0) ?hd (cs := #[.slice none 0 0]) (t := 24) ?hr ?_; (case hd => rfl); (case hg => rfl); (case hr => first | (go_simp; done) | (go_simp; rfl)); intro gb123 hg w1 hbox hb; have n0_ := Aside0.mk (below_step (by repeat (first | (with_reducible first | exact HB.out | apply below_alloc | apply pw_below_drewN | apply below_drew1) | exact HB.out)) hb); have n1_ := Aside0.mk (hbox); have n2_ := Aside0.mk ((by rw [hg]; exact (below_size (by repeat (first | (with_reducible first | exact HB.out | apply below_alloc | apply pw_below_drewN | apply below_drew1) | exact HB.out))) : w.heap.size ≤ gb123)); have n3_ := Aside0.mk ((by rw [hg]; exact (below_size (by repeat (first | (with_reducible first | exact HB.out | apply below_alloc | apply pw_below_drewN | apply below_drew1) | exact HB.out))) : w.heap.size ≤ gb123)); clear HB; have HB := n0_; have BK123 := n1_; have GW123 := n2_; have GE123 := n3_; clear n0_ n1_ n2_ n3_; clear hb hbox hg) | ((with_reducible refine gate_dst (N := 3) rfl ?_); refine Kd.R_lit k40 _ 40 ?hg (N := 3) ?hd (xs := ([(⟨(⟨#[110]⟩ : ByteArray), 2, (⟨#[]⟩ : ByteArray)⟩ : S40), (⟨(⟨#[111]⟩ : ByteArray), 5, (⟨#[97]⟩ : ByteArray)⟩ : S40)] : List (S40))) (inner := [.string (⟨#[110]⟩ : ByteArray), .int .i64 2, .string (⟨#[]⟩ : ByteArray), .string (⟨#[111]⟩ : ByteArray), .int .i64 5, .string (⟨#[97]⟩ : ByteArray)]) (ok := fun _ => True) (okp := fun _ => True) ?hr ?hp (fun _ hk => hk) trivial (Below.refl _ _) (Nat.le_refl _) (by simp) ?_; (case hd => rfl); (case hg => rfl); (case hr => first | (go_simp; done) | (go_simp; rfl)); (case hp => exact (Reps.c3 (show Kd.M k40 _ _ _ (⟨(⟨#[110]⟩ : ByteArray), 2, (⟨#[]⟩ : ByteArray)⟩ : S40) [.string (⟨#[110]⟩ : ByteArray), .int .i64 2, .string (⟨#[]⟩ : ByteArray)] from (k40_mkM _ _ _ (⟨(⟨#[110]⟩ : ByteArray), 2, (⟨#[]⟩ : ByteArray)⟩ : S40) )) (Reps.c3 (show Kd.M k40 _ _ _ (⟨(⟨#[111]⟩ : ByteArray), 5, (⟨#[97]⟩ : ByteArray)⟩ : S40) [.string (⟨#[111]⟩ : ByteArray), .int .i64 5, .string (⟨#[97]⟩ : ByteArray)] from (k40_mkM _ _ _ (⟨(⟨#[111]⟩ : ByteArray), 5, (⟨#[97]⟩ : ByteArray)⟩ : S40) )) (Reps.none _ _)))); intro v125 w2 ho3 hb hg_ hnew_; clear hg_ hnew_; (first | rw [← Ny124.out] at ho3 | (simp only [Int.reduceToNat] at ho3; rw [← Ny124.out] at ho3)); have n0_ := Aside0.mk (Kd.R_lower (Kd.R_newM (M := fun k_ => (w.heap.size ≤ k_)) ho3 (below_size (by repeat (first | (with_reducible first | exact HB.out | apply below_alloc | apply pw_below_drewN | apply below_drew1 | refine below_set ?_ GE123.out) | exact HB.out))) (fun k_ h_ => h_)) (below_size (by repeat (first | (with_reducible first | exact HB.out | apply below_alloc | apply pw_below_drewN | apply below_drew1 | refine below_set ?_ GE123.out) | exact HB.out)))); have n1_ := Aside0.mk (blk_below (g := gb123) (o := .cells #[.slice none 0 0] 24 (0, 0)) (by (with_reducible repeat (first | refine blk_drewN ?_ _ | refine blk_drew ?_ | refine blk_alloc ?_ _)); exact BK123.out) hb); have n2_ := Aside0.mk (below_step (by repeat (first | (with_reducible first | exact HB.out | apply below_alloc | apply pw_below_drewN | apply below_drew1 | refine below_set ?_ GE123.out) | exact HB.out)) hb); clear BK123; clear HB; have HO126 := n0_; have BK123 := n1_; have HB := n2_; clear n0_ n1_ n2_; clear hb ho3; obtain ⟨Ao4, co4, eo4⟩ := Kd.R_slice HO126.out; subst eo4) | ((with_reducible refine gate_dst (N := 5) rfl ?_); refine Kd.N_lit k34 _ 34 ?hg (N' := 5) ?hd (xs := ([(⟨(⟨#[97]⟩ : ByteArray), y124⟩ : S34)] : List (S34))) (inner := [.string (⟨#[97]⟩ : ByteArray), .slice Ao4 y124.length co4]) (ok := (fun k_ => (w.heap.size ≤ k_) ∧ k_ ≠ gb123)) (okp := (fun k_ => (w.heap.size ≤ k_) ∧ k_ ≠ gb123)) ?hr ?hp (fun _ hk => hk) ((show ∀ k_, w2.heap.size ≤ k_ → (fun k_ => (w.heap.size ≤ k_) ∧ k_ ≠ gb123) k_ from fun k_ hk => ⟨(Nat.le_trans (below_size (by repeat (first | (with_reducible first | exact HB.out | apply below_alloc | apply pw_below_drewN | apply below_drew1 | refine below_set ?_ GE123.out) | exact HB.out))) hk), Kd.freshB (g := gb123) (o := .cells #[.slice none 0 0] 24 (0, 0)) (by (with_reducible repeat (first | refine blk_drewN ?_ _ | refine blk_drew ?_ | refine blk_alloc ?_ _)); exact BK123.out) k_ hk⟩) _ (Nat.le_refl _)) (Below.refl _ _) (Nat.le_refl _) (by simp) ?_; (case hd => rfl); (case hg => rfl); (case hr => first | (go_simp; done) | (go_simp; rfl)); (case hp => exact (Reps.c2 (show Kd.FK k34 _ _ (⟨(⟨#[97]⟩ : ByteArray), y124⟩ : S34) [.string (⟨#[97]⟩ : ByteArray), .slice Ao4 y124.length co4] from (k34_mkF _ _ (⟨(⟨#[97]⟩ : ByteArray), y124⟩ : S34) (Kd.R_reads' (Kd.R_mono (ok' := (fun k_ => (w.heap.size ≤ k_) ∧ k_ ≠ gb123)) (Kd.R_types (HO126.out) BK123.out (by decide)) (fun k_ hk => ⟨hk.1.1, hk.2⟩))).2.1 (Kd.R_F (Kd.R_mono (ok' := (fun k_ => (w.heap.size ≤ k_) ∧ k_ ≠ gb123)) (Kd.R_types (HO126.out) BK123.out (by decide)) (fun k_ hk => ⟨hk.1.1, hk.2⟩))))) (Reps.none _ _))); intro v128 w5 ho6 hb hg_ hnew_; clear hg_ hnew_; (first | rw [← Ny127.out] at ho6 | (simp only [Int.reduceToNat] at ho6; rw [← Ny127.out] at ho6)); have n0_ := Aside0.mk (Kd.N_lower ho6 (below_size (by repeat (first | (with_reducible first | exact HB.out | apply below_alloc | apply pw_below_drewN | apply below_drew1 | refine below_set ?_ GE123.out) | exact HB.out)))); have n1_ := Aside0.mk (blk_below (g := gb123) (o := .cells #[.slice none 0 0] 24 (0, 0)) (by (with_reducible repeat (first | refine blk_drewN ?_ _ | refine blk_drew ?_ | refine blk_alloc ?_ _)); exact BK123.out) hb); have n2_ := Aside0.mk (below_step (by repeat (first | (with_reducible first | exact HB.out | apply below_alloc | apply pw_below_drewN | apply below_drew1 | refine below_set ?_ GE123.out) | exact HB.out)) hb); clear BK123; clear HB; clear HO126; have HO129 := n0_; have BK123 := n1_; have HB := n2_; clear n0_ n1_ n2_; clear hb ho6; obtain ⟨Ao7, co7, eo7⟩ := Kd.N_slice HO129.out; subst eo7; have hcz8_0 : w5.cell? ⟨gb123, 0, none⟩ = some (.slice none 0 0) := (blk_cell BK123.out 0).trans rfl; have hfz8_0 := blk_frozen BK123.out 0))
  refine bodyPost_ret (results_cell_row rfl _ _ gb123 24 #[.slice Ao7 y127.length co7] (0, 0) _ rfl (by (with_reducible repeat (first | refine blk_drewN ?_ _ | refine blk_drew ?_ | refine blk_alloc ?_ _)); refine blk_put (cs := #[.slice none 0 0]) ?_ 0 _ rfl; (with_reducible repeat (first | refine blk_drewN ?_ _ | refine blk_drew ?_ | refine blk_alloc ?_ _)); exact BK123.out) Try.underlying24 rfl (by kernel_rfl)) rfl ?_
  exact ⟨_, by first | rfl | (simp [errW_none, errW_some] <;> rfl) | (simp [*, errW_none, errW_some] <;> rfl), by (with_reducible repeat (first | apply Kd.N_alloc | apply Kd.N_drewN | apply Kd.N_drew)); exact Kd.N_mono (Kd.N_far (p := ⟨gb123, 0, none⟩) (Kd.N_mono HO129.out (fun k_ hk => (⟨hk, hk.2⟩ : _ ∧ k_ ≠ gb123))) (fun _ hk => hk.2) (.slice Ao7 y127.length co7)) (fun _ hk => hk.1.1), by repeat (first | (with_reducible first | exact HB.out | apply below_alloc | apply pw_below_drewN | apply below_drew1 | refine below_set ?_ GE123.out) | exact HB.out)⟩

end Go.Proofs.Ytlcanmndeempfaa.PMo
