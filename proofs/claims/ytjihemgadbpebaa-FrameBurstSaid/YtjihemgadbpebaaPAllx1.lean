-- Written by wip/tools/myprint.py, a program of the prover's own, over the kit's print; the contracts named 'HAND' there are typed by hand.
import Derived.Test.YtjihemgadbpebaaPAllx0
namespace Go.Proofs.Ytjihemgadbpebaa.PAll
open Go.RowKit Go.Proofs.YtjihemgadbpebaaW.PrintWords Go.Proofs.YtjihemgadbpebaaW.PrintLast Go.Proofs.YtjihemgadbpebaaW.PrintMore
attribute [local go_sem] max2_int min2_int max_two min_two max_three min_three max_four min_four   -- for this text's walks alone
set_option linter.unusedVariables false
set_option linter.unusedSimpArgs false

/-! ### slices_Grow_byte_byte: function 28 -/
theorem grow_info : (Try.prog.info? 5).map (fun i => (i.zero, i.size, i.bytes)) = some (some (.int .u8 0), 1, 1) := by kernel_rfl
set_option maxHeartbeats 4000000 in
/-- slices.Grow of nil: a new row, bare, with room. -/
theorem grow_nil (n : Nat) (w : World) (hn : 0 < n) (hbig : n ≤ 140737488355328) :
    Calls Try.prog 28 #[.slice none 0 0, .int .i64 n] w fun e w' => ∃ v, e = .returned v ∧ Kd.R (Kd.int .u8) 5 w' w.heap.size (fun _ => True) v [] ∧ Below w.heap.size w w' := by
  obtain ⟨i0, hi0, hz0, hs0, hb0⟩ := info_parts grow_info
  have h1 : ¬ ((n : Int) < 0) := by omega
  have h2 : wrap64 ((0 : Int) - (0 : Int)) = 0 := by unfold wrap64; omega
  have h3 : wrap64 ((n : Int) - 0) = (n : Int) := by unfold wrap64; omega
  have h3' : wrap64 (n : Int) = (n : Int) := by unfold wrap64; omega
  have h4 : (n : Int) > 0 := by omega
  have h4' : 0 < n := by omega
  have hold : (Builtin.firstCells i0.size 0 (.slice none 0 0)).run Try.prog w.drew = .ok (([] : List Value).toArray) w.drew := run_firstCells_none w.drew i0.size 0 0 0
  have hrz : ∀ ty, (Builtin.append_ #[22, 3] ty #[.slice none 0 0, .int .i64 (n : Int)]).run Try.prog w =
      .ok (.slice (some ⟨w.heap.size, 0, none⟩) n (grownCap w n 0 5)) (w.drew.alloc (.cells (([] : List Value).toArray ++ Builtin.zeroCells (Value.int .u8 0).cells n ++ Builtin.zeroCells (Value.int .u8 0).cells (grownCap w n 0 5 - n)) 5)) := fun ty => by
    have h := Lib.run_append_grow_zeros (P := Try.prog) w 22 3 ty 5 i0 (.int .u8 0) .i64 .i64 Try.underlying22 Try.underlying3 hi0 hz0 none 0 0 [] hold n hn (by omega) (by omega) (by omega) (by rw [hb0]; omega)
      (by have := growslice_fits (need := n) (old := 0) (bytes := i0.bytes) (by omega) (by rw [hb0]; omega); simpa using this)
    simpa using h
  have hGn : n ≤ grownCap w n 0 5 := grownCap_ge w _ _ _
  obtain ⟨G, hG⟩ : ∃ G, G = grownCap w n 0 5 := ⟨_, rfl⟩
  rw [← hG] at hrz hGn
  have hG63 : G ≤ 9223372036854775807 := by
    have := grownCap_le_maxLen w n 0 5 (by unfold maxLen; omega)
    rw [← hG] at this
    unfold maxLen at this
    omega
  clear hold hG
  go_enter Try.func28, Try.ntmps28
  go_wp2_with (at_builtin; refine Lib.wpList_append_run _ rfl _ _ _ _ rfl _ _ rfl rfl _ _ (hrz _) ?_)
  all_goals
    go_ret
    refine ⟨_, rfl, ?_, ?_⟩
    · exact Kd.R_of_own (enc := Value.int .u8) ⟨by simp [encs], .inr ⟨w.heap.size, G, _, rfl, Nat.le_refl _, heap_alloc_new _ _, Nat.zero_le _, by unfold maxLen; omega, by simp [Builtin.zeroCells]; omega, by simp [encs]⟩⟩ (fun _ _ => trivial)
    · exact below_drew1 ((Below.refl _ w).alloc (Nat.le_refl _) _)
set_option maxHeartbeats 4000000 in
theorem grow_zero (w : World) : Calls Try.prog 28 #[.slice none 0 0, .int .i64 0] w fun e w' => e = .returned (.slice none 0 0) ∧ Below w.heap.size w w' := by
  have h2 : wrap64 ((0 : Int) - (0 : Int)) = 0 := by unfold wrap64; omega
  go_enter Try.func28, Try.ntmps28
  go_wp2
  go_ret
  exact ⟨rfl, Below.refl _ _⟩
theorem grow_any (n : Nat) (w : World) (hbig : n ≤ 140737488355328) :
    Calls Try.prog 28 #[.slice none 0 0, .int .i64 n] w fun e w' => ∃ v, e = .returned v ∧ Kd.R (Kd.int .u8) 5 w' w.heap.size (fun _ => True) v [] ∧ Below w.heap.size w w' := by
  rcases Nat.eq_zero_or_pos n with rfl | hn
  · refine (grow_zero w).mono ?_
    rintro e w' ⟨rfl, hb⟩
    exact ⟨_, rfl, Kd.R_nil _ _ _ _ _, hb⟩
  · exact grow_nil n w hn hbig

/-! ### slices_Concat_byte_byte: function 21 -/
def slices_Concat_byte_byte.f (l0 : List (List Int)) : Option (List Int) := if l0.flatten.length < 140737488355328 ∧ l0.length < 140737488355328 then some l0.flatten else none
def catL (l : List (List Int)) (k : Nat) : List Int := (l.take k).flatten
def catN (l : List (List Int)) (k : Nat) : Nat := (catL l k).length
theorem catL_zero (l : List (List Int)) : catL l 0 = [] := rfl
theorem catN_zero (l : List (List Int)) : catN l 0 = 0 := rfl
theorem catL_all (l : List (List Int)) : catL l l.length = l.flatten := by simp [catL]
theorem catN_le (l : List (List Int)) (i : Nat) : catN l i ≤ l.flatten.length := by
  unfold catN catL
  conv => rhs; rw [← List.take_append_drop i l, List.flatten_append, List.length_append]
  omega
theorem concat_at {w : World} {A : Option Addr} {n : Nat} {xs : List (List Int)} (h : Kd.C (Kd.slice 5 (Kd.int .u8)) w A n xs) (hn : n = xs.length) (i : Nat) (h1 : i < n) : ∃ ad A0 c0, ∃ row : List Int, A = some ad ∧ w.cell? (ad.add i) = some (.slice A0 row.length c0) ∧ row.length ≤ c0 ∧ (Kd.int .u8).C w A0 row.length row ∧ catL xs (i + 1) = catL xs i ++ row ∧ catN xs (i + 1) = catN xs i + row.length := by
  obtain ⟨ad, c, e, _, hK, hc0⟩ := Kd.C_get h ([] : List Int) (i : Int) (by omega) (by omega)
  have hc : ∀ j u, c[j]? = some u → w.cell? (ad.add ((i : Int).toNat * 1 + j)) = some u := hc0
  obtain ⟨A0, c0, rfl, l0, g0⟩ := hK
  have hrow : catL xs (i + 1) = catL xs i ++ xs.getD i [] := by
    unfold catL
    rw [List.take_succ_eq_append_getElem (by omega : i < xs.length), List.flatten_append, List.getD_eq_getElem?_getD, List.getElem?_eq_getElem (by omega : i < xs.length)]
    simp
  exact ⟨ad, A0, c0, _, e, by have hq := hc 0 _ rfl; rwa [Nat.mul_one, Nat.add_zero] at hq, l0, g0, hrow, by unfold catN; rw [hrow, List.length_append]; rfl⟩
set_option maxHeartbeats 4000000 in
theorem slices_Concat_byte_byte.calls (A0 : Option Addr) (c0 : Nat) (l0 : List (List Int)) (r : List Int) (w : World) (hr0 : Kd.C (Kd.slice 5 (Kd.int .u8)) w A0 l0.length l0) (hc0 : l0.length ≤ c0) (h : slices_Concat_byte_byte.f l0 = some r) :
    Calls Try.prog 21 #[.slice A0 l0.length c0] w fun e w' => ∃ v0_ : Value, e = .returned (v0_) ∧ Kd.R (Kd.int .u8) 5 w' w.heap.size (fun _ => True) v0_ r ∧ Below w.heap.size w w' := by
  unfold slices_Concat_byte_byte.f at h
  by_cases hl : l0.flatten.length < 140737488355328 ∧ l0.length < 140737488355328
  · rw [if_pos hl] at h
    obtain rfl := Option.some.inj h
    have HL := Aside0.mk hl.1
    have HL2 := Aside0.mk hl.2
    obtain ⟨n, hn⟩ : ∃ n, n = l0.length := ⟨_, rfl⟩
    rw [← hn] at hr0 ⊢
    have HR := Aside0.mk hr0
    have HN := Aside0.mk hn
    clear h hl hr0 hc0 hn
    go_enter Try.func21, Try.ntmps21
    go_wp2
    go_loop [3, 11] (fun a i => ∃ k : Nat, k ≤ n ∧ a = .int .i64 (catN l0 k : Int) ∧ i = .int .i64 (k : Int)) (fun _ i => match i with | .int _ m => ((n : Int) - m).toNat | _ => 0)
    case atStart => exact ⟨0, by omega, by rw [catN_zero]; rfl, rfl⟩
    case round =>
      obtain ⟨k, hk, rfl, rfl⟩ := hrel
      by_cases hlt : k < n
      · have hb : decide ((k : Int) < (n : Int)) = true := decide_eq_true (by omega)
        have hb2 : decide (k < n) = true := decide_eq_true (by omega)
        have hat_ := concat_at HR.out HN.out k hlt
        obtain ⟨ad, A1, c1, row, rfl, hcell, hlc, hC, hcl, hcn⟩ := hat_
        have hle := catN_le l0 (k + 1)
        have hw : wrap64 ((catN l0 k : Int) + (row.length : Int)) = (catN l0 (k + 1) : Int) := by
          have := HL.out
          unfold wrap64
          omega
        have hneg : decide ((catN l0 (k + 1) : Int) < 0) = false := decide_eq_false (by omega)
        have hk1 : wrap64 ((k : Int) + 1) = (k : Int) + 1 := by have := HL2.out; have := HN.out; unfold wrap64; omega
        have HLT := Aside0.mk hlt
        clear hC hlc hcl hcn hle hk
        go_wp2
        go_round
        case rel => exact ⟨k + 1, HLT.out, by rw [hw], by rw [hk1]; rfl⟩
        case measure => simp; have := HLT.out; omega
      · have hb : decide ((k : Int) < (n : Int)) = false := decide_eq_false (by omega)
        have hb2 : decide (k < n) = false := decide_eq_false (by omega)
        obtain rfl : k = n := by omega
        clear hlt hk
        have hkn : catN l0 k ≤ 140737488355328 := by have := HL.out; have := catN_le l0 k; omega
        have HKN := Aside0.mk hkn
        clear hkn
        go_wp2_with (go_at_call 28; refine (grow_any (catN l0 k) w HKN.out).mono ?_; rintro e w1 ⟨v, rfl, ho, hbw⟩)
        clear hb hb2
        go_loopw [6, 27] (fun a i wr => Aside0 (Below w.heap.size w wr) ∧ ∃ j : Nat, j ≤ k ∧ i = .int .i64 (j : Int) ∧ Aside0 (Kd.R (Kd.int .u8) 5 wr w.heap.size (fun _ => True) a (catL l0 j))) (fun _ i _ => match i with | .int _ m => ((k : Int) - m).toNat | _ => 0)
        case atStart => exact ⟨⟨hbw⟩, 0, by omega, rfl, ⟨by rw [catL_zero]; exact ho⟩⟩
        case round =>
          clear hbw ho
          obtain ⟨HB, j, hj, rfl, HO⟩ := hrel
          by_cases hlt : j < k
          · have hb : decide ((j : Int) < (k : Int)) = true := decide_eq_true (by omega)
            have hb2 : decide (j < k) = true := decide_eq_true (by omega)
            have hat_ := concat_at (Kd.C_below HR.out HB.out) HN.out j hlt
            obtain ⟨ad, A1, c1, row, rfl, hcell0, hlc, hC, hcl, hcn⟩ := hat_
            have HC := Aside0.mk hC
            have hle : (catL l0 j).length + row.length < 140737488355328 := by
              have h1 := catN_le l0 (j + 1)
              have := HL.out
              have h2 : catN l0 j = (catL l0 j).length := rfl
              omega
            have HLE := Aside0.mk hle
            have HCL := Aside0.mk hcl
            have hk1 : wrap64 ((j : Int) + 1) = (j : Int) + 1 := by have := HL2.out; have := HN.out; unfold wrap64; omega
            have HLT := Aside0.mk hlt
            clear hC hlc hcl hcn hle hj
            go_wp2_with (first | ((with_reducible refine gate_builtin (b := .append) (xs := #[.tmp 31, .tmp 32]) rfl ?_); at_builtin; refine Kd.R_append_rows (Kd.int .u8) (w0 := w) w.heap.size rfl (.tmp 31) (.tmp 32) 22 5 (.int .u8 0) 1 rfl Try.underlying22 grow_info rfl (by decide) (by omega) _ (catL l0 j) row _ _ _ (fun _ => True) (fun _ => False) rfl rfl HO.out HC.out (fun _ _ h => h) (fun _ h => h.elim) (fun _ _ => trivial) HB.out (below_size HB.out) (by have := HLE.out; omega) ?_; intro v1 w2 ho2 hb2 hg2 hat2))
            go_roundw
            case rel => exact ⟨⟨hb2⟩, j + 1, HLT.out, by rw [hk1]; rfl, ⟨by rw [HCL.out]; exact ho2⟩⟩
            case measure => simp; have := HLT.out; omega
          · have hb : decide ((j : Int) < (k : Int)) = false := decide_eq_false (by omega)
            have hb2 : decide (j < k) = false := decide_eq_false (by omega)
            obtain rfl : j = k := by omega
            clear hlt hj
            go_wp2
            go_ret
            exact ⟨_, rfl, by have := HO.out; rw [HN.out, catL_all] at this; exact this, HB.out⟩
  · rw [if_neg hl] at h
    exact absurd h (by simp)

/-! ### crc_table: function 34 -/
set_option maxHeartbeats 400000
theorem hide {p : Prop} (h : p) : Hid p := h
def stp (n : Int) : Int := if Go.bits .and .u32 n 1 = 1 then Go.bits .xor .u32 (n / 2) 3988292384 else n / 2

theorem step_any (n : Int) (w : World) :
    Calls Try.prog 36 #[.int .u32 n] w fun e w' => e = .returned (.int .u32 (stp n)) ∧ w = w' := by
  unfold stp
  by_cases h : Go.bits .and .u32 n 1 = 1
  · have h1 : (Go.bits .and .u32 n 1 == 1) = true := beq_iff_eq.mpr h
    rw [if_pos h]
    clear h
    go_enter Try.func36, Try.ntmps36
    go_wp2
    go_ret
    exact ⟨rfl, rfl⟩
  · have h1 : (Go.bits .and .u32 n 1 == 1) = false := beq_eq_false_iff_ne.mpr h
    rw [if_neg h]
    clear h
    go_enter Try.func36, Try.ntmps36
    go_wp2
    go_ret
    exact ⟨rfl, rfl⟩
def Z256 : Array Value := Array.replicate 256 (.int .u32 0)
theorem zero35 (w : World) : (zeroValue 54).run Try.prog w = .ok (.agg Z256) w := by kernel_rfl

/-- The 256 cells of a function on numbers. -/
def Tab (g : Nat → Int) : Array Value := Array.ofFn (n := 256) fun j => .int .u32 (g j.val)
theorem Tab_size (g : Nat → Int) : (Tab g).size = 256 := by simp [Tab]
theorem Tab_get (g : Nat → Int) (i : Nat) (h : i < 256) : (Tab g)[i]? = some (.int .u32 (g i)) := by
  simp [Tab, h]
def upd (g : Nat → Int) (i : Nat) (x : Int) : Nat → Int := fun j => if j = i then x else g j
theorem Tab_set (g : Nat → Int) (i : Nat) (x : Int) : (Tab g).setIfInBounds i (.int .u32 x) = Tab (upd g i x) := by
  apply Array.ext
  · simp [Tab]
  · intro j h1 h2
    simp only [Tab, Array.size_setIfInBounds, Array.size_ofFn] at h1
    rw [Array.getElem_setIfInBounds]
    · by_cases e : i = j
      · subst e; simp [Tab, upd]
      · simp [Tab, upd, e]; omega
    · simpa [Tab] using h1
theorem Z_tab : Z256 = Tab (fun _ => 0) := by
  apply Array.ext
  · simp [Z256, Tab]
  · intro j h1 h2
    simp [Z256, Tab]

/-- block N holds the table of g -/
def HasTab (N : Nat) (g : Nat → Int) (w : World) : Prop := w.heap[N]? = some (.cells (Tab g) 54 (0, 0))
theorem HasTab.cell {N : Nat} {g : Nat → Int} {w : World} (h : HasTab N g w) (i : Nat) (hi : i < 256) : w.cell? ⟨N, i, none⟩ = some (.int .u32 (g i)) := by
  unfold HasTab at h
  simp [World.cell?, h, Tab_get g i hi]
theorem HasTab.frozen {N : Nat} {g : Nat → Int} {w : World} (h : HasTab N g w) (i : Nat) : w.frozen? ⟨N, i, none⟩ = false := by
  unfold HasTab at h
  simp [World.frozen?, h]
theorem HasTab.set {N : Nat} {g : Nat → Int} {w : World} (h : HasTab N g w) (i : Nat) (x : Int) : HasTab N (upd g i x) (w.setCell ⟨N, i, none⟩ (.int .u32 x)) := by
  unfold HasTab at *
  simp only [World.setCell, Array.getElem?_modify, if_true, h, Option.map_some, Option.isSome_none, Bool.false_eq_true, if_false, Tab_set]
theorem HasTab.start (w : World) : HasTab (w.heap.size + 1) (fun _ => 0) ((w.alloc (.cells Z256 54)).alloc (.cells Z256 54)) := by
  unfold HasTab
  rw [← Z_tab]
  have h : w.heap.size + 1 = (w.alloc (.cells Z256 54)).heap.size := by simp
  rw [h]
  simp only [World.alloc, Array.getElem?_push_size]


def itr : Nat → Int → Int
  | 0, x => x
  | m + 1, x => stp (itr m x)
def tb (j : Nat) : Int := itr 8 j
theorem Tab_congr {g h : Nat → Int} (e : ∀ j, j < 256 → g j = h j) : Tab g = Tab h := by
  apply Array.ext
  · simp [Tab]
  · intro j h1 h2
    have : j < 256 := by simpa [Tab] using h1
    simp [Tab, e j this]
theorem Tab_one {g : Nat → Int} : (Tab g).all (·.oneCell') = true := by
  rw [Array.all_eq_true]
  intro i h
  simp [Tab, Value.oneCell']
theorem crc_below_setRow {B g : Nat} {w0 w : World} (hb : Below B w0 w) (hBg : B ≤ g) (cs : Array Value) : Below B w0 (w.setRow g cs) :=
  hb.trans ⟨rfl, rfl, rfl, by simp, fun k hk => setRow_other w g k cs (by omega)⟩
theorem und35 : Try.prog.underlying 54 = some (.array 256 38) := by kernel_rfl
theorem sz35 : (Try.prog.info? 54).map (·.size) = some 256 := by kernel_rfl

set_option maxRecDepth 100000 in
theorem table_any (w : World) :
    Calls Try.prog 34 #[] w fun e w' => e = .returned (.agg (Tab tb)) ∧ Below w.heap.size w w' := by
  have hz := zero35
  go_enter Try.func34, Try.ntmps34
  go_wp2
  go_loopw [4] (fun v4 wr => ∃ (k : Nat) (g : Nat → Int), k ≤ 256 ∧ v4 = .int .i64 k ∧ Hid (∀ j, j < k → g j = tb j) ∧ HasTab (w.heap.size + 1) g wr ∧ wr.heap[w.heap.size]? = some (.cells Z256 54 (0, 0)) ∧ Below w.heap.size w wr) (fun v _ => 256 - (intOf v).toNat)
  case atStart => exact ⟨0, fun _ => 0, by omega, rfl, hide (fun j hj => absurd hj (by omega)), HasTab.start w, heap_alloc2_old w _ _, ((Below.refl _ _).alloc (Nat.le_refl _) _).alloc (by simp) _⟩
  case round =>
    obtain ⟨k, g, hk, rfl, HG, HT, HZ, HB⟩ := hrel
    have HZ' := hide HZ
    clear HZ
    by_cases hlt : k < 256
    · have hb : decide ((k : Int) < 256) = true := decide_eq_true (by omega)
      have hc := HT.cell k hlt
      have hf := HT.frozen k
      have HT' := hide HT
      clear HT
      go_wp2
      obtain ⟨wo, hwo⟩ : ∃ wo : World, wo = wr.setCell ⟨w.heap.size + 1, k, none⟩ (.int .u32 k) := ⟨_, rfl⟩
      rw [← hwo]
      have HT1 : HasTab (w.heap.size + 1) (upd g k k) wo := hwo ▸ HT'.out.set k k
      have HZ1 : wo.heap[w.heap.size]? = some (.cells Z256 54 (0, 0)) := by rw [hwo, heap_setCell_other _ _ _ _ (by simp)]; exact HZ'.out
      have HB1 : Below w.heap.size w wo := hwo ▸ HB.setCell (by simp) _
      clear hwo hc hf HT' HZ' HB
      go_loopw [11] (fun v11 wr' => ∃ (m : Nat) (g' : Nat → Int), m ≤ 8 ∧ v11 = .int .i64 m ∧ Hid (g' k = itr m k ∧ ∀ j, j ≠ k → g' j = g j) ∧ HasTab (w.heap.size + 1) g' wr' ∧ wr'.heap[w.heap.size]? = some (.cells Z256 54 (0, 0)) ∧ Below w.heap.size w wr') (fun v _ => 8 - (intOf v).toNat)
      case atStart => exact ⟨0, _, by omega, rfl, hide ⟨by simp [upd, itr], fun j hj => by simp [upd, hj]⟩, HT1, HZ1, HB1⟩
      case round =>
        obtain ⟨m, g', hm, rfl, HG', HT, HZ, HB⟩ := hrel
        have HZ' := hide HZ
        clear HZ
        by_cases hlt' : m < 8
        · have hc := HT.cell k hlt
          have hf := HT.frozen k
          have HT' := hide HT
          clear HT
          go_wp2_with (go_at_call 36; refine (step_any _ _).mono ?_; rintro e w' ⟨rfl, rfl⟩)
          go_roundw
          case rel => exact ⟨m + 1, upd g' k (stp (g' k)), by omega, by go_num, hide ⟨by simp [upd, itr, HG'.out.1], fun j hj => by simp [upd, hj]; exact HG'.out.2 j hj⟩, HT'.out.set k _, by rw [heap_setCell_other _ _ _ _ (by simp)]; exact HZ'.out, HB.setCell (by simp) _⟩
          case measure => simp [intOf]; omega
        · go_wp2
          go_roundw
          case rel => exact ⟨k + 1, g', by omega, by go_num, hide (fun j hj => by
            by_cases e : j = k
            · subst e; obtain rfl : m = 8 := by omega
              exact HG'.out.1
            · rw [HG'.out.2 j e]; exact HG.out j (by omega)), HT, HZ'.out, HB⟩
          case measure => simp [intOf]; omega
    · have HT' := hide HT
      clear HT
      go_wp2_with (first
        | (refine wpList_load_row rfl 54 (.tmp 2) rfl (w.heap.size + 1) rfl 54 (Tab g) (0, 0) _ HT'.out und35 rfl (by rw [sz35]; simp [Tab]) ?_)
        | (refine wpList_store_row rfl 54 (.tmp 0) (.tmp 22) rfl w.heap.size (Tab g) rfl rfl 54 Z256 HZ'.out (by rw [sz35]; simp [Tab]) (by simp [Tab, Z256]) Tab_one ?_))
      obtain rfl : k = 256 := by omega
      have E : Tab g = Tab tb := Tab_congr HG.out
      have HZ2 : (wr.setRow w.heap.size (Tab g)).heap[w.heap.size]? = some (.cells (Tab tb) 54 (0, 0)) := by rw [setRow_heap _ _ _ _ _ _ HZ'.out, E]
      refine bodyPost_ret (results_cell_row Try.results34 _ _ w.heap.size 54 (Tab tb) (0, 0) _ rfl HZ2 und35 rfl (by rw [sz35]; simp [Tab])) rfl ⟨rfl, crc_below_setRow HB (Nat.le_refl _) _⟩


/-! ### crc_With: function 32 -/
def crcStep (n c : Int) : Int := Go.bits .xor .u32 (n / 256) (tb (Go.bits .xor .u8 (n % 256) c).toNat)
def crcFold (n : Int) (l : List Int) : Int := l.foldl crcStep n
def crc_With.f (a0 : Int) (l1 : List Int) : Option Int := some (Go.bits .xor .u32 (crcFold (Go.bits .xor .u32 a0 4294967295) l1) 4294967295)
theorem xor8_range (a b : Int) : 0 ≤ Go.bits .xor .u8 a b ∧ Go.bits .xor .u8 a b < 256 := by
  simp only [Go.bits, IntKind.wrap_u8]; omega
theorem xor32_range (a b : Int) : 0 ≤ Go.bits .xor .u32 a b ∧ Go.bits .xor .u32 a b < 4294967296 := by
  simp only [Go.bits, IntKind.wrap_u32]; omega
theorem take_snoc (l : List Int) (k : Nat) (h : k < l.length) : l.take (k + 1) = l.take k ++ [rd l (k : Int)] := by
  rw [List.take_succ_eq_append_getElem h]; simp [rd, List.getD_eq_getElem?_getD, List.getElem?_eq_getElem h]
theorem crcFold_snoc (n : Int) (l : List Int) (k : Nat) (h : k < l.length) : crcFold n (l.take (k + 1)) = crcStep (crcFold n (l.take k)) (rd l (k : Int)) := by
  rw [take_snoc l k h]; simp [crcFold]
set_option maxHeartbeats 8000000 in
set_option maxRecDepth 100000 in
theorem crc_With.calls (a0 : Int) (A1 : Option Addr) (c1 : Nat) (l1 : List Int) (r : Int) (w : World) (hr1 : Kd.C (Kd.int .u8) w A1 l1.length l1) (hc1 : l1.length ≤ c1) (h : crc_With.f a0 l1 = some r) :
    Calls Try.prog 32 #[.int .u32 a0, .slice A1 l1.length c1] w fun e w' => e = .returned (.int .u32 r) ∧ Below w.heap.size w w' := by
  have HR1 := Aside0.mk hr1
  clear hr1 hc1
  obtain rfl := Option.some.inj h
  clear h
  have hz := zero35
  go_enter Try.func32, Try.ntmps32
  go_wp2_with (first
    | (go_at_call 34; refine (table_any _).mono ?_; rintro e w1 ⟨rfl, HB⟩)
    | (refine wpList_store_row rfl 54 (.tmp 5) (.tmp 9) rfl w1.heap.size (Tab tb) rfl rfl 54 Z256 (heap_alloc_new _ _) (by rw [sz35]; simp [Tab]) (by simp [Tab, Z256]) Tab_one ?_))
  obtain ⟨w2, hw2⟩ : ∃ w2 : World, w2 = (w1.alloc (Obj.cells Z256 54)).setRow w1.heap.size (Tab tb) := ⟨_, rfl⟩
  rw [← hw2]
  have HT : HasTab w1.heap.size tb w2 := by rw [hw2]; exact setRow_heap _ _ _ _ _ _ (heap_alloc_new _ _)
  have HB2 : Below w.heap.size w w2 := by rw [hw2]; exact crc_below_setRow (HB.alloc HB.size _) HB.size _
  have HR2 := Aside0.mk (Kd.C_below HR1.out HB2)
  clear hw2 HR1 HB
  have HT' := hide HT
  clear HT
  go_loop [6, 14] (fun v6 v14 => ∃ (k : Nat) (n : Int), k ≤ l1.length ∧ v6 = .int .u32 n ∧ v14 = .int .i64 k ∧ 0 ≤ n ∧ n < 4294967296 ∧ Hid (n = crcFold (Go.bits .xor .u32 a0 4294967295) (l1.take k))) (fun _ v => l1.length - (intOf v).toNat)
  case atStart => exact ⟨0, _, by omega, rfl, rfl, (xor32_range _ _).1, (xor32_range _ _).2, hide (by simp [crcFold])⟩
  case round =>
    obtain ⟨k, n, hk, rfl, rfl, hn0, hn1, HN⟩ := hrel
    have hm : l1.length ≤ 9223372036854775807 := HR2.out.2.1
    by_cases hlt : k < l1.length
    · obtain ⟨ad, e1, hx⟩ := Kd.at_int HR2.out (k : Int) (by omega) (by omega)
      cases e1
      simp only [Int.toNat_natCast] at hx
      have hi0 := (xor8_range (n % 256) (rd l1 k)).1
      have hi1 := (xor8_range (n % 256) (rd l1 k)).2
      have hc := HT'.out.cell (Go.bits .xor .u8 (n % 256) (rd l1 k)).toNat (by omega)
      go_wp2
      go_round
      case rel => exact ⟨k + 1, _, by omega, rfl, by go_num, (xor32_range _ _).1, (xor32_range _ _).2, hide (by rw [crcFold_snoc _ _ _ hlt, ← HN.out]; rfl)⟩
      case measure => simp [intOf]; omega
    · go_wp2
      go_ret
      obtain rfl : k = l1.length := by omega
      have e := HN.out
      rw [List.take_length] at e
      exact ⟨by rw [← e]; rfl, HB2⟩

/-! ### crc_Sum: function 29 -/
def crc_Sum.f (l0 : List Int) : Option (Int) := (crc_With.f 0 l0).bind fun t101 => (some t101)
set_option maxHeartbeats 8000000 in
set_option maxRecDepth 100000 in
theorem crc_Sum.calls (A0 : Option Addr) (c0 : Nat) (l0 : List Int) (r : Int) (w : World) (hr0 : Kd.C (Kd.int .u8) w A0 l0.length l0) (hc0 : l0.length ≤ c0) (h : crc_Sum.f l0 = some r) :
    Calls Try.prog 29 #[.slice A0 l0.length c0] w fun e w' => e = .returned (.int .u32 r) ∧ Below w.heap.size w w' := by
  have HR0 := Aside0.mk hr0
  have HC0 := Aside0.mk hc0
  clear hr0 hc0
  have HB := Aside0.mk (Below.refl w.heap.size w)
  have H : ((crc_With.f 0 l0).bind fun t101 => (some t101)) = some r := h
  clear h
  replace H := Option.bind_eq_some_iff.mp H
  obtain ⟨t101, A20, H⟩ := H
  replace H : (some t101) = some r := H
  have A2 := Aside0.mk A20
  clear A20
  obtain rfl := Option.some.inj H
  go_enter Try.func29, Try.ntmps29
  go_wp2_with (first | ((with_reducible refine gate_callee (f := 32) rfl ?_); refine goesL_ (some 4) rfl rfl Try.func32 (by kernel_rfl) rfl #[.int .u32 0, .slice A0 l0.length c0] rfl (by (try simp only [List.map_toArray, List.map_cons, List.map_nil]); first | done | rfl | (simp only [List.length_drop, List.length_take]; rfl)) ?_; (with_reducible refine (crc_With.calls 0 _ _ l0 t101 _ ?side1 ?side2 A2.out).mono ?_); (case side1 => repeat (first | exact HR0.out | (with_reducible refine Kd.C_alloc ?_ _) | (with_reducible refine Kd.C_drewN ?_ _) | (with_reducible refine Kd.C_drew ?_))); (case side2 => exact HC0.out); rintro e w3 ⟨rfl, hb⟩; refine ⟨_, rfl, ?_⟩; have n0_ := Aside0.mk (below_step (by repeat (first | (with_reducible first | exact HB.out | apply below_alloc | apply pw_below_drewN | apply below_drew1) | exact HB.out)) hb); clear HB; have HB := n0_; clear n0_; (try clear hb); (try clear hb2); (try clear hk); (try clear hi)))
  go_ret
  exact ⟨by first | rfl | (simp [errW_none, errW_some] <;> rfl) | (simp [*, errW_none, errW_some] <;> rfl), by repeat (first | (with_reducible first | exact HB.out | apply below_alloc | apply pw_below_drewN | apply below_drew1) | exact HB.out)⟩

/-! ### crc_Seal: function 22 -/
def sealOf (n : Int) : List Int := [n % 256, n / 256 % 256, n / 65536 % 256, n / 16777216 % 256]
def crc_Seal.f (l0 : List Int) : Option (List Int) := (crc_Sum.f l0).bind fun n => if l0.length + 4 < 140737488355328 then some (l0 ++ sealOf n) else none
theorem seal_info : (Try.prog.info? 5).map (fun i => (i.zero, i.size, i.bytes)) = some (some (.int .u8 0), 1, 1) := by kernel_rfl
theorem seal_make (m : Nat) (hm : m + 4 < 140737488355328) :
    ∀ W : World, (Instr.makeSlice 22 (.int .i64 (m : Int)) (.int .i64 ((m : Int) + 4))).run Try.prog W = .ok (.slice (some ⟨W.heap.size, 0, none⟩) m (m + 4)) (W.alloc (.cells (madeCells #[.int .u8 0] (m + 4)) 5)) := by
  intro W
  obtain ⟨i0, hi, hz0, hz1, hz2⟩ := info_parts seal_info
  have h := run_make (P := Try.prog) W 22 5 i0 (.int .u8 0) Try.underlying22 hi hz0 .i64 .i64 (m : Int) ((m : Int) + 4) (by omega) (by omega) (by rw [hz2]; omega) (by omega)
  rw [h, hz1]
  have e : ((m : Int) + 4).toNat = m + 4 := by omega
  simp only [Int.toNat_natCast, e, Nat.mul_one]
  rfl
theorem seal_own (W : World) (base m : Nat) (hb : base ≤ W.heap.size) (hm : m + 4 < 140737488355328) :
    (Kd.int .u8).R 5 (W.alloc (.cells (madeCells #[.int .u8 0] (m + 4)) 5)) base (fun _ => True) (.slice (some ⟨W.heap.size, 0, none⟩) m (m + 4)) (List.replicate m 0) := by
  refine Kd.R_of_own ?_ (fun _ _ => trivial)
  refine ⟨by simp [encs], .inr ⟨W.heap.size, m + 4, madeCells #[.int .u8 0] (m + 4), by simp, hb, heap_alloc_new _ _, by simp, by simp only [maxLen]; omega, by simp [size_madeCells], ?_⟩⟩
  apply List.ext_getElem
  · simp [size_madeCells, encs]
  · intro i h1 h2
    simp [madeCells, encs, Nat.mod_one]
theorem sealOf_take (n : Int) (k : Nat) (h : k < 4) : (sealOf n).take (k + 1) = (sealOf n).take k ++ [n / 2 ^ (8 * k) % 256] := by
  have : k = 0 ∨ k = 1 ∨ k = 2 ∨ k = 3 := by omega
  rcases this with rfl | rfl | rfl | rfl <;> simp [sealOf]
set_option maxHeartbeats 8000000 in
set_option maxRecDepth 100000 in
theorem crc_Seal.calls (A0 : Option Addr) (c0 : Nat) (l0 : List Int) (r : List Int) (w : World) (hr0 : Kd.C (Kd.int .u8) w A0 l0.length l0) (hc0 : l0.length ≤ c0) (h : crc_Seal.f l0 = some r) :
    Calls Try.prog 22 #[.slice A0 l0.length c0] w fun e w' => ∃ v0_ : Value, e = .returned (v0_) ∧ Kd.R (Kd.int .u8) 5 w' w.heap.size (fun _ => True) v0_ r ∧ Below w.heap.size w w' := by
  have HR0 := Aside0.mk hr0
  have HC0 := Aside0.mk hc0
  clear hr0 hc0
  obtain ⟨n, A2, h⟩ := Option.bind_eq_some_iff.mp h
  by_cases hl : l0.length + 4 < 140737488355328
  · rw [if_pos hl] at h
    obtain rfl := Option.some.inj h
    clear h
    have A2' := hide A2
    clear A2
    have hmk := seal_make l0.length hl
    go_enter Try.func22, Try.ntmps22
    go_wp2_with (first
      | (go_at_call 29; with_reducible refine (crc_Sum.calls _ _ l0 n _ HR0.out HC0.out A2'.out).mono ?_; rintro e w1 ⟨rfl, HB⟩)
      | ((with_reducible refine gate_builtin (b := .copy) (xs := #[.tmp 14, .tmp 15]) rfl ?_); refine Kd.R_copy (d := 0) (w0 := w) w.heap.size rfl (.tmp 14) (.tmp 15) 22 22 5 rfl Try.underlying22 (by kernel_rfl) (.slice (some ⟨w1.heap.size, 0, none⟩) l0.length (l0.length + 4)) (List.replicate l0.length 0) l0 A0 l0.length c0 (fun _ => True) rfl rfl (seal_own w1 _ _ (Below.size HB) hl) (Kd.C_alloc (Kd.C_below HR0.out HB) _) (below_alloc HB _) (by simp; exact Nat.le_succ_of_le (Below.size HB)) ?_; intro w2 HO HB2 hg))
    have HO2 := hide HO
    clear HO hg hmk A2' HB HR0 HC0 h
    go_loopw [4, 17] (fun v4 v17 wr => ∃ k : Nat, k ≤ 4 ∧ v17 = .int .i64 k ∧ Hid ((Kd.int .u8).R 5 wr w.heap.size (fun _ => True) v4 (l0 ++ (sealOf n).take k)) ∧ Below w.heap.size w wr) (fun _ v _ => 4 - (intOf v).toNat)
    case atStart => exact ⟨0, by omega, rfl, hide (by have := HO2.out; simp only [List.length_replicate, Nat.min_self, List.take_length] at this; rw [List.take_zero]; rw [List.drop_of_length_le (by simp)] at this; exact this), HB2⟩
    case round =>
      obtain ⟨k, hk, rfl, HR, HB⟩ := hrel
      clear HO2 HB2
      by_cases hlt : k < 4
      · have hb : decide ((k : Int) < 4) = true := decide_eq_true (by omega)
        have HT := sealOf_take n k hlt
        have HT' := hide HT
        clear HT
        go_wp2_with (first | ((with_reducible refine gate_builtin (b := .append) (xs := #[.tmp 20, .tmp 26]) rfl ?_); at_builtin; refine Kd.R_append (Kd.int .u8) (w0 := w) w.heap.size rfl (.tmp 20) (.tmp 26) 22 5 (.int .u8 0) 1 rfl Try.underlying22 seal_info rfl (by decide) (by omega) u4 (l0 ++ (sealOf n).take k) (n / 2 ^ (8 * k) % 256) [.int .u8 (n / 2 ^ (8 * k) % 256)] (fun _ => True) (fun _ => False) rfl rfl rfl (fun _ hk => hk.elim) (fun _ _ => trivial) HR.out HB (Below.size HB) (by simp [sealOf]; omega) ?_; intro v1 w3 ho hb1 hg hat; have HR2 := hide ho; clear ho hg hat HB HR))
        go_roundw
        case rel => exact ⟨k + 1, by omega, by go_num, hide (by have := HR2.out; rw [HT'.out, ← List.append_assoc]; exact this), hb1⟩
        case measure => simp [intOf]; omega
      · go_wp2
        go_ret
        obtain rfl : k = 4 := by omega
        exact ⟨_, rfl, by have := HR.out; simpa [sealOf] using this, HB⟩
  · rw [if_neg hl] at h
    exact absurd h (by simp)

/-! ### frame_Put: function 11 -/
def frame_Put.j0 : Nat → Bool → Int → List Int → Option (List Int × Int)
  | 0, _, _, _ => none
  | k + 1, x17, x103000, x103001 => if x17 = true then (some (([] : List Int), 1)) else ((crc_Seal.f (([(x103000) % 256, ((x103001.length : Int)) % 256] : List Int))).bind fun t106 => ((crc_Seal.f x103001).bind fun t109 => ((slices_Concat_byte_byte.f (([t106, t109] : List (List Int)))).bind fun t115 => (some (t115, 0)))))
def frame_Put.f (k : Nat) (a0_0 : Int) (l0_1 : List Int) : Option (List Int × Int) := if a0_0 < 0 then (frame_Put.j0 k true a0_0 l0_1) else (if a0_0 > 255 then (frame_Put.j0 k true a0_0 l0_1) else (frame_Put.j0 k (decide ((l0_1.length : Int) > 255)) a0_0 l0_1))
theorem frame_Put.mono_l : ∀ k, (∀ y0 y1 y2, LeO (frame_Put.j0 k y0 y1 y2) (frame_Put.j0 (k + 1) y0 y1 y2))
  | 0 => fun _ _ _ r h => by simp [frame_Put.j0] at h
  | k + 1 => by
    have ih0 := frame_Put.mono_l k
    · intro y0 y1 y2
      unfold frame_Put.j0
      repeat' first
      | (with_reducible exact ih0 _ _ _)
      | (with_reducible exact LeO.refl _)
      | (with_reducible exact LeO.none _)
      | (with_reducible refine LeO.ite ?_ ?_)
      | (with_reducible refine LeO.bind ?_ (fun _ => ?_))
      | exact ih0 _ _ _
      | exact LeO.none _
      | refine LeO.ite ?_ ?_
      | refine LeO.bind ?_ (fun _ => ?_)
theorem frame_Put.mono : ∀ a0 a1 k, LeO (frame_Put.f k a0 a1) (frame_Put.f (k + 1) a0 a1) := by
  intro a0 a1 k
  have ih0 := frame_Put.mono_l k
  unfold frame_Put.f
  repeat' first
      | (with_reducible exact ih0 _ _ _)
      | (with_reducible exact LeO.refl _)
      | (with_reducible exact LeO.none _)
      | (with_reducible refine LeO.ite ?_ ?_)
      | (with_reducible refine LeO.bind ?_ (fun _ => ?_))
      | exact ih0 _ _ _
      | exact LeO.none _
      | refine LeO.ite ?_ ?_
      | refine LeO.bind ?_ (fun _ => ?_)
def frame_Put.T3 : Bool × List (List Nat × List Nat) := (true, [([], []), ([0], [0]), ([1], [1]), ([], []), ([3], [3]), ([4], [4]), ([5], [5]), ([2, 6], [2, 6]), ([7], [7]), ([], []), ([9], [9]), ([10, 8], [10]), ([8, 11], [8, 11]), ([12, 11], [12]), ([13, 13, 0, 1, 2, 3, 4, 5, 6, 7, 8, 9, 10, 11, 12, 13], [13]), ([14, 0, 1, 2, 3, 4, 5, 6, 7, 8, 9, 10, 11, 12, 13, 14], [])])
def frame_Put.B3 : List Nat := [0, 1, 3, 0, 8, 24, 56, 127, 255, 0, 512, 2047, 4095, 8191, 16383, 32767]
theorem frame_Put.tab3 : rtab .any (opsOf Try.f11 3) = frame_Put.T3 := by kernel_rfl
theorem frame_Put.bits3 : waitsOk frame_Put.T3.2 frame_Put.B3 = true := by kernel_rfl
set_option maxHeartbeats 8000000 in
set_option maxRecDepth 100000 in
theorem frame_Put.calls (k : Nat) (a0_0 : Int) (A0_1 : Option Addr) (c0_1 : Nat) (l0_1 : List Int) (r1 : List Int) (r2 : Int) (w : World) (hr0_1 : Kd.C (Kd.int .u8) w A0_1 l0_1.length l0_1) (hc0_1 : l0_1.length ≤ c0_1) (h : frame_Put.f k a0_0 l0_1 = some (r1, r2)) :
    Calls Try.prog 11 #[.agg #[.int .i64 a0_0, .slice A0_1 l0_1.length c0_1]] w fun e w' => ∃ v0_ : Value, e = .returned (.tuple #[v0_, .int .i64 r2]) ∧ Kd.R (Kd.int .u8) 5 w' w.heap.size (fun _ => True) v0_ r1 ∧ Below w.heap.size w w' := by
  have hu24 := Try.underlying24
  have HR0_1 := Aside0.mk hr0_1
  have HC0_1 := Aside0.mk hc0_1
  clear hr0_1 hc0_1
  have HB := Aside0.mk (Below.refl w.heap.size w)
  have H : (if a0_0 < 0 then (frame_Put.j0 k true a0_0 l0_1) else (if a0_0 > 255 then (frame_Put.j0 k true a0_0 l0_1) else (frame_Put.j0 k (decide ((l0_1.length : Int) > 255)) a0_0 l0_1))) = some (r1, r2) := h
  clear h
  have HC2 := Aside0.mk H
  clear H
  go_enter Try.func11, Try.ntmps11
  go_upto_region 1 with (first | ((with_reducible refine gate_dst (N := 1) rfl ?_); (try (refine gate_guard (by rfl) ?_; dsimp only)); refine box_event ?hg (N := 1) ?hd (cs := #[.int .i64 a0_0, .slice A0_1 l0_1.length c0_1]) (t := 24) ?hr ?_; (case hd => rfl); (case hg => rfl); (case hr => first | (go_simp; done) | (go_simp; rfl)); intro gb102 hg w3 hbox hb; have n0_ := Aside0.mk (below_step (by repeat (first | (with_reducible first | exact HB.out | apply below_alloc | apply pw_below_drewN | apply below_drew1) | exact HB.out)) hb); have n1_ := Aside0.mk (hbox); have n2_ := Aside0.mk ((by rw [hg]; exact (below_size (by repeat (first | (with_reducible first | exact HB.out | apply below_alloc | apply pw_below_drewN | apply below_drew1) | exact HB.out))) : w.heap.size ≤ gb102)); have n3_ := Aside0.mk ((by rw [hg]; exact (below_size (by repeat (first | (with_reducible first | exact HB.out | apply below_alloc | apply pw_below_drewN | apply below_drew1) | exact HB.out))) : w.heap.size ≤ gb102)); clear HB; have HB := n0_; have BK102 := n1_; have GW102 := n2_; have GE102 := n3_; clear n0_ n1_ n2_ n3_; clear hb hbox hg))
  (try simp only [Act.put, List.setIfInBounds_toArray, List.set_cons_zero, List.set_cons_succ])
  go_cut [17] (fun v17 wc => ∃ (kq : Nat) (x17_1 : Bool), v17 = .bool x17_1 ∧ Aside0 (frame_Put.j0 kq x17_1 a0_0 l0_1 = some (r1, r2)) ∧ Aside0 (kq ≤ k) ∧ Aside0 (wc.heap[gb102]? = some (.cells #[.int .i64 a0_0, (.slice A0_1 l0_1.length c0_1)] 24 (0, 0))) ∧ Aside0 (Below w.heap.size w wc))
  case first =>
    have H := HC2.out
    clear HC2
    by_cases c4 : a0_0 < 0
    · rw [if_pos c4] at H
      have c4b0 : decide (a0_0 < 0) = true := decide_eq_true c4
      clear c4
      (first | rw [c4b0] | (simp only [i64_w, i32_w]; rw [c4b0]) | skip)
      have H' := Aside0.mk H
      clear H
      have hcz5_0 : w3.cell? ⟨gb102, 0, none⟩ = some (.int .i64 a0_0) := (blk_cell BK102.out 0).trans rfl
      have hcz5_1 : w3.cell? ⟨gb102, 1, none⟩ = some (.slice A0_1 l0_1.length c0_1) := (blk_cell BK102.out 1).trans rfl
      have hfz5_0 := blk_frozen BK102.out 0
      have hfz5_1 := blk_frozen BK102.out 1
      go_wp2
      go_meet
      case rel => exact ⟨_, (true), (by first | rfl | (simp; done) | (simp [*]; done)), H', ⟨by first | omega | exact Nat.le_refl _⟩, ⟨by (with_reducible repeat (first | refine blk_drewN ?_ _ | refine blk_drew ?_ | refine blk_alloc ?_ _)); exact BK102.out⟩, ⟨by repeat (first | (with_reducible first | exact HB.out | apply below_alloc | apply pw_below_drewN | apply below_drew1 | refine below_set ?_ GE102.out) | exact HB.out)⟩⟩
    · rw [if_neg c4] at H
      have c4b0 : decide (a0_0 < 0) = false := decide_eq_false c4
      clear c4
      (first | rw [c4b0] | (simp only [i64_w, i32_w]; rw [c4b0]) | skip)
      by_cases c6 : a0_0 > 255
      · rw [if_pos c6] at H
        have c6b0 : decide (255 < a0_0) = true := decide_eq_true c6
        clear c6
        have H' := Aside0.mk H
        clear H
        have hcz7_0 : w3.cell? ⟨gb102, 0, none⟩ = some (.int .i64 a0_0) := (blk_cell BK102.out 0).trans rfl
        have hcz7_1 : w3.cell? ⟨gb102, 1, none⟩ = some (.slice A0_1 l0_1.length c0_1) := (blk_cell BK102.out 1).trans rfl
        have hfz7_0 := blk_frozen BK102.out 0
        have hfz7_1 := blk_frozen BK102.out 1
        go_wp2
        go_meet
        case rel => exact ⟨_, (true), (by first | rfl | (simp; done) | (simp [*]; done)), H', ⟨by first | omega | exact Nat.le_refl _⟩, ⟨by (with_reducible repeat (first | refine blk_drewN ?_ _ | refine blk_drew ?_ | refine blk_alloc ?_ _)); exact BK102.out⟩, ⟨by repeat (first | (with_reducible first | exact HB.out | apply below_alloc | apply pw_below_drewN | apply below_drew1 | refine below_set ?_ GE102.out) | exact HB.out)⟩⟩
      · rw [if_neg c6] at H
        have c6b0 : decide (255 < a0_0) = false := decide_eq_false c6
        clear c6
        have H' := Aside0.mk H
        clear H
        have hcz8_0 : w3.cell? ⟨gb102, 0, none⟩ = some (.int .i64 a0_0) := (blk_cell BK102.out 0).trans rfl
        have hcz8_1 : w3.cell? ⟨gb102, 1, none⟩ = some (.slice A0_1 l0_1.length c0_1) := (blk_cell BK102.out 1).trans rfl
        have hfz8_0 := blk_frozen BK102.out 0
        have hfz8_1 := blk_frozen BK102.out 1
        go_wp2
        go_meet
        case rel => exact ⟨_, (decide ((l0_1.length : Int) > 255)), (by first | rfl | (simp; done) | (simp [*]; done)), H', ⟨by first | omega | exact Nat.le_refl _⟩, ⟨by (with_reducible repeat (first | refine blk_drewN ?_ _ | refine blk_drew ?_ | refine blk_alloc ?_ _)); exact BK102.out⟩, ⟨by repeat (first | (with_reducible first | exact HB.out | apply below_alloc | apply pw_below_drewN | apply below_drew1 | refine below_set ?_ GE102.out) | exact HB.out)⟩⟩
  case rest =>
    clear HC2
    try clear c1
    try clear p2
    try clear c4
    try clear c4b0
    try clear c6
    try clear c6b0
    try clear hcz5_0
    try clear hcz5_1
    try clear hcz7_0
    try clear hcz7_1
    try clear hcz8_0
    try clear hcz8_1
    try clear hfz5_0
    try clear hfz5_1
    try clear hfz7_0
    try clear hfz7_1
    try clear hfz8_0
    try clear hfz8_1
    obtain ⟨kq, x17_1, rfl, HA, HJ1, BK102, HB⟩ := hcut
    cases kq with
    | zero => exact absurd HA.out (by simp [frame_Put.j0])
    | succ kj1 =>
      have H := HA.out
      clear HA
      simp only [frame_Put.j0] at H
      by_cases c9 : x17_1 = true
      · subst c9
        have H1 : (some (([] : List Int), 1)) = some (r1, r2) := by rw [if_pos rfl] at H; exact H
        clear H
        have H := H1
        clear H1
        simp only [Option.some.injEq, Prod.mk.injEq] at H
        obtain ⟨rfl, rfl⟩ := H
        go_wp2
        go_ret2
        exact ⟨_, by first | rfl | (simp [errW_none, errW_some] <;> rfl) | (simp [*, errW_none, errW_some] <;> rfl), by first | exact Kd.R_nil _ _ _ _ _ | exact Kd.N_nil _ _ _ _ _ | exact Kd.V_nil _ _ _ _ _ | exact Kd.Q_nil _ _ _ _ _ | exact Kd.S_nil _ _ _ _ _, by repeat (first | (with_reducible first | exact HB.out | apply below_alloc | apply pw_below_drewN | apply below_drew1 | refine below_set ?_ GE102.out) | exact HB.out)⟩
      · replace c9 := Bool.eq_false_iff.mpr c9
        subst c9
        have H1 : ((crc_Seal.f (([(a0_0) % 256, ((l0_1.length : Int)) % 256] : List Int))).bind fun t106 => ((crc_Seal.f l0_1).bind fun t109 => ((slices_Concat_byte_byte.f (([t106, t109] : List (List Int)))).bind fun t115 => (some (t115, 0))))) = some (r1, r2) := by rw [if_neg (show ¬ (false = true) by decide)] at H; exact H
        clear H
        have H := H1
        clear H1
        obtain ⟨y103, hy103⟩ : ∃ y_ : List Int, y_ = (([(a0_0) % 256, ((l0_1.length : Int)) % 256] : List Int)) := ⟨_, rfl⟩
        replace H : ((crc_Seal.f y103).bind fun t106 => ((crc_Seal.f l0_1).bind fun t109 => ((slices_Concat_byte_byte.f (([t106, t109] : List (List Int)))).bind fun t115 => (some (t115, 0))))) = some (r1, r2) := by first | (rw [hy103]; with_reducible exact H) | (have H2_ := (Option.bind_some _ _).symm.trans H; rw [hy103]; with_reducible exact H2_) | (have H2_ := (Option.bind_some _ _).symm.trans H; with_reducible exact H2_) | with_reducible exact H | (rw [hy103]; exact H) | exact H
        have Ny103 := Aside0.mk hy103
        clear hy103
        replace H := Option.bind_eq_some_iff.mp H
        obtain ⟨t106, A100, H⟩ := H
        replace H : ((crc_Seal.f l0_1).bind fun t109 => ((slices_Concat_byte_byte.f (([t106, t109] : List (List Int)))).bind fun t115 => (some (t115, 0)))) = some (r1, r2) := H
        have A10 := Aside0.mk A100
        clear A100
        replace H := Option.bind_eq_some_iff.mp H
        obtain ⟨t109, A110, H⟩ := H
        replace H : ((slices_Concat_byte_byte.f (([t106, t109] : List (List Int)))).bind fun t115 => (some (t115, 0))) = some (r1, r2) := H
        have A11 := Aside0.mk A110
        clear A110
        obtain ⟨y112, hy112⟩ : ∃ y_ : List (List Int), y_ = (([t106, t109] : List (List Int))) := ⟨_, rfl⟩
        replace H : ((slices_Concat_byte_byte.f y112).bind fun t115 => (some (t115, 0))) = some (r1, r2) := by first | (rw [hy112]; with_reducible exact H) | (have H2_ := (Option.bind_some _ _).symm.trans H; rw [hy112]; with_reducible exact H2_) | (have H2_ := (Option.bind_some _ _).symm.trans H; with_reducible exact H2_) | with_reducible exact H | (rw [hy112]; exact H) | exact H
        have Ny112 := Aside0.mk hy112
        clear hy112
        replace H := Option.bind_eq_some_iff.mp H
        obtain ⟨t115, A120, H⟩ := H
        replace H : (some (t115, 0)) = some (r1, r2) := H
        have A12 := Aside0.mk A120
        clear A120
        simp only [Option.some.injEq, Prod.mk.injEq] at H
        obtain ⟨rfl, rfl⟩ := H
        try go_wp2
        have n0_ := Aside0.mk (blk_drew BK102.out)
        have n1_ := Aside0.mk (below_drew1 HB.out)
        clear BK102
        clear HB
        have BK102 := n0_
        have HB := n1_
        clear n0_ n1_
        refine start_ (n := 16) (S := fun w' => w'.cell? ⟨gb102, 0, none⟩ = some (.int .i64 a0_0) ∧ w'.cell? ⟨gb102, 1, none⟩ = some (.slice A0_1 l0_1.length c0_1)) (ds := []) #[false, false, false, false, false, false, false, false, false, false, false, false, false, false, false, false] (by kernel_rfl) rfl rfl ⟨(blk_cell BK102.out 0).trans rfl, (blk_cell BK102.out 1).trans rfl⟩ (fun hHeld => ?_); refine with_tabW frame_Put.tab3 frame_Put.bits3 (fun HT_ HW_ => ?_)
        generalize wc.drew = w13 at BK102 HB hHeld ⊢
        refine pure_ (i := 0) (N := some 18) (v := ?_) (a' := ?_) #[true, false, false, false, false, false, false, false, false, false, false, false, false, false, false, false] rfl rfl (any_of HT_.out (by kernel_rfl)) (fun _ _ _ h => h) (Or.inl ⟨by rfl, ?_⟩) ?_ ?_
        rotate_left
        · intro w'
          go_simp
          with_reducible rfl
        rotate_left
        · simp only [Act.put, List.setIfInBounds_toArray, List.set_cons_zero, List.set_cons_succ, i64_w, i32_w]
          rfl
        refine pure_ (i := 3) (N := some 21) (v := ?_) (a' := ?_) #[true, false, false, true, false, false, false, false, false, false, false, false, false, false, false, false] rfl rfl (any_of HT_.out (by kernel_rfl)) (fun _ _ _ h => h) (Or.inl ⟨by rfl, ?_⟩) ?_ ?_
        rotate_left
        · intro w'
          go_simp
          with_reducible rfl
        rotate_left
        · simp only [Act.put, List.setIfInBounds_toArray, List.set_cons_zero, List.set_cons_succ, i64_w, i32_w]
          rfl
        refine pure_ (i := 9) (N := some 27) (v := ?_) (a' := ?_) #[true, false, false, true, false, false, false, false, false, true, false, false, false, false, false, false] rfl rfl (any_of HT_.out (by kernel_rfl)) (fun _ _ _ h => h) (Or.inl ⟨by rfl, ?_⟩) ?_ ?_
        rotate_left
        · intro w'
          go_simp
          with_reducible rfl
        rotate_left
        · simp only [Act.put, List.setIfInBounds_toArray, List.set_cons_zero, List.set_cons_succ, i64_w, i32_w]
          rfl
        refine take_ (i := 1) (N := some 19) (v := ?_) (a' := ?_) #[true, true, false, true, false, false, false, false, false, true, false, false, false, false, false, false] rfl rfl (take_ofW HT_.out HW_.out (by kernel_rfl)) (fun _ _ _ h => h) (Or.inl ⟨by rfl, ?_⟩) hHeld ?_ ?_
        rotate_left
        · rintro w' ⟨s0, s1⟩
          go_simp
          with_reducible rfl
        rotate_left
        · simp only [Act.put, List.setIfInBounds_toArray, List.set_cons_zero, List.set_cons_succ, i64_w, i32_w]
          rfl
        refine pure_ (i := 2) (N := some 20) (v := ?_) (a' := ?_) #[true, true, true, true, false, false, false, false, false, true, false, false, false, false, false, false] rfl rfl (any_of HT_.out (by kernel_rfl)) (fun _ _ _ h => h) (Or.inl ⟨by rfl, ?_⟩) ?_ ?_
        rotate_left
        · intro w'
          go_simp
          with_reducible rfl
        rotate_left
        · simp only [Act.put, List.setIfInBounds_toArray, List.set_cons_zero, List.set_cons_succ, i64_w, i32_w]
          rfl
        refine take_ (i := 4) (N := some 22) (v := ?_) (a' := ?_) #[true, true, true, true, true, false, false, false, false, true, false, false, false, false, false, false] rfl rfl (take_ofW HT_.out HW_.out (by kernel_rfl)) (fun _ _ _ h => h) (Or.inl ⟨by rfl, ?_⟩) hHeld ?_ ?_
        rotate_left
        · rintro w' ⟨s0, s1⟩
          go_simp
          with_reducible rfl
        rotate_left
        · simp only [Act.put, List.setIfInBounds_toArray, List.set_cons_zero, List.set_cons_succ, i64_w, i32_w]
          rfl
        refine pure_ (i := 5) (N := some 23) (v := ?_) (a' := ?_) #[true, true, true, true, true, true, false, false, false, true, false, false, false, false, false, false] rfl rfl (any_of HT_.out (by kernel_rfl)) (fun _ _ _ h => h) (Or.inl ⟨by rfl, ?_⟩) ?_ ?_
        rotate_left
        · intro w'
          go_simp
          with_reducible rfl
        rotate_left
        · simp only [Act.put, List.setIfInBounds_toArray, List.set_cons_zero, List.set_cons_succ, i64_w, i32_w]
          rfl
        refine pure_ (i := 6) (N := some 24) (v := ?_) (a' := ?_) #[true, true, true, true, true, true, true, false, false, true, false, false, false, false, false, false] rfl rfl (any_of HT_.out (by kernel_rfl)) (fun _ _ _ h => h) (Or.inl ⟨by rfl, ?_⟩) ?_ ?_
        rotate_left
        · intro w'
          go_simp
          with_reducible rfl
        rotate_left
        · simp only [Act.put, List.setIfInBounds_toArray, List.set_cons_zero, List.set_cons_succ, i64_w, i32_w]
          rfl
        refine take_ (i := 10) (N := some 28) (v := ?_) (a' := ?_) #[true, true, true, true, true, true, true, false, false, true, true, false, false, false, false, false] rfl rfl (take_ofW HT_.out HW_.out (by kernel_rfl)) (fun _ _ _ h => h) (Or.inl ⟨by rfl, ?_⟩) hHeld ?_ ?_
        rotate_left
        · rintro w' ⟨s0, s1⟩
          go_simp
          with_reducible rfl
        rotate_left
        · simp only [Act.put, List.setIfInBounds_toArray, List.set_cons_zero, List.set_cons_succ, i64_w, i32_w]
          rfl
        refine one_ (i := 7) (N := some 25) #[true, true, true, true, true, true, true, true, false, true, true, false, false, false, false, false] rfl rfl (one_of HT_.out (by kernel_rfl)) (by decide) (fun K hK => ?_)
        refine Kd.R_lit_step (Kd.int .u8) _ 5 ?hg (N := 25) ?hd (xs := ([(a0_0) % 256, ((l0_1.length : Int)) % 256] : List Int)) (inner := [.int .u8 ((a0_0) % 256), .int .u8 (((l0_1.length : Int)) % 256)]) (ok := fun _ => True) (okp := fun _ => True) ?hr ?hp (fun _ hk => hk) trivial (Below.refl _ _) (Nat.le_refl _) (by simp) ?_; (case hd => rfl); (case hg => rfl); (case hr => first | (go_simp; done) | (go_simp; rfl)); (case hp => exact (Reps.one (show Kd.M (Kd.int .u8) _ _ _ ((a0_0) % 256) [.int .u8 ((a0_0) % 256)] from rfl) (Reps.one (show Kd.M (Kd.int .u8) _ _ _ (((l0_1.length : Int)) % 256) [.int .u8 (((l0_1.length : Int)) % 256)] from rfl) (Reps.none _ _))))
        intro v104 w14 ho15 hb hg_ hnew_
        clear hg_ hnew_
        (first | rw [← Ny103.out] at ho15 | (simp only [Int.reduceToNat] at ho15; rw [← Ny103.out] at ho15))
        have n0_ := Aside0.mk (Kd.R_lower ho15 (below_size (by repeat (first | (with_reducible first | exact HB.out | apply below_alloc | apply pw_below_drewN | apply below_drew1 | refine below_set ?_ GE102.out) | exact HB.out))))
        have n1_ := Aside0.mk (blk_below (g := gb102) (o := .cells #[.int .i64 a0_0, .slice A0_1 l0_1.length c0_1] 24 (0, 0)) (by (with_reducible repeat (first | refine blk_drewN ?_ _ | refine blk_drew ?_ | refine blk_alloc ?_ _)); exact BK102.out) hb)
        have n2_ := Aside0.mk (below_step (by repeat (first | (with_reducible first | exact HB.out | apply below_alloc | apply pw_below_drewN | apply below_drew1 | refine below_set ?_ GE102.out) | exact HB.out)) hb)
        clear BK102
        clear HB
        have HO105 := n0_
        have BK102 := n1_
        have HB := n2_
        clear n0_ n1_ n2_
        clear hb ho15
        obtain ⟨Ao16, co16, eo16⟩ := Kd.R_slice HO105.out
        (first | subst eo16 | (injection eo16 with f1_ f2_ f3_; have f4_ := f1_.symm; have f5_ := f3_.symm; clear f1_ f2_ f3_; subst f4_; subst f5_))
        refine hK.out _ _ ⟨(blk_cell BK102.out 0).trans rfl, (blk_cell BK102.out 1).trans rfl⟩ (fun hHeld => ?_)
        clear hK K
        refine norm_ (a' := ?_) ?_ ?_
        rotate_left
        · show Act.put _ (some 25) _ = _
          simp only [Act.put, List.setIfInBounds_toArray, List.set_cons_zero, List.set_cons_succ, i64_w, i32_w]
          rfl
        refine one_ (i := 8) (N := some 26) #[true, true, true, true, true, true, true, true, true, true, true, false, false, false, false, false] rfl rfl (one_of HT_.out (by kernel_rfl)) (by decide) (fun K hK => ?_)
        refine goes_ Try.func22 (by kernel_rfl) rfl #[.slice Ao16 y103.length co16] (by rfl) rfl rfl (by (try simp only [List.map_toArray, List.map_cons, List.map_nil]); first | done | rfl | (simp only [List.length_drop, List.length_take]; rfl)) ?_
        with_reducible refine (crc_Seal.calls _ _ y103 t106 _ ?side1 ?side2 A10.out).mono ?_
        (case side1 => repeat (first | exact (Kd.R_reads' HO105.out).2.2 | (with_reducible refine Kd.C_alloc ?_ _) | (with_reducible refine Kd.C_drewN ?_ _) | (with_reducible refine Kd.C_drew ?_)))
        (case side2 => exact (Kd.R_reads' HO105.out).2.1)
        rintro e w17 ⟨v107, rfl, ho0, hb⟩
        refine ⟨_, rfl, ?_⟩
        have n0_ := Aside0.mk (Kd.R_elder' (by (with_reducible repeat (first | apply Kd.R_alloc | apply Kd.R_drewN | apply Kd.R_drew)); exact HO105.out) (Kd.R_base ho0) hb)
        have n1_ := Aside0.mk (Kd.R_lower (Kd.R_new' ho0 (Kd.R_lt (by (with_reducible repeat (first | apply Kd.R_alloc | apply Kd.R_drewN | apply Kd.R_drew)); exact HO105.out))) (below_size (by repeat (first | (with_reducible first | exact HB.out | apply below_alloc | apply pw_below_drewN | apply below_drew1 | refine below_set ?_ GE102.out) | exact HB.out))))
        have n2_ := Aside0.mk (blk_below (g := gb102) (o := .cells #[.int .i64 a0_0, .slice A0_1 l0_1.length c0_1] 24 (0, 0)) (by (with_reducible repeat (first | refine blk_drewN ?_ _ | refine blk_drew ?_ | refine blk_alloc ?_ _)); exact BK102.out) hb)
        have n3_ := Aside0.mk (below_step (by repeat (first | (with_reducible first | exact HB.out | apply below_alloc | apply pw_below_drewN | apply below_drew1 | refine below_set ?_ GE102.out) | exact HB.out)) hb)
        clear HO105
        clear BK102
        clear HB
        have HO105 := n0_
        have HO108 := n1_
        have BK102 := n2_
        have HB := n3_
        clear n0_ n1_ n2_ n3_
        (try clear hb)
        (try clear hb2)
        (try clear hk)
        (try clear hi)
        (try clear ho0)
        refine hK.out _ _ ⟨(blk_cell BK102.out 0).trans rfl, (blk_cell BK102.out 1).trans rfl⟩ (fun hHeld => ?_)
        clear hK K
        refine norm_ (a' := ?_) ?_ ?_
        rotate_left
        · show Act.put _ (some 26) _ = _
          simp only [Act.put, List.setIfInBounds_toArray, List.set_cons_zero, List.set_cons_succ, i64_w, i32_w]
          rfl
        refine one_ (i := 11) (N := some 29) #[true, true, true, true, true, true, true, true, true, true, true, true, false, false, false, false] rfl rfl (one_of HT_.out (by kernel_rfl)) (by decide) (fun K hK => ?_)
        refine goes_ Try.func22 (by kernel_rfl) rfl #[.slice A0_1 l0_1.length c0_1] (by rfl) rfl rfl (by (try simp only [List.map_toArray, List.map_cons, List.map_nil]); first | done | rfl | (simp only [List.length_drop, List.length_take]; rfl)) ?_
        with_reducible refine (crc_Seal.calls _ _ l0_1 t109 _ ?side1 ?side2 A11.out).mono ?_
        (case side1 => repeat (first | exact (Kd.C_below HR0_1.out HB.out) | (with_reducible refine Kd.C_alloc ?_ _) | (with_reducible refine Kd.C_drewN ?_ _) | (with_reducible refine Kd.C_drew ?_)))
        (case side2 => exact HC0_1.out)
        rintro e w18 ⟨v110, rfl, ho0, hb⟩
        refine ⟨_, rfl, ?_⟩
        have n0_ := Aside0.mk (Kd.R_elder' (by (with_reducible repeat (first | apply Kd.R_alloc | apply Kd.R_drewN | apply Kd.R_drew)); exact HO105.out) (Kd.R_base ho0) hb)
        have n1_ := Aside0.mk (Kd.R_elder' (by (with_reducible repeat (first | apply Kd.R_alloc | apply Kd.R_drewN | apply Kd.R_drew)); exact HO108.out) (Kd.R_base ho0) hb)
        have n2_ := Aside0.mk (Kd.R_lower (Kd.R_new' (Kd.R_new' ho0 (Kd.R_lt (by (with_reducible repeat (first | apply Kd.R_alloc | apply Kd.R_drewN | apply Kd.R_drew)); exact HO105.out))) (Kd.R_lt (by (with_reducible repeat (first | apply Kd.R_alloc | apply Kd.R_drewN | apply Kd.R_drew)); exact HO108.out))) (below_size (by repeat (first | (with_reducible first | exact HB.out | apply below_alloc | apply pw_below_drewN | apply below_drew1 | refine below_set ?_ GE102.out) | exact HB.out))))
        have n3_ := Aside0.mk (blk_below (g := gb102) (o := .cells #[.int .i64 a0_0, .slice A0_1 l0_1.length c0_1] 24 (0, 0)) (by (with_reducible repeat (first | refine blk_drewN ?_ _ | refine blk_drew ?_ | refine blk_alloc ?_ _)); exact BK102.out) hb)
        have n4_ := Aside0.mk (below_step (by repeat (first | (with_reducible first | exact HB.out | apply below_alloc | apply pw_below_drewN | apply below_drew1 | refine below_set ?_ GE102.out) | exact HB.out)) hb)
        clear HO105
        clear HO108
        clear BK102
        clear HB
        have HO105 := n0_
        have HO108 := n1_
        have HO111 := n2_
        have BK102 := n3_
        have HB := n4_
        clear n0_ n1_ n2_ n3_ n4_
        (try clear hb)
        (try clear hb2)
        (try clear hk)
        (try clear hi)
        (try clear ho0)
        obtain ⟨Ao19, co19, eo19⟩ := Kd.R_slice HO108.out
        (first | subst eo19 | (injection eo19 with f1_ f2_ f3_; have f4_ := f1_.symm; have f5_ := f3_.symm; clear f1_ f2_ f3_; subst f4_; subst f5_))
        obtain ⟨Ao20, co20, eo20⟩ := Kd.R_slice HO111.out
        (first | subst eo20 | (injection eo20 with f1_ f2_ f3_; have f4_ := f1_.symm; have f5_ := f3_.symm; clear f1_ f2_ f3_; subst f4_; subst f5_))
        refine hK.out _ _ ⟨(blk_cell BK102.out 0).trans rfl, (blk_cell BK102.out 1).trans rfl⟩ (fun hHeld => ?_)
        clear hK K
        refine norm_ (a' := ?_) ?_ ?_
        rotate_left
        · show Act.put _ (some 29) _ = _
          simp only [Act.put, List.setIfInBounds_toArray, List.set_cons_zero, List.set_cons_succ, i64_w, i32_w]
          rfl
        refine one_ (i := 12) (N := some 30) #[true, true, true, true, true, true, true, true, true, true, true, true, true, false, false, false] rfl rfl (one_of HT_.out (by kernel_rfl)) (by decide) (fun K hK => ?_)
        refine Kd.N_lit_step (Kd.slice 5 (Kd.int .u8)) _ 22 ?hg (N' := 30) ?hd (xs := ([t106, t109] : List (List Int))) (inner := [.slice Ao19 t106.length co19, .slice Ao20 t109.length co20]) (ok := (fun k_ => some k_ ≠ (.slice Ao16 y103.length co16 : Value).ownBlock ∧ k_ ≠ gb102)) (okp := (fun k_ => some k_ ≠ (.slice Ao16 y103.length co16 : Value).ownBlock ∧ k_ ≠ gb102)) ?hr ?hp (fun _ hk => hk) ((show ∀ k_, w18.heap.size ≤ k_ → (fun k_ => some k_ ≠ (.slice Ao16 y103.length co16 : Value).ownBlock ∧ k_ ≠ gb102) k_ from fun k_ hk => ⟨Kd.fresh' (Kd.R_lt (by (with_reducible repeat (first | apply Kd.R_alloc | apply Kd.R_drewN | apply Kd.R_drew)); exact HO105.out)) k_ hk, Kd.freshB (g := gb102) (o := .cells #[.int .i64 a0_0, .slice A0_1 l0_1.length c0_1] 24 (0, 0)) (by (with_reducible repeat (first | refine blk_drewN ?_ _ | refine blk_drew ?_ | refine blk_alloc ?_ _)); exact BK102.out) k_ hk⟩) _ (Nat.le_refl _)) (Below.refl _ _) (Nat.le_refl _) (by simp) ?_; (case hd => rfl); (case hg => rfl); (case hr => first | (go_simp; done) | (go_simp; rfl)); (case hp => exact (Reps.one (show Kd.FK (Kd.slice 5 (Kd.int .u8)) _ _ t106 [.slice Ao19 t106.length co19] from (Kd.FK_slice_mk (Kd.R_reads' (Kd.R_mono (ok' := (fun k_ => some k_ ≠ (.slice Ao16 y103.length co16 : Value).ownBlock ∧ k_ ≠ gb102)) (Kd.R_types (HO108.out) BK102.out (by decide)) (fun k_ hk => ⟨hk.1.1.2, hk.2⟩))).2.1 (Kd.R_F (Kd.R_mono (ok' := (fun k_ => some k_ ≠ (.slice Ao16 y103.length co16 : Value).ownBlock ∧ k_ ≠ gb102)) (Kd.R_types (HO108.out) BK102.out (by decide)) (fun k_ hk => ⟨hk.1.1.2, hk.2⟩))))) (Reps.one (show Kd.FK (Kd.slice 5 (Kd.int .u8)) _ _ t109 [.slice Ao20 t109.length co20] from (Kd.FK_slice_mk (Kd.R_reads' (Kd.R_mono (ok' := (fun k_ => some k_ ≠ (.slice Ao16 y103.length co16 : Value).ownBlock ∧ k_ ≠ gb102)) (Kd.R_types (HO111.out) BK102.out (by decide)) (fun k_ hk => ⟨hk.1.1.2, hk.2⟩))).2.1 (Kd.R_F (Kd.R_mono (ok' := (fun k_ => some k_ ≠ (.slice Ao16 y103.length co16 : Value).ownBlock ∧ k_ ≠ gb102)) (Kd.R_types (HO111.out) BK102.out (by decide)) (fun k_ hk => ⟨hk.1.1.2, hk.2⟩))))) (Reps.none _ _))))
        intro v113 w21 ho22 hb hg_ hnew_
        clear hg_ hnew_
        (first | rw [← Ny112.out] at ho22 | (simp only [Int.reduceToNat] at ho22; rw [← Ny112.out] at ho22))
        have n0_ := Aside0.mk (Kd.R_below (by (with_reducible repeat (first | apply Kd.R_alloc | apply Kd.R_drewN | apply Kd.R_drew)); exact HO105.out) hb)
        have n1_ := Aside0.mk (Kd.N_lower ho22 (below_size (by repeat (first | (with_reducible first | exact HB.out | apply below_alloc | apply pw_below_drewN | apply below_drew1 | refine below_set ?_ GE102.out) | exact HB.out))))
        have n2_ := Aside0.mk (blk_below (g := gb102) (o := .cells #[.int .i64 a0_0, .slice A0_1 l0_1.length c0_1] 24 (0, 0)) (by (with_reducible repeat (first | refine blk_drewN ?_ _ | refine blk_drew ?_ | refine blk_alloc ?_ _)); exact BK102.out) hb)
        have n3_ := Aside0.mk (below_step (by repeat (first | (with_reducible first | exact HB.out | apply below_alloc | apply pw_below_drewN | apply below_drew1 | refine below_set ?_ GE102.out) | exact HB.out)) hb)
        clear HO105
        clear BK102
        clear HB
        clear HO108
        clear HO111
        have HO105 := n0_
        have HO114 := n1_
        have BK102 := n2_
        have HB := n3_
        clear n0_ n1_ n2_ n3_
        clear hb ho22
        obtain ⟨Ao23, co23, eo23⟩ := Kd.N_slice HO114.out
        (first | subst eo23 | (injection eo23 with f1_ f2_ f3_; have f4_ := f1_.symm; have f5_ := f3_.symm; clear f1_ f2_ f3_; subst f4_; subst f5_))
        refine hK.out _ _ ⟨(blk_cell BK102.out 0).trans rfl, (blk_cell BK102.out 1).trans rfl⟩ (fun hHeld => ?_)
        clear hK K
        refine norm_ (a' := ?_) ?_ ?_
        rotate_left
        · show Act.put _ (some 30) _ = _
          simp only [Act.put, List.setIfInBounds_toArray, List.set_cons_zero, List.set_cons_succ, i64_w, i32_w]
          rfl
        refine one_ (i := 13) (N := some 31) #[true, true, true, true, true, true, true, true, true, true, true, true, true, true, false, false] rfl rfl (one_of HT_.out (by kernel_rfl)) (by decide) (fun K hK => ?_)
        refine goes_ Try.func21 (by kernel_rfl) rfl #[.slice Ao23 y112.length co23] (by rfl) rfl rfl (by (try simp only [List.map_toArray, List.map_cons, List.map_nil]); first | done | rfl | (simp only [List.length_drop, List.length_take]; rfl)) ?_
        with_reducible refine (slices_Concat_byte_byte.calls _ _ y112 t115 _ ?side1 ?side2 A12.out).mono ?_
        (case side1 => repeat (first | exact (Kd.N_reads' HO114.out).2.2 | (with_reducible refine Kd.C_alloc ?_ _) | (with_reducible refine Kd.C_drewN ?_ _) | (with_reducible refine Kd.C_drew ?_)))
        (case side2 => exact (Kd.N_reads' HO114.out).2.1)
        rintro e w24 ⟨v116, rfl, ho0, hb⟩
        refine ⟨_, rfl, ?_⟩
        have n0_ := Aside0.mk (Kd.R_elder' (by (with_reducible repeat (first | apply Kd.R_alloc | apply Kd.R_drewN | apply Kd.R_drew)); exact HO105.out) (Kd.R_base ho0) hb)
        have n1_ := Aside0.mk (Kd.N_elder' (by (with_reducible repeat (first | apply Kd.N_alloc | apply Kd.N_drewN | apply Kd.N_drew)); exact HO114.out) (Kd.R_base ho0) hb)
        have n2_ := Aside0.mk (Kd.R_lower (Kd.R_new' ho0 (Kd.R_lt (by (with_reducible repeat (first | apply Kd.R_alloc | apply Kd.R_drewN | apply Kd.R_drew)); exact HO105.out))) (below_size (by repeat (first | (with_reducible first | exact HB.out | apply below_alloc | apply pw_below_drewN | apply below_drew1 | refine below_set ?_ GE102.out) | exact HB.out))))
        have n3_ := Aside0.mk (blk_below (g := gb102) (o := .cells #[.int .i64 a0_0, .slice A0_1 l0_1.length c0_1] 24 (0, 0)) (by (with_reducible repeat (first | refine blk_drewN ?_ _ | refine blk_drew ?_ | refine blk_alloc ?_ _)); exact BK102.out) hb)
        have n4_ := Aside0.mk (below_step (by repeat (first | (with_reducible first | exact HB.out | apply below_alloc | apply pw_below_drewN | apply below_drew1 | refine below_set ?_ GE102.out) | exact HB.out)) hb)
        clear HO105
        clear HO114
        clear BK102
        clear HB
        have HO105 := n0_
        have HO114 := n1_
        have HO117 := n2_
        have BK102 := n3_
        have HB := n4_
        clear n0_ n1_ n2_ n3_ n4_
        (try clear hb)
        (try clear hb2)
        (try clear hk)
        (try clear hi)
        (try clear ho0)
        refine hK.out _ _ ⟨(blk_cell BK102.out 0).trans rfl, (blk_cell BK102.out 1).trans rfl⟩ (fun hHeld => ?_)
        clear hK K
        refine norm_ (a' := ?_) ?_ ?_
        rotate_left
        · show Act.put _ (some 31) _ = _
          simp only [Act.put, List.setIfInBounds_toArray, List.set_cons_zero, List.set_cons_succ, i64_w, i32_w]
          rfl
        refine pure_ (i := 14) (N := some 2) (v := ?_) (a' := ?_) #[true, true, true, true, true, true, true, true, true, true, true, true, true, true, true, false] rfl rfl (any_of HT_.out (by kernel_rfl)) (fun _ _ _ h => h) (Or.inl ⟨by rfl, ?_⟩) ?_ ?_
        rotate_left
        · intro w'
          go_simp
          with_reducible rfl
        rotate_left
        · simp only [Act.put, List.setIfInBounds_toArray, List.set_cons_zero, List.set_cons_succ, i64_w, i32_w]
          rfl
        refine pure_ (i := 15) (N := some 3) (v := ?_) (a' := ?_) #[true, true, true, true, true, true, true, true, true, true, true, true, true, true, true, true] rfl rfl (any_of HT_.out (by kernel_rfl)) (fun _ _ _ h => h) (Or.inl ⟨by rfl, ?_⟩) ?_ ?_
        rotate_left
        · intro w'
          go_simp
          with_reducible rfl
        rotate_left
        · simp only [Act.put, List.setIfInBounds_toArray, List.set_cons_zero, List.set_cons_succ, i64_w, i32_w]
          rfl
        refine done_ (done_of HT_.out (by kernel_rfl)) ?_
        try go_wp2
        go_ret2
        exact ⟨_, by first | rfl | (simp [errW_none, errW_some] <;> rfl) | (simp [*, errW_none, errW_some] <;> rfl), by (with_reducible repeat (first | apply Kd.R_alloc | apply Kd.R_drewN | apply Kd.R_drew)); exact Kd.R_mono HO117.out (fun _ hk => trivial), by repeat (first | (with_reducible first | exact HB.out | apply below_alloc | apply pw_below_drewN | apply below_drew1 | refine below_set ?_ GE102.out) | exact HB.out)⟩

end Go.Proofs.Ytjihemgadbpebaa.PAll
