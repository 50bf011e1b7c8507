-- Written by wip/tools/myprint.py, a program of the prover's own, over the kit's print; the contracts named 'HAND' there are typed by hand.
import Derived.Test.YtkcleflejkkabaaPAllx0
namespace Go.Proofs.Ytkcleflejkkabaa.PAll
open Go.RowKit Go.Proofs.YtkcleflejkkabaaW.PrintWords Go.Proofs.YtkcleflejkkabaaW.PrintLast Go.Proofs.YtkcleflejkkabaaW.PrintMore
attribute [local go_sem] max2_int min2_int max_two min_two max_three min_three max_four min_four   -- for this text's walks alone
set_option linter.unusedVariables false
set_option linter.unusedSimpArgs false

/-! ### crc_table: function 19 -/
set_option maxHeartbeats 400000
theorem hide {p : Prop} (h : p) : Hid p := h
def stp (n : Int) : Int := if Go.bits .and .u32 n 1 = 1 then Go.bits .xor .u32 (n / 2) 3988292384 else n / 2

theorem step_any (n : Int) (w : World) :
    Calls Try.prog 21 #[.int .u32 n] w fun e w' => e = .returned (.int .u32 (stp n)) ∧ w = w' := by
  unfold stp
  by_cases h : Go.bits .and .u32 n 1 = 1
  · have h1 : (Go.bits .and .u32 n 1 == 1) = true := beq_iff_eq.mpr h
    rw [if_pos h]
    clear h
    go_enter Try.func21, Try.ntmps21
    go_wp2
    go_ret
    exact ⟨rfl, rfl⟩
  · have h1 : (Go.bits .and .u32 n 1 == 1) = false := beq_eq_false_iff_ne.mpr h
    rw [if_neg h]
    clear h
    go_enter Try.func21, Try.ntmps21
    go_wp2
    go_ret
    exact ⟨rfl, rfl⟩
def Z256 : Array Value := Array.replicate 256 (.int .u32 0)
theorem zero35 (w : World) : (zeroValue 35).run Try.prog w = .ok (.agg Z256) w := by kernel_rfl

/-- The 256 cells of a function on numbers. -/
def Tab (g : Nat → Int) : Array Value := Array.ofFn (n := 256) fun j => .int .u32 (g j.val)
theorem Tab_size (g : Nat → Int) : (Tab g).size = 256 := by simp [Tab]
theorem Tab_get (g : Nat → Int) (i : Nat) (h : i < 256) : (Tab g)[i]? = some (.int .u32 (g i)) := by
  simp [Tab, h]
def upd (g : Nat → Int) (i : Nat) (x : Int) : Nat → Int := fun j => if j = i then x else g j
theorem Tab_set (g : Nat → Int) (i : Nat) (x : Int) : (Tab g).setIfInBounds i (.int .u32 x) = Tab (upd g i x) := by
  apply Array.ext
  · simp [Tab]
  · intro j h1 h2
    simp only [Tab, Array.size_setIfInBounds, Array.size_ofFn] at h1
    rw [Array.getElem_setIfInBounds]
    · by_cases e : i = j
      · subst e; simp [Tab, upd]
      · simp [Tab, upd, e]; omega
    · simpa [Tab] using h1
theorem Z_tab : Z256 = Tab (fun _ => 0) := by
  apply Array.ext
  · simp [Z256, Tab]
  · intro j h1 h2
    simp [Z256, Tab]

/-- block N holds the table of g -/
def HasTab (N : Nat) (g : Nat → Int) (w : World) : Prop := w.heap[N]? = some (.cells (Tab g) 35 (0, 0))
theorem HasTab.cell {N : Nat} {g : Nat → Int} {w : World} (h : HasTab N g w) (i : Nat) (hi : i < 256) : w.cell? ⟨N, i, none⟩ = some (.int .u32 (g i)) := by
  unfold HasTab at h
  simp [World.cell?, h, Tab_get g i hi]
theorem HasTab.frozen {N : Nat} {g : Nat → Int} {w : World} (h : HasTab N g w) (i : Nat) : w.frozen? ⟨N, i, none⟩ = false := by
  unfold HasTab at h
  simp [World.frozen?, h]
theorem HasTab.set {N : Nat} {g : Nat → Int} {w : World} (h : HasTab N g w) (i : Nat) (x : Int) : HasTab N (upd g i x) (w.setCell ⟨N, i, none⟩ (.int .u32 x)) := by
  unfold HasTab at *
  simp only [World.setCell, Array.getElem?_modify, if_true, h, Option.map_some, Option.isSome_none, Bool.false_eq_true, if_false, Tab_set]
theorem HasTab.start (w : World) : HasTab (w.heap.size + 1) (fun _ => 0) ((w.alloc (.cells Z256 35)).alloc (.cells Z256 35)) := by
  unfold HasTab
  rw [← Z_tab]
  have h : w.heap.size + 1 = (w.alloc (.cells Z256 35)).heap.size := by simp
  rw [h]
  simp only [World.alloc, Array.getElem?_push_size]


def itr : Nat → Int → Int
  | 0, x => x
  | m + 1, x => stp (itr m x)
def tb (j : Nat) : Int := itr 8 j
theorem Tab_congr {g h : Nat → Int} (e : ∀ j, j < 256 → g j = h j) : Tab g = Tab h := by
  apply Array.ext
  · simp [Tab]
  · intro j h1 h2
    have : j < 256 := by simpa [Tab] using h1
    simp [Tab, e j this]
theorem Tab_one {g : Nat → Int} : (Tab g).all (·.oneCell') = true := by
  rw [Array.all_eq_true]
  intro i h
  simp [Tab, Value.oneCell']
theorem crc_below_setRow {B g : Nat} {w0 w : World} (hb : Below B w0 w) (hBg : B ≤ g) (cs : Array Value) : Below B w0 (w.setRow g cs) :=
  hb.trans ⟨rfl, rfl, rfl, by simp, fun k hk => setRow_other w g k cs (by omega)⟩
theorem und35 : Try.prog.underlying 35 = some (.array 256 23) := by kernel_rfl
theorem sz35 : (Try.prog.info? 35).map (·.size) = some 256 := by kernel_rfl

set_option maxRecDepth 100000 in
theorem table_any (w : World) :
    Calls Try.prog 19 #[] w fun e w' => e = .returned (.agg (Tab tb)) ∧ Below w.heap.size w w' := by
  have hz := zero35
  go_enter Try.func19, Try.ntmps19
  go_wp2
  go_loopw [4] (fun v4 wr => ∃ (k : Nat) (g : Nat → Int), k ≤ 256 ∧ v4 = .int .i64 k ∧ Hid (∀ j, j < k → g j = tb j) ∧ HasTab (w.heap.size + 1) g wr ∧ wr.heap[w.heap.size]? = some (.cells Z256 35 (0, 0)) ∧ Below w.heap.size w wr) (fun v _ => 256 - (intOf v).toNat)
  case atStart => exact ⟨0, fun _ => 0, by omega, rfl, hide (fun j hj => absurd hj (by omega)), HasTab.start w, heap_alloc2_old w _ _, ((Below.refl _ _).alloc (Nat.le_refl _) _).alloc (by simp) _⟩
  case round =>
    obtain ⟨k, g, hk, rfl, HG, HT, HZ, HB⟩ := hrel
    have HZ' := hide HZ
    clear HZ
    by_cases hlt : k < 256
    · have hb : decide ((k : Int) < 256) = true := decide_eq_true (by omega)
      have hc := HT.cell k hlt
      have hf := HT.frozen k
      have HT' := hide HT
      clear HT
      go_wp2
      obtain ⟨wo, hwo⟩ : ∃ wo : World, wo = wr.setCell ⟨w.heap.size + 1, k, none⟩ (.int .u32 k) := ⟨_, rfl⟩
      rw [← hwo]
      have HT1 : HasTab (w.heap.size + 1) (upd g k k) wo := hwo ▸ HT'.out.set k k
      have HZ1 : wo.heap[w.heap.size]? = some (.cells Z256 35 (0, 0)) := by rw [hwo, heap_setCell_other _ _ _ _ (by simp)]; exact HZ'.out
      have HB1 : Below w.heap.size w wo := hwo ▸ HB.setCell (by simp) _
      clear hwo hc hf HT' HZ' HB
      go_loopw [11] (fun v11 wr' => ∃ (m : Nat) (g' : Nat → Int), m ≤ 8 ∧ v11 = .int .i64 m ∧ Hid (g' k = itr m k ∧ ∀ j, j ≠ k → g' j = g j) ∧ HasTab (w.heap.size + 1) g' wr' ∧ wr'.heap[w.heap.size]? = some (.cells Z256 35 (0, 0)) ∧ Below w.heap.size w wr') (fun v _ => 8 - (intOf v).toNat)
      case atStart => exact ⟨0, _, by omega, rfl, hide ⟨by simp [upd, itr], fun j hj => by simp [upd, hj]⟩, HT1, HZ1, HB1⟩
      case round =>
        obtain ⟨m, g', hm, rfl, HG', HT, HZ, HB⟩ := hrel
        have HZ' := hide HZ
        clear HZ
        by_cases hlt' : m < 8
        · have hc := HT.cell k hlt
          have hf := HT.frozen k
          have HT' := hide HT
          clear HT
          go_wp2_with (go_at_call 21; refine (step_any _ _).mono ?_; rintro e w' ⟨rfl, rfl⟩)
          go_roundw
          case rel => exact ⟨m + 1, upd g' k (stp (g' k)), by omega, by go_num, hide ⟨by simp [upd, itr, HG'.out.1], fun j hj => by simp [upd, hj]; exact HG'.out.2 j hj⟩, HT'.out.set k _, by rw [heap_setCell_other _ _ _ _ (by simp)]; exact HZ'.out, HB.setCell (by simp) _⟩
          case measure => simp [intOf]; omega
        · go_wp2
          go_roundw
          case rel => exact ⟨k + 1, g', by omega, by go_num, hide (fun j hj => by
            by_cases e : j = k
            · subst e; obtain rfl : m = 8 := by omega
              exact HG'.out.1
            · rw [HG'.out.2 j e]; exact HG.out j (by omega)), HT, HZ'.out, HB⟩
          case measure => simp [intOf]; omega
    · have HT' := hide HT
      clear HT
      go_wp2_with (first
        | (refine wpList_load_row rfl 35 (.tmp 2) rfl (w.heap.size + 1) rfl 35 (Tab g) (0, 0) _ HT'.out und35 rfl (by rw [sz35]; simp [Tab]) ?_)
        | (refine wpList_store_row rfl 35 (.tmp 0) (.tmp 22) rfl w.heap.size (Tab g) rfl rfl 35 Z256 HZ'.out (by rw [sz35]; simp [Tab]) (by simp [Tab, Z256]) Tab_one ?_))
      obtain rfl : k = 256 := by omega
      have E : Tab g = Tab tb := Tab_congr HG.out
      have HZ2 : (wr.setRow w.heap.size (Tab g)).heap[w.heap.size]? = some (.cells (Tab tb) 35 (0, 0)) := by rw [setRow_heap _ _ _ _ _ _ HZ'.out, E]
      refine bodyPost_ret (results_cell_row Try.results19 _ _ w.heap.size 35 (Tab tb) (0, 0) _ rfl HZ2 und35 rfl (by rw [sz35]; simp [Tab])) rfl ⟨rfl, crc_below_setRow HB (Nat.le_refl _) _⟩


/-! ### crc_With: function 14 -/
def crcStep (n c : Int) : Int := Go.bits .xor .u32 (n / 256) (tb (Go.bits .xor .u8 (n % 256) c).toNat)
def crcFold (n : Int) (l : List Int) : Int := l.foldl crcStep n
def crc_With.f (a0 : Int) (l1 : List Int) : Option Int := some (Go.bits .xor .u32 (crcFold (Go.bits .xor .u32 a0 4294967295) l1) 4294967295)
theorem xor8_range (a b : Int) : 0 ≤ Go.bits .xor .u8 a b ∧ Go.bits .xor .u8 a b < 256 := by
  simp only [Go.bits, IntKind.wrap_u8]; omega
theorem xor32_range (a b : Int) : 0 ≤ Go.bits .xor .u32 a b ∧ Go.bits .xor .u32 a b < 4294967296 := by
  simp only [Go.bits, IntKind.wrap_u32]; omega
theorem take_snoc (l : List Int) (k : Nat) (h : k < l.length) : l.take (k + 1) = l.take k ++ [rd l (k : Int)] := by
  rw [List.take_succ_eq_append_getElem h]; simp [rd, List.getD_eq_getElem?_getD, List.getElem?_eq_getElem h]
theorem crcFold_snoc (n : Int) (l : List Int) (k : Nat) (h : k < l.length) : crcFold n (l.take (k + 1)) = crcStep (crcFold n (l.take k)) (rd l (k : Int)) := by
  rw [take_snoc l k h]; simp [crcFold]
set_option maxHeartbeats 8000000 in
set_option maxRecDepth 100000 in
theorem crc_With.calls (a0 : Int) (A1 : Option Addr) (c1 : Nat) (l1 : List Int) (r : Int) (w : World) (hr1 : Kd.C (Kd.int .u8) w A1 l1.length l1) (hc1 : l1.length ≤ c1) (h : crc_With.f a0 l1 = some r) :
    Calls Try.prog 14 #[.int .u32 a0, .slice A1 l1.length c1] w fun e w' => e = .returned (.int .u32 r) ∧ Below w.heap.size w w' := by
  have HR1 := Aside0.mk hr1
  clear hr1 hc1
  obtain rfl := Option.some.inj h
  clear h
  have hz := zero35
  go_enter Try.func14, Try.ntmps14
  go_wp2_with (first
    | (go_at_call 19; refine (table_any _).mono ?_; rintro e w1 ⟨rfl, HB⟩)
    | (refine wpList_store_row rfl 35 (.tmp 5) (.tmp 9) rfl w1.heap.size (Tab tb) rfl rfl 35 Z256 (heap_alloc_new _ _) (by rw [sz35]; simp [Tab]) (by simp [Tab, Z256]) Tab_one ?_))
  obtain ⟨w2, hw2⟩ : ∃ w2 : World, w2 = (w1.alloc (Obj.cells Z256 35)).setRow w1.heap.size (Tab tb) := ⟨_, rfl⟩
  rw [← hw2]
  have HT : HasTab w1.heap.size tb w2 := by rw [hw2]; exact setRow_heap _ _ _ _ _ _ (heap_alloc_new _ _)
  have HB2 : Below w.heap.size w w2 := by rw [hw2]; exact crc_below_setRow (HB.alloc HB.size _) HB.size _
  have HR2 := Aside0.mk (Kd.C_below HR1.out HB2)
  clear hw2 HR1 HB
  have HT' := hide HT
  clear HT
  go_loop [6, 14] (fun v6 v14 => ∃ (k : Nat) (n : Int), k ≤ l1.length ∧ v6 = .int .u32 n ∧ v14 = .int .i64 k ∧ 0 ≤ n ∧ n < 4294967296 ∧ Hid (n = crcFold (Go.bits .xor .u32 a0 4294967295) (l1.take k))) (fun _ v => l1.length - (intOf v).toNat)
  case atStart => exact ⟨0, _, by omega, rfl, rfl, (xor32_range _ _).1, (xor32_range _ _).2, hide (by simp [crcFold])⟩
  case round =>
    obtain ⟨k, n, hk, rfl, rfl, hn0, hn1, HN⟩ := hrel
    have hm : l1.length ≤ 9223372036854775807 := HR2.out.2.1
    by_cases hlt : k < l1.length
    · obtain ⟨ad, e1, hx⟩ := Kd.at_int HR2.out (k : Int) (by omega) (by omega)
      cases e1
      simp only [Int.toNat_natCast] at hx
      have hi0 := (xor8_range (n % 256) (rd l1 k)).1
      have hi1 := (xor8_range (n % 256) (rd l1 k)).2
      have hc := HT'.out.cell (Go.bits .xor .u8 (n % 256) (rd l1 k)).toNat (by omega)
      go_wp2
      go_round
      case rel => exact ⟨k + 1, _, by omega, rfl, by go_num, (xor32_range _ _).1, (xor32_range _ _).2, hide (by rw [crcFold_snoc _ _ _ hlt, ← HN.out]; rfl)⟩
      case measure => simp [intOf]; omega
    · go_wp2
      go_ret
      obtain rfl : k = l1.length := by omega
      have e := HN.out
      rw [List.take_length] at e
      exact ⟨by rw [← e]; rfl, HB2⟩

/-! ### crc_Sum: function 12 -/
def crc_Sum.f (l0 : List Int) : Option (Int) := (crc_With.f 0 l0).bind fun t101 => (some t101)
set_option maxHeartbeats 8000000 in
set_option maxRecDepth 100000 in
theorem crc_Sum.calls (A0 : Option Addr) (c0 : Nat) (l0 : List Int) (r : Int) (w : World) (hr0 : Kd.C (Kd.int .u8) w A0 l0.length l0) (hc0 : l0.length ≤ c0) (h : crc_Sum.f l0 = some r) :
    Calls Try.prog 12 #[.slice A0 l0.length c0] w fun e w' => e = .returned (.int .u32 r) ∧ Below w.heap.size w w' := by
  have HR0 := Aside0.mk hr0
  have HC0 := Aside0.mk hc0
  clear hr0 hc0
  have HB := Aside0.mk (Below.refl w.heap.size w)
  have H : ((crc_With.f 0 l0).bind fun t101 => (some t101)) = some r := h
  clear h
  replace H := Option.bind_eq_some_iff.mp H
  obtain ⟨t101, A20, H⟩ := H
  replace H : (some t101) = some r := H
  have A2 := Aside0.mk A20
  clear A20
  obtain rfl := Option.some.inj H
  go_enter Try.func12, Try.ntmps12
  go_wp2_with (first | ((with_reducible refine gate_callee (f := 14) rfl ?_); refine goesL_ (some 4) rfl rfl Try.func14 (by kernel_rfl) rfl #[.int .u32 0, .slice A0 l0.length c0] rfl (by (try simp only [List.map_toArray, List.map_cons, List.map_nil]); first | done | rfl | (simp only [List.length_drop, List.length_take]; rfl)) ?_; (with_reducible refine (crc_With.calls 0 _ _ l0 t101 _ ?side1 ?side2 A2.out).mono ?_); (case side1 => repeat (first | exact HR0.out | (with_reducible refine Kd.C_alloc ?_ _) | (with_reducible refine Kd.C_drewN ?_ _) | (with_reducible refine Kd.C_drew ?_))); (case side2 => exact HC0.out); rintro e w3 ⟨rfl, hb⟩; refine ⟨_, rfl, ?_⟩; have n0_ := Aside0.mk (below_step (by repeat (first | (with_reducible first | exact HB.out | apply below_alloc | apply pw_below_drewN | apply below_drew1) | exact HB.out)) hb); clear HB; have HB := n0_; clear n0_; (try clear hb); (try clear hb2); (try clear hk); (try clear hi)))
  go_ret
  exact ⟨by first | rfl | (simp [errW_none, errW_some] <;> rfl) | (simp [*, errW_none, errW_some] <;> rfl), by repeat (first | (with_reducible first | exact HB.out | apply below_alloc | apply pw_below_drewN | apply below_drew1) | exact HB.out)⟩

/-! ### crc_Seal: function 16 -/
def sealOf (n : Int) : List Int := [n % 256, n / 256 % 256, n / 65536 % 256, n / 16777216 % 256]
def crc_Seal.f (l0 : List Int) : Option (List Int) := (crc_Sum.f l0).bind fun n => if l0.length + 4 < 140737488355328 then some (l0 ++ sealOf n) else none
theorem seal_info : (Try.prog.info? 5).map (fun i => (i.zero, i.size, i.bytes)) = some (some (.int .u8 0), 1, 1) := by kernel_rfl
theorem seal_make (m : Nat) (hm : m + 4 < 140737488355328) :
    ∀ W : World, (Instr.makeSlice 22 (.int .i64 (m : Int)) (.int .i64 ((m : Int) + 4))).run Try.prog W = .ok (.slice (some ⟨W.heap.size, 0, none⟩) m (m + 4)) (W.alloc (.cells (madeCells #[.int .u8 0] (m + 4)) 5)) := by
  intro W
  obtain ⟨i0, hi, hz0, hz1, hz2⟩ := info_parts seal_info
  have h := run_make (P := Try.prog) W 22 5 i0 (.int .u8 0) Try.underlying22 hi hz0 .i64 .i64 (m : Int) ((m : Int) + 4) (by omega) (by omega) (by rw [hz2]; omega) (by omega)
  rw [h, hz1]
  have e : ((m : Int) + 4).toNat = m + 4 := by omega
  simp only [Int.toNat_natCast, e, Nat.mul_one]
  rfl
theorem seal_own (W : World) (base m : Nat) (hb : base ≤ W.heap.size) (hm : m + 4 < 140737488355328) :
    (Kd.int .u8).R 5 (W.alloc (.cells (madeCells #[.int .u8 0] (m + 4)) 5)) base (fun _ => True) (.slice (some ⟨W.heap.size, 0, none⟩) m (m + 4)) (List.replicate m 0) := by
  refine Kd.R_of_own ?_ (fun _ _ => trivial)
  refine ⟨by simp [encs], .inr ⟨W.heap.size, m + 4, madeCells #[.int .u8 0] (m + 4), by simp, hb, heap_alloc_new _ _, by simp, by simp only [maxLen]; omega, by simp [size_madeCells], ?_⟩⟩
  apply List.ext_getElem
  · simp [size_madeCells, encs]
  · intro i h1 h2
    simp [madeCells, encs, Nat.mod_one]
theorem sealOf_take (n : Int) (k : Nat) (h : k < 4) : (sealOf n).take (k + 1) = (sealOf n).take k ++ [n / 2 ^ (8 * k) % 256] := by
  have : k = 0 ∨ k = 1 ∨ k = 2 ∨ k = 3 := by omega
  rcases this with rfl | rfl | rfl | rfl <;> simp [sealOf]
set_option maxHeartbeats 8000000 in
set_option maxRecDepth 100000 in
theorem crc_Seal.calls (A0 : Option Addr) (c0 : Nat) (l0 : List Int) (r : List Int) (w : World) (hr0 : Kd.C (Kd.int .u8) w A0 l0.length l0) (hc0 : l0.length ≤ c0) (h : crc_Seal.f l0 = some r) :
    Calls Try.prog 16 #[.slice A0 l0.length c0] w fun e w' => ∃ v0_ : Value, e = .returned (v0_) ∧ Kd.R (Kd.int .u8) 5 w' w.heap.size (fun _ => True) v0_ r ∧ Below w.heap.size w w' := by
  have HR0 := Aside0.mk hr0
  have HC0 := Aside0.mk hc0
  clear hr0 hc0
  obtain ⟨n, A2, h⟩ := Option.bind_eq_some_iff.mp h
  by_cases hl : l0.length + 4 < 140737488355328
  · rw [if_pos hl] at h
    obtain rfl := Option.some.inj h
    clear h
    have A2' := hide A2
    clear A2
    have hmk := seal_make l0.length hl
    go_enter Try.func16, Try.ntmps16
    go_wp2_with (first
      | (go_at_call 12; with_reducible refine (crc_Sum.calls _ _ l0 n _ HR0.out HC0.out A2'.out).mono ?_; rintro e w1 ⟨rfl, HB⟩)
      | ((with_reducible refine gate_builtin (b := .copy) (xs := #[.tmp 14, .tmp 15]) rfl ?_); refine Kd.R_copy (d := 0) (w0 := w) w.heap.size rfl (.tmp 14) (.tmp 15) 22 22 5 rfl Try.underlying22 (by kernel_rfl) (.slice (some ⟨w1.heap.size, 0, none⟩) l0.length (l0.length + 4)) (List.replicate l0.length 0) l0 A0 l0.length c0 (fun _ => True) rfl rfl (seal_own w1 _ _ (Below.size HB) hl) (Kd.C_alloc (Kd.C_below HR0.out HB) _) (below_alloc HB _) (by simp; exact Nat.le_succ_of_le (Below.size HB)) ?_; intro w2 HO HB2 hg))
    have HO2 := hide HO
    clear HO hg hmk A2' HB HR0 HC0 h
    go_loopw [4, 17] (fun v4 v17 wr => ∃ k : Nat, k ≤ 4 ∧ v17 = .int .i64 k ∧ Hid ((Kd.int .u8).R 5 wr w.heap.size (fun _ => True) v4 (l0 ++ (sealOf n).take k)) ∧ Below w.heap.size w wr) (fun _ v _ => 4 - (intOf v).toNat)
    case atStart => exact ⟨0, by omega, rfl, hide (by have := HO2.out; simp only [List.length_replicate, Nat.min_self, List.take_length] at this; rw [List.take_zero]; rw [List.drop_of_length_le (by simp)] at this; exact this), HB2⟩
    case round =>
      obtain ⟨k, hk, rfl, HR, HB⟩ := hrel
      clear HO2 HB2
      by_cases hlt : k < 4
      · have hb : decide ((k : Int) < 4) = true := decide_eq_true (by omega)
        have HT := sealOf_take n k hlt
        have HT' := hide HT
        clear HT
        go_wp2_with (first | ((with_reducible refine gate_builtin (b := .append) (xs := #[.tmp 20, .tmp 26]) rfl ?_); at_builtin; refine Kd.R_append (Kd.int .u8) (w0 := w) w.heap.size rfl (.tmp 20) (.tmp 26) 22 5 (.int .u8 0) 1 rfl Try.underlying22 seal_info rfl (by decide) (by omega) u4 (l0 ++ (sealOf n).take k) (n / 2 ^ (8 * k) % 256) [.int .u8 (n / 2 ^ (8 * k) % 256)] (fun _ => True) (fun _ => False) rfl rfl rfl (fun _ hk => hk.elim) (fun _ _ => trivial) HR.out HB (Below.size HB) (by simp [sealOf]; omega) ?_; intro v1 w3 ho hb1 hg hat; have HR2 := hide ho; clear ho hg hat HB HR))
        go_roundw
        case rel => exact ⟨k + 1, by omega, by go_num, hide (by have := HR2.out; rw [HT'.out, ← List.append_assoc]; exact this), hb1⟩
        case measure => simp [intOf]; omega
      · go_wp2
        go_ret
        obtain rfl : k = 4 := by omega
        exact ⟨_, rfl, by have := HR.out; simpa [sealOf] using this, HB⟩
  · rw [if_neg hl] at h
    exact absurd h (by simp)

/-! ### crc_Good: function 18 -/
def crc_Good.l0 : Nat → Int → List Int → Int → Int → Option (Bool)
  | 0, _, _, _, _ => none
  | k + 1, x4, x18, x19, x20 => if x20 < x19 then (if 0 ≤ x20 then (if x20 < (x18.length : Int) then (if 0 ≤ (wrap64 (8 * x20)) then (if ((shr .u32 x4 (wrap64 (8 * x20))) % 256) = (rd x18 x20) then (crc_Good.l0 k x4 x18 x19 (wrap64 (x20 + 1))) else (some false)) else (none)) else (none)) else (none)) else (some true)
def crc_Good.f (k : Nat) (l0 : List Int) : Option (Bool) := if (wrap64 ((l0.length : Int) - 4)) < 0 then (some false) else (if 0 ≤ (wrap64 ((l0.length : Int) - 4)) then (if (wrap64 ((l0.length : Int) - 4)) ≤ (l0.length : Int) then ((crc_Sum.f (l0.take ((wrap64 ((l0.length : Int) - 4)) : Int).toNat)).bind fun t103 => (crc_Good.l0 k t103 (l0.drop ((wrap64 ((l0.length : Int) - 4)) : Int).toNat) ((l0.drop ((wrap64 ((l0.length : Int) - 4)) : Int).toNat).length : Int) 0)) else (none)) else (none))
theorem crc_Good.mono_l : ∀ k, (∀ y0 y1 y2 y3, LeO (crc_Good.l0 k y0 y1 y2 y3) (crc_Good.l0 (k + 1) y0 y1 y2 y3))
  | 0 => fun _ _ _ _ r h => by simp [crc_Good.l0] at h
  | k + 1 => by
    have ih0 := crc_Good.mono_l k
    · intro y0 y1 y2 y3
      unfold crc_Good.l0
      repeat' first
      | (with_reducible exact ih0 _ _ _ _)
      | (with_reducible exact LeO.refl _)
      | (with_reducible exact LeO.none _)
      | (with_reducible refine LeO.ite ?_ ?_)
      | (with_reducible refine LeO.bind ?_ (fun _ => ?_))
      | exact ih0 _ _ _ _
      | exact LeO.none _
      | refine LeO.ite ?_ ?_
      | refine LeO.bind ?_ (fun _ => ?_)
theorem crc_Good.mono : ∀ a0 k, LeO (crc_Good.f k a0) (crc_Good.f (k + 1) a0) := by
  intro a0 k
  have ih0 := crc_Good.mono_l k
  unfold crc_Good.f
  repeat' first
      | (with_reducible exact ih0 _ _ _ _)
      | (with_reducible exact LeO.refl _)
      | (with_reducible exact LeO.none _)
      | (with_reducible refine LeO.ite ?_ ?_)
      | (with_reducible refine LeO.bind ?_ (fun _ => ?_))
      | exact ih0 _ _ _ _
      | exact LeO.none _
      | refine LeO.ite ?_ ?_
      | refine LeO.bind ?_ (fun _ => ?_)
set_option maxHeartbeats 8000000 in
set_option maxRecDepth 100000 in
theorem crc_Good.calls (k : Nat) (A0 : Option Addr) (c0 : Nat) (l0 : List Int) (r : Bool) (w : World) (hr0 : Kd.C (Kd.int .u8) w A0 l0.length l0) (hc0 : l0.length ≤ c0) (h : crc_Good.f k l0 = some r) :
    Calls Try.prog 18 #[.slice A0 l0.length c0] w fun e w' => e = .returned (.bool r) ∧ Below w.heap.size w w' := by
  have HR0 := Aside0.mk hr0
  have HC0 := Aside0.mk hc0
  clear hr0 hc0
  have HB := Aside0.mk (Below.refl w.heap.size w)
  have H : (if (wrap64 ((l0.length : Int) - 4)) < 0 then (some false) else (if 0 ≤ (wrap64 ((l0.length : Int) - 4)) then (if (wrap64 ((l0.length : Int) - 4)) ≤ (l0.length : Int) then ((crc_Sum.f (l0.take ((wrap64 ((l0.length : Int) - 4)) : Int).toNat)).bind fun t103 => (crc_Good.l0 k t103 (l0.drop ((wrap64 ((l0.length : Int) - 4)) : Int).toNat) ((l0.drop ((wrap64 ((l0.length : Int) - 4)) : Int).toNat).length : Int) 0)) else (none)) else (none))) = some r := h
  clear h
  by_cases c2 : (wrap64 ((l0.length : Int) - 4)) < 0
  · rw [if_pos c2] at H
    have c2b0 : decide ((wrap64 ((l0.length : Int) - 4)) < 0) = true := decide_eq_true c2
    clear c2
    obtain rfl := Option.some.inj H
    go_enter Try.func18, Try.ntmps18
    go_wp2
    go_ret
    exact ⟨by first | rfl | (simp [errW_none, errW_some] <;> rfl) | (simp [*, errW_none, errW_some] <;> rfl), by repeat (first | (with_reducible first | exact HB.out | apply below_alloc | apply pw_below_drewN | apply below_drew1) | exact HB.out)⟩
  · rw [if_neg c2] at H
    have c2b0 : decide ((wrap64 ((l0.length : Int) - 4)) < 0) = false := decide_eq_false c2
    clear c2
    obtain ⟨ji3, hji3⟩ : ∃ j_ : Int, (wrap64 ((l0.length : Int) - 4)) = j_ := ⟨_, rfl⟩
    replace H : (if 0 ≤ (ji3) then (if (ji3) ≤ (l0.length : Int) then ((crc_Sum.f (l0.take ((ji3) : Int).toNat)).bind fun t103 => (crc_Good.l0 k t103 (l0.drop ((ji3) : Int).toNat) ((l0.drop ((ji3) : Int).toNat).length : Int) 0)) else (none)) else (none)) = some r := by first | (rw [hji3] at H; exact H) | (simp only [hji3] at H ⊢; exact H)
    (try rw [hji3] at c2b0)
    have hji3w : (IntKind.i64.wrap ((l0.length : Int) - 4)) = ji3 := (i64_w _).trans hji3
    by_cases c4 : 0 ≤ (ji3)
    · rw [if_pos c4] at H
      have c4b0 := eq_true c4
      have c4b1 : decide (0 ≤ (ji3)) = true := decide_eq_true c4
      clear c4
      by_cases c5 : (ji3) ≤ (l0.length : Int)
      · rw [if_pos c5] at H
        have c5b0 := eq_true c5
        have c5b1 : decide ((ji3) ≤ (l0.length : Int)) = true := decide_eq_true c5
        clear c5
        replace H := Option.bind_eq_some_iff.mp H
        obtain ⟨t103, A60, H⟩ := H
        replace H : (crc_Good.l0 k t103 (l0.drop ((ji3) : Int).toNat) ((l0.drop ((ji3) : Int).toNat).length : Int) 0) = some r := H
        have A6 := Aside0.mk A60
        clear A60
        have c7b0 := eq_true (of_decide_eq_true (by first | (with_reducible assumption) | assumption) : 0 ≤ (ji3))
        have c8b0 := eq_true (of_decide_eq_true (by first | (with_reducible assumption) | assumption) : (ji3) ≤ (l0.length : Int))
        have H' := Aside0.mk H
        clear H
        obtain ⟨i09, hi09, _, hsz9, _⟩ := info_parts info5
        obtain ⟨hcut9, hA9, hC9⟩ := print_take_of (P := Try.prog) (Value.int .u8) 0 22 5 .i64 Try.underlying22 hi09 hsz9 A0 c0 l0 (ji3) (of_decide_eq_true (by first | (with_reducible assumption) | assumption)) (of_decide_eq_true (by first | (with_reducible assumption) | assumption)) HC0.out
        have HR102 := Aside0.mk (Kd.C_of_reads (h1 := fun _ => rfl) (hA9 _ (Kd.reads_of_C HR0.out)))
        have HC102 := Aside0.mk hC9
        clear hA9 hC9 hi09 hsz9
        go_enter Try.func18, Try.ntmps18
        go_wp2_with (first | ((with_reducible refine gate_callee (f := 12) rfl ?_); refine goesL_ (some 15) rfl rfl Try.func12 (by kernel_rfl) rfl #[.slice A0 (l0.take ((ji3) : Int).toNat).length c0] rfl (by (try simp only [List.map_toArray, List.map_cons, List.map_nil]); first | done | (rw [show (l0.take ((ji3) : Int).toNat).length = (ji3).toNat from (by rw [List.length_take]; have h_ : ((ji3) : Int) ≤ (l0.length : Int) := of_decide_eq_true (by first | (with_reducible assumption) | assumption); omega)] <;> rfl) | (simp only [hji3]; rfl) | rfl | (simp only [List.length_drop, List.length_take]; rfl)) ?_; (with_reducible refine (crc_Sum.calls _ _ (l0.take ((ji3) : Int).toNat) t103 _ ?side1 ?side2 A6.out).mono ?_); (case side1 => repeat (first | exact HR102.out | (with_reducible refine Kd.C_alloc ?_ _) | (with_reducible refine Kd.C_drewN ?_ _) | (with_reducible refine Kd.C_drew ?_))); (case side2 => exact HC102.out); rintro e w10 ⟨rfl, hb⟩; refine ⟨_, rfl, ?_⟩; have n0_ := Aside0.mk (below_step (by repeat (first | (with_reducible first | exact HB.out | apply below_alloc | apply pw_below_drewN | apply below_drew1) | exact HB.out)) hb); clear HB; have HB := n0_; clear n0_; (try clear hb); (try clear hb2); (try clear hk); (try clear hi); obtain ⟨i011, hi011, _, hsz11, _⟩ := info_parts info5; obtain ⟨A11, hcut11, hA11, hC11⟩ := print_drop_of (P := Try.prog) (Value.int .u8) 0 22 5 .i64 Try.underlying22 hi011 hsz11 A0 c0 l0 (ji3) (of_decide_eq_true (by first | (with_reducible assumption) | assumption)) (of_decide_eq_true (by first | (with_reducible assumption) | assumption)) HC0.out; have HR104 := Aside0.mk (Kd.C_of_reads (h1 := fun _ => rfl) (hA11 _ (Kd.reads_of_C HR0.out))); have HC104 := Aside0.mk hC11; clear hA11 hC11 hi011 hsz11))
        go_loopg [20] k (fun kq v20 w' => ∃ (x20_1 : Int), v20 = .int .i64 x20_1 ∧ Aside0 (crc_Good.l0 kq t103 (l0.drop ((ji3) : Int).toNat) ((l0.drop ((ji3) : Int).toNat).length : Int) x20_1 = some r) ∧ Aside0 (kq ≤ k) ∧ Aside0 (Below w.heap.size w w'))
        case atStart => exact ⟨(0), (by first | rfl | (simp; done) | (simp [*]; done)), H', ⟨Nat.le_refl _⟩, ⟨by repeat (first | (with_reducible first | exact HB.out | apply below_alloc | apply pw_below_drewN | apply below_drew1) | exact HB.out)⟩⟩
        case round =>
          clear H'
          try clear c1
          try clear c2
          try clear c2b0
          try clear p2
          try clear c4
          try clear c4b0
          try clear c4b1
          try clear c5
          try clear c5b0
          try clear c5b1
          try clear p6
          try clear c7
          try clear c7b0
          try clear c8
          try clear c8b0
          obtain ⟨x20_1, rfl, HA, HK1, HB⟩ := hrel
          cases gk with
          | zero => exact absurd HA.out (by simp [crc_Good.l0])
          | succ k1 =>
            have H := HA.out
            clear HA
            simp only [crc_Good.l0] at H
            by_cases c12 : x20_1 < ((l0.drop ((ji3) : Int).toNat).length : Int)
            · rw [if_pos c12] at H
              have c12b0 : decide (x20_1 < ((l0.drop ((ji3) : Int).toNat).length : Int)) = true := decide_eq_true c12
              have c12b0z := c12b0
              simp only [List.length_drop] at c12b0z
              clear c12
              by_cases c13 : 0 ≤ x20_1
              · rw [if_pos c13] at H
                have c13b0 : decide (0 ≤ x20_1) = true := decide_eq_true c13
                clear c13
                by_cases c14 : x20_1 < ((l0.drop ((ji3) : Int).toNat).length : Int)
                · rw [if_pos c14] at H
                  have c14b0 : decide (x20_1 < ((l0.drop ((ji3) : Int).toNat).length : Int)) = true := decide_eq_true c14
                  have c14b0z := c14b0
                  simp only [List.length_drop] at c14b0z
                  clear c14
                  obtain ⟨ji15, hji15⟩ : ∃ j_ : Int, (wrap64 (8 * x20_1)) = j_ := ⟨_, rfl⟩
                  replace H : (if 0 ≤ (ji15) then (if ((shr .u32 t103 (ji15)) % 256) = (rd (l0.drop ((ji3) : Int).toNat) x20_1) then (crc_Good.l0 k1 t103 (l0.drop ((ji3) : Int).toNat) ((l0.drop ((ji3) : Int).toNat).length : Int) (wrap64 (x20_1 + 1))) else (some false)) else (none)) = some r := by first | (rw [hji15] at H; exact H) | (simp only [hji15] at H ⊢; exact H)
                  have hji15w : (IntKind.i64.wrap (8 * x20_1)) = ji15 := (i64_w _).trans hji15
                  by_cases c16 : 0 ≤ (ji15)
                  · rw [if_pos c16] at H
                    have c16b0 := eq_true c16
                    have c16b1 : decide (0 ≤ (ji15)) = true := decide_eq_true c16
                    clear c16
                    obtain ⟨ji17, hji17⟩ : ∃ j_ : Int, (shr .u32 t103 (ji15)) = j_ := ⟨_, rfl⟩
                    replace H : (if ((ji17) % 256) = (rd (l0.drop ((ji3) : Int).toNat) x20_1) then (crc_Good.l0 k1 t103 (l0.drop ((ji3) : Int).toNat) ((l0.drop ((ji3) : Int).toNat).length : Int) (wrap64 (x20_1 + 1))) else (some false)) = some r := by first | (rw [hji17] at H; exact H) | (simp only [hji17] at H ⊢; exact H)
                    have hji17_ : (t103 / 2 ^ min (ji15).toNat 32) = ji17 := hji17
                    have hji17z : (ji15) ≤ 32 → (t103 / 2 ^ (ji15).toNat) = ji17 := shr_small hji17
                    by_cases c18 : ((ji17) % 256) = (rd (l0.drop ((ji3) : Int).toNat) x20_1)
                    · rw [if_pos c18] at H
                      have c18b0 : (((ji17) % 256) == (rd (l0.drop ((ji3) : Int).toNat) x20_1)) = true := beq_iff_eq.mpr c18
                      have c18b1 : (((ji17) % 256) != (rd (l0.drop ((ji3) : Int).toNat) x20_1)) = false := bne_eq_false_iff_eq.mpr c18
                      clear c18
                      have H' := Aside0.mk H
                      clear H
                      have p105 : 0 ≤ (x20_1 : Int) := of_decide_eq_true (by first | (with_reducible assumption) | assumption)
                      have q105 : x20_1 < ((l0.drop ((ji3) : Int).toNat).length : Int) := of_decide_eq_true (by first | (with_reducible assumption) | assumption)
                      obtain ⟨ad105, e105, hx105_0⟩ := Kd.at_int HR104.out x20_1 p105 q105
                      cases e105
                      replace hx105_0 := (HB.out.cell (World.block_lt_of_cell? w _ hx105_0)).trans hx105_0
                      replace p105 := eq_true p105
                      replace q105 := eq_true q105
                      have q105z := q105
                      simp only [List.length_drop] at q105z
                      go_wp2
                      go_roundg k1
                      case measure => have := HK1.out; omega
                      case rel => exact ⟨(wrap64 (x20_1 + 1)), (by first | rfl | (simp; done) | (simp [*]; done)), H', ⟨by have := HK1.out; omega⟩, ⟨by repeat (first | (with_reducible first | exact HB.out | apply below_alloc | apply pw_below_drewN | apply below_drew1) | exact HB.out)⟩⟩
                    · rw [if_neg c18] at H
                      have c18b0 : (((ji17) % 256) == (rd (l0.drop ((ji3) : Int).toNat) x20_1)) = false := beq_eq_false_iff_ne.mpr c18
                      have c18b1 : (((ji17) % 256) != (rd (l0.drop ((ji3) : Int).toNat) x20_1)) = true := bne_iff_ne.mpr c18
                      obtain rfl := Option.some.inj H
                      have p105 : 0 ≤ (x20_1 : Int) := of_decide_eq_true (by first | (with_reducible assumption) | assumption)
                      have q105 : x20_1 < ((l0.drop ((ji3) : Int).toNat).length : Int) := of_decide_eq_true (by first | (with_reducible assumption) | assumption)
                      obtain ⟨ad105, e105, hx105_0⟩ := Kd.at_int HR104.out x20_1 p105 q105
                      cases e105
                      replace hx105_0 := (HB.out.cell (World.block_lt_of_cell? w _ hx105_0)).trans hx105_0
                      replace p105 := eq_true p105
                      replace q105 := eq_true q105
                      have q105z := q105
                      simp only [List.length_drop] at q105z
                      go_wp2
                      go_ret
                      exact ⟨by first | rfl | (simp [errW_none, errW_some] <;> rfl) | (simp only [← hji3, ← hji15, ← hji17]; first | rfl | (simp [errW_none, errW_some] <;> rfl)) | (simp [*, errW_none, errW_some] <;> rfl), by repeat (first | (with_reducible first | exact HB.out | apply below_alloc | apply pw_below_drewN | apply below_drew1) | exact HB.out)⟩
                  · rw [if_neg c16] at H
                    exact absurd H (by simp)
                · rw [if_neg c14] at H
                  exact absurd H (by simp)
              · rw [if_neg c13] at H
                exact absurd H (by simp)
            · rw [if_neg c12] at H
              have c12b0 : decide (x20_1 < ((l0.drop ((ji3) : Int).toNat).length : Int)) = false := decide_eq_false c12
              have c12b0z := c12b0
              simp only [List.length_drop] at c12b0z
              clear c12
              obtain rfl := Option.some.inj H
              go_wp2
              go_ret
              exact ⟨by first | rfl | (simp [errW_none, errW_some] <;> rfl) | (simp only [← hji3]; first | rfl | (simp [errW_none, errW_some] <;> rfl)) | (simp [*, errW_none, errW_some] <;> rfl), by repeat (first | (with_reducible first | exact HB.out | apply below_alloc | apply pw_below_drewN | apply below_drew1) | exact HB.out)⟩
      · rw [if_neg c5] at H
        exact absurd H (by simp)
    · rw [if_neg c4] at H
      exact absurd H (by simp)

end Go.Proofs.Ytkcleflejkkabaa.PAll
