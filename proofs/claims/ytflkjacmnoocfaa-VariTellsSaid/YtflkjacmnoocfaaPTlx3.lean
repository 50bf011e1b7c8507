-- Written by wip/tools/myprint.py, a program of the prover's own, over the kit's print; the contracts named 'HAND' there are typed by hand.
import Derived.Test.YtflkjacmnoocfaaPTlx0
import Derived.Test.YtflkjacmnoocfaaPTlx1
namespace Go.Proofs.Ytflkjacmnoocfaa.PTl
open Go.RowKit Go.Proofs.YtflkjacmnoocfaaW.PrintWords Go.Proofs.YtflkjacmnoocfaaW.PrintLast Go.Proofs.YtflkjacmnoocfaaW.PrintMore
attribute [local go_sem] max2_int min2_int max_two min_two max_three min_three max_four min_four   -- for this text's walks alone
set_option linter.unusedVariables false
set_option linter.unusedSimpArgs false

/-! ### vari_All: function 13 -/
section
attribute [local go_sem] Oper.semAt_some
theorem each_info5 : (Try.prog.info? 5).map (fun i => (i.zero, i.size, i.bytes)) = some (some (.int .u8 0), 1, 1) := by kernel_rfl
theorem each_info22 : (Try.prog.info? 22).map (fun i => (i.zero, i.size, i.bytes)) = some (some (.int .u64 0), 1, 8) := by kernel_rfl
def vari_eachL : Nat → List Int → Option (List (Int × Bool))
  | 0, _ => none
  | k + 1, l => if l = [] then some [] else
      (vari_Get.f k l).bind fun t => if t.2 = 0 then some [(t.1, false)] else (if 0 < t.2 ∧ t.2 ≤ (l.length : Int) then (vari_eachL k (l.drop t.2.toNat)).bind fun ys => some ((t.1, true) :: ys) else none)
def vari_All.f (k : Nat) (l0 : List Int) : Option (List Int × Bool) :=
  (vari_eachL k l0).bind fun ys => if ys.length < 17592186044416 then some (if ys.all (fun x => x.2) = true then ((ys.map (fun x => x.1), true) : List Int × Bool) else ([], false)) else none
theorem vari_eachL.mono : ∀ k l, LeO (vari_eachL k l) (vari_eachL (k + 1) l)
  | 0, _ => fun r h => by simp [vari_eachL] at h
  | k + 1, l => by
    rw [vari_eachL.eq_2, vari_eachL.eq_2]
    refine LeO.ite (LeO.refl _) (LeO.bind (vari_Get.mono _ _) fun t => LeO.ite (LeO.refl _) (LeO.ite (LeO.bind (vari_eachL.mono k _) fun _ => LeO.refl _) (LeO.none _)))
theorem vari_All.mono : ∀ a0 k, LeO (vari_All.f k a0) (vari_All.f (k + 1) a0) := fun a0 k => LeO.bind (vari_eachL.mono k a0) fun _ => LeO.refl _
def boxLen (W : World) (B : Nat) : Nat := match W.cell? ⟨B, 0, none⟩ with | some (.slice _ l _) => l | _ => 0
theorem boxLen_eq {W : World} {B : Nat} {A : Option Addr} {l c : Nat} (h : Boxed W B 23 (.slice A l c)) : boxLen W B = l := by simp [boxLen, h.cell]
theorem boxed_drawn {W W' : World} {B : Nat} {t : TypeId} {v : Value} (h : Boxed W B t v) (hd : Drawn0 W W') : Boxed W' B t v := by
  obtain ⟨n, rfl⟩ := hd.out
  exact h

set_option maxHeartbeats 2000000 in
theorem each1_in (n : Nat) (hn : 1 ≤ n) (l Bb n₀ : Nat) (w : World) (hw : n₀ = w.heap.size) (hBb : n₀ ≤ Bb) (J Jx : List (Int × Bool) → World → Prop) (ys : List (Int × Bool))
    (hJd : ∀ s A B, J s A → Drawn0 A B → J s B) (hJc : ∀ s A v, J s A → J s (A.setCell ⟨Bb, 0, none⟩ v))
    (hY : ∀ pre x W, J pre W → pre.length < ys.length → YieldAt Fence.wide (n - 1) Try.prog l #[.int .u64 x.1, .bool x.2] W fun e W' =>
      (e = .returned (.bool true) ∧ J (pre ++ [x]) W' ∧ Below n₀ W W' ∧ (∀ v, Boxed W Bb 23 v → Boxed W' Bb 23 v)) ∨ (e = .returned (.bool false) ∧ Jx (pre ++ [x]) W'))
    (K0 : Nat) (A0 : Option Addr) (c0 : Nat) (l0 : List Int) (hr0 : Kd.C (Kd.int .u8) w A0 l0.length l0) (hc0 : l0.length ≤ c0) (he : vari_eachL K0 l0 = some ys)
    (W : World) (hb : Boxed W Bb 23 (.slice A0 l0.length c0)) (hB : Below n₀ w W) (h0 : J [] W) :
    CallsIn Fence.wide n Try.prog 23 #[.func (.yield l) #[] #[], .pointer (some ⟨Bb, 0, none⟩)] W fun e W' => (∃ v, e = .returned v) ∧
      ((∃ zs, zs = ys ∧ J zs W') ∨ (∃ pre, pre <+: ys ∧ Jx pre W')) := by
  refine callsIn_of_wp Try.func23 rfl trivial ?_ rfl
  simp only [Try.ntmps23, List.size_toArray, List.length_cons, List.length_nil, Nat.reduceAdd, Nat.reduceSub, Array.replicate_succ, Array.replicate_zero, List.push_toArray, List.append_toArray, List.nil_append, List.cons_append]
  gi_wp2
  gi_loopw [3] (fun p wr => ∃ (k : Nat) (pre rest : List (Int × Bool)) (A : Option Addr) (c : Nat) (b : List Int), ys = pre ++ rest ∧ Aside0 (vari_eachL k b = some rest) ∧ Aside0 (Kd.C (Kd.int .u8) w A b.length b) ∧ Aside0 (b.length ≤ c) ∧ Aside0 (Boxed wr Bb 23 (.slice A b.length c)) ∧ Aside0 (Below n₀ w wr) ∧ J pre wr)
    (fun p wr => boxLen wr Bb)
  case atStart => exact ⟨K0, [], ys, A0, c0, l0, rfl, ⟨he⟩, ⟨hr0⟩, ⟨hc0⟩, ⟨hb⟩, ⟨hB⟩, h0⟩
  case round =>
    obtain ⟨k, pre, rest, A, c, b, hx, HE, HR, HC, HBX, HB, hJs⟩ := hrel
    have hcell := HBX.out.cell
    have hfr := HBX.out.frozen
    cases k with
    | zero => exact absurd HE.out (by simp [vari_eachL])
    | succ k =>
      have H := HE.out
      rw [vari_eachL.eq_2] at H
      by_cases hnil : b = []
      · rw [if_pos hnil] at H
        obtain rfl := Option.some.inj H
        have hz : b.length = 0 := by rw [hnil]; rfl
        rw [hz] at hcell
        gi_wp2
        go_end0
        exact ⟨⟨_, rfl⟩, .inl hJs⟩
      · rw [if_neg hnil] at H
        replace H := Option.bind_eq_some_iff.mp H
        obtain ⟨⟨t1, t2⟩, HG, H⟩ := H
        have hpos : 0 < b.length := by rcases b with _ | _ <;> simp_all
        have hlt : decide ((0 : Int) < (b.length : Int)) = true := decide_eq_true (by omega)
        obtain ⟨i0, hi0, _, hsz, _⟩ := info_parts each_info5
        by_cases hm : t2 = 0
        · subst hm
          rw [if_pos rfl] at H
          obtain rfl := Option.some.inj H
          obtain ⟨A7, hcut7, hA7, hC7⟩ := print_drop_of (P := Try.prog) (Value.int .u8) 0 23 5 .i64 Try.underlying23 hi0 hsz A c b 0 (by omega) (by omega) HC.out
          gi_wp2_with (refine ⟨trivial, ?_⟩; gi_at_call 11; refine (callsIn_wide.2 (vari_Get.calls k A c b t1 0 wr (Kd.C_below HR.out (hw ▸ HB.out)) HC.out HG)).mono ?_; rintro e w1 ⟨rfl, hd⟩; have hbx := boxed_drawn HBX.out hd; have hcell1 := hbx.cell; have hfr1 := hbx.frozen; obtain ⟨fn, tmps, assign, body, hy, hR⟩ := hY pre (t1, false) (w1.setCell ⟨Bb, 0, none⟩ (.slice A7 b.length c)) (hJc _ _ _ (hJd _ _ _ hJs hd)) (by rw [hx]; simp); dsimp only at hy)
          refine hR.mono ?_
          rintro e W3 (⟨rfl, hJ3, hk3, hbx3⟩ | ⟨rfl, hJx3⟩)
          · gi_wp2
            refine bodyPost_ret (results_none rfl _ _ _) rfl ?_
            exact ⟨⟨_, rfl⟩, .inl ⟨_, rfl, by rw [hx]; exact hJ3⟩⟩
          · gi_wp2
            refine bodyPost_ret (results_none rfl _ _ _) rfl ?_
            exact ⟨⟨_, rfl⟩, .inr ⟨_, by rw [hx]; exact List.prefix_rfl, hJx3⟩⟩
        · rw [if_neg hm] at H
          by_cases hlm : 0 < t2 ∧ t2 ≤ (b.length : Int)
          · rw [if_pos hlm] at H
            replace H := Option.bind_eq_some_iff.mp H
            obtain ⟨rest2, HG2, H⟩ := H
            obtain rfl := Option.some.inj H
            have hgt : decide (t2 > 0) = true := decide_eq_true hlm.1
            have heq : (t2 == 0) = false := beq_eq_false_iff_ne.mpr hm
            obtain ⟨A7, hcut7, hA7, hC7⟩ := print_drop_of (P := Try.prog) (Value.int .u8) 0 23 5 .i64 Try.underlying23 hi0 hsz A c b t2 (by omega) (by omega) HC.out
            have HR7 := Aside0.mk (Kd.C_of_reads (h1 := fun _ => rfl) (hA7 _ (Kd.reads_of_C HR.out)))
            gi_wp2_with (refine ⟨trivial, ?_⟩; gi_at_call 11; refine (callsIn_wide.2 (vari_Get.calls k A c b t1 t2 wr (Kd.C_below HR.out (hw ▸ HB.out)) HC.out HG)).mono ?_; rintro e w1 ⟨rfl, hd⟩; have hbx := boxed_drawn HBX.out hd; have hcell1 := hbx.cell; have hfr1 := hbx.frozen; obtain ⟨fn, tmps, assign, body, hy, hR⟩ := hY pre (t1, true) (w1.setCell ⟨Bb, 0, none⟩ (.slice A7 (b.length - t2.toNat) (c - t2.toNat))) (hJc _ _ _ (hJd _ _ _ hJs hd)) (by rw [hx]; simp); dsimp only at hy)
            refine hR.mono ?_
            rintro e W3 (⟨rfl, hJ3, hk3, hbx3⟩ | ⟨rfl, hJx3⟩)
            · gi_wp2
              go_roundw
              case rel => exact ⟨k, pre ++ [(t1, true)], rest2, A7, c - t2.toNat, b.drop t2.toNat, by rw [hx]; simp, ⟨HG2⟩, ⟨HR7.out⟩, ⟨hC7⟩, ⟨by rw [List.length_drop]; exact hbx3 _ (hbx.set _)⟩, ⟨((HB.out.trans ((hd.below).mono (by have := HB.out.size; omega))).setCell (p := ⟨Bb, 0, none⟩) hBb _).trans hk3⟩, hJ3⟩
              case measure => rw [boxLen_eq (hbx3 _ (hbx.set _)), boxLen_eq HBX.out]; omega
            · gi_wp2
              refine bodyPost_ret (results_none rfl _ _ _) rfl ?_
              exact ⟨⟨_, rfl⟩, .inr ⟨_, by rw [hx]; exact ⟨rest2, by simp⟩, hJx3⟩⟩
          · rw [if_neg hlm] at H
            exact absurd H (by simp)

/-- ONE ROUND AND ITS BOOK-KEEPING, for an iterator that stores into a box (block Bb) of its own. -/
theorem all_range {n : Nat} {g : Operand} {ps : Array Tmp} {assign body : Code} {Q : Exit → Act → World → Prop} {a : Act} {w : World} {w0 : World} (h1 : 1 ≤ n) (h2 : 2 ≤ n) (Bb : Nat) (hBb : Bb < w.heap.size) (hB0 : w0.heap.size ≤ Bb)
    (hg : a.eval g = .func (.func 23) #[] #[.pointer (some ⟨Bb, 0, none⟩)]) (hps : ps.size = 2)
    (K0 : Nat) (A0 : Option Addr) (c0 : Nat) (l0 : List Int) (ys : List (Int × Bool)) (hr0 : Kd.C (Kd.int .u8) w0 A0 l0.length l0) (hc0 : l0.length ≤ c0) (he : vari_eachL K0 l0 = some ys)
    (hbox : Boxed w Bb 23 (.slice A0 l0.length c0)) (hb0 : Below w0.heap.size w0 w)
    (I : List (Int × Bool) → World → Prop) (Ix : Code → List (Int × Bool) → World → Prop) (hI : OwnFrom w.heap.size I) (hIx : ∀ c, OwnFrom w.heap.size (Ix c))
    (hId : ∀ s A B, I s A → Drawn0 A B → I s B) (hIc : ∀ s A v, I s A → I s (A.setCell ⟨Bb, 0, none⟩ v)) (h0 : I [] w) (a₁ : Int × Bool → Act)
    (hassign : ∀ (l : Nat) (x : Int × Bool) (W : World) (K : Act → World → Prop), K (a₁ x) W →
      assign.wpIn (Fence.wide.inRound l) (n - 1 - 1) Try.prog (Exit.then K (fun _ _ _ => False)) { tmps := (ps.zip #[.int .u64 x.1, .bool x.2]).foldl (fun t (p, v) => t.setIfInBounds p v) a.tmps, defers := [] } W)
    (hbody : ∀ (l : Nat) (pre : List (Int × Bool)) (x : Int × Bool) (W : World), I pre W → pre.length < ys.length → body.wpIn (Fence.wide.inRound l) (n - 1 - 1) Try.prog (ownPostG w.heap.size (fun A B => Below w0.heap.size A B ∧ (∀ v, Boxed A Bb 23 v → Boxed B Bb 23 v)) I Ix (pre ++ [x]) W) (a₁ x) W)
    (hdone : ∀ (D : Nat) (W : World), w.heap.size ≤ D → I ys W → W.heap[D]? = some (.deferred (some [])) → Q .normal { a with defers := { target := .collected D, args := #[] } :: a.defers } W)
    (hstop : ∀ (D : Nat) (c : Code) (pre : List (Int × Bool)) (W : World), w.heap.size ≤ D → pre <+: ys → Ix c pre W → W.heap[D]? = some (.deferred (some [])) → c.wpIn Fence.wide n Try.prog Q { a with defers := { target := .collected D, args := #[] } :: a.defers } W) :
    (Code.rangeFunc g ps assign body).wpIn Fence.wide n Try.prog Q a w := by
  refine wpIn_rangeFunc ?_
  intro fn hfn
  obtain ⟨rec, hrec⟩ : ∃ rec : LoopState → Option Code → Loop, rec = fun st pe => { state := st, pending := pe, fn, tmps := a.tmps, params := ps, assign, body, defers := w.heap.size } := ⟨_, rfl⟩
  obtain ⟨W1, hW1⟩ : ∃ W1, (w.alloc (.deferred (some []))).alloc (.loop (rec .ready none)) = W1 := ⟨_, rfl⟩
  have hL1 : W1.heap[w.heap.size + 1]? = some (.loop (rec .ready none)) := by
    rw [← hW1]; have := World.alloc_heap_new (w.alloc (.deferred (some []))) (.loop (rec .ready none)); rwa [World.size_alloc] at this
  have hK1 : W1.heap[w.heap.size]? = some (.deferred (some [])) := by
    rw [← hW1]; exact (Below.heap_alloc _ _ _ (by simp)).trans (World.alloc_heap_new w _)
  have hI1 : I [] W1 := by rw [← hW1]; exact hI.alloc _ (hI.alloc _ h0)
  have hbox1 : Boxed W1 Bb 23 (.slice A0 l0.length c0) := by rw [← hW1]; exact (hbox.alloc _).alloc _
  have hb1 : Below w0.heap.size w0 W1 := by
    rw [← hW1]; exact hb0.trans ((((Below.refl _ w).alloc (Nat.le_refl _) _).alloc (by simp) _).mono hb0.size)
  have hKb : ∀ (W : World) (o o' : Obj) (k : Nat), w.heap.size ≤ k → W.heap[k]? = some o → o.isCells = false → o.isWalk = false → Below w0.heap.size W (W.putObj k o') ∧ (∀ v, Boxed W Bb 23 v → Boxed (W.putObj k o') Bb 23 v) := by
    intro W o o' k hk h1 h2 h3
    exact ⟨belowK_b (w := w) hb0.size W k o o' hk h1 h2 h3, fun v hv => (World.putObj_heap_other (k := Bb) (r := k) (by omega)).trans hv⟩
  refine ⟨w.heap.size + 1, [{ target := .collected w.heap.size, args := #[] }], W1, { target := .fn (.func 23) #[.pointer (some ⟨Bb, 0, none⟩)], args := #[.func (.yield (w.heap.size + 1)) #[] #[]] }, W1, 23,
    #[.func (.yield (w.heap.size + 1)) #[] #[]] ++ #[.pointer (some ⟨Bb, 0, none⟩)], W1, ?_, ?_, ?_, ?_, fun _ => h1, ?_⟩
  · rw [← hW1, hrec]; exact run_enterLoop_outer _ _ _ _ _
  · simp only [resolve, hg]
    simp [go_sem]
  · intro f' hf'; trivial
  · have eg := enters_of Try.func23 (by kernel_rfl) rfl
    simp [invoke, go_sem, eg]
  · refine (each1_in (n - 1) (by omega) (w.heap.size + 1) Bb w0.heap.size w0 rfl hB0
      (fun pre W => I pre W ∧ W.heap[w.heap.size + 1]? = some (.loop (rec .ready none)) ∧ W.heap[w.heap.size]? = some (.deferred (some [])))
      (fun pre W => ∃ c, Ix c pre W ∧ W.heap[w.heap.size + 1]? = some (.loop (rec .done (some c))) ∧ W.heap[w.heap.size]? = some (.deferred (some [])))
      ys ?_ ?_ ?_ K0 A0 c0 l0 hr0 hc0 he W1 hbox1 hb1 ⟨hI1, hL1, hK1⟩).mono ?_
    · rintro s A B ⟨hi, hl, hk⟩ hd
      refine ⟨hId _ _ _ hi hd, ?_, ?_⟩
      · obtain ⟨m, rfl⟩ := hd.out; exact hl
      · obtain ⟨m, rfl⟩ := hd.out; exact hk
    · rintro s A v ⟨hi, hl, hk⟩
      exact ⟨hIc _ _ _ hi, (Below.heap_setCell A ⟨Bb, 0, none⟩ v _ (by show _ ≠ Bb; omega)).trans hl, (Below.heap_setCell A ⟨Bb, 0, none⟩ v _ (by show _ ≠ Bb; omega)).trans hk⟩
    · rintro pre x W ⟨hi, hl, hk⟩ hlen
      have hlt : w.heap.size + 1 < W.heap.size := (Array.getElem?_eq_some_iff.1 hl).1
      have hy := run_yield (P := Try.prog) (args := #[.int .u64 x.1, .bool x.2]) hl (by rw [hrec]; exact hps.symm)
      rw [hrec] at hy
      refine ⟨fn, _, assign, body, hy, roundIn_of_wpIn hfn (hassign _ x W _ ⟨_, run_beginRound hl (by rw [hrec]), ?_⟩)⟩
      have hl2 : (W.putObj (w.heap.size + 1) (.loop { rec .ready none with state := .busy })).heap[w.heap.size + 1]? = some (.loop { rec .ready none with state := .busy }) := World.putObj_heap_same hlt
      have hk2 : (W.putObj (w.heap.size + 1) (.loop { rec .ready none with state := .busy })).heap[w.heap.size]? = some (.deferred (some [])) := (World.putObj_heap_other (by omega)).trans hk
      have hw2 := hKb W _ (.loop { rec .ready none with state := .busy }) _ (by omega) hl rfl rfl
      refine wpIn_mono (hbody _ pre x _ (hI.putObj _ hi (by omega) hl rfl) hlen) ?_
      have fin : ∀ (jump : Option Code) (W3 : World), KeepsFrom w.heap.size (W.putObj (w.heap.size + 1) (.loop { rec .ready none with state := .busy })) W3 →
          (Instr.endRound (w.heap.size + 1) jump).run Try.prog W3 = .ok (.bool jump.isNone) (W3.putObj (w.heap.size + 1) (.loop (rec (if jump.isNone then .ready else .done) jump))) ∧
          W3.heap[w.heap.size + 1]? = some (.loop { rec .ready none with state := .busy }) ∧
          (W3.putObj (w.heap.size + 1) (.loop (rec (if jump.isNone then .ready else .done) jump))).heap[w.heap.size + 1]? = some (.loop (rec (if jump.isNone then .ready else .done) jump)) ∧
          (W3.putObj (w.heap.size + 1) (.loop (rec (if jump.isNone then .ready else .done) jump))).heap[w.heap.size]? = some (.deferred (some [])) := fun jump W3 hk3 => by
        have hl3 := hk3.same _ _ (by omega) hl2 rfl
        have := run_endRound (P := Try.prog) jump hl3
        rw [hrec] at this ⊢
        exact ⟨this, by rw [hrec] at hl3; exact hl3, World.putObj_heap_same (Array.getElem?_eq_some_iff.1 hl3).1, (World.putObj_heap_other (by omega)).trans (hk3.same _ _ (Nat.le_refl _) hk2 rfl)⟩
      rintro e a3 W3 hp
      cases e with
      | normal =>
        obtain ⟨hk3, hkp3, hi3⟩ := hp
        obtain ⟨hr, hl3, hl4, hk4⟩ := fin none W3 hk3
        have hw4 := hKb W3 _ (.loop (rec .ready none)) _ (by omega) hl3 rfl rfl
        exact ⟨_, _, hr, .inl ⟨rfl, ⟨hI.putObj _ hi3 (by omega) hl3 rfl, hl4, hk4⟩, (hw2.1.trans hkp3.1).trans hw4.1, fun v hv => hw4.2 v (hkp3.2 v (hw2.2 v hv))⟩⟩
      | ret =>
        obtain ⟨hk3, hi3⟩ := hp
        obtain ⟨hr, hl3, hl4, hk4⟩ := fin (some .ret) W3 hk3
        exact ⟨_, _, hr, .inr ⟨rfl, .ret, (hIx _).putObj _ hi3 (by omega) hl3 rfl, hl4, hk4⟩⟩
      | exit id =>
        obtain ⟨hk3, hi3⟩ := hp
        obtain ⟨hr, hl3, hl4, hk4⟩ := fin (some (.exit id)) W3 hk3
        exact ⟨_, _, hr, .inr ⟨rfl, .exit id, (hIx _).putObj _ hi3 (by omega) hl3 rfl, hl4, hk4⟩⟩
      | goto t =>
        obtain ⟨hk3, hi3⟩ := hp
        obtain ⟨hr, hl3, hl4, hk4⟩ := fin (some (.goto t)) W3 hk3
        exact ⟨_, _, hr, .inr ⟨rfl, .goto t, (hIx _).putObj _ hi3 (by omega) hl3 rfl, hl4, hk4⟩⟩
      | panic ch => exact hp.elim
      | outgrown => exact hp.elim
    · rintro e W2 ⟨⟨v, rfl⟩, (⟨xs, rfl, hi, hl, hk⟩ | ⟨pre, hSp, c, hi, hl, hk⟩)⟩
      · exact ⟨none, _, by have := run_endLoop (P := Try.prog) hl (by rw [hrec]; simp); rw [hrec] at this; exact this, hdone _ _ (Nat.le_refl _) (hI.putObj _ hi (by omega) hl rfl) ((World.putObj_heap_other (by omega)).trans hk)⟩
      · exact ⟨some c, _, by have := run_endLoop (P := Try.prog) hl (by rw [hrec]; simp); rw [hrec] at this; exact this, hstop _ c pre _ (Nat.le_refl _) hSp ((hIx c).putObj _ hi (by omega) hl rfl) ((World.putObj_heap_other (by omega)).trans hk)⟩

theorem each_in (n : Nat) (A0 : Option Addr) (l c : Nat) (w : World) :
    CallsIn Fence.wide n Try.prog 22 #[.slice A0 l c] w fun e w' => e = .returned (.func (.func 23) #[] #[.pointer (some ⟨w.heap.size, 0, none⟩)]) ∧ w' = w.alloc (.cells #[.slice A0 l c] 23) := by
  refine callsIn_of_wp Try.func22 rfl trivial ?_ rfl
  simp only [Try.ntmps22, List.size_toArray, List.length_cons, List.length_nil, Nat.reduceAdd, Nat.reduceSub, Array.replicate_succ, Array.replicate_zero, List.push_toArray, List.append_toArray, List.nil_append, List.cons_append]
  gi_wp2
  go_ret
  exact ⟨rfl, rfl⟩
def vari_All.T9 : Bool × List (List Nat × List Nat) := (true, [([], []), ([], []), ([0, 0], [0]), ([1, 2, 0, 1, 2], [1])])
def Exit.noPanic_ (Q : Exit → Act → World → Prop) : Exit → Act → World → Prop
  | .panic _, _, _ => False
  | e, a, w => Q e a w
theorem Exit.of_noPanic_ (Q : Exit → Act → World → Prop) : ∀ e a w, Exit.noPanic_ Q e a w → Q e a w := by
  intro e a w h
  cases e <;> first | exact h | exact False.elim h
theorem vari_All.tab9 : rtab .any (opsOf Try.f13 9) = vari_All.T9 := by kernel_rfl
theorem vari_All.bits9 : waitsOk vari_All.T9.2 [0, 0, 1, 7] = true := by kernel_rfl
set_option maxHeartbeats 4000000 in
theorem vari_All.calls (k : Nat) (A0 : Option Addr) (c0 : Nat) (l0 : List Int) (r1 : List Int) (r2 : Bool) (w : World) (hr0 : Kd.C (Kd.int .u8) w A0 l0.length l0) (hc0 : l0.length ≤ c0) (h : vari_All.f k l0 = some (r1, r2)) :
    Calls Try.prog 13 #[.slice A0 l0.length c0] w fun e w' => ∃ v0_ : Value, e = .returned (.tuple #[v0_, .bool r2]) ∧ Kd.R (Kd.int .u64) 22 w' w.heap.size (fun _ => True) v0_ r1 ∧ Below w.heap.size w w' := by
  obtain ⟨ys, he, h⟩ := Option.bind_eq_some_iff.mp h
  by_cases hlen : ys.length < 17592186044416
  case neg => rw [if_neg hlen] at h; exact absurd h (by simp)
  rw [if_pos hlen] at h
  have HR := Option.some.inj h
  clear h
  obtain ⟨i0, hi, hz0, hz1, hz2⟩ := info_parts each_info22
  refine (callsIn_wide (n := 6)).1 ?_
  refine callsIn_of_wp_marks Try.func13 rfl trivial ?_ rfl
  simp only [Try.ntmps13, List.size_toArray, List.length_cons, List.length_nil, Nat.reduceAdd, Nat.reduceSub, Array.replicate_succ, Array.replicate_zero, List.push_toArray, List.append_toArray, List.nil_append, List.cons_append]
  gi_wp2_with (refine ⟨trivial, ?_⟩; gi_at_call 22; refine (each_in _ _ _ _ _).mono ?_; rintro e w' ⟨rfl, rfl⟩)
  rw [wpIn_wide]
  refine wp_scope_straight ?_
  rw [← wpIn_wide (n := 6)]
  gi_wp2_with (refine ⟨trivial, ?_⟩; gi_at_call 22; refine (each_in _ _ _ _ _).mono ?_; rintro e w' ⟨rfl, rfl⟩)
  refine wpIn_label ?_
  simp only [Exit.then]
  go_at_K
  gi_wp2_with (refine ⟨trivial, ?_⟩; gi_at_call 22; refine (each_in _ _ _ _ _).mono ?_; rintro e w' ⟨rfl, rfl⟩)
  have bO := ((Boxed.new w 27 (.slice none 0 0)).alloc (.cells #[.bool true] 4)).alloc (.cells #[.slice A0 l0.length c0] 23)
  have bF := (Boxed.new (w.alloc (.cells #[.slice none 0 0] 27)) 4 (.bool true)).alloc (.cells #[.slice A0 l0.length c0] 23)
  have bN := Boxed.new ((w.alloc (.cells #[.slice none 0 0] 27)).alloc (.cells #[.bool true] 4)) 23 (.slice A0 l0.length c0)
  simp only [World.size_alloc] at bF bN
  have HB0 : Below w.heap.size w (((w.alloc (.cells #[.slice none 0 0] 27)).alloc (.cells #[.bool true] 4)).alloc (.cells #[.slice A0 l0.length c0] 23)) := (((Below.refl _ w).alloc (Nat.le_refl _) _).alloc (by simp) _).alloc (by simp; omega) _
  refine all_range (w0 := w) (by omega) (by omega) (w.heap.size + 2) (by simp) (by omega) rfl rfl k A0 c0 l0 ys hr0 hc0 he bN HB0
    (fun pre W => (∃ v, Boxed W w.heap.size 27 v ∧ W.ownsRow w.heap.size 22 1 v pre.length (pre.map (fun x => Value.int .u64 x.1)) ∧ True) ∧ Boxed W (w.heap.size + 1) 4 (.bool true) ∧ (∃ u, Boxed W (w.heap.size + 2) 23 u) ∧ (∀ x ∈ pre, x.2 = true) ∧ Below w.heap.size w W)
    (fun c pre W => c = .exit 0 ∧ Boxed W w.heap.size 27 (.slice none 0 0) ∧ Boxed W (w.heap.size + 1) 4 (.bool false) ∧ (∃ x ∈ pre, x.2 = false) ∧ Below w.heap.size w W)
    ?hI ?hIx ?hId ?hIc ?h0
    (fun x => { tmps := #[.slice A0 l0.length c0, undef, .slice none 0 0, .bool false, .pointer (some ⟨w.heap.size, 0, none⟩), .pointer (some ⟨w.heap.size + 1, 0, none⟩), .int .u64 x.1, .bool x.2, .slice A0 l0.length c0, .func (.func 23) #[] #[.pointer (some ⟨w.heap.size + 2, 0, none⟩)], .int .u64 x.1, .bool x.2, undef, undef, undef, undef, undef, undef, undef, undef], defers := [] }) ?assign ?body ?done ?stop
  case hI =>
    refine OwnFrom.and (Own.from (holdsRow_own w.heap.size w.heap.size 27 22 1 (fun pre : List (Int × Bool) => pre.length) (fun pre => pre.map (fun x => Value.int .u64 x.1)) (fun _ _ => True)) _) (OwnFrom.and (Own.from (boxed_own _ _ _) _) (OwnFrom.and (Own.from ?_ _) (OwnFrom.and (ownFrom_pure _ _) (ownFrom_below (Nat.le_refl _) (by simp; omega)))))
    rintro s A B row ⟨u, hu⟩ hg hr
    exact ⟨u, boxed_own (w.heap.size + 2) 23 (fun _ : Unit => u) () A B row hu hg hr⟩
  case hIx =>
    intro c
    exact OwnFrom.and (ownFrom_pure _ _) (OwnFrom.and (Own.from (boxed_own _ _ _) _) (OwnFrom.and (Own.from (boxed_own _ _ _) _) (OwnFrom.and (ownFrom_pure _ _) (ownFrom_below (Nat.le_refl _) (by simp; omega)))))
  case hId =>
    rintro s A B ⟨⟨v, h1, h2, _⟩, h3, ⟨u, h4⟩, h5, h6⟩ hd
    exact ⟨⟨v, boxed_drawn h1 hd, own_move h2 (fun k _ => by obtain ⟨m, rfl⟩ := hd.out; rfl), trivial⟩, boxed_drawn h3 hd, ⟨u, boxed_drawn h4 hd⟩, h5, h6.trans (hd.below.mono h6.size)⟩
  case hIc =>
    rintro s A z ⟨⟨v, h1, h2, _⟩, h3, ⟨u, h4⟩, h5, h6⟩
    exact ⟨⟨v, h1.other (by omega) z, h2.kept (grownBy_setCell' A _ z) (.inr (h4.not_row (by decide) h2).symm), trivial⟩, h3.other (by omega) z, ⟨z, h4.set z⟩, h5, h6.setCell (p := ⟨w.heap.size + 2, 0, none⟩) (by show _ ≤ w.heap.size + 2; omega) z⟩
  case h0 => exact ⟨⟨_, bO, World.ownsRow_nil _ _ _ _, trivial⟩, bF, ⟨_, bN⟩, by simp, HB0⟩
  case assign =>
    intro l x W K hK
    gi_wp2
    exact hK
  case body =>
    rintro l pre ⟨x1, x2⟩ W ⟨⟨v, hv, hrow, _⟩, hF, ⟨u, hU⟩, hall, hB⟩ hlt
    have hml : pre.length + 1 ≤ maxLen := by simp only [maxLen]; omega
    have hc := hv.cell
    have hcf := hv.frozen
    have hc2 := hF.cell
    have hcf2 := hF.frozen
    cases x2 with
    | true =>
      gi_wp2_with (gi_at_builtin; refine wpListIn_append_own _ rfl _ _ 27 rfl w.heap.size 22 i0 (.int .u64 0) 1 8 Try.underlying27 hi hz0 hz1 hz2 rfl (by decide) _ _ _ rfl (hrow.alloc _) ⟨W.heap.size, 0, none⟩ 1 1 [.int .u64 x1] rfl rfl (cell_one_new _ _ _) (by simp [Value.oneCell']) hml (by omega) (by have := hB.size; simp; omega) ?_; intro v' w1 hown' hgrow _; obtain ⟨g', cap', rfl⟩ := ownsRow_succ hown'; obtain ⟨hv1, hv2, hr2, hk2, hb2⟩ := hv.appended (by decide) hrow hB.size (Nat.le_refl _) hown' hgrow; have hc1 := hv1.cell; have hf1 := hv1.frozen)
      have hF1 := (hF.alloc _).kept hgrow (hF.not_row (by decide) hrow)
      have hU1 := fun z (hz : Boxed W (w.heap.size + 2) 23 z) => (hz.alloc _).kept hgrow (hz.not_row (by decide) hrow)
      exact ⟨hk2.from _, ⟨hb2, fun z hz => (hU1 z hz).other (by omega) _⟩, ⟨_, hv2, by simpa using hr2, trivial⟩, hF1.other (by omega) _, ⟨u, (hU1 u hU).other (by omega) _⟩, fun y hy => (List.mem_append.mp hy).elim (hall y) (fun h => by rw [List.mem_singleton.mp h]), hB.trans hb2⟩
    | false =>
      have hF1 := hF.other (B' := w.heap.size) (by omega) (.slice none 0 0)
      have hc3 := hF1.cell
      have hcf3 := hF1.frozen
      gi_wp2
      exact ⟨((KeepsOthers.setCell _ _ _).trans (KeepsOthers.setCell _ _ _)).from _, rfl, (hv.set _).other (by omega) _, hF1.set _, ⟨(x1, false), by simp, rfl⟩, (hB.setCell (p := ⟨w.heap.size, 0, none⟩) (Nat.le_refl _) _).setCell (p := ⟨w.heap.size + 1, 0, none⟩) (by show _ ≤ w.heap.size + 1; omega) _⟩
  case done =>
    rintro D W hD ⟨⟨v, hv, hrow, _⟩, hF, ⟨u, hU⟩, hall, hB⟩ hK
    have hc := hv.cell
    have hc2 := hF.cell
    have hA : ys.all (fun x => x.2) = true := by simpa using hall
    rw [if_pos hA] at HR
    simp only [Prod.mk.injEq] at HR
    obtain ⟨rfl, rfl⟩ := HR
    gi_wp2
    refine wpIn_mono ?_ (Exit.of_noPanic_ _)
    rw [wpIn_wide]
    refine start_ (n := 4) (S := fun w' => w'.cell? ⟨w.heap.size, 0, none⟩ = some v ∧ w'.cell? ⟨w.heap.size + 1, 0, none⟩ = some (.bool true)) (ds := []) #[false, false, false, false] (by kernel_rfl) rfl rfl ⟨hc, hc2⟩ (fun hHeld => ?_)
    refine with_tabW vari_All.tab9 vari_All.bits9 (fun HT_ HW_ => ?_)
    refine take_ (i := 0) (N := some 18) (v := v) (a' := ?_) #[true, false, false, false] rfl rfl (take_ofW HT_.out HW_.out (by kernel_rfl)) (fun _ _ _ h => h) (Or.inl ⟨by rfl, ?_⟩) ⟨hc, hc2⟩ ?_ ?_
    · rintro w' ⟨hS1, hS2⟩
      go_simp
    rotate_left
    · simp only [Act.put, List.setIfInBounds_toArray, List.set_cons_zero, List.set_cons_succ]
      rfl
    refine take_ (i := 1) (N := some 19) (v := .bool true) (a' := ?_) #[true, true, false, false] rfl rfl (take_ofW HT_.out HW_.out (by kernel_rfl)) (fun _ _ _ h => h) (Or.inl ⟨by rfl, ?_⟩) ⟨hc, hc2⟩ ?_ ?_
    · rintro w' ⟨hS1, hS2⟩
      go_simp
    rotate_left
    · simp only [Act.put, List.setIfInBounds_toArray, List.set_cons_zero, List.set_cons_succ]
      rfl
    refine pure_ (i := 2) (N := some 2) (v := ?_) (a' := ?_) #[true, true, true, false] rfl rfl (any_of HT_.out (by kernel_rfl)) (fun _ _ _ h => h) (Or.inl ⟨by rfl, ?_⟩) ?_ ?_
    rotate_left
    · intro w'
      go_simp
      with_reducible rfl
    rotate_left
    · simp only [Act.put, List.setIfInBounds_toArray, List.set_cons_zero, List.set_cons_succ]
      rfl
    refine pure_ (i := 3) (N := some 3) (v := ?_) (a' := ?_) #[true, true, true, true] rfl rfl (any_of HT_.out (by kernel_rfl)) (fun _ _ _ h => h) (Or.inl ⟨by rfl, ?_⟩) ?_ ?_
    rotate_left
    · intro w'
      go_simp
      with_reducible rfl
    rotate_left
    · simp only [Act.put, List.setIfInBounds_toArray, List.set_cons_zero, List.set_cons_succ]
      rfl
    refine done_ (done_of HT_.out (by kernel_rfl)) ?_
    simp only [Exit.noPanic_, Exit.then]
    go_at_K
    gi_wp2
    simp only [Exit.noGoto]
    refine ⟨by simp, .inl ⟨_, _, rfl, run_takeDeferred (w := W.drew) hK, ?_⟩⟩
    have hBD : Below w.heap.size w (W.drew.putObj D (.deferred none)) := (below_drew1 hB).trans (belowK_b (w := w) (Nat.le_refl _) W.drew D _ _ (by simp at hD; omega) hK rfl rfl)
    exact ⟨_, results_tmp2 rfl _ _ _, v, rfl, Kd.R_of_own (by have h_ := ownsRow_putObj (W := W.drew) hrow (.deferred none) hK rfl; rw [List.length_map, show encs (Value.int .u64) (ys.map fun x => x.1) = ys.map fun x => Value.int .u64 x.1 from by simp [encs]]; exact h_) (fun _ _ => trivial), hBD⟩
  case stop =>
    rintro D c pre W hD hpre ⟨rfl, hv, hF, ⟨x, hx, hx2⟩, hB⟩ hK
    have hc := hv.cell
    have hc2 := hF.cell
    have hA : ¬ ys.all (fun x => x.2) = true := by
      intro h
      have := (List.all_eq_true.mp h) x (hpre.subset hx)
      rw [hx2] at this; exact absurd this (by simp)
    rw [if_neg hA] at HR
    simp only [Prod.mk.injEq] at HR
    obtain ⟨rfl, rfl⟩ := HR
    gi_wp2
    refine wpIn_mono ?_ (Exit.of_noPanic_ _)
    rw [wpIn_wide]
    refine start_ (n := 4) (S := fun w' => w'.cell? ⟨w.heap.size, 0, none⟩ = some (.slice none 0 0) ∧ w'.cell? ⟨w.heap.size + 1, 0, none⟩ = some (.bool false)) (ds := []) #[false, false, false, false] (by kernel_rfl) rfl rfl ⟨hc, hc2⟩ (fun hHeld => ?_)
    refine with_tabW vari_All.tab9 vari_All.bits9 (fun HT_ HW_ => ?_)
    refine take_ (i := 0) (N := some 18) (v := .slice none 0 0) (a' := ?_) #[true, false, false, false] rfl rfl (take_ofW HT_.out HW_.out (by kernel_rfl)) (fun _ _ _ h => h) (Or.inl ⟨by rfl, ?_⟩) ⟨hc, hc2⟩ ?_ ?_
    · rintro w' ⟨hS1, hS2⟩
      go_simp
    rotate_left
    · simp only [Act.put, List.setIfInBounds_toArray, List.set_cons_zero, List.set_cons_succ]
      rfl
    refine take_ (i := 1) (N := some 19) (v := .bool false) (a' := ?_) #[true, true, false, false] rfl rfl (take_ofW HT_.out HW_.out (by kernel_rfl)) (fun _ _ _ h => h) (Or.inl ⟨by rfl, ?_⟩) ⟨hc, hc2⟩ ?_ ?_
    · rintro w' ⟨hS1, hS2⟩
      go_simp
    rotate_left
    · simp only [Act.put, List.setIfInBounds_toArray, List.set_cons_zero, List.set_cons_succ]
      rfl
    refine pure_ (i := 2) (N := some 2) (v := ?_) (a' := ?_) #[true, true, true, false] rfl rfl (any_of HT_.out (by kernel_rfl)) (fun _ _ _ h => h) (Or.inl ⟨by rfl, ?_⟩) ?_ ?_
    rotate_left
    · intro w'
      go_simp
      with_reducible rfl
    rotate_left
    · simp only [Act.put, List.setIfInBounds_toArray, List.set_cons_zero, List.set_cons_succ]
      rfl
    refine pure_ (i := 3) (N := some 3) (v := ?_) (a' := ?_) #[true, true, true, true] rfl rfl (any_of HT_.out (by kernel_rfl)) (fun _ _ _ h => h) (Or.inl ⟨by rfl, ?_⟩) ?_ ?_
    rotate_left
    · intro w'
      go_simp
      with_reducible rfl
    rotate_left
    · simp only [Act.put, List.setIfInBounds_toArray, List.set_cons_zero, List.set_cons_succ]
      rfl
    refine done_ (done_of HT_.out (by kernel_rfl)) ?_
    simp only [Exit.noPanic_, Exit.then]
    go_at_K
    gi_wp2
    simp only [Exit.noGoto]
    refine ⟨by simp, .inl ⟨_, _, rfl, run_takeDeferred (w := W.drew) hK, ?_⟩⟩
    have hBD : Below w.heap.size w (W.drew.putObj D (.deferred none)) := (below_drew1 hB).trans (belowK_b (w := w) (Nat.le_refl _) W.drew D _ _ (by simp at hD; omega) hK rfl rfl)
    exact ⟨_, results_tmp2 rfl _ _ _, _, rfl, Kd.R_nil _ _ _ _ _, hBD⟩
end

end Go.Proofs.Ytflkjacmnoocfaa.PTl
