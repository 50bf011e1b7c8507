import Derived.Test.YtjihemgadbpebaaTlFrame
import Derived.Test.YtjihemgadbpebaaPTlx10
namespace Go.Proofs.Ytjihemgadbpebaa.TlFrame
open Go.RowKit Go.Proofs.Ytjihemgadbpebaa.PTl Go.Proofs.YtjihemgadbpebaaW.PrintWords Go.Proofs.YtjihemgadbpebaaW.PrintLast Go.Proofs.Ytjihemgadbpebaa.TlBits32 Go.Proofs.Ytjihemgadbpebaa.TlCrc
/-! The laws' own example. -/
theorem awake : ∃ m, ∀ k, m ≤ k → foliatelaw03_awake.f k = some true := by
  have hb7 : Bytes (frameB 7 []) := frame_bytes (by decide) (by decide) (by decide) (fun x hx => by cases hx)
  have hl : (frameB 7 []).length = 10 := frameB_length 7 []
  have h1 : Bytes (frameB 7 [] ++ [1]) := hb7.append (fun x hx => by simp only [List.mem_cons, List.not_mem_nil, or_false] at hx; subst hx; decide)
  refine ⟨60, fun k hk => ?_⟩
  unfold foliatelaw03_awake.f
  rw [put_ok k (by omega) 7 [] (by decide) (by decide) (by decide), obind]
  simp only [List.nil_append, List.length_nil, Nat.zero_add, hl, obind]
  rw [if_pos (by decide), if_pos (by decide), get_eq k (by omega) _ h1 (by rw [List.length_append, hl]; decide), obind, if_pos (by decide), allf_eq k _ (hb7.append hb7) (by rw [List.length_append, hl]; decide) (by rw [List.length_append, hl]; omega), obind]
  have g := get_frame 7 [] [1] (by decide) (by decide) (by decide)
  have al : allL (frameB 7 [] ++ frameB 7 []) = ([⟨7, []⟩, ⟨7, []⟩], 0) := by
    have e1 : allL (frameB 7 []) = ([⟨7, []⟩], 0) := by
      have := allL_frame (a := 7) (b := []) (r := []) (by decide) (by decide) (by decide) (fun x hx => by cases hx) (fun x hx => by cases hx)
      rw [List.append_nil, allL_nil] at this
      exact this
    rw [allL_frame (by decide) (by decide) (by decide) (fun x hx => by cases hx) hb7, e1]
    rfl
  rw [g, al]
  have r0 : rd (frameB 7 []) 0 = 7 := rfl
  rw [r0]
  have e1 : ((10 : Nat) : Int) = 10 := rfl
  simp only [e1, if_true, List.length_cons, List.length_nil]
  rw [same_eq k _ _ _ _ (by decide) (by simp; omega)]
  rfl
end Go.Proofs.Ytjihemgadbpebaa.TlFrame
