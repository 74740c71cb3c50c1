/- Walks and laws of package disk: part of the proofs of the Disk statements. -/
import Derived.Test.YtfpdmlhknddffaaC2
import Derived.Test.YtfpdmlhknddffaaL4
namespace Go.Proofs.Ytfpdmlhknddffaa.Dk
open Go.RowKit Go.Proofs.YtfpdmlhknddffaaW.PrintWords Go.Proofs.YtfpdmlhknddffaaW.PrintLast Go.Proofs.YtfpdmlhknddffaaW.PrintMore
set_option linter.unusedVariables false

theorem extremes_loop (l0 : List Int) (l1 : List S45) (hv : validB l0 l1 = true) (h0 : l0.length ≤ 600) (h1 : l1.length ≤ 70) (h2 : ∀ x ∈ l1, x.f1.length ≤ 600) : Ev (fun k => wageofficelaw42_DiskExtremes.l0 k true [] 0 l0 l1) true := by
  have key := ev_down (n := l1.length) (g := fun i k => wageofficelaw42_DiskExtremes.l0 k true (List.replicate i 601) (i : Int) l0 l1) (r := fun _ => true)
    (by
      have hcf : crashL l0 l1 (List.replicate l1.length 601) = syncL l0 l1 := crash_full l0 l1 600 h2
      have hcn := crash_nil l0 l1 hv
      have hsl := sync_len l0 l1 hv
      refine Ev.step (f := fun k => (wageofficeref42_Same.f k (syncL l0 l1) [] (syncL l0 l1) []).bind fun t262 => (if t262 = true then ((wageofficeref42_Bytes.f k l0 l0).bind fun t263 => (if t263 = true then some true else (some false))) else (some false))) (fun k => ?_) ?_
      · simp only [wageofficelaw42_DiskExtremes.l0]
        rw [if_neg (by omega)]
        simp only [disk_Crash.f, disk_Sync.f, Option.bind_some, hcf, hcn]
        rw [if_pos trivial]
        rfl
      · refine Ev.bind (f := fun k t262 => (if t262 = true then ((wageofficeref42_Bytes.f k l0 l0).bind fun t263 => (if t263 = true then some true else (some false))) else (some false))) (ev_eq (same_ev _ _ [] [] (by omega) ⟨by simp, fun x hx => by simp at hx⟩) (decide_eq_true ⟨rfl, rfl⟩)) ?_
        refine Ev.congr (f := fun k => ((wageofficeref42_Bytes.f k l0 l0).bind fun t263 => (if t263 = true then some true else (some false)))) (fun k => by rw [if_pos rfl]) ?_
        exact Ev.bind (f := fun k t263 => (if t263 = true then some true else (some false))) (ev_eq (bytes_ev l0 l0 (by omega)) (decide_eq_true rfl)) (Ev.now true))
    (by
      intro i hi ih
      have hi1 : wrap64 ((i : Int) + 1) = ((i + 1 : Nat) : Int) := wrap_succ (n := l1.length) hi (by omega)
      refine Ev.step (f := fun k => wageofficelaw42_DiskExtremes.l0 k true (List.replicate (i + 1) 601) ((i + 1 : Nat) : Int) l0 l1) (fun k => ?_) ih
      simp only [wageofficelaw42_DiskExtremes.l0]
      rw [if_pos (by omega), if_pos (by rw [List.length_replicate]; omega), hi1, List.replicate_succ'])
  exact key 0 (by omega)

theorem extremes_ev (l0 : List Int) (l1 : List S45) (hf : Fit l1) : Ev (fun k => wageofficelaw42_DiskExtremes.f k l0 l1) true := by
  refine Ev.congr (f := fun k => (wageofficeref42_Small.f k l0 l1 600).bind fun t => if t = true then ((wageofficeref42_Valid.f k l0 l1).bind fun t239 => (wageofficelaw42_DiskExtremes.j0 k true (!t239) l0 l1)) else wageofficelaw42_DiskExtremes.j0 k true true l0 l1) (fun k => rfl) ?_
  refine small_start (g := fun k t => if t = true then ((wageofficeref42_Valid.f k l0 l1).bind fun t239 => (wageofficelaw42_DiskExtremes.j0 k true (!t239) l0 l1)) else wageofficelaw42_DiskExtremes.j0 k true true l0 l1) l0 l1 hf (fun _ => ?_) (fun hs => ?_)
  · refine Ev.step (f := fun _ => some true) (fun k => ?_) (Ev.now true)
    rw [if_neg (by simp)]
    simp [wageofficelaw42_DiskExtremes.j0]
  · obtain ⟨hs0, hs1, hs2⟩ := small_true hs
    refine Ev.congr (f := fun k => (wageofficeref42_Valid.f k l0 l1).bind fun t239 => (wageofficelaw42_DiskExtremes.j0 k true (!t239) l0 l1)) (fun k => by rw [if_pos rfl]) ?_
    refine Ev.bind (f := fun k t239 => wageofficelaw42_DiskExtremes.j0 k true (!t239) l0 l1) (valid_ev l0 l1 hf) ?_
    cases hv : validB l0 l1
    · refine Ev.step (f := fun _ => some true) (fun k => ?_) (Ev.now true)
      simp [wageofficelaw42_DiskExtremes.j0]
    · refine Ev.step (f := fun k => wageofficelaw42_DiskExtremes.l0 k true [] 0 l0 l1) (fun k => ?_) (extremes_loop l0 l1 hv hs0 hs1 hs2)
      simp [wageofficelaw42_DiskExtremes.j0]
end Go.Proofs.Ytfpdmlhknddffaa.Dk
