/- Walks and laws of package disk: part of the proofs of the Disk statements. -/
import Derived.Test.YtfpdmlhknddffaaC2
import Derived.Test.YtfpdmlhknddffaaM2
namespace Go.Proofs.Ytfpdmlhknddffaa.Dk
open Go.RowKit Go.Proofs.YtfpdmlhknddffaaW.PrintWords Go.Proofs.YtfpdmlhknddffaaW.PrintLast Go.Proofs.YtfpdmlhknddffaaW.PrintMore
set_option linter.unusedVariables false

theorem valid_bare (S : List Int) (h : S.length ≤ 65536) : validB S [] = true := (validB_iff _ _).2 ⟨h, by simp, fun x hx => by simp at hx⟩
theorem sync_bare (S : List Int) (h : S.length ≤ 65536) : syncL S [] = S := by
  unfold syncL applyL
  rw [if_pos (valid_bare S h)]
  rfl
theorem crash_bare (S : List Int) (ks : List Int) (h : S.length ≤ 65536) : crashL S [] ks = S := by
  unfold crashL applyL
  rw [if_pos (valid_bare S h)]
  rfl
theorem fit_nil : Fit [] := ⟨by simp, fun x hx => by simp at hx⟩

theorem ev_if {g : Nat → Bool → Option Bool} {P : Nat → Option Bool} {b : Bool} (hb : Ev P b) (e : b = true) (h : Ev (fun k => g k true) true) : Ev (fun k => (P k).bind (g k)) true := by
  subst e
  exact Ev.bind (f := g) hb h

theorem syncing_body (S : List Int) (h : S.length ≤ 65536) : Ev (fun k => (wageofficeref42_Bytes.f k S S).bind fun t119 => (if t119 = true then ((wageofficeref42_Bytes.f k S S).bind fun t123 => (if t123 = true then ((wageofficeref42_Same.f k S [] S []).bind fun t130 => (if t130 = true then ((wageofficeref42_Same.f k S [] S []).bind fun t137 => (some t137)) else (none))) else (none))) else (none))) true := by
  have hb : Ev (fun k => wageofficeref42_Bytes.f k S S) true := ev_eq (bytes_ev S S (by omega)) (decide_eq_true rfl)
  have hs : Ev (fun k => wageofficeref42_Same.f k S [] S []) true := ev_eq (same_ev S S [] [] (by omega) fit_nil) (decide_eq_true ⟨rfl, rfl⟩)
  refine ev_if (g := fun k t119 => (if t119 = true then ((wageofficeref42_Bytes.f k S S).bind fun t123 => (if t123 = true then ((wageofficeref42_Same.f k S [] S []).bind fun t130 => (if t130 = true then ((wageofficeref42_Same.f k S [] S []).bind fun t137 => (some t137)) else (none))) else (none))) else (none))) hb rfl ?_
  refine Ev.congr (f := fun k => (wageofficeref42_Bytes.f k S S).bind fun t123 => (if t123 = true then ((wageofficeref42_Same.f k S [] S []).bind fun t130 => (if t130 = true then ((wageofficeref42_Same.f k S [] S []).bind fun t137 => (some t137)) else (none))) else (none))) (fun k => by rw [if_pos rfl]) ?_
  refine ev_if (g := fun k t123 => (if t123 = true then ((wageofficeref42_Same.f k S [] S []).bind fun t130 => (if t130 = true then ((wageofficeref42_Same.f k S [] S []).bind fun t137 => (some t137)) else (none))) else (none))) hb rfl ?_
  refine Ev.congr (f := fun k => (wageofficeref42_Same.f k S [] S []).bind fun t130 => (if t130 = true then ((wageofficeref42_Same.f k S [] S []).bind fun t137 => (some t137)) else (none))) (fun k => by rw [if_pos rfl]) ?_
  refine ev_if (g := fun k t130 => (if t130 = true then ((wageofficeref42_Same.f k S [] S []).bind fun t137 => (some t137)) else (none))) hs rfl ?_
  refine Ev.congr (f := fun k => (wageofficeref42_Same.f k S [] S []).bind fun t137 => (some t137)) (fun k => by rw [if_pos rfl]) ?_
  exact Ev.bind (f := fun k t137 => some t137) hs (Ev.now true)

theorem syncing_ev (l0 : List Int) (l1 : List S45) (ks : List Int) (hf : Fit l1) : Ev (fun k => wageofficelaw42_DiskSyncing.f k l0 l1 ks) true := by
  refine Ev.congr (f := fun k => (wageofficeref42_Small.f k l0 l1 600).bind fun t => if t = true then ((wageofficeref42_Valid.f k l0 l1).bind fun t239 => if t239 = true then (wageofficelaw42_DiskSyncing.j0 k ks true (decide ((ks.length : Int) > 80)) l0 l1) else wageofficelaw42_DiskSyncing.j0 k ks true true l0 l1) else wageofficelaw42_DiskSyncing.j0 k ks true true l0 l1) (fun k => rfl) ?_
  have hT : Ev (fun k => wageofficelaw42_DiskSyncing.j0 k ks true true l0 l1) true := by
    refine Ev.step (f := fun _ => some true) (fun k => ?_) (Ev.now true)
    simp [wageofficelaw42_DiskSyncing.j0]
  refine small_start (g := fun k t => if t = true then ((wageofficeref42_Valid.f k l0 l1).bind fun t239 => if t239 = true then (wageofficelaw42_DiskSyncing.j0 k ks true (decide ((ks.length : Int) > 80)) l0 l1) else wageofficelaw42_DiskSyncing.j0 k ks true true l0 l1) else wageofficelaw42_DiskSyncing.j0 k ks true true l0 l1) l0 l1 hf (fun _ => ?_) (fun hs => ?_)
  · exact Ev.congr (fun k => by rw [if_neg (by simp)]) hT
  · obtain ⟨hs0, hs1, hs2⟩ := small_true hs
    refine Ev.congr (f := fun k => (wageofficeref42_Valid.f k l0 l1).bind fun t239 => if t239 = true then (wageofficelaw42_DiskSyncing.j0 k ks true (decide ((ks.length : Int) > 80)) l0 l1) else wageofficelaw42_DiskSyncing.j0 k ks true true l0 l1) (fun k => by rw [if_pos rfl]) ?_
    refine Ev.bind (f := fun k t239 => if t239 = true then (wageofficelaw42_DiskSyncing.j0 k ks true (decide ((ks.length : Int) > 80)) l0 l1) else wageofficelaw42_DiskSyncing.j0 k ks true true l0 l1) (valid_ev l0 l1 hf) ?_
    cases hv : validB l0 l1
    · exact Ev.congr (fun k => by rw [if_neg (by simp)]) hT
    · refine Ev.congr (f := fun k => wageofficelaw42_DiskSyncing.j0 k ks true (decide ((ks.length : Int) > 80)) l0 l1) (fun k => by rw [if_pos rfl]) ?_
      by_cases h8 : (ks.length : Int) > 80
      · rw [decide_eq_true h8]; exact hT
      · rw [decide_eq_false h8]
        have hlen := sync_len l0 l1 hv
        have hS : (syncL l0 l1).length ≤ 65536 := by omega
        refine Ev.step (f := fun k => (wageofficeref42_Bytes.f k (syncL l0 l1) (syncL l0 l1)).bind fun t119 => (if t119 = true then ((wageofficeref42_Bytes.f k (syncL l0 l1) (syncL l0 l1)).bind fun t123 => (if t123 = true then ((wageofficeref42_Same.f k (syncL l0 l1) [] (syncL l0 l1) []).bind fun t130 => (if t130 = true then ((wageofficeref42_Same.f k (syncL l0 l1) [] (syncL l0 l1) []).bind fun t137 => (some t137)) else (none))) else (none))) else (none))) (fun k => ?_) (syncing_body _ hS)
        simp only [wageofficelaw42_DiskSyncing.j0, disk_Sync.f, disk_Crash.f, Option.bind_some]
        rw [if_neg (by simp), if_pos trivial, if_pos (by simp), all_f _ _ hv, all_f _ _ (valid_bare _ hS), sync_bare _ hS, crash_bare _ ks hS]
        rfl
end Go.Proofs.Ytfpdmlhknddffaa.Dk
