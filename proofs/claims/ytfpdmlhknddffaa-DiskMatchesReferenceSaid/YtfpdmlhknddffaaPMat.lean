/- Walks and laws of package disk: part of the proofs of the Disk statements. -/
import Derived.Test.YtfpdmlhknddffaaC2
import Derived.Test.YtfpdmlhknddffaaN2
namespace Go.Proofs.Ytfpdmlhknddffaa.Dk
open Go.RowKit Go.Proofs.YtfpdmlhknddffaaW.PrintWords Go.Proofs.YtfpdmlhknddffaaW.PrintLast Go.Proofs.YtfpdmlhknddffaaW.PrintMore
set_option linter.unusedVariables false

theorem new_f (a : Int) : ∃ l e, disk_New.f a = some (l, [], e) ∧ wageofficeref42_New.f a = some (l, [], e) ∧ l.length ≤ 65536 := by
  unfold disk_New.f wageofficeref42_New.f
  by_cases h1 : a < 0
  · exact ⟨[], 1, by rw [if_pos h1], by rw [if_pos h1], by simp⟩
  · by_cases h2 : a > 65536
    · exact ⟨[], 1, by rw [if_neg h1, if_pos h2], by rw [if_neg h1, if_pos h2], by simp⟩
    · refine ⟨List.replicate a.toNat 0, 0, ?_, ?_, by rw [List.length_replicate]; omega⟩
      · rw [if_neg h1, if_neg h2, if_pos (by omega), if_pos (by omega)]
      · rw [if_neg h1, if_neg h2, if_pos (by omega), if_pos (by omega)]

theorem read_same (l0 : List Int) (l1 : List S45) (a c : Int) : ∃ r e, disk_Read.f l0 l1 a c = some (r, e) ∧ wageofficeref42_Read.f l0 l1 a c = some (r, e) ∧ r = readL l0 l1 a c := ⟨_, _, rfl, rfl, rfl⟩

theorem bind_if {α : Type} (P : Nat → Option Bool) (X : Nat → Option α) {r : α} (hP : Ev P true) (hX : Ev X r) : Ev (fun k => (P k).bind fun t => if t = true then X k else none) r := by
  refine Ev.bind (f := fun k t => if t = true then X k else none) hP ?_
  exact Ev.congr (fun k => by rw [if_pos rfl]) hX

theorem matches_body (l0 : List Int) (l1 : List S45) (a : Int) (l2 : List Int) (c : Int) (ks : List Int) (h0 : l0.length ≤ 600) (h1 : l1.length ≤ 70) (h2 : ∀ x ∈ l1, x.f1.length ≤ 600) (hl2 : l2.length ≤ 600) (hk : ks.length ≤ 80) :
    Ev (fun k => wageofficelaw42_DiskMatchesReference.j0 k a l2 c ks true false l0 l1) true := by
  have hfine : Fine l0 l1 := ⟨by omega, by omega, fun x hx => by have := h2 x hx; omega⟩
  have hfit := fine_fit hfine
  obtain ⟨rb, re, hr1, hr2, hrb⟩ := read_same l0 l1 a c
  have hsyl : (syncL l0 l1).length ≤ 600 := by
    cases hv : validB l0 l1
    · simp [syncL, hv]
    · rw [sync_len _ _ hv]; exact h0
  have hcrl : (crashL l0 l1 ks).length ≤ 600 := by
    cases hv : validB l0 l1
    · simp [crashL, hv]
    · rw [crash_len _ _ _ hv]; exact h0
  have hrl : rb.length ≤ 600 := by
    rw [hrb]
    unfold readL
    split
    · rename_i hro
      have hv : validB l0 l1 = true := by
        unfold readOk at hro
        exact ((Bool.and_eq_true _ _).mp hro).1
      have hs := sync_len l0 l1 hv
      unfold syncL at hs
      rw [if_pos hv] at hs
      rw [List.length_drop, List.length_take]
      omega
    · simp
  obtain ⟨W0, W1, W2, hW, hWl, hWf⟩ : ∃ W0 W1 W2, writeF l0 l1 a l2 = (W0, W1, W2) ∧ W0.length ≤ 600 ∧ Fit W1 := by
    unfold writeF
    split
    · split
      · exact ⟨_, _, _, rfl, by simp, ⟨by simp, fun x hx => by simp at hx⟩⟩
      · refine ⟨_, _, _, rfl, h0, ⟨by simp; omega, fun x hx => ?_⟩⟩
        rcases List.mem_append.1 hx with hx | hx
        · have := h2 x hx; omega
        · simp at hx; subst hx; show l2.length ≤ _; omega
    · exact ⟨_, _, _, rfl, by simp, ⟨by simp, fun x hx => by simp at hx⟩⟩
  have hfn : Fit [] := ⟨by simp, fun x hx => by simp at hx⟩
  refine Ev.step (f := fun k => (wageofficeref42_Write.f k l0 l1 a l2).bind fun bt130 => if W2 = bt130.2.2 then (wageofficeref42_Same.f k W0 W1 bt130.1 bt130.2.1).bind fun t146 => (if t146 = true then ((wageofficeref42_Bytes.f k rb rb).bind fun t147 => (if t147 = true then (wageofficeref42_Sync.f k l0 l1).bind fun bt154 => ((wageofficeref42_Same.f k (syncL l0 l1) [] bt154.1 bt154.2).bind fun t160 => (if t160 = true then (wageofficeref42_Crash.f k l0 l1 ks).bind fun bt167 => ((wageofficeref42_Same.f k (crashL l0 l1 ks) [] bt167.1 bt167.2).bind fun t173 => (some t173)) else (none))) else (none))) else (none)) else none) (fun k => ?_) ?_
  · simp only [wageofficelaw42_DiskMatchesReference.j0, disk_Write.f, disk_Sync.f, disk_Crash.f, hr1, hr2, hW, Option.bind_some]
    rw [if_neg (by simp)]
    simp only [if_true]
  · refine Ev.bind (f := fun k (bt130 : List Int × List S45 × Int) => if W2 = bt130.2.2 then (wageofficeref42_Same.f k W0 W1 bt130.1 bt130.2.1).bind fun t146 => (if t146 = true then ((wageofficeref42_Bytes.f k rb rb).bind fun t147 => (if t147 = true then (wageofficeref42_Sync.f k l0 l1).bind fun bt154 => ((wageofficeref42_Same.f k (syncL l0 l1) [] bt154.1 bt154.2).bind fun t160 => (if t160 = true then (wageofficeref42_Crash.f k l0 l1 ks).bind fun bt167 => ((wageofficeref42_Same.f k (crashL l0 l1 ks) [] bt167.1 bt167.2).bind fun t173 => (some t173)) else (none))) else (none))) else (none)) else none) (ev_eq (write_ev l0 l1 a l2 hfine (by omega)) hW) ?_
    refine Ev.congr (f := fun k => (wageofficeref42_Same.f k W0 W1 W0 W1).bind fun t146 => (if t146 = true then ((wageofficeref42_Bytes.f k rb rb).bind fun t147 => (if t147 = true then (wageofficeref42_Sync.f k l0 l1).bind fun bt154 => ((wageofficeref42_Same.f k (syncL l0 l1) [] bt154.1 bt154.2).bind fun t160 => (if t160 = true then (wageofficeref42_Crash.f k l0 l1 ks).bind fun bt167 => ((wageofficeref42_Same.f k (crashL l0 l1 ks) [] bt167.1 bt167.2).bind fun t173 => (some t173)) else (none))) else (none))) else (none))) (fun k => by rw [if_pos rfl]) ?_
    refine bind_if (fun k => wageofficeref42_Same.f k W0 W1 W0 W1) (fun k => (wageofficeref42_Bytes.f k rb rb).bind fun t147 => (if t147 = true then (wageofficeref42_Sync.f k l0 l1).bind fun bt154 => ((wageofficeref42_Same.f k (syncL l0 l1) [] bt154.1 bt154.2).bind fun t160 => (if t160 = true then (wageofficeref42_Crash.f k l0 l1 ks).bind fun bt167 => ((wageofficeref42_Same.f k (crashL l0 l1 ks) [] bt167.1 bt167.2).bind fun t173 => (some t173)) else (none))) else (none))) (ev_eq (same_ev W0 W0 W1 W1 (by omega) hWf) (decide_eq_true ⟨rfl, rfl⟩)) ?_
    refine bind_if (fun k => wageofficeref42_Bytes.f k rb rb) (fun k => (wageofficeref42_Sync.f k l0 l1).bind fun bt154 => ((wageofficeref42_Same.f k (syncL l0 l1) [] bt154.1 bt154.2).bind fun t160 => (if t160 = true then (wageofficeref42_Crash.f k l0 l1 ks).bind fun bt167 => ((wageofficeref42_Same.f k (crashL l0 l1 ks) [] bt167.1 bt167.2).bind fun t173 => (some t173)) else (none)))) (ev_eq (bytes_ev rb rb (by omega)) (decide_eq_true rfl)) ?_
    refine Ev.bind (f := fun k (bt154 : List Int × List S45) => ((wageofficeref42_Same.f k (syncL l0 l1) [] bt154.1 bt154.2).bind fun t160 => (if t160 = true then (wageofficeref42_Crash.f k l0 l1 ks).bind fun bt167 => ((wageofficeref42_Same.f k (crashL l0 l1 ks) [] bt167.1 bt167.2).bind fun t173 => (some t173)) else (none)))) (sync_ev l0 l1 hfit (by omega)) ?_
    refine bind_if (fun k => wageofficeref42_Same.f k (syncL l0 l1) [] (syncL l0 l1) []) (fun k => (wageofficeref42_Crash.f k l0 l1 ks).bind fun bt167 => ((wageofficeref42_Same.f k (crashL l0 l1 ks) [] bt167.1 bt167.2).bind fun t173 => (some t173))) (ev_eq (same_ev _ _ [] [] (by omega) hfn) (decide_eq_true ⟨rfl, rfl⟩)) ?_
    refine Ev.bind (f := fun k (bt167 : List Int × List S45) => ((wageofficeref42_Same.f k (crashL l0 l1 ks) [] bt167.1 bt167.2).bind fun t173 => (some t173))) (crash_ev l0 l1 ks hfit (by omega) (by omega)) ?_
    exact Ev.bind (f := fun k t173 => some t173) (ev_eq (same_ev _ _ [] [] (by omega) hfn) (decide_eq_true ⟨rfl, rfl⟩)) (Ev.now true)

theorem matches_ev (s : Int) (l0 : List Int) (l1 : List S45) (a : Int) (l2 : List Int) (c : Int) (ks : List Int) (hf : Fit l1) : Ev (fun k => wageofficelaw42_DiskMatchesReference.f k s l0 l1 a l2 c ks) true := by
  obtain ⟨N, e, hN1, hN2, hNl⟩ := new_f s
  have hT : Ev (fun k => wageofficelaw42_DiskMatchesReference.j0 k a l2 c ks true true l0 l1) true := by
    refine Ev.step (f := fun _ => some true) (fun k => ?_) (Ev.now true)
    simp [wageofficelaw42_DiskMatchesReference.j0]
  refine Ev.congr (f := fun k => (wageofficeref42_Same.f k N [] N []).bind fun t120 => if t120 = true then ((wageofficeref42_Small.f k l0 l1 600).bind fun t121 => (if t121 = true then (if (l2.length : Int) > 600 then (wageofficelaw42_DiskMatchesReference.j0 k a l2 c ks true true l0 l1) else (wageofficelaw42_DiskMatchesReference.j0 k a l2 c ks true (decide ((ks.length : Int) > 80)) l0 l1)) else (wageofficelaw42_DiskMatchesReference.j0 k a l2 c ks true true l0 l1))) else none) (fun k => ?_) ?_
  · unfold wageofficelaw42_DiskMatchesReference.f wageofficelaw42_head.f
    rw [hN1, hN2]
    simp only [Option.bind_some, if_true]
  · refine bind_if (fun k => wageofficeref42_Same.f k N [] N []) (fun k => (wageofficeref42_Small.f k l0 l1 600).bind fun t121 => (if t121 = true then (if (l2.length : Int) > 600 then (wageofficelaw42_DiskMatchesReference.j0 k a l2 c ks true true l0 l1) else (wageofficelaw42_DiskMatchesReference.j0 k a l2 c ks true (decide ((ks.length : Int) > 80)) l0 l1)) else (wageofficelaw42_DiskMatchesReference.j0 k a l2 c ks true true l0 l1))) (ev_eq (same_ev _ _ [] [] (by omega) ⟨by simp, fun x hx => by simp at hx⟩) (decide_eq_true ⟨rfl, rfl⟩)) ?_
    refine small_start (g := fun k t121 => (if t121 = true then (if (l2.length : Int) > 600 then (wageofficelaw42_DiskMatchesReference.j0 k a l2 c ks true true l0 l1) else (wageofficelaw42_DiskMatchesReference.j0 k a l2 c ks true (decide ((ks.length : Int) > 80)) l0 l1)) else (wageofficelaw42_DiskMatchesReference.j0 k a l2 c ks true true l0 l1))) l0 l1 hf (fun _ => ?_) (fun hs => ?_)
    · exact Ev.congr (fun k => by rw [if_neg (by simp)]) hT
    · obtain ⟨hs0, hs1, hs2⟩ := small_true hs
      by_cases h2 : (l2.length : Int) > 600
      · exact Ev.congr (fun k => by rw [if_pos rfl, if_pos h2]) hT
      · refine Ev.congr (f := fun k => wageofficelaw42_DiskMatchesReference.j0 k a l2 c ks true (decide ((ks.length : Int) > 80)) l0 l1) (fun k => by rw [if_pos rfl, if_neg h2]) ?_
        by_cases h8 : (ks.length : Int) > 80
        · rw [decide_eq_true h8]; exact hT
        · rw [decide_eq_false h8]
          exact matches_body l0 l1 a l2 c ks hs0 hs1 hs2 (by omega) (by omega)
end Go.Proofs.Ytfpdmlhknddffaa.Dk
