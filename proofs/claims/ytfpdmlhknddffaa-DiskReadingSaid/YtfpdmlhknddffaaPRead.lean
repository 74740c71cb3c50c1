/- Walks and laws of package disk: part of the proofs of the Disk statements. -/
import Derived.Test.YtfpdmlhknddffaaC1
import Derived.Test.YtfpdmlhknddffaaL2
namespace Go.Proofs.Ytfpdmlhknddffaa.Dk
open Go.RowKit Go.Proofs.YtfpdmlhknddffaaW.PrintWords Go.Proofs.YtfpdmlhknddffaaW.PrintLast Go.Proofs.YtfpdmlhknddffaaW.PrintMore
set_option linter.unusedVariables false

theorem reading_loop (a : Nat) (l2 s : List Int) (h : a + l2.length ≤ s.length) (hs : s.length ≤ 600) : Ev (fun k => wageofficelaw42_DiskReading.l0 k (a : Int) l2 true s (splice s a l2) 0) true := by
  have hl : (splice s a l2).length = s.length := splice_length _ _ _ h
  have key := ev_down (n := s.length) (g := fun i k => wageofficelaw42_DiskReading.l0 k (a : Int) l2 true s (splice s a l2) (i : Int)) (r := fun _ => true)
    (by
      refine Ev.step (f := fun _ => some true) (fun k => ?_) (Ev.now true)
      simp only [wageofficelaw42_DiskReading.l0]
      rw [if_neg (by omega)])
    (by
      intro i hi ih
      have hlt : ((i : Int) < (s.length : Int)) := by omega
      have hw : wrap64 ((a : Int) + (l2.length : Int)) = ((a + l2.length : Nat) : Int) := by unfold wrap64; omega
      have hi1 : wrap64 ((i : Int) + 1) = ((i + 1 : Nat) : Int) := wrap_succ (n := s.length) hi (by omega)
      have hrs : rd (splice s a l2) (i : Int) = (splice s a l2)[i]'(by omega) := rd_nat (by omega)
      have hget := splice_get s a l2 h i
      rw [List.getElem?_eq_getElem (by omega : i < (splice s a l2).length)] at hget
      refine Ev.step (f := fun k => wageofficelaw42_DiskReading.j3 k (a : Int) l2 true s (splice s a l2) (i : Int) (rd s (i : Int)) (decide (a ≤ i ∧ i < a + l2.length))) (fun k => ?_) ?_
      · simp only [wageofficelaw42_DiskReading.l0]
        rw [if_pos hlt, if_pos (by omega), hw]
        by_cases hai : a ≤ i
        · rw [if_pos (by omega)]
          congr 1
          simp only [hai, true_and]
          refine decide_eq_decide.2 ?_
          omega
        · rw [if_neg (by omega)]
          congr 1
          simp [hai]
      · by_cases hin : a ≤ i ∧ i < a + l2.length
        · rw [decide_eq_true hin]
          rw [if_neg (by omega), if_pos hin.2] at hget
          have hj : i - a < l2.length := by omega
          rw [List.getElem?_eq_getElem hj] at hget
          injection hget with hget
          have hw2 : wrap64 ((i : Int) - (a : Int)) = ((i - a : Nat) : Int) := by unfold wrap64; omega
          refine Ev.step (f := fun k => wageofficelaw42_DiskReading.l0 k (a : Int) l2 true s (splice s a l2) ((i + 1 : Nat) : Int)) (fun k => ?_) ih
          simp only [wageofficelaw42_DiskReading.j3]
          rw [hw2, if_pos trivial, if_pos (by omega), if_pos (by omega), if_pos (by omega), if_pos (by omega), hrs, rd_nat hj, if_pos hget, hi1]
        · rw [decide_eq_false hin]
          have hs2 : (splice s a l2)[i]'(by omega) = s[i] := by
            have e : (if i < a then s[i]? else if i < a + l2.length then l2[i - a]? else s[i]?) = s[i]? := by
              by_cases h1 : i < a
              · rw [if_pos h1]
              · rw [if_neg h1, if_neg (by omega)]
            rw [e, List.getElem?_eq_getElem hi] at hget
            injection hget
          refine Ev.step (f := fun k => wageofficelaw42_DiskReading.l0 k (a : Int) l2 true s (splice s a l2) ((i + 1 : Nat) : Int)) (fun k => ?_) ih
          simp only [wageofficelaw42_DiskReading.j3]
          rw [if_neg (by simp), if_pos (by omega), if_pos (by omega), hrs, rd_nat hi, if_pos hs2, hi1])
  exact key 0 (by omega)

theorem reading_ev (l0 : List Int) (l1 : List S45) (a : Int) (l2 : List Int) (hf : Fit l1) : Ev (fun k => wageofficelaw42_DiskReading.f k l0 l1 a l2) true := by
  refine Ev.congr (f := fun k => (wageofficeref42_Small.f k l0 l1 600).bind fun t => if t = true then wageofficelaw42_DiskReading.j0 k a l2 true (decide ((l2.length : Int) > 600)) l0 l1 else wageofficelaw42_DiskReading.j0 k a l2 true true l0 l1) (fun k => rfl) ?_
  refine small_start (g := fun k t => if t = true then wageofficelaw42_DiskReading.j0 k a l2 true (decide ((l2.length : Int) > 600)) l0 l1 else wageofficelaw42_DiskReading.j0 k a l2 true true l0 l1) l0 l1 hf (fun _ => ?_) (fun hs => ?_)
  · refine Ev.step (f := fun _ => some true) (fun k => ?_) (Ev.now true)
    rw [if_neg (by simp)]
    simp [wageofficelaw42_DiskReading.j0]
  · obtain ⟨hs0, hs1, hs2⟩ := small_true hs
    refine Ev.congr (f := fun k => wageofficelaw42_DiskReading.j0 k a l2 true (decide ((l2.length : Int) > 600)) l0 l1) (fun k => by rw [if_pos rfl]) ?_
    by_cases h2 : (l2.length : Int) > 600
    · refine Ev.step (f := fun _ => some true) (fun k => ?_) (Ev.now true)
      simp [wageofficelaw42_DiskReading.j0, h2]
    · rw [decide_eq_false h2]
      by_cases hw : (writeF l0 l1 a l2).2.2 = 0
      · have hvp : (validB l0 l1 && isPartB l0.length a l2.length) = true := by
          cases hb : (validB l0 l1 && isPartB l0.length a l2.length)
          · simp [writeF, hb] at hw
          · rfl
        have h64 : l1.length ≠ 64 := by
          intro e
          simp [writeF, hvp, e] at hw
        obtain ⟨hv, hp⟩ := (Bool.and_eq_true _ _).mp hvp
        have hv2 := valid_snoc l0 l1 a l2 hv hp h64
        obtain ⟨p1, p2, p3, p4⟩ := (isPartB_iff _ _ _).1 hp
        have hW : writeF l0 l1 a l2 = (l0, l1 ++ [⟨a, l2⟩], 0) := by
          unfold writeF
          rw [if_pos hvp, if_neg h64]
        obtain ⟨n, rfl⟩ : ∃ n : Nat, a = (n : Int) := ⟨a.toNat, by omega⟩
        have hlen := sync_len l0 l1 hv
        have hlen2 := sync_len l0 _ hv2
        have hsn := sync_snoc l0 l1 (n : Int) l2 hv hv2
        have hwr : wrap64 ((n : Int) + (l2.length : Int)) = ((n + l2.length : Nat) : Int) := by unfold wrap64; omega
        refine Ev.step (f := fun k => wageofficelaw42_DiskReading.j1 k (n : Int) l2 true (syncL l0 l1) (splice (syncL l0 l1) n l2) false) (fun k => ?_) ?_
        · simp only [wageofficelaw42_DiskReading.j0, disk_Write.f]
          rw [if_neg (by simp), hW]
          simp only [Option.bind_some]
          rw [if_pos trivial, all_f _ _ hv, all_f _ _ hv2]
          simp only [Option.bind_some]
          rw [if_pos (by omega), if_pos (by omega), if_neg (by omega), hwr, hsn]
          congr 1
          exact decide_eq_false (by omega)
        · refine Ev.step (f := fun k => wageofficelaw42_DiskReading.l0 k (n : Int) l2 true (syncL l0 l1) (splice (syncL l0 l1) n l2) 0) (fun k => ?_) (reading_loop n l2 _ (by omega) (by omega))
          simp [wageofficelaw42_DiskReading.j1]
      · refine Ev.step (f := fun _ => some true) (fun k => ?_) (Ev.now true)
        simp only [wageofficelaw42_DiskReading.j0, disk_Write.f]
        rw [if_neg (by simp)]
        simp only [Option.bind_some]
        rw [if_neg hw]
end Go.Proofs.Ytfpdmlhknddffaa.Dk
