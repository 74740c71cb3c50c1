/- Walks and laws of package disk: part of the proofs of the Disk statements. -/
import Derived.Test.YtfpdmlhknddffaaC2
import Derived.Test.YtfpdmlhknddffaaL5
import Derived.OpenShut
namespace Go.Proofs.Ytfpdmlhknddffaa.Dk
open Go.RowKit Go.Proofs.YtfpdmlhknddffaaW.PrintWords Go.Proofs.YtfpdmlhknddffaaW.PrintLast Go.Proofs.YtfpdmlhknddffaaW.PrintMore
set_option linter.unusedVariables false

theorem prefixes_loop (m : Nat) (l0 : List Int) (l1 : List S45) (hm : m ≤ l1.length) (hv : validB l0 l1 = true) (h0 : l0.length ≤ 600) (h1 : l1.length ≤ 70) : Ev (fun k => wageofficelaw42_DiskPrefixes.l0 k true (m : Int) [] 0 l0 l1) true := by
  have hll : (lens l1).length = l1.length := by unfold lens; simp
  have key := ev_down (n := m) (g := fun i k => wageofficelaw42_DiskPrefixes.l0 k true (m : Int) ((lens l1).take i) (i : Int) l0 l1) (r := fun _ => true)
    (by
      have hcp := crash_prefix l0 l1 m hm hv
      have hsl := sync_len l0 _ (valid_take l0 l1 m hv)
      refine Ev.step (f := fun k => (wageofficeref42_Same.f k (syncL l0 (l1.take m)) [] (syncL l0 (l1.take m)) []).bind fun t288 => some t288) (fun k => ?_) ?_
      · simp only [wageofficelaw42_DiskPrefixes.l0]
        rw [if_neg (by omega)]
        simp only [disk_Crash.f, disk_Sync.f, Option.bind_some, hcp, Int.toNat_natCast]
        rw [if_pos trivial, if_pos (by omega), if_pos (by omega)]
      · exact Ev.bind (f := fun k t288 => some t288) (ev_eq (same_ev _ _ [] [] (by omega) ⟨by simp, fun x hx => by simp at hx⟩) (decide_eq_true ⟨rfl, rfl⟩)) (Ev.now true))
    (by
      intro i hi ih
      have hi1 : wrap64 ((i : Int) + 1) = ((i + 1 : Nat) : Int) := wrap_succ (n := m) hi (by omega)
      have hil : i < l1.length := by omega
      refine Ev.step (f := fun k => wageofficelaw42_DiskPrefixes.l0 k true (m : Int) ((lens l1).take (i + 1)) ((i + 1 : Nat) : Int) l0 l1) (fun k => ?_) ih
      have e : (lens l1).take i ++ [((rd_T45 l1 (i : Int)).f1.length : Int)] = (lens l1).take (i + 1) := by
        have hg : (lens l1)[i]? = some ((rd_T45 l1 (i : Int)).f1.length : Int) := by
          rw [rd45_nat hil]
          unfold lens
          rw [List.getElem?_map, List.getElem?_eq_getElem hil]
          rfl
        rw [List.take_add_one, hg]
        rfl
      simp only [wageofficelaw42_DiskPrefixes.l0]
      rw [if_pos (by omega), if_pos (by omega), if_pos (by omega), if_pos (by rw [List.length_take]; omega), hi1, e])
  exact key 0 (by omega)

theorem prefixes_ev (l0 : List Int) (l1 : List S45) (a : Int) (hf : Fit l1) (ha : (Lit.int .u8 a).wf = true) : Ev (fun k => wageofficelaw42_DiskPrefixes.f k l0 l1 a) true := by
  have ha2 : 0 ≤ a ∧ a < 256 := by
    have := bounds_u8 ha
    omega
  refine Ev.congr (f := fun k => (wageofficeref42_Small.f k l0 l1 600).bind fun t => if t = true then ((wageofficeref42_Valid.f k l0 l1).bind fun t239 => (wageofficelaw42_DiskPrefixes.j0 k a true (!t239) l0 l1)) else wageofficelaw42_DiskPrefixes.j0 k a true true l0 l1) (fun k => rfl) ?_
  refine small_start (g := fun k t => if t = true then ((wageofficeref42_Valid.f k l0 l1).bind fun t239 => (wageofficelaw42_DiskPrefixes.j0 k a true (!t239) l0 l1)) else wageofficelaw42_DiskPrefixes.j0 k a true true l0 l1) l0 l1 hf (fun _ => ?_) (fun hs => ?_)
  · refine Ev.step (f := fun _ => some true) (fun k => ?_) (Ev.now true)
    rw [if_neg (by simp)]
    simp [wageofficelaw42_DiskPrefixes.j0]
  · obtain ⟨hs0, hs1, hs2⟩ := small_true hs
    refine Ev.congr (f := fun k => (wageofficeref42_Valid.f k l0 l1).bind fun t239 => (wageofficelaw42_DiskPrefixes.j0 k a true (!t239) l0 l1)) (fun k => by rw [if_pos rfl]) ?_
    refine Ev.bind (f := fun k t239 => wageofficelaw42_DiskPrefixes.j0 k a true (!t239) l0 l1) (valid_ev l0 l1 hf) ?_
    cases hv : validB l0 l1
    · refine Ev.step (f := fun _ => some true) (fun k => ?_) (Ev.now true)
      simp [wageofficelaw42_DiskPrefixes.j0]
    · obtain ⟨n, rfl⟩ : ∃ n : Nat, a = (n : Int) := ⟨a.toNat, by omega⟩
      have hw1 : wrap64 ((l1.length : Int) + 1) = ((l1.length + 1 : Nat) : Int) := by unfold wrap64; omega
      have hw2 : wrap64 (n : Int) = (n : Int) := by unfold wrap64; omega
      have hm : Int.tmod (n : Int) ((l1.length + 1 : Nat) : Int) = ((n % (l1.length + 1) : Nat) : Int) := (Int.ofNat_tmod _ _).symm
      refine Ev.step (f := fun k => wageofficelaw42_DiskPrefixes.l0 k true ((n % (l1.length + 1) : Nat) : Int) [] 0 l0 l1) (fun k => ?_) (prefixes_loop _ l0 l1 (by have := Nat.mod_lt n (show 0 < l1.length + 1 by omega); omega) hv hs0 hs1)
      simp only [wageofficelaw42_DiskPrefixes.j0]
      rw [if_neg (by simp), hw1, hw2, if_neg (by omega), hm]
end Go.Proofs.Ytfpdmlhknddffaa.Dk
