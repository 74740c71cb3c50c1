/- Walks and laws of package disk: part of the proofs of the Disk statements. -/
import Derived.Test.YtfpdmlhknddffaaD16
import Derived.Test.YtfpdmlhknddffaaU1
import Derived.OpenShut
namespace Go.Proofs.Ytfpdmlhknddffaa.Dk
open Go.RowKit Go.Proofs.YtfpdmlhknddffaaW.PrintWords Go.Proofs.YtfpdmlhknddffaaW.PrintLast Go.Proofs.YtfpdmlhknddffaaW.PrintMore
set_option linter.unusedVariables false

/-- the numbers of the chosen two -/
theorem ind_nums (l1 : List S45) (a : Int) (h2 : 2 ≤ l1.length) (h64 : l1.length ≤ 100) (ha : 0 ≤ a ∧ a ≤ 255) : ∃ i : Nat, i = a.toNat % (l1.length - 1) ∧ i + 1 < l1.length ∧ ¬ wrap64 ((l1.length : Int) - 1) = 0 ∧ Int.tmod (wrap64 a) (wrap64 ((l1.length : Int) - 1)) = (i : Int) ∧ wrap64 ((i : Int) + 1) = ((i + 1 : Nat) : Int) ∧ rd_T45 l1 (i : Int) = l1.getD i z45 ∧ rd_T45 l1 ((i + 1 : Nat) : Int) = l1.getD (i + 1) z45 := by
  have hN : wrap64 ((l1.length : Int) - 1) = ((l1.length - 1 : Nat) : Int) := by unfold wrap64; omega
  have hw : wrap64 a = ((a.toNat : Nat) : Int) := by unfold wrap64; omega
  have hm := Nat.mod_lt a.toNat (show 0 < l1.length - 1 by omega)
  refine ⟨_, rfl, by omega, by rw [hN]; omega, by rw [hN, hw]; exact (Int.ofNat_tmod _ _).symm, by unfold wrap64; omega, ?_, ?_⟩
  · unfold rd_T45; rw [Int.toNat_natCast]
  · unfold rd_T45; rw [Int.toNat_natCast]

theorem indep2_ev (l0 : List Int) (l1 : List S45) (ks : List Int) (a : Int) (hf : Fit l1) (hg : Good l0 l1 ks a) : Ev (fun k => wageofficelaw42_DiskIndep2.f k l0 l1 ks a) true := by
  obtain ⟨g1, g2, g3, g4, g5, g6, g7, g8, g9⟩ := hg
  have hv := (validB_iff _ _).1 g7
  obtain ⟨i, hi, hlt, n1, n2, n3, n4, n5⟩ := ind_nums l1 a g2 (by omega) ⟨g5, g6⟩
  refine Ev.congr (f := fun k => (wageofficeref42_Small.f k l0 l1 600).bind fun t => if t = true then ((wageofficeref42_Valid.f k l0 l1).bind fun t105 => (if t105 = true then (wageofficelaw42_DiskIndep2.j0 k a true (l1.length : Int) false l0 l1) else (wageofficelaw42_DiskIndep2.j0 k a true (l1.length : Int) true l0 l1))) else (wageofficelaw42_DiskIndep2.j0 k a true (l1.length : Int) true l0 l1)) (fun k => ?_) ?_
  · unfold wageofficelaw42_DiskIndep2.f wageofficelaw42_head.f
    rw [Option.bind_some, if_neg (by omega), if_neg (by omega), decide_eq_false (by omega)]
  · have hs : smallB l0 l1 = true := decide_eq_true ⟨by omega, by omega, fun x hx => by have := g8 x hx; omega⟩
    refine Ev.bind (f := fun k t => if t = true then ((wageofficeref42_Valid.f k l0 l1).bind fun t105 => (if t105 = true then (wageofficelaw42_DiskIndep2.j0 k a true (l1.length : Int) false l0 l1) else (wageofficelaw42_DiskIndep2.j0 k a true (l1.length : Int) true l0 l1))) else (wageofficelaw42_DiskIndep2.j0 k a true (l1.length : Int) true l0 l1)) (ev_eq (small_ev l0 l1 600 hf) hs) ?_
    refine Ev.congr (f := fun k => (wageofficeref42_Valid.f k l0 l1).bind fun t105 => (if t105 = true then (wageofficelaw42_DiskIndep2.j0 k a true (l1.length : Int) false l0 l1) else (wageofficelaw42_DiskIndep2.j0 k a true (l1.length : Int) true l0 l1))) (fun k => by rw [if_pos rfl]) ?_
    refine Ev.bind (f := fun k t105 => (if t105 = true then (wageofficelaw42_DiskIndep2.j0 k a true (l1.length : Int) false l0 l1) else (wageofficelaw42_DiskIndep2.j0 k a true (l1.length : Int) true l0 l1))) (ev_eq (valid_ev l0 l1 hf) g7) ?_
    refine Ev.congr (f := fun k => wageofficelaw42_DiskIndep2.j0 k a true (l1.length : Int) false l0 l1) (fun k => by rw [if_pos rfl]) ?_
    refine Ev.step (f := fun _ => some true) (fun k => ?_) (Ev.now true)
    simp only [wageofficelaw42_DiskIndep2.j0]
    rw [if_neg (by simp), if_neg n1, n2, n3, if_pos (by omega), if_pos (by omega), if_pos (by omega), if_pos (by omega)]

theorem indep_ev (l0 : List Int) (l1 : List S45) (ks : List Int) (a : Int) (hf : Fit l1) (ha : 0 ≤ a ∧ a ≤ 255) (hg : ¬ Good l0 l1 ks a) : Ev (fun k => wageofficelaw42_DiskIndependence.f k l0 l1 ks a) true := by
  have hT : Ev (fun k => wageofficelaw42_DiskIndependence.j0 k a true (l1.length : Int) true l0 l1) true := by
    refine Ev.step (f := fun _ => some true) (fun k => ?_) (Ev.now true)
    simp only [wageofficelaw42_DiskIndependence.j0]
    rw [if_pos trivial]
  refine Ev.congr (f := fun k => (wageofficeref42_Small.f k l0 l1 600).bind fun t => if t = true then ((wageofficeref42_Valid.f k l0 l1).bind fun t105 => (if t105 = true then (if (l1.length : Int) < 2 then (wageofficelaw42_DiskIndependence.j0 k a true (l1.length : Int) true l0 l1) else (if (ks.length : Int) < (l1.length : Int) then (wageofficelaw42_DiskIndependence.j0 k a true (l1.length : Int) true l0 l1) else (wageofficelaw42_DiskIndependence.j0 k a true (l1.length : Int) (decide ((ks.length : Int) > 80)) l0 l1))) else (wageofficelaw42_DiskIndependence.j0 k a true (l1.length : Int) true l0 l1))) else (wageofficelaw42_DiskIndependence.j0 k a true (l1.length : Int) true l0 l1)) (fun k => rfl) ?_
  refine small_start (g := fun k t => if t = true then ((wageofficeref42_Valid.f k l0 l1).bind fun t105 => (if t105 = true then (if (l1.length : Int) < 2 then (wageofficelaw42_DiskIndependence.j0 k a true (l1.length : Int) true l0 l1) else (if (ks.length : Int) < (l1.length : Int) then (wageofficelaw42_DiskIndependence.j0 k a true (l1.length : Int) true l0 l1) else (wageofficelaw42_DiskIndependence.j0 k a true (l1.length : Int) (decide ((ks.length : Int) > 80)) l0 l1))) else (wageofficelaw42_DiskIndependence.j0 k a true (l1.length : Int) true l0 l1))) else (wageofficelaw42_DiskIndependence.j0 k a true (l1.length : Int) true l0 l1)) l0 l1 hf (fun _ => ?_) (fun hs => ?_)
  · exact Ev.congr (fun k => by rw [if_neg (by simp)]) hT
  · obtain ⟨hs0, hs1, hs2⟩ := small_true hs
    refine Ev.congr (f := fun k => (wageofficeref42_Valid.f k l0 l1).bind fun t105 => (if t105 = true then (if (l1.length : Int) < 2 then (wageofficelaw42_DiskIndependence.j0 k a true (l1.length : Int) true l0 l1) else (if (ks.length : Int) < (l1.length : Int) then (wageofficelaw42_DiskIndependence.j0 k a true (l1.length : Int) true l0 l1) else (wageofficelaw42_DiskIndependence.j0 k a true (l1.length : Int) (decide ((ks.length : Int) > 80)) l0 l1))) else (wageofficelaw42_DiskIndependence.j0 k a true (l1.length : Int) true l0 l1))) (fun k => by rw [if_pos rfl]) ?_
    refine Ev.bind (f := fun k t105 => (if t105 = true then (if (l1.length : Int) < 2 then (wageofficelaw42_DiskIndependence.j0 k a true (l1.length : Int) true l0 l1) else (if (ks.length : Int) < (l1.length : Int) then (wageofficelaw42_DiskIndependence.j0 k a true (l1.length : Int) true l0 l1) else (wageofficelaw42_DiskIndependence.j0 k a true (l1.length : Int) (decide ((ks.length : Int) > 80)) l0 l1))) else (wageofficelaw42_DiskIndependence.j0 k a true (l1.length : Int) true l0 l1))) (valid_ev l0 l1 hf) ?_
    cases hv : validB l0 l1
    · exact Ev.congr (fun k => by rw [if_neg (by simp)]) hT
    · by_cases c1 : (l1.length : Int) < 2
      · exact Ev.congr (fun k => by rw [if_pos rfl, if_pos c1]) hT
      · by_cases c2 : (ks.length : Int) < (l1.length : Int)
        · exact Ev.congr (fun k => by rw [if_pos rfl, if_neg c1, if_pos c2]) hT
        · refine Ev.congr (f := fun k => wageofficelaw42_DiskIndependence.j0 k a true (l1.length : Int) (decide ((ks.length : Int) > 80)) l0 l1) (fun k => by rw [if_pos rfl, if_neg c1, if_neg c2]) ?_
          by_cases c3 : (ks.length : Int) > 80
          · rw [decide_eq_true c3]; exact hT
          · rw [decide_eq_false c3]
            obtain ⟨i, hi, hlt, n1, n2, n3, n4, n5⟩ := ind_nums l1 a (by omega) (by omega) ha
            have hap : ¬ apart (l1.getD i z45) (l1.getD (i + 1) z45) := by
              intro h
              exact hg ⟨hs0, by omega, by omega, by omega, ha.1, ha.2, hv, hs2, by rw [← hi]; exact h⟩
            have hV := (validB_iff _ _).1 hv
            have v1 := hV.2.2 _ (getD_mem (by omega : i < l1.length))
            have v2 := hV.2.2 _ (getD_mem hlt)
            obtain ⟨x, hx⟩ : ∃ x, x = l1.getD i z45 := ⟨_, rfl⟩
            obtain ⟨y, hy⟩ : ∃ y, y = l1.getD (i + 1) z45 := ⟨_, rfl⟩
            rw [← hx] at v1 hap n4
            rw [← hy] at v2 hap n5
            unfold apart at hap
            have w1 : wrap64 (x.f0 + (x.f1.length : Int)) = x.f0 + (x.f1.length : Int) := wrap_id (by omega) (by omega)
            have w2 : wrap64 (y.f0 + (y.f1.length : Int)) = y.f0 + (y.f1.length : Int) := wrap_id (by omega) (by omega)
            refine Ev.step (f := fun _ => some true) (fun k => ?_) (Ev.now true)
            simp only [wageofficelaw42_DiskIndependence.j0]
            rw [if_neg (by simp), if_neg n1, n2, n3, if_pos (by omega), if_pos (by omega), if_pos (by omega), if_pos (by omega), n4, n5, w1, w2, if_pos (by omega), if_pos (by omega)]

theorem indep_calls (A0_0 : Option Addr) (c0_0 : Nat) (l0_0 : List Int) (A0_1 : Option Addr) (c0_1 : Nat) (l0_1 : List (S45)) (A1 : Option Addr) (c1 : Nat) (l1 : List Int) (a2 : Int) (w : World) (hr0_0 : Kd.C (Kd.int .u8) w A0_0 l0_0.length l0_0) (hc0_0 : l0_0.length ≤ c0_0) (hr0_1 : Kd.C k45 w A0_1 l0_1.length l0_1) (hc0_1 : l0_1.length ≤ c0_1) (hr1 : Kd.C (Kd.int .i64) w A1 l1.length l1) (hc1 : l1.length ≤ c1) (ha : (Lit.int .u8 a2).wf = true) :
    Calls Try.prog 9 #[.agg #[.slice A0_0 l0_0.length c0_0, .slice A0_1 l0_1.length c0_1], .slice A1 l1.length c1, .int .u8 a2] w fun e w' => e = .returned (.bool true) ∧ Below w.heap.size w w' := by
  by_cases hg : Good l0_0 l0_1 l1 a2
  · obtain ⟨k, hk⟩ := (indep2_ev l0_0 l0_1 l1 a2 (fit_of hr0_1) hg).rounds
    exact wageofficelaw42_DiskIndep2.calls k A0_0 c0_0 l0_0 A0_1 c0_1 l0_1 A1 c1 l1 a2 true w hr0_0 hc0_0 hr0_1 hc0_1 hr1 hc1 ⟨hg⟩ hk
  · obtain ⟨k, hk⟩ := (indep_ev l0_0 l0_1 l1 a2 (fit_of hr0_1) (bounds_u8 ha) hg).rounds
    exact wageofficelaw42_DiskIndependence.calls k A0_0 c0_0 l0_0 A0_1 c0_1 l0_1 A1 c1 l1 a2 true w hr0_0 hc0_0 hr0_1 hc0_1 hr1 hc1 hk
end Go.Proofs.Ytfpdmlhknddffaa.Dk
