/- Walks and laws of package disk: part of the proofs of the Disk statements. -/
import Derived.Test.YtfpdmlhknddffaaD5
import Derived.Deep.RegionHeld3
namespace Go.Proofs.Ytfpdmlhknddffaa.Dk
open Go.RowKit Go.Proofs.YtfpdmlhknddffaaW.PrintWords Go.Proofs.YtfpdmlhknddffaaW.PrintLast Go.Proofs.YtfpdmlhknddffaaW.PrintMore
set_option linter.unusedVariables false
set_option linter.unusedSimpArgs false

def wholeK (l1 : List S45) (i : Nat) : Int := ((l1.getD i z45).f1.length : Int)

/-- Sync -/
def syncL (l0 : List Int) (l1 : List S45) : List Int := if validB l0 l1 = true then applyL (wholeK l1) l1 l0 else []

theorem two_cells {w : World} {g : Nat} {t : TypeId} {a b : Value} (h : w.heap[g]? = some (.cells #[a, b] t (0, 0))) (u v : Value) : ((w.setCell ⟨g, 0, none⟩ u).setCell ⟨g, 1, none⟩ v).heap[g]? = some (.cells #[u, v] t (0, 0)) :=
  blk_put (blk_put h 0 u rfl) 1 v rfl

set_option maxHeartbeats 800000 in
theorem disk_Sync_calls (A0 : Option Addr) (c0 : Nat) (l0 : List Int) (A1 : Option Addr) (c1 : Nat) (l1 : List S45) (w : World)
   (h0 : Kd.C (Kd.int .u8) w A0 l0.length l0) (hc0 : l0.length ≤ c0) (h1 : Kd.C k45 w A1 l1.length l1) (hc1 : l1.length ≤ c1) :
    Calls Try.prog 26 #[.agg #[.slice A0 l0.length c0, .slice A1 l1.length c1]] w fun e w' => ∃ v0 : Value, e = .returned (.agg #[v0, .slice none 0 0]) ∧ Kd.R (Kd.int .u8) 5 w' w.heap.size (fun _ => True) v0 (syncL l0 l1) ∧ Below w.heap.size w w' := by
  have hu25 := Try.underlying25
  unfold syncL
  cases hv : validB l0 l1
  all_goals
    have Hv := Lib.hid hv
    clear hv
    go_enter Try.func26, Try.ntmps26
    go_wp2_with (first | ((with_reducible refine gate_dst (N := 1) rfl ?_); (refine box_event ?hg (N := 1) ?hd (cs := #[.slice A0 l0.length c0, .slice A1 l1.length c1]) (t := 25) ?hr ?_); (case hd => rfl); (case hg => rfl); (case hr => first | (go_simp; done) | (go_simp; rfl)); intro g hg w1 hb1 hB1; have hq0 := (blk_cell hb1 0).trans rfl; have hq1 := (blk_cell hb1 1).trans rfl; have HB1 := Lib.hid hB1; have Hb1 := Lib.hid hb1; clear hB1 hb1 hg) | ((with_reducible refine gate_dst (N := 2) rfl ?_); (refine box_event ?hg (N := 2) ?hd (cs := #[.slice none 0 0, .slice none 0 0]) (t := 25) ?hr ?_); (case hd => rfl); (case hg => rfl); (case hr => first | (go_simp; done) | (go_simp; rfl)); intro g2 hg2 w2 hb2 hB2; have hq2 := (blk_cell (blk_below Hb1.out hB2) 0).trans rfl; have hq3 := (blk_cell (blk_below Hb1.out hB2) 1).trans rfl; have hq4 := (blk_cell hb2 0).trans rfl; have hq5 := (blk_cell hb2 1).trans rfl; have HB2 := Lib.hid (below_then HB1.out HB1.out.size hB2); have Hb2 := Lib.hid hb2; have Hb1' := Lib.hid (blk_below Hb1.out hB2); have Hgg := Lib.hid (blk_lt Hb1.out); have Hg2 := Lib.hid hg2; clear hB2 hb2 Hb1 hq0 hq1 hg2) | (go_at_call 43; refine (disk_isValid_calls A0 c0 l0 A1 c1 l1 w2 (Kd.C_below h0 HB2.out) hc0 (Kd.C_below h1 HB2.out) hc1).mono ?_; rintro e w3 ⟨rfl, hb3⟩; rw [Hv.out]; have hq6 := (blk_cell (blk_below Hb1'.out hb3) 0).trans rfl; have hq7 := (blk_cell (blk_below Hb1'.out hb3) 1).trans rfl; have hq8 := (blk_cell (blk_below Hb2.out hb3) 0).trans rfl; have hq9 := (blk_cell (blk_below Hb2.out hb3) 1).trans rfl; have hf8 := blk_frozen (blk_below Hb2.out hb3) 0; have hf9 := blk_frozen (blk_below Hb2.out hb3) 1; have HB3 := Lib.hid (below_then HB2.out HB2.out.size hb3); have Hb1'' := Lib.hid (blk_below Hb1'.out hb3); have Hb2'' := Lib.hid (blk_below Hb2.out hb3); clear hb3 Hb1' Hb2 hq2 hq3 hq4 hq5) )
  · obtain ⟨w4, hw4⟩ : ∃ w4, w4 = ((w3.setCell ⟨g2, 0, none⟩ (.slice none 0 0)).setCell ⟨g2, 1, none⟩ (.slice none 0 0)) := ⟨_, rfl⟩
    have hr2 := two_cells Hb2''.out (.slice none 0 0) (.slice none 0 0)
    rw [← hw4] at hr2 ⊢
    have hb4 : Below w.heap.size w w4 := by
      rw [hw4]
      exact (HB3.out.setCell (p := ⟨g2, 0, none⟩) (by have := HB1.out.size; rw [Hg2.out]; exact this) _).setCell (p := ⟨g2, 1, none⟩) (by have := HB1.out.size; rw [Hg2.out]; exact this) _
    clear hw4 hq6 hq7 hq8 hq9 hf8 hf9
    have k1 : w4.cell? ⟨g2, 0, none⟩ = some (.slice none 0 0) := (blk_cell hr2 0).trans rfl
    have k2 : w4.cell? ⟨g2, 1, none⟩ = some (.slice none 0 0) := (blk_cell hr2 1).trans rfl
    exact bodyPost_ret (v := .agg #[.slice none 0 0, .slice none 0 0]) (by simp [results, Try.results26, go_sem, k1, k2]) rfl ⟨_, rfl, Kd.R_nil _ _ _ _ _, hb4⟩
  · have k6 : w3.cell? ⟨g, 0, none⟩ = some (.slice A0 l0.length c0) := hq6
    have k7 : w3.cell? ⟨g, 1, none⟩ = some (.slice A1 l1.length c1) := hq7
    clear hq6 hq7 hq8 hq9 hf8 hf9
    go_region_held3 (fun w' => w'.cell? ⟨g, 0, none⟩ = some (.slice A0 l0.length c0) ∧ w'.cell? ⟨g, 1, none⟩ = some (.slice A1 l1.length c1))
      (first | exact ⟨k6, k7⟩ | exact ⟨k8, k9⟩ | exact ⟨k10, k11⟩ | exact ⟨(blk_cell (blk_far (blk_far Hb1f.out hne.out _) hne.out _) 0).trans rfl, (blk_cell (blk_far (blk_far Hb1f.out hne.out _) hne.out _) 1).trans rfl⟩)
      ((first | (go_at_call 48; refine (whole_calls A0 l0.length c0 A1 l1.length c1 _).mono ?_; rintro e w4 ⟨B, rfl, hB, hBs, hb4⟩; have k8 := pw_cell_below hb4 k6; have k9 := pw_cell_below hb4 k7; have HB4 := Lib.hid (below_then HB3.out HB3.out.size (below_then (below_drew (Below.refl _ _)) (Nat.le_refl _) hb4)); have HBB := Lib.hid hB; have Hb4 := Lib.hid hb4; clear hB hb4 hBs) | (go_at_call 47; refine (apply59_calls A0 c0 l0 A1 c1 l1 B _ (wholeK l1) (Kd.C_below h0 HB4.out) hc0 (Kd.C_below h1 HB4.out) hc1 Hv.out ?hwk).mono ?_; (case hwk => intro i w5 hi hb5; refine (whole1_calls i A0 l0.length c0 A1 c1 l1 B w5 hi (blk_below HBB.out hb5) (Kd.C_below (Kd.C_below h1 HB4.out) hb5)).mono ?_; rintro e w6 ⟨rfl, rfl⟩; exact ⟨by simp [wholeK, List.getD, hi], rfl⟩); rintro e w5 ⟨v0, rfl, hr5, hb5⟩; obtain ⟨A5, cap5, rfl⟩ := Kd.R_slice hr5; have k10 := pw_cell_below hb5 k8; have k11 := pw_cell_below hb5 k9; have Hb2f := Lib.hid (blk_below (blk_below (blk_drew Hb2''.out) Hb4.out) hb5); have Hb1f := Lib.hid (blk_below (blk_below (blk_drew Hb1''.out) Hb4.out) hb5); have hne : Hid (g ≠ g2) := Lib.hid (by have := Hgg.out; have := Hg2.out; omega); have q0 := (blk_cell Hb2f.out 0).trans rfl; have q1 := (blk_cell Hb2f.out 1).trans rfl; have q2 := blk_frozen Hb2f.out 0; have q3 := blk_frozen Hb2f.out 1; have HB5 := Lib.hid (below_then HB4.out HB4.out.size hb5); have HR5 := Lib.hid (Kd.R_lower hr5 HB4.out.size); clear hb5 hr5) ))
    go_wp2
    obtain ⟨w6, hw6⟩ : ∃ w6, w6 = ((w5.setCell ⟨g2, 0, none⟩ (.slice A5 (applyL (wholeK l1) l1 l0).length cap5)).setCell ⟨g2, 1, none⟩ (.slice none 0 0)) := ⟨_, rfl⟩
    have hr2 := two_cells Hb2f.out (.slice A5 (applyL (wholeK l1) l1 l0).length cap5) (.slice none 0 0)
    rw [← hw6] at hr2 ⊢
    have hgs : w.heap.size ≤ g2 := by have := HB1.out.size; rw [Hg2.out]; exact this
    have hb6 : Below w.heap.size w w6 := by
      rw [hw6]
      exact (HB5.out.setCell (p := ⟨g2, 0, none⟩) hgs _).setCell (p := ⟨g2, 1, none⟩) hgs _
    have hr6 : Kd.R (Kd.int .u8) 5 w6 w.heap.size (fun _ => True) (.slice A5 (applyL (wholeK l1) l1 l0).length cap5) (applyL (wholeK l1) l1 l0) := by
      rw [hw6]
      exact Kd.R_set (Kd.R_set HR5.out Hb2f.out (by decide) 0 _) (blk_put Hb2f.out 0 _ rfl) (by decide) 1 _
    have k1 : w6.cell? ⟨g2, 0, none⟩ = some (.slice A5 (applyL (wholeK l1) l1 l0).length cap5) := (blk_cell hr2 0).trans rfl
    have k2 : w6.cell? ⟨g2, 1, none⟩ = some (.slice none 0 0) := (blk_cell hr2 1).trans rfl
    exact bodyPost_ret (v := .agg #[.slice A5 (applyL (wholeK l1) l1 l0).length cap5, .slice none 0 0]) (by simp [results, Try.results26, go_sem, k1, k2]) rfl ⟨_, rfl, hr6, hb6⟩
end Go.Proofs.Ytfpdmlhknddffaa.Dk
