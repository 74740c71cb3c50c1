/- Walks and laws of package disk: part of the proofs of the Disk statements. -/
import Derived.Test.YtfpdmlhknddffaaD7
namespace Go.Proofs.Ytfpdmlhknddffaa.Dk
open Go.RowKit Go.Proofs.YtfpdmlhknddffaaW.PrintWords Go.Proofs.YtfpdmlhknddffaaW.PrintLast Go.Proofs.YtfpdmlhknddffaaW.PrintMore
set_option linter.unusedVariables false
set_option linter.unusedSimpArgs false

/-- Write -/
def writeF (l0 : List Int) (l1 : List S45) (a : Int) (l2 : List Int) : List Int × List S45 × Int :=
  if (validB l0 l1 && isPartB l0.length a l2.length) = true then (if l1.length = 64 then ([], [], 2) else (l0, l1 ++ [⟨a, l2⟩], 0)) else ([], [], 1)

set_option maxHeartbeats 800000 in
theorem disk_Write_e1 (A0 : Option Addr) (c0 : Nat) (l0 : List Int) (A1 : Option Addr) (c1 : Nat) (l1 : List S45) (a : Int) (A2 : Option Addr) (c2 : Nat) (l2 : List Int) (w : World)
   (h0 : Kd.C (Kd.int .u8) w A0 l0.length l0) (hc0 : l0.length ≤ c0) (h1 : Kd.C k45 w A1 l1.length l1) (hc1 : l1.length ≤ c1) (h2 : Kd.C (Kd.int .u8) w A2 l2.length l2) (hc2 : l2.length ≤ c2) (Hv : Hid (validB l0 l1 = false)) :
    Calls Try.prog 21 #[.agg #[.slice A0 l0.length c0, .slice A1 l1.length c1], .int .i64 a, .slice A2 l2.length c2] w fun e w' => e = .returned (.tuple #[.agg #[.slice none 0 0, .slice none 0 0], .int .i64 1]) ∧ Below w.heap.size w w' := by
  have hu25 := Try.underlying25
  have hu22 := Try.underlying22

  go_enter Try.func21, Try.ntmps21
  go_wp2_with (first | ((with_reducible refine gate_dst (N := 3) rfl ?_); (refine box_event ?hg (N := 3) ?hd (cs := #[.slice A0 l0.length c0, .slice A1 l1.length c1]) (t := 25) ?hr ?_); (case hd => rfl); (case hg => rfl); (case hr => first | (go_simp; done) | (go_simp; rfl)); intro g hg w1 hb1 hB1; have HB1 := Lib.hid hB1; have Hb1 := Lib.hid hb1; clear hB1 hb1 hg) | ((with_reducible refine gate_dst (N := 6) rfl ?_); (refine box_event ?hg (N := 6) ?hd (cs := #[.slice none 0 0, .slice none 0 0]) (t := 25) ?hr ?_); (case hd => rfl); (case hg => rfl); (case hr => first | (go_simp; done) | (go_simp; rfl)); intro g2 hg2 w2 hb2 hB2; have hq2 := (blk_cell (blk_below Hb1.out hB2) 0).trans rfl; have hq3 := (blk_cell (blk_below Hb1.out hB2) 1).trans rfl; have Hgs : Hid (w.heap.size ≤ g2) := (Lib.hid (by rw [hg2]; exact HB1.out.size)); have HB2 := Lib.hid (below_then HB1.out HB1.out.size hB2); have Hb2 := Lib.hid hb2; have Hb1' := Lib.hid (blk_below Hb1.out hB2); clear hB2 hb2 Hb1 hg2) | (go_at_call 43; refine (disk_isValid_calls A0 c0 l0 A1 c1 l1 w2 (Kd.C_below h0 HB2.out) hc0 (Kd.C_below h1 HB2.out) hc1).mono ?_; rintro e w3 ⟨rfl, hb3⟩; rw [Hv.out]; have hq6 := (blk_cell (blk_below Hb1'.out hb3) 0).trans rfl; have hq7 := (blk_cell (blk_below Hb1'.out hb3) 1).trans rfl; have hq8 := (blk_cell (blk_below Hb2.out hb3) 0).trans rfl; have hq9 := (blk_cell (blk_below Hb2.out hb3) 1).trans rfl; have hf8 := blk_frozen (blk_below Hb2.out hb3) 0; have hf9 := blk_frozen (blk_below Hb2.out hb3) 1; have HB3 := Lib.hid (below_then HB2.out HB2.out.size hb3); have Hb3 := Lib.hid (blk_below Hb1'.out hb3); have Hbr := Lib.hid (blk_below Hb2.out hb3); clear hb3 Hb1' Hb2 hq2 hq3) )
  obtain ⟨w9, hw9⟩ : ∃ w9, w9 = ((w3.setCell ⟨g2, 0, none⟩ (.slice none 0 0)).setCell ⟨g2, 1, none⟩ (.slice none 0 0)) := ⟨_, rfl⟩
  have hr2 := two_cells Hbr.out (.slice none 0 0) (.slice none 0 0)
  rw [← hw9] at hr2 ⊢
  have hb9 : Below w.heap.size w w9 := by
    rw [hw9]
    exact (HB3.out.setCell (p := ⟨g2, 0, none⟩) Hgs.out _).setCell (p := ⟨g2, 1, none⟩) Hgs.out _
  clear hw9 hq6 hq7 hq8 hq9 hf8 hf9
  have k1 : w9.cell? ⟨g2, 0, none⟩ = some (.slice none 0 0) := (blk_cell hr2 0).trans rfl
  have k2 : w9.cell? ⟨g2, 1, none⟩ = some (.slice none 0 0) := (blk_cell hr2 1).trans rfl
  exact bodyPost_ret (v := .tuple #[.agg #[.slice none 0 0, .slice none 0 0], .int .i64 1]) (by simp [results, Try.results21, go_sem, k1, k2]) rfl ⟨rfl, hb9⟩

set_option maxHeartbeats 800000 in
theorem disk_Write_e2 (A0 : Option Addr) (c0 : Nat) (l0 : List Int) (A1 : Option Addr) (c1 : Nat) (l1 : List S45) (a : Int) (A2 : Option Addr) (c2 : Nat) (l2 : List Int) (w : World)
   (h0 : Kd.C (Kd.int .u8) w A0 l0.length l0) (hc0 : l0.length ≤ c0) (h1 : Kd.C k45 w A1 l1.length l1) (hc1 : l1.length ≤ c1) (h2 : Kd.C (Kd.int .u8) w A2 l2.length l2) (hc2 : l2.length ≤ c2) (Hv : Hid (validB l0 l1 = true)) (Hp : Hid (isPartB l0.length a l2.length = false)) :
    Calls Try.prog 21 #[.agg #[.slice A0 l0.length c0, .slice A1 l1.length c1], .int .i64 a, .slice A2 l2.length c2] w fun e w' => e = .returned (.tuple #[.agg #[.slice none 0 0, .slice none 0 0], .int .i64 1]) ∧ Below w.heap.size w w' := by
  have hu25 := Try.underlying25
  have hu22 := Try.underlying22

  go_enter Try.func21, Try.ntmps21
  go_wp2_with (first | ((with_reducible refine gate_dst (N := 3) rfl ?_); (refine box_event ?hg (N := 3) ?hd (cs := #[.slice A0 l0.length c0, .slice A1 l1.length c1]) (t := 25) ?hr ?_); (case hd => rfl); (case hg => rfl); (case hr => first | (go_simp; done) | (go_simp; rfl)); intro g hg w1 hb1 hB1; have HB1 := Lib.hid hB1; have Hb1 := Lib.hid hb1; clear hB1 hb1 hg) | ((with_reducible refine gate_dst (N := 6) rfl ?_); (refine box_event ?hg (N := 6) ?hd (cs := #[.slice none 0 0, .slice none 0 0]) (t := 25) ?hr ?_); (case hd => rfl); (case hg => rfl); (case hr => first | (go_simp; done) | (go_simp; rfl)); intro g2 hg2 w2 hb2 hB2; have hq2 := (blk_cell (blk_below Hb1.out hB2) 0).trans rfl; have hq3 := (blk_cell (blk_below Hb1.out hB2) 1).trans rfl; have Hgs : Hid (w.heap.size ≤ g2) := (Lib.hid (by rw [hg2]; exact HB1.out.size)); have HB2 := Lib.hid (below_then HB1.out HB1.out.size hB2); have Hb2 := Lib.hid hb2; have Hb1' := Lib.hid (blk_below Hb1.out hB2); clear hB2 hb2 Hb1 hg2) | (go_at_call 43; refine (disk_isValid_calls A0 c0 l0 A1 c1 l1 w2 (Kd.C_below h0 HB2.out) hc0 (Kd.C_below h1 HB2.out) hc1).mono ?_; rintro e w3 ⟨rfl, hb3⟩; rw [Hv.out]; have hq6 := (blk_cell (blk_below Hb1'.out hb3) 0).trans rfl; have hq7 := (blk_cell (blk_below Hb1'.out hb3) 1).trans rfl; have hq8 := (blk_cell (blk_below Hb2.out hb3) 0).trans rfl; have hq9 := (blk_cell (blk_below Hb2.out hb3) 1).trans rfl; have hf8 := blk_frozen (blk_below Hb2.out hb3) 0; have hf9 := blk_frozen (blk_below Hb2.out hb3) 1; have HB3 := Lib.hid (below_then HB2.out HB2.out.size hb3); have Hb3 := Lib.hid (blk_below Hb1'.out hb3); have Hbr := Lib.hid (blk_below Hb2.out hb3); clear hb3 Hb1' Hb2 hq2 hq3) | (go_at_call 44; have hl := ((validB_iff l0 l1).1 Hv.out).1; refine (disk_isPart.calls _ _ l0 _ _ l1 a l2.length _ _ (Kd.C_below h0 HB3.out) hc0 (Kd.C_below h1 HB3.out) hc1 (isPart_f l0 l1 a l2.length (by unfold maxLen; omega))).mono ?_; rintro e w4 ⟨rfl, hb4⟩; rw [Hp.out]; clear hq6 hq7 hq8 hq9 hf8 hf9; have hq6 := (blk_cell (blk_below Hb3.out hb4) 0).trans rfl; have hq7 := (blk_cell (blk_below Hb3.out hb4) 1).trans rfl; have hq8 := (blk_cell (blk_below Hbr.out hb4) 0).trans rfl; have hq9 := (blk_cell (blk_below Hbr.out hb4) 1).trans rfl; have hf8 := blk_frozen (blk_below Hbr.out hb4) 0; have hf9 := blk_frozen (blk_below Hbr.out hb4) 1; have HB4 := Lib.hid (below_then HB3.out HB3.out.size hb4); have Hbr' := Lib.hid (blk_below Hbr.out hb4); clear hb4 hl) )
  obtain ⟨w9, hw9⟩ : ∃ w9, w9 = ((w4.setCell ⟨g2, 0, none⟩ (.slice none 0 0)).setCell ⟨g2, 1, none⟩ (.slice none 0 0)) := ⟨_, rfl⟩
  have hr2 := two_cells Hbr'.out (.slice none 0 0) (.slice none 0 0)
  rw [← hw9] at hr2 ⊢
  have hb9 : Below w.heap.size w w9 := by
    rw [hw9]
    exact (HB4.out.setCell (p := ⟨g2, 0, none⟩) Hgs.out _).setCell (p := ⟨g2, 1, none⟩) Hgs.out _
  clear hw9 hq6 hq7 hq8 hq9 hf8 hf9
  have k1 : w9.cell? ⟨g2, 0, none⟩ = some (.slice none 0 0) := (blk_cell hr2 0).trans rfl
  have k2 : w9.cell? ⟨g2, 1, none⟩ = some (.slice none 0 0) := (blk_cell hr2 1).trans rfl
  exact bodyPost_ret (v := .tuple #[.agg #[.slice none 0 0, .slice none 0 0], .int .i64 1]) (by simp [results, Try.results21, go_sem, k1, k2]) rfl ⟨rfl, hb9⟩

set_option maxHeartbeats 800000 in
theorem disk_Write_e64 (A0 : Option Addr) (c0 : Nat) (l0 : List Int) (A1 : Option Addr) (c1 : Nat) (l1 : List S45) (a : Int) (A2 : Option Addr) (c2 : Nat) (l2 : List Int) (w : World)
   (h0 : Kd.C (Kd.int .u8) w A0 l0.length l0) (hc0 : l0.length ≤ c0) (h1 : Kd.C k45 w A1 l1.length l1) (hc1 : l1.length ≤ c1) (h2 : Kd.C (Kd.int .u8) w A2 l2.length l2) (hc2 : l2.length ≤ c2) (Hv : Hid (validB l0 l1 = true)) (Hp : Hid (isPartB l0.length a l2.length = true)) (h64 : l1.length = 64) :
    Calls Try.prog 21 #[.agg #[.slice A0 l0.length c0, .slice A1 l1.length c1], .int .i64 a, .slice A2 l2.length c2] w fun e w' => e = .returned (.tuple #[.agg #[.slice none 0 0, .slice none 0 0], .int .i64 2]) ∧ Below w.heap.size w w' := by
  have hu25 := Try.underlying25
  have hu22 := Try.underlying22
  have e1 : ((l1.length : Int) == 64) = true := by rw [beq_iff_eq]; omega
  clear h64

  go_enter Try.func21, Try.ntmps21
  go_wp2_with (first | ((with_reducible refine gate_dst (N := 3) rfl ?_); (refine box_event ?hg (N := 3) ?hd (cs := #[.slice A0 l0.length c0, .slice A1 l1.length c1]) (t := 25) ?hr ?_); (case hd => rfl); (case hg => rfl); (case hr => first | (go_simp; done) | (go_simp; rfl)); intro g hg w1 hb1 hB1; have HB1 := Lib.hid hB1; have Hb1 := Lib.hid hb1; clear hB1 hb1 hg) | ((with_reducible refine gate_dst (N := 6) rfl ?_); (refine box_event ?hg (N := 6) ?hd (cs := #[.slice none 0 0, .slice none 0 0]) (t := 25) ?hr ?_); (case hd => rfl); (case hg => rfl); (case hr => first | (go_simp; done) | (go_simp; rfl)); intro g2 hg2 w2 hb2 hB2; have hq2 := (blk_cell (blk_below Hb1.out hB2) 0).trans rfl; have hq3 := (blk_cell (blk_below Hb1.out hB2) 1).trans rfl; have Hgs : Hid (w.heap.size ≤ g2) := (Lib.hid (by rw [hg2]; exact HB1.out.size)); have HB2 := Lib.hid (below_then HB1.out HB1.out.size hB2); have Hb2 := Lib.hid hb2; have Hb1' := Lib.hid (blk_below Hb1.out hB2); clear hB2 hb2 Hb1 hg2) | (go_at_call 43; refine (disk_isValid_calls A0 c0 l0 A1 c1 l1 w2 (Kd.C_below h0 HB2.out) hc0 (Kd.C_below h1 HB2.out) hc1).mono ?_; rintro e w3 ⟨rfl, hb3⟩; rw [Hv.out]; have hq6 := (blk_cell (blk_below Hb1'.out hb3) 0).trans rfl; have hq7 := (blk_cell (blk_below Hb1'.out hb3) 1).trans rfl; have hq8 := (blk_cell (blk_below Hb2.out hb3) 0).trans rfl; have hq9 := (blk_cell (blk_below Hb2.out hb3) 1).trans rfl; have hf8 := blk_frozen (blk_below Hb2.out hb3) 0; have hf9 := blk_frozen (blk_below Hb2.out hb3) 1; have HB3 := Lib.hid (below_then HB2.out HB2.out.size hb3); have Hb3 := Lib.hid (blk_below Hb1'.out hb3); have Hbr := Lib.hid (blk_below Hb2.out hb3); clear hb3 Hb1' Hb2 hq2 hq3) | (go_at_call 44; have hl := ((validB_iff l0 l1).1 Hv.out).1; refine (disk_isPart.calls _ _ l0 _ _ l1 a l2.length _ _ (Kd.C_below h0 HB3.out) hc0 (Kd.C_below h1 HB3.out) hc1 (isPart_f l0 l1 a l2.length (by unfold maxLen; omega))).mono ?_; rintro e w4 ⟨rfl, hb4⟩; rw [Hp.out]; clear hq6 hq7 hq8 hq9 hf8 hf9; have hq6 := (blk_cell (blk_below Hb3.out hb4) 0).trans rfl; have hq7 := (blk_cell (blk_below Hb3.out hb4) 1).trans rfl; have hq8 := (blk_cell (blk_below Hbr.out hb4) 0).trans rfl; have hq9 := (blk_cell (blk_below Hbr.out hb4) 1).trans rfl; have hf8 := blk_frozen (blk_below Hbr.out hb4) 0; have hf9 := blk_frozen (blk_below Hbr.out hb4) 1; have HB4 := Lib.hid (below_then HB3.out HB3.out.size hb4); have Hbr' := Lib.hid (blk_below Hbr.out hb4); clear hb4 hl) )
  obtain ⟨w9, hw9⟩ : ∃ w9, w9 = ((w4.setCell ⟨g2, 0, none⟩ (.slice none 0 0)).setCell ⟨g2, 1, none⟩ (.slice none 0 0)) := ⟨_, rfl⟩
  have hr2 := two_cells Hbr'.out (.slice none 0 0) (.slice none 0 0)
  rw [← hw9] at hr2 ⊢
  have hb9 : Below w.heap.size w w9 := by
    rw [hw9]
    exact (HB4.out.setCell (p := ⟨g2, 0, none⟩) Hgs.out _).setCell (p := ⟨g2, 1, none⟩) Hgs.out _
  clear hw9 hq6 hq7 hq8 hq9 hf8 hf9
  have k1 : w9.cell? ⟨g2, 0, none⟩ = some (.slice none 0 0) := (blk_cell hr2 0).trans rfl
  have k2 : w9.cell? ⟨g2, 1, none⟩ = some (.slice none 0 0) := (blk_cell hr2 1).trans rfl
  exact bodyPost_ret (v := .tuple #[.agg #[.slice none 0 0, .slice none 0 0], .int .i64 2]) (by simp [results, Try.results21, go_sem, k1, k2]) rfl ⟨rfl, hb9⟩

end Go.Proofs.Ytfpdmlhknddffaa.Dk
