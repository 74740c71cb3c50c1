/- Walks and laws of package disk: part of the proofs of the Disk statements. -/
import Derived.Test.YtfpdmlhknddffaaD6
namespace Go.Proofs.Ytfpdmlhknddffaa.Dk
open Go.RowKit Go.Proofs.YtfpdmlhknddffaaW.PrintWords Go.Proofs.YtfpdmlhknddffaaW.PrintLast Go.Proofs.YtfpdmlhknddffaaW.PrintMore
set_option linter.unusedVariables false
set_option linter.unusedSimpArgs false

def keptK (ks : List Int) (i : Nat) : Int := ks.getD i 0
/-- Crash -/
def crashL (l0 : List Int) (l1 : List S45) (ks : List Int) : List Int := if validB l0 l1 = true then applyL (keptK ks) l1 l0 else []

set_option maxHeartbeats 800000 in
theorem disk_Crash_calls (A0 : Option Addr) (c0 : Nat) (l0 : List Int) (A1 : Option Addr) (c1 : Nat) (l1 : List S45) (A2 : Option Addr) (c2 : Nat) (l2 : List Int) (w : World)
   (h0 : Kd.C (Kd.int .u8) w A0 l0.length l0) (hc0 : l0.length ≤ c0) (h1 : Kd.C k45 w A1 l1.length l1) (hc1 : l1.length ≤ c1) (h2 : Kd.C (Kd.int .i64) w A2 l2.length l2) (hc2 : l2.length ≤ c2) :
    Calls Try.prog 28 #[.agg #[.slice A0 l0.length c0, .slice A1 l1.length c1], .slice A2 l2.length c2] w fun e w' => ∃ v0 : Value, e = .returned (.agg #[v0, .slice none 0 0]) ∧ Kd.R (Kd.int .u8) 5 w' w.heap.size (fun _ => True) v0 (crashL l0 l1 l2) ∧ Below w.heap.size w w' := by
  have hu25 := Try.underlying25
  have hmf : ∀ (fn : Fn) (first cap : Array Value) (w : World), (Instr.makeFunc fn first cap).run Try.prog w = .ok (.func fn first cap) w := fun _ _ _ _ => rfl
  unfold crashL
  cases hv : validB l0 l1
  all_goals
    have Hv := Lib.hid hv
    clear hv
    go_enter Try.func28, Try.ntmps28
    go_wp2_with (first | ((with_reducible refine gate_dst (N := 2) rfl ?_); (refine box_event ?hg (N := 2) ?hd (cs := #[.slice A0 l0.length c0, .slice A1 l1.length c1]) (t := 25) ?hr ?_); (case hd => rfl); (case hg => rfl); (case hr => first | (go_simp; done) | (go_simp; rfl)); intro g hg w1 hb1 hB1; have HB1 := Lib.hid hB1; have Hb1 := Lib.hid hb1; clear hB1 hb1 hg) | ((with_reducible refine gate_dst (N := 3) rfl ?_); (refine box_event ?hg (N := 3) ?hd (cs := #[.slice A2 l2.length c2]) (t := 26) ?hr ?_); (case hd => rfl); (case hg => rfl); (case hr => first | (go_simp; done) | (go_simp; rfl)); intro gk hgk wk hbk hBk; have HBk := Lib.hid (below_then HB1.out HB1.out.size hBk); have Hbk := Lib.hid hbk; have Hb1' := Lib.hid (blk_below Hb1.out hBk); clear hBk hbk hgk Hb1) | ((with_reducible refine gate_dst (N := 4) rfl ?_); (refine box_event ?hg (N := 4) ?hd (cs := #[.slice none 0 0, .slice none 0 0]) (t := 25) ?hr ?_); (case hd => rfl); (case hg => rfl); (case hr => first | (go_simp; done) | (go_simp; rfl)); intro g2 hg2 w2 hb2 hB2; have hq2 := (blk_cell (blk_below Hb1'.out hB2) 0).trans rfl; have hq3 := (blk_cell (blk_below Hb1'.out hB2) 1).trans rfl; have HB2 := Lib.hid (below_then HBk.out HBk.out.size hB2); have Hb2 := Lib.hid hb2; have Hb1'' := Lib.hid (blk_below Hb1'.out hB2); have Hbk' := Lib.hid (blk_below Hbk.out hB2); have Hgs : Hid (w.heap.size ≤ g2) := Lib.hid (by rw [hg2]; exact HBk.out.size); clear hB2 hb2 hg2 Hb1' Hbk) | (go_at_call 43; refine (disk_isValid_calls A0 c0 l0 A1 c1 l1 w2 (Kd.C_below h0 HB2.out) hc0 (Kd.C_below h1 HB2.out) hc1).mono ?_; rintro e w3 ⟨rfl, hb3⟩; rw [Hv.out]; have hq6 := (blk_cell (blk_below Hb1''.out hb3) 0).trans rfl; have hq7 := (blk_cell (blk_below Hb1''.out hb3) 1).trans rfl; have hq8 := (blk_cell (blk_below Hb2.out hb3) 0).trans rfl; have hq9 := (blk_cell (blk_below Hb2.out hb3) 1).trans rfl; have hf8 := blk_frozen (blk_below Hb2.out hb3) 0; have hf9 := blk_frozen (blk_below Hb2.out hb3) 1; have HB3 := Lib.hid (below_then HB2.out HB2.out.size hb3); have Hbk3 := Lib.hid (blk_below Hbk'.out hb3); have Hb2'' := Lib.hid (blk_below Hb2.out hb3); clear hb3 Hb1'' Hb2 Hbk' hq2 hq3) | (go_at_call 47; refine (apply49_calls A0 c0 l0 A1 c1 l1 gk w3 (keptK l2) (Kd.C_below h0 HB3.out) hc0 (Kd.C_below h1 HB3.out) hc1 Hv.out ?hwk).mono ?_; (case hwk => intro i w5 hi hb5; refine (crash1_calls i A2 c2 l2 gk w5 (Int.natCast_nonneg i) (blk_below Hbk3.out hb5) (Kd.C_below (Kd.C_below h2 HB3.out) hb5) hc2).mono ?_; rintro e w6 ⟨rfl, rfl⟩; exact ⟨rfl, rfl⟩); rintro e w5 ⟨v0, rfl, hr5, hb5⟩; obtain ⟨A5, cap5, rfl⟩ := Kd.R_slice hr5; have Hb2f := Lib.hid (blk_below Hb2''.out hb5); clear hq6 hq7 hq8 hq9 hf8 hf9; have q0 := (blk_cell Hb2f.out 0).trans rfl; have q1 := (blk_cell Hb2f.out 1).trans rfl; have q2 := blk_frozen Hb2f.out 0; have q3 := blk_frozen Hb2f.out 1; have HB5 := Lib.hid (below_then HB3.out HB3.out.size hb5); have HR5 := Lib.hid (Kd.R_lower hr5 HB3.out.size); clear hb5 hr5) )
  · obtain ⟨w4, hw4⟩ : ∃ w4, w4 = ((w3.setCell ⟨g2, 0, none⟩ (.slice none 0 0)).setCell ⟨g2, 1, none⟩ (.slice none 0 0)) := ⟨_, rfl⟩
    have hr2 := two_cells Hb2''.out (.slice none 0 0) (.slice none 0 0)
    rw [← hw4] at hr2 ⊢
    have hb4 : Below w.heap.size w w4 := by
      rw [hw4]
      exact (HB3.out.setCell (p := ⟨g2, 0, none⟩) Hgs.out _).setCell (p := ⟨g2, 1, none⟩) Hgs.out _
    clear hw4 hq6 hq7 hq8 hq9 hf8 hf9
    have k1 : w4.cell? ⟨g2, 0, none⟩ = some (.slice none 0 0) := (blk_cell hr2 0).trans rfl
    have k2 : w4.cell? ⟨g2, 1, none⟩ = some (.slice none 0 0) := (blk_cell hr2 1).trans rfl
    exact bodyPost_ret (v := .agg #[.slice none 0 0, .slice none 0 0]) (by simp [results, Try.results28, go_sem, k1, k2]) rfl ⟨_, rfl, Kd.R_nil _ _ _ _ _, hb4⟩
  · obtain ⟨w6, hw6⟩ : ∃ w6, w6 = ((w5.setCell ⟨g2, 0, none⟩ (.slice A5 (applyL (keptK l2) l1 l0).length cap5)).setCell ⟨g2, 1, none⟩ (.slice none 0 0)) := ⟨_, rfl⟩
    have hr2 := two_cells Hb2f.out (.slice A5 (applyL (keptK l2) l1 l0).length cap5) (.slice none 0 0)
    rw [← hw6] at hr2 ⊢
    have hb6 : Below w.heap.size w w6 := by
      rw [hw6]
      exact (HB5.out.setCell (p := ⟨g2, 0, none⟩) Hgs.out _).setCell (p := ⟨g2, 1, none⟩) Hgs.out _
    have hr6 : Kd.R (Kd.int .u8) 5 w6 w.heap.size (fun _ => True) (.slice A5 (applyL (keptK l2) l1 l0).length cap5) (applyL (keptK l2) l1 l0) := by
      rw [hw6]
      exact Kd.R_set (Kd.R_set HR5.out Hb2f.out (by decide) 0 _) (blk_put Hb2f.out 0 _ rfl) (by decide) 1 _
    have k1 : w6.cell? ⟨g2, 0, none⟩ = some (.slice A5 (applyL (keptK l2) l1 l0).length cap5) := (blk_cell hr2 0).trans rfl
    have k2 : w6.cell? ⟨g2, 1, none⟩ = some (.slice none 0 0) := (blk_cell hr2 1).trans rfl
    exact bodyPost_ret (v := .agg #[.slice A5 (applyL (keptK l2) l1 l0).length cap5, .slice none 0 0]) (by simp [results, Try.results28, go_sem, k1, k2]) rfl ⟨_, rfl, hr6, hb6⟩

/-- Read -/
def readOk (l0 : List Int) (l1 : List S45) (a c : Int) : Bool := validB l0 l1 && isPartB l0.length a c
def readL (l0 : List Int) (l1 : List S45) (a c : Int) : List Int := if readOk l0 l1 a c = true then ((applyL (wholeK l1) l1 l0).take (a + c).toNat).drop a.toNat else []

set_option maxHeartbeats 800000 in
theorem disk_Read_calls (A0 : Option Addr) (c0 : Nat) (l0 : List Int) (A1 : Option Addr) (c1 : Nat) (l1 : List S45) (a c : Int) (w : World)
   (h0 : Kd.C (Kd.int .u8) w A0 l0.length l0) (hc0 : l0.length ≤ c0) (h1 : Kd.C k45 w A1 l1.length l1) (hc1 : l1.length ≤ c1) :
    Calls Try.prog 23 #[.agg #[.slice A0 l0.length c0, .slice A1 l1.length c1], .int .i64 a, .int .i64 c] w fun e w' => ∃ v0 : Value, e = .returned (.tuple #[v0, .int .i64 (if readOk l0 l1 a c = true then 0 else 1)]) ∧ Kd.R (Kd.int .u8) 5 w' w.heap.size (fun _ => True) v0 (readL l0 l1 a c) ∧ Below w.heap.size w w' := by
  have hu25 := Try.underlying25
  have hu22 := Try.underlying22
  obtain ⟨i5, hi5, _, hs5, _⟩ := info_parts info5
  unfold readL readOk
  cases hv : validB l0 l1 <;> cases hp : isPartB l0.length a c
  all_goals
    have Hv := Lib.hid hv
    have Hp := Lib.hid hp
    clear hv hp
    go_enter Try.func23, Try.ntmps23
    go_wp2_with (first | ((with_reducible refine gate_dst (N := 3) rfl ?_); (refine box_event ?hg (N := 3) ?hd (cs := #[.slice A0 l0.length c0, .slice A1 l1.length c1]) (t := 25) ?hr ?_); (case hd => rfl); (case hg => rfl); (case hr => first | (go_simp; done) | (go_simp; rfl)); intro g hg w1 hb1 hB1; have hq0 := (blk_cell hb1 0).trans rfl; have hq1 := (blk_cell hb1 1).trans rfl; have HB1 := Lib.hid hB1; have Hb1 := Lib.hid hb1; clear hB1 hb1 hg) | (go_at_call 43; refine (disk_isValid_calls A0 c0 l0 A1 c1 l1 w1 (Kd.C_below h0 HB1.out) hc0 (Kd.C_below h1 HB1.out) hc1).mono ?_; rintro e w3 ⟨rfl, hb3⟩; rw [Hv.out]; have hq6 := (blk_cell (blk_below Hb1.out hb3) 0).trans rfl; have hq7 := (blk_cell (blk_below Hb1.out hb3) 1).trans rfl; have HB3 := Lib.hid (below_then HB1.out HB1.out.size hb3); have Hb3 := Lib.hid (blk_below Hb1.out hb3); clear hb3 Hb1 hq0 hq1) | (go_at_call 44; have hl := ((validB_iff l0 l1).1 Hv.out).1; refine (disk_isPart.calls _ _ l0 _ _ l1 a c _ _ (Kd.C_below h0 HB3.out) hc0 (Kd.C_below h1 HB3.out) hc1 (isPart_f l0 l1 a c (by unfold maxLen; omega))).mono ?_; rintro e w4 ⟨rfl, hb4⟩; rw [Hp.out]; have hq8 := (blk_cell (blk_below Hb3.out hb4) 0).trans rfl; have hq9 := (blk_cell (blk_below Hb3.out hb4) 1).trans rfl; have HB4 := Lib.hid (below_then HB3.out HB3.out.size hb4); have Hb4 := Lib.hid (blk_below Hb3.out hb4); clear hb4 Hb3 hq6 hq7 hl) )
  · go_ret2
    exact ⟨_, rfl, Kd.R_nil _ _ _ _ _, HB3.out⟩
  · go_ret2
    exact ⟨_, rfl, Kd.R_nil _ _ _ _ _, HB3.out⟩
  · go_ret2
    exact ⟨_, rfl, Kd.R_nil _ _ _ _ _, HB4.out⟩
  · have k6 : w4.cell? ⟨g, 0, none⟩ = some (.slice A0 l0.length c0) := hq8
    have k7 : w4.cell? ⟨g, 1, none⟩ = some (.slice A1 l1.length c1) := hq9
    have hl := ((validB_iff l0 l1).1 Hv.out).1
    obtain ⟨ha0, hc00, ha1, hc01⟩ := (isPartB_iff _ _ _).1 Hp.out
    have hwr : IntKind.i64.wrap (a + c) = a + c := IntWalk.i64_in _ (by omega)
    have hlen : (applyL (wholeK l1) l1 l0).length = l0.length := applyN_length _ l0 l1 Hv.out l1.length (Nat.le_refl _)
    have Hlen := Lib.hid hlen
    have hac : 0 ≤ a + c := by omega
    have hac2 : a ≤ a + c := by omega
    clear hq8 hq9 hlen
    go_region_held3 (fun w' => w'.cell? ⟨g, 0, none⟩ = some (.slice A0 l0.length c0) ∧ w'.cell? ⟨g, 1, none⟩ = some (.slice A1 l1.length c1))
      (first | exact ⟨k6, k7⟩ | exact ⟨k8, k9⟩ | exact ⟨k10, k11⟩ | exact ⟨k12, k13⟩)
      ((first | (go_at_call 48; refine (whole_calls A0 l0.length c0 A1 l1.length c1 _).mono ?_; rintro e w5 ⟨B, rfl, hB, hBs, hb5⟩; have k8 := pw_cell_below hb5 k6; have k9 := pw_cell_below hb5 k7; have HB5 := Lib.hid (below_then HB4.out HB4.out.size (below_then (below_drew (Below.refl _ _)) (Nat.le_refl _) hb5)); have HBB := Lib.hid hB; clear hB hb5 hBs) | (go_at_call 47; refine (apply59_calls A0 c0 l0 A1 c1 l1 B _ (wholeK l1) (Kd.C_below h0 HB5.out) hc0 (Kd.C_below h1 HB5.out) hc1 Hv.out ?hwk).mono ?_; (case hwk => intro i w5 hi hb5; refine (whole1_calls i A0 l0.length c0 A1 c1 l1 B w5 hi (blk_below HBB.out hb5) (Kd.C_below (Kd.C_below h1 HB5.out) hb5)).mono ?_; rintro e w6 ⟨rfl, rfl⟩; exact ⟨by simp [wholeK, List.getD, hi], rfl⟩); rintro e w6 ⟨v0, rfl, hr6, hb6⟩; obtain ⟨A5, cap5, rfl⟩ := Kd.R_slice hr6; have hn5 := (Kd.R_reads' hr6).2.1; have hC := (Kd.R_reads' hr6).2.2; have hcut := cut_mid (P := Try.prog) 22 5 .i64 .i64 hu22 hi5 1 hs5 A5 (applyL (wholeK l1) l1 l0).length cap5 a (a + c) ha0 hac2 (by rw [Hlen.out]; omega) hn5; have hmid := Kd.C_mid (lo := a.toNat) (hi := (a + c).toNat) (c := cap5) hC (by omega) (by rw [Hlen.out]; omega) hn5; obtain ⟨dp, hdp⟩ : ∃ dp, dp = (if cap5 = a.toNat then A5 else A5.map (·.add (a.toNat * 1))) := ⟨_, rfl⟩; rw [← hdp] at hcut; have hmid2 : Kd.C (Kd.int .u8) w6 dp (((applyL (wholeK l1) l1 l0).take (a + c).toNat).drop a.toNat).length (((applyL (wholeK l1) l1 l0).take (a + c).toNat).drop a.toNat) := (by rw [hdp]; exact hmid); have hml : (((applyL (wholeK l1) l1 l0).take (a + c).toNat).drop a.toNat).length = (a + c).toNat - a.toNat := (by rw [List.length_drop, List.length_take, Hlen.out]; omega); rw [← hml] at hcut; obtain ⟨M, hM⟩ : ∃ M, M = ((applyL (wholeK l1) l1 l0).take (a + c).toNat).drop a.toNat := ⟨_, rfl⟩; rw [← hM] at hcut hmid2 hml; have HM := Lib.hid hM; have k10 := pw_cell_below hb6 k8; have k11 := pw_cell_below hb6 k9; have HB6 := Lib.hid (below_then HB5.out HB5.out.size hb6); have HC6 := Lib.hid hmid2; have Hml := Lib.hid hml; have Hn5 := Lib.hid hn5; clear hb6 hr6 hn5 hC hmid hmid2 hdp hml hM) | (go_at_call 45; refine (clone_calls dp (cap5 - a.toNat) M _ HC6.out ?hca (by rw [Hml.out]; omega)).mono ?_; (case hca => have := Hn5.out; have := Hlen.out; have := Hml.out; omega); rintro e w7 ⟨v7, rfl, hr7, hb7⟩; have k12 := pw_cell_below hb7 k10; have k13 := pw_cell_below hb7 k11; have HB7 := Lib.hid (below_then HB6.out HB6.out.size hb7); have HR7 := Lib.hid (Kd.R_lower hr7 HB6.out.size); clear hb7 hr7) ))
    go_wp2
    go_ret2
    exact ⟨_, rfl, by have := HR7.out; rw [HM.out] at this; exact this, HB7.out⟩
end Go.Proofs.Ytfpdmlhknddffaa.Dk
