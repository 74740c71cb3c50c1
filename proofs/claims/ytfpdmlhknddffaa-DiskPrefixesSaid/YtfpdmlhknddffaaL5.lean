/- Printed by a program of this session: contracts of functions that the Disk statements reach. -/
import Derived.Test.YtfpdmlhknddffaaL0
namespace Go.Proofs.Ytfpdmlhknddffaa.Dk
open Go.RowKit Go.Proofs.YtfpdmlhknddffaaW.PrintWords Go.Proofs.YtfpdmlhknddffaaW.PrintLast Go.Proofs.YtfpdmlhknddffaaW.PrintMore
attribute [local go_sem] field25 field25b max2_int min2_int max_two min_two max_three min_three max_four min_four   -- for this text's walks alone
set_option linter.unusedVariables false
set_option linter.unusedSimpArgs false

/-! ### wageofficelaw42_DiskPrefixes: function 7 -/
mutual
def wageofficelaw42_DiskPrefixes.j0 : Nat → Int → Bool → Bool → List Int → List (S45) → Option (Bool)
  | 0, _, _, _, _, _ => none
  | k + 1, x1, x5, x17, x265000, x265001 => if x17 = true then (some x5) else (if (wrap64 ((x265001.length : Int) + 1)) = 0 then (none) else (wageofficelaw42_DiskPrefixes.l0 k x5 (Int.tmod (wrap64 (x1)) (wrap64 ((x265001.length : Int) + 1))) ([] : List Int) 0 x265000 x265001))
def wageofficelaw42_DiskPrefixes.l0 : Nat → Bool → Int → List Int → Int → List Int → List (S45) → Option (Bool)
  | 0, _, _, _, _, _, _ => none
  | k + 1, x5, x6, x7, x8, x265000, x265001 => if x8 < x6 then (if 0 ≤ x8 then (if x8 < (x265001.length : Int) then (if x7.length < 17592186044416 then (wageofficelaw42_DiskPrefixes.l0 k x5 x6 (x7 ++ [(((rd_T45 x265001 x8).f1).length : Int)]) (wrap64 (x8 + 1)) x265000 x265001) else (none)) else (none)) else (none)) else (if x5 = true then ((disk_Crash.f x265000 x265001 x7).bind fun bt272 => (if 0 ≤ x6 then (if x6 ≤ (x265001.length : Int) then ((disk_Sync.f x265000 (x265001.take (x6 : Int).toNat)).bind fun bt282 => ((wageofficeref42_Same.f k bt272.1 bt272.2 bt282.1 bt282.2).bind fun t288 => (some t288))) else (none)) else (none))) else (some false))
end
def wageofficelaw42_DiskPrefixes.f (k : Nat) (l0_0 : List Int) (l0_1 : List (S45)) (a1 : Int) : Option (Bool) := (wageofficelaw42_head.f).bind fun t265 => ((wageofficeref42_Small.f k l0_0 l0_1 600).bind fun t266 => (if t266 = true then ((wageofficeref42_Valid.f k l0_0 l0_1).bind fun t267 => (wageofficelaw42_DiskPrefixes.j0 k a1 t265 (!t267) l0_0 l0_1)) else (wageofficelaw42_DiskPrefixes.j0 k a1 t265 true l0_0 l0_1)))
theorem wageofficelaw42_DiskPrefixes.mono_l : ∀ k, (∀ y0 y1 y2 y3 y4, LeO (wageofficelaw42_DiskPrefixes.j0 k y0 y1 y2 y3 y4) (wageofficelaw42_DiskPrefixes.j0 (k + 1) y0 y1 y2 y3 y4)) ∧ (∀ y0 y1 y2 y3 y4 y5, LeO (wageofficelaw42_DiskPrefixes.l0 k y0 y1 y2 y3 y4 y5) (wageofficelaw42_DiskPrefixes.l0 (k + 1) y0 y1 y2 y3 y4 y5))
  | 0 => ⟨fun _ _ _ _ _ r h => by simp [wageofficelaw42_DiskPrefixes.j0] at h, fun _ _ _ _ _ _ r h => by simp [wageofficelaw42_DiskPrefixes.l0] at h⟩
  | k + 1 => by
    obtain ⟨ih0, ih1⟩ := wageofficelaw42_DiskPrefixes.mono_l k
    refine ⟨?_, ?_⟩
    · intro y0 y1 y2 y3 y4
      unfold wageofficelaw42_DiskPrefixes.j0
      repeat' first
      | (with_reducible exact ih0 _ _ _ _ _)
      | (with_reducible exact ih1 _ _ _ _ _ _)
      | (with_reducible exact wageofficeref42_Same.mono _ _ _ _ _)
      | (with_reducible exact wageofficeref42_Small.mono _ _ _ _)
      | (with_reducible exact wageofficeref42_Valid.mono _ _ _)
      | (with_reducible exact LeO.refl _)
      | (with_reducible exact LeO.none _)
      | (with_reducible refine LeO.ite ?_ ?_)
      | (with_reducible refine LeO.bind ?_ (fun _ => ?_))
      | exact ih0 _ _ _ _ _
      | exact ih1 _ _ _ _ _ _
      | exact wageofficeref42_Same.mono _ _ _ _ _
      | exact wageofficeref42_Small.mono _ _ _ _
      | exact wageofficeref42_Valid.mono _ _ _
      | exact LeO.none _
      | refine LeO.ite ?_ ?_
      | refine LeO.bind ?_ (fun _ => ?_)
    · intro y0 y1 y2 y3 y4 y5
      unfold wageofficelaw42_DiskPrefixes.l0
      repeat' first
      | (with_reducible exact ih0 _ _ _ _ _)
      | (with_reducible exact ih1 _ _ _ _ _ _)
      | (with_reducible exact wageofficeref42_Same.mono _ _ _ _ _)
      | (with_reducible exact wageofficeref42_Small.mono _ _ _ _)
      | (with_reducible exact wageofficeref42_Valid.mono _ _ _)
      | (with_reducible exact LeO.refl _)
      | (with_reducible exact LeO.none _)
      | (with_reducible refine LeO.ite ?_ ?_)
      | (with_reducible refine LeO.bind ?_ (fun _ => ?_))
      | exact ih0 _ _ _ _ _
      | exact ih1 _ _ _ _ _ _
      | exact wageofficeref42_Same.mono _ _ _ _ _
      | exact wageofficeref42_Small.mono _ _ _ _
      | exact wageofficeref42_Valid.mono _ _ _
      | exact LeO.none _
      | refine LeO.ite ?_ ?_
      | refine LeO.bind ?_ (fun _ => ?_)
theorem wageofficelaw42_DiskPrefixes.mono : ∀ a0 a1 a2 k, LeO (wageofficelaw42_DiskPrefixes.f k a0 a1 a2) (wageofficelaw42_DiskPrefixes.f (k + 1) a0 a1 a2) := by
  intro a0 a1 a2 k
  obtain ⟨ih0, ih1⟩ := wageofficelaw42_DiskPrefixes.mono_l k
  unfold wageofficelaw42_DiskPrefixes.f
  repeat' first
      | (with_reducible exact ih0 _ _ _ _ _)
      | (with_reducible exact ih1 _ _ _ _ _ _)
      | (with_reducible exact wageofficeref42_Same.mono _ _ _ _ _)
      | (with_reducible exact wageofficeref42_Small.mono _ _ _ _)
      | (with_reducible exact wageofficeref42_Valid.mono _ _ _)
      | (with_reducible exact LeO.refl _)
      | (with_reducible exact LeO.none _)
      | (with_reducible refine LeO.ite ?_ ?_)
      | (with_reducible refine LeO.bind ?_ (fun _ => ?_))
      | exact ih0 _ _ _ _ _
      | exact ih1 _ _ _ _ _ _
      | exact wageofficeref42_Same.mono _ _ _ _ _
      | exact wageofficeref42_Small.mono _ _ _ _
      | exact wageofficeref42_Valid.mono _ _ _
      | exact LeO.none _
      | refine LeO.ite ?_ ?_
      | refine LeO.bind ?_ (fun _ => ?_)
def wageofficelaw42_DiskPrefixes.T10 : Bool × List (List Nat × List Nat) := (true, [([], []), ([0], [0]), ([1], [1]), ([1], [1]), ([2, 3, 1, 1], [1, 2, 3]), ([1], [1]), ([5, 1], [1, 5]), ([1], [1]), ([7, 1], [1, 7]), ([1], [1]), ([8, 9, 1], [1, 8, 9]), ([6, 10, 1], [1, 6, 10]), ([11, 4, 1], [1, 11]), ([4, 12, 12, 1], [1, 4, 12]), ([1, 13], [1, 13]), ([14, 13, 0, 1, 2, 3, 4, 5, 6, 7, 8, 9, 10, 11, 12, 13, 14], [14])])
def wageofficelaw42_DiskPrefixes.B10 : List Nat := [0, 1, 3, 3, 15, 3, 35, 3, 131, 3, 899, 2019, 4095, 8191, 16383, 32767]
theorem wageofficelaw42_DiskPrefixes.tab10 : rtab .any (opsOf Try.f7 10) = wageofficelaw42_DiskPrefixes.T10 := by kernel_rfl
theorem wageofficelaw42_DiskPrefixes.bits10 : waitsOk wageofficelaw42_DiskPrefixes.T10.2 wageofficelaw42_DiskPrefixes.B10 = true := by kernel_rfl
set_option maxHeartbeats 8000000 in
set_option maxRecDepth 100000 in
theorem wageofficelaw42_DiskPrefixes.calls (k : Nat) (A0_0 : Option Addr) (c0_0 : Nat) (l0_0 : List Int) (A0_1 : Option Addr) (c0_1 : Nat) (l0_1 : List (S45)) (a1 : Int) (r : Bool) (w : World) (hr0_0 : Kd.C (Kd.int .u8) w A0_0 l0_0.length l0_0) (hc0_0 : l0_0.length ≤ c0_0) (hr0_1 : Kd.C k45 w A0_1 l0_1.length l0_1) (hc0_1 : l0_1.length ≤ c0_1) (h : wageofficelaw42_DiskPrefixes.f k l0_0 l0_1 a1 = some r) :
    Calls Try.prog 7 #[.agg #[.slice A0_0 l0_0.length c0_0, .slice A0_1 l0_1.length c0_1], .int .u8 a1] w fun e w' => e = .returned (.bool r) ∧ Below w.heap.size w w' := by
  have hu25 := Try.underlying25
  have HR0_0 := Aside0.mk hr0_0
  have HC0_0 := Aside0.mk hc0_0
  clear hr0_0 hc0_0
  have HR0_1 := Aside0.mk hr0_1
  have HC0_1 := Aside0.mk hc0_1
  clear hr0_1 hc0_1
  have HB := Aside0.mk (Below.refl w.heap.size w)
  have H : ((wageofficelaw42_head.f).bind fun t265 => ((wageofficeref42_Small.f k l0_0 l0_1 600).bind fun t266 => (if t266 = true then ((wageofficeref42_Valid.f k l0_0 l0_1).bind fun t267 => (wageofficelaw42_DiskPrefixes.j0 k a1 t265 (!t267) l0_0 l0_1)) else (wageofficelaw42_DiskPrefixes.j0 k a1 t265 true l0_0 l0_1)))) = some r := h
  clear h
  replace H := Option.bind_eq_some_iff.mp H
  obtain ⟨t265, A30, H⟩ := H
  replace H : ((wageofficeref42_Small.f k l0_0 l0_1 600).bind fun t266 => (if t266 = true then ((wageofficeref42_Valid.f k l0_0 l0_1).bind fun t267 => (wageofficelaw42_DiskPrefixes.j0 k a1 t265 (!t267) l0_0 l0_1)) else (wageofficelaw42_DiskPrefixes.j0 k a1 t265 true l0_0 l0_1))) = some r := H
  have A3 := Aside0.mk A30
  clear A30
  have HC4 := Aside0.mk H
  clear H
  go_enter Try.func7, Try.ntmps7
  go_upto_region 2 with (first | ((with_reducible refine gate_dst (N := 2) rfl ?_); refine box_event ?hg (N := 2) ?hd (cs := #[.slice A0_0 l0_0.length c0_0, .slice A0_1 l0_1.length c0_1]) (t := 25) ?hr ?_; (case hd => rfl); (case hg => rfl); (case hr => first | (go_simp; done) | (go_simp; rfl)); intro gb264 hg w5 hbox hb; have n0_ := Aside0.mk (below_step (by repeat (first | (with_reducible first | exact HB.out | apply below_alloc | apply pw_below_drewN | apply below_drew1) | exact HB.out)) hb); have n1_ := Aside0.mk (hbox); have n2_ := Aside0.mk ((by rw [hg]; exact (below_size (by repeat (first | (with_reducible first | exact HB.out | apply below_alloc | apply pw_below_drewN | apply below_drew1) | exact HB.out))) : w.heap.size ≤ gb264)); have n3_ := Aside0.mk ((by rw [hg]; exact (below_size (by repeat (first | (with_reducible first | exact HB.out | apply below_alloc | apply pw_below_drewN | apply below_drew1) | exact HB.out))) : w.heap.size ≤ gb264)); clear HB; have HB := n0_; have BK264 := n1_; have GW264 := n2_; have GE264 := n3_; clear n0_ n1_ n2_ n3_; clear hb hbox hg) | ((with_reducible refine gate_callee (f := 16) rfl ?_); refine goesL_ (some 9) rfl rfl Try.func16 (by kernel_rfl) rfl #[] rfl (by (try simp only [List.map_toArray, List.map_cons, List.map_nil]); first | done | rfl | (simp only [List.length_drop, List.length_take]; rfl)) ?_; (with_reducible refine (wageofficelaw42_head.calls  t265 _ A3.out).mono ?_); rintro e w6 ⟨rfl, hb⟩; refine ⟨_, rfl, ?_⟩; have n0_ := Aside0.mk (blk_below (g := gb264) (o := .cells #[.slice A0_0 l0_0.length c0_0, .slice A0_1 l0_1.length c0_1] 25 (0, 0)) (by (with_reducible repeat (first | refine blk_drewN ?_ _ | refine blk_drew ?_ | refine blk_alloc ?_ _)); exact BK264.out) hb); have n1_ := Aside0.mk (below_step (by repeat (first | (with_reducible first | exact HB.out | apply below_alloc | apply pw_below_drewN | apply below_drew1 | refine below_set ?_ GE264.out) | exact HB.out)) hb); clear BK264; clear HB; have BK264 := n0_; have HB := n1_; clear n0_ n1_; (try clear hb); (try clear hb2); (try clear hk); (try clear hi)))
  (try simp only [Act.put, List.setIfInBounds_toArray, List.set_cons_zero, List.set_cons_succ])
  go_cut [17] (fun v17 wc => ∃ (kq : Nat) (x17_3 : Bool), v17 = .bool x17_3 ∧ Aside0 (wageofficelaw42_DiskPrefixes.j0 kq a1 t265 x17_3 l0_0 l0_1 = some r) ∧ Aside0 (kq ≤ k) ∧ Aside0 (wc.heap[gb264]? = some (.cells #[(.slice A0_0 l0_0.length c0_0), (.slice A0_1 l0_1.length c0_1)] 25 (0, 0))) ∧ Aside0 (Below w.heap.size w wc))
  case first =>
    have H := HC4.out
    clear HC4
    replace H := Option.bind_eq_some_iff.mp H
    obtain ⟨t266, A70, H⟩ := H
    replace H : (if t266 = true then ((wageofficeref42_Valid.f k l0_0 l0_1).bind fun t267 => (wageofficelaw42_DiskPrefixes.j0 k a1 t265 (!t267) l0_0 l0_1)) else (wageofficelaw42_DiskPrefixes.j0 k a1 t265 true l0_0 l0_1)) = some r := H
    have A7 := Aside0.mk A70
    clear A70
    by_cases c8 : t266 = true
    · subst c8
      have H1 : ((wageofficeref42_Valid.f k l0_0 l0_1).bind fun t267 => (wageofficelaw42_DiskPrefixes.j0 k a1 t265 (!t267) l0_0 l0_1)) = some r := by rw [if_pos rfl] at H; exact H
      clear H
      have H := H1
      clear H1
      replace H := Option.bind_eq_some_iff.mp H
      obtain ⟨t267, A90, H⟩ := H
      replace H : (wageofficelaw42_DiskPrefixes.j0 k a1 t265 (!t267) l0_0 l0_1) = some r := H
      have A9 := Aside0.mk A90
      clear A90
      have H' := Aside0.mk H
      clear H
      have hcz10_0 : w6.cell? ⟨gb264, 0, none⟩ = some (.slice A0_0 l0_0.length c0_0) := (blk_cell BK264.out 0).trans rfl
      have hcz10_1 : w6.cell? ⟨gb264, 1, none⟩ = some (.slice A0_1 l0_1.length c0_1) := (blk_cell BK264.out 1).trans rfl
      have hfz10_0 := blk_frozen BK264.out 0
      have hfz10_1 := blk_frozen BK264.out 1
      go_wp2_with (first | ((with_reducible refine gate_callee (f := 20) rfl ?_); refine goesL_ (some 11) rfl rfl Try.func20 (by kernel_rfl) rfl #[.agg #[.slice A0_0 l0_0.length c0_0, .slice A0_1 l0_1.length c0_1], .int .i64 600] rfl (by (try simp only [List.map_toArray, List.map_cons, List.map_nil]); first | done | rfl | (simp only [List.length_drop, List.length_take]; rfl)) ?_; (with_reducible refine (wageofficeref42_Small.calls k _ _ l0_0 _ _ l0_1 600 true _ ?side1 ?side2 ?side3 ?side4 A7.out).mono ?_); (case side1 => repeat (first | exact (Kd.C_below HR0_0.out HB.out) | (with_reducible refine Kd.C_alloc ?_ _) | (with_reducible refine Kd.C_drewN ?_ _) | (with_reducible refine Kd.C_drew ?_))); (case side2 => exact HC0_0.out); (case side3 => repeat (first | exact (Kd.C_below HR0_1.out HB.out) | (with_reducible refine Kd.C_alloc ?_ _) | (with_reducible refine Kd.C_drewN ?_ _) | (with_reducible refine Kd.C_drew ?_))); (case side4 => exact HC0_1.out); rintro e w11 ⟨rfl, hb⟩; refine ⟨_, rfl, ?_⟩; have n0_ := Aside0.mk (blk_below (g := gb264) (o := .cells #[.slice A0_0 l0_0.length c0_0, .slice A0_1 l0_1.length c0_1] 25 (0, 0)) (by (with_reducible repeat (first | refine blk_drewN ?_ _ | refine blk_drew ?_ | refine blk_alloc ?_ _)); exact BK264.out) hb); have n1_ := Aside0.mk (below_step (by repeat (first | (with_reducible first | exact HB.out | apply below_alloc | apply pw_below_drewN | apply below_drew1 | refine below_set ?_ GE264.out) | exact HB.out)) hb); clear BK264; clear HB; have BK264 := n0_; have HB := n1_; clear n0_ n1_; (try clear hb); (try clear hb2); (try clear hk); (try clear hi); have hcz12_0 : w11.cell? ⟨gb264, 0, none⟩ = some (.slice A0_0 l0_0.length c0_0) := (blk_cell BK264.out 0).trans rfl; have hcz12_1 : w11.cell? ⟨gb264, 1, none⟩ = some (.slice A0_1 l0_1.length c0_1) := (blk_cell BK264.out 1).trans rfl; have hfz12_0 := blk_frozen BK264.out 0; have hfz12_1 := blk_frozen BK264.out 1) | (go_at_call 31; (with_reducible refine (wageofficeref42_Valid.calls k _ _ l0_0 _ _ l0_1 t267 _ ?side1 ?side2 ?side3 ?side4 A9.out).mono ?_); (case side1 => repeat (first | exact (Kd.C_below HR0_0.out HB.out) | (with_reducible refine Kd.C_alloc ?_ _) | (with_reducible refine Kd.C_drewN ?_ _) | (with_reducible refine Kd.C_drew ?_))); (case side2 => exact HC0_0.out); (case side3 => repeat (first | exact (Kd.C_below HR0_1.out HB.out) | (with_reducible refine Kd.C_alloc ?_ _) | (with_reducible refine Kd.C_drewN ?_ _) | (with_reducible refine Kd.C_drew ?_))); (case side4 => exact HC0_1.out); rintro e w13 ⟨rfl, hb⟩; have n0_ := Aside0.mk (blk_below (g := gb264) (o := .cells #[.slice A0_0 l0_0.length c0_0, .slice A0_1 l0_1.length c0_1] 25 (0, 0)) (by (with_reducible repeat (first | refine blk_drewN ?_ _ | refine blk_drew ?_ | refine blk_alloc ?_ _)); exact BK264.out) hb); have n1_ := Aside0.mk (below_step (by repeat (first | (with_reducible first | exact HB.out | apply below_alloc | apply pw_below_drewN | apply below_drew1 | refine below_set ?_ GE264.out) | exact HB.out)) hb); clear BK264; clear HB; have BK264 := n0_; have HB := n1_; clear n0_ n1_; (try clear hb); (try clear hb2); (try clear hk); (try clear hi)))
      go_meet
      case rel => exact ⟨_, (!t267), (by first | rfl | (simp; done) | (simp [*]; done)), H', ⟨by first | omega | exact Nat.le_refl _⟩, ⟨by (with_reducible repeat (first | refine blk_drewN ?_ _ | refine blk_drew ?_ | refine blk_alloc ?_ _)); exact BK264.out⟩, ⟨by repeat (first | (with_reducible first | exact HB.out | apply below_alloc | apply pw_below_drewN | apply below_drew1 | refine below_set ?_ GE264.out) | exact HB.out)⟩⟩
    · replace c8 := Bool.eq_false_iff.mpr c8
      subst c8
      have H1 : (wageofficelaw42_DiskPrefixes.j0 k a1 t265 true l0_0 l0_1) = some r := by rw [if_neg (show ¬ (false = true) by decide)] at H; exact H
      clear H
      have H := H1
      clear H1
      have H' := Aside0.mk H
      clear H
      have hcz14_0 : w6.cell? ⟨gb264, 0, none⟩ = some (.slice A0_0 l0_0.length c0_0) := (blk_cell BK264.out 0).trans rfl
      have hcz14_1 : w6.cell? ⟨gb264, 1, none⟩ = some (.slice A0_1 l0_1.length c0_1) := (blk_cell BK264.out 1).trans rfl
      have hfz14_0 := blk_frozen BK264.out 0
      have hfz14_1 := blk_frozen BK264.out 1
      go_wp2_with (first | ((with_reducible refine gate_callee (f := 20) rfl ?_); refine goesL_ (some 11) rfl rfl Try.func20 (by kernel_rfl) rfl #[.agg #[.slice A0_0 l0_0.length c0_0, .slice A0_1 l0_1.length c0_1], .int .i64 600] rfl (by (try simp only [List.map_toArray, List.map_cons, List.map_nil]); first | done | rfl | (simp only [List.length_drop, List.length_take]; rfl)) ?_; (with_reducible refine (wageofficeref42_Small.calls k _ _ l0_0 _ _ l0_1 600 false _ ?side1 ?side2 ?side3 ?side4 A7.out).mono ?_); (case side1 => repeat (first | exact (Kd.C_below HR0_0.out HB.out) | (with_reducible refine Kd.C_alloc ?_ _) | (with_reducible refine Kd.C_drewN ?_ _) | (with_reducible refine Kd.C_drew ?_))); (case side2 => exact HC0_0.out); (case side3 => repeat (first | exact (Kd.C_below HR0_1.out HB.out) | (with_reducible refine Kd.C_alloc ?_ _) | (with_reducible refine Kd.C_drewN ?_ _) | (with_reducible refine Kd.C_drew ?_))); (case side4 => exact HC0_1.out); rintro e w15 ⟨rfl, hb⟩; refine ⟨_, rfl, ?_⟩; have n0_ := Aside0.mk (blk_below (g := gb264) (o := .cells #[.slice A0_0 l0_0.length c0_0, .slice A0_1 l0_1.length c0_1] 25 (0, 0)) (by (with_reducible repeat (first | refine blk_drewN ?_ _ | refine blk_drew ?_ | refine blk_alloc ?_ _)); exact BK264.out) hb); have n1_ := Aside0.mk (below_step (by repeat (first | (with_reducible first | exact HB.out | apply below_alloc | apply pw_below_drewN | apply below_drew1 | refine below_set ?_ GE264.out) | exact HB.out)) hb); clear BK264; clear HB; have BK264 := n0_; have HB := n1_; clear n0_ n1_; (try clear hb); (try clear hb2); (try clear hk); (try clear hi)))
      go_meet
      case rel => exact ⟨_, (true), (by first | rfl | (simp; done) | (simp [*]; done)), H', ⟨by first | omega | exact Nat.le_refl _⟩, ⟨by (with_reducible repeat (first | refine blk_drewN ?_ _ | refine blk_drew ?_ | refine blk_alloc ?_ _)); exact BK264.out⟩, ⟨by repeat (first | (with_reducible first | exact HB.out | apply below_alloc | apply pw_below_drewN | apply below_drew1 | refine below_set ?_ GE264.out) | exact HB.out)⟩⟩
  case rest =>
    clear HC4
    try clear c1
    try clear c2
    try clear p2
    try clear c7
    try clear c8
    try clear hcz10_0
    try clear hcz10_1
    try clear hcz12_0
    try clear hcz12_1
    try clear hcz14_0
    try clear hcz14_1
    try clear hfz10_0
    try clear hfz10_1
    try clear hfz12_0
    try clear hfz12_1
    try clear hfz14_0
    try clear hfz14_1
    obtain ⟨kq, x17_3, rfl, HA, HJ3, BK264, HB⟩ := hcut
    cases kq with
    | zero => exact absurd HA.out (by simp [wageofficelaw42_DiskPrefixes.j0])
    | succ kj3 =>
      have H := HA.out
      clear HA
      simp only [wageofficelaw42_DiskPrefixes.j0] at H
      by_cases c16 : x17_3 = true
      · subst c16
        have H1 : (some t265) = some r := by rw [if_pos rfl] at H; exact H
        clear H
        have H := H1
        clear H1
        obtain rfl := Option.some.inj H
        go_wp2
        go_ret
        exact ⟨by first | rfl | (simp [errW_none, errW_some] <;> rfl) | (simp [*, errW_none, errW_some] <;> rfl), by repeat (first | (with_reducible first | exact HB.out | apply below_alloc | apply pw_below_drewN | apply below_drew1 | refine below_set ?_ GE264.out) | exact HB.out)⟩
      · replace c16 := Bool.eq_false_iff.mpr c16
        subst c16
        have H1 : (if (wrap64 ((l0_1.length : Int) + 1)) = 0 then (none) else (wageofficelaw42_DiskPrefixes.l0 kj3 t265 (Int.tmod (wrap64 (a1)) (wrap64 ((l0_1.length : Int) + 1))) ([] : List Int) 0 l0_0 l0_1)) = some r := by rw [if_neg (show ¬ (false = true) by decide)] at H; exact H
        clear H
        have H := H1
        clear H1
        by_cases c17 : (wrap64 ((l0_1.length : Int) + 1)) = 0
        · rw [if_pos c17] at H
          exact absurd H (by simp)
        · rw [if_neg c17] at H
          have c17b0 : ((wrap64 ((l0_1.length : Int) + 1)) == 0) = false := beq_eq_false_iff_ne.mpr c17
          have c17b1 : ((wrap64 ((l0_1.length : Int) + 1)) != 0) = true := bne_iff_ne.mpr c17
          have H' := Aside0.mk H
          clear H
          have hcz18_0 : wc.cell? ⟨gb264, 0, none⟩ = some (.slice A0_0 l0_0.length c0_0) := (blk_cell BK264.out 0).trans rfl
          have hcz18_1 : wc.cell? ⟨gb264, 1, none⟩ = some (.slice A0_1 l0_1.length c0_1) := (blk_cell BK264.out 1).trans rfl
          have hfz18_0 := blk_frozen BK264.out 0
          have hfz18_1 := blk_frozen BK264.out 1
          go_wp2
          go_loopg [7, 8] kj3 (fun kq v7 v8 w' => ∃ (x7_2 : List Int) (x8_2 : Int), v8 = .int .i64 x8_2 ∧ Aside0 (wageofficelaw42_DiskPrefixes.l0 kq t265 (Int.tmod (wrap64 (a1)) (wrap64 ((l0_1.length : Int) + 1))) x7_2 x8_2 l0_0 l0_1 = some r) ∧ Aside0 (kq ≤ kj3) ∧ Aside0 (Kd.R (Kd.int .i64) 3 w' w.heap.size (fun _ => True) v7 x7_2) ∧ Aside0 (w'.heap[gb264]? = some (.cells #[(.slice A0_0 l0_0.length c0_0), (.slice A0_1 l0_1.length c0_1)] 25 (0, 0))) ∧ Aside0 (Below w.heap.size w w'))
          case atStart => exact ⟨(([] : List Int)), (0), (by first | rfl | (simp; done) | (simp [*]; done)), H', ⟨Nat.le_refl _⟩, ⟨by first | exact Kd.R_nil _ _ _ _ _ | exact Kd.N_nil _ _ _ _ _ | exact Kd.V_nil _ _ _ _ _ | exact Kd.Q_nil _ _ _ _ _ | exact Kd.S_nil _ _ _ _ _⟩, ⟨by (with_reducible repeat (first | refine blk_drewN ?_ _ | refine blk_drew ?_ | refine blk_alloc ?_ _)); exact BK264.out⟩, ⟨by repeat (first | (with_reducible first | exact HB.out | apply below_alloc | apply pw_below_drewN | apply below_drew1 | refine below_set ?_ GE264.out) | exact HB.out)⟩⟩
          case round =>
            clear H'
            try clear c1
            try clear c2
            try clear p2
            try clear p6
            try clear c7
            try clear c8
            try clear c16
            try clear c17
            try clear c17b0
            try clear c17b1
            try clear hcz10_0
            try clear hcz10_1
            try clear hcz12_0
            try clear hcz12_1
            try clear hcz14_0
            try clear hcz14_1
            try clear hcz18_0
            try clear hcz18_1
            try clear hfz10_0
            try clear hfz10_1
            try clear hfz12_0
            try clear hfz12_1
            try clear hfz14_0
            try clear hfz14_1
            try clear hfz18_0
            try clear hfz18_1
            try clear p2
            obtain ⟨x7_2, x8_2, rfl, HA, HK2, HO_7, BK264, HB⟩ := hrel
            cases gk with
            | zero => exact absurd HA.out (by simp [wageofficelaw42_DiskPrefixes.l0])
            | succ k2 =>
              have H := HA.out
              clear HA
              simp only [wageofficelaw42_DiskPrefixes.l0] at H
              by_cases c19 : x8_2 < (Int.tmod (wrap64 (a1)) (wrap64 ((l0_1.length : Int) + 1)))
              · rw [if_pos c19] at H
                have c19b0 : decide (x8_2 < (Int.tmod (wrap64 (a1)) (wrap64 ((l0_1.length : Int) + 1)))) = true := decide_eq_true c19
                clear c19
                by_cases c20 : 0 ≤ x8_2
                · rw [if_pos c20] at H
                  have c20b0 : decide (0 ≤ x8_2) = true := decide_eq_true c20
                  clear c20
                  by_cases c21 : x8_2 < (l0_1.length : Int)
                  · rw [if_pos c21] at H
                    have c21b0 : decide (x8_2 < (l0_1.length : Int)) = true := decide_eq_true c21
                    clear c21
                    by_cases c22 : x7_2.length < 17592186044416
                    · rw [if_pos c22] at H
                      have LMc22 := Aside0.mk c22
                      clear c22
                      obtain ⟨y269, hy269⟩ : ∃ y_ : List Int, y_ = (x7_2 ++ [(((rd_T45 l0_1 x8_2).f1).length : Int)]) := ⟨_, rfl⟩
                      replace H : (wageofficelaw42_DiskPrefixes.l0 k2 t265 (Int.tmod (wrap64 (a1)) (wrap64 ((l0_1.length : Int) + 1))) y269 (wrap64 (x8_2 + 1)) l0_0 l0_1) = some r := by first | (rw [hy269]; with_reducible exact H) | (have H2_ := (Option.bind_some _ _).symm.trans H; rw [hy269]; with_reducible exact H2_) | (have H2_ := (Option.bind_some _ _).symm.trans H; with_reducible exact H2_) | with_reducible exact H | (rw [hy269]; exact H) | exact H
                      have Ny269 := Aside0.mk hy269
                      clear hy269
                      have H' := Aside0.mk H
                      clear H
                      have hcz23_0 : wr.cell? ⟨gb264, 0, none⟩ = some (.slice A0_0 l0_0.length c0_0) := (blk_cell BK264.out 0).trans rfl
                      have hcz23_1 : wr.cell? ⟨gb264, 1, none⟩ = some (.slice A0_1 l0_1.length c0_1) := (blk_cell BK264.out 1).trans rfl
                      have hfz23_0 := blk_frozen BK264.out 0
                      have hfz23_1 := blk_frozen BK264.out 1
                      have p268 : 0 ≤ (x8_2 : Int) := of_decide_eq_true (by first | (with_reducible assumption) | assumption)
                      have q268 : x8_2 < (l0_1.length : Int) := of_decide_eq_true (by first | (with_reducible assumption) | assumption)
                      obtain ⟨ad268, A268_1, c268_1, e268, hx268_0, hx268_1, hl268_1, hi268_1⟩ := at_T45 HR0_1.out x8_2 p268 q268
                      cases e268
                      replace hx268_0 := (HB.out.cell (World.block_lt_of_cell? w _ hx268_0)).trans hx268_0
                      replace hx268_1 := (HB.out.cell (World.block_lt_of_cell? w _ hx268_1)).trans hx268_1
                      have HR268_1 := Aside0.mk hi268_1
                      have HC268_1 := Aside0.mk hl268_1
                      clear hi268_1 hl268_1
                      replace p268 := eq_true p268
                      replace q268 := eq_true q268
                      go_wp2_with (first | ((with_reducible refine gate_builtin (b := .append) (xs := #[.tmp 31, .tmp 39]) rfl ?_); at_builtin; refine Kd.R_append (Kd.int .i64) (w0 := w) w.heap.size rfl (.tmp 31) (.tmp 39) 26 3 (.int .i64 0) 8 rfl Try.underlying26 info3 rfl (by decide) (by omega) u7 x7_2 (((rd_T45 l0_1 x8_2).f1).length : Int) [.int .i64 (((rd_T45 l0_1 x8_2).f1).length : Int)] (fun _ => True) (fun _ => False) rfl rfl ?aP (fun _ hk => hk.elim) ?aF ?aO ?aB ?aS ?aL ?_; (case aP => exact rfl); (case aB => exact (by repeat (first | (with_reducible first | exact HB.out | apply below_alloc | apply pw_below_drewN | apply below_drew1 | refine below_set ?_ GE264.out) | exact HB.out))); (case aF => exact (fun _ _ => trivial)); (case aO => exact (by (with_reducible repeat (first | apply Kd.R_alloc | apply Kd.R_drewN | apply Kd.R_drew)); exact HO_7.out)); (case aS => exact (below_size (by repeat (first | (with_reducible first | exact HB.out | apply below_alloc | apply pw_below_drewN | apply below_drew1 | refine below_set ?_ GE264.out) | exact HB.out)))); (case aL => have := LMc22.out; omega); intro v270 w24 ho hb hg hat; rw [← Ny269.out] at ho; have n0_ := Aside0.mk (blk_grown (g := gb264) (o := .cells #[.slice A0_0 l0_0.length c0_0, .slice (some ad268) l0_1.length c0_1] 25 (0, 0)) (by (with_reducible repeat (first | refine blk_drewN ?_ _ | refine blk_drew ?_ | refine blk_alloc ?_ _)); exact BK264.out) hg (Kd.R_ne HO_7.out BK264.out (by decide))); have n1_ := Aside0.mk (hb); have n2_ := Aside0.mk (ho); clear BK264; clear HB; clear HO_7; have BK264 := n0_; have HB := n1_; have HO271 := n2_; clear n0_ n1_ n2_; clear ho hb hg hat))
                      go_roundg k2
                      case measure => have := HJ3.out; have := HK2.out; omega
                      case rel => exact ⟨(y269), (wrap64 (x8_2 + 1)), (by first | rfl | (simp; done) | (simp [*]; done)), H', ⟨by have := HJ3.out; have := HK2.out; omega⟩, ⟨by (with_reducible repeat (first | apply Kd.R_alloc | apply Kd.R_drewN | apply Kd.R_drew)); exact HO271.out⟩, ⟨by (with_reducible repeat (first | refine blk_drewN ?_ _ | refine blk_drew ?_ | refine blk_alloc ?_ _)); exact BK264.out⟩, ⟨by repeat (first | (with_reducible first | exact HB.out | apply below_alloc | apply pw_below_drewN | apply below_drew1 | refine below_set ?_ GE264.out) | exact HB.out)⟩⟩
                    · rw [if_neg c22] at H
                      exact absurd H (by simp)
                  · rw [if_neg c21] at H
                    exact absurd H (by simp)
                · rw [if_neg c20] at H
                  exact absurd H (by simp)
              · rw [if_neg c19] at H
                have c19b0 : decide (x8_2 < (Int.tmod (wrap64 (a1)) (wrap64 ((l0_1.length : Int) + 1)))) = false := decide_eq_false c19
                clear c19
                by_cases c25 : t265 = true
                · subst c25
                  have H1 : ((disk_Crash.f l0_0 l0_1 x7_2).bind fun bt272 => (if 0 ≤ (Int.tmod (wrap64 (a1)) (wrap64 ((l0_1.length : Int) + 1))) then (if (Int.tmod (wrap64 (a1)) (wrap64 ((l0_1.length : Int) + 1))) ≤ (l0_1.length : Int) then ((disk_Sync.f l0_0 (l0_1.take ((Int.tmod (wrap64 (a1)) (wrap64 ((l0_1.length : Int) + 1))) : Int).toNat)).bind fun bt282 => ((wageofficeref42_Same.f k2 bt272.1 bt272.2 bt282.1 bt282.2).bind fun t288 => (some t288))) else (none)) else (none))) = some r := by rw [if_pos rfl] at H; exact H
                  clear H
                  have H := H1
                  clear H1
                  replace H := Option.bind_eq_some_iff.mp H
                  obtain ⟨⟨t272, t275⟩, A260, H⟩ := H
                  replace H : (if 0 ≤ (Int.tmod (wrap64 (a1)) (wrap64 ((l0_1.length : Int) + 1))) then (if (Int.tmod (wrap64 (a1)) (wrap64 ((l0_1.length : Int) + 1))) ≤ (l0_1.length : Int) then ((disk_Sync.f l0_0 (l0_1.take ((Int.tmod (wrap64 (a1)) (wrap64 ((l0_1.length : Int) + 1))) : Int).toNat)).bind fun bt282 => ((wageofficeref42_Same.f k2 t272 t275 bt282.1 bt282.2).bind fun t288 => (some t288))) else (none)) else (none)) = some r := H
                  have A26 := Aside0.mk A260
                  clear A260
                  obtain ⟨ji27, hji27⟩ : ∃ j_ : Int, (Int.tmod (wrap64 (a1)) (wrap64 ((l0_1.length : Int) + 1))) = j_ := ⟨_, rfl⟩
                  replace H : (if 0 ≤ (ji27) then (if (ji27) ≤ (l0_1.length : Int) then ((disk_Sync.f l0_0 (l0_1.take ((ji27) : Int).toNat)).bind fun bt282 => ((wageofficeref42_Same.f k2 t272 t275 bt282.1 bt282.2).bind fun t288 => (some t288))) else (none)) else (none)) = some r := by first | (rw [hji27] at H; exact H) | (simp only [hji27] at H ⊢; exact H)
                  (try rw [hji27] at c19b0)
                  (try rw [hji27] at A26)
                  by_cases c28 : 0 ≤ (ji27)
                  · rw [if_pos c28] at H
                    have c28b0 := eq_true c28
                    have c28b1 : decide (0 ≤ (ji27)) = true := decide_eq_true c28
                    clear c28
                    by_cases c29 : (ji27) ≤ (l0_1.length : Int)
                    · rw [if_pos c29] at H
                      have c29b0 := eq_true c29
                      have c29b1 : decide ((ji27) ≤ (l0_1.length : Int)) = true := decide_eq_true c29
                      clear c29
                      obtain ⟨y278, hy278⟩ : ∃ y_ : List (S45), y_ = (l0_1.take ((ji27) : Int).toNat) := ⟨_, rfl⟩
                      replace H : ((disk_Sync.f l0_0 y278).bind fun bt282 => ((wageofficeref42_Same.f k2 t272 t275 bt282.1 bt282.2).bind fun t288 => (some t288))) = some r := by first | (rw [hy278]; with_reducible exact H) | (have H2_ := (Option.bind_some _ _).symm.trans H; rw [hy278]; with_reducible exact H2_) | (have H2_ := (Option.bind_some _ _).symm.trans H; with_reducible exact H2_) | with_reducible exact H | (rw [hy278]; exact H) | exact H
                      have Ny278 := Aside0.mk hy278
                      clear hy278
                      replace H := Option.bind_eq_some_iff.mp H
                      obtain ⟨⟨t282, t285⟩, A300, H⟩ := H
                      replace H : ((wageofficeref42_Same.f k2 t272 t275 t282 t285).bind fun t288 => (some t288)) = some r := H
                      have A30 := Aside0.mk A300
                      clear A300
                      replace H := Option.bind_eq_some_iff.mp H
                      obtain ⟨t288, A310, H⟩ := H
                      replace H : (some t288) = some r := H
                      have A31 := Aside0.mk A310
                      clear A310
                      obtain rfl := Option.some.inj H
                      try go_wp2
                      have n0_ := Aside0.mk (Kd.R_drew HO_7.out)
                      have n1_ := Aside0.mk (blk_drew BK264.out)
                      have n2_ := Aside0.mk (below_drew1 HB.out)
                      clear HO_7
                      clear BK264
                      clear HB
                      have HO_7 := n0_
                      have BK264 := n1_
                      have HB := n2_
                      clear n0_ n1_ n2_
                      have q33 : ((ji27) : Int) ≤ ((l0_1.length : Int) : Int) := of_decide_eq_true (by first | (with_reducible assumption) | assumption)
                      obtain ⟨i033, hi033, _, hsz33, _⟩ := info_parts info45
                      have hroom33 : l0_1.length ≤ c0_1 := HC0_1.out
                      have hC33 : Kd.C k45 _ A0_1 l0_1.length l0_1 := HR0_1.out
                      have hcut33 := cut_to (P := Try.prog) 23 45 .i64 Try.underlying23 hi033 A0_1 l0_1.length c0_1 (ji27) (of_decide_eq_true (by first | (with_reducible assumption) | assumption)) q33 hroom33
                      have hr33 := Kd.C_take (m := ((ji27) : Int).toNat) hC33 (by omega)
                      have hy33 : y278.length = ((ji27) : Int).toNat := (by rw [Ny278.out, List.length_take]; omega)
                      rw [← Ny278.out] at hr33
                      rw [← hy33] at hcut33
                      have HR281 := Aside0.mk hr33
                      have HC281 := Aside0.mk (show y278.length ≤ c0_1 from by omega)
                      clear hr33 hC33 hroom33 hi033 hsz33
                      have KY33 := Aside0.mk hy33
                      clear hy33
                      replace q33 := eq_true q33
                      obtain ⟨Ao34, co34, eo34⟩ := Kd.R_slice HO_7.out
                      (first | subst eo34 | (injection eo34 with f1_ f2_ f3_; have f4_ := f1_.symm; have f5_ := f3_.symm; clear f1_ f2_ f3_; subst f4_; subst f5_))
                      refine start_ (n := 16) (S := fun w' => w'.cell? ⟨gb264, 0, none⟩ = some (.slice A0_0 l0_0.length c0_0) ∧ w'.cell? ⟨gb264, 1, none⟩ = some (.slice A0_1 l0_1.length c0_1)) (ds := []) #[false, false, false, false, false, false, false, false, false, false, false, false, false, false, false, false] (by kernel_rfl) rfl rfl ⟨(blk_cell BK264.out 0).trans rfl, (blk_cell BK264.out 1).trans rfl⟩ (fun hHeld => ?_); refine with_tabW wageofficelaw42_DiskPrefixes.tab10 wageofficelaw42_DiskPrefixes.bits10 (fun HT_ HW_ => ?_)
                      generalize wr.drew = w32 at HO_7 BK264 HB HR281 hHeld ⊢
                      refine pure_ (i := 0) (N := some 41) (v := ?_) (a' := ?_) #[true, false, false, false, false, false, false, false, false, false, false, false, false, false, false, false] rfl rfl (any_of HT_.out (by kernel_rfl)) (fun _ _ _ h => h) (Or.inl ⟨by rfl, ?_⟩) ?_ ?_
                      rotate_left
                      · intro w'
                        go_simp
                        with_reducible rfl
                      rotate_left
                      · simp only [Act.put, List.setIfInBounds_toArray, List.set_cons_zero, List.set_cons_succ, i64_w, i32_w]
                        rfl
                      refine pure_ (i := 1) (N := some 42) (v := ?_) (a' := ?_) #[true, true, false, false, false, false, false, false, false, false, false, false, false, false, false, false] rfl rfl (any_of HT_.out (by kernel_rfl)) (fun _ _ _ h => h) (Or.inl ⟨by rfl, ?_⟩) ?_ ?_
                      rotate_left
                      · intro w'
                        go_simp
                        with_reducible rfl
                      rotate_left
                      · simp only [Act.put, List.setIfInBounds_toArray, List.set_cons_zero, List.set_cons_succ, i64_w, i32_w]
                        rfl
                      refine pure_ (i := 3) (N := some 44) (v := ?_) (a' := ?_) #[true, true, false, true, false, false, false, false, false, false, false, false, false, false, false, false] rfl rfl (any_of HT_.out (by kernel_rfl)) (fun _ _ _ h => h) (Or.inl ⟨by rfl, ?_⟩) ?_ ?_
                      rotate_left
                      · intro w'
                        go_simp
                        with_reducible rfl
                      rotate_left
                      · simp only [Act.put, List.setIfInBounds_toArray, List.set_cons_zero, List.set_cons_succ, i64_w, i32_w]
                        rfl
                      refine pure_ (i := 5) (N := some 46) (v := ?_) (a' := ?_) #[true, true, false, true, false, true, false, false, false, false, false, false, false, false, false, false] rfl rfl (any_of HT_.out (by kernel_rfl)) (fun _ _ _ h => h) (Or.inl ⟨by rfl, ?_⟩) ?_ ?_
                      rotate_left
                      · intro w'
                        go_simp
                        with_reducible rfl
                      rotate_left
                      · simp only [Act.put, List.setIfInBounds_toArray, List.set_cons_zero, List.set_cons_succ, i64_w, i32_w]
                        rfl
                      refine pure_ (i := 7) (N := some 48) (v := ?_) (a' := ?_) #[true, true, false, true, false, true, false, true, false, false, false, false, false, false, false, false] rfl rfl (any_of HT_.out (by kernel_rfl)) (fun _ _ _ h => h) (Or.inl ⟨by rfl, ?_⟩) ?_ ?_
                      rotate_left
                      · intro w'
                        go_simp
                        with_reducible rfl
                      rotate_left
                      · simp only [Act.put, List.setIfInBounds_toArray, List.set_cons_zero, List.set_cons_succ, i64_w, i32_w]
                        rfl
                      refine pure_ (i := 9) (N := some 50) (v := ?_) (a' := ?_) #[true, true, false, true, false, true, false, true, false, true, false, false, false, false, false, false] rfl rfl (any_of HT_.out (by kernel_rfl)) (fun _ _ _ h => h) (Or.inl ⟨by rfl, ?_⟩) ?_ ?_
                      rotate_left
                      · intro w'
                        go_simp
                        with_reducible rfl
                      rotate_left
                      · simp only [Act.put, List.setIfInBounds_toArray, List.set_cons_zero, List.set_cons_succ, i64_w, i32_w]
                        rfl
                      refine take_ (i := 2) (N := some 43) (v := ?_) (a' := ?_) #[true, true, true, true, false, true, false, true, false, true, false, false, false, false, false, false] rfl rfl (take_ofW HT_.out HW_.out (by kernel_rfl)) (fun _ _ _ h => h) (Or.inl ⟨by rfl, ?_⟩) hHeld ?_ ?_
                      rotate_left
                      · rintro w' ⟨s0, s1⟩
                        go_simp
                        with_reducible rfl
                      rotate_left
                      · simp only [Act.put, List.setIfInBounds_toArray, List.set_cons_zero, List.set_cons_succ, i64_w, i32_w]
                        rfl
                      refine take_ (i := 6) (N := some 47) (v := ?_) (a' := ?_) #[true, true, true, true, false, true, true, true, false, true, false, false, false, false, false, false] rfl rfl (take_ofW HT_.out HW_.out (by kernel_rfl)) (fun _ _ _ h => h) (Or.inl ⟨by rfl, ?_⟩) hHeld ?_ ?_
                      rotate_left
                      · rintro w' ⟨s0, s1⟩
                        go_simp
                        with_reducible rfl
                      rotate_left
                      · simp only [Act.put, List.setIfInBounds_toArray, List.set_cons_zero, List.set_cons_succ, i64_w, i32_w]
                        rfl
                      refine take_ (i := 8) (N := some 49) (v := ?_) (a' := ?_) #[true, true, true, true, false, true, true, true, true, true, false, false, false, false, false, false] rfl rfl (take_ofW HT_.out HW_.out (by kernel_rfl)) (fun _ _ _ h => h) (Or.inl ⟨by rfl, ?_⟩) hHeld ?_ ?_
                      rotate_left
                      · rintro w' ⟨s0, s1⟩
                        go_simp
                        with_reducible rfl
                      rotate_left
                      · simp only [Act.put, List.setIfInBounds_toArray, List.set_cons_zero, List.set_cons_succ, i64_w, i32_w]
                        rfl
                      refine pure_ (i := 10) (N := some 51) (v := ?_) (a' := ?_) #[true, true, true, true, false, true, true, true, true, true, true, false, false, false, false, false] rfl rfl (any_of HT_.out (by kernel_rfl)) (fun _ _ _ h => h) (Or.inl ⟨by rfl, ?_⟩) ?_ ?_
                      rotate_left
                      · intro w'
                        go_simp
                        with_reducible rfl
                      rotate_left
                      · simp only [Act.put, List.setIfInBounds_toArray, List.set_cons_zero, List.set_cons_succ, i64_w, i32_w]
                        rfl
                      refine pure_ (i := 11) (N := some 52) (v := ?_) (a' := ?_) #[true, true, true, true, false, true, true, true, true, true, true, true, false, false, false, false] rfl rfl (any_of HT_.out (by kernel_rfl)) (fun _ _ _ h => h) (Or.inl ⟨by rfl, ?_⟩) ?_ ?_
                      rotate_left
                      · intro w'
                        go_simp
                        with_reducible rfl
                      rotate_left
                      · simp only [Act.put, List.setIfInBounds_toArray, List.set_cons_zero, List.set_cons_succ, i64_w, i32_w]
                        rfl
                      refine one_ (i := 4) (N := some 45) #[true, true, true, true, true, true, true, true, true, true, true, true, false, false, false, false] rfl rfl (one_of HT_.out (by kernel_rfl)) (by decide) (fun K hK => ?_)
                      refine goes_ Try.func28 (by kernel_rfl) rfl #[.agg #[.slice A0_0 l0_0.length c0_0, .slice A0_1 l0_1.length c0_1], .slice Ao34 x7_2.length co34] (by rfl) rfl rfl (by (try simp only [List.map_toArray, List.map_cons, List.map_nil]); first | done | rfl | (simp only [List.length_drop, List.length_take]; rfl)) ?_
                      with_reducible refine (disk_Crash.calls _ _ l0_0 _ _ l0_1 _ _ x7_2 t272 t275 _ ?side1 ?side2 ?side3 ?side4 ?side5 ?side6 A26.out).mono ?_
                      (case side1 => repeat (first | exact (Kd.C_below HR0_0.out HB.out) | (with_reducible refine Kd.C_alloc ?_ _) | (with_reducible refine Kd.C_drewN ?_ _) | (with_reducible refine Kd.C_drew ?_)))
                      (case side2 => exact HC0_0.out)
                      (case side3 => repeat (first | exact (Kd.C_below HR0_1.out HB.out) | (with_reducible refine Kd.C_alloc ?_ _) | (with_reducible refine Kd.C_drewN ?_ _) | (with_reducible refine Kd.C_drew ?_)))
                      (case side4 => exact HC0_1.out)
                      (case side5 => repeat (first | exact (Kd.R_reads' HO_7.out).2.2 | (with_reducible refine Kd.C_alloc ?_ _) | (with_reducible refine Kd.C_drewN ?_ _) | (with_reducible refine Kd.C_drew ?_)))
                      (case side6 => exact (Kd.R_reads' HO_7.out).2.1)
                      rintro e w35 ⟨v273, v276, rfl, ho0, ho1, hb⟩
                      refine ⟨_, rfl, ?_⟩
                      have n0_ := Aside0.mk (Kd.R_below (by (with_reducible repeat (first | apply Kd.R_alloc | apply Kd.R_drewN | apply Kd.R_drew)); exact HO_7.out) hb)
                      have n1_ := Aside0.mk (Kd.R_lower ho0 (below_size (by repeat (first | (with_reducible first | exact HB.out | apply below_alloc | apply pw_below_drewN | apply below_drew1 | refine below_set ?_ GE264.out) | exact HB.out))))
                      have n2_ := Aside0.mk (Kd.S_lower ho1 (below_size (by repeat (first | (with_reducible first | exact HB.out | apply below_alloc | apply pw_below_drewN | apply below_drew1 | refine below_set ?_ GE264.out) | exact HB.out))))
                      have n3_ := Aside0.mk (blk_below (g := gb264) (o := .cells #[.slice A0_0 l0_0.length c0_0, .slice A0_1 l0_1.length c0_1] 25 (0, 0)) (by (with_reducible repeat (first | refine blk_drewN ?_ _ | refine blk_drew ?_ | refine blk_alloc ?_ _)); exact BK264.out) hb)
                      have n4_ := Aside0.mk (below_step (by repeat (first | (with_reducible first | exact HB.out | apply below_alloc | apply pw_below_drewN | apply below_drew1 | refine below_set ?_ GE264.out) | exact HB.out)) hb)
                      clear HO_7
                      clear BK264
                      clear HB
                      have HO_7 := n0_
                      have HO274 := n1_
                      have HO277 := n2_
                      have BK264 := n3_
                      have HB := n4_
                      clear n0_ n1_ n2_ n3_ n4_
                      (try clear hb)
                      (try clear hb2)
                      (try clear hk)
                      (try clear hi)
                      (try clear ho0)
                      (try clear ho1)
                      refine hK.out _ _ ⟨(blk_cell BK264.out 0).trans rfl, (blk_cell BK264.out 1).trans rfl⟩ (fun hHeld => ?_)
                      clear hK K
                      refine norm_ (a' := ?_) ?_ ?_
                      rotate_left
                      · show Act.put _ (some 45) _ = _
                        simp only [Act.put, List.setIfInBounds_toArray, List.set_cons_zero, List.set_cons_succ, i64_w, i32_w]
                        rfl
                      refine one_ (i := 12) (N := some 53) #[true, true, true, true, true, true, true, true, true, true, true, true, true, false, false, false] rfl rfl (one_of HT_.out (by kernel_rfl)) (by decide) (fun K hK => ?_)
                      refine goes_ Try.func26 (by kernel_rfl) rfl #[.agg #[.slice A0_0 l0_0.length c0_0, .slice A0_1 y278.length c0_1]] (by rfl) rfl rfl (by (try simp only [List.map_toArray, List.map_cons, List.map_nil]); first | done | rfl | (simp only [List.length_drop, List.length_take]; rfl)) ?_
                      with_reducible refine (disk_Sync.calls _ _ l0_0 _ _ y278 t282 t285 _ ?side1 ?side2 ?side3 ?side4 A30.out).mono ?_
                      (case side1 => repeat (first | exact (Kd.C_below HR0_0.out HB.out) | (with_reducible refine Kd.C_alloc ?_ _) | (with_reducible refine Kd.C_drewN ?_ _) | (with_reducible refine Kd.C_drew ?_)))
                      (case side2 => exact HC0_0.out)
                      (case side3 => repeat (first | exact (Kd.C_below HR281.out HB.out) | (with_reducible refine Kd.C_alloc ?_ _) | (with_reducible refine Kd.C_drewN ?_ _) | (with_reducible refine Kd.C_drew ?_)))
                      (case side4 => exact HC281.out)
                      rintro e w36 ⟨v283, v286, rfl, ho0, ho1, hb⟩
                      refine ⟨_, rfl, ?_⟩
                      have n0_ := Aside0.mk (Kd.R_below (by (with_reducible repeat (first | apply Kd.R_alloc | apply Kd.R_drewN | apply Kd.R_drew)); exact HO_7.out) hb)
                      have n1_ := Aside0.mk (Kd.R_elder' (by (with_reducible repeat (first | apply Kd.R_alloc | apply Kd.R_drewN | apply Kd.R_drew)); exact HO274.out) (Kd.R_base ho0) hb)
                      have n2_ := Aside0.mk (Kd.S_mono (Kd.S_told (Kd.S_told (Kd.S_old (by (with_reducible repeat (first | apply Kd.S_alloc | apply Kd.S_drewN | apply Kd.S_drew)); exact HO277.out) hb) (Kd.R_base ho0)) (Kd.S_base ho1)) (fun _ h_ => h_.1))
                      have n3_ := Aside0.mk (Kd.R_lower (Kd.R_new' ho0 (Kd.R_lt (by (with_reducible repeat (first | apply Kd.R_alloc | apply Kd.R_drewN | apply Kd.R_drew)); exact HO274.out))) (below_size (by repeat (first | (with_reducible first | exact HB.out | apply below_alloc | apply pw_below_drewN | apply below_drew1 | refine below_set ?_ GE264.out) | exact HB.out))))
                      have n4_ := Aside0.mk (Kd.S_lower (Kd.S_new' (Kd.S_new' ho1 (Kd.R_lt (by (with_reducible repeat (first | apply Kd.R_alloc | apply Kd.R_drewN | apply Kd.R_drew)); exact HO274.out))) (Kd.S_lt (by (with_reducible repeat (first | apply Kd.S_alloc | apply Kd.S_drewN | apply Kd.S_drew)); exact HO277.out))) (below_size (by repeat (first | (with_reducible first | exact HB.out | apply below_alloc | apply pw_below_drewN | apply below_drew1 | refine below_set ?_ GE264.out) | exact HB.out))))
                      have n5_ := Aside0.mk (blk_below (g := gb264) (o := .cells #[.slice A0_0 l0_0.length c0_0, .slice A0_1 l0_1.length c0_1] 25 (0, 0)) (by (with_reducible repeat (first | refine blk_drewN ?_ _ | refine blk_drew ?_ | refine blk_alloc ?_ _)); exact BK264.out) hb)
                      have n6_ := Aside0.mk (below_step (by repeat (first | (with_reducible first | exact HB.out | apply below_alloc | apply pw_below_drewN | apply below_drew1 | refine below_set ?_ GE264.out) | exact HB.out)) hb)
                      clear HO_7
                      clear HO274
                      clear HO277
                      clear BK264
                      clear HB
                      have HO_7 := n0_
                      have HO274 := n1_
                      have HO277 := n2_
                      have HO284 := n3_
                      have HO287 := n4_
                      have BK264 := n5_
                      have HB := n6_
                      clear n0_ n1_ n2_ n3_ n4_ n5_ n6_
                      (try clear hb)
                      (try clear hb2)
                      (try clear hk)
                      (try clear hi)
                      (try clear ho0)
                      (try clear ho1)
                      obtain ⟨Ao37, co37, eo37⟩ := Kd.R_slice HO274.out
                      (first | subst eo37 | (injection eo37 with f1_ f2_ f3_; have f4_ := f1_.symm; have f5_ := f3_.symm; clear f1_ f2_ f3_; subst f4_; subst f5_))
                      obtain ⟨Ao38, co38, eo38⟩ := Kd.S_slice HO277.out
                      (first | subst eo38 | (injection eo38 with f1_ f2_ f3_; have f4_ := f1_.symm; have f5_ := f3_.symm; clear f1_ f2_ f3_; subst f4_; subst f5_))
                      obtain ⟨Ao39, co39, eo39⟩ := Kd.R_slice HO284.out
                      (first | subst eo39 | (injection eo39 with f1_ f2_ f3_; have f4_ := f1_.symm; have f5_ := f3_.symm; clear f1_ f2_ f3_; subst f4_; subst f5_))
                      obtain ⟨Ao40, co40, eo40⟩ := Kd.S_slice HO287.out
                      (first | subst eo40 | (injection eo40 with f1_ f2_ f3_; have f4_ := f1_.symm; have f5_ := f3_.symm; clear f1_ f2_ f3_; subst f4_; subst f5_))
                      refine hK.out _ _ ⟨(blk_cell BK264.out 0).trans rfl, (blk_cell BK264.out 1).trans rfl⟩ (fun hHeld => ?_)
                      clear hK K
                      refine norm_ (a' := ?_) ?_ ?_
                      rotate_left
                      · show Act.put _ (some 53) _ = _
                        simp only [Act.put, List.setIfInBounds_toArray, List.set_cons_zero, List.set_cons_succ, i64_w, i32_w]
                        rfl
                      refine one_ (i := 13) (N := some 54) #[true, true, true, true, true, true, true, true, true, true, true, true, true, true, false, false] rfl rfl (one_of HT_.out (by kernel_rfl)) (by decide) (fun K hK => ?_)
                      refine goes_ Try.func19 (by kernel_rfl) rfl #[.agg #[.slice Ao37 t272.length co37, .slice Ao38 t275.length co38], .agg #[.slice Ao39 t282.length co39, .slice Ao40 t285.length co40]] (by rfl) rfl rfl (by (try simp only [List.map_toArray, List.map_cons, List.map_nil]); first | done | rfl | (simp only [List.length_drop, List.length_take]; rfl)) ?_
                      with_reducible refine (wageofficeref42_Same.calls k2 _ _ t272 _ _ t275 _ _ t282 _ _ t285 t288 _ ?side1 ?side2 ?side3 ?side4 ?side5 ?side6 ?side7 ?side8 A31.out).mono ?_
                      (case side1 => repeat (first | exact (Kd.R_reads' HO274.out).2.2 | (with_reducible refine Kd.C_alloc ?_ _) | (with_reducible refine Kd.C_drewN ?_ _) | (with_reducible refine Kd.C_drew ?_)))
                      (case side2 => exact (Kd.R_reads' HO274.out).2.1)
                      (case side3 => repeat (first | exact (Kd.S_reads' HO277.out).2.2 | (with_reducible refine Kd.C_alloc ?_ _) | (with_reducible refine Kd.C_drewN ?_ _) | (with_reducible refine Kd.C_drew ?_)))
                      (case side4 => exact (Kd.S_reads' HO277.out).2.1)
                      (case side5 => repeat (first | exact (Kd.R_reads' HO284.out).2.2 | (with_reducible refine Kd.C_alloc ?_ _) | (with_reducible refine Kd.C_drewN ?_ _) | (with_reducible refine Kd.C_drew ?_)))
                      (case side6 => exact (Kd.R_reads' HO284.out).2.1)
                      (case side7 => repeat (first | exact (Kd.S_reads' HO287.out).2.2 | (with_reducible refine Kd.C_alloc ?_ _) | (with_reducible refine Kd.C_drewN ?_ _) | (with_reducible refine Kd.C_drew ?_)))
                      (case side8 => exact (Kd.S_reads' HO287.out).2.1)
                      rintro e w41 ⟨rfl, hb⟩
                      refine ⟨_, rfl, ?_⟩
                      have n0_ := Aside0.mk (Kd.R_below (by (with_reducible repeat (first | apply Kd.R_alloc | apply Kd.R_drewN | apply Kd.R_drew)); exact HO_7.out) hb)
                      have n1_ := Aside0.mk (Kd.R_below (by (with_reducible repeat (first | apply Kd.R_alloc | apply Kd.R_drewN | apply Kd.R_drew)); exact HO274.out) hb)
                      have n2_ := Aside0.mk (Kd.S_below (by (with_reducible repeat (first | apply Kd.S_alloc | apply Kd.S_drewN | apply Kd.S_drew)); exact HO277.out) hb)
                      have n3_ := Aside0.mk (Kd.R_below (by (with_reducible repeat (first | apply Kd.R_alloc | apply Kd.R_drewN | apply Kd.R_drew)); exact HO284.out) hb)
                      have n4_ := Aside0.mk (Kd.S_below (by (with_reducible repeat (first | apply Kd.S_alloc | apply Kd.S_drewN | apply Kd.S_drew)); exact HO287.out) hb)
                      have n5_ := Aside0.mk (blk_below (g := gb264) (o := .cells #[.slice A0_0 l0_0.length c0_0, .slice A0_1 l0_1.length c0_1] 25 (0, 0)) (by (with_reducible repeat (first | refine blk_drewN ?_ _ | refine blk_drew ?_ | refine blk_alloc ?_ _)); exact BK264.out) hb)
                      have n6_ := Aside0.mk (below_step (by repeat (first | (with_reducible first | exact HB.out | apply below_alloc | apply pw_below_drewN | apply below_drew1 | refine below_set ?_ GE264.out) | exact HB.out)) hb)
                      clear HO_7
                      clear HO274
                      clear HO277
                      clear HO284
                      clear HO287
                      clear BK264
                      clear HB
                      have HO_7 := n0_
                      have HO274 := n1_
                      have HO277 := n2_
                      have HO284 := n3_
                      have HO287 := n4_
                      have BK264 := n5_
                      have HB := n6_
                      clear n0_ n1_ n2_ n3_ n4_ n5_ n6_
                      (try clear hb)
                      (try clear hb2)
                      (try clear hk)
                      (try clear hi)
                      refine hK.out _ _ ⟨(blk_cell BK264.out 0).trans rfl, (blk_cell BK264.out 1).trans rfl⟩ (fun hHeld => ?_)
                      clear hK K
                      refine norm_ (a' := ?_) ?_ ?_
                      rotate_left
                      · show Act.put _ (some 54) _ = _
                        simp only [Act.put, List.setIfInBounds_toArray, List.set_cons_zero, List.set_cons_succ, i64_w, i32_w]
                        rfl
                      refine pure_ (i := 14) (N := some 55) (v := ?_) (a' := ?_) #[true, true, true, true, true, true, true, true, true, true, true, true, true, true, true, false] rfl rfl (any_of HT_.out (by kernel_rfl)) (fun _ _ _ h => h) (Or.inl ⟨by rfl, ?_⟩) ?_ ?_
                      rotate_left
                      · intro w'
                        go_simp
                        with_reducible rfl
                      rotate_left
                      · simp only [Act.put, List.setIfInBounds_toArray, List.set_cons_zero, List.set_cons_succ, i64_w, i32_w]
                        rfl
                      refine pure_ (i := 15) (N := some 4) (v := ?_) (a' := ?_) #[true, true, true, true, true, true, true, true, true, true, true, true, true, true, true, true] rfl rfl (any_of HT_.out (by kernel_rfl)) (fun _ _ _ h => h) (Or.inl ⟨by rfl, ?_⟩) ?_ ?_
                      rotate_left
                      · intro w'
                        go_simp
                        with_reducible rfl
                      rotate_left
                      · simp only [Act.put, List.setIfInBounds_toArray, List.set_cons_zero, List.set_cons_succ, i64_w, i32_w]
                        rfl
                      refine done_ (done_of HT_.out (by kernel_rfl)) ?_
                      try go_wp2
                      go_ret
                      exact ⟨by first | rfl | (simp [errW_none, errW_some] <;> rfl) | (simp only [← hji27]; first | rfl | (simp [errW_none, errW_some] <;> rfl)) | (simp [*, errW_none, errW_some] <;> rfl), by repeat (first | (with_reducible first | exact HB.out | apply below_alloc | apply pw_below_drewN | apply below_drew1 | refine below_set ?_ GE264.out) | exact HB.out)⟩
                    · rw [if_neg c29] at H
                      exact absurd H (by simp)
                  · rw [if_neg c28] at H
                    exact absurd H (by simp)
                · replace c25 := Bool.eq_false_iff.mpr c25
                  subst c25
                  have H1 : (some false) = some r := by rw [if_neg (show ¬ (false = true) by decide)] at H; exact H
                  clear H
                  have H := H1
                  clear H1
                  obtain rfl := Option.some.inj H
                  try go_wp2
                  have n0_ := Aside0.mk (Kd.R_drew HO_7.out)
                  have n1_ := Aside0.mk (blk_drew BK264.out)
                  have n2_ := Aside0.mk (below_drew1 HB.out)
                  clear HO_7
                  clear BK264
                  clear HB
                  have HO_7 := n0_
                  have BK264 := n1_
                  have HB := n2_
                  clear n0_ n1_ n2_
                  refine start_ (n := 16) (S := fun w' => True) (ds := []) #[false, false, false, false, false, false, false, false, false, false, false, false, false, false, false, false] (by kernel_rfl) rfl rfl trivial (fun hHeld => ?_); refine with_tabW wageofficelaw42_DiskPrefixes.tab10 wageofficelaw42_DiskPrefixes.bits10 (fun HT_ HW_ => ?_)
                  generalize wr.drew = w42 at HO_7 BK264 HB hHeld ⊢
                  refine pure_ (i := 0) (N := some 41) (v := ?_) (a' := ?_) #[true, false, false, false, false, false, false, false, false, false, false, false, false, false, false, false] rfl rfl (any_of HT_.out (by kernel_rfl)) (fun _ _ _ h => h) (Or.inl ⟨by rfl, ?_⟩) ?_ ?_
                  rotate_left
                  · intro w'
                    go_simp
                    with_reducible rfl
                  rotate_left
                  · simp only [Act.put, List.setIfInBounds_toArray, List.set_cons_zero, List.set_cons_succ, i64_w, i32_w]
                    rfl
                  refine pure_ (i := 1) (N := some 42) (v := ?_) (a' := ?_) #[true, true, false, false, false, false, false, false, false, false, false, false, false, false, false, false] rfl rfl (any_of HT_.out (by kernel_rfl)) (fun _ _ _ h => h) (Or.inl ⟨by rfl, ?_⟩) ?_ ?_
                  rotate_left
                  · intro w'
                    go_simp
                    with_reducible rfl
                  rotate_left
                  · simp only [Act.put, List.setIfInBounds_toArray, List.set_cons_zero, List.set_cons_succ, i64_w, i32_w]
                    rfl
                  refine pure_ (i := 2) (N := some 43) (v := undef) (a' := ?_) #[true, true, true, false, false, false, false, false, false, false, false, false, false, false, false, false] rfl rfl (any_of HT_.out (by kernel_rfl)) (fun _ _ _ h => h) (Or.inr ⟨by rfl, rfl⟩) ?_ ?_
                  rotate_left
                  · simp only [Act.put, List.setIfInBounds_toArray, List.set_cons_zero, List.set_cons_succ, i64_w, i32_w]
                    rfl
                  refine pure_ (i := 3) (N := some 44) (v := undef) (a' := ?_) #[true, true, true, true, false, false, false, false, false, false, false, false, false, false, false, false] rfl rfl (any_of HT_.out (by kernel_rfl)) (fun _ _ _ h => h) (Or.inr ⟨by rfl, rfl⟩) ?_ ?_
                  rotate_left
                  · simp only [Act.put, List.setIfInBounds_toArray, List.set_cons_zero, List.set_cons_succ, i64_w, i32_w]
                    rfl
                  refine pure_ (i := 4) (N := some 45) (v := undef) (a' := ?_) #[true, true, true, true, true, false, false, false, false, false, false, false, false, false, false, false] rfl rfl (any_of HT_.out (by kernel_rfl)) (fun _ _ _ h => h) (Or.inr ⟨by rfl, rfl⟩) ?_ ?_
                  rotate_left
                  · simp only [Act.put, List.setIfInBounds_toArray, List.set_cons_zero, List.set_cons_succ, i64_w, i32_w]
                    rfl
                  refine pure_ (i := 5) (N := some 46) (v := undef) (a' := ?_) #[true, true, true, true, true, true, false, false, false, false, false, false, false, false, false, false] rfl rfl (any_of HT_.out (by kernel_rfl)) (fun _ _ _ h => h) (Or.inr ⟨by rfl, rfl⟩) ?_ ?_
                  rotate_left
                  · simp only [Act.put, List.setIfInBounds_toArray, List.set_cons_zero, List.set_cons_succ, i64_w, i32_w]
                    rfl
                  refine pure_ (i := 6) (N := some 47) (v := undef) (a' := ?_) #[true, true, true, true, true, true, true, false, false, false, false, false, false, false, false, false] rfl rfl (any_of HT_.out (by kernel_rfl)) (fun _ _ _ h => h) (Or.inr ⟨by rfl, rfl⟩) ?_ ?_
                  rotate_left
                  · simp only [Act.put, List.setIfInBounds_toArray, List.set_cons_zero, List.set_cons_succ, i64_w, i32_w]
                    rfl
                  refine pure_ (i := 7) (N := some 48) (v := undef) (a' := ?_) #[true, true, true, true, true, true, true, true, false, false, false, false, false, false, false, false] rfl rfl (any_of HT_.out (by kernel_rfl)) (fun _ _ _ h => h) (Or.inr ⟨by rfl, rfl⟩) ?_ ?_
                  rotate_left
                  · simp only [Act.put, List.setIfInBounds_toArray, List.set_cons_zero, List.set_cons_succ, i64_w, i32_w]
                    rfl
                  refine pure_ (i := 8) (N := some 49) (v := undef) (a' := ?_) #[true, true, true, true, true, true, true, true, true, false, false, false, false, false, false, false] rfl rfl (any_of HT_.out (by kernel_rfl)) (fun _ _ _ h => h) (Or.inr ⟨by rfl, rfl⟩) ?_ ?_
                  rotate_left
                  · simp only [Act.put, List.setIfInBounds_toArray, List.set_cons_zero, List.set_cons_succ, i64_w, i32_w]
                    rfl
                  refine pure_ (i := 9) (N := some 50) (v := undef) (a' := ?_) #[true, true, true, true, true, true, true, true, true, true, false, false, false, false, false, false] rfl rfl (any_of HT_.out (by kernel_rfl)) (fun _ _ _ h => h) (Or.inr ⟨by rfl, rfl⟩) ?_ ?_
                  rotate_left
                  · simp only [Act.put, List.setIfInBounds_toArray, List.set_cons_zero, List.set_cons_succ, i64_w, i32_w]
                    rfl
                  refine pure_ (i := 10) (N := some 51) (v := undef) (a' := ?_) #[true, true, true, true, true, true, true, true, true, true, true, false, false, false, false, false] rfl rfl (any_of HT_.out (by kernel_rfl)) (fun _ _ _ h => h) (Or.inr ⟨by rfl, rfl⟩) ?_ ?_
                  rotate_left
                  · simp only [Act.put, List.setIfInBounds_toArray, List.set_cons_zero, List.set_cons_succ, i64_w, i32_w]
                    rfl
                  refine pure_ (i := 11) (N := some 52) (v := undef) (a' := ?_) #[true, true, true, true, true, true, true, true, true, true, true, true, false, false, false, false] rfl rfl (any_of HT_.out (by kernel_rfl)) (fun _ _ _ h => h) (Or.inr ⟨by rfl, rfl⟩) ?_ ?_
                  rotate_left
                  · simp only [Act.put, List.setIfInBounds_toArray, List.set_cons_zero, List.set_cons_succ, i64_w, i32_w]
                    rfl
                  refine pure_ (i := 12) (N := some 53) (v := undef) (a' := ?_) #[true, true, true, true, true, true, true, true, true, true, true, true, true, false, false, false] rfl rfl (any_of HT_.out (by kernel_rfl)) (fun _ _ _ h => h) (Or.inr ⟨by rfl, rfl⟩) ?_ ?_
                  rotate_left
                  · simp only [Act.put, List.setIfInBounds_toArray, List.set_cons_zero, List.set_cons_succ, i64_w, i32_w]
                    rfl
                  refine pure_ (i := 13) (N := some 54) (v := undef) (a' := ?_) #[true, true, true, true, true, true, true, true, true, true, true, true, true, true, false, false] rfl rfl (any_of HT_.out (by kernel_rfl)) (fun _ _ _ h => h) (Or.inr ⟨by rfl, rfl⟩) ?_ ?_
                  rotate_left
                  · simp only [Act.put, List.setIfInBounds_toArray, List.set_cons_zero, List.set_cons_succ, i64_w, i32_w]
                    rfl
                  refine pure_ (i := 14) (N := some 55) (v := ?_) (a' := ?_) #[true, true, true, true, true, true, true, true, true, true, true, true, true, true, true, false] rfl rfl (any_of HT_.out (by kernel_rfl)) (fun _ _ _ h => h) (Or.inl ⟨by rfl, ?_⟩) ?_ ?_
                  rotate_left
                  · intro w'
                    go_simp
                    with_reducible rfl
                  rotate_left
                  · simp only [Act.put, List.setIfInBounds_toArray, List.set_cons_zero, List.set_cons_succ, i64_w, i32_w]
                    rfl
                  refine pure_ (i := 15) (N := some 4) (v := ?_) (a' := ?_) #[true, true, true, true, true, true, true, true, true, true, true, true, true, true, true, true] rfl rfl (any_of HT_.out (by kernel_rfl)) (fun _ _ _ h => h) (Or.inl ⟨by rfl, ?_⟩) ?_ ?_
                  rotate_left
                  · intro w'
                    go_simp
                    with_reducible rfl
                  rotate_left
                  · simp only [Act.put, List.setIfInBounds_toArray, List.set_cons_zero, List.set_cons_succ, i64_w, i32_w]
                    rfl
                  refine done_ (done_of HT_.out (by kernel_rfl)) ?_
                  try go_wp2
                  go_ret
                  exact ⟨by first | rfl | (simp [errW_none, errW_some] <;> rfl) | (simp [*, errW_none, errW_some] <;> rfl), by repeat (first | (with_reducible first | exact HB.out | apply below_alloc | apply pw_below_drewN | apply below_drew1 | refine below_set ?_ GE264.out) | exact HB.out)⟩

end Go.Proofs.Ytfpdmlhknddffaa.Dk
