/- Printed by a program of this session: contracts of functions that the Disk statements reach. -/
import Derived.Test.YtfpdmlhknddffaaL0
import Derived.Test.YtfpdmlhknddffaaL1
namespace Go.Proofs.Ytfpdmlhknddffaa.Dk
open Go.RowKit Go.Proofs.YtfpdmlhknddffaaW.PrintWords Go.Proofs.YtfpdmlhknddffaaW.PrintLast Go.Proofs.YtfpdmlhknddffaaW.PrintMore
attribute [local go_sem] field25 field25b max2_int min2_int max_two min_two max_three min_three max_four min_four   -- for this text's walks alone
set_option linter.unusedVariables false
set_option linter.unusedSimpArgs false

/-! ### wageofficelaw42_DiskReading: function 4 -/
mutual
def wageofficelaw42_DiskReading.j0 : Nat → Int → List Int → Bool → Bool → List Int → List (S45) → Option (Bool)
  | 0, _, _, _, _, _, _ => none
  | k + 1, x1, x2, x7, x22, x180000, x180001 => if x22 = true then (some x7) else ((disk_Write.f x180000 x180001 x1 x2).bind fun bt182 => (if bt182.2.2 = 0 then ((wageofficelaw42_all.f x180000 x180001).bind fun t190 => ((wageofficelaw42_all.f bt182.1 bt182.2.1).bind fun t193 => (if (t190.length : Int) = (x180000.length : Int) then (if (t193.length : Int) = (t190.length : Int) then (if x1 < 0 then (wageofficelaw42_DiskReading.j1 k x1 x2 x7 t190 t193 true) else (wageofficelaw42_DiskReading.j1 k x1 x2 x7 t190 t193 (decide ((wrap64 (x1 + (x2.length : Int))) > (t190.length : Int))))) else (wageofficelaw42_DiskReading.j1 k x1 x2 x7 t190 t193 true)) else (wageofficelaw42_DiskReading.j1 k x1 x2 x7 t190 t193 true)))) else (some x7)))
def wageofficelaw42_DiskReading.j1 : Nat → Int → List Int → Bool → List Int → List Int → Bool → Option (Bool)
  | 0, _, _, _, _, _, _ => none
  | k + 1, x1, x2, x7, x10, x11, x63 => if x63 = true then (some false) else (wageofficelaw42_DiskReading.l0 k x1 x2 x7 x10 x11 0)
def wageofficelaw42_DiskReading.l0 : Nat → Int → List Int → Bool → List Int → List Int → Int → Option (Bool)
  | 0, _, _, _, _, _, _ => none
  | k + 1, x1, x2, x7, x10, x11, x12 => if x12 < (x10.length : Int) then (if 0 ≤ x12 then (if x12 ≥ x1 then (wageofficelaw42_DiskReading.j3 k x1 x2 x7 x10 x11 x12 (rd x10 x12) (decide (x12 < (wrap64 (x1 + (x2.length : Int)))))) else (wageofficelaw42_DiskReading.j3 k x1 x2 x7 x10 x11 x12 (rd x10 x12) false)) else (none)) else (some x7)
def wageofficelaw42_DiskReading.j3 : Nat → Int → List Int → Bool → List Int → List Int → Int → Int → Bool → Option (Bool)
  | 0, _, _, _, _, _, _, _, _ => none
  | k + 1, x1, x2, x7, x10, x11, x12, x13, x84 => if x84 = true then (if 0 ≤ (wrap64 (x12 - x1)) then (if (wrap64 (x12 - x1)) < (x2.length : Int) then (if 0 ≤ x12 then (if x12 < (x11.length : Int) then (if (rd x11 x12) = (rd x2 (wrap64 (x12 - x1))) then (wageofficelaw42_DiskReading.l0 k x1 x2 x7 x10 x11 (wrap64 (x12 + 1))) else (some false)) else (none)) else (none)) else (none)) else (none)) else (if 0 ≤ x12 then (if x12 < (x11.length : Int) then (if (rd x11 x12) = x13 then (wageofficelaw42_DiskReading.l0 k x1 x2 x7 x10 x11 (wrap64 (x12 + 1))) else (some false)) else (none)) else (none))
end
def wageofficelaw42_DiskReading.f (k : Nat) (l0_0 : List Int) (l0_1 : List (S45)) (a1 : Int) (l2 : List Int) : Option (Bool) := (wageofficelaw42_head.f).bind fun t180 => ((wageofficeref42_Small.f k l0_0 l0_1 600).bind fun t181 => (if t181 = true then (wageofficelaw42_DiskReading.j0 k a1 l2 t180 (decide ((l2.length : Int) > 600)) l0_0 l0_1) else (wageofficelaw42_DiskReading.j0 k a1 l2 t180 true l0_0 l0_1)))
theorem wageofficelaw42_DiskReading.mono_l : ∀ k, (∀ y0 y1 y2 y3 y4 y5, LeO (wageofficelaw42_DiskReading.j0 k y0 y1 y2 y3 y4 y5) (wageofficelaw42_DiskReading.j0 (k + 1) y0 y1 y2 y3 y4 y5)) ∧ (∀ y0 y1 y2 y3 y4 y5, LeO (wageofficelaw42_DiskReading.j1 k y0 y1 y2 y3 y4 y5) (wageofficelaw42_DiskReading.j1 (k + 1) y0 y1 y2 y3 y4 y5)) ∧ (∀ y0 y1 y2 y3 y4 y5, LeO (wageofficelaw42_DiskReading.l0 k y0 y1 y2 y3 y4 y5) (wageofficelaw42_DiskReading.l0 (k + 1) y0 y1 y2 y3 y4 y5)) ∧ (∀ y0 y1 y2 y3 y4 y5 y6 y7, LeO (wageofficelaw42_DiskReading.j3 k y0 y1 y2 y3 y4 y5 y6 y7) (wageofficelaw42_DiskReading.j3 (k + 1) y0 y1 y2 y3 y4 y5 y6 y7))
  | 0 => ⟨fun _ _ _ _ _ _ r h => by simp [wageofficelaw42_DiskReading.j0] at h, fun _ _ _ _ _ _ r h => by simp [wageofficelaw42_DiskReading.j1] at h, fun _ _ _ _ _ _ r h => by simp [wageofficelaw42_DiskReading.l0] at h, fun _ _ _ _ _ _ _ _ r h => by simp [wageofficelaw42_DiskReading.j3] at h⟩
  | k + 1 => by
    obtain ⟨ih0, ih1, ih2, ih3⟩ := wageofficelaw42_DiskReading.mono_l k
    refine ⟨?_, ?_, ?_, ?_⟩
    · intro y0 y1 y2 y3 y4 y5
      unfold wageofficelaw42_DiskReading.j0
      repeat' first
      | (with_reducible exact ih0 _ _ _ _ _ _)
      | (with_reducible exact ih1 _ _ _ _ _ _)
      | (with_reducible exact ih2 _ _ _ _ _ _)
      | (with_reducible exact ih3 _ _ _ _ _ _ _ _)
      | (with_reducible exact wageofficeref42_Small.mono _ _ _ _)
      | (with_reducible exact LeO.refl _)
      | (with_reducible exact LeO.none _)
      | (with_reducible refine LeO.ite ?_ ?_)
      | (with_reducible refine LeO.bind ?_ (fun _ => ?_))
      | exact ih0 _ _ _ _ _ _
      | exact ih1 _ _ _ _ _ _
      | exact ih2 _ _ _ _ _ _
      | exact ih3 _ _ _ _ _ _ _ _
      | exact wageofficeref42_Small.mono _ _ _ _
      | exact LeO.none _
      | refine LeO.ite ?_ ?_
      | refine LeO.bind ?_ (fun _ => ?_)
    · intro y0 y1 y2 y3 y4 y5
      unfold wageofficelaw42_DiskReading.j1
      repeat' first
      | (with_reducible exact ih0 _ _ _ _ _ _)
      | (with_reducible exact ih1 _ _ _ _ _ _)
      | (with_reducible exact ih2 _ _ _ _ _ _)
      | (with_reducible exact ih3 _ _ _ _ _ _ _ _)
      | (with_reducible exact wageofficeref42_Small.mono _ _ _ _)
      | (with_reducible exact LeO.refl _)
      | (with_reducible exact LeO.none _)
      | (with_reducible refine LeO.ite ?_ ?_)
      | (with_reducible refine LeO.bind ?_ (fun _ => ?_))
      | exact ih0 _ _ _ _ _ _
      | exact ih1 _ _ _ _ _ _
      | exact ih2 _ _ _ _ _ _
      | exact ih3 _ _ _ _ _ _ _ _
      | exact wageofficeref42_Small.mono _ _ _ _
      | exact LeO.none _
      | refine LeO.ite ?_ ?_
      | refine LeO.bind ?_ (fun _ => ?_)
    · intro y0 y1 y2 y3 y4 y5
      unfold wageofficelaw42_DiskReading.l0
      repeat' first
      | (with_reducible exact ih0 _ _ _ _ _ _)
      | (with_reducible exact ih1 _ _ _ _ _ _)
      | (with_reducible exact ih2 _ _ _ _ _ _)
      | (with_reducible exact ih3 _ _ _ _ _ _ _ _)
      | (with_reducible exact wageofficeref42_Small.mono _ _ _ _)
      | (with_reducible exact LeO.refl _)
      | (with_reducible exact LeO.none _)
      | (with_reducible refine LeO.ite ?_ ?_)
      | (with_reducible refine LeO.bind ?_ (fun _ => ?_))
      | exact ih0 _ _ _ _ _ _
      | exact ih1 _ _ _ _ _ _
      | exact ih2 _ _ _ _ _ _
      | exact ih3 _ _ _ _ _ _ _ _
      | exact wageofficeref42_Small.mono _ _ _ _
      | exact LeO.none _
      | refine LeO.ite ?_ ?_
      | refine LeO.bind ?_ (fun _ => ?_)
    · intro y0 y1 y2 y3 y4 y5 y6 y7
      unfold wageofficelaw42_DiskReading.j3
      repeat' first
      | (with_reducible exact ih0 _ _ _ _ _ _)
      | (with_reducible exact ih1 _ _ _ _ _ _)
      | (with_reducible exact ih2 _ _ _ _ _ _)
      | (with_reducible exact ih3 _ _ _ _ _ _ _ _)
      | (with_reducible exact wageofficeref42_Small.mono _ _ _ _)
      | (with_reducible exact LeO.refl _)
      | (with_reducible exact LeO.none _)
      | (with_reducible refine LeO.ite ?_ ?_)
      | (with_reducible refine LeO.bind ?_ (fun _ => ?_))
      | exact ih0 _ _ _ _ _ _
      | exact ih1 _ _ _ _ _ _
      | exact ih2 _ _ _ _ _ _
      | exact ih3 _ _ _ _ _ _ _ _
      | exact wageofficeref42_Small.mono _ _ _ _
      | exact LeO.none _
      | refine LeO.ite ?_ ?_
      | refine LeO.bind ?_ (fun _ => ?_)
theorem wageofficelaw42_DiskReading.mono : ∀ a0 a1 a2 a3 k, LeO (wageofficelaw42_DiskReading.f k a0 a1 a2 a3) (wageofficelaw42_DiskReading.f (k + 1) a0 a1 a2 a3) := by
  intro a0 a1 a2 a3 k
  obtain ⟨ih0, ih1, ih2, ih3⟩ := wageofficelaw42_DiskReading.mono_l k
  unfold wageofficelaw42_DiskReading.f
  repeat' first
      | (with_reducible exact ih0 _ _ _ _ _ _)
      | (with_reducible exact ih1 _ _ _ _ _ _)
      | (with_reducible exact ih2 _ _ _ _ _ _)
      | (with_reducible exact ih3 _ _ _ _ _ _ _ _)
      | (with_reducible exact wageofficeref42_Small.mono _ _ _ _)
      | (with_reducible exact LeO.refl _)
      | (with_reducible exact LeO.none _)
      | (with_reducible refine LeO.ite ?_ ?_)
      | (with_reducible refine LeO.bind ?_ (fun _ => ?_))
      | exact ih0 _ _ _ _ _ _
      | exact ih1 _ _ _ _ _ _
      | exact ih2 _ _ _ _ _ _
      | exact ih3 _ _ _ _ _ _ _ _
      | exact wageofficeref42_Small.mono _ _ _ _
      | exact LeO.none _
      | refine LeO.ite ?_ ?_
      | refine LeO.bind ?_ (fun _ => ?_)
set_option maxHeartbeats 8000000 in
set_option maxRecDepth 100000 in
theorem wageofficelaw42_DiskReading.calls (k : Nat) (A0_0 : Option Addr) (c0_0 : Nat) (l0_0 : List Int) (A0_1 : Option Addr) (c0_1 : Nat) (l0_1 : List (S45)) (a1 : Int) (A2 : Option Addr) (c2 : Nat) (l2 : List Int) (r : Bool) (w : World) (hr0_0 : Kd.C (Kd.int .u8) w A0_0 l0_0.length l0_0) (hc0_0 : l0_0.length ≤ c0_0) (hr0_1 : Kd.C k45 w A0_1 l0_1.length l0_1) (hc0_1 : l0_1.length ≤ c0_1) (hr2 : Kd.C (Kd.int .u8) w A2 l2.length l2) (hc2 : l2.length ≤ c2) (h : wageofficelaw42_DiskReading.f k l0_0 l0_1 a1 l2 = some r) :
    Calls Try.prog 4 #[.agg #[.slice A0_0 l0_0.length c0_0, .slice A0_1 l0_1.length c0_1], .int .i64 a1, .slice A2 l2.length c2] w fun e w' => e = .returned (.bool r) ∧ Below w.heap.size w w' := by
  have hu25 := Try.underlying25
  have HR0_0 := Aside0.mk hr0_0
  have HC0_0 := Aside0.mk hc0_0
  clear hr0_0 hc0_0
  have HR0_1 := Aside0.mk hr0_1
  have HC0_1 := Aside0.mk hc0_1
  clear hr0_1 hc0_1
  have HR2 := Aside0.mk hr2
  have HC2 := Aside0.mk hc2
  clear hr2 hc2
  have HB := Aside0.mk (Below.refl w.heap.size w)
  have H : ((wageofficelaw42_head.f).bind fun t180 => ((wageofficeref42_Small.f k l0_0 l0_1 600).bind fun t181 => (if t181 = true then (wageofficelaw42_DiskReading.j0 k a1 l2 t180 (decide ((l2.length : Int) > 600)) l0_0 l0_1) else (wageofficelaw42_DiskReading.j0 k a1 l2 t180 true l0_0 l0_1)))) = some r := h
  clear h
  replace H := Option.bind_eq_some_iff.mp H
  obtain ⟨t180, A40, H⟩ := H
  replace H : ((wageofficeref42_Small.f k l0_0 l0_1 600).bind fun t181 => (if t181 = true then (wageofficelaw42_DiskReading.j0 k a1 l2 t180 (decide ((l2.length : Int) > 600)) l0_0 l0_1) else (wageofficelaw42_DiskReading.j0 k a1 l2 t180 true l0_0 l0_1))) = some r := H
  have A4 := Aside0.mk A40
  clear A40
  have HC5 := Aside0.mk H
  clear H
  go_enter Try.func4, Try.ntmps4
  go_upto_region 2 with (first | ((with_reducible refine gate_dst (N := 3) rfl ?_); (try (refine gate_guard (by rfl) ?_; dsimp only)); refine box_event ?hg (N := 3) ?hd (cs := #[.slice A0_0 l0_0.length c0_0, .slice A0_1 l0_1.length c0_1]) (t := 25) ?hr ?_; (case hd => rfl); (case hg => rfl); (case hr => first | (go_simp; done) | (go_simp; rfl)); intro gb179 hg w6 hbox hb; have n0_ := Aside0.mk (below_step (by repeat (first | (with_reducible first | exact HB.out | apply below_alloc | apply pw_below_drewN | apply below_drew1) | exact HB.out)) hb); have n1_ := Aside0.mk (hbox); have n2_ := Aside0.mk ((by rw [hg]; exact (below_size (by repeat (first | (with_reducible first | exact HB.out | apply below_alloc | apply pw_below_drewN | apply below_drew1) | exact HB.out))) : w.heap.size ≤ gb179)); have n3_ := Aside0.mk ((by rw [hg]; exact (below_size (by repeat (first | (with_reducible first | exact HB.out | apply below_alloc | apply pw_below_drewN | apply below_drew1) | exact HB.out))) : w.heap.size ≤ gb179)); clear HB; have HB := n0_; have BK179 := n1_; have GW179 := n2_; have GE179 := n3_; clear n0_ n1_ n2_ n3_; clear hb hbox hg) | ((with_reducible refine gate_callee (f := 16) rfl ?_); refine goesL_ (some 14) rfl rfl Try.func16 (by kernel_rfl) rfl #[] rfl (by (try simp only [List.map_toArray, List.map_cons, List.map_nil]); first | done | rfl | (simp only [List.length_drop, List.length_take]; rfl)) ?_; (with_reducible refine (wageofficelaw42_head.calls  t180 _ A4.out).mono ?_); rintro e w7 ⟨rfl, hb⟩; refine ⟨_, rfl, ?_⟩; have n0_ := Aside0.mk (blk_below (g := gb179) (o := .cells #[.slice A0_0 l0_0.length c0_0, .slice A0_1 l0_1.length c0_1] 25 (0, 0)) (by (with_reducible repeat (first | refine blk_drewN ?_ _ | refine blk_drew ?_ | refine blk_alloc ?_ _)); exact BK179.out) hb); have n1_ := Aside0.mk (below_step (by repeat (first | (with_reducible first | exact HB.out | apply below_alloc | apply pw_below_drewN | apply below_drew1 | refine below_set ?_ GE179.out) | exact HB.out)) hb); clear BK179; clear HB; have BK179 := n0_; have HB := n1_; clear n0_ n1_; (try clear hb); (try clear hb2); (try clear hk); (try clear hi)))
  (try simp only [Act.put, List.setIfInBounds_toArray, List.set_cons_zero, List.set_cons_succ])
  go_cut [22] (fun v22 wc => ∃ (kq : Nat) (x22_4 : Bool), v22 = .bool x22_4 ∧ Aside0 (wageofficelaw42_DiskReading.j0 kq a1 l2 t180 x22_4 l0_0 l0_1 = some r) ∧ Aside0 (kq ≤ k) ∧ Aside0 (wc.heap[gb179]? = some (.cells #[(.slice A0_0 l0_0.length c0_0), (.slice A0_1 l0_1.length c0_1)] 25 (0, 0))) ∧ Aside0 (Below w.heap.size w wc))
  case first =>
    have H := HC5.out
    clear HC5
    replace H := Option.bind_eq_some_iff.mp H
    obtain ⟨t181, A80, H⟩ := H
    replace H : (if t181 = true then (wageofficelaw42_DiskReading.j0 k a1 l2 t180 (decide ((l2.length : Int) > 600)) l0_0 l0_1) else (wageofficelaw42_DiskReading.j0 k a1 l2 t180 true l0_0 l0_1)) = some r := H
    have A8 := Aside0.mk A80
    clear A80
    by_cases c9 : t181 = true
    · subst c9
      have H1 : (wageofficelaw42_DiskReading.j0 k a1 l2 t180 (decide ((l2.length : Int) > 600)) l0_0 l0_1) = some r := by rw [if_pos rfl] at H; exact H
      clear H
      have H := H1
      clear H1
      have H' := Aside0.mk H
      clear H
      have hcz10_0 : w7.cell? ⟨gb179, 0, none⟩ = some (.slice A0_0 l0_0.length c0_0) := (blk_cell BK179.out 0).trans rfl
      have hcz10_1 : w7.cell? ⟨gb179, 1, none⟩ = some (.slice A0_1 l0_1.length c0_1) := (blk_cell BK179.out 1).trans rfl
      have hfz10_0 := blk_frozen BK179.out 0
      have hfz10_1 := blk_frozen BK179.out 1
      go_wp2_with (first | ((with_reducible refine gate_callee (f := 20) rfl ?_); refine goesL_ (some 16) rfl rfl Try.func20 (by kernel_rfl) rfl #[.agg #[.slice A0_0 l0_0.length c0_0, .slice A0_1 l0_1.length c0_1], .int .i64 600] rfl (by (try simp only [List.map_toArray, List.map_cons, List.map_nil]); first | done | rfl | (simp only [List.length_drop, List.length_take]; rfl)) ?_; (with_reducible refine (wageofficeref42_Small.calls k _ _ l0_0 _ _ l0_1 600 true _ ?side1 ?side2 ?side3 ?side4 A8.out).mono ?_); (case side1 => repeat (first | exact (Kd.C_below HR0_0.out HB.out) | (with_reducible refine Kd.C_alloc ?_ _) | (with_reducible refine Kd.C_drewN ?_ _) | (with_reducible refine Kd.C_drew ?_))); (case side2 => exact HC0_0.out); (case side3 => repeat (first | exact (Kd.C_below HR0_1.out HB.out) | (with_reducible refine Kd.C_alloc ?_ _) | (with_reducible refine Kd.C_drewN ?_ _) | (with_reducible refine Kd.C_drew ?_))); (case side4 => exact HC0_1.out); rintro e w11 ⟨rfl, hb⟩; refine ⟨_, rfl, ?_⟩; have n0_ := Aside0.mk (blk_below (g := gb179) (o := .cells #[.slice A0_0 l0_0.length c0_0, .slice A0_1 l0_1.length c0_1] 25 (0, 0)) (by (with_reducible repeat (first | refine blk_drewN ?_ _ | refine blk_drew ?_ | refine blk_alloc ?_ _)); exact BK179.out) hb); have n1_ := Aside0.mk (below_step (by repeat (first | (with_reducible first | exact HB.out | apply below_alloc | apply pw_below_drewN | apply below_drew1 | refine below_set ?_ GE179.out) | exact HB.out)) hb); clear BK179; clear HB; have BK179 := n0_; have HB := n1_; clear n0_ n1_; (try clear hb); (try clear hb2); (try clear hk); (try clear hi)))
      go_meet
      case rel => exact ⟨_, (decide ((l2.length : Int) > 600)), (by first | rfl | (simp; done) | (simp [*]; done)), H', ⟨by first | omega | exact Nat.le_refl _⟩, ⟨by (with_reducible repeat (first | refine blk_drewN ?_ _ | refine blk_drew ?_ | refine blk_alloc ?_ _)); exact BK179.out⟩, ⟨by repeat (first | (with_reducible first | exact HB.out | apply below_alloc | apply pw_below_drewN | apply below_drew1 | refine below_set ?_ GE179.out) | exact HB.out)⟩⟩
    · replace c9 := Bool.eq_false_iff.mpr c9
      subst c9
      have H1 : (wageofficelaw42_DiskReading.j0 k a1 l2 t180 true l0_0 l0_1) = some r := by rw [if_neg (show ¬ (false = true) by decide)] at H; exact H
      clear H
      have H := H1
      clear H1
      have H' := Aside0.mk H
      clear H
      have hcz12_0 : w7.cell? ⟨gb179, 0, none⟩ = some (.slice A0_0 l0_0.length c0_0) := (blk_cell BK179.out 0).trans rfl
      have hcz12_1 : w7.cell? ⟨gb179, 1, none⟩ = some (.slice A0_1 l0_1.length c0_1) := (blk_cell BK179.out 1).trans rfl
      have hfz12_0 := blk_frozen BK179.out 0
      have hfz12_1 := blk_frozen BK179.out 1
      go_wp2_with (first | ((with_reducible refine gate_callee (f := 20) rfl ?_); refine goesL_ (some 16) rfl rfl Try.func20 (by kernel_rfl) rfl #[.agg #[.slice A0_0 l0_0.length c0_0, .slice A0_1 l0_1.length c0_1], .int .i64 600] rfl (by (try simp only [List.map_toArray, List.map_cons, List.map_nil]); first | done | rfl | (simp only [List.length_drop, List.length_take]; rfl)) ?_; (with_reducible refine (wageofficeref42_Small.calls k _ _ l0_0 _ _ l0_1 600 false _ ?side1 ?side2 ?side3 ?side4 A8.out).mono ?_); (case side1 => repeat (first | exact (Kd.C_below HR0_0.out HB.out) | (with_reducible refine Kd.C_alloc ?_ _) | (with_reducible refine Kd.C_drewN ?_ _) | (with_reducible refine Kd.C_drew ?_))); (case side2 => exact HC0_0.out); (case side3 => repeat (first | exact (Kd.C_below HR0_1.out HB.out) | (with_reducible refine Kd.C_alloc ?_ _) | (with_reducible refine Kd.C_drewN ?_ _) | (with_reducible refine Kd.C_drew ?_))); (case side4 => exact HC0_1.out); rintro e w13 ⟨rfl, hb⟩; refine ⟨_, rfl, ?_⟩; have n0_ := Aside0.mk (blk_below (g := gb179) (o := .cells #[.slice A0_0 l0_0.length c0_0, .slice A0_1 l0_1.length c0_1] 25 (0, 0)) (by (with_reducible repeat (first | refine blk_drewN ?_ _ | refine blk_drew ?_ | refine blk_alloc ?_ _)); exact BK179.out) hb); have n1_ := Aside0.mk (below_step (by repeat (first | (with_reducible first | exact HB.out | apply below_alloc | apply pw_below_drewN | apply below_drew1 | refine below_set ?_ GE179.out) | exact HB.out)) hb); clear BK179; clear HB; have BK179 := n0_; have HB := n1_; clear n0_ n1_; (try clear hb); (try clear hb2); (try clear hk); (try clear hi)))
      go_meet
      case rel => exact ⟨_, (true), (by first | rfl | (simp; done) | (simp [*]; done)), H', ⟨by first | omega | exact Nat.le_refl _⟩, ⟨by (with_reducible repeat (first | refine blk_drewN ?_ _ | refine blk_drew ?_ | refine blk_alloc ?_ _)); exact BK179.out⟩, ⟨by repeat (first | (with_reducible first | exact HB.out | apply below_alloc | apply pw_below_drewN | apply below_drew1 | refine below_set ?_ GE179.out) | exact HB.out)⟩⟩
  case rest =>
    clear HC5
    try clear c1
    try clear c2
    try clear p2
    try clear c4
    try clear c9
    try clear hcz10_0
    try clear hcz10_1
    try clear hcz12_0
    try clear hcz12_1
    try clear hfz10_0
    try clear hfz10_1
    try clear hfz12_0
    try clear hfz12_1
    obtain ⟨kq, x22_4, rfl, HA, HJ4, BK179, HB⟩ := hcut
    cases kq with
    | zero => exact absurd HA.out (by simp [wageofficelaw42_DiskReading.j0])
    | succ kj4 =>
      have H := HA.out
      clear HA
      simp only [wageofficelaw42_DiskReading.j0] at H
      by_cases c14 : x22_4 = true
      · subst c14
        have H1 : (some t180) = some r := by rw [if_pos rfl] at H; exact H
        clear H
        have H := H1
        clear H1
        obtain rfl := Option.some.inj H
        go_wp2
        go_ret
        exact ⟨by first | rfl | (simp [errW_none, errW_some] <;> rfl) | (simp [*, errW_none, errW_some] <;> rfl), by repeat (first | (with_reducible first | exact HB.out | apply below_alloc | apply pw_below_drewN | apply below_drew1 | refine below_set ?_ GE179.out) | exact HB.out)⟩
      · replace c14 := Bool.eq_false_iff.mpr c14
        subst c14
        have H1 : ((disk_Write.f l0_0 l0_1 a1 l2).bind fun bt182 => (if bt182.2.2 = 0 then ((wageofficelaw42_all.f l0_0 l0_1).bind fun t190 => ((wageofficelaw42_all.f bt182.1 bt182.2.1).bind fun t193 => (if (t190.length : Int) = (l0_0.length : Int) then (if (t193.length : Int) = (t190.length : Int) then (if a1 < 0 then (wageofficelaw42_DiskReading.j1 kj4 a1 l2 t180 t190 t193 true) else (wageofficelaw42_DiskReading.j1 kj4 a1 l2 t180 t190 t193 (decide ((wrap64 (a1 + (l2.length : Int))) > (t190.length : Int))))) else (wageofficelaw42_DiskReading.j1 kj4 a1 l2 t180 t190 t193 true)) else (wageofficelaw42_DiskReading.j1 kj4 a1 l2 t180 t190 t193 true)))) else (some t180))) = some r := by rw [if_neg (show ¬ (false = true) by decide)] at H; exact H
        clear H
        have H := H1
        clear H1
        replace H := Option.bind_eq_some_iff.mp H
        obtain ⟨⟨t182, t185, t188⟩, A150, H⟩ := H
        replace H : (if t188 = 0 then ((wageofficelaw42_all.f l0_0 l0_1).bind fun t190 => ((wageofficelaw42_all.f t182 t185).bind fun t193 => (if (t190.length : Int) = (l0_0.length : Int) then (if (t193.length : Int) = (t190.length : Int) then (if a1 < 0 then (wageofficelaw42_DiskReading.j1 kj4 a1 l2 t180 t190 t193 true) else (wageofficelaw42_DiskReading.j1 kj4 a1 l2 t180 t190 t193 (decide ((wrap64 (a1 + (l2.length : Int))) > (t190.length : Int))))) else (wageofficelaw42_DiskReading.j1 kj4 a1 l2 t180 t190 t193 true)) else (wageofficelaw42_DiskReading.j1 kj4 a1 l2 t180 t190 t193 true)))) else (some t180)) = some r := H
        have A15 := Aside0.mk A150
        clear A150
        by_cases c16 : t188 = 0
        · rw [if_pos c16] at H
          have c16b0 : (t188 == 0) = true := beq_iff_eq.mpr c16
          have c16b1 : (t188 != 0) = false := bne_eq_false_iff_eq.mpr c16
          clear c16
          replace H := Option.bind_eq_some_iff.mp H
          obtain ⟨t190, A170, H⟩ := H
          replace H : ((wageofficelaw42_all.f t182 t185).bind fun t193 => (if (t190.length : Int) = (l0_0.length : Int) then (if (t193.length : Int) = (t190.length : Int) then (if a1 < 0 then (wageofficelaw42_DiskReading.j1 kj4 a1 l2 t180 t190 t193 true) else (wageofficelaw42_DiskReading.j1 kj4 a1 l2 t180 t190 t193 (decide ((wrap64 (a1 + (l2.length : Int))) > (t190.length : Int))))) else (wageofficelaw42_DiskReading.j1 kj4 a1 l2 t180 t190 t193 true)) else (wageofficelaw42_DiskReading.j1 kj4 a1 l2 t180 t190 t193 true))) = some r := H
          have A17 := Aside0.mk A170
          clear A170
          replace H := Option.bind_eq_some_iff.mp H
          obtain ⟨t193, A180, H⟩ := H
          replace H : (if (t190.length : Int) = (l0_0.length : Int) then (if (t193.length : Int) = (t190.length : Int) then (if a1 < 0 then (wageofficelaw42_DiskReading.j1 kj4 a1 l2 t180 t190 t193 true) else (wageofficelaw42_DiskReading.j1 kj4 a1 l2 t180 t190 t193 (decide ((wrap64 (a1 + (l2.length : Int))) > (t190.length : Int))))) else (wageofficelaw42_DiskReading.j1 kj4 a1 l2 t180 t190 t193 true)) else (wageofficelaw42_DiskReading.j1 kj4 a1 l2 t180 t190 t193 true)) = some r := H
          have A18 := Aside0.mk A180
          clear A180
          have HC19 := Aside0.mk H
          clear H
          have hcz20_0 : wc.cell? ⟨gb179, 0, none⟩ = some (.slice A0_0 l0_0.length c0_0) := (blk_cell BK179.out 0).trans rfl
          have hcz20_1 : wc.cell? ⟨gb179, 1, none⟩ = some (.slice A0_1 l0_1.length c0_1) := (blk_cell BK179.out 1).trans rfl
          have hfz20_0 := blk_frozen BK179.out 0
          have hfz20_1 := blk_frozen BK179.out 1
          try go_wp2_with (first | ((with_reducible refine gate_callee (f := 21) rfl ?_); refine goesL_ (some 28) rfl rfl Try.func21 (by kernel_rfl) rfl #[.agg #[.slice A0_0 l0_0.length c0_0, .slice A0_1 l0_1.length c0_1], .int .i64 a1, .slice A2 l2.length c2] rfl (by (try simp only [List.map_toArray, List.map_cons, List.map_nil]); first | done | rfl | (simp only [List.length_drop, List.length_take]; rfl)) ?_; (with_reducible refine (disk_Write.calls _ _ l0_0 _ _ l0_1 a1 _ _ l2 t182 t185 t188 _ ?side1 ?side2 ?side3 ?side4 ?side5 ?side6 A15.out).mono ?_); (case side1 => repeat (first | exact (Kd.C_below HR0_0.out HB.out) | (with_reducible refine Kd.C_alloc ?_ _) | (with_reducible refine Kd.C_drewN ?_ _) | (with_reducible refine Kd.C_drew ?_))); (case side2 => exact HC0_0.out); (case side3 => repeat (first | exact (Kd.C_below HR0_1.out HB.out) | (with_reducible refine Kd.C_alloc ?_ _) | (with_reducible refine Kd.C_drewN ?_ _) | (with_reducible refine Kd.C_drew ?_))); (case side4 => exact HC0_1.out); (case side5 => repeat (first | exact (Kd.C_below HR2.out HB.out) | (with_reducible refine Kd.C_alloc ?_ _) | (with_reducible refine Kd.C_drewN ?_ _) | (with_reducible refine Kd.C_drew ?_))); (case side6 => exact HC2.out); rintro e w21 ⟨v183, v186, rfl, ho0, ho1, hb⟩; refine ⟨_, rfl, ?_⟩; have n0_ := Aside0.mk (Kd.R_lower ho0 (below_size (by repeat (first | (with_reducible first | exact HB.out | apply below_alloc | apply pw_below_drewN | apply below_drew1 | refine below_set ?_ GE179.out) | exact HB.out)))); have n1_ := Aside0.mk (Kd.S_lower ho1 (below_size (by repeat (first | (with_reducible first | exact HB.out | apply below_alloc | apply pw_below_drewN | apply below_drew1 | refine below_set ?_ GE179.out) | exact HB.out)))); have n2_ := Aside0.mk (blk_below (g := gb179) (o := .cells #[.slice A0_0 l0_0.length c0_0, .slice A0_1 l0_1.length c0_1] 25 (0, 0)) (by (with_reducible repeat (first | refine blk_drewN ?_ _ | refine blk_drew ?_ | refine blk_alloc ?_ _)); exact BK179.out) hb); have n3_ := Aside0.mk (below_step (by repeat (first | (with_reducible first | exact HB.out | apply below_alloc | apply pw_below_drewN | apply below_drew1 | refine below_set ?_ GE179.out) | exact HB.out)) hb); clear BK179; clear HB; have HO184 := n0_; have HO187 := n1_; have BK179 := n2_; have HB := n3_; clear n0_ n1_ n2_ n3_; (try clear hb); (try clear hb2); (try clear hk); (try clear hi); (try clear ho0); (try clear ho1)) | ((with_reducible refine gate_dst (N := 8) rfl ?_); (try (refine gate_guard (by rfl) ?_; dsimp only)); refine box_event ?hg (N := 8) ?hd (cs := #[.slice none 0 0, .slice none 0 0]) (t := 25) ?hr ?_; (case hd => rfl); (case hg => rfl); (case hr => first | (go_simp; done) | (go_simp; rfl)); intro gb189 hg w22 hbox hb; have n0_ := Aside0.mk (Kd.R_below (by (with_reducible repeat (first | apply Kd.R_alloc | apply Kd.R_drewN | apply Kd.R_drew)); exact HO184.out) hb); have n1_ := Aside0.mk (Kd.S_below (by (with_reducible repeat (first | apply Kd.S_alloc | apply Kd.S_drewN | apply Kd.S_drew)); exact HO187.out) hb); have n2_ := Aside0.mk (blk_below (g := gb179) (o := .cells #[.slice A0_0 l0_0.length c0_0, .slice A0_1 l0_1.length c0_1] 25 (0, 0)) (by (with_reducible repeat (first | refine blk_drewN ?_ _ | refine blk_drew ?_ | refine blk_alloc ?_ _)); exact BK179.out) hb); have n3_ := Aside0.mk (below_step (by repeat (first | (with_reducible first | exact HB.out | apply below_alloc | apply pw_below_drewN | apply below_drew1 | refine below_set ?_ GE179.out) | exact HB.out)) hb); have n4_ := Aside0.mk (hbox); have n5_ := Aside0.mk ((by rw [hg]; exact (below_size (by repeat (first | (with_reducible first | exact HB.out | apply below_alloc | apply pw_below_drewN | apply below_drew1 | refine below_set ?_ GE179.out) | exact HB.out))) : w.heap.size ≤ gb189)); have n6_ := Aside0.mk ((by rw [hg]; exact (below_size (by repeat (first | (with_reducible first | exact HB.out | apply below_alloc | apply pw_below_drewN | apply below_drew1 | refine below_set ?_ GE179.out) | exact HB.out))) : w.heap.size ≤ gb189)); have n7_ := Aside0.mk ((by rw [hg]; exact Nat.ne_of_lt (blk_lt (g := gb179) (o := .cells #[.slice A0_0 l0_0.length c0_0, .slice A0_1 l0_1.length c0_1] 25 (0, 0)) (by (with_reducible repeat (first | refine blk_drewN ?_ _ | refine blk_drew ?_ | refine blk_alloc ?_ _)); exact BK179.out)) : gb179 ≠ gb189)); have n8_ := Aside0.mk ((by rw [hg]; exact Nat.ne_of_gt (blk_lt (g := gb179) (o := .cells #[.slice A0_0 l0_0.length c0_0, .slice A0_1 l0_1.length c0_1] 25 (0, 0)) (by (with_reducible repeat (first | refine blk_drewN ?_ _ | refine blk_drew ?_ | refine blk_alloc ?_ _)); exact BK179.out)) : gb189 ≠ gb179)); clear HO184; clear HO187; clear BK179; clear HB; have HO184 := n0_; have HO187 := n1_; have BK179 := n2_; have HB := n3_; have BK189 := n4_; have GW189 := n5_; have GE189 := n6_; have NB179_189 := n7_; have NB189_179 := n8_; clear n0_ n1_ n2_ n3_ n4_ n5_ n6_ n7_ n8_; clear hb hbox hg; obtain ⟨Ao23, co23, eo23⟩ := Kd.R_slice HO184.out; subst eo23; have hnb24 := NB189_179.out; have hnc24 := NB179_189.out; have hcz25_0 : w22.cell? ⟨gb189, 0, none⟩ = some (.slice none 0 0) := (blk_cell BK189.out 0).trans rfl; have hcz25_1 : w22.cell? ⟨gb189, 1, none⟩ = some (.slice none 0 0) := (blk_cell BK189.out 1).trans rfl; have hfz25_0 := blk_frozen BK189.out 0; have hfz25_1 := blk_frozen BK189.out 1; obtain ⟨Ao26, co26, eo26⟩ := Kd.S_slice HO187.out; subst eo26))
          have n0_ : Aside0 (Kd.R (Kd.int .u8) 5 ((w22.setCell ⟨gb189, 0, none⟩ (.slice Ao23 t182.length co23)).setCell ⟨gb189, 1, none⟩ (.slice Ao26 t185.length co26)) w.heap.size (fun _ => True) (.slice Ao23 t182.length co23) t182) := ⟨by (with_reducible repeat (first | apply Kd.R_alloc | apply Kd.R_drewN | apply Kd.R_drew)); exact Kd.R_mono (Kd.R_far (p := ⟨gb189, 1, none⟩) (Kd.R_far (p := ⟨gb189, 0, none⟩) (Kd.R_types HO184.out BK189.out (by decide)) (fun _ hk => hk.2) (.slice Ao23 t182.length co23)) (fun _ hk => hk.2) (.slice Ao26 t185.length co26)) (fun _ hk => trivial)⟩
          have n1_ : Aside0 (Kd.S k45 45 ((w22.setCell ⟨gb189, 0, none⟩ (.slice Ao23 t182.length co23)).setCell ⟨gb189, 1, none⟩ (.slice Ao26 t185.length co26)) w.heap.size (fun k_ => some k_ ≠ (.slice Ao23 t182.length co23 : Value).ownBlock) (.slice Ao26 t185.length co26) t185) := ⟨by (with_reducible repeat (first | apply Kd.S_alloc | apply Kd.S_drewN | apply Kd.S_drew)); exact Kd.S_mono (Kd.S_far (p := ⟨gb189, 1, none⟩) (Kd.S_far (p := ⟨gb189, 0, none⟩) (Kd.S_types HO187.out BK189.out (by decide)) (fun _ hk => hk.2) (.slice Ao23 t182.length co23)) (fun _ hk => hk.2) (.slice Ao26 t185.length co26)) (fun _ hk => hk.1)⟩
          have n2_ : Aside0 (((w22.setCell ⟨gb189, 0, none⟩ (.slice Ao23 t182.length co23)).setCell ⟨gb189, 1, none⟩ (.slice Ao26 t185.length co26)).heap[gb179]? = some (.cells #[.slice A0_0 l0_0.length c0_0, .slice A0_1 l0_1.length c0_1] 25 (0, 0))) := ⟨by (with_reducible repeat (first | refine blk_drewN ?_ _ | refine blk_drew ?_ | refine blk_alloc ?_ _)); refine blk_far ?_ NB179_189.out _; (with_reducible repeat (first | refine blk_drewN ?_ _ | refine blk_drew ?_ | refine blk_alloc ?_ _)); refine blk_far ?_ NB179_189.out _; (with_reducible repeat (first | refine blk_drewN ?_ _ | refine blk_drew ?_ | refine blk_alloc ?_ _)); exact BK179.out⟩
          have n3_ : Aside0 (((w22.setCell ⟨gb189, 0, none⟩ (.slice Ao23 t182.length co23)).setCell ⟨gb189, 1, none⟩ (.slice Ao26 t185.length co26)).heap[gb189]? = some (.cells #[.slice Ao23 t182.length co23, .slice Ao26 t185.length co26] 25 (0, 0))) := ⟨by (with_reducible repeat (first | refine blk_drewN ?_ _ | refine blk_drew ?_ | refine blk_alloc ?_ _)); refine blk_put (cs := #[.slice Ao23 t182.length co23, .slice none 0 0]) ?_ 1 _ rfl; (with_reducible repeat (first | refine blk_drewN ?_ _ | refine blk_drew ?_ | refine blk_alloc ?_ _)); refine blk_put (cs := #[.slice none 0 0, .slice none 0 0]) ?_ 0 _ rfl; (with_reducible repeat (first | refine blk_drewN ?_ _ | refine blk_drew ?_ | refine blk_alloc ?_ _)); exact BK189.out⟩
          have n4_ : Aside0 (Below w.heap.size w ((w22.setCell ⟨gb189, 0, none⟩ (.slice Ao23 t182.length co23)).setCell ⟨gb189, 1, none⟩ (.slice Ao26 t185.length co26))) := ⟨by repeat (first | (with_reducible first | exact HB.out | apply below_alloc | apply pw_below_drewN | apply below_drew1 | refine below_set ?_ GE179.out | refine below_set ?_ GE189.out) | exact HB.out)⟩
          (try clear HO184)
          (try clear HO187)
          (try clear BK179)
          (try clear BK189)
          (try clear HB)
          generalize ((w22.setCell ⟨gb189, 0, none⟩ (.slice Ao23 t182.length co23)).setCell ⟨gb189, 1, none⟩ (.slice Ao26 t185.length co26)) = w27 at n0_ n1_ n2_ n3_ n4_ ⊢
          have HO184 := n0_
          have HO187 := n1_
          have BK179 := n2_
          have BK189 := n3_
          have HB := n4_
          clear n0_ n1_ n2_ n3_ n4_
          have n0_ := Aside0.mk (Kd.R_drew HO184.out)
          have n1_ := Aside0.mk (Kd.S_drew HO187.out)
          have n2_ := Aside0.mk (blk_drew BK179.out)
          have n3_ := Aside0.mk (blk_drew BK189.out)
          have n4_ := Aside0.mk (below_drew1 HB.out)
          clear HO184
          clear HO187
          clear BK179
          clear BK189
          clear HB
          have HO184 := n0_
          have HO187 := n1_
          have BK179 := n2_
          have BK189 := n3_
          have HB := n4_
          clear n0_ n1_ n2_ n3_ n4_
          refine start_ (n := 6) (S := fun w' => w'.cell? ⟨gb179, 0, none⟩ = some (.slice A0_0 l0_0.length c0_0) ∧ w'.cell? ⟨gb179, 1, none⟩ = some (.slice A0_1 l0_1.length c0_1) ∧ w'.cell? ⟨gb189, 0, none⟩ = some (.slice Ao23 t182.length co23) ∧ w'.cell? ⟨gb189, 1, none⟩ = some (.slice Ao26 t185.length co26)) (ds := []) #[false, false, false, false, false, false] (by kernel_rfl) rfl rfl ⟨(blk_cell BK179.out 0).trans rfl, (blk_cell BK179.out 1).trans rfl, (blk_cell BK189.out 0).trans rfl, (blk_cell BK189.out 1).trans rfl⟩ (fun hHeld => ?_)
          generalize w27.drew = w28 at HO184 HO187 BK179 BK189 HB hHeld ⊢
          refine take_ (i := 0) (N := some 34) (v := ?_) (a' := ?_) #[true, false, false, false, false, false] rfl rfl (by kernel_rfl) (fun _ _ _ h => h) (Or.inl ⟨by rfl, ?_⟩) hHeld ?_ ?_
          rotate_left
          · rintro w' ⟨s0, s1, s2, s3⟩
            go_simp
            with_reducible rfl
          rotate_left
          · simp only [Act.put, List.setIfInBounds_toArray, List.set_cons_zero, List.set_cons_succ, i64_w, i32_w]
            rfl
          refine take_ (i := 2) (N := some 36) (v := ?_) (a' := ?_) #[true, false, true, false, false, false] rfl rfl (by kernel_rfl) (fun _ _ _ h => h) (Or.inl ⟨by rfl, ?_⟩) hHeld ?_ ?_
          rotate_left
          · rintro w' ⟨s0, s1, s2, s3⟩
            go_simp
            with_reducible rfl
          rotate_left
          · simp only [Act.put, List.setIfInBounds_toArray, List.set_cons_zero, List.set_cons_succ, i64_w, i32_w]
            rfl
          refine one_ (i := 1) (N := some 35) #[true, true, true, false, false, false] rfl rfl (by kernel_rfl) (by decide) (fun K hK => ?_)
          refine goes_ Try.func30 (by kernel_rfl) rfl #[.agg #[.slice A0_0 l0_0.length c0_0, .slice A0_1 l0_1.length c0_1]] (by rfl) rfl rfl (by (try simp only [List.map_toArray, List.map_cons, List.map_nil]); first | done | rfl | (simp only [List.length_drop, List.length_take]; rfl)) ?_
          with_reducible refine (wageofficelaw42_all.calls _ _ l0_0 _ _ l0_1 t190 _ ?side1 ?side2 ?side3 ?side4 A17.out).mono ?_
          (case side1 => repeat (first | exact (Kd.C_below HR0_0.out HB.out) | (with_reducible refine Kd.C_alloc ?_ _) | (with_reducible refine Kd.C_drewN ?_ _) | (with_reducible refine Kd.C_drew ?_)))
          (case side2 => exact HC0_0.out)
          (case side3 => repeat (first | exact (Kd.C_below HR0_1.out HB.out) | (with_reducible refine Kd.C_alloc ?_ _) | (with_reducible refine Kd.C_drewN ?_ _) | (with_reducible refine Kd.C_drew ?_)))
          (case side4 => exact HC0_1.out)
          rintro e w29 ⟨v191, rfl, ho0, hb⟩
          refine ⟨_, rfl, ?_⟩
          have n0_ := Aside0.mk (Kd.R_elder' (by (with_reducible repeat (first | apply Kd.R_alloc | apply Kd.R_drewN | apply Kd.R_drew)); exact HO184.out) (Kd.R_base ho0) hb)
          have n1_ := Aside0.mk (Kd.S_elder' (by (with_reducible repeat (first | apply Kd.S_alloc | apply Kd.S_drewN | apply Kd.S_drew)); exact HO187.out) (Kd.R_base ho0) hb)
          have n2_ := Aside0.mk (Kd.R_lower (Kd.R_new' ho0 (Kd.R_lt (by (with_reducible repeat (first | apply Kd.R_alloc | apply Kd.R_drewN | apply Kd.R_drew)); exact HO184.out))) (below_size (by repeat (first | (with_reducible first | exact HB.out | apply below_alloc | apply pw_below_drewN | apply below_drew1 | refine below_set ?_ GE179.out | refine below_set ?_ GE189.out) | exact HB.out))))
          have n3_ := Aside0.mk (blk_below (g := gb179) (o := .cells #[.slice A0_0 l0_0.length c0_0, .slice A0_1 l0_1.length c0_1] 25 (0, 0)) (by (with_reducible repeat (first | refine blk_drewN ?_ _ | refine blk_drew ?_ | refine blk_alloc ?_ _)); exact BK179.out) hb)
          have n4_ := Aside0.mk (blk_below (g := gb189) (o := .cells #[.slice Ao23 t182.length co23, .slice Ao26 t185.length co26] 25 (0, 0)) (by (with_reducible repeat (first | refine blk_drewN ?_ _ | refine blk_drew ?_ | refine blk_alloc ?_ _)); exact BK189.out) hb)
          have n5_ := Aside0.mk (below_step (by repeat (first | (with_reducible first | exact HB.out | apply below_alloc | apply pw_below_drewN | apply below_drew1 | refine below_set ?_ GE179.out | refine below_set ?_ GE189.out) | exact HB.out)) hb)
          clear HO184
          clear HO187
          clear BK179
          clear BK189
          clear HB
          have HO184 := n0_
          have HO187 := n1_
          have HO192 := n2_
          have BK179 := n3_
          have BK189 := n4_
          have HB := n5_
          clear n0_ n1_ n2_ n3_ n4_ n5_
          (try clear hb)
          (try clear hb2)
          (try clear hk)
          (try clear hi)
          (try clear ho0)
          refine hK.out _ _ ⟨(blk_cell BK179.out 0).trans rfl, (blk_cell BK179.out 1).trans rfl, (blk_cell BK189.out 0).trans rfl, (blk_cell BK189.out 1).trans rfl⟩ (fun hHeld => ?_)
          clear hK K
          refine norm_ (a' := ?_) ?_ ?_
          rotate_left
          · show Act.put _ (some 35) _ = _
            simp only [Act.put, List.setIfInBounds_toArray, List.set_cons_zero, List.set_cons_succ, i64_w, i32_w]
            rfl
          refine one_ (i := 3) (N := some 37) #[true, true, true, true, false, false] rfl rfl (by kernel_rfl) (by decide) (fun K hK => ?_)
          refine goes_ Try.func30 (by kernel_rfl) rfl #[.agg #[.slice Ao23 t182.length co23, .slice Ao26 t185.length co26]] (by rfl) rfl rfl (by (try simp only [List.map_toArray, List.map_cons, List.map_nil]); first | done | rfl | (simp only [List.length_drop, List.length_take]; rfl)) ?_
          with_reducible refine (wageofficelaw42_all.calls _ _ t182 _ _ t185 t193 _ ?side1 ?side2 ?side3 ?side4 A18.out).mono ?_
          (case side1 => repeat (first | exact (Kd.R_reads' HO184.out).2.2 | (with_reducible refine Kd.C_alloc ?_ _) | (with_reducible refine Kd.C_drewN ?_ _) | (with_reducible refine Kd.C_drew ?_)))
          (case side2 => exact (Kd.R_reads' HO184.out).2.1)
          (case side3 => repeat (first | exact (Kd.S_reads' HO187.out).2.2 | (with_reducible refine Kd.C_alloc ?_ _) | (with_reducible refine Kd.C_drewN ?_ _) | (with_reducible refine Kd.C_drew ?_)))
          (case side4 => exact (Kd.S_reads' HO187.out).2.1)
          rintro e w30 ⟨v194, rfl, ho0, hb⟩
          refine ⟨_, rfl, ?_⟩
          have n0_ := Aside0.mk (Kd.R_elder' (by (with_reducible repeat (first | apply Kd.R_alloc | apply Kd.R_drewN | apply Kd.R_drew)); exact HO184.out) (Kd.R_base ho0) hb)
          have n1_ := Aside0.mk (Kd.S_elder' (by (with_reducible repeat (first | apply Kd.S_alloc | apply Kd.S_drewN | apply Kd.S_drew)); exact HO187.out) (Kd.R_base ho0) hb)
          have n2_ := Aside0.mk (Kd.R_elder' (by (with_reducible repeat (first | apply Kd.R_alloc | apply Kd.R_drewN | apply Kd.R_drew)); exact HO192.out) (Kd.R_base ho0) hb)
          have n3_ := Aside0.mk (Kd.R_lower (Kd.R_new' (Kd.R_new' ho0 (Kd.R_lt (by (with_reducible repeat (first | apply Kd.R_alloc | apply Kd.R_drewN | apply Kd.R_drew)); exact HO184.out))) (Kd.R_lt (by (with_reducible repeat (first | apply Kd.R_alloc | apply Kd.R_drewN | apply Kd.R_drew)); exact HO192.out))) (below_size (by repeat (first | (with_reducible first | exact HB.out | apply below_alloc | apply pw_below_drewN | apply below_drew1 | refine below_set ?_ GE179.out | refine below_set ?_ GE189.out) | exact HB.out))))
          have n4_ := Aside0.mk (blk_below (g := gb179) (o := .cells #[.slice A0_0 l0_0.length c0_0, .slice A0_1 l0_1.length c0_1] 25 (0, 0)) (by (with_reducible repeat (first | refine blk_drewN ?_ _ | refine blk_drew ?_ | refine blk_alloc ?_ _)); exact BK179.out) hb)
          have n5_ := Aside0.mk (blk_below (g := gb189) (o := .cells #[.slice Ao23 t182.length co23, .slice Ao26 t185.length co26] 25 (0, 0)) (by (with_reducible repeat (first | refine blk_drewN ?_ _ | refine blk_drew ?_ | refine blk_alloc ?_ _)); exact BK189.out) hb)
          have n6_ := Aside0.mk (below_step (by repeat (first | (with_reducible first | exact HB.out | apply below_alloc | apply pw_below_drewN | apply below_drew1 | refine below_set ?_ GE179.out | refine below_set ?_ GE189.out) | exact HB.out)) hb)
          clear HO184
          clear HO187
          clear HO192
          clear BK179
          clear BK189
          clear HB
          have HO184 := n0_
          have HO187 := n1_
          have HO192 := n2_
          have HO195 := n3_
          have BK179 := n4_
          have BK189 := n5_
          have HB := n6_
          clear n0_ n1_ n2_ n3_ n4_ n5_ n6_
          (try clear hb)
          (try clear hb2)
          (try clear hk)
          (try clear hi)
          (try clear ho0)
          refine hK.out _ _ ⟨(blk_cell BK179.out 0).trans rfl, (blk_cell BK179.out 1).trans rfl, (blk_cell BK189.out 0).trans rfl, (blk_cell BK189.out 1).trans rfl⟩ (fun hHeld => ?_)
          clear hK K
          refine norm_ (a' := ?_) ?_ ?_
          rotate_left
          · show Act.put _ (some 37) _ = _
            simp only [Act.put, List.setIfInBounds_toArray, List.set_cons_zero, List.set_cons_succ, i64_w, i32_w]
            rfl
          refine pure_ (i := 4) (N := some 10) (v := ?_) (a' := ?_) #[true, true, true, true, true, false] rfl rfl (by kernel_rfl) (fun _ _ _ h => h) (Or.inl ⟨by rfl, ?_⟩) ?_ ?_
          rotate_left
          · intro w'
            go_simp
            with_reducible rfl
          rotate_left
          · simp only [Act.put, List.setIfInBounds_toArray, List.set_cons_zero, List.set_cons_succ, i64_w, i32_w]
            rfl
          refine pure_ (i := 5) (N := some 11) (v := ?_) (a' := ?_) #[true, true, true, true, true, true] rfl rfl (by kernel_rfl) (fun _ _ _ h => h) (Or.inl ⟨by rfl, ?_⟩) ?_ ?_
          rotate_left
          · intro w'
            go_simp
            with_reducible rfl
          rotate_left
          · simp only [Act.put, List.setIfInBounds_toArray, List.set_cons_zero, List.set_cons_succ, i64_w, i32_w]
            rfl
          refine done_ (by kernel_rfl) ?_
          go_upto_region 8 with (fail)
          go_cut [63] (fun v63 wc => ∃ (kq : Nat) (x63_18 : Bool), v63 = .bool x63_18 ∧ Aside0 (wageofficelaw42_DiskReading.j1 kq a1 l2 t180 t190 t193 x63_18 = some r) ∧ Aside0 (kq ≤ kj4) ∧ Aside0 (Kd.R (Kd.int .u8) 5 wc w.heap.size (fun k_ => some k_ ≠ (v194 : Value).ownBlock ∧ some k_ ≠ ((.slice Ao23 t182.length co23) : Value).ownBlock) v191 t190) ∧ Aside0 (Kd.R (Kd.int .u8) 5 wc w.heap.size (fun k_ => some k_ ≠ (v191 : Value).ownBlock ∧ some k_ ≠ ((.slice Ao23 t182.length co23) : Value).ownBlock) v194 t193) ∧ Aside0 (Kd.R (Kd.int .u8) 5 wc w.heap.size (fun k_ => some k_ ≠ (v191 : Value).ownBlock ∧ some k_ ≠ (v194 : Value).ownBlock) (.slice Ao23 t182.length co23) t182) ∧ Aside0 (Kd.S k45 45 wc w.heap.size (fun k_ => some k_ ≠ (v191 : Value).ownBlock ∧ some k_ ≠ (v194 : Value).ownBlock ∧ some k_ ≠ ((.slice Ao23 t182.length co23) : Value).ownBlock) (.slice Ao26 t185.length co26) t185) ∧ Aside0 (wc.heap[gb179]? = some (.cells #[(.slice A0_0 l0_0.length c0_0), (.slice A0_1 l0_1.length c0_1)] 25 (0, 0))) ∧ Aside0 (wc.heap[gb189]? = some (.cells #[(.slice Ao23 t182.length co23), (.slice Ao26 t185.length co26)] 25 (0, 0))) ∧ Aside0 (Below w.heap.size w wc))
          case first =>
            have H := HC19.out
            clear HC19
            by_cases c31 : (t190.length : Int) = (l0_0.length : Int)
            · rw [if_pos c31] at H
              have c31b0 : ((t190.length : Int) == (l0_0.length : Int)) = true := beq_iff_eq.mpr c31
              have c31b1 : ((t190.length : Int) != (l0_0.length : Int)) = false := bne_eq_false_iff_eq.mpr c31
              have c31b2 : (t190.length == l0_0.length) = true := by first | simpa using c31 | (simp at c31 ⊢; omega)
              clear c31
              (first | rw [c31b0] | (simp only [i64_w, i32_w]; rw [c31b0]) | skip)
              by_cases c32 : (t193.length : Int) = (t190.length : Int)
              · rw [if_pos c32] at H
                have c32b0 : ((t193.length : Int) == (t190.length : Int)) = true := beq_iff_eq.mpr c32
                have c32b1 : ((t193.length : Int) != (t190.length : Int)) = false := bne_eq_false_iff_eq.mpr c32
                have c32b2 : (t193.length == t190.length) = true := by first | simpa using c32 | (simp at c32 ⊢; omega)
                clear c32
                by_cases c33 : a1 < 0
                · rw [if_pos c33] at H
                  have c33b0 : decide (a1 < 0) = true := decide_eq_true c33
                  clear c33
                  have H' := Aside0.mk H
                  clear H
                  obtain ⟨Ao34, co34, eo34⟩ := Kd.R_slice HO192.out
                  subst eo34
                  have hnb35 := NB179_189.out
                  have hnc35 := NB189_179.out
                  have hcz36_0 : w30.cell? ⟨gb179, 0, none⟩ = some (.slice A0_0 l0_0.length c0_0) := (blk_cell BK179.out 0).trans rfl
                  have hcz36_1 : w30.cell? ⟨gb179, 1, none⟩ = some (.slice A0_1 l0_1.length c0_1) := (blk_cell BK179.out 1).trans rfl
                  have hfz36_0 := blk_frozen BK179.out 0
                  have hfz36_1 := blk_frozen BK179.out 1
                  obtain ⟨Ao37, co37, eo37⟩ := Kd.R_slice HO195.out
                  subst eo37
                  go_wp2
                  go_meet
                  case rel => exact ⟨_, (true), (by first | rfl | (simp; done) | (simp [*]; done)), H', ⟨by have := HJ4.out; first | omega | exact Nat.le_refl _⟩, ⟨by (with_reducible repeat (first | apply Kd.R_alloc | apply Kd.R_drewN | apply Kd.R_drew)); exact Kd.R_mono HO192.out (fun _ hk => ⟨hk.2, hk.1.2⟩)⟩, ⟨by (with_reducible repeat (first | apply Kd.R_alloc | apply Kd.R_drewN | apply Kd.R_drew)); exact Kd.R_mono HO195.out (fun _ hk => ⟨hk.2, hk.1.2⟩)⟩, ⟨by (with_reducible repeat (first | apply Kd.R_alloc | apply Kd.R_drewN | apply Kd.R_drew)); exact Kd.R_mono HO184.out (fun _ hk => ⟨hk.1.2, hk.2⟩)⟩, ⟨by (with_reducible repeat (first | apply Kd.S_alloc | apply Kd.S_drewN | apply Kd.S_drew)); exact Kd.S_mono HO187.out (fun _ hk => ⟨hk.1.2, ⟨hk.2, hk.1.1⟩⟩)⟩, ⟨by (with_reducible repeat (first | refine blk_drewN ?_ _ | refine blk_drew ?_ | refine blk_alloc ?_ _)); exact BK179.out⟩, ⟨by (with_reducible repeat (first | refine blk_drewN ?_ _ | refine blk_drew ?_ | refine blk_alloc ?_ _)); exact BK189.out⟩, ⟨by repeat (first | (with_reducible first | exact HB.out | apply below_alloc | apply pw_below_drewN | apply below_drew1 | refine below_set ?_ GE179.out | refine below_set ?_ GE189.out) | exact HB.out)⟩⟩
                · rw [if_neg c33] at H
                  have c33b0 : decide (a1 < 0) = false := decide_eq_false c33
                  clear c33
                  have H' := Aside0.mk H
                  clear H
                  obtain ⟨Ao38, co38, eo38⟩ := Kd.R_slice HO192.out
                  subst eo38
                  have hnb39 := NB179_189.out
                  have hnc39 := NB189_179.out
                  have hcz40_0 : w30.cell? ⟨gb179, 0, none⟩ = some (.slice A0_0 l0_0.length c0_0) := (blk_cell BK179.out 0).trans rfl
                  have hcz40_1 : w30.cell? ⟨gb179, 1, none⟩ = some (.slice A0_1 l0_1.length c0_1) := (blk_cell BK179.out 1).trans rfl
                  have hfz40_0 := blk_frozen BK179.out 0
                  have hfz40_1 := blk_frozen BK179.out 1
                  obtain ⟨Ao41, co41, eo41⟩ := Kd.R_slice HO195.out
                  subst eo41
                  go_wp2
                  go_meet
                  case rel => exact ⟨_, (decide ((wrap64 (a1 + (l2.length : Int))) > (t190.length : Int))), (by first | rfl | (simp; done) | (simp [*]; done)), H', ⟨by have := HJ4.out; first | omega | exact Nat.le_refl _⟩, ⟨by (with_reducible repeat (first | apply Kd.R_alloc | apply Kd.R_drewN | apply Kd.R_drew)); exact Kd.R_mono HO192.out (fun _ hk => ⟨hk.2, hk.1.2⟩)⟩, ⟨by (with_reducible repeat (first | apply Kd.R_alloc | apply Kd.R_drewN | apply Kd.R_drew)); exact Kd.R_mono HO195.out (fun _ hk => ⟨hk.2, hk.1.2⟩)⟩, ⟨by (with_reducible repeat (first | apply Kd.R_alloc | apply Kd.R_drewN | apply Kd.R_drew)); exact Kd.R_mono HO184.out (fun _ hk => ⟨hk.1.2, hk.2⟩)⟩, ⟨by (with_reducible repeat (first | apply Kd.S_alloc | apply Kd.S_drewN | apply Kd.S_drew)); exact Kd.S_mono HO187.out (fun _ hk => ⟨hk.1.2, ⟨hk.2, hk.1.1⟩⟩)⟩, ⟨by (with_reducible repeat (first | refine blk_drewN ?_ _ | refine blk_drew ?_ | refine blk_alloc ?_ _)); exact BK179.out⟩, ⟨by (with_reducible repeat (first | refine blk_drewN ?_ _ | refine blk_drew ?_ | refine blk_alloc ?_ _)); exact BK189.out⟩, ⟨by repeat (first | (with_reducible first | exact HB.out | apply below_alloc | apply pw_below_drewN | apply below_drew1 | refine below_set ?_ GE179.out | refine below_set ?_ GE189.out) | exact HB.out)⟩⟩
              · rw [if_neg c32] at H
                have c32b0 : ((t193.length : Int) == (t190.length : Int)) = false := beq_eq_false_iff_ne.mpr c32
                have c32b1 : ((t193.length : Int) != (t190.length : Int)) = true := bne_iff_ne.mpr c32
                have c32b2 : (t193.length == t190.length) = false := by first | simpa using c32 | (simp at c32 ⊢; omega)
                have H' := Aside0.mk H
                clear H
                obtain ⟨Ao42, co42, eo42⟩ := Kd.R_slice HO192.out
                subst eo42
                have hnb43 := NB179_189.out
                have hnc43 := NB189_179.out
                have hcz44_0 : w30.cell? ⟨gb179, 0, none⟩ = some (.slice A0_0 l0_0.length c0_0) := (blk_cell BK179.out 0).trans rfl
                have hcz44_1 : w30.cell? ⟨gb179, 1, none⟩ = some (.slice A0_1 l0_1.length c0_1) := (blk_cell BK179.out 1).trans rfl
                have hfz44_0 := blk_frozen BK179.out 0
                have hfz44_1 := blk_frozen BK179.out 1
                obtain ⟨Ao45, co45, eo45⟩ := Kd.R_slice HO195.out
                subst eo45
                go_wp2
                go_meet
                case rel => exact ⟨_, (true), (by first | rfl | (simp; done) | (simp [*]; done)), H', ⟨by have := HJ4.out; first | omega | exact Nat.le_refl _⟩, ⟨by (with_reducible repeat (first | apply Kd.R_alloc | apply Kd.R_drewN | apply Kd.R_drew)); exact Kd.R_mono HO192.out (fun _ hk => ⟨hk.2, hk.1.2⟩)⟩, ⟨by (with_reducible repeat (first | apply Kd.R_alloc | apply Kd.R_drewN | apply Kd.R_drew)); exact Kd.R_mono HO195.out (fun _ hk => ⟨hk.2, hk.1.2⟩)⟩, ⟨by (with_reducible repeat (first | apply Kd.R_alloc | apply Kd.R_drewN | apply Kd.R_drew)); exact Kd.R_mono HO184.out (fun _ hk => ⟨hk.1.2, hk.2⟩)⟩, ⟨by (with_reducible repeat (first | apply Kd.S_alloc | apply Kd.S_drewN | apply Kd.S_drew)); exact Kd.S_mono HO187.out (fun _ hk => ⟨hk.1.2, ⟨hk.2, hk.1.1⟩⟩)⟩, ⟨by (with_reducible repeat (first | refine blk_drewN ?_ _ | refine blk_drew ?_ | refine blk_alloc ?_ _)); exact BK179.out⟩, ⟨by (with_reducible repeat (first | refine blk_drewN ?_ _ | refine blk_drew ?_ | refine blk_alloc ?_ _)); exact BK189.out⟩, ⟨by repeat (first | (with_reducible first | exact HB.out | apply below_alloc | apply pw_below_drewN | apply below_drew1 | refine below_set ?_ GE179.out | refine below_set ?_ GE189.out) | exact HB.out)⟩⟩
            · rw [if_neg c31] at H
              have c31b0 : ((t190.length : Int) == (l0_0.length : Int)) = false := beq_eq_false_iff_ne.mpr c31
              have c31b1 : ((t190.length : Int) != (l0_0.length : Int)) = true := bne_iff_ne.mpr c31
              have c31b2 : (t190.length == l0_0.length) = false := by first | simpa using c31 | (simp at c31 ⊢; omega)
              (first | rw [c31b0] | (simp only [i64_w, i32_w]; rw [c31b0]) | skip)
              have H' := Aside0.mk H
              clear H
              obtain ⟨Ao46, co46, eo46⟩ := Kd.R_slice HO192.out
              subst eo46
              have hnb47 := NB179_189.out
              have hnc47 := NB189_179.out
              have hcz48_0 : w30.cell? ⟨gb179, 0, none⟩ = some (.slice A0_0 l0_0.length c0_0) := (blk_cell BK179.out 0).trans rfl
              have hcz48_1 : w30.cell? ⟨gb179, 1, none⟩ = some (.slice A0_1 l0_1.length c0_1) := (blk_cell BK179.out 1).trans rfl
              have hfz48_0 := blk_frozen BK179.out 0
              have hfz48_1 := blk_frozen BK179.out 1
              go_wp2
              go_meet
              case rel => exact ⟨_, (true), (by first | rfl | (simp; done) | (simp [*]; done)), H', ⟨by have := HJ4.out; first | omega | exact Nat.le_refl _⟩, ⟨by (with_reducible repeat (first | apply Kd.R_alloc | apply Kd.R_drewN | apply Kd.R_drew)); exact Kd.R_mono HO192.out (fun _ hk => ⟨hk.2, hk.1.2⟩)⟩, ⟨by (with_reducible repeat (first | apply Kd.R_alloc | apply Kd.R_drewN | apply Kd.R_drew)); exact Kd.R_mono HO195.out (fun _ hk => ⟨hk.2, hk.1.2⟩)⟩, ⟨by (with_reducible repeat (first | apply Kd.R_alloc | apply Kd.R_drewN | apply Kd.R_drew)); exact Kd.R_mono HO184.out (fun _ hk => ⟨hk.1.2, hk.2⟩)⟩, ⟨by (with_reducible repeat (first | apply Kd.S_alloc | apply Kd.S_drewN | apply Kd.S_drew)); exact Kd.S_mono HO187.out (fun _ hk => ⟨hk.1.2, ⟨hk.2, hk.1.1⟩⟩)⟩, ⟨by (with_reducible repeat (first | refine blk_drewN ?_ _ | refine blk_drew ?_ | refine blk_alloc ?_ _)); exact BK179.out⟩, ⟨by (with_reducible repeat (first | refine blk_drewN ?_ _ | refine blk_drew ?_ | refine blk_alloc ?_ _)); exact BK189.out⟩, ⟨by repeat (first | (with_reducible first | exact HB.out | apply below_alloc | apply pw_below_drewN | apply below_drew1 | refine below_set ?_ GE179.out | refine below_set ?_ GE189.out) | exact HB.out)⟩⟩
          case rest =>
            clear HC19
            try clear c1
            try clear c2
            try clear p2
            try clear c3
            try clear c4
            try clear p6
            try clear c9
            try clear c14
            try clear c16
            try clear c16b0
            try clear c16b1
            try clear c20
            try clear c21
            try clear c24
            try clear c30
            try clear c31
            try clear c31b0
            try clear c31b1
            try clear c31b2
            try clear c32
            try clear c32b0
            try clear c32b1
            try clear c32b2
            try clear c33
            try clear c33b0
            try clear c35
            try clear c39
            try clear c43
            try clear c47
            try clear hcz10_0
            try clear hcz10_1
            try clear hcz12_0
            try clear hcz12_1
            try clear hcz20_0
            try clear hcz20_1
            try clear hcz25_0
            try clear hcz25_1
            try clear hcz36_0
            try clear hcz36_1
            try clear hcz40_0
            try clear hcz40_1
            try clear hcz44_0
            try clear hcz44_1
            try clear hcz48_0
            try clear hcz48_1
            try clear hfz10_0
            try clear hfz10_1
            try clear hfz12_0
            try clear hfz12_1
            try clear hfz20_0
            try clear hfz20_1
            try clear hfz25_0
            try clear hfz25_1
            try clear hfz36_0
            try clear hfz36_1
            try clear hfz40_0
            try clear hfz40_1
            try clear hfz44_0
            try clear hfz44_1
            try clear hfz48_0
            try clear hfz48_1
            try clear p2
            obtain ⟨kq, x63_18, rfl, HA, HJ18, HO_10, HO_11, HO_190000, HO_190001, BK179, BK189, HB⟩ := hcut
            cases kq with
            | zero => exact absurd HA.out (by simp [wageofficelaw42_DiskReading.j1])
            | succ kj18 =>
              have H := HA.out
              clear HA
              simp only [wageofficelaw42_DiskReading.j1] at H
              by_cases c49 : x63_18 = true
              · subst c49
                have H1 : (some false) = some r := by rw [if_pos rfl] at H; exact H
                clear H
                have H := H1
                clear H1
                obtain rfl := Option.some.inj H
                go_wp2
                go_ret
                exact ⟨by first | rfl | (simp [errW_none, errW_some] <;> rfl) | (simp [*, errW_none, errW_some] <;> rfl), by repeat (first | (with_reducible first | exact HB.out | apply below_alloc | apply pw_below_drewN | apply below_drew1 | refine below_set ?_ GE179.out | refine below_set ?_ GE189.out) | exact HB.out)⟩
              · replace c49 := Bool.eq_false_iff.mpr c49
                subst c49
                have H1 : (wageofficelaw42_DiskReading.l0 kj18 a1 l2 t180 t190 t193 0) = some r := by rw [if_neg (show ¬ (false = true) by decide)] at H; exact H
                clear H
                have H := H1
                clear H1
                have H' := Aside0.mk H
                clear H
                go_wp2
                go_loopg [12] kj18 (fun kq v12 w' => ∃ (x12_3 : Int), v12 = .int .i64 x12_3 ∧ Aside0 (wageofficelaw42_DiskReading.l0 kq a1 l2 t180 t190 t193 x12_3 = some r) ∧ Aside0 (kq ≤ kj18) ∧ Aside0 (Kd.R (Kd.int .u8) 5 w' w.heap.size (fun k_ => some k_ ≠ (v194 : Value).ownBlock ∧ some k_ ≠ ((.slice Ao23 t182.length co23) : Value).ownBlock) v191 t190) ∧ Aside0 (Kd.R (Kd.int .u8) 5 w' w.heap.size (fun k_ => some k_ ≠ (v191 : Value).ownBlock ∧ some k_ ≠ ((.slice Ao23 t182.length co23) : Value).ownBlock) v194 t193) ∧ Aside0 (Kd.R (Kd.int .u8) 5 w' w.heap.size (fun k_ => some k_ ≠ (v191 : Value).ownBlock ∧ some k_ ≠ (v194 : Value).ownBlock) (.slice Ao23 t182.length co23) t182) ∧ Aside0 (Kd.S k45 45 w' w.heap.size (fun k_ => some k_ ≠ (v191 : Value).ownBlock ∧ some k_ ≠ (v194 : Value).ownBlock ∧ some k_ ≠ ((.slice Ao23 t182.length co23) : Value).ownBlock) (.slice Ao26 t185.length co26) t185) ∧ Aside0 (w'.heap[gb179]? = some (.cells #[(.slice A0_0 l0_0.length c0_0), (.slice A0_1 l0_1.length c0_1)] 25 (0, 0))) ∧ Aside0 (w'.heap[gb189]? = some (.cells #[(.slice Ao23 t182.length co23), (.slice Ao26 t185.length co26)] 25 (0, 0))) ∧ Aside0 (Below w.heap.size w w'))
                case atStart => exact ⟨(0), (by first | rfl | (simp; done) | (simp [*]; done)), H', ⟨Nat.le_refl _⟩, ⟨by (with_reducible repeat (first | apply Kd.R_alloc | apply Kd.R_drewN | apply Kd.R_drew)); exact HO_10.out⟩, ⟨by (with_reducible repeat (first | apply Kd.R_alloc | apply Kd.R_drewN | apply Kd.R_drew)); exact HO_11.out⟩, ⟨by (with_reducible repeat (first | apply Kd.R_alloc | apply Kd.R_drewN | apply Kd.R_drew)); exact HO_190000.out⟩, ⟨by (with_reducible repeat (first | apply Kd.S_alloc | apply Kd.S_drewN | apply Kd.S_drew)); exact HO_190001.out⟩, ⟨by (with_reducible repeat (first | refine blk_drewN ?_ _ | refine blk_drew ?_ | refine blk_alloc ?_ _)); exact BK179.out⟩, ⟨by (with_reducible repeat (first | refine blk_drewN ?_ _ | refine blk_drew ?_ | refine blk_alloc ?_ _)); exact BK189.out⟩, ⟨by repeat (first | (with_reducible first | exact HB.out | apply below_alloc | apply pw_below_drewN | apply below_drew1 | refine below_set ?_ GE179.out | refine below_set ?_ GE189.out) | exact HB.out)⟩⟩
                case round =>
                  clear H'
                  try clear c1
                  try clear c2
                  try clear p2
                  try clear c3
                  try clear c4
                  try clear p6
                  try clear c9
                  try clear c14
                  try clear c16
                  try clear c16b0
                  try clear c16b1
                  try clear c20
                  try clear c21
                  try clear c24
                  try clear c30
                  try clear c31
                  try clear c31b0
                  try clear c31b1
                  try clear c31b2
                  try clear c32
                  try clear c32b0
                  try clear c32b1
                  try clear c32b2
                  try clear c33
                  try clear c33b0
                  try clear c35
                  try clear c39
                  try clear c43
                  try clear c47
                  try clear c49
                  try clear hcz10_0
                  try clear hcz10_1
                  try clear hcz12_0
                  try clear hcz12_1
                  try clear hcz20_0
                  try clear hcz20_1
                  try clear hcz25_0
                  try clear hcz25_1
                  try clear hcz36_0
                  try clear hcz36_1
                  try clear hcz40_0
                  try clear hcz40_1
                  try clear hcz44_0
                  try clear hcz44_1
                  try clear hcz48_0
                  try clear hcz48_1
                  try clear hfz10_0
                  try clear hfz10_1
                  try clear hfz12_0
                  try clear hfz12_1
                  try clear hfz20_0
                  try clear hfz20_1
                  try clear hfz25_0
                  try clear hfz25_1
                  try clear hfz36_0
                  try clear hfz36_1
                  try clear hfz40_0
                  try clear hfz40_1
                  try clear hfz44_0
                  try clear hfz44_1
                  try clear hfz48_0
                  try clear hfz48_1
                  try clear p2
                  try clear p6
                  obtain ⟨x12_3, rfl, HA, HK3, HO_10, HO_11, HO_190000, HO_190001, BK179, BK189, HB⟩ := hrel
                  cases gk with
                  | zero => exact absurd HA.out (by simp [wageofficelaw42_DiskReading.l0])
                  | succ k3 =>
                    have H := HA.out
                    clear HA
                    simp only [wageofficelaw42_DiskReading.l0] at H
                    by_cases c50 : x12_3 < (t190.length : Int)
                    · rw [if_pos c50] at H
                      have c50b0 : decide (x12_3 < (t190.length : Int)) = true := decide_eq_true c50
                      clear c50
                      by_cases c51 : 0 ≤ x12_3
                      · rw [if_pos c51] at H
                        have c51b0 : decide (0 ≤ x12_3) = true := decide_eq_true c51
                        clear c51
                        have HC52 := Aside0.mk H
                        clear H
                        obtain ⟨Ao53, co53, eo53⟩ := Kd.R_slice HO_10.out
                        subst eo53
                        have p196 : 0 ≤ (x12_3 : Int) := of_decide_eq_true (by first | (with_reducible assumption) | assumption)
                        have q196 : x12_3 < (t190.length : Int) := of_decide_eq_true (by first | (with_reducible assumption) | assumption)
                        obtain ⟨ad196, e196, hx196_0⟩ := Kd.at_int (Kd.R_reads' HO_10.out).2.2 x12_3 p196 q196
                        cases e196
                        replace p196 := eq_true p196
                        replace q196 := eq_true q196
                        go_upto_region 14 with (fail)
                        go_cut [84] (fun v84 wc => ∃ (kq : Nat) (x84_51 : Bool), v84 = .bool x84_51 ∧ Aside0 (wageofficelaw42_DiskReading.j3 kq a1 l2 t180 t190 t193 x12_3 (rd t190 x12_3) x84_51 = some r) ∧ Aside0 (kq ≤ k3) ∧ Aside0 (Kd.R (Kd.int .u8) 5 wc w.heap.size (fun k_ => some k_ ≠ (v194 : Value).ownBlock ∧ some k_ ≠ ((.slice Ao23 t182.length co23) : Value).ownBlock) (.slice (some ad196) t190.length co53) t190) ∧ Aside0 (Kd.R (Kd.int .u8) 5 wc w.heap.size (fun k_ => some k_ ≠ ((.slice (some ad196) t190.length co53) : Value).ownBlock ∧ some k_ ≠ ((.slice Ao23 t182.length co23) : Value).ownBlock) v194 t193) ∧ Aside0 (Kd.R (Kd.int .u8) 5 wc w.heap.size (fun k_ => some k_ ≠ ((.slice (some ad196) t190.length co53) : Value).ownBlock ∧ some k_ ≠ (v194 : Value).ownBlock) (.slice Ao23 t182.length co23) t182) ∧ Aside0 (Kd.S k45 45 wc w.heap.size (fun k_ => some k_ ≠ ((.slice (some ad196) t190.length co53) : Value).ownBlock ∧ some k_ ≠ (v194 : Value).ownBlock ∧ some k_ ≠ ((.slice Ao23 t182.length co23) : Value).ownBlock) (.slice Ao26 t185.length co26) t185) ∧ Aside0 (wc.heap[gb179]? = some (.cells #[(.slice A0_0 l0_0.length c0_0), (.slice A0_1 l0_1.length c0_1)] 25 (0, 0))) ∧ Aside0 (wc.heap[gb189]? = some (.cells #[(.slice Ao23 t182.length co23), (.slice Ao26 t185.length co26)] 25 (0, 0))) ∧ Aside0 (Below w.heap.size w wc))
                        case first =>
                          have H := HC52.out
                          clear HC52
                          by_cases c54 : x12_3 ≥ a1
                          · rw [if_pos c54] at H
                            have c54b0 : decide (a1 ≤ x12_3) = true := decide_eq_true c54
                            clear c54
                            (first | rw [c54b0] | (simp only [i64_w, i32_w]; rw [c54b0]) | skip)
                            have H' := Aside0.mk H
                            clear H
                            go_wp2
                            go_meet
                            case rel => exact ⟨_, (decide (x12_3 < (wrap64 (a1 + (l2.length : Int))))), (by first | rfl | (simp; done) | (simp [*]; done)), H', ⟨by have := HJ4.out; have := HJ18.out; have := HK3.out; first | omega | exact Nat.le_refl _⟩, ⟨by (with_reducible repeat (first | apply Kd.R_alloc | apply Kd.R_drewN | apply Kd.R_drew)); exact HO_10.out⟩, ⟨by (with_reducible repeat (first | apply Kd.R_alloc | apply Kd.R_drewN | apply Kd.R_drew)); exact HO_11.out⟩, ⟨by (with_reducible repeat (first | apply Kd.R_alloc | apply Kd.R_drewN | apply Kd.R_drew)); exact HO_190000.out⟩, ⟨by (with_reducible repeat (first | apply Kd.S_alloc | apply Kd.S_drewN | apply Kd.S_drew)); exact HO_190001.out⟩, ⟨by (with_reducible repeat (first | refine blk_drewN ?_ _ | refine blk_drew ?_ | refine blk_alloc ?_ _)); exact BK179.out⟩, ⟨by (with_reducible repeat (first | refine blk_drewN ?_ _ | refine blk_drew ?_ | refine blk_alloc ?_ _)); exact BK189.out⟩, ⟨by repeat (first | (with_reducible first | exact HB.out | apply below_alloc | apply pw_below_drewN | apply below_drew1 | refine below_set ?_ GE179.out | refine below_set ?_ GE189.out) | exact HB.out)⟩⟩
                          · rw [if_neg c54] at H
                            have c54b0 : decide (a1 ≤ x12_3) = false := decide_eq_false c54
                            clear c54
                            (first | rw [c54b0] | (simp only [i64_w, i32_w]; rw [c54b0]) | skip)
                            have H' := Aside0.mk H
                            clear H
                            go_wp2
                            go_meet
                            case rel => exact ⟨_, (false), (by first | rfl | (simp; done) | (simp [*]; done)), H', ⟨by have := HJ4.out; have := HJ18.out; have := HK3.out; first | omega | exact Nat.le_refl _⟩, ⟨by (with_reducible repeat (first | apply Kd.R_alloc | apply Kd.R_drewN | apply Kd.R_drew)); exact HO_10.out⟩, ⟨by (with_reducible repeat (first | apply Kd.R_alloc | apply Kd.R_drewN | apply Kd.R_drew)); exact HO_11.out⟩, ⟨by (with_reducible repeat (first | apply Kd.R_alloc | apply Kd.R_drewN | apply Kd.R_drew)); exact HO_190000.out⟩, ⟨by (with_reducible repeat (first | apply Kd.S_alloc | apply Kd.S_drewN | apply Kd.S_drew)); exact HO_190001.out⟩, ⟨by (with_reducible repeat (first | refine blk_drewN ?_ _ | refine blk_drew ?_ | refine blk_alloc ?_ _)); exact BK179.out⟩, ⟨by (with_reducible repeat (first | refine blk_drewN ?_ _ | refine blk_drew ?_ | refine blk_alloc ?_ _)); exact BK189.out⟩, ⟨by repeat (first | (with_reducible first | exact HB.out | apply below_alloc | apply pw_below_drewN | apply below_drew1 | refine below_set ?_ GE179.out | refine below_set ?_ GE189.out) | exact HB.out)⟩⟩
                        case rest =>
                          clear HC52
                          try clear c1
                          try clear p1
                          try clear q1
                          try clear hx1
                          try clear c2
                          try clear p2
                          try clear c3
                          try clear c4
                          try clear c5
                          try clear p6
                          try clear c9
                          try clear c14
                          try clear c16
                          try clear c16b0
                          try clear c16b1
                          try clear p19
                          try clear q19
                          try clear hx19
                          try clear c20
                          try clear c21
                          try clear c24
                          try clear c30
                          try clear c31
                          try clear c31b0
                          try clear c31b1
                          try clear c31b2
                          try clear c32
                          try clear c32b0
                          try clear c32b1
                          try clear c32b2
                          try clear c33
                          try clear c33b0
                          try clear c35
                          try clear c39
                          try clear c43
                          try clear c47
                          try clear c49
                          try clear c50
                          try clear c50b0
                          try clear c51
                          try clear c51b0
                          try clear c54
                          try clear c54b0
                          try clear hcz10_0
                          try clear hcz10_1
                          try clear hcz12_0
                          try clear hcz12_1
                          try clear hcz20_0
                          try clear hcz20_1
                          try clear hcz25_0
                          try clear hcz25_1
                          try clear hcz36_0
                          try clear hcz36_1
                          try clear hcz40_0
                          try clear hcz40_1
                          try clear hcz44_0
                          try clear hcz44_1
                          try clear hcz48_0
                          try clear hcz48_1
                          try clear hfz10_0
                          try clear hfz10_1
                          try clear hfz12_0
                          try clear hfz12_1
                          try clear hfz20_0
                          try clear hfz20_1
                          try clear hfz25_0
                          try clear hfz25_1
                          try clear hfz36_0
                          try clear hfz36_1
                          try clear hfz40_0
                          try clear hfz40_1
                          try clear hfz44_0
                          try clear hfz44_1
                          try clear hfz48_0
                          try clear hfz48_1
                          try clear hx196_0
                          try clear p196
                          try clear p2
                          try clear p6
                          try clear q196
                          obtain ⟨kq, x84_51, rfl, HA, HJ51, HO_10, HO_11, HO_190000, HO_190001, BK179, BK189, HB⟩ := hcut
                          cases kq with
                          | zero => exact absurd HA.out (by simp [wageofficelaw42_DiskReading.j3])
                          | succ kj51 =>
                            have H := HA.out
                            clear HA
                            simp only [wageofficelaw42_DiskReading.j3] at H
                            by_cases c55 : x84_51 = true
                            · subst c55
                              have H1 : (if 0 ≤ (wrap64 (x12_3 - a1)) then (if (wrap64 (x12_3 - a1)) < (l2.length : Int) then (if 0 ≤ x12_3 then (if x12_3 < (t193.length : Int) then (if (rd t193 x12_3) = (rd l2 (wrap64 (x12_3 - a1))) then (wageofficelaw42_DiskReading.l0 kj51 a1 l2 t180 t190 t193 (wrap64 (x12_3 + 1))) else (some false)) else (none)) else (none)) else (none)) else (none)) = some r := by rw [if_pos rfl] at H; exact H
                              clear H
                              have H := H1
                              clear H1
                              obtain ⟨ji56, hji56⟩ : ∃ j_ : Int, (wrap64 (x12_3 - a1)) = j_ := ⟨_, rfl⟩
                              replace H : (if 0 ≤ (ji56) then (if (ji56) < (l2.length : Int) then (if 0 ≤ x12_3 then (if x12_3 < (t193.length : Int) then (if (rd t193 x12_3) = (rd l2 (ji56)) then (wageofficelaw42_DiskReading.l0 kj51 a1 l2 t180 t190 t193 (wrap64 (x12_3 + 1))) else (some false)) else (none)) else (none)) else (none)) else (none)) = some r := by first | (rw [hji56] at H; exact H) | (simp only [hji56] at H ⊢; exact H)
                              have hji56w : (IntKind.i64.wrap (x12_3 - a1)) = ji56 := (i64_w _).trans hji56
                              by_cases c57 : 0 ≤ (ji56)
                              · rw [if_pos c57] at H
                                have c57b0 : decide (0 ≤ (ji56)) = true := decide_eq_true c57
                                clear c57
                                by_cases c58 : (ji56) < (l2.length : Int)
                                · rw [if_pos c58] at H
                                  have c58b0 : decide ((ji56) < (l2.length : Int)) = true := decide_eq_true c58
                                  clear c58
                                  by_cases c59 : 0 ≤ x12_3
                                  · rw [if_pos c59] at H
                                    have c59b0 : decide (0 ≤ x12_3) = true := decide_eq_true c59
                                    clear c59
                                    by_cases c60 : x12_3 < (t193.length : Int)
                                    · rw [if_pos c60] at H
                                      have c60b0 : decide (x12_3 < (t193.length : Int)) = true := decide_eq_true c60
                                      clear c60
                                      by_cases c61 : (rd t193 x12_3) = (rd l2 (ji56))
                                      · rw [if_pos c61] at H
                                        have c61b0 : ((rd t193 x12_3) == (rd l2 (ji56))) = true := beq_iff_eq.mpr c61
                                        have c61b1 : ((rd t193 x12_3) != (rd l2 (ji56))) = false := bne_eq_false_iff_eq.mpr c61
                                        clear c61
                                        have H' := Aside0.mk H
                                        clear H
                                        have p197 : 0 ≤ ((ji56) : Int) := of_decide_eq_true (by first | (with_reducible assumption) | assumption)
                                        have q197 : (ji56) < (l2.length : Int) := of_decide_eq_true (by first | (with_reducible assumption) | assumption)
                                        obtain ⟨ad197, e197, hx197_0⟩ := Kd.at_int HR2.out (ji56) p197 q197
                                        cases e197
                                        replace hx197_0 := (HB.out.cell (World.block_lt_of_cell? w _ hx197_0)).trans hx197_0
                                        replace p197 := eq_true p197
                                        replace q197 := eq_true q197
                                        obtain ⟨Ao62, co62, eo62⟩ := Kd.R_slice HO_11.out
                                        subst eo62
                                        have p198 : 0 ≤ (x12_3 : Int) := of_decide_eq_true (by first | (with_reducible assumption) | assumption)
                                        have q198 : x12_3 < (t193.length : Int) := of_decide_eq_true (by first | (with_reducible assumption) | assumption)
                                        obtain ⟨ad198, e198, hx198_0⟩ := Kd.at_int (Kd.R_reads' HO_11.out).2.2 x12_3 p198 q198
                                        cases e198
                                        replace p198 := eq_true p198
                                        replace q198 := eq_true q198
                                        go_wp2
                                        go_roundg kj51
                                        case measure => have := HJ4.out; have := HJ18.out; have := HK3.out; have := HJ51.out; omega
                                        case rel => exact ⟨(wrap64 (x12_3 + 1)), (by first | rfl | (simp; done) | (simp [*]; done)), H', ⟨by have := HJ4.out; have := HJ18.out; have := HK3.out; have := HJ51.out; omega⟩, ⟨by (with_reducible repeat (first | apply Kd.R_alloc | apply Kd.R_drewN | apply Kd.R_drew)); exact HO_10.out⟩, ⟨by (with_reducible repeat (first | apply Kd.R_alloc | apply Kd.R_drewN | apply Kd.R_drew)); exact HO_11.out⟩, ⟨by (with_reducible repeat (first | apply Kd.R_alloc | apply Kd.R_drewN | apply Kd.R_drew)); exact HO_190000.out⟩, ⟨by (with_reducible repeat (first | apply Kd.S_alloc | apply Kd.S_drewN | apply Kd.S_drew)); exact HO_190001.out⟩, ⟨by (with_reducible repeat (first | refine blk_drewN ?_ _ | refine blk_drew ?_ | refine blk_alloc ?_ _)); exact BK179.out⟩, ⟨by (with_reducible repeat (first | refine blk_drewN ?_ _ | refine blk_drew ?_ | refine blk_alloc ?_ _)); exact BK189.out⟩, ⟨by repeat (first | (with_reducible first | exact HB.out | apply below_alloc | apply pw_below_drewN | apply below_drew1 | refine below_set ?_ GE179.out | refine below_set ?_ GE189.out) | exact HB.out)⟩⟩
                                      · rw [if_neg c61] at H
                                        have c61b0 : ((rd t193 x12_3) == (rd l2 (ji56))) = false := beq_eq_false_iff_ne.mpr c61
                                        have c61b1 : ((rd t193 x12_3) != (rd l2 (ji56))) = true := bne_iff_ne.mpr c61
                                        obtain rfl := Option.some.inj H
                                        have p197 : 0 ≤ ((ji56) : Int) := of_decide_eq_true (by first | (with_reducible assumption) | assumption)
                                        have q197 : (ji56) < (l2.length : Int) := of_decide_eq_true (by first | (with_reducible assumption) | assumption)
                                        obtain ⟨ad197, e197, hx197_0⟩ := Kd.at_int HR2.out (ji56) p197 q197
                                        cases e197
                                        replace hx197_0 := (HB.out.cell (World.block_lt_of_cell? w _ hx197_0)).trans hx197_0
                                        replace p197 := eq_true p197
                                        replace q197 := eq_true q197
                                        obtain ⟨Ao63, co63, eo63⟩ := Kd.R_slice HO_11.out
                                        subst eo63
                                        have p198 : 0 ≤ (x12_3 : Int) := of_decide_eq_true (by first | (with_reducible assumption) | assumption)
                                        have q198 : x12_3 < (t193.length : Int) := of_decide_eq_true (by first | (with_reducible assumption) | assumption)
                                        obtain ⟨ad198, e198, hx198_0⟩ := Kd.at_int (Kd.R_reads' HO_11.out).2.2 x12_3 p198 q198
                                        cases e198
                                        replace p198 := eq_true p198
                                        replace q198 := eq_true q198
                                        go_wp2
                                        go_ret
                                        exact ⟨by first | rfl | (simp [errW_none, errW_some] <;> rfl) | (simp only [← hji56]; first | rfl | (simp [errW_none, errW_some] <;> rfl)) | (simp [*, errW_none, errW_some] <;> rfl), by repeat (first | (with_reducible first | exact HB.out | apply below_alloc | apply pw_below_drewN | apply below_drew1 | refine below_set ?_ GE179.out | refine below_set ?_ GE189.out) | exact HB.out)⟩
                                    · rw [if_neg c60] at H
                                      exact absurd H (by simp)
                                  · rw [if_neg c59] at H
                                    exact absurd H (by simp)
                                · rw [if_neg c58] at H
                                  exact absurd H (by simp)
                              · rw [if_neg c57] at H
                                exact absurd H (by simp)
                            · replace c55 := Bool.eq_false_iff.mpr c55
                              subst c55
                              have H1 : (if 0 ≤ x12_3 then (if x12_3 < (t193.length : Int) then (if (rd t193 x12_3) = (rd t190 x12_3) then (wageofficelaw42_DiskReading.l0 kj51 a1 l2 t180 t190 t193 (wrap64 (x12_3 + 1))) else (some false)) else (none)) else (none)) = some r := by rw [if_neg (show ¬ (false = true) by decide)] at H; exact H
                              clear H
                              have H := H1
                              clear H1
                              by_cases c64 : 0 ≤ x12_3
                              · rw [if_pos c64] at H
                                have c64b0 : decide (0 ≤ x12_3) = true := decide_eq_true c64
                                clear c64
                                by_cases c65 : x12_3 < (t193.length : Int)
                                · rw [if_pos c65] at H
                                  have c65b0 : decide (x12_3 < (t193.length : Int)) = true := decide_eq_true c65
                                  clear c65
                                  by_cases c66 : (rd t193 x12_3) = (rd t190 x12_3)
                                  · rw [if_pos c66] at H
                                    have c66b0 : ((rd t193 x12_3) == (rd t190 x12_3)) = true := beq_iff_eq.mpr c66
                                    have c66b1 : ((rd t193 x12_3) != (rd t190 x12_3)) = false := bne_eq_false_iff_eq.mpr c66
                                    clear c66
                                    have H' := Aside0.mk H
                                    clear H
                                    obtain ⟨Ao67, co67, eo67⟩ := Kd.R_slice HO_11.out
                                    subst eo67
                                    have p199 : 0 ≤ (x12_3 : Int) := of_decide_eq_true (by first | (with_reducible assumption) | assumption)
                                    have q199 : x12_3 < (t193.length : Int) := of_decide_eq_true (by first | (with_reducible assumption) | assumption)
                                    obtain ⟨ad199, e199, hx199_0⟩ := Kd.at_int (Kd.R_reads' HO_11.out).2.2 x12_3 p199 q199
                                    cases e199
                                    replace p199 := eq_true p199
                                    replace q199 := eq_true q199
                                    go_wp2
                                    go_roundg kj51
                                    case measure => have := HJ4.out; have := HJ18.out; have := HK3.out; have := HJ51.out; omega
                                    case rel => exact ⟨(wrap64 (x12_3 + 1)), (by first | rfl | (simp; done) | (simp [*]; done)), H', ⟨by have := HJ4.out; have := HJ18.out; have := HK3.out; have := HJ51.out; omega⟩, ⟨by (with_reducible repeat (first | apply Kd.R_alloc | apply Kd.R_drewN | apply Kd.R_drew)); exact HO_10.out⟩, ⟨by (with_reducible repeat (first | apply Kd.R_alloc | apply Kd.R_drewN | apply Kd.R_drew)); exact HO_11.out⟩, ⟨by (with_reducible repeat (first | apply Kd.R_alloc | apply Kd.R_drewN | apply Kd.R_drew)); exact HO_190000.out⟩, ⟨by (with_reducible repeat (first | apply Kd.S_alloc | apply Kd.S_drewN | apply Kd.S_drew)); exact HO_190001.out⟩, ⟨by (with_reducible repeat (first | refine blk_drewN ?_ _ | refine blk_drew ?_ | refine blk_alloc ?_ _)); exact BK179.out⟩, ⟨by (with_reducible repeat (first | refine blk_drewN ?_ _ | refine blk_drew ?_ | refine blk_alloc ?_ _)); exact BK189.out⟩, ⟨by repeat (first | (with_reducible first | exact HB.out | apply below_alloc | apply pw_below_drewN | apply below_drew1 | refine below_set ?_ GE179.out | refine below_set ?_ GE189.out) | exact HB.out)⟩⟩
                                  · rw [if_neg c66] at H
                                    have c66b0 : ((rd t193 x12_3) == (rd t190 x12_3)) = false := beq_eq_false_iff_ne.mpr c66
                                    have c66b1 : ((rd t193 x12_3) != (rd t190 x12_3)) = true := bne_iff_ne.mpr c66
                                    obtain rfl := Option.some.inj H
                                    obtain ⟨Ao68, co68, eo68⟩ := Kd.R_slice HO_11.out
                                    subst eo68
                                    have p199 : 0 ≤ (x12_3 : Int) := of_decide_eq_true (by first | (with_reducible assumption) | assumption)
                                    have q199 : x12_3 < (t193.length : Int) := of_decide_eq_true (by first | (with_reducible assumption) | assumption)
                                    obtain ⟨ad199, e199, hx199_0⟩ := Kd.at_int (Kd.R_reads' HO_11.out).2.2 x12_3 p199 q199
                                    cases e199
                                    replace p199 := eq_true p199
                                    replace q199 := eq_true q199
                                    go_wp2
                                    go_ret
                                    exact ⟨by first | rfl | (simp [errW_none, errW_some] <;> rfl) | (simp [*, errW_none, errW_some] <;> rfl), by repeat (first | (with_reducible first | exact HB.out | apply below_alloc | apply pw_below_drewN | apply below_drew1 | refine below_set ?_ GE179.out | refine below_set ?_ GE189.out) | exact HB.out)⟩
                                · rw [if_neg c65] at H
                                  exact absurd H (by simp)
                              · rw [if_neg c64] at H
                                exact absurd H (by simp)
                      · rw [if_neg c51] at H
                        exact absurd H (by simp)
                    · rw [if_neg c50] at H
                      have c50b0 : decide (x12_3 < (t190.length : Int)) = false := decide_eq_false c50
                      clear c50
                      obtain rfl := Option.some.inj H
                      obtain ⟨Ao69, co69, eo69⟩ := Kd.R_slice HO_10.out
                      subst eo69
                      go_wp2
                      go_ret
                      exact ⟨by first | rfl | (simp [errW_none, errW_some] <;> rfl) | (simp [*, errW_none, errW_some] <;> rfl), by repeat (first | (with_reducible first | exact HB.out | apply below_alloc | apply pw_below_drewN | apply below_drew1 | refine below_set ?_ GE179.out | refine below_set ?_ GE189.out) | exact HB.out)⟩
        · rw [if_neg c16] at H
          have c16b0 : (t188 == 0) = false := beq_eq_false_iff_ne.mpr c16
          have c16b1 : (t188 != 0) = true := bne_iff_ne.mpr c16
          obtain rfl := Option.some.inj H
          have hcz70_0 : wc.cell? ⟨gb179, 0, none⟩ = some (.slice A0_0 l0_0.length c0_0) := (blk_cell BK179.out 0).trans rfl
          have hcz70_1 : wc.cell? ⟨gb179, 1, none⟩ = some (.slice A0_1 l0_1.length c0_1) := (blk_cell BK179.out 1).trans rfl
          have hfz70_0 := blk_frozen BK179.out 0
          have hfz70_1 := blk_frozen BK179.out 1
          go_wp2_with (first | ((with_reducible refine gate_callee (f := 21) rfl ?_); refine goesL_ (some 28) rfl rfl Try.func21 (by kernel_rfl) rfl #[.agg #[.slice A0_0 l0_0.length c0_0, .slice A0_1 l0_1.length c0_1], .int .i64 a1, .slice A2 l2.length c2] rfl (by (try simp only [List.map_toArray, List.map_cons, List.map_nil]); first | done | rfl | (simp only [List.length_drop, List.length_take]; rfl)) ?_; (with_reducible refine (disk_Write.calls _ _ l0_0 _ _ l0_1 a1 _ _ l2 t182 t185 t188 _ ?side1 ?side2 ?side3 ?side4 ?side5 ?side6 A15.out).mono ?_); (case side1 => repeat (first | exact (Kd.C_below HR0_0.out HB.out) | (with_reducible refine Kd.C_alloc ?_ _) | (with_reducible refine Kd.C_drewN ?_ _) | (with_reducible refine Kd.C_drew ?_))); (case side2 => exact HC0_0.out); (case side3 => repeat (first | exact (Kd.C_below HR0_1.out HB.out) | (with_reducible refine Kd.C_alloc ?_ _) | (with_reducible refine Kd.C_drewN ?_ _) | (with_reducible refine Kd.C_drew ?_))); (case side4 => exact HC0_1.out); (case side5 => repeat (first | exact (Kd.C_below HR2.out HB.out) | (with_reducible refine Kd.C_alloc ?_ _) | (with_reducible refine Kd.C_drewN ?_ _) | (with_reducible refine Kd.C_drew ?_))); (case side6 => exact HC2.out); rintro e w71 ⟨v183, v186, rfl, ho0, ho1, hb⟩; refine ⟨_, rfl, ?_⟩; have n0_ := Aside0.mk (Kd.R_lower ho0 (below_size (by repeat (first | (with_reducible first | exact HB.out | apply below_alloc | apply pw_below_drewN | apply below_drew1 | refine below_set ?_ GE179.out) | exact HB.out)))); have n1_ := Aside0.mk (Kd.S_lower ho1 (below_size (by repeat (first | (with_reducible first | exact HB.out | apply below_alloc | apply pw_below_drewN | apply below_drew1 | refine below_set ?_ GE179.out) | exact HB.out)))); have n2_ := Aside0.mk (blk_below (g := gb179) (o := .cells #[.slice A0_0 l0_0.length c0_0, .slice A0_1 l0_1.length c0_1] 25 (0, 0)) (by (with_reducible repeat (first | refine blk_drewN ?_ _ | refine blk_drew ?_ | refine blk_alloc ?_ _)); exact BK179.out) hb); have n3_ := Aside0.mk (below_step (by repeat (first | (with_reducible first | exact HB.out | apply below_alloc | apply pw_below_drewN | apply below_drew1 | refine below_set ?_ GE179.out) | exact HB.out)) hb); clear BK179; clear HB; have HO184 := n0_; have HO187 := n1_; have BK179 := n2_; have HB := n3_; clear n0_ n1_ n2_ n3_; (try clear hb); (try clear hb2); (try clear hk); (try clear hi); (try clear ho0); (try clear ho1)) | ((with_reducible refine gate_dst (N := 8) rfl ?_); (try (refine gate_guard (by rfl) ?_; dsimp only)); refine box_event ?hg (N := 8) ?hd (cs := #[.slice none 0 0, .slice none 0 0]) (t := 25) ?hr ?_; (case hd => rfl); (case hg => rfl); (case hr => first | (go_simp; done) | (go_simp; rfl)); intro gb189 hg w72 hbox hb; have n0_ := Aside0.mk (Kd.R_below (by (with_reducible repeat (first | apply Kd.R_alloc | apply Kd.R_drewN | apply Kd.R_drew)); exact HO184.out) hb); have n1_ := Aside0.mk (Kd.S_below (by (with_reducible repeat (first | apply Kd.S_alloc | apply Kd.S_drewN | apply Kd.S_drew)); exact HO187.out) hb); have n2_ := Aside0.mk (blk_below (g := gb179) (o := .cells #[.slice A0_0 l0_0.length c0_0, .slice A0_1 l0_1.length c0_1] 25 (0, 0)) (by (with_reducible repeat (first | refine blk_drewN ?_ _ | refine blk_drew ?_ | refine blk_alloc ?_ _)); exact BK179.out) hb); have n3_ := Aside0.mk (below_step (by repeat (first | (with_reducible first | exact HB.out | apply below_alloc | apply pw_below_drewN | apply below_drew1 | refine below_set ?_ GE179.out) | exact HB.out)) hb); have n4_ := Aside0.mk (hbox); have n5_ := Aside0.mk ((by rw [hg]; exact (below_size (by repeat (first | (with_reducible first | exact HB.out | apply below_alloc | apply pw_below_drewN | apply below_drew1 | refine below_set ?_ GE179.out) | exact HB.out))) : w.heap.size ≤ gb189)); have n6_ := Aside0.mk ((by rw [hg]; exact (below_size (by repeat (first | (with_reducible first | exact HB.out | apply below_alloc | apply pw_below_drewN | apply below_drew1 | refine below_set ?_ GE179.out) | exact HB.out))) : w.heap.size ≤ gb189)); have n7_ := Aside0.mk ((by rw [hg]; exact Nat.ne_of_lt (blk_lt (g := gb179) (o := .cells #[.slice A0_0 l0_0.length c0_0, .slice A0_1 l0_1.length c0_1] 25 (0, 0)) (by (with_reducible repeat (first | refine blk_drewN ?_ _ | refine blk_drew ?_ | refine blk_alloc ?_ _)); exact BK179.out)) : gb179 ≠ gb189)); have n8_ := Aside0.mk ((by rw [hg]; exact Nat.ne_of_gt (blk_lt (g := gb179) (o := .cells #[.slice A0_0 l0_0.length c0_0, .slice A0_1 l0_1.length c0_1] 25 (0, 0)) (by (with_reducible repeat (first | refine blk_drewN ?_ _ | refine blk_drew ?_ | refine blk_alloc ?_ _)); exact BK179.out)) : gb189 ≠ gb179)); clear HO184; clear HO187; clear BK179; clear HB; have HO184 := n0_; have HO187 := n1_; have BK179 := n2_; have HB := n3_; have BK189 := n4_; have GW189 := n5_; have GE189 := n6_; have NB179_189 := n7_; have NB189_179 := n8_; clear n0_ n1_ n2_ n3_ n4_ n5_ n6_ n7_ n8_; clear hb hbox hg; obtain ⟨Ao73, co73, eo73⟩ := Kd.R_slice HO184.out; subst eo73; have hnb74 := NB189_179.out; have hnc74 := NB179_189.out; have hcz75_0 : w72.cell? ⟨gb189, 0, none⟩ = some (.slice none 0 0) := (blk_cell BK189.out 0).trans rfl; have hcz75_1 : w72.cell? ⟨gb189, 1, none⟩ = some (.slice none 0 0) := (blk_cell BK189.out 1).trans rfl; have hfz75_0 := blk_frozen BK189.out 0; have hfz75_1 := blk_frozen BK189.out 1; obtain ⟨Ao76, co76, eo76⟩ := Kd.S_slice HO187.out; subst eo76))
          go_ret
          exact ⟨by first | rfl | (simp [errW_none, errW_some] <;> rfl) | (simp [*, errW_none, errW_some] <;> rfl), by repeat (first | (with_reducible first | exact HB.out | apply below_alloc | apply pw_below_drewN | apply below_drew1 | refine below_set ?_ GE179.out | refine below_set ?_ GE189.out) | exact HB.out)⟩

end Go.Proofs.Ytfpdmlhknddffaa.Dk
