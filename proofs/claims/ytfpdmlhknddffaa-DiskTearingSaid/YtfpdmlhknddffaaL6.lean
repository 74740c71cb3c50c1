/- Printed by a program of this session: contracts of functions that the Disk statements reach. -/
import Derived.Test.YtfpdmlhknddffaaL0
namespace Go.Proofs.Ytfpdmlhknddffaa.Dk
open Go.RowKit Go.Proofs.YtfpdmlhknddffaaW.PrintWords Go.Proofs.YtfpdmlhknddffaaW.PrintLast Go.Proofs.YtfpdmlhknddffaaW.PrintMore
attribute [local go_sem] field25 field25b max2_int min2_int max_two min_two max_three min_three max_four min_four   -- for this text's walks alone
set_option linter.unusedVariables false
set_option linter.unusedSimpArgs false

/-! ### wageofficelaw42_DiskTearing: function 8 -/
mutual
def wageofficelaw42_DiskTearing.j0 : Nat → List Int → Bool → Bool → List Int → List (S45) → Option (Bool)
  | 0, _, _, _, _, _ => none
  | k + 1, x1, x5, x24, x290000, x290001 => if x24 = true then (some x5) else ((disk_Crash.f x290000 x290001 x1).bind fun bt293 => (if (bt293.1.length : Int) = (x290000.length : Int) then (wageofficelaw42_DiskTearing.j1 k x5 (decide ((bt293.2.length : Int) > 0)) x290000 x290001 bt293.1 bt293.2) else (wageofficelaw42_DiskTearing.j1 k x5 true x290000 x290001 bt293.1 bt293.2)))
def wageofficelaw42_DiskTearing.j1 : Nat → Bool → Bool → List Int → List (S45) → List Int → List (S45) → Option (Bool)
  | 0, _, _, _, _, _, _ => none
  | k + 1, x5, x41, x290000, x290001, x300000, x300001 => if x41 = true then (some false) else (wageofficelaw42_DiskTearing.l0 k x5 0 x290000 x290001 x300000 x300001)
def wageofficelaw42_DiskTearing.l0 : Nat → Bool → Int → List Int → List (S45) → List Int → List (S45) → Option (Bool)
  | 0, _, _, _, _, _, _ => none
  | k + 1, x5, x7, x290000, x290001, x300000, x300001 => if x7 < (x290000.length : Int) then (if 0 ≤ x7 then (if x7 < (x300000.length : Int) then (wageofficelaw42_DiskTearing.l1 k x5 x7 ((rd x300000 x7) == (rd x290000 x7)) 0 x290000 x290001 x300000 x300001) else (none)) else (none)) else (some x5)
def wageofficelaw42_DiskTearing.l1 : Nat → Bool → Int → Bool → Int → List Int → List (S45) → List Int → List (S45) → Option (Bool)
  | 0, _, _, _, _, _, _, _, _ => none
  | k + 1, x5, x7, x8, x9, x290000, x290001, x300000, x300001 => if x9 < (x290001.length : Int) then (if 0 ≤ x9 then (if x8 = true then (wageofficelaw42_DiskTearing.l1 k x5 x7 true (wrap64 (x9 + 1)) x290000 x290001 x300000 x300001) else (if x7 ≥ ((rd_T45 x290001 x9).f0) then (if x7 < (wrap64 (((rd_T45 x290001 x9).f0) + (((rd_T45 x290001 x9).f1).length : Int))) then (if 0 ≤ (wrap64 (x7 - ((rd_T45 x290001 x9).f0))) then (if (wrap64 (x7 - ((rd_T45 x290001 x9).f0))) < (((rd_T45 x290001 x9).f1).length : Int) then (if 0 ≤ x7 then (if x7 < (x300000.length : Int) then (wageofficelaw42_DiskTearing.l1 k x5 x7 ((rd ((rd_T45 x290001 x9).f1) (wrap64 (x7 - ((rd_T45 x290001 x9).f0)))) == (rd x300000 x7)) (wrap64 (x9 + 1)) x290000 x290001 x300000 x300001) else (none)) else (none)) else (none)) else (none)) else (wageofficelaw42_DiskTearing.l1 k x5 x7 false (wrap64 (x9 + 1)) x290000 x290001 x300000 x300001)) else (wageofficelaw42_DiskTearing.l1 k x5 x7 false (wrap64 (x9 + 1)) x290000 x290001 x300000 x300001))) else (none)) else (if x8 = true then (wageofficelaw42_DiskTearing.l0 k x5 (wrap64 (x7 + 1)) x290000 x290001 x300000 x300001) else (some false))
end
def wageofficelaw42_DiskTearing.f (k : Nat) (l0_0 : List Int) (l0_1 : List (S45)) (l1 : List Int) : Option (Bool) := (wageofficelaw42_head.f).bind fun t290 => ((wageofficeref42_Small.f k l0_0 l0_1 600).bind fun t291 => (if t291 = true then ((wageofficeref42_Valid.f k l0_0 l0_1).bind fun t292 => (if t292 = true then (wageofficelaw42_DiskTearing.j0 k l1 t290 (decide ((l1.length : Int) > 80)) l0_0 l0_1) else (wageofficelaw42_DiskTearing.j0 k l1 t290 true l0_0 l0_1))) else (wageofficelaw42_DiskTearing.j0 k l1 t290 true l0_0 l0_1)))
theorem wageofficelaw42_DiskTearing.mono_l : ∀ k, (∀ y0 y1 y2 y3 y4, LeO (wageofficelaw42_DiskTearing.j0 k y0 y1 y2 y3 y4) (wageofficelaw42_DiskTearing.j0 (k + 1) y0 y1 y2 y3 y4)) ∧ (∀ y0 y1 y2 y3 y4 y5, LeO (wageofficelaw42_DiskTearing.j1 k y0 y1 y2 y3 y4 y5) (wageofficelaw42_DiskTearing.j1 (k + 1) y0 y1 y2 y3 y4 y5)) ∧ (∀ y0 y1 y2 y3 y4 y5, LeO (wageofficelaw42_DiskTearing.l0 k y0 y1 y2 y3 y4 y5) (wageofficelaw42_DiskTearing.l0 (k + 1) y0 y1 y2 y3 y4 y5)) ∧ (∀ y0 y1 y2 y3 y4 y5 y6 y7, LeO (wageofficelaw42_DiskTearing.l1 k y0 y1 y2 y3 y4 y5 y6 y7) (wageofficelaw42_DiskTearing.l1 (k + 1) y0 y1 y2 y3 y4 y5 y6 y7))
  | 0 => ⟨fun _ _ _ _ _ r h => by simp [wageofficelaw42_DiskTearing.j0] at h, fun _ _ _ _ _ _ r h => by simp [wageofficelaw42_DiskTearing.j1] at h, fun _ _ _ _ _ _ r h => by simp [wageofficelaw42_DiskTearing.l0] at h, fun _ _ _ _ _ _ _ _ r h => by simp [wageofficelaw42_DiskTearing.l1] at h⟩
  | k + 1 => by
    obtain ⟨ih0, ih1, ih2, ih3⟩ := wageofficelaw42_DiskTearing.mono_l k
    refine ⟨?_, ?_, ?_, ?_⟩
    · intro y0 y1 y2 y3 y4
      unfold wageofficelaw42_DiskTearing.j0
      repeat' first
      | (with_reducible exact ih0 _ _ _ _ _)
      | (with_reducible exact ih1 _ _ _ _ _ _)
      | (with_reducible exact ih2 _ _ _ _ _ _)
      | (with_reducible exact ih3 _ _ _ _ _ _ _ _)
      | (with_reducible exact wageofficeref42_Small.mono _ _ _ _)
      | (with_reducible exact wageofficeref42_Valid.mono _ _ _)
      | (with_reducible exact LeO.refl _)
      | (with_reducible exact LeO.none _)
      | (with_reducible refine LeO.ite ?_ ?_)
      | (with_reducible refine LeO.bind ?_ (fun _ => ?_))
      | exact ih0 _ _ _ _ _
      | exact ih1 _ _ _ _ _ _
      | exact ih2 _ _ _ _ _ _
      | exact ih3 _ _ _ _ _ _ _ _
      | exact wageofficeref42_Small.mono _ _ _ _
      | exact wageofficeref42_Valid.mono _ _ _
      | exact LeO.none _
      | refine LeO.ite ?_ ?_
      | refine LeO.bind ?_ (fun _ => ?_)
    · intro y0 y1 y2 y3 y4 y5
      unfold wageofficelaw42_DiskTearing.j1
      repeat' first
      | (with_reducible exact ih0 _ _ _ _ _)
      | (with_reducible exact ih1 _ _ _ _ _ _)
      | (with_reducible exact ih2 _ _ _ _ _ _)
      | (with_reducible exact ih3 _ _ _ _ _ _ _ _)
      | (with_reducible exact wageofficeref42_Small.mono _ _ _ _)
      | (with_reducible exact wageofficeref42_Valid.mono _ _ _)
      | (with_reducible exact LeO.refl _)
      | (with_reducible exact LeO.none _)
      | (with_reducible refine LeO.ite ?_ ?_)
      | (with_reducible refine LeO.bind ?_ (fun _ => ?_))
      | exact ih0 _ _ _ _ _
      | exact ih1 _ _ _ _ _ _
      | exact ih2 _ _ _ _ _ _
      | exact ih3 _ _ _ _ _ _ _ _
      | exact wageofficeref42_Small.mono _ _ _ _
      | exact wageofficeref42_Valid.mono _ _ _
      | exact LeO.none _
      | refine LeO.ite ?_ ?_
      | refine LeO.bind ?_ (fun _ => ?_)
    · intro y0 y1 y2 y3 y4 y5
      unfold wageofficelaw42_DiskTearing.l0
      repeat' first
      | (with_reducible exact ih0 _ _ _ _ _)
      | (with_reducible exact ih1 _ _ _ _ _ _)
      | (with_reducible exact ih2 _ _ _ _ _ _)
      | (with_reducible exact ih3 _ _ _ _ _ _ _ _)
      | (with_reducible exact wageofficeref42_Small.mono _ _ _ _)
      | (with_reducible exact wageofficeref42_Valid.mono _ _ _)
      | (with_reducible exact LeO.refl _)
      | (with_reducible exact LeO.none _)
      | (with_reducible refine LeO.ite ?_ ?_)
      | (with_reducible refine LeO.bind ?_ (fun _ => ?_))
      | exact ih0 _ _ _ _ _
      | exact ih1 _ _ _ _ _ _
      | exact ih2 _ _ _ _ _ _
      | exact ih3 _ _ _ _ _ _ _ _
      | exact wageofficeref42_Small.mono _ _ _ _
      | exact wageofficeref42_Valid.mono _ _ _
      | exact LeO.none _
      | refine LeO.ite ?_ ?_
      | refine LeO.bind ?_ (fun _ => ?_)
    · intro y0 y1 y2 y3 y4 y5 y6 y7
      unfold wageofficelaw42_DiskTearing.l1
      repeat' first
      | (with_reducible exact ih0 _ _ _ _ _)
      | (with_reducible exact ih1 _ _ _ _ _ _)
      | (with_reducible exact ih2 _ _ _ _ _ _)
      | (with_reducible exact ih3 _ _ _ _ _ _ _ _)
      | (with_reducible exact wageofficeref42_Small.mono _ _ _ _)
      | (with_reducible exact wageofficeref42_Valid.mono _ _ _)
      | (with_reducible exact LeO.refl _)
      | (with_reducible exact LeO.none _)
      | (with_reducible refine LeO.ite ?_ ?_)
      | (with_reducible refine LeO.bind ?_ (fun _ => ?_))
      | exact ih0 _ _ _ _ _
      | exact ih1 _ _ _ _ _ _
      | exact ih2 _ _ _ _ _ _
      | exact ih3 _ _ _ _ _ _ _ _
      | exact wageofficeref42_Small.mono _ _ _ _
      | exact wageofficeref42_Valid.mono _ _ _
      | exact LeO.none _
      | refine LeO.ite ?_ ?_
      | refine LeO.bind ?_ (fun _ => ?_)
theorem wageofficelaw42_DiskTearing.mono : ∀ a0 a1 a2 k, LeO (wageofficelaw42_DiskTearing.f k a0 a1 a2) (wageofficelaw42_DiskTearing.f (k + 1) a0 a1 a2) := by
  intro a0 a1 a2 k
  obtain ⟨ih0, ih1, ih2, ih3⟩ := wageofficelaw42_DiskTearing.mono_l k
  unfold wageofficelaw42_DiskTearing.f
  repeat' first
      | (with_reducible exact ih0 _ _ _ _ _)
      | (with_reducible exact ih1 _ _ _ _ _ _)
      | (with_reducible exact ih2 _ _ _ _ _ _)
      | (with_reducible exact ih3 _ _ _ _ _ _ _ _)
      | (with_reducible exact wageofficeref42_Small.mono _ _ _ _)
      | (with_reducible exact wageofficeref42_Valid.mono _ _ _)
      | (with_reducible exact LeO.refl _)
      | (with_reducible exact LeO.none _)
      | (with_reducible refine LeO.ite ?_ ?_)
      | (with_reducible refine LeO.bind ?_ (fun _ => ?_))
      | exact ih0 _ _ _ _ _
      | exact ih1 _ _ _ _ _ _
      | exact ih2 _ _ _ _ _ _
      | exact ih3 _ _ _ _ _ _ _ _
      | exact wageofficeref42_Small.mono _ _ _ _
      | exact wageofficeref42_Valid.mono _ _ _
      | exact LeO.none _
      | refine LeO.ite ?_ ?_
      | refine LeO.bind ?_ (fun _ => ?_)
set_option maxHeartbeats 8000000 in
set_option maxRecDepth 100000 in
theorem wageofficelaw42_DiskTearing.calls (k : Nat) (A0_0 : Option Addr) (c0_0 : Nat) (l0_0 : List Int) (A0_1 : Option Addr) (c0_1 : Nat) (l0_1 : List (S45)) (A1 : Option Addr) (c1 : Nat) (l1 : List Int) (r : Bool) (w : World) (hr0_0 : Kd.C (Kd.int .u8) w A0_0 l0_0.length l0_0) (hc0_0 : l0_0.length ≤ c0_0) (hr0_1 : Kd.C k45 w A0_1 l0_1.length l0_1) (hc0_1 : l0_1.length ≤ c0_1) (hr1 : Kd.C (Kd.int .i64) w A1 l1.length l1) (hc1 : l1.length ≤ c1) (h : wageofficelaw42_DiskTearing.f k l0_0 l0_1 l1 = some r) :
    Calls Try.prog 8 #[.agg #[.slice A0_0 l0_0.length c0_0, .slice A0_1 l0_1.length c0_1], .slice A1 l1.length c1] w fun e w' => e = .returned (.bool r) ∧ Below w.heap.size w w' := by
  have hu25 := Try.underlying25
  have hu45 := Try.underlying45
  have HR0_0 := Aside0.mk hr0_0
  have HC0_0 := Aside0.mk hc0_0
  clear hr0_0 hc0_0
  have HR0_1 := Aside0.mk hr0_1
  have HC0_1 := Aside0.mk hc0_1
  clear hr0_1 hc0_1
  have HR1 := Aside0.mk hr1
  have HC1 := Aside0.mk hc1
  clear hr1 hc1
  have HB := Aside0.mk (Below.refl w.heap.size w)
  have H : ((wageofficelaw42_head.f).bind fun t290 => ((wageofficeref42_Small.f k l0_0 l0_1 600).bind fun t291 => (if t291 = true then ((wageofficeref42_Valid.f k l0_0 l0_1).bind fun t292 => (if t292 = true then (wageofficelaw42_DiskTearing.j0 k l1 t290 (decide ((l1.length : Int) > 80)) l0_0 l0_1) else (wageofficelaw42_DiskTearing.j0 k l1 t290 true l0_0 l0_1))) else (wageofficelaw42_DiskTearing.j0 k l1 t290 true l0_0 l0_1)))) = some r := h
  clear h
  replace H := Option.bind_eq_some_iff.mp H
  obtain ⟨t290, A30, H⟩ := H
  replace H : ((wageofficeref42_Small.f k l0_0 l0_1 600).bind fun t291 => (if t291 = true then ((wageofficeref42_Valid.f k l0_0 l0_1).bind fun t292 => (if t292 = true then (wageofficelaw42_DiskTearing.j0 k l1 t290 (decide ((l1.length : Int) > 80)) l0_0 l0_1) else (wageofficelaw42_DiskTearing.j0 k l1 t290 true l0_0 l0_1))) else (wageofficelaw42_DiskTearing.j0 k l1 t290 true l0_0 l0_1))) = some r := H
  have A3 := Aside0.mk A30
  clear A30
  have HC4 := Aside0.mk H
  clear H
  go_enter Try.func8, Try.ntmps8
  go_upto_region 2 with (first | ((with_reducible refine gate_dst (N := 2) rfl ?_); (try (refine gate_guard (by rfl) ?_; dsimp only)); refine box_event ?hg (N := 2) ?hd (cs := #[.slice A0_0 l0_0.length c0_0, .slice A0_1 l0_1.length c0_1]) (t := 25) ?hr ?_; (case hd => rfl); (case hg => rfl); (case hr => first | (go_simp; done) | (go_simp; rfl)); intro gb289 hg w5 hbox hb; have n0_ := Aside0.mk (below_step (by repeat (first | (with_reducible first | exact HB.out | apply below_alloc | apply pw_below_drewN | apply below_drew1) | exact HB.out)) hb); have n1_ := Aside0.mk (hbox); have n2_ := Aside0.mk ((by rw [hg]; exact (below_size (by repeat (first | (with_reducible first | exact HB.out | apply below_alloc | apply pw_below_drewN | apply below_drew1) | exact HB.out))) : w.heap.size ≤ gb289)); have n3_ := Aside0.mk ((by rw [hg]; exact (below_size (by repeat (first | (with_reducible first | exact HB.out | apply below_alloc | apply pw_below_drewN | apply below_drew1) | exact HB.out))) : w.heap.size ≤ gb289)); clear HB; have HB := n0_; have BK289 := n1_; have GW289 := n2_; have GE289 := n3_; clear n0_ n1_ n2_ n3_; clear hb hbox hg) | (go_at_call 16; (with_reducible refine (wageofficelaw42_head.calls  t290 _ A3.out).mono ?_); rintro e w6 ⟨rfl, hb⟩; have n0_ := Aside0.mk (blk_below (g := gb289) (o := .cells #[.slice A0_0 l0_0.length c0_0, .slice A0_1 l0_1.length c0_1] 25 (0, 0)) (by (with_reducible repeat (first | refine blk_drewN ?_ _ | refine blk_drew ?_ | refine blk_alloc ?_ _)); exact BK289.out) hb); have n1_ := Aside0.mk (below_step (by repeat (first | (with_reducible first | exact HB.out | apply below_alloc | apply pw_below_drewN | apply below_drew1 | refine below_set ?_ GE289.out) | exact HB.out)) hb); clear BK289; clear HB; have BK289 := n0_; have HB := n1_; clear n0_ n1_; (try clear hb); (try clear hb2); (try clear hk); (try clear hi)))
  repeat (go_quiet (first | ((with_reducible refine gate_dst (N := 2) rfl ?_); (try (refine gate_guard (by rfl) ?_; dsimp only)); refine box_event ?hg (N := 2) ?hd (cs := #[.slice A0_0 l0_0.length c0_0, .slice A0_1 l0_1.length c0_1]) (t := 25) ?hr ?_; (case hd => rfl); (case hg => rfl); (case hr => first | (go_simp; done) | (go_simp; rfl)); intro gb289 hg w5 hbox hb; have n0_ := Aside0.mk (below_step (by repeat (first | (with_reducible first | exact HB.out | apply below_alloc | apply pw_below_drewN | apply below_drew1) | exact HB.out)) hb); have n1_ := Aside0.mk (hbox); have n2_ := Aside0.mk ((by rw [hg]; exact (below_size (by repeat (first | (with_reducible first | exact HB.out | apply below_alloc | apply pw_below_drewN | apply below_drew1) | exact HB.out))) : w.heap.size ≤ gb289)); have n3_ := Aside0.mk ((by rw [hg]; exact (below_size (by repeat (first | (with_reducible first | exact HB.out | apply below_alloc | apply pw_below_drewN | apply below_drew1) | exact HB.out))) : w.heap.size ≤ gb289)); clear HB; have HB := n0_; have BK289 := n1_; have GW289 := n2_; have GE289 := n3_; clear n0_ n1_ n2_ n3_; clear hb hbox hg) | (go_at_call 16; (with_reducible refine (wageofficelaw42_head.calls  t290 _ A3.out).mono ?_); rintro e w6 ⟨rfl, hb⟩; have n0_ := Aside0.mk (blk_below (g := gb289) (o := .cells #[.slice A0_0 l0_0.length c0_0, .slice A0_1 l0_1.length c0_1] 25 (0, 0)) (by (with_reducible repeat (first | refine blk_drewN ?_ _ | refine blk_drew ?_ | refine blk_alloc ?_ _)); exact BK289.out) hb); have n1_ := Aside0.mk (below_step (by repeat (first | (with_reducible first | exact HB.out | apply below_alloc | apply pw_below_drewN | apply below_drew1 | refine below_set ?_ GE289.out) | exact HB.out)) hb); clear BK289; clear HB; have BK289 := n0_; have HB := n1_; clear n0_ n1_; (try clear hb); (try clear hb2); (try clear hk); (try clear hi))); go_upto_region 2 with (first | ((with_reducible refine gate_dst (N := 2) rfl ?_); (try (refine gate_guard (by rfl) ?_; dsimp only)); refine box_event ?hg (N := 2) ?hd (cs := #[.slice A0_0 l0_0.length c0_0, .slice A0_1 l0_1.length c0_1]) (t := 25) ?hr ?_; (case hd => rfl); (case hg => rfl); (case hr => first | (go_simp; done) | (go_simp; rfl)); intro gb289 hg w5 hbox hb; have n0_ := Aside0.mk (below_step (by repeat (first | (with_reducible first | exact HB.out | apply below_alloc | apply pw_below_drewN | apply below_drew1) | exact HB.out)) hb); have n1_ := Aside0.mk (hbox); have n2_ := Aside0.mk ((by rw [hg]; exact (below_size (by repeat (first | (with_reducible first | exact HB.out | apply below_alloc | apply pw_below_drewN | apply below_drew1) | exact HB.out))) : w.heap.size ≤ gb289)); have n3_ := Aside0.mk ((by rw [hg]; exact (below_size (by repeat (first | (with_reducible first | exact HB.out | apply below_alloc | apply pw_below_drewN | apply below_drew1) | exact HB.out))) : w.heap.size ≤ gb289)); clear HB; have HB := n0_; have BK289 := n1_; have GW289 := n2_; have GE289 := n3_; clear n0_ n1_ n2_ n3_; clear hb hbox hg) | (go_at_call 16; (with_reducible refine (wageofficelaw42_head.calls  t290 _ A3.out).mono ?_); rintro e w6 ⟨rfl, hb⟩; have n0_ := Aside0.mk (blk_below (g := gb289) (o := .cells #[.slice A0_0 l0_0.length c0_0, .slice A0_1 l0_1.length c0_1] 25 (0, 0)) (by (with_reducible repeat (first | refine blk_drewN ?_ _ | refine blk_drew ?_ | refine blk_alloc ?_ _)); exact BK289.out) hb); have n1_ := Aside0.mk (below_step (by repeat (first | (with_reducible first | exact HB.out | apply below_alloc | apply pw_below_drewN | apply below_drew1 | refine below_set ?_ GE289.out) | exact HB.out)) hb); clear BK289; clear HB; have BK289 := n0_; have HB := n1_; clear n0_ n1_; (try clear hb); (try clear hb2); (try clear hk); (try clear hi))))
  (try simp only [Act.put, List.setIfInBounds_toArray, List.set_cons_zero, List.set_cons_succ])
  go_cut [24] (fun v24 wc => ∃ (kq : Nat) (x24_3 : Bool), v24 = .bool x24_3 ∧ Aside0 (wageofficelaw42_DiskTearing.j0 kq l1 t290 x24_3 l0_0 l0_1 = some r) ∧ Aside0 (kq ≤ k) ∧ Aside0 (wc.heap[gb289]? = some (.cells #[(.slice A0_0 l0_0.length c0_0), (.slice A0_1 l0_1.length c0_1)] 25 (0, 0))) ∧ Aside0 (Below w.heap.size w wc))
  case first =>
    have H := HC4.out
    clear HC4
    replace H := Option.bind_eq_some_iff.mp H
    obtain ⟨t291, A70, H⟩ := H
    replace H : (if t291 = true then ((wageofficeref42_Valid.f k l0_0 l0_1).bind fun t292 => (if t292 = true then (wageofficelaw42_DiskTearing.j0 k l1 t290 (decide ((l1.length : Int) > 80)) l0_0 l0_1) else (wageofficelaw42_DiskTearing.j0 k l1 t290 true l0_0 l0_1))) else (wageofficelaw42_DiskTearing.j0 k l1 t290 true l0_0 l0_1)) = some r := H
    have A7 := Aside0.mk A70
    clear A70
    by_cases c8 : t291 = true
    · subst c8
      have H1 : ((wageofficeref42_Valid.f k l0_0 l0_1).bind fun t292 => (if t292 = true then (wageofficelaw42_DiskTearing.j0 k l1 t290 (decide ((l1.length : Int) > 80)) l0_0 l0_1) else (wageofficelaw42_DiskTearing.j0 k l1 t290 true l0_0 l0_1))) = some r := by rw [if_pos rfl] at H; exact H
      clear H
      have H := H1
      clear H1
      replace H := Option.bind_eq_some_iff.mp H
      obtain ⟨t292, A90, H⟩ := H
      replace H : (if t292 = true then (wageofficelaw42_DiskTearing.j0 k l1 t290 (decide ((l1.length : Int) > 80)) l0_0 l0_1) else (wageofficelaw42_DiskTearing.j0 k l1 t290 true l0_0 l0_1)) = some r := H
      have A9 := Aside0.mk A90
      clear A90
      by_cases c10 : t292 = true
      · subst c10
        have H1 : (wageofficelaw42_DiskTearing.j0 k l1 t290 (decide ((l1.length : Int) > 80)) l0_0 l0_1) = some r := by rw [if_pos rfl] at H; exact H
        clear H
        have H := H1
        clear H1
        have H' := Aside0.mk H
        clear H
        have hcz11_0 : w6.cell? ⟨gb289, 0, none⟩ = some (.slice A0_0 l0_0.length c0_0) := (blk_cell BK289.out 0).trans rfl
        have hcz11_1 : w6.cell? ⟨gb289, 1, none⟩ = some (.slice A0_1 l0_1.length c0_1) := (blk_cell BK289.out 1).trans rfl
        have hfz11_0 := blk_frozen BK289.out 0
        have hfz11_1 := blk_frozen BK289.out 1
        go_wp2_with (first | (go_at_call 20; (with_reducible refine (wageofficeref42_Small.calls k _ _ l0_0 _ _ l0_1 600 true _ ?side1 ?side2 ?side3 ?side4 A7.out).mono ?_); (case side1 => repeat (first | exact (Kd.C_below HR0_0.out HB.out) | (with_reducible refine Kd.C_alloc ?_ _) | (with_reducible refine Kd.C_drewN ?_ _) | (with_reducible refine Kd.C_drew ?_))); (case side2 => exact HC0_0.out); (case side3 => repeat (first | exact (Kd.C_below HR0_1.out HB.out) | (with_reducible refine Kd.C_alloc ?_ _) | (with_reducible refine Kd.C_drewN ?_ _) | (with_reducible refine Kd.C_drew ?_))); (case side4 => exact HC0_1.out); rintro e w12 ⟨rfl, hb⟩; have n0_ := Aside0.mk (blk_below (g := gb289) (o := .cells #[.slice A0_0 l0_0.length c0_0, .slice A0_1 l0_1.length c0_1] 25 (0, 0)) (by (with_reducible repeat (first | refine blk_drewN ?_ _ | refine blk_drew ?_ | refine blk_alloc ?_ _)); exact BK289.out) hb); have n1_ := Aside0.mk (below_step (by repeat (first | (with_reducible first | exact HB.out | apply below_alloc | apply pw_below_drewN | apply below_drew1 | refine below_set ?_ GE289.out) | exact HB.out)) hb); clear BK289; clear HB; have BK289 := n0_; have HB := n1_; clear n0_ n1_; (try clear hb); (try clear hb2); (try clear hk); (try clear hi); have hcz13_0 : w12.cell? ⟨gb289, 0, none⟩ = some (.slice A0_0 l0_0.length c0_0) := (blk_cell BK289.out 0).trans rfl; have hcz13_1 : w12.cell? ⟨gb289, 1, none⟩ = some (.slice A0_1 l0_1.length c0_1) := (blk_cell BK289.out 1).trans rfl; have hfz13_0 := blk_frozen BK289.out 0; have hfz13_1 := blk_frozen BK289.out 1) | (go_at_call 31; (with_reducible refine (wageofficeref42_Valid.calls k _ _ l0_0 _ _ l0_1 true _ ?side1 ?side2 ?side3 ?side4 A9.out).mono ?_); (case side1 => repeat (first | exact (Kd.C_below HR0_0.out HB.out) | (with_reducible refine Kd.C_alloc ?_ _) | (with_reducible refine Kd.C_drewN ?_ _) | (with_reducible refine Kd.C_drew ?_))); (case side2 => exact HC0_0.out); (case side3 => repeat (first | exact (Kd.C_below HR0_1.out HB.out) | (with_reducible refine Kd.C_alloc ?_ _) | (with_reducible refine Kd.C_drewN ?_ _) | (with_reducible refine Kd.C_drew ?_))); (case side4 => exact HC0_1.out); rintro e w14 ⟨rfl, hb⟩; have n0_ := Aside0.mk (blk_below (g := gb289) (o := .cells #[.slice A0_0 l0_0.length c0_0, .slice A0_1 l0_1.length c0_1] 25 (0, 0)) (by (with_reducible repeat (first | refine blk_drewN ?_ _ | refine blk_drew ?_ | refine blk_alloc ?_ _)); exact BK289.out) hb); have n1_ := Aside0.mk (below_step (by repeat (first | (with_reducible first | exact HB.out | apply below_alloc | apply pw_below_drewN | apply below_drew1 | refine below_set ?_ GE289.out) | exact HB.out)) hb); clear BK289; clear HB; have BK289 := n0_; have HB := n1_; clear n0_ n1_; (try clear hb); (try clear hb2); (try clear hk); (try clear hi)))
        repeat (go_quiet (first | (go_at_call 20; (with_reducible refine (wageofficeref42_Small.calls k _ _ l0_0 _ _ l0_1 600 true _ ?side1 ?side2 ?side3 ?side4 A7.out).mono ?_); (case side1 => repeat (first | exact (Kd.C_below HR0_0.out HB.out) | (with_reducible refine Kd.C_alloc ?_ _) | (with_reducible refine Kd.C_drewN ?_ _) | (with_reducible refine Kd.C_drew ?_))); (case side2 => exact HC0_0.out); (case side3 => repeat (first | exact (Kd.C_below HR0_1.out HB.out) | (with_reducible refine Kd.C_alloc ?_ _) | (with_reducible refine Kd.C_drewN ?_ _) | (with_reducible refine Kd.C_drew ?_))); (case side4 => exact HC0_1.out); rintro e w12 ⟨rfl, hb⟩; have n0_ := Aside0.mk (blk_below (g := gb289) (o := .cells #[.slice A0_0 l0_0.length c0_0, .slice A0_1 l0_1.length c0_1] 25 (0, 0)) (by (with_reducible repeat (first | refine blk_drewN ?_ _ | refine blk_drew ?_ | refine blk_alloc ?_ _)); exact BK289.out) hb); have n1_ := Aside0.mk (below_step (by repeat (first | (with_reducible first | exact HB.out | apply below_alloc | apply pw_below_drewN | apply below_drew1 | refine below_set ?_ GE289.out) | exact HB.out)) hb); clear BK289; clear HB; have BK289 := n0_; have HB := n1_; clear n0_ n1_; (try clear hb); (try clear hb2); (try clear hk); (try clear hi); have hcz13_0 : w12.cell? ⟨gb289, 0, none⟩ = some (.slice A0_0 l0_0.length c0_0) := (blk_cell BK289.out 0).trans rfl; have hcz13_1 : w12.cell? ⟨gb289, 1, none⟩ = some (.slice A0_1 l0_1.length c0_1) := (blk_cell BK289.out 1).trans rfl; have hfz13_0 := blk_frozen BK289.out 0; have hfz13_1 := blk_frozen BK289.out 1) | (go_at_call 31; (with_reducible refine (wageofficeref42_Valid.calls k _ _ l0_0 _ _ l0_1 true _ ?side1 ?side2 ?side3 ?side4 A9.out).mono ?_); (case side1 => repeat (first | exact (Kd.C_below HR0_0.out HB.out) | (with_reducible refine Kd.C_alloc ?_ _) | (with_reducible refine Kd.C_drewN ?_ _) | (with_reducible refine Kd.C_drew ?_))); (case side2 => exact HC0_0.out); (case side3 => repeat (first | exact (Kd.C_below HR0_1.out HB.out) | (with_reducible refine Kd.C_alloc ?_ _) | (with_reducible refine Kd.C_drewN ?_ _) | (with_reducible refine Kd.C_drew ?_))); (case side4 => exact HC0_1.out); rintro e w14 ⟨rfl, hb⟩; have n0_ := Aside0.mk (blk_below (g := gb289) (o := .cells #[.slice A0_0 l0_0.length c0_0, .slice A0_1 l0_1.length c0_1] 25 (0, 0)) (by (with_reducible repeat (first | refine blk_drewN ?_ _ | refine blk_drew ?_ | refine blk_alloc ?_ _)); exact BK289.out) hb); have n1_ := Aside0.mk (below_step (by repeat (first | (with_reducible first | exact HB.out | apply below_alloc | apply pw_below_drewN | apply below_drew1 | refine below_set ?_ GE289.out) | exact HB.out)) hb); clear BK289; clear HB; have BK289 := n0_; have HB := n1_; clear n0_ n1_; (try clear hb); (try clear hb2); (try clear hk); (try clear hi))); try go_wp2_with (first | (go_at_call 20; (with_reducible refine (wageofficeref42_Small.calls k _ _ l0_0 _ _ l0_1 600 true _ ?side1 ?side2 ?side3 ?side4 A7.out).mono ?_); (case side1 => repeat (first | exact (Kd.C_below HR0_0.out HB.out) | (with_reducible refine Kd.C_alloc ?_ _) | (with_reducible refine Kd.C_drewN ?_ _) | (with_reducible refine Kd.C_drew ?_))); (case side2 => exact HC0_0.out); (case side3 => repeat (first | exact (Kd.C_below HR0_1.out HB.out) | (with_reducible refine Kd.C_alloc ?_ _) | (with_reducible refine Kd.C_drewN ?_ _) | (with_reducible refine Kd.C_drew ?_))); (case side4 => exact HC0_1.out); rintro e w12 ⟨rfl, hb⟩; have n0_ := Aside0.mk (blk_below (g := gb289) (o := .cells #[.slice A0_0 l0_0.length c0_0, .slice A0_1 l0_1.length c0_1] 25 (0, 0)) (by (with_reducible repeat (first | refine blk_drewN ?_ _ | refine blk_drew ?_ | refine blk_alloc ?_ _)); exact BK289.out) hb); have n1_ := Aside0.mk (below_step (by repeat (first | (with_reducible first | exact HB.out | apply below_alloc | apply pw_below_drewN | apply below_drew1 | refine below_set ?_ GE289.out) | exact HB.out)) hb); clear BK289; clear HB; have BK289 := n0_; have HB := n1_; clear n0_ n1_; (try clear hb); (try clear hb2); (try clear hk); (try clear hi); have hcz13_0 : w12.cell? ⟨gb289, 0, none⟩ = some (.slice A0_0 l0_0.length c0_0) := (blk_cell BK289.out 0).trans rfl; have hcz13_1 : w12.cell? ⟨gb289, 1, none⟩ = some (.slice A0_1 l0_1.length c0_1) := (blk_cell BK289.out 1).trans rfl; have hfz13_0 := blk_frozen BK289.out 0; have hfz13_1 := blk_frozen BK289.out 1) | (go_at_call 31; (with_reducible refine (wageofficeref42_Valid.calls k _ _ l0_0 _ _ l0_1 true _ ?side1 ?side2 ?side3 ?side4 A9.out).mono ?_); (case side1 => repeat (first | exact (Kd.C_below HR0_0.out HB.out) | (with_reducible refine Kd.C_alloc ?_ _) | (with_reducible refine Kd.C_drewN ?_ _) | (with_reducible refine Kd.C_drew ?_))); (case side2 => exact HC0_0.out); (case side3 => repeat (first | exact (Kd.C_below HR0_1.out HB.out) | (with_reducible refine Kd.C_alloc ?_ _) | (with_reducible refine Kd.C_drewN ?_ _) | (with_reducible refine Kd.C_drew ?_))); (case side4 => exact HC0_1.out); rintro e w14 ⟨rfl, hb⟩; have n0_ := Aside0.mk (blk_below (g := gb289) (o := .cells #[.slice A0_0 l0_0.length c0_0, .slice A0_1 l0_1.length c0_1] 25 (0, 0)) (by (with_reducible repeat (first | refine blk_drewN ?_ _ | refine blk_drew ?_ | refine blk_alloc ?_ _)); exact BK289.out) hb); have n1_ := Aside0.mk (below_step (by repeat (first | (with_reducible first | exact HB.out | apply below_alloc | apply pw_below_drewN | apply below_drew1 | refine below_set ?_ GE289.out) | exact HB.out)) hb); clear BK289; clear HB; have BK289 := n0_; have HB := n1_; clear n0_ n1_; (try clear hb); (try clear hb2); (try clear hk); (try clear hi))))
        go_meet
        case rel => exact ⟨_, (decide ((l1.length : Int) > 80)), (by first | rfl | (simp; done) | (simp [*]; done)), H', ⟨by first | omega | exact Nat.le_refl _⟩, ⟨by (with_reducible repeat (first | refine blk_drewN ?_ _ | refine blk_drew ?_ | refine blk_alloc ?_ _)); exact BK289.out⟩, ⟨by repeat (first | (with_reducible first | exact HB.out | apply below_alloc | apply pw_below_drewN | apply below_drew1 | refine below_set ?_ GE289.out) | exact HB.out)⟩⟩
      · replace c10 := Bool.eq_false_iff.mpr c10
        subst c10
        have H1 : (wageofficelaw42_DiskTearing.j0 k l1 t290 true l0_0 l0_1) = some r := by rw [if_neg (show ¬ (false = true) by decide)] at H; exact H
        clear H
        have H := H1
        clear H1
        have H' := Aside0.mk H
        clear H
        have hcz15_0 : w6.cell? ⟨gb289, 0, none⟩ = some (.slice A0_0 l0_0.length c0_0) := (blk_cell BK289.out 0).trans rfl
        have hcz15_1 : w6.cell? ⟨gb289, 1, none⟩ = some (.slice A0_1 l0_1.length c0_1) := (blk_cell BK289.out 1).trans rfl
        have hfz15_0 := blk_frozen BK289.out 0
        have hfz15_1 := blk_frozen BK289.out 1
        go_wp2_with (first | (go_at_call 20; (with_reducible refine (wageofficeref42_Small.calls k _ _ l0_0 _ _ l0_1 600 true _ ?side1 ?side2 ?side3 ?side4 A7.out).mono ?_); (case side1 => repeat (first | exact (Kd.C_below HR0_0.out HB.out) | (with_reducible refine Kd.C_alloc ?_ _) | (with_reducible refine Kd.C_drewN ?_ _) | (with_reducible refine Kd.C_drew ?_))); (case side2 => exact HC0_0.out); (case side3 => repeat (first | exact (Kd.C_below HR0_1.out HB.out) | (with_reducible refine Kd.C_alloc ?_ _) | (with_reducible refine Kd.C_drewN ?_ _) | (with_reducible refine Kd.C_drew ?_))); (case side4 => exact HC0_1.out); rintro e w16 ⟨rfl, hb⟩; have n0_ := Aside0.mk (blk_below (g := gb289) (o := .cells #[.slice A0_0 l0_0.length c0_0, .slice A0_1 l0_1.length c0_1] 25 (0, 0)) (by (with_reducible repeat (first | refine blk_drewN ?_ _ | refine blk_drew ?_ | refine blk_alloc ?_ _)); exact BK289.out) hb); have n1_ := Aside0.mk (below_step (by repeat (first | (with_reducible first | exact HB.out | apply below_alloc | apply pw_below_drewN | apply below_drew1 | refine below_set ?_ GE289.out) | exact HB.out)) hb); clear BK289; clear HB; have BK289 := n0_; have HB := n1_; clear n0_ n1_; (try clear hb); (try clear hb2); (try clear hk); (try clear hi); have hcz17_0 : w16.cell? ⟨gb289, 0, none⟩ = some (.slice A0_0 l0_0.length c0_0) := (blk_cell BK289.out 0).trans rfl; have hcz17_1 : w16.cell? ⟨gb289, 1, none⟩ = some (.slice A0_1 l0_1.length c0_1) := (blk_cell BK289.out 1).trans rfl; have hfz17_0 := blk_frozen BK289.out 0; have hfz17_1 := blk_frozen BK289.out 1) | (go_at_call 31; (with_reducible refine (wageofficeref42_Valid.calls k _ _ l0_0 _ _ l0_1 false _ ?side1 ?side2 ?side3 ?side4 A9.out).mono ?_); (case side1 => repeat (first | exact (Kd.C_below HR0_0.out HB.out) | (with_reducible refine Kd.C_alloc ?_ _) | (with_reducible refine Kd.C_drewN ?_ _) | (with_reducible refine Kd.C_drew ?_))); (case side2 => exact HC0_0.out); (case side3 => repeat (first | exact (Kd.C_below HR0_1.out HB.out) | (with_reducible refine Kd.C_alloc ?_ _) | (with_reducible refine Kd.C_drewN ?_ _) | (with_reducible refine Kd.C_drew ?_))); (case side4 => exact HC0_1.out); rintro e w18 ⟨rfl, hb⟩; have n0_ := Aside0.mk (blk_below (g := gb289) (o := .cells #[.slice A0_0 l0_0.length c0_0, .slice A0_1 l0_1.length c0_1] 25 (0, 0)) (by (with_reducible repeat (first | refine blk_drewN ?_ _ | refine blk_drew ?_ | refine blk_alloc ?_ _)); exact BK289.out) hb); have n1_ := Aside0.mk (below_step (by repeat (first | (with_reducible first | exact HB.out | apply below_alloc | apply pw_below_drewN | apply below_drew1 | refine below_set ?_ GE289.out) | exact HB.out)) hb); clear BK289; clear HB; have BK289 := n0_; have HB := n1_; clear n0_ n1_; (try clear hb); (try clear hb2); (try clear hk); (try clear hi)))
        repeat (go_quiet (first | (go_at_call 20; (with_reducible refine (wageofficeref42_Small.calls k _ _ l0_0 _ _ l0_1 600 true _ ?side1 ?side2 ?side3 ?side4 A7.out).mono ?_); (case side1 => repeat (first | exact (Kd.C_below HR0_0.out HB.out) | (with_reducible refine Kd.C_alloc ?_ _) | (with_reducible refine Kd.C_drewN ?_ _) | (with_reducible refine Kd.C_drew ?_))); (case side2 => exact HC0_0.out); (case side3 => repeat (first | exact (Kd.C_below HR0_1.out HB.out) | (with_reducible refine Kd.C_alloc ?_ _) | (with_reducible refine Kd.C_drewN ?_ _) | (with_reducible refine Kd.C_drew ?_))); (case side4 => exact HC0_1.out); rintro e w16 ⟨rfl, hb⟩; have n0_ := Aside0.mk (blk_below (g := gb289) (o := .cells #[.slice A0_0 l0_0.length c0_0, .slice A0_1 l0_1.length c0_1] 25 (0, 0)) (by (with_reducible repeat (first | refine blk_drewN ?_ _ | refine blk_drew ?_ | refine blk_alloc ?_ _)); exact BK289.out) hb); have n1_ := Aside0.mk (below_step (by repeat (first | (with_reducible first | exact HB.out | apply below_alloc | apply pw_below_drewN | apply below_drew1 | refine below_set ?_ GE289.out) | exact HB.out)) hb); clear BK289; clear HB; have BK289 := n0_; have HB := n1_; clear n0_ n1_; (try clear hb); (try clear hb2); (try clear hk); (try clear hi); have hcz17_0 : w16.cell? ⟨gb289, 0, none⟩ = some (.slice A0_0 l0_0.length c0_0) := (blk_cell BK289.out 0).trans rfl; have hcz17_1 : w16.cell? ⟨gb289, 1, none⟩ = some (.slice A0_1 l0_1.length c0_1) := (blk_cell BK289.out 1).trans rfl; have hfz17_0 := blk_frozen BK289.out 0; have hfz17_1 := blk_frozen BK289.out 1) | (go_at_call 31; (with_reducible refine (wageofficeref42_Valid.calls k _ _ l0_0 _ _ l0_1 false _ ?side1 ?side2 ?side3 ?side4 A9.out).mono ?_); (case side1 => repeat (first | exact (Kd.C_below HR0_0.out HB.out) | (with_reducible refine Kd.C_alloc ?_ _) | (with_reducible refine Kd.C_drewN ?_ _) | (with_reducible refine Kd.C_drew ?_))); (case side2 => exact HC0_0.out); (case side3 => repeat (first | exact (Kd.C_below HR0_1.out HB.out) | (with_reducible refine Kd.C_alloc ?_ _) | (with_reducible refine Kd.C_drewN ?_ _) | (with_reducible refine Kd.C_drew ?_))); (case side4 => exact HC0_1.out); rintro e w18 ⟨rfl, hb⟩; have n0_ := Aside0.mk (blk_below (g := gb289) (o := .cells #[.slice A0_0 l0_0.length c0_0, .slice A0_1 l0_1.length c0_1] 25 (0, 0)) (by (with_reducible repeat (first | refine blk_drewN ?_ _ | refine blk_drew ?_ | refine blk_alloc ?_ _)); exact BK289.out) hb); have n1_ := Aside0.mk (below_step (by repeat (first | (with_reducible first | exact HB.out | apply below_alloc | apply pw_below_drewN | apply below_drew1 | refine below_set ?_ GE289.out) | exact HB.out)) hb); clear BK289; clear HB; have BK289 := n0_; have HB := n1_; clear n0_ n1_; (try clear hb); (try clear hb2); (try clear hk); (try clear hi))); try go_wp2_with (first | (go_at_call 20; (with_reducible refine (wageofficeref42_Small.calls k _ _ l0_0 _ _ l0_1 600 true _ ?side1 ?side2 ?side3 ?side4 A7.out).mono ?_); (case side1 => repeat (first | exact (Kd.C_below HR0_0.out HB.out) | (with_reducible refine Kd.C_alloc ?_ _) | (with_reducible refine Kd.C_drewN ?_ _) | (with_reducible refine Kd.C_drew ?_))); (case side2 => exact HC0_0.out); (case side3 => repeat (first | exact (Kd.C_below HR0_1.out HB.out) | (with_reducible refine Kd.C_alloc ?_ _) | (with_reducible refine Kd.C_drewN ?_ _) | (with_reducible refine Kd.C_drew ?_))); (case side4 => exact HC0_1.out); rintro e w16 ⟨rfl, hb⟩; have n0_ := Aside0.mk (blk_below (g := gb289) (o := .cells #[.slice A0_0 l0_0.length c0_0, .slice A0_1 l0_1.length c0_1] 25 (0, 0)) (by (with_reducible repeat (first | refine blk_drewN ?_ _ | refine blk_drew ?_ | refine blk_alloc ?_ _)); exact BK289.out) hb); have n1_ := Aside0.mk (below_step (by repeat (first | (with_reducible first | exact HB.out | apply below_alloc | apply pw_below_drewN | apply below_drew1 | refine below_set ?_ GE289.out) | exact HB.out)) hb); clear BK289; clear HB; have BK289 := n0_; have HB := n1_; clear n0_ n1_; (try clear hb); (try clear hb2); (try clear hk); (try clear hi); have hcz17_0 : w16.cell? ⟨gb289, 0, none⟩ = some (.slice A0_0 l0_0.length c0_0) := (blk_cell BK289.out 0).trans rfl; have hcz17_1 : w16.cell? ⟨gb289, 1, none⟩ = some (.slice A0_1 l0_1.length c0_1) := (blk_cell BK289.out 1).trans rfl; have hfz17_0 := blk_frozen BK289.out 0; have hfz17_1 := blk_frozen BK289.out 1) | (go_at_call 31; (with_reducible refine (wageofficeref42_Valid.calls k _ _ l0_0 _ _ l0_1 false _ ?side1 ?side2 ?side3 ?side4 A9.out).mono ?_); (case side1 => repeat (first | exact (Kd.C_below HR0_0.out HB.out) | (with_reducible refine Kd.C_alloc ?_ _) | (with_reducible refine Kd.C_drewN ?_ _) | (with_reducible refine Kd.C_drew ?_))); (case side2 => exact HC0_0.out); (case side3 => repeat (first | exact (Kd.C_below HR0_1.out HB.out) | (with_reducible refine Kd.C_alloc ?_ _) | (with_reducible refine Kd.C_drewN ?_ _) | (with_reducible refine Kd.C_drew ?_))); (case side4 => exact HC0_1.out); rintro e w18 ⟨rfl, hb⟩; have n0_ := Aside0.mk (blk_below (g := gb289) (o := .cells #[.slice A0_0 l0_0.length c0_0, .slice A0_1 l0_1.length c0_1] 25 (0, 0)) (by (with_reducible repeat (first | refine blk_drewN ?_ _ | refine blk_drew ?_ | refine blk_alloc ?_ _)); exact BK289.out) hb); have n1_ := Aside0.mk (below_step (by repeat (first | (with_reducible first | exact HB.out | apply below_alloc | apply pw_below_drewN | apply below_drew1 | refine below_set ?_ GE289.out) | exact HB.out)) hb); clear BK289; clear HB; have BK289 := n0_; have HB := n1_; clear n0_ n1_; (try clear hb); (try clear hb2); (try clear hk); (try clear hi))))
        go_meet
        case rel => exact ⟨_, (true), (by first | rfl | (simp; done) | (simp [*]; done)), H', ⟨by first | omega | exact Nat.le_refl _⟩, ⟨by (with_reducible repeat (first | refine blk_drewN ?_ _ | refine blk_drew ?_ | refine blk_alloc ?_ _)); exact BK289.out⟩, ⟨by repeat (first | (with_reducible first | exact HB.out | apply below_alloc | apply pw_below_drewN | apply below_drew1 | refine below_set ?_ GE289.out) | exact HB.out)⟩⟩
    · replace c8 := Bool.eq_false_iff.mpr c8
      subst c8
      have H1 : (wageofficelaw42_DiskTearing.j0 k l1 t290 true l0_0 l0_1) = some r := by rw [if_neg (show ¬ (false = true) by decide)] at H; exact H
      clear H
      have H := H1
      clear H1
      have H' := Aside0.mk H
      clear H
      have hcz19_0 : w6.cell? ⟨gb289, 0, none⟩ = some (.slice A0_0 l0_0.length c0_0) := (blk_cell BK289.out 0).trans rfl
      have hcz19_1 : w6.cell? ⟨gb289, 1, none⟩ = some (.slice A0_1 l0_1.length c0_1) := (blk_cell BK289.out 1).trans rfl
      have hfz19_0 := blk_frozen BK289.out 0
      have hfz19_1 := blk_frozen BK289.out 1
      go_wp2_with (first | (go_at_call 20; (with_reducible refine (wageofficeref42_Small.calls k _ _ l0_0 _ _ l0_1 600 false _ ?side1 ?side2 ?side3 ?side4 A7.out).mono ?_); (case side1 => repeat (first | exact (Kd.C_below HR0_0.out HB.out) | (with_reducible refine Kd.C_alloc ?_ _) | (with_reducible refine Kd.C_drewN ?_ _) | (with_reducible refine Kd.C_drew ?_))); (case side2 => exact HC0_0.out); (case side3 => repeat (first | exact (Kd.C_below HR0_1.out HB.out) | (with_reducible refine Kd.C_alloc ?_ _) | (with_reducible refine Kd.C_drewN ?_ _) | (with_reducible refine Kd.C_drew ?_))); (case side4 => exact HC0_1.out); rintro e w20 ⟨rfl, hb⟩; have n0_ := Aside0.mk (blk_below (g := gb289) (o := .cells #[.slice A0_0 l0_0.length c0_0, .slice A0_1 l0_1.length c0_1] 25 (0, 0)) (by (with_reducible repeat (first | refine blk_drewN ?_ _ | refine blk_drew ?_ | refine blk_alloc ?_ _)); exact BK289.out) hb); have n1_ := Aside0.mk (below_step (by repeat (first | (with_reducible first | exact HB.out | apply below_alloc | apply pw_below_drewN | apply below_drew1 | refine below_set ?_ GE289.out) | exact HB.out)) hb); clear BK289; clear HB; have BK289 := n0_; have HB := n1_; clear n0_ n1_; (try clear hb); (try clear hb2); (try clear hk); (try clear hi)))
      repeat (go_quiet (first | (go_at_call 20; (with_reducible refine (wageofficeref42_Small.calls k _ _ l0_0 _ _ l0_1 600 false _ ?side1 ?side2 ?side3 ?side4 A7.out).mono ?_); (case side1 => repeat (first | exact (Kd.C_below HR0_0.out HB.out) | (with_reducible refine Kd.C_alloc ?_ _) | (with_reducible refine Kd.C_drewN ?_ _) | (with_reducible refine Kd.C_drew ?_))); (case side2 => exact HC0_0.out); (case side3 => repeat (first | exact (Kd.C_below HR0_1.out HB.out) | (with_reducible refine Kd.C_alloc ?_ _) | (with_reducible refine Kd.C_drewN ?_ _) | (with_reducible refine Kd.C_drew ?_))); (case side4 => exact HC0_1.out); rintro e w20 ⟨rfl, hb⟩; have n0_ := Aside0.mk (blk_below (g := gb289) (o := .cells #[.slice A0_0 l0_0.length c0_0, .slice A0_1 l0_1.length c0_1] 25 (0, 0)) (by (with_reducible repeat (first | refine blk_drewN ?_ _ | refine blk_drew ?_ | refine blk_alloc ?_ _)); exact BK289.out) hb); have n1_ := Aside0.mk (below_step (by repeat (first | (with_reducible first | exact HB.out | apply below_alloc | apply pw_below_drewN | apply below_drew1 | refine below_set ?_ GE289.out) | exact HB.out)) hb); clear BK289; clear HB; have BK289 := n0_; have HB := n1_; clear n0_ n1_; (try clear hb); (try clear hb2); (try clear hk); (try clear hi))); try go_wp2_with (first | (go_at_call 20; (with_reducible refine (wageofficeref42_Small.calls k _ _ l0_0 _ _ l0_1 600 false _ ?side1 ?side2 ?side3 ?side4 A7.out).mono ?_); (case side1 => repeat (first | exact (Kd.C_below HR0_0.out HB.out) | (with_reducible refine Kd.C_alloc ?_ _) | (with_reducible refine Kd.C_drewN ?_ _) | (with_reducible refine Kd.C_drew ?_))); (case side2 => exact HC0_0.out); (case side3 => repeat (first | exact (Kd.C_below HR0_1.out HB.out) | (with_reducible refine Kd.C_alloc ?_ _) | (with_reducible refine Kd.C_drewN ?_ _) | (with_reducible refine Kd.C_drew ?_))); (case side4 => exact HC0_1.out); rintro e w20 ⟨rfl, hb⟩; have n0_ := Aside0.mk (blk_below (g := gb289) (o := .cells #[.slice A0_0 l0_0.length c0_0, .slice A0_1 l0_1.length c0_1] 25 (0, 0)) (by (with_reducible repeat (first | refine blk_drewN ?_ _ | refine blk_drew ?_ | refine blk_alloc ?_ _)); exact BK289.out) hb); have n1_ := Aside0.mk (below_step (by repeat (first | (with_reducible first | exact HB.out | apply below_alloc | apply pw_below_drewN | apply below_drew1 | refine below_set ?_ GE289.out) | exact HB.out)) hb); clear BK289; clear HB; have BK289 := n0_; have HB := n1_; clear n0_ n1_; (try clear hb); (try clear hb2); (try clear hk); (try clear hi))))
      go_meet
      case rel => exact ⟨_, (true), (by first | rfl | (simp; done) | (simp [*]; done)), H', ⟨by first | omega | exact Nat.le_refl _⟩, ⟨by (with_reducible repeat (first | refine blk_drewN ?_ _ | refine blk_drew ?_ | refine blk_alloc ?_ _)); exact BK289.out⟩, ⟨by repeat (first | (with_reducible first | exact HB.out | apply below_alloc | apply pw_below_drewN | apply below_drew1 | refine below_set ?_ GE289.out) | exact HB.out)⟩⟩
  case rest =>
    clear HC4
    try clear c1
    try clear p2
    try clear c8
    try clear c10
    try clear hcz11_0
    try clear hcz11_1
    try clear hcz13_0
    try clear hcz13_1
    try clear hcz15_0
    try clear hcz15_1
    try clear hcz17_0
    try clear hcz17_1
    try clear hcz19_0
    try clear hcz19_1
    try clear hfz11_0
    try clear hfz11_1
    try clear hfz13_0
    try clear hfz13_1
    try clear hfz15_0
    try clear hfz15_1
    try clear hfz17_0
    try clear hfz17_1
    try clear hfz19_0
    try clear hfz19_1
    obtain ⟨kq, x24_3, rfl, HA, HJ3, BK289, HB⟩ := hcut
    cases kq with
    | zero => exact absurd HA.out (by simp [wageofficelaw42_DiskTearing.j0])
    | succ kj3 =>
      have H := HA.out
      clear HA
      simp only [wageofficelaw42_DiskTearing.j0] at H
      by_cases c21 : x24_3 = true
      · subst c21
        have H1 : (some t290) = some r := by rw [if_pos rfl] at H; exact H
        clear H
        have H := H1
        clear H1
        obtain rfl := Option.some.inj H
        go_wp2
        repeat (go_quiet (fail); try go_wp2)
        go_ret
        exact ⟨by first | rfl | (simp [errW_none, errW_some] <;> rfl) | (simp [*, errW_none, errW_some] <;> rfl), by repeat (first | (with_reducible first | exact HB.out | apply below_alloc | apply pw_below_drewN | apply below_drew1 | refine below_set ?_ GE289.out) | exact HB.out)⟩
      · replace c21 := Bool.eq_false_iff.mpr c21
        subst c21
        have H1 : ((disk_Crash.f l0_0 l0_1 l1).bind fun bt293 => (if (bt293.1.length : Int) = (l0_0.length : Int) then (wageofficelaw42_DiskTearing.j1 kj3 t290 (decide ((bt293.2.length : Int) > 0)) l0_0 l0_1 bt293.1 bt293.2) else (wageofficelaw42_DiskTearing.j1 kj3 t290 true l0_0 l0_1 bt293.1 bt293.2))) = some r := by rw [if_neg (show ¬ (false = true) by decide)] at H; exact H
        clear H
        have H := H1
        clear H1
        replace H := Option.bind_eq_some_iff.mp H
        obtain ⟨⟨t293, t296⟩, A220, H⟩ := H
        replace H : (if (t293.length : Int) = (l0_0.length : Int) then (wageofficelaw42_DiskTearing.j1 kj3 t290 (decide ((t296.length : Int) > 0)) l0_0 l0_1 t293 t296) else (wageofficelaw42_DiskTearing.j1 kj3 t290 true l0_0 l0_1 t293 t296)) = some r := H
        have A22 := Aside0.mk A220
        clear A220
        have HC23 := Aside0.mk H
        clear H
        have hcz24_0 : wc.cell? ⟨gb289, 0, none⟩ = some (.slice A0_0 l0_0.length c0_0) := (blk_cell BK289.out 0).trans rfl
        have hcz24_1 : wc.cell? ⟨gb289, 1, none⟩ = some (.slice A0_1 l0_1.length c0_1) := (blk_cell BK289.out 1).trans rfl
        have hfz24_0 := blk_frozen BK289.out 0
        have hfz24_1 := blk_frozen BK289.out 1
        go_upto_region 5 with (first | (go_at_call 28; (with_reducible refine (disk_Crash.calls _ _ l0_0 _ _ l0_1 _ _ l1 t293 t296 _ ?side1 ?side2 ?side3 ?side4 ?side5 ?side6 A22.out).mono ?_); (case side1 => repeat (first | exact (Kd.C_below HR0_0.out HB.out) | (with_reducible refine Kd.C_alloc ?_ _) | (with_reducible refine Kd.C_drewN ?_ _) | (with_reducible refine Kd.C_drew ?_))); (case side2 => exact HC0_0.out); (case side3 => repeat (first | exact (Kd.C_below HR0_1.out HB.out) | (with_reducible refine Kd.C_alloc ?_ _) | (with_reducible refine Kd.C_drewN ?_ _) | (with_reducible refine Kd.C_drew ?_))); (case side4 => exact HC0_1.out); (case side5 => repeat (first | exact (Kd.C_below HR1.out HB.out) | (with_reducible refine Kd.C_alloc ?_ _) | (with_reducible refine Kd.C_drewN ?_ _) | (with_reducible refine Kd.C_drew ?_))); (case side6 => exact HC1.out); rintro e w25 ⟨v294, v297, rfl, ho0, ho1, hb⟩; have n0_ := Aside0.mk (Kd.R_lower ho0 (below_size (by repeat (first | (with_reducible first | exact HB.out | apply below_alloc | apply pw_below_drewN | apply below_drew1 | refine below_set ?_ GE289.out) | exact HB.out)))); have n1_ := Aside0.mk (Kd.S_lower ho1 (below_size (by repeat (first | (with_reducible first | exact HB.out | apply below_alloc | apply pw_below_drewN | apply below_drew1 | refine below_set ?_ GE289.out) | exact HB.out)))); have n2_ := Aside0.mk (blk_below (g := gb289) (o := .cells #[.slice A0_0 l0_0.length c0_0, .slice A0_1 l0_1.length c0_1] 25 (0, 0)) (by (with_reducible repeat (first | refine blk_drewN ?_ _ | refine blk_drew ?_ | refine blk_alloc ?_ _)); exact BK289.out) hb); have n3_ := Aside0.mk (below_step (by repeat (first | (with_reducible first | exact HB.out | apply below_alloc | apply pw_below_drewN | apply below_drew1 | refine below_set ?_ GE289.out) | exact HB.out)) hb); clear BK289; clear HB; have HO295 := n0_; have HO298 := n1_; have BK289 := n2_; have HB := n3_; clear n0_ n1_ n2_ n3_; (try clear hb); (try clear hb2); (try clear hk); (try clear hi); (try clear ho0); (try clear ho1)) | ((with_reducible refine gate_dst (N := 6) rfl ?_); (try (refine gate_guard (by rfl) ?_; dsimp only)); refine box_event ?hg (N := 6) ?hd (cs := #[.slice none 0 0, .slice none 0 0]) (t := 25) ?hr ?_; (case hd => rfl); (case hg => rfl); (case hr => first | (go_simp; done) | (go_simp; rfl)); intro gb299 hg w26 hbox hb; have n0_ := Aside0.mk (Kd.R_below (by (with_reducible repeat (first | apply Kd.R_alloc | apply Kd.R_drewN | apply Kd.R_drew)); exact HO295.out) hb); have n1_ := Aside0.mk (Kd.S_below (by (with_reducible repeat (first | apply Kd.S_alloc | apply Kd.S_drewN | apply Kd.S_drew)); exact HO298.out) hb); have n2_ := Aside0.mk (blk_below (g := gb289) (o := .cells #[.slice A0_0 l0_0.length c0_0, .slice A0_1 l0_1.length c0_1] 25 (0, 0)) (by (with_reducible repeat (first | refine blk_drewN ?_ _ | refine blk_drew ?_ | refine blk_alloc ?_ _)); exact BK289.out) hb); have n3_ := Aside0.mk (below_step (by repeat (first | (with_reducible first | exact HB.out | apply below_alloc | apply pw_below_drewN | apply below_drew1 | refine below_set ?_ GE289.out) | exact HB.out)) hb); have n4_ := Aside0.mk (hbox); have n5_ := Aside0.mk ((by rw [hg]; exact (below_size (by repeat (first | (with_reducible first | exact HB.out | apply below_alloc | apply pw_below_drewN | apply below_drew1 | refine below_set ?_ GE289.out) | exact HB.out))) : w.heap.size ≤ gb299)); have n6_ := Aside0.mk ((by rw [hg]; exact (below_size (by repeat (first | (with_reducible first | exact HB.out | apply below_alloc | apply pw_below_drewN | apply below_drew1 | refine below_set ?_ GE289.out) | exact HB.out))) : w.heap.size ≤ gb299)); have n7_ := Aside0.mk ((by rw [hg]; exact Nat.ne_of_lt (blk_lt (g := gb289) (o := .cells #[.slice A0_0 l0_0.length c0_0, .slice A0_1 l0_1.length c0_1] 25 (0, 0)) (by (with_reducible repeat (first | refine blk_drewN ?_ _ | refine blk_drew ?_ | refine blk_alloc ?_ _)); exact BK289.out)) : gb289 ≠ gb299)); have n8_ := Aside0.mk ((by rw [hg]; exact Nat.ne_of_gt (blk_lt (g := gb289) (o := .cells #[.slice A0_0 l0_0.length c0_0, .slice A0_1 l0_1.length c0_1] 25 (0, 0)) (by (with_reducible repeat (first | refine blk_drewN ?_ _ | refine blk_drew ?_ | refine blk_alloc ?_ _)); exact BK289.out)) : gb299 ≠ gb289)); clear HO295; clear HO298; clear BK289; clear HB; have HO295 := n0_; have HO298 := n1_; have BK289 := n2_; have HB := n3_; have BK299 := n4_; have GW299 := n5_; have GE299 := n6_; have NB289_299 := n7_; have NB299_289 := n8_; clear n0_ n1_ n2_ n3_ n4_ n5_ n6_ n7_ n8_; clear hb hbox hg; obtain ⟨Ao27, co27, eo27⟩ := Kd.R_slice HO295.out; subst eo27; have hnb28 := NB299_289.out; have hnc28 := NB289_299.out; have hcz29_0 : w26.cell? ⟨gb299, 0, none⟩ = some (.slice none 0 0) := (blk_cell BK299.out 0).trans rfl; have hcz29_1 : w26.cell? ⟨gb299, 1, none⟩ = some (.slice none 0 0) := (blk_cell BK299.out 1).trans rfl; have hfz29_0 := blk_frozen BK299.out 0; have hfz29_1 := blk_frozen BK299.out 1; obtain ⟨Ao30, co30, eo30⟩ := Kd.S_slice HO298.out; subst eo30))
        repeat (go_quiet (first | (go_at_call 28; (with_reducible refine (disk_Crash.calls _ _ l0_0 _ _ l0_1 _ _ l1 t293 t296 _ ?side1 ?side2 ?side3 ?side4 ?side5 ?side6 A22.out).mono ?_); (case side1 => repeat (first | exact (Kd.C_below HR0_0.out HB.out) | (with_reducible refine Kd.C_alloc ?_ _) | (with_reducible refine Kd.C_drewN ?_ _) | (with_reducible refine Kd.C_drew ?_))); (case side2 => exact HC0_0.out); (case side3 => repeat (first | exact (Kd.C_below HR0_1.out HB.out) | (with_reducible refine Kd.C_alloc ?_ _) | (with_reducible refine Kd.C_drewN ?_ _) | (with_reducible refine Kd.C_drew ?_))); (case side4 => exact HC0_1.out); (case side5 => repeat (first | exact (Kd.C_below HR1.out HB.out) | (with_reducible refine Kd.C_alloc ?_ _) | (with_reducible refine Kd.C_drewN ?_ _) | (with_reducible refine Kd.C_drew ?_))); (case side6 => exact HC1.out); rintro e w25 ⟨v294, v297, rfl, ho0, ho1, hb⟩; have n0_ := Aside0.mk (Kd.R_lower ho0 (below_size (by repeat (first | (with_reducible first | exact HB.out | apply below_alloc | apply pw_below_drewN | apply below_drew1 | refine below_set ?_ GE289.out) | exact HB.out)))); have n1_ := Aside0.mk (Kd.S_lower ho1 (below_size (by repeat (first | (with_reducible first | exact HB.out | apply below_alloc | apply pw_below_drewN | apply below_drew1 | refine below_set ?_ GE289.out) | exact HB.out)))); have n2_ := Aside0.mk (blk_below (g := gb289) (o := .cells #[.slice A0_0 l0_0.length c0_0, .slice A0_1 l0_1.length c0_1] 25 (0, 0)) (by (with_reducible repeat (first | refine blk_drewN ?_ _ | refine blk_drew ?_ | refine blk_alloc ?_ _)); exact BK289.out) hb); have n3_ := Aside0.mk (below_step (by repeat (first | (with_reducible first | exact HB.out | apply below_alloc | apply pw_below_drewN | apply below_drew1 | refine below_set ?_ GE289.out) | exact HB.out)) hb); clear BK289; clear HB; have HO295 := n0_; have HO298 := n1_; have BK289 := n2_; have HB := n3_; clear n0_ n1_ n2_ n3_; (try clear hb); (try clear hb2); (try clear hk); (try clear hi); (try clear ho0); (try clear ho1)) | ((with_reducible refine gate_dst (N := 6) rfl ?_); (try (refine gate_guard (by rfl) ?_; dsimp only)); refine box_event ?hg (N := 6) ?hd (cs := #[.slice none 0 0, .slice none 0 0]) (t := 25) ?hr ?_; (case hd => rfl); (case hg => rfl); (case hr => first | (go_simp; done) | (go_simp; rfl)); intro gb299 hg w26 hbox hb; have n0_ := Aside0.mk (Kd.R_below (by (with_reducible repeat (first | apply Kd.R_alloc | apply Kd.R_drewN | apply Kd.R_drew)); exact HO295.out) hb); have n1_ := Aside0.mk (Kd.S_below (by (with_reducible repeat (first | apply Kd.S_alloc | apply Kd.S_drewN | apply Kd.S_drew)); exact HO298.out) hb); have n2_ := Aside0.mk (blk_below (g := gb289) (o := .cells #[.slice A0_0 l0_0.length c0_0, .slice A0_1 l0_1.length c0_1] 25 (0, 0)) (by (with_reducible repeat (first | refine blk_drewN ?_ _ | refine blk_drew ?_ | refine blk_alloc ?_ _)); exact BK289.out) hb); have n3_ := Aside0.mk (below_step (by repeat (first | (with_reducible first | exact HB.out | apply below_alloc | apply pw_below_drewN | apply below_drew1 | refine below_set ?_ GE289.out) | exact HB.out)) hb); have n4_ := Aside0.mk (hbox); have n5_ := Aside0.mk ((by rw [hg]; exact (below_size (by repeat (first | (with_reducible first | exact HB.out | apply below_alloc | apply pw_below_drewN | apply below_drew1 | refine below_set ?_ GE289.out) | exact HB.out))) : w.heap.size ≤ gb299)); have n6_ := Aside0.mk ((by rw [hg]; exact (below_size (by repeat (first | (with_reducible first | exact HB.out | apply below_alloc | apply pw_below_drewN | apply below_drew1 | refine below_set ?_ GE289.out) | exact HB.out))) : w.heap.size ≤ gb299)); have n7_ := Aside0.mk ((by rw [hg]; exact Nat.ne_of_lt (blk_lt (g := gb289) (o := .cells #[.slice A0_0 l0_0.length c0_0, .slice A0_1 l0_1.length c0_1] 25 (0, 0)) (by (with_reducible repeat (first | refine blk_drewN ?_ _ | refine blk_drew ?_ | refine blk_alloc ?_ _)); exact BK289.out)) : gb289 ≠ gb299)); have n8_ := Aside0.mk ((by rw [hg]; exact Nat.ne_of_gt (blk_lt (g := gb289) (o := .cells #[.slice A0_0 l0_0.length c0_0, .slice A0_1 l0_1.length c0_1] 25 (0, 0)) (by (with_reducible repeat (first | refine blk_drewN ?_ _ | refine blk_drew ?_ | refine blk_alloc ?_ _)); exact BK289.out)) : gb299 ≠ gb289)); clear HO295; clear HO298; clear BK289; clear HB; have HO295 := n0_; have HO298 := n1_; have BK289 := n2_; have HB := n3_; have BK299 := n4_; have GW299 := n5_; have GE299 := n6_; have NB289_299 := n7_; have NB299_289 := n8_; clear n0_ n1_ n2_ n3_ n4_ n5_ n6_ n7_ n8_; clear hb hbox hg; obtain ⟨Ao27, co27, eo27⟩ := Kd.R_slice HO295.out; subst eo27; have hnb28 := NB299_289.out; have hnc28 := NB289_299.out; have hcz29_0 : w26.cell? ⟨gb299, 0, none⟩ = some (.slice none 0 0) := (blk_cell BK299.out 0).trans rfl; have hcz29_1 : w26.cell? ⟨gb299, 1, none⟩ = some (.slice none 0 0) := (blk_cell BK299.out 1).trans rfl; have hfz29_0 := blk_frozen BK299.out 0; have hfz29_1 := blk_frozen BK299.out 1; obtain ⟨Ao30, co30, eo30⟩ := Kd.S_slice HO298.out; subst eo30)); go_upto_region 5 with (first | (go_at_call 28; (with_reducible refine (disk_Crash.calls _ _ l0_0 _ _ l0_1 _ _ l1 t293 t296 _ ?side1 ?side2 ?side3 ?side4 ?side5 ?side6 A22.out).mono ?_); (case side1 => repeat (first | exact (Kd.C_below HR0_0.out HB.out) | (with_reducible refine Kd.C_alloc ?_ _) | (with_reducible refine Kd.C_drewN ?_ _) | (with_reducible refine Kd.C_drew ?_))); (case side2 => exact HC0_0.out); (case side3 => repeat (first | exact (Kd.C_below HR0_1.out HB.out) | (with_reducible refine Kd.C_alloc ?_ _) | (with_reducible refine Kd.C_drewN ?_ _) | (with_reducible refine Kd.C_drew ?_))); (case side4 => exact HC0_1.out); (case side5 => repeat (first | exact (Kd.C_below HR1.out HB.out) | (with_reducible refine Kd.C_alloc ?_ _) | (with_reducible refine Kd.C_drewN ?_ _) | (with_reducible refine Kd.C_drew ?_))); (case side6 => exact HC1.out); rintro e w25 ⟨v294, v297, rfl, ho0, ho1, hb⟩; have n0_ := Aside0.mk (Kd.R_lower ho0 (below_size (by repeat (first | (with_reducible first | exact HB.out | apply below_alloc | apply pw_below_drewN | apply below_drew1 | refine below_set ?_ GE289.out) | exact HB.out)))); have n1_ := Aside0.mk (Kd.S_lower ho1 (below_size (by repeat (first | (with_reducible first | exact HB.out | apply below_alloc | apply pw_below_drewN | apply below_drew1 | refine below_set ?_ GE289.out) | exact HB.out)))); have n2_ := Aside0.mk (blk_below (g := gb289) (o := .cells #[.slice A0_0 l0_0.length c0_0, .slice A0_1 l0_1.length c0_1] 25 (0, 0)) (by (with_reducible repeat (first | refine blk_drewN ?_ _ | refine blk_drew ?_ | refine blk_alloc ?_ _)); exact BK289.out) hb); have n3_ := Aside0.mk (below_step (by repeat (first | (with_reducible first | exact HB.out | apply below_alloc | apply pw_below_drewN | apply below_drew1 | refine below_set ?_ GE289.out) | exact HB.out)) hb); clear BK289; clear HB; have HO295 := n0_; have HO298 := n1_; have BK289 := n2_; have HB := n3_; clear n0_ n1_ n2_ n3_; (try clear hb); (try clear hb2); (try clear hk); (try clear hi); (try clear ho0); (try clear ho1)) | ((with_reducible refine gate_dst (N := 6) rfl ?_); (try (refine gate_guard (by rfl) ?_; dsimp only)); refine box_event ?hg (N := 6) ?hd (cs := #[.slice none 0 0, .slice none 0 0]) (t := 25) ?hr ?_; (case hd => rfl); (case hg => rfl); (case hr => first | (go_simp; done) | (go_simp; rfl)); intro gb299 hg w26 hbox hb; have n0_ := Aside0.mk (Kd.R_below (by (with_reducible repeat (first | apply Kd.R_alloc | apply Kd.R_drewN | apply Kd.R_drew)); exact HO295.out) hb); have n1_ := Aside0.mk (Kd.S_below (by (with_reducible repeat (first | apply Kd.S_alloc | apply Kd.S_drewN | apply Kd.S_drew)); exact HO298.out) hb); have n2_ := Aside0.mk (blk_below (g := gb289) (o := .cells #[.slice A0_0 l0_0.length c0_0, .slice A0_1 l0_1.length c0_1] 25 (0, 0)) (by (with_reducible repeat (first | refine blk_drewN ?_ _ | refine blk_drew ?_ | refine blk_alloc ?_ _)); exact BK289.out) hb); have n3_ := Aside0.mk (below_step (by repeat (first | (with_reducible first | exact HB.out | apply below_alloc | apply pw_below_drewN | apply below_drew1 | refine below_set ?_ GE289.out) | exact HB.out)) hb); have n4_ := Aside0.mk (hbox); have n5_ := Aside0.mk ((by rw [hg]; exact (below_size (by repeat (first | (with_reducible first | exact HB.out | apply below_alloc | apply pw_below_drewN | apply below_drew1 | refine below_set ?_ GE289.out) | exact HB.out))) : w.heap.size ≤ gb299)); have n6_ := Aside0.mk ((by rw [hg]; exact (below_size (by repeat (first | (with_reducible first | exact HB.out | apply below_alloc | apply pw_below_drewN | apply below_drew1 | refine below_set ?_ GE289.out) | exact HB.out))) : w.heap.size ≤ gb299)); have n7_ := Aside0.mk ((by rw [hg]; exact Nat.ne_of_lt (blk_lt (g := gb289) (o := .cells #[.slice A0_0 l0_0.length c0_0, .slice A0_1 l0_1.length c0_1] 25 (0, 0)) (by (with_reducible repeat (first | refine blk_drewN ?_ _ | refine blk_drew ?_ | refine blk_alloc ?_ _)); exact BK289.out)) : gb289 ≠ gb299)); have n8_ := Aside0.mk ((by rw [hg]; exact Nat.ne_of_gt (blk_lt (g := gb289) (o := .cells #[.slice A0_0 l0_0.length c0_0, .slice A0_1 l0_1.length c0_1] 25 (0, 0)) (by (with_reducible repeat (first | refine blk_drewN ?_ _ | refine blk_drew ?_ | refine blk_alloc ?_ _)); exact BK289.out)) : gb299 ≠ gb289)); clear HO295; clear HO298; clear BK289; clear HB; have HO295 := n0_; have HO298 := n1_; have BK289 := n2_; have HB := n3_; have BK299 := n4_; have GW299 := n5_; have GE299 := n6_; have NB289_299 := n7_; have NB299_289 := n8_; clear n0_ n1_ n2_ n3_ n4_ n5_ n6_ n7_ n8_; clear hb hbox hg; obtain ⟨Ao27, co27, eo27⟩ := Kd.R_slice HO295.out; subst eo27; have hnb28 := NB299_289.out; have hnc28 := NB289_299.out; have hcz29_0 : w26.cell? ⟨gb299, 0, none⟩ = some (.slice none 0 0) := (blk_cell BK299.out 0).trans rfl; have hcz29_1 : w26.cell? ⟨gb299, 1, none⟩ = some (.slice none 0 0) := (blk_cell BK299.out 1).trans rfl; have hfz29_0 := blk_frozen BK299.out 0; have hfz29_1 := blk_frozen BK299.out 1; obtain ⟨Ao30, co30, eo30⟩ := Kd.S_slice HO298.out; subst eo30)))
        (try simp only [Act.put, List.setIfInBounds_toArray, List.set_cons_zero, List.set_cons_succ])
        go_cut [41] (fun v41 wc => ∃ (kq : Nat) (x41_22 : Bool), v41 = .bool x41_22 ∧ Aside0 (wageofficelaw42_DiskTearing.j1 kq t290 x41_22 l0_0 l0_1 t293 t296 = some r) ∧ Aside0 (kq ≤ kj3) ∧ Aside0 (Kd.R (Kd.int .u8) 5 wc w.heap.size (fun _ => True) (.slice Ao27 t293.length co27) t293) ∧ Aside0 (Kd.S k45 45 wc w.heap.size (fun k_ => some k_ ≠ ((.slice Ao27 t293.length co27) : Value).ownBlock) (.slice Ao30 t296.length co30) t296) ∧ Aside0 (wc.heap[gb289]? = some (.cells #[(.slice A0_0 l0_0.length c0_0), (.slice A0_1 l0_1.length c0_1)] 25 (0, 0))) ∧ Aside0 (wc.heap[gb299]? = some (.cells #[(.slice Ao27 t293.length co27), (.slice Ao30 t296.length co30)] 25 (0, 0))) ∧ Aside0 (Below w.heap.size w wc))
        case first =>
          have H := HC23.out
          clear HC23
          by_cases c31 : (t293.length : Int) = (l0_0.length : Int)
          · rw [if_pos c31] at H
            have c31b0 : ((t293.length : Int) == (l0_0.length : Int)) = true := beq_iff_eq.mpr c31
            have c31b1 : ((t293.length : Int) != (l0_0.length : Int)) = false := bne_eq_false_iff_eq.mpr c31
            have c31b2 : (t293.length == l0_0.length) = true := by first | simpa using c31 | (simp at c31 ⊢; omega)
            clear c31
            (first | rw [c31b0] | (simp only [i64_w, i32_w]; rw [c31b0]) | skip)
            have H' := Aside0.mk H
            clear H
            have hnb32 := NB299_289.out
            have hnc32 := NB289_299.out
            have hcz33_0 : w26.cell? ⟨gb299, 0, none⟩ = some (.slice none 0 0) := (blk_cell BK299.out 0).trans rfl
            have hcz33_1 : w26.cell? ⟨gb299, 1, none⟩ = some (.slice none 0 0) := (blk_cell BK299.out 1).trans rfl
            have hfz33_0 := blk_frozen BK299.out 0
            have hfz33_1 := blk_frozen BK299.out 1
            have hcz34_0 : w26.cell? ⟨gb289, 0, none⟩ = some (.slice A0_0 l0_0.length c0_0) := (blk_cell BK289.out 0).trans rfl
            have hcz34_1 : w26.cell? ⟨gb289, 1, none⟩ = some (.slice A0_1 l0_1.length c0_1) := (blk_cell BK289.out 1).trans rfl
            have hfz34_0 := blk_frozen BK289.out 0
            have hfz34_1 := blk_frozen BK289.out 1
            go_wp2
            repeat (go_quiet (fail); try go_wp2)
            go_meet
            case rel => exact ⟨_, (decide ((t296.length : Int) > 0)), (by first | rfl | (simp; done) | (simp [*]; done)), H', ⟨by have := HJ3.out; first | omega | exact Nat.le_refl _⟩, ⟨by (with_reducible repeat (first | apply Kd.R_alloc | apply Kd.R_drewN | apply Kd.R_drew)); exact Kd.R_mono (Kd.R_far (p := ⟨gb299, 1, none⟩) (Kd.R_far (p := ⟨gb299, 0, none⟩) (Kd.R_types HO295.out BK299.out (by decide)) (fun _ hk => hk.2) (.slice Ao27 t293.length co27)) (fun _ hk => hk.2) (.slice Ao30 t296.length co30)) (fun _ hk => trivial)⟩, ⟨by (with_reducible repeat (first | apply Kd.S_alloc | apply Kd.S_drewN | apply Kd.S_drew)); exact Kd.S_mono (Kd.S_far (p := ⟨gb299, 1, none⟩) (Kd.S_far (p := ⟨gb299, 0, none⟩) (Kd.S_types HO298.out BK299.out (by decide)) (fun _ hk => hk.2) (.slice Ao27 t293.length co27)) (fun _ hk => hk.2) (.slice Ao30 t296.length co30)) (fun _ hk => hk.1)⟩, ⟨by (with_reducible repeat (first | refine blk_drewN ?_ _ | refine blk_drew ?_ | refine blk_alloc ?_ _)); refine blk_far ?_ NB289_299.out _; (with_reducible repeat (first | refine blk_drewN ?_ _ | refine blk_drew ?_ | refine blk_alloc ?_ _)); refine blk_far ?_ NB289_299.out _; (with_reducible repeat (first | refine blk_drewN ?_ _ | refine blk_drew ?_ | refine blk_alloc ?_ _)); exact BK289.out⟩, ⟨by (with_reducible repeat (first | refine blk_drewN ?_ _ | refine blk_drew ?_ | refine blk_alloc ?_ _)); refine blk_put (cs := #[.slice Ao27 t293.length co27, .slice none 0 0]) ?_ 1 _ rfl; (with_reducible repeat (first | refine blk_drewN ?_ _ | refine blk_drew ?_ | refine blk_alloc ?_ _)); refine blk_put (cs := #[.slice none 0 0, .slice none 0 0]) ?_ 0 _ rfl; (with_reducible repeat (first | refine blk_drewN ?_ _ | refine blk_drew ?_ | refine blk_alloc ?_ _)); exact BK299.out⟩, ⟨by repeat (first | (with_reducible first | exact HB.out | apply below_alloc | apply pw_below_drewN | apply below_drew1 | refine below_set ?_ GE289.out | refine below_set ?_ GE299.out) | exact HB.out)⟩⟩
          · rw [if_neg c31] at H
            have c31b0 : ((t293.length : Int) == (l0_0.length : Int)) = false := beq_eq_false_iff_ne.mpr c31
            have c31b1 : ((t293.length : Int) != (l0_0.length : Int)) = true := bne_iff_ne.mpr c31
            have c31b2 : (t293.length == l0_0.length) = false := by first | simpa using c31 | (simp at c31 ⊢; omega)
            (first | rw [c31b0] | (simp only [i64_w, i32_w]; rw [c31b0]) | skip)
            have H' := Aside0.mk H
            clear H
            have hnb35 := NB299_289.out
            have hnc35 := NB289_299.out
            have hcz36_0 : w26.cell? ⟨gb299, 0, none⟩ = some (.slice none 0 0) := (blk_cell BK299.out 0).trans rfl
            have hcz36_1 : w26.cell? ⟨gb299, 1, none⟩ = some (.slice none 0 0) := (blk_cell BK299.out 1).trans rfl
            have hfz36_0 := blk_frozen BK299.out 0
            have hfz36_1 := blk_frozen BK299.out 1
            have hcz37_0 : w26.cell? ⟨gb289, 0, none⟩ = some (.slice A0_0 l0_0.length c0_0) := (blk_cell BK289.out 0).trans rfl
            have hcz37_1 : w26.cell? ⟨gb289, 1, none⟩ = some (.slice A0_1 l0_1.length c0_1) := (blk_cell BK289.out 1).trans rfl
            have hfz37_0 := blk_frozen BK289.out 0
            have hfz37_1 := blk_frozen BK289.out 1
            go_wp2
            repeat (go_quiet (fail); try go_wp2)
            go_meet
            case rel => exact ⟨_, (true), (by first | rfl | (simp; done) | (simp [*]; done)), H', ⟨by have := HJ3.out; first | omega | exact Nat.le_refl _⟩, ⟨by (with_reducible repeat (first | apply Kd.R_alloc | apply Kd.R_drewN | apply Kd.R_drew)); exact Kd.R_mono (Kd.R_far (p := ⟨gb299, 1, none⟩) (Kd.R_far (p := ⟨gb299, 0, none⟩) (Kd.R_types HO295.out BK299.out (by decide)) (fun _ hk => hk.2) (.slice Ao27 t293.length co27)) (fun _ hk => hk.2) (.slice Ao30 t296.length co30)) (fun _ hk => trivial)⟩, ⟨by (with_reducible repeat (first | apply Kd.S_alloc | apply Kd.S_drewN | apply Kd.S_drew)); exact Kd.S_mono (Kd.S_far (p := ⟨gb299, 1, none⟩) (Kd.S_far (p := ⟨gb299, 0, none⟩) (Kd.S_types HO298.out BK299.out (by decide)) (fun _ hk => hk.2) (.slice Ao27 t293.length co27)) (fun _ hk => hk.2) (.slice Ao30 t296.length co30)) (fun _ hk => hk.1)⟩, ⟨by (with_reducible repeat (first | refine blk_drewN ?_ _ | refine blk_drew ?_ | refine blk_alloc ?_ _)); refine blk_far ?_ NB289_299.out _; (with_reducible repeat (first | refine blk_drewN ?_ _ | refine blk_drew ?_ | refine blk_alloc ?_ _)); refine blk_far ?_ NB289_299.out _; (with_reducible repeat (first | refine blk_drewN ?_ _ | refine blk_drew ?_ | refine blk_alloc ?_ _)); exact BK289.out⟩, ⟨by (with_reducible repeat (first | refine blk_drewN ?_ _ | refine blk_drew ?_ | refine blk_alloc ?_ _)); refine blk_put (cs := #[.slice Ao27 t293.length co27, .slice none 0 0]) ?_ 1 _ rfl; (with_reducible repeat (first | refine blk_drewN ?_ _ | refine blk_drew ?_ | refine blk_alloc ?_ _)); refine blk_put (cs := #[.slice none 0 0, .slice none 0 0]) ?_ 0 _ rfl; (with_reducible repeat (first | refine blk_drewN ?_ _ | refine blk_drew ?_ | refine blk_alloc ?_ _)); exact BK299.out⟩, ⟨by repeat (first | (with_reducible first | exact HB.out | apply below_alloc | apply pw_below_drewN | apply below_drew1 | refine below_set ?_ GE289.out | refine below_set ?_ GE299.out) | exact HB.out)⟩⟩
        case rest =>
          clear HC23
          try clear c1
          try clear c2
          try clear p2
          try clear c3
          try clear c8
          try clear c10
          try clear c21
          try clear c28
          try clear c31
          try clear c31b0
          try clear c31b1
          try clear c31b2
          try clear c32
          try clear c35
          try clear hcz11_0
          try clear hcz11_1
          try clear hcz13_0
          try clear hcz13_1
          try clear hcz15_0
          try clear hcz15_1
          try clear hcz17_0
          try clear hcz17_1
          try clear hcz19_0
          try clear hcz19_1
          try clear hcz24_0
          try clear hcz24_1
          try clear hcz29_0
          try clear hcz29_1
          try clear hcz33_0
          try clear hcz33_1
          try clear hcz34_0
          try clear hcz34_1
          try clear hcz36_0
          try clear hcz36_1
          try clear hcz37_0
          try clear hcz37_1
          try clear hfz11_0
          try clear hfz11_1
          try clear hfz13_0
          try clear hfz13_1
          try clear hfz15_0
          try clear hfz15_1
          try clear hfz17_0
          try clear hfz17_1
          try clear hfz19_0
          try clear hfz19_1
          try clear hfz24_0
          try clear hfz24_1
          try clear hfz29_0
          try clear hfz29_1
          try clear hfz33_0
          try clear hfz33_1
          try clear hfz34_0
          try clear hfz34_1
          try clear hfz36_0
          try clear hfz36_1
          try clear hfz37_0
          try clear hfz37_1
          try clear p2
          obtain ⟨kq, x41_22, rfl, HA, HJ22, HO_300000, HO_300001, BK289, BK299, HB⟩ := hcut
          cases kq with
          | zero => exact absurd HA.out (by simp [wageofficelaw42_DiskTearing.j1])
          | succ kj22 =>
            have H := HA.out
            clear HA
            simp only [wageofficelaw42_DiskTearing.j1] at H
            by_cases c38 : x41_22 = true
            · subst c38
              have H1 : (some false) = some r := by rw [if_pos rfl] at H; exact H
              clear H
              have H := H1
              clear H1
              obtain rfl := Option.some.inj H
              go_wp2
              repeat (go_quiet (fail); try go_wp2)
              go_ret
              exact ⟨by first | rfl | (simp [errW_none, errW_some] <;> rfl) | (simp [*, errW_none, errW_some] <;> rfl), by repeat (first | (with_reducible first | exact HB.out | apply below_alloc | apply pw_below_drewN | apply below_drew1 | refine below_set ?_ GE289.out | refine below_set ?_ GE299.out) | exact HB.out)⟩
            · replace c38 := Bool.eq_false_iff.mpr c38
              subst c38
              have H1 : (wageofficelaw42_DiskTearing.l0 kj22 t290 0 l0_0 l0_1 t293 t296) = some r := by rw [if_neg (show ¬ (false = true) by decide)] at H; exact H
              clear H
              have H := H1
              clear H1
              have H' := Aside0.mk H
              clear H
              go_wp2
              repeat (go_quiet (fail); try go_wp2)
              go_loopg [7] kj22 (fun kq v7 w' => ∃ (x7_3 : Int), v7 = .int .i64 x7_3 ∧ Aside0 (wageofficelaw42_DiskTearing.l0 kq t290 x7_3 l0_0 l0_1 t293 t296 = some r) ∧ Aside0 (kq ≤ kj22) ∧ Aside0 (Kd.R (Kd.int .u8) 5 w' w.heap.size (fun _ => True) (.slice Ao27 t293.length co27) t293) ∧ Aside0 (Kd.S k45 45 w' w.heap.size (fun k_ => some k_ ≠ ((.slice Ao27 t293.length co27) : Value).ownBlock) (.slice Ao30 t296.length co30) t296) ∧ Aside0 (w'.heap[gb289]? = some (.cells #[(.slice A0_0 l0_0.length c0_0), (.slice A0_1 l0_1.length c0_1)] 25 (0, 0))) ∧ Aside0 (w'.heap[gb299]? = some (.cells #[(.slice Ao27 t293.length co27), (.slice Ao30 t296.length co30)] 25 (0, 0))) ∧ Aside0 (Below w.heap.size w w'))
              case atStart => exact ⟨(0), (by first | rfl | (simp; done) | (simp [*]; done)), H', ⟨Nat.le_refl _⟩, ⟨by (with_reducible repeat (first | apply Kd.R_alloc | apply Kd.R_drewN | apply Kd.R_drew)); exact HO_300000.out⟩, ⟨by (with_reducible repeat (first | apply Kd.S_alloc | apply Kd.S_drewN | apply Kd.S_drew)); exact HO_300001.out⟩, ⟨by (with_reducible repeat (first | refine blk_drewN ?_ _ | refine blk_drew ?_ | refine blk_alloc ?_ _)); exact BK289.out⟩, ⟨by (with_reducible repeat (first | refine blk_drewN ?_ _ | refine blk_drew ?_ | refine blk_alloc ?_ _)); exact BK299.out⟩, ⟨by repeat (first | (with_reducible first | exact HB.out | apply below_alloc | apply pw_below_drewN | apply below_drew1 | refine below_set ?_ GE289.out | refine below_set ?_ GE299.out) | exact HB.out)⟩⟩
              case round =>
                clear H'
                try clear c1
                try clear c2
                try clear p2
                try clear c3
                try clear c8
                try clear c10
                try clear c21
                try clear c28
                try clear c31
                try clear c31b0
                try clear c31b1
                try clear c31b2
                try clear c32
                try clear c35
                try clear c38
                try clear hcz11_0
                try clear hcz11_1
                try clear hcz13_0
                try clear hcz13_1
                try clear hcz15_0
                try clear hcz15_1
                try clear hcz17_0
                try clear hcz17_1
                try clear hcz19_0
                try clear hcz19_1
                try clear hcz24_0
                try clear hcz24_1
                try clear hcz29_0
                try clear hcz29_1
                try clear hcz33_0
                try clear hcz33_1
                try clear hcz34_0
                try clear hcz34_1
                try clear hcz36_0
                try clear hcz36_1
                try clear hcz37_0
                try clear hcz37_1
                try clear hfz11_0
                try clear hfz11_1
                try clear hfz13_0
                try clear hfz13_1
                try clear hfz15_0
                try clear hfz15_1
                try clear hfz17_0
                try clear hfz17_1
                try clear hfz19_0
                try clear hfz19_1
                try clear hfz24_0
                try clear hfz24_1
                try clear hfz29_0
                try clear hfz29_1
                try clear hfz33_0
                try clear hfz33_1
                try clear hfz34_0
                try clear hfz34_1
                try clear hfz36_0
                try clear hfz36_1
                try clear hfz37_0
                try clear hfz37_1
                try clear p2
                obtain ⟨x7_3, rfl, HA, HK3, HO_300000, HO_300001, BK289, BK299, HB⟩ := hrel
                cases gk with
                | zero => exact absurd HA.out (by simp [wageofficelaw42_DiskTearing.l0])
                | succ k3 =>
                  have H := HA.out
                  clear HA
                  simp only [wageofficelaw42_DiskTearing.l0] at H
                  by_cases c39 : x7_3 < (l0_0.length : Int)
                  · rw [if_pos c39] at H
                    have c39b0 : decide (x7_3 < (l0_0.length : Int)) = true := decide_eq_true c39
                    clear c39
                    by_cases c40 : 0 ≤ x7_3
                    · rw [if_pos c40] at H
                      have c40b0 : decide (0 ≤ x7_3) = true := decide_eq_true c40
                      clear c40
                      by_cases c41 : x7_3 < (t293.length : Int)
                      · rw [if_pos c41] at H
                        have c41b0 : decide (x7_3 < (t293.length : Int)) = true := decide_eq_true c41
                        clear c41
                        have H' := Aside0.mk H
                        clear H
                        have hnb42 := NB289_299.out
                        have hnc42 := NB299_289.out
                        have hcz43_0 : wr.cell? ⟨gb289, 0, none⟩ = some (.slice A0_0 l0_0.length c0_0) := (blk_cell BK289.out 0).trans rfl
                        have hcz43_1 : wr.cell? ⟨gb289, 1, none⟩ = some (.slice A0_1 l0_1.length c0_1) := (blk_cell BK289.out 1).trans rfl
                        have hfz43_0 := blk_frozen BK289.out 0
                        have hfz43_1 := blk_frozen BK289.out 1
                        have hcz44_0 : wr.cell? ⟨gb299, 0, none⟩ = some (.slice Ao27 t293.length co27) := (blk_cell BK299.out 0).trans rfl
                        have hcz44_1 : wr.cell? ⟨gb299, 1, none⟩ = some (.slice Ao30 t296.length co30) := (blk_cell BK299.out 1).trans rfl
                        have hfz44_0 := blk_frozen BK299.out 0
                        have hfz44_1 := blk_frozen BK299.out 1
                        have p300 : 0 ≤ (x7_3 : Int) := of_decide_eq_true (by first | (with_reducible assumption) | assumption)
                        have q300 : x7_3 < (t293.length : Int) := of_decide_eq_true (by first | (with_reducible assumption) | assumption)
                        obtain ⟨ad300, e300, hx300_0⟩ := Kd.at_int (Kd.R_reads' HO_300000.out).2.2 x7_3 p300 q300
                        cases e300
                        replace p300 := eq_true p300
                        replace q300 := eq_true q300
                        have p301 : 0 ≤ (x7_3 : Int) := of_decide_eq_true (by first | (with_reducible assumption) | assumption)
                        have q301 : x7_3 < (l0_0.length : Int) := of_decide_eq_true (by first | (with_reducible assumption) | assumption)
                        obtain ⟨ad301, e301, hx301_0⟩ := Kd.at_int HR0_0.out x7_3 p301 q301
                        cases e301
                        replace hx301_0 := (HB.out.cell (World.block_lt_of_cell? w _ hx301_0)).trans hx301_0
                        replace p301 := eq_true p301
                        replace q301 := eq_true q301
                        go_wp2
                        repeat (go_quiet (fail); try go_wp2)
                        go_loopg [8, 9] k3 (fun kq v8 v9 w' => ∃ (x8_4 : Bool) (x9_4 : Int), v8 = .bool x8_4 ∧ v9 = .int .i64 x9_4 ∧ Aside0 (wageofficelaw42_DiskTearing.l1 kq t290 x7_3 x8_4 x9_4 l0_0 l0_1 t293 t296 = some r) ∧ Aside0 (kq ≤ k3) ∧ Aside0 (Kd.R (Kd.int .u8) 5 w' w.heap.size (fun _ => True) (.slice (some ad300) t293.length co27) t293) ∧ Aside0 (Kd.S k45 45 w' w.heap.size (fun k_ => some k_ ≠ ((.slice (some ad300) t293.length co27) : Value).ownBlock) (.slice Ao30 t296.length co30) t296) ∧ Aside0 (w'.heap[gb289]? = some (.cells #[(.slice (some ad301) l0_0.length c0_0), (.slice A0_1 l0_1.length c0_1)] 25 (0, 0))) ∧ Aside0 (w'.heap[gb299]? = some (.cells #[(.slice (some ad300) t293.length co27), (.slice Ao30 t296.length co30)] 25 (0, 0))) ∧ Aside0 (Below w.heap.size w w'))
                        case atStart => exact ⟨(((rd t293 x7_3) == (rd l0_0 x7_3))), (0), (by first | rfl | (simp; done) | (simp [*]; done)), (by first | rfl | (simp; done) | (simp [*]; done)), H', ⟨Nat.le_refl _⟩, ⟨by (with_reducible repeat (first | apply Kd.R_alloc | apply Kd.R_drewN | apply Kd.R_drew)); exact HO_300000.out⟩, ⟨by (with_reducible repeat (first | apply Kd.S_alloc | apply Kd.S_drewN | apply Kd.S_drew)); exact HO_300001.out⟩, ⟨by (with_reducible repeat (first | refine blk_drewN ?_ _ | refine blk_drew ?_ | refine blk_alloc ?_ _)); exact BK289.out⟩, ⟨by (with_reducible repeat (first | refine blk_drewN ?_ _ | refine blk_drew ?_ | refine blk_alloc ?_ _)); exact BK299.out⟩, ⟨by repeat (first | (with_reducible first | exact HB.out | apply below_alloc | apply pw_below_drewN | apply below_drew1 | refine below_set ?_ GE289.out | refine below_set ?_ GE299.out) | exact HB.out)⟩⟩
                        case round =>
                          clear H'
                          try clear c1
                          try clear c2
                          try clear p2
                          try clear c3
                          try clear p3
                          try clear q3
                          try clear hx3
                          try clear c4
                          try clear c8
                          try clear c10
                          try clear c21
                          try clear c28
                          try clear p30
                          try clear q30
                          try clear hx30
                          try clear c31
                          try clear c31b0
                          try clear c31b1
                          try clear c31b2
                          try clear c32
                          try clear c35
                          try clear c38
                          try clear c39
                          try clear c39b0
                          try clear c40
                          try clear c40b0
                          try clear c41
                          try clear c41b0
                          try clear c42
                          try clear hcz11_0
                          try clear hcz11_1
                          try clear hcz13_0
                          try clear hcz13_1
                          try clear hcz15_0
                          try clear hcz15_1
                          try clear hcz17_0
                          try clear hcz17_1
                          try clear hcz19_0
                          try clear hcz19_1
                          try clear hcz24_0
                          try clear hcz24_1
                          try clear hcz29_0
                          try clear hcz29_1
                          try clear hcz33_0
                          try clear hcz33_1
                          try clear hcz34_0
                          try clear hcz34_1
                          try clear hcz36_0
                          try clear hcz36_1
                          try clear hcz37_0
                          try clear hcz37_1
                          try clear hcz43_0
                          try clear hcz43_1
                          try clear hcz44_0
                          try clear hcz44_1
                          try clear hfz11_0
                          try clear hfz11_1
                          try clear hfz13_0
                          try clear hfz13_1
                          try clear hfz15_0
                          try clear hfz15_1
                          try clear hfz17_0
                          try clear hfz17_1
                          try clear hfz19_0
                          try clear hfz19_1
                          try clear hfz24_0
                          try clear hfz24_1
                          try clear hfz29_0
                          try clear hfz29_1
                          try clear hfz33_0
                          try clear hfz33_1
                          try clear hfz34_0
                          try clear hfz34_1
                          try clear hfz36_0
                          try clear hfz36_1
                          try clear hfz37_0
                          try clear hfz37_1
                          try clear hfz43_0
                          try clear hfz43_1
                          try clear hfz44_0
                          try clear hfz44_1
                          try clear hx300_0
                          try clear hx301_0
                          try clear p2
                          try clear p300
                          try clear p301
                          try clear q300
                          try clear q301
                          obtain ⟨x8_4, x9_4, rfl, rfl, HA, HK4, HO_300000, HO_300001, BK289, BK299, HB⟩ := hrel
                          cases gk with
                          | zero => exact absurd HA.out (by simp [wageofficelaw42_DiskTearing.l1])
                          | succ k4 =>
                            have H := HA.out
                            clear HA
                            simp only [wageofficelaw42_DiskTearing.l1] at H
                            by_cases c45 : x9_4 < (l0_1.length : Int)
                            · rw [if_pos c45] at H
                              have c45b0 : decide (x9_4 < (l0_1.length : Int)) = true := decide_eq_true c45
                              clear c45
                              by_cases c46 : 0 ≤ x9_4
                              · rw [if_pos c46] at H
                                have c46b0 : decide (0 ≤ x9_4) = true := decide_eq_true c46
                                clear c46
                                by_cases c47 : x8_4 = true
                                · subst c47
                                  have H1 : (wageofficelaw42_DiskTearing.l1 k4 t290 x7_3 true (wrap64 (x9_4 + 1)) l0_0 l0_1 t293 t296) = some r := by rw [if_pos rfl] at H; exact H
                                  clear H
                                  have H := H1
                                  clear H1
                                  have H' := Aside0.mk H
                                  clear H
                                  have hnb48 := NB289_299.out
                                  have hnc48 := NB299_289.out
                                  have hcz49_0 : wr.cell? ⟨gb289, 0, none⟩ = some (.slice (some ad301) l0_0.length c0_0) := (blk_cell BK289.out 0).trans rfl
                                  have hcz49_1 : wr.cell? ⟨gb289, 1, none⟩ = some (.slice A0_1 l0_1.length c0_1) := (blk_cell BK289.out 1).trans rfl
                                  have hfz49_0 := blk_frozen BK289.out 0
                                  have hfz49_1 := blk_frozen BK289.out 1
                                  have p302 : 0 ≤ (x9_4 : Int) := of_decide_eq_true (by first | (with_reducible assumption) | assumption)
                                  have q302 : x9_4 < (l0_1.length : Int) := of_decide_eq_true (by first | (with_reducible assumption) | assumption)
                                  obtain ⟨ad302, A302_1, c302_1, e302, hx302_0, hx302_1, hl302_1, hi302_1⟩ := at_T45 HR0_1.out x9_4 p302 q302
                                  cases e302
                                  replace hx302_0 := (HB.out.cell (World.block_lt_of_cell? w _ hx302_0)).trans hx302_0
                                  replace hx302_1 := (HB.out.cell (World.block_lt_of_cell? w _ hx302_1)).trans hx302_1
                                  have HR302_1 := Aside0.mk hi302_1
                                  have HC302_1 := Aside0.mk hl302_1
                                  clear hi302_1 hl302_1
                                  replace p302 := eq_true p302
                                  replace q302 := eq_true q302
                                  go_wp2_with (first | ((with_reducible refine gate_dst (N := 10) rfl ?_); (try (refine gate_guard (by rfl) ?_; dsimp only)); refine box_event ?hg (N := 10) ?hd (cs := #[.int .i64 0, .slice none 0 0]) (t := 45) ?hr ?_; (case hd => rfl); (case hg => rfl); (case hr => first | (go_simp; done) | (go_simp; rfl)); intro gb303 hg w50 hbox hb; have n0_ := Aside0.mk (Kd.R_below (by (with_reducible repeat (first | apply Kd.R_alloc | apply Kd.R_drewN | apply Kd.R_drew)); exact HO_300000.out) hb); have n1_ := Aside0.mk (Kd.S_below (Kd.S_elderB (by (with_reducible repeat (first | apply Kd.S_alloc | apply Kd.S_drewN | apply Kd.S_drew)); exact HO_300001.out) gb303 (Nat.le_of_eq hg.symm)) hb); have n2_ := Aside0.mk (blk_below (g := gb289) (o := .cells #[.slice (some ad301) l0_0.length c0_0, .slice (some ad302) l0_1.length c0_1] 25 (0, 0)) (by (with_reducible repeat (first | refine blk_drewN ?_ _ | refine blk_drew ?_ | refine blk_alloc ?_ _)); exact BK289.out) hb); have n3_ := Aside0.mk (blk_below (g := gb299) (o := .cells #[.slice (some ad300) t293.length co27, .slice Ao30 t296.length co30] 25 (0, 0)) (by (with_reducible repeat (first | refine blk_drewN ?_ _ | refine blk_drew ?_ | refine blk_alloc ?_ _)); exact BK299.out) hb); have n4_ := Aside0.mk (below_step (by repeat (first | (with_reducible first | exact HB.out | apply below_alloc | apply pw_below_drewN | apply below_drew1 | refine below_set ?_ GE289.out | refine below_set ?_ GE299.out) | exact HB.out)) hb); have n5_ := Aside0.mk (hbox); have n6_ := Aside0.mk ((by rw [hg]; exact (below_size (by repeat (first | (with_reducible first | exact HB.out | apply below_alloc | apply pw_below_drewN | apply below_drew1 | refine below_set ?_ GE289.out | refine below_set ?_ GE299.out) | exact HB.out))) : w.heap.size ≤ gb303)); have n7_ := Aside0.mk ((by rw [hg]; exact (below_size (by repeat (first | (with_reducible first | exact HB.out | apply below_alloc | apply pw_below_drewN | apply below_drew1 | refine below_set ?_ GE289.out | refine below_set ?_ GE299.out) | exact HB.out))) : w.heap.size ≤ gb303)); have n8_ := Aside0.mk ((by rw [hg]; exact Nat.ne_of_lt (blk_lt (g := gb289) (o := .cells #[.slice (some ad301) l0_0.length c0_0, .slice (some ad302) l0_1.length c0_1] 25 (0, 0)) (by (with_reducible repeat (first | refine blk_drewN ?_ _ | refine blk_drew ?_ | refine blk_alloc ?_ _)); exact BK289.out)) : gb289 ≠ gb303)); have n9_ := Aside0.mk ((by rw [hg]; exact Nat.ne_of_gt (blk_lt (g := gb289) (o := .cells #[.slice (some ad301) l0_0.length c0_0, .slice (some ad302) l0_1.length c0_1] 25 (0, 0)) (by (with_reducible repeat (first | refine blk_drewN ?_ _ | refine blk_drew ?_ | refine blk_alloc ?_ _)); exact BK289.out)) : gb303 ≠ gb289)); have n10_ := Aside0.mk ((by rw [hg]; exact Nat.ne_of_lt (blk_lt (g := gb299) (o := .cells #[.slice (some ad300) t293.length co27, .slice Ao30 t296.length co30] 25 (0, 0)) (by (with_reducible repeat (first | refine blk_drewN ?_ _ | refine blk_drew ?_ | refine blk_alloc ?_ _)); exact BK299.out)) : gb299 ≠ gb303)); have n11_ := Aside0.mk ((by rw [hg]; exact Nat.ne_of_gt (blk_lt (g := gb299) (o := .cells #[.slice (some ad300) t293.length co27, .slice Ao30 t296.length co30] 25 (0, 0)) (by (with_reducible repeat (first | refine blk_drewN ?_ _ | refine blk_drew ?_ | refine blk_alloc ?_ _)); exact BK299.out)) : gb303 ≠ gb299)); clear HO_300000; clear HO_300001; clear BK289; clear BK299; clear HB; have HO_300000 := n0_; have HO_300001 := n1_; have BK289 := n2_; have BK299 := n3_; have HB := n4_; have BK303 := n5_; have GW303 := n6_; have GE303 := n7_; have NB289_303 := n8_; have NB303_289 := n9_; have NB299_303 := n10_; have NB303_299 := n11_; clear n0_ n1_ n2_ n3_ n4_ n5_ n6_ n7_ n8_ n9_ n10_ n11_; clear hb hbox hg; have hnb51 := NB303_289.out; have hnc51 := NB289_303.out; have hnb52 := NB303_299.out; have hnc52 := NB299_303.out; have hcz53_0 : w50.cell? ⟨gb303, 0, none⟩ = some (.int .i64 0) := (blk_cell BK303.out 0).trans rfl; have hcz53_1 : w50.cell? ⟨gb303, 1, none⟩ = some (.slice none 0 0) := (blk_cell BK303.out 1).trans rfl; have hfz53_0 := blk_frozen BK303.out 0; have hfz53_1 := blk_frozen BK303.out 1))
                                  repeat (go_quiet (first | ((with_reducible refine gate_dst (N := 10) rfl ?_); (try (refine gate_guard (by rfl) ?_; dsimp only)); refine box_event ?hg (N := 10) ?hd (cs := #[.int .i64 0, .slice none 0 0]) (t := 45) ?hr ?_; (case hd => rfl); (case hg => rfl); (case hr => first | (go_simp; done) | (go_simp; rfl)); intro gb303 hg w50 hbox hb; have n0_ := Aside0.mk (Kd.R_below (by (with_reducible repeat (first | apply Kd.R_alloc | apply Kd.R_drewN | apply Kd.R_drew)); exact HO_300000.out) hb); have n1_ := Aside0.mk (Kd.S_below (Kd.S_elderB (by (with_reducible repeat (first | apply Kd.S_alloc | apply Kd.S_drewN | apply Kd.S_drew)); exact HO_300001.out) gb303 (Nat.le_of_eq hg.symm)) hb); have n2_ := Aside0.mk (blk_below (g := gb289) (o := .cells #[.slice (some ad301) l0_0.length c0_0, .slice (some ad302) l0_1.length c0_1] 25 (0, 0)) (by (with_reducible repeat (first | refine blk_drewN ?_ _ | refine blk_drew ?_ | refine blk_alloc ?_ _)); exact BK289.out) hb); have n3_ := Aside0.mk (blk_below (g := gb299) (o := .cells #[.slice (some ad300) t293.length co27, .slice Ao30 t296.length co30] 25 (0, 0)) (by (with_reducible repeat (first | refine blk_drewN ?_ _ | refine blk_drew ?_ | refine blk_alloc ?_ _)); exact BK299.out) hb); have n4_ := Aside0.mk (below_step (by repeat (first | (with_reducible first | exact HB.out | apply below_alloc | apply pw_below_drewN | apply below_drew1 | refine below_set ?_ GE289.out | refine below_set ?_ GE299.out) | exact HB.out)) hb); have n5_ := Aside0.mk (hbox); have n6_ := Aside0.mk ((by rw [hg]; exact (below_size (by repeat (first | (with_reducible first | exact HB.out | apply below_alloc | apply pw_below_drewN | apply below_drew1 | refine below_set ?_ GE289.out | refine below_set ?_ GE299.out) | exact HB.out))) : w.heap.size ≤ gb303)); have n7_ := Aside0.mk ((by rw [hg]; exact (below_size (by repeat (first | (with_reducible first | exact HB.out | apply below_alloc | apply pw_below_drewN | apply below_drew1 | refine below_set ?_ GE289.out | refine below_set ?_ GE299.out) | exact HB.out))) : w.heap.size ≤ gb303)); have n8_ := Aside0.mk ((by rw [hg]; exact Nat.ne_of_lt (blk_lt (g := gb289) (o := .cells #[.slice (some ad301) l0_0.length c0_0, .slice (some ad302) l0_1.length c0_1] 25 (0, 0)) (by (with_reducible repeat (first | refine blk_drewN ?_ _ | refine blk_drew ?_ | refine blk_alloc ?_ _)); exact BK289.out)) : gb289 ≠ gb303)); have n9_ := Aside0.mk ((by rw [hg]; exact Nat.ne_of_gt (blk_lt (g := gb289) (o := .cells #[.slice (some ad301) l0_0.length c0_0, .slice (some ad302) l0_1.length c0_1] 25 (0, 0)) (by (with_reducible repeat (first | refine blk_drewN ?_ _ | refine blk_drew ?_ | refine blk_alloc ?_ _)); exact BK289.out)) : gb303 ≠ gb289)); have n10_ := Aside0.mk ((by rw [hg]; exact Nat.ne_of_lt (blk_lt (g := gb299) (o := .cells #[.slice (some ad300) t293.length co27, .slice Ao30 t296.length co30] 25 (0, 0)) (by (with_reducible repeat (first | refine blk_drewN ?_ _ | refine blk_drew ?_ | refine blk_alloc ?_ _)); exact BK299.out)) : gb299 ≠ gb303)); have n11_ := Aside0.mk ((by rw [hg]; exact Nat.ne_of_gt (blk_lt (g := gb299) (o := .cells #[.slice (some ad300) t293.length co27, .slice Ao30 t296.length co30] 25 (0, 0)) (by (with_reducible repeat (first | refine blk_drewN ?_ _ | refine blk_drew ?_ | refine blk_alloc ?_ _)); exact BK299.out)) : gb303 ≠ gb299)); clear HO_300000; clear HO_300001; clear BK289; clear BK299; clear HB; have HO_300000 := n0_; have HO_300001 := n1_; have BK289 := n2_; have BK299 := n3_; have HB := n4_; have BK303 := n5_; have GW303 := n6_; have GE303 := n7_; have NB289_303 := n8_; have NB303_289 := n9_; have NB299_303 := n10_; have NB303_299 := n11_; clear n0_ n1_ n2_ n3_ n4_ n5_ n6_ n7_ n8_ n9_ n10_ n11_; clear hb hbox hg; have hnb51 := NB303_289.out; have hnc51 := NB289_303.out; have hnb52 := NB303_299.out; have hnc52 := NB299_303.out; have hcz53_0 : w50.cell? ⟨gb303, 0, none⟩ = some (.int .i64 0) := (blk_cell BK303.out 0).trans rfl; have hcz53_1 : w50.cell? ⟨gb303, 1, none⟩ = some (.slice none 0 0) := (blk_cell BK303.out 1).trans rfl; have hfz53_0 := blk_frozen BK303.out 0; have hfz53_1 := blk_frozen BK303.out 1)); try go_wp2_with (first | ((with_reducible refine gate_dst (N := 10) rfl ?_); (try (refine gate_guard (by rfl) ?_; dsimp only)); refine box_event ?hg (N := 10) ?hd (cs := #[.int .i64 0, .slice none 0 0]) (t := 45) ?hr ?_; (case hd => rfl); (case hg => rfl); (case hr => first | (go_simp; done) | (go_simp; rfl)); intro gb303 hg w50 hbox hb; have n0_ := Aside0.mk (Kd.R_below (by (with_reducible repeat (first | apply Kd.R_alloc | apply Kd.R_drewN | apply Kd.R_drew)); exact HO_300000.out) hb); have n1_ := Aside0.mk (Kd.S_below (Kd.S_elderB (by (with_reducible repeat (first | apply Kd.S_alloc | apply Kd.S_drewN | apply Kd.S_drew)); exact HO_300001.out) gb303 (Nat.le_of_eq hg.symm)) hb); have n2_ := Aside0.mk (blk_below (g := gb289) (o := .cells #[.slice (some ad301) l0_0.length c0_0, .slice (some ad302) l0_1.length c0_1] 25 (0, 0)) (by (with_reducible repeat (first | refine blk_drewN ?_ _ | refine blk_drew ?_ | refine blk_alloc ?_ _)); exact BK289.out) hb); have n3_ := Aside0.mk (blk_below (g := gb299) (o := .cells #[.slice (some ad300) t293.length co27, .slice Ao30 t296.length co30] 25 (0, 0)) (by (with_reducible repeat (first | refine blk_drewN ?_ _ | refine blk_drew ?_ | refine blk_alloc ?_ _)); exact BK299.out) hb); have n4_ := Aside0.mk (below_step (by repeat (first | (with_reducible first | exact HB.out | apply below_alloc | apply pw_below_drewN | apply below_drew1 | refine below_set ?_ GE289.out | refine below_set ?_ GE299.out) | exact HB.out)) hb); have n5_ := Aside0.mk (hbox); have n6_ := Aside0.mk ((by rw [hg]; exact (below_size (by repeat (first | (with_reducible first | exact HB.out | apply below_alloc | apply pw_below_drewN | apply below_drew1 | refine below_set ?_ GE289.out | refine below_set ?_ GE299.out) | exact HB.out))) : w.heap.size ≤ gb303)); have n7_ := Aside0.mk ((by rw [hg]; exact (below_size (by repeat (first | (with_reducible first | exact HB.out | apply below_alloc | apply pw_below_drewN | apply below_drew1 | refine below_set ?_ GE289.out | refine below_set ?_ GE299.out) | exact HB.out))) : w.heap.size ≤ gb303)); have n8_ := Aside0.mk ((by rw [hg]; exact Nat.ne_of_lt (blk_lt (g := gb289) (o := .cells #[.slice (some ad301) l0_0.length c0_0, .slice (some ad302) l0_1.length c0_1] 25 (0, 0)) (by (with_reducible repeat (first | refine blk_drewN ?_ _ | refine blk_drew ?_ | refine blk_alloc ?_ _)); exact BK289.out)) : gb289 ≠ gb303)); have n9_ := Aside0.mk ((by rw [hg]; exact Nat.ne_of_gt (blk_lt (g := gb289) (o := .cells #[.slice (some ad301) l0_0.length c0_0, .slice (some ad302) l0_1.length c0_1] 25 (0, 0)) (by (with_reducible repeat (first | refine blk_drewN ?_ _ | refine blk_drew ?_ | refine blk_alloc ?_ _)); exact BK289.out)) : gb303 ≠ gb289)); have n10_ := Aside0.mk ((by rw [hg]; exact Nat.ne_of_lt (blk_lt (g := gb299) (o := .cells #[.slice (some ad300) t293.length co27, .slice Ao30 t296.length co30] 25 (0, 0)) (by (with_reducible repeat (first | refine blk_drewN ?_ _ | refine blk_drew ?_ | refine blk_alloc ?_ _)); exact BK299.out)) : gb299 ≠ gb303)); have n11_ := Aside0.mk ((by rw [hg]; exact Nat.ne_of_gt (blk_lt (g := gb299) (o := .cells #[.slice (some ad300) t293.length co27, .slice Ao30 t296.length co30] 25 (0, 0)) (by (with_reducible repeat (first | refine blk_drewN ?_ _ | refine blk_drew ?_ | refine blk_alloc ?_ _)); exact BK299.out)) : gb303 ≠ gb299)); clear HO_300000; clear HO_300001; clear BK289; clear BK299; clear HB; have HO_300000 := n0_; have HO_300001 := n1_; have BK289 := n2_; have BK299 := n3_; have HB := n4_; have BK303 := n5_; have GW303 := n6_; have GE303 := n7_; have NB289_303 := n8_; have NB303_289 := n9_; have NB299_303 := n10_; have NB303_299 := n11_; clear n0_ n1_ n2_ n3_ n4_ n5_ n6_ n7_ n8_ n9_ n10_ n11_; clear hb hbox hg; have hnb51 := NB303_289.out; have hnc51 := NB289_303.out; have hnb52 := NB303_299.out; have hnc52 := NB299_303.out; have hcz53_0 : w50.cell? ⟨gb303, 0, none⟩ = some (.int .i64 0) := (blk_cell BK303.out 0).trans rfl; have hcz53_1 : w50.cell? ⟨gb303, 1, none⟩ = some (.slice none 0 0) := (blk_cell BK303.out 1).trans rfl; have hfz53_0 := blk_frozen BK303.out 0; have hfz53_1 := blk_frozen BK303.out 1)))
                                  go_roundg k4
                                  case measure => have := HJ3.out; have := HJ22.out; have := HK3.out; have := HK4.out; omega
                                  case rel => exact ⟨(true), (wrap64 (x9_4 + 1)), (by first | rfl | (simp; done) | (simp [*]; done)), (by first | rfl | (simp; done) | (simp [*]; done)), H', ⟨by have := HJ3.out; have := HJ22.out; have := HK3.out; have := HK4.out; omega⟩, ⟨by (with_reducible repeat (first | apply Kd.R_alloc | apply Kd.R_drewN | apply Kd.R_drew)); exact Kd.R_mono (Kd.R_far (p := ⟨gb303, 1, none⟩) (Kd.R_far (p := ⟨gb303, 0, none⟩) (Kd.R_types HO_300000.out BK303.out (by decide)) (fun _ hk => hk.2) (.int .i64 ((rd_T45 l0_1 x9_4).f0))) (fun _ hk => hk.2) (.slice A302_1 ((rd_T45 l0_1 x9_4).f1).length c302_1)) (fun _ hk => trivial)⟩, ⟨by (with_reducible repeat (first | apply Kd.S_alloc | apply Kd.S_drewN | apply Kd.S_drew)); exact Kd.S_mono (Kd.S_far (p := ⟨gb303, 1, none⟩) (Kd.S_far (p := ⟨gb303, 0, none⟩) (Kd.S_mono HO_300001.out (fun k_ hk => (⟨hk, hk.2⟩ : _ ∧ k_ ≠ gb303))) (fun _ hk => hk.2) (.int .i64 ((rd_T45 l0_1 x9_4).f0))) (fun _ hk => hk.2) (.slice A302_1 ((rd_T45 l0_1 x9_4).f1).length c302_1)) (fun _ hk => hk.1.1)⟩, ⟨by (with_reducible repeat (first | refine blk_drewN ?_ _ | refine blk_drew ?_ | refine blk_alloc ?_ _)); refine blk_far ?_ NB289_303.out _; (with_reducible repeat (first | refine blk_drewN ?_ _ | refine blk_drew ?_ | refine blk_alloc ?_ _)); refine blk_far ?_ NB289_303.out _; (with_reducible repeat (first | refine blk_drewN ?_ _ | refine blk_drew ?_ | refine blk_alloc ?_ _)); exact BK289.out⟩, ⟨by (with_reducible repeat (first | refine blk_drewN ?_ _ | refine blk_drew ?_ | refine blk_alloc ?_ _)); refine blk_far ?_ NB299_303.out _; (with_reducible repeat (first | refine blk_drewN ?_ _ | refine blk_drew ?_ | refine blk_alloc ?_ _)); refine blk_far ?_ NB299_303.out _; (with_reducible repeat (first | refine blk_drewN ?_ _ | refine blk_drew ?_ | refine blk_alloc ?_ _)); exact BK299.out⟩, ⟨by repeat (first | (with_reducible first | exact HB.out | apply below_alloc | apply pw_below_drewN | apply below_drew1 | refine below_set ?_ GE289.out | refine below_set ?_ GE299.out | refine below_set ?_ GE303.out) | exact HB.out)⟩⟩
                                · replace c47 := Bool.eq_false_iff.mpr c47
                                  subst c47
                                  have H1 : (if x7_3 ≥ ((rd_T45 l0_1 x9_4).f0) then (if x7_3 < (wrap64 (((rd_T45 l0_1 x9_4).f0) + (((rd_T45 l0_1 x9_4).f1).length : Int))) then (if 0 ≤ (wrap64 (x7_3 - ((rd_T45 l0_1 x9_4).f0))) then (if (wrap64 (x7_3 - ((rd_T45 l0_1 x9_4).f0))) < (((rd_T45 l0_1 x9_4).f1).length : Int) then (if 0 ≤ x7_3 then (if x7_3 < (t293.length : Int) then (wageofficelaw42_DiskTearing.l1 k4 t290 x7_3 ((rd ((rd_T45 l0_1 x9_4).f1) (wrap64 (x7_3 - ((rd_T45 l0_1 x9_4).f0)))) == (rd t293 x7_3)) (wrap64 (x9_4 + 1)) l0_0 l0_1 t293 t296) else (none)) else (none)) else (none)) else (none)) else (wageofficelaw42_DiskTearing.l1 k4 t290 x7_3 false (wrap64 (x9_4 + 1)) l0_0 l0_1 t293 t296)) else (wageofficelaw42_DiskTearing.l1 k4 t290 x7_3 false (wrap64 (x9_4 + 1)) l0_0 l0_1 t293 t296)) = some r := by rw [if_neg (show ¬ (false = true) by decide)] at H; exact H
                                  clear H
                                  have H := H1
                                  clear H1
                                  by_cases c54 : x7_3 ≥ ((rd_T45 l0_1 x9_4).f0)
                                  · rw [if_pos c54] at H
                                    have c54b0 : decide (((rd_T45 l0_1 x9_4).f0) ≤ x7_3) = true := decide_eq_true c54
                                    clear c54
                                    by_cases c55 : x7_3 < (wrap64 (((rd_T45 l0_1 x9_4).f0) + (((rd_T45 l0_1 x9_4).f1).length : Int)))
                                    · rw [if_pos c55] at H
                                      have c55b0 : decide (x7_3 < (wrap64 (((rd_T45 l0_1 x9_4).f0) + (((rd_T45 l0_1 x9_4).f1).length : Int)))) = true := decide_eq_true c55
                                      clear c55
                                      obtain ⟨ji56, hji56⟩ : ∃ j_ : Int, (wrap64 (x7_3 - ((rd_T45 l0_1 x9_4).f0))) = j_ := ⟨_, rfl⟩
                                      replace H : (if 0 ≤ (ji56) then (if (ji56) < (((rd_T45 l0_1 x9_4).f1).length : Int) then (if 0 ≤ x7_3 then (if x7_3 < (t293.length : Int) then (wageofficelaw42_DiskTearing.l1 k4 t290 x7_3 ((rd ((rd_T45 l0_1 x9_4).f1) (ji56)) == (rd t293 x7_3)) (wrap64 (x9_4 + 1)) l0_0 l0_1 t293 t296) else (none)) else (none)) else (none)) else (none)) = some r := by first | (rw [hji56] at H; exact H) | (simp only [hji56] at H ⊢; exact H)
                                      have hji56w : (IntKind.i64.wrap (x7_3 - ((rd_T45 l0_1 x9_4).f0))) = ji56 := (i64_w _).trans hji56
                                      by_cases c57 : 0 ≤ (ji56)
                                      · rw [if_pos c57] at H
                                        have c57b0 : decide (0 ≤ (ji56)) = true := decide_eq_true c57
                                        clear c57
                                        by_cases c58 : (ji56) < (((rd_T45 l0_1 x9_4).f1).length : Int)
                                        · rw [if_pos c58] at H
                                          have c58b0 : decide ((ji56) < (((rd_T45 l0_1 x9_4).f1).length : Int)) = true := decide_eq_true c58
                                          clear c58
                                          by_cases c59 : 0 ≤ x7_3
                                          · rw [if_pos c59] at H
                                            have c59b0 : decide (0 ≤ x7_3) = true := decide_eq_true c59
                                            clear c59
                                            by_cases c60 : x7_3 < (t293.length : Int)
                                            · rw [if_pos c60] at H
                                              have c60b0 : decide (x7_3 < (t293.length : Int)) = true := decide_eq_true c60
                                              clear c60
                                              have H' := Aside0.mk H
                                              clear H
                                              have hnb61 := NB289_299.out
                                              have hnc61 := NB299_289.out
                                              have hcz62_0 : wr.cell? ⟨gb289, 0, none⟩ = some (.slice (some ad301) l0_0.length c0_0) := (blk_cell BK289.out 0).trans rfl
                                              have hcz62_1 : wr.cell? ⟨gb289, 1, none⟩ = some (.slice A0_1 l0_1.length c0_1) := (blk_cell BK289.out 1).trans rfl
                                              have hfz62_0 := blk_frozen BK289.out 0
                                              have hfz62_1 := blk_frozen BK289.out 1
                                              have p302 : 0 ≤ (x9_4 : Int) := of_decide_eq_true (by first | (with_reducible assumption) | assumption)
                                              have q302 : x9_4 < (l0_1.length : Int) := of_decide_eq_true (by first | (with_reducible assumption) | assumption)
                                              obtain ⟨ad302, A302_1, c302_1, e302, hx302_0, hx302_1, hl302_1, hi302_1⟩ := at_T45 HR0_1.out x9_4 p302 q302
                                              cases e302
                                              replace hx302_0 := (HB.out.cell (World.block_lt_of_cell? w _ hx302_0)).trans hx302_0
                                              replace hx302_1 := (HB.out.cell (World.block_lt_of_cell? w _ hx302_1)).trans hx302_1
                                              have HR302_1 := Aside0.mk hi302_1
                                              have HC302_1 := Aside0.mk hl302_1
                                              clear hi302_1 hl302_1
                                              replace p302 := eq_true p302
                                              replace q302 := eq_true q302
                                              go_wp2_with (first | ((with_reducible refine gate_dst (N := 10) rfl ?_); (try (refine gate_guard (by rfl) ?_; dsimp only)); refine box_event ?hg (N := 10) ?hd (cs := #[.int .i64 0, .slice none 0 0]) (t := 45) ?hr ?_; (case hd => rfl); (case hg => rfl); (case hr => first | (go_simp; done) | (go_simp; rfl)); intro gb303 hg w63 hbox hb; have n0_ := Aside0.mk (Kd.R_below (by (with_reducible repeat (first | apply Kd.R_alloc | apply Kd.R_drewN | apply Kd.R_drew)); exact HO_300000.out) hb); have n1_ := Aside0.mk (Kd.S_below (Kd.S_elderB (by (with_reducible repeat (first | apply Kd.S_alloc | apply Kd.S_drewN | apply Kd.S_drew)); exact HO_300001.out) gb303 (Nat.le_of_eq hg.symm)) hb); have n2_ := Aside0.mk (blk_below (g := gb289) (o := .cells #[.slice (some ad301) l0_0.length c0_0, .slice (some ad302) l0_1.length c0_1] 25 (0, 0)) (by (with_reducible repeat (first | refine blk_drewN ?_ _ | refine blk_drew ?_ | refine blk_alloc ?_ _)); exact BK289.out) hb); have n3_ := Aside0.mk (blk_below (g := gb299) (o := .cells #[.slice (some ad300) t293.length co27, .slice Ao30 t296.length co30] 25 (0, 0)) (by (with_reducible repeat (first | refine blk_drewN ?_ _ | refine blk_drew ?_ | refine blk_alloc ?_ _)); exact BK299.out) hb); have n4_ := Aside0.mk (below_step (by repeat (first | (with_reducible first | exact HB.out | apply below_alloc | apply pw_below_drewN | apply below_drew1 | refine below_set ?_ GE289.out | refine below_set ?_ GE299.out) | exact HB.out)) hb); have n5_ := Aside0.mk (hbox); have n6_ := Aside0.mk ((by rw [hg]; exact (below_size (by repeat (first | (with_reducible first | exact HB.out | apply below_alloc | apply pw_below_drewN | apply below_drew1 | refine below_set ?_ GE289.out | refine below_set ?_ GE299.out) | exact HB.out))) : w.heap.size ≤ gb303)); have n7_ := Aside0.mk ((by rw [hg]; exact (below_size (by repeat (first | (with_reducible first | exact HB.out | apply below_alloc | apply pw_below_drewN | apply below_drew1 | refine below_set ?_ GE289.out | refine below_set ?_ GE299.out) | exact HB.out))) : w.heap.size ≤ gb303)); have n8_ := Aside0.mk ((by rw [hg]; exact Nat.ne_of_lt (blk_lt (g := gb289) (o := .cells #[.slice (some ad301) l0_0.length c0_0, .slice (some ad302) l0_1.length c0_1] 25 (0, 0)) (by (with_reducible repeat (first | refine blk_drewN ?_ _ | refine blk_drew ?_ | refine blk_alloc ?_ _)); exact BK289.out)) : gb289 ≠ gb303)); have n9_ := Aside0.mk ((by rw [hg]; exact Nat.ne_of_gt (blk_lt (g := gb289) (o := .cells #[.slice (some ad301) l0_0.length c0_0, .slice (some ad302) l0_1.length c0_1] 25 (0, 0)) (by (with_reducible repeat (first | refine blk_drewN ?_ _ | refine blk_drew ?_ | refine blk_alloc ?_ _)); exact BK289.out)) : gb303 ≠ gb289)); have n10_ := Aside0.mk ((by rw [hg]; exact Nat.ne_of_lt (blk_lt (g := gb299) (o := .cells #[.slice (some ad300) t293.length co27, .slice Ao30 t296.length co30] 25 (0, 0)) (by (with_reducible repeat (first | refine blk_drewN ?_ _ | refine blk_drew ?_ | refine blk_alloc ?_ _)); exact BK299.out)) : gb299 ≠ gb303)); have n11_ := Aside0.mk ((by rw [hg]; exact Nat.ne_of_gt (blk_lt (g := gb299) (o := .cells #[.slice (some ad300) t293.length co27, .slice Ao30 t296.length co30] 25 (0, 0)) (by (with_reducible repeat (first | refine blk_drewN ?_ _ | refine blk_drew ?_ | refine blk_alloc ?_ _)); exact BK299.out)) : gb303 ≠ gb299)); clear HO_300000; clear HO_300001; clear BK289; clear BK299; clear HB; have HO_300000 := n0_; have HO_300001 := n1_; have BK289 := n2_; have BK299 := n3_; have HB := n4_; have BK303 := n5_; have GW303 := n6_; have GE303 := n7_; have NB289_303 := n8_; have NB303_289 := n9_; have NB299_303 := n10_; have NB303_299 := n11_; clear n0_ n1_ n2_ n3_ n4_ n5_ n6_ n7_ n8_ n9_ n10_ n11_; clear hb hbox hg; have hnb64 := NB303_289.out; have hnc64 := NB289_303.out; have hnb65 := NB303_299.out; have hnc65 := NB299_303.out; have hcz66_0 : w63.cell? ⟨gb303, 0, none⟩ = some (.int .i64 0) := (blk_cell BK303.out 0).trans rfl; have hcz66_1 : w63.cell? ⟨gb303, 1, none⟩ = some (.slice none 0 0) := (blk_cell BK303.out 1).trans rfl; have hfz66_0 := blk_frozen BK303.out 0; have hfz66_1 := blk_frozen BK303.out 1; have p304 : 0 ≤ ((ji56) : Int) := of_decide_eq_true (by first | (with_reducible assumption) | assumption); have q304 : (ji56) < (((rd_T45 l0_1 x9_4).f1).length : Int) := of_decide_eq_true (by first | (with_reducible assumption) | assumption); obtain ⟨ad304, e304, hx304_0⟩ := Kd.at_int HR302_1.out (ji56) p304 q304; cases e304; have hn304_0 : ad304.block ≠ gb303 := Nat.ne_of_lt (Nat.lt_of_lt_of_le (by have := World.block_lt_of_cell? _ _ hx304_0; first | rwa [add_block] at this | exact this) GW303.out); have hn304_1 : ad304.block ≠ gb303 := Nat.ne_of_lt (Nat.lt_of_lt_of_le (by have := World.block_lt_of_cell? _ _ hx304_0; first | rwa [add_block] at this | exact this) GW303.out); replace hx304_0 := (HB.out.cell (World.block_lt_of_cell? w _ hx304_0)).trans hx304_0; replace hx304_0 := (cell_far (p := ⟨gb303, 0, none⟩) (by first | (rw [add_block]; exact hn304_0) | (show (Addr.add _ _).block ≠ _; rw [add_block]; exact hn304_0) | exact hn304_0) (.int .i64 ((rd_T45 l0_1 x9_4).f0))).trans hx304_0; replace hx304_0 := (cell_far (p := ⟨gb303, 1, none⟩) (by first | (rw [add_block]; exact hn304_1) | (show (Addr.add _ _).block ≠ _; rw [add_block]; exact hn304_1) | exact hn304_1) (.slice (some ad304) ((rd_T45 l0_1 x9_4).f1).length c302_1)).trans hx304_0; (try have hy304_0 := fun (n_ : Nat) => (show ((((w63.drewN n_).setCell ⟨gb303, 0, none⟩ (.int .i64 ((rd_T45 l0_1 x9_4).f0))).setCell ⟨gb303, 1, none⟩ (.slice (some ad304) ((rd_T45 l0_1 x9_4).f1).length c302_1))).cell? _ = some _ from hx304_0)); clear hn304_0; clear hn304_1; replace p304 := eq_true p304; replace q304 := eq_true q304; have hcz67_0 : w63.cell? ⟨gb299, 0, none⟩ = some (.slice (some ad300) t293.length co27) := (blk_cell BK299.out 0).trans rfl; have hcz67_1 : w63.cell? ⟨gb299, 1, none⟩ = some (.slice Ao30 t296.length co30) := (blk_cell BK299.out 1).trans rfl; have hfz67_0 := blk_frozen BK299.out 0; have hfz67_1 := blk_frozen BK299.out 1; have p305 : 0 ≤ (x7_3 : Int) := of_decide_eq_true (by first | (with_reducible assumption) | assumption); have q305 : x7_3 < (t293.length : Int) := of_decide_eq_true (by first | (with_reducible assumption) | assumption); obtain ⟨ad305, e305, hx305_0⟩ := Kd.at_int (Kd.R_reads' HO_300000.out).2.2 x7_3 p305 q305; obtain rfl : ad300 = ad305 := (by injection e305); have hn305_0 : ad300.block ≠ gb303 := Kd.own_blk (Kd.R_ne HO_300000.out BK303.out (by decide)); have hn305_1 : ad300.block ≠ gb303 := Kd.own_blk (Kd.R_ne HO_300000.out BK303.out (by decide)); replace hx305_0 := (cell_far (p := ⟨gb303, 0, none⟩) (by first | (rw [add_block]; exact hn305_0) | (show (Addr.add _ _).block ≠ _; rw [add_block]; exact hn305_0) | exact hn305_0) (.int .i64 ((rd_T45 l0_1 x9_4).f0))).trans hx305_0; replace hx305_0 := (cell_far (p := ⟨gb303, 1, none⟩) (by first | (rw [add_block]; exact hn305_1) | (show (Addr.add _ _).block ≠ _; rw [add_block]; exact hn305_1) | exact hn305_1) (.slice (some ad304) ((rd_T45 l0_1 x9_4).f1).length c302_1)).trans hx305_0; (try have hy305_0 := fun (n_ : Nat) => (show ((((w63.drewN n_).setCell ⟨gb303, 0, none⟩ (.int .i64 ((rd_T45 l0_1 x9_4).f0))).setCell ⟨gb303, 1, none⟩ (.slice (some ad304) ((rd_T45 l0_1 x9_4).f1).length c302_1))).cell? _ = some _ from hx305_0)); clear hn305_0; clear hn305_1; replace p305 := eq_true p305; replace q305 := eq_true q305))
                                              repeat (go_quiet (first | ((with_reducible refine gate_dst (N := 10) rfl ?_); (try (refine gate_guard (by rfl) ?_; dsimp only)); refine box_event ?hg (N := 10) ?hd (cs := #[.int .i64 0, .slice none 0 0]) (t := 45) ?hr ?_; (case hd => rfl); (case hg => rfl); (case hr => first | (go_simp; done) | (go_simp; rfl)); intro gb303 hg w63 hbox hb; have n0_ := Aside0.mk (Kd.R_below (by (with_reducible repeat (first | apply Kd.R_alloc | apply Kd.R_drewN | apply Kd.R_drew)); exact HO_300000.out) hb); have n1_ := Aside0.mk (Kd.S_below (Kd.S_elderB (by (with_reducible repeat (first | apply Kd.S_alloc | apply Kd.S_drewN | apply Kd.S_drew)); exact HO_300001.out) gb303 (Nat.le_of_eq hg.symm)) hb); have n2_ := Aside0.mk (blk_below (g := gb289) (o := .cells #[.slice (some ad301) l0_0.length c0_0, .slice (some ad302) l0_1.length c0_1] 25 (0, 0)) (by (with_reducible repeat (first | refine blk_drewN ?_ _ | refine blk_drew ?_ | refine blk_alloc ?_ _)); exact BK289.out) hb); have n3_ := Aside0.mk (blk_below (g := gb299) (o := .cells #[.slice (some ad300) t293.length co27, .slice Ao30 t296.length co30] 25 (0, 0)) (by (with_reducible repeat (first | refine blk_drewN ?_ _ | refine blk_drew ?_ | refine blk_alloc ?_ _)); exact BK299.out) hb); have n4_ := Aside0.mk (below_step (by repeat (first | (with_reducible first | exact HB.out | apply below_alloc | apply pw_below_drewN | apply below_drew1 | refine below_set ?_ GE289.out | refine below_set ?_ GE299.out) | exact HB.out)) hb); have n5_ := Aside0.mk (hbox); have n6_ := Aside0.mk ((by rw [hg]; exact (below_size (by repeat (first | (with_reducible first | exact HB.out | apply below_alloc | apply pw_below_drewN | apply below_drew1 | refine below_set ?_ GE289.out | refine below_set ?_ GE299.out) | exact HB.out))) : w.heap.size ≤ gb303)); have n7_ := Aside0.mk ((by rw [hg]; exact (below_size (by repeat (first | (with_reducible first | exact HB.out | apply below_alloc | apply pw_below_drewN | apply below_drew1 | refine below_set ?_ GE289.out | refine below_set ?_ GE299.out) | exact HB.out))) : w.heap.size ≤ gb303)); have n8_ := Aside0.mk ((by rw [hg]; exact Nat.ne_of_lt (blk_lt (g := gb289) (o := .cells #[.slice (some ad301) l0_0.length c0_0, .slice (some ad302) l0_1.length c0_1] 25 (0, 0)) (by (with_reducible repeat (first | refine blk_drewN ?_ _ | refine blk_drew ?_ | refine blk_alloc ?_ _)); exact BK289.out)) : gb289 ≠ gb303)); have n9_ := Aside0.mk ((by rw [hg]; exact Nat.ne_of_gt (blk_lt (g := gb289) (o := .cells #[.slice (some ad301) l0_0.length c0_0, .slice (some ad302) l0_1.length c0_1] 25 (0, 0)) (by (with_reducible repeat (first | refine blk_drewN ?_ _ | refine blk_drew ?_ | refine blk_alloc ?_ _)); exact BK289.out)) : gb303 ≠ gb289)); have n10_ := Aside0.mk ((by rw [hg]; exact Nat.ne_of_lt (blk_lt (g := gb299) (o := .cells #[.slice (some ad300) t293.length co27, .slice Ao30 t296.length co30] 25 (0, 0)) (by (with_reducible repeat (first | refine blk_drewN ?_ _ | refine blk_drew ?_ | refine blk_alloc ?_ _)); exact BK299.out)) : gb299 ≠ gb303)); have n11_ := Aside0.mk ((by rw [hg]; exact Nat.ne_of_gt (blk_lt (g := gb299) (o := .cells #[.slice (some ad300) t293.length co27, .slice Ao30 t296.length co30] 25 (0, 0)) (by (with_reducible repeat (first | refine blk_drewN ?_ _ | refine blk_drew ?_ | refine blk_alloc ?_ _)); exact BK299.out)) : gb303 ≠ gb299)); clear HO_300000; clear HO_300001; clear BK289; clear BK299; clear HB; have HO_300000 := n0_; have HO_300001 := n1_; have BK289 := n2_; have BK299 := n3_; have HB := n4_; have BK303 := n5_; have GW303 := n6_; have GE303 := n7_; have NB289_303 := n8_; have NB303_289 := n9_; have NB299_303 := n10_; have NB303_299 := n11_; clear n0_ n1_ n2_ n3_ n4_ n5_ n6_ n7_ n8_ n9_ n10_ n11_; clear hb hbox hg; have hnb64 := NB303_289.out; have hnc64 := NB289_303.out; have hnb65 := NB303_299.out; have hnc65 := NB299_303.out; have hcz66_0 : w63.cell? ⟨gb303, 0, none⟩ = some (.int .i64 0) := (blk_cell BK303.out 0).trans rfl; have hcz66_1 : w63.cell? ⟨gb303, 1, none⟩ = some (.slice none 0 0) := (blk_cell BK303.out 1).trans rfl; have hfz66_0 := blk_frozen BK303.out 0; have hfz66_1 := blk_frozen BK303.out 1; have p304 : 0 ≤ ((ji56) : Int) := of_decide_eq_true (by first | (with_reducible assumption) | assumption); have q304 : (ji56) < (((rd_T45 l0_1 x9_4).f1).length : Int) := of_decide_eq_true (by first | (with_reducible assumption) | assumption); obtain ⟨ad304, e304, hx304_0⟩ := Kd.at_int HR302_1.out (ji56) p304 q304; cases e304; have hn304_0 : ad304.block ≠ gb303 := Nat.ne_of_lt (Nat.lt_of_lt_of_le (by have := World.block_lt_of_cell? _ _ hx304_0; first | rwa [add_block] at this | exact this) GW303.out); have hn304_1 : ad304.block ≠ gb303 := Nat.ne_of_lt (Nat.lt_of_lt_of_le (by have := World.block_lt_of_cell? _ _ hx304_0; first | rwa [add_block] at this | exact this) GW303.out); replace hx304_0 := (HB.out.cell (World.block_lt_of_cell? w _ hx304_0)).trans hx304_0; replace hx304_0 := (cell_far (p := ⟨gb303, 0, none⟩) (by first | (rw [add_block]; exact hn304_0) | (show (Addr.add _ _).block ≠ _; rw [add_block]; exact hn304_0) | exact hn304_0) (.int .i64 ((rd_T45 l0_1 x9_4).f0))).trans hx304_0; replace hx304_0 := (cell_far (p := ⟨gb303, 1, none⟩) (by first | (rw [add_block]; exact hn304_1) | (show (Addr.add _ _).block ≠ _; rw [add_block]; exact hn304_1) | exact hn304_1) (.slice (some ad304) ((rd_T45 l0_1 x9_4).f1).length c302_1)).trans hx304_0; (try have hy304_0 := fun (n_ : Nat) => (show ((((w63.drewN n_).setCell ⟨gb303, 0, none⟩ (.int .i64 ((rd_T45 l0_1 x9_4).f0))).setCell ⟨gb303, 1, none⟩ (.slice (some ad304) ((rd_T45 l0_1 x9_4).f1).length c302_1))).cell? _ = some _ from hx304_0)); clear hn304_0; clear hn304_1; replace p304 := eq_true p304; replace q304 := eq_true q304; have hcz67_0 : w63.cell? ⟨gb299, 0, none⟩ = some (.slice (some ad300) t293.length co27) := (blk_cell BK299.out 0).trans rfl; have hcz67_1 : w63.cell? ⟨gb299, 1, none⟩ = some (.slice Ao30 t296.length co30) := (blk_cell BK299.out 1).trans rfl; have hfz67_0 := blk_frozen BK299.out 0; have hfz67_1 := blk_frozen BK299.out 1; have p305 : 0 ≤ (x7_3 : Int) := of_decide_eq_true (by first | (with_reducible assumption) | assumption); have q305 : x7_3 < (t293.length : Int) := of_decide_eq_true (by first | (with_reducible assumption) | assumption); obtain ⟨ad305, e305, hx305_0⟩ := Kd.at_int (Kd.R_reads' HO_300000.out).2.2 x7_3 p305 q305; obtain rfl : ad300 = ad305 := (by injection e305); have hn305_0 : ad300.block ≠ gb303 := Kd.own_blk (Kd.R_ne HO_300000.out BK303.out (by decide)); have hn305_1 : ad300.block ≠ gb303 := Kd.own_blk (Kd.R_ne HO_300000.out BK303.out (by decide)); replace hx305_0 := (cell_far (p := ⟨gb303, 0, none⟩) (by first | (rw [add_block]; exact hn305_0) | (show (Addr.add _ _).block ≠ _; rw [add_block]; exact hn305_0) | exact hn305_0) (.int .i64 ((rd_T45 l0_1 x9_4).f0))).trans hx305_0; replace hx305_0 := (cell_far (p := ⟨gb303, 1, none⟩) (by first | (rw [add_block]; exact hn305_1) | (show (Addr.add _ _).block ≠ _; rw [add_block]; exact hn305_1) | exact hn305_1) (.slice (some ad304) ((rd_T45 l0_1 x9_4).f1).length c302_1)).trans hx305_0; (try have hy305_0 := fun (n_ : Nat) => (show ((((w63.drewN n_).setCell ⟨gb303, 0, none⟩ (.int .i64 ((rd_T45 l0_1 x9_4).f0))).setCell ⟨gb303, 1, none⟩ (.slice (some ad304) ((rd_T45 l0_1 x9_4).f1).length c302_1))).cell? _ = some _ from hx305_0)); clear hn305_0; clear hn305_1; replace p305 := eq_true p305; replace q305 := eq_true q305)); try go_wp2_with (first | ((with_reducible refine gate_dst (N := 10) rfl ?_); (try (refine gate_guard (by rfl) ?_; dsimp only)); refine box_event ?hg (N := 10) ?hd (cs := #[.int .i64 0, .slice none 0 0]) (t := 45) ?hr ?_; (case hd => rfl); (case hg => rfl); (case hr => first | (go_simp; done) | (go_simp; rfl)); intro gb303 hg w63 hbox hb; have n0_ := Aside0.mk (Kd.R_below (by (with_reducible repeat (first | apply Kd.R_alloc | apply Kd.R_drewN | apply Kd.R_drew)); exact HO_300000.out) hb); have n1_ := Aside0.mk (Kd.S_below (Kd.S_elderB (by (with_reducible repeat (first | apply Kd.S_alloc | apply Kd.S_drewN | apply Kd.S_drew)); exact HO_300001.out) gb303 (Nat.le_of_eq hg.symm)) hb); have n2_ := Aside0.mk (blk_below (g := gb289) (o := .cells #[.slice (some ad301) l0_0.length c0_0, .slice (some ad302) l0_1.length c0_1] 25 (0, 0)) (by (with_reducible repeat (first | refine blk_drewN ?_ _ | refine blk_drew ?_ | refine blk_alloc ?_ _)); exact BK289.out) hb); have n3_ := Aside0.mk (blk_below (g := gb299) (o := .cells #[.slice (some ad300) t293.length co27, .slice Ao30 t296.length co30] 25 (0, 0)) (by (with_reducible repeat (first | refine blk_drewN ?_ _ | refine blk_drew ?_ | refine blk_alloc ?_ _)); exact BK299.out) hb); have n4_ := Aside0.mk (below_step (by repeat (first | (with_reducible first | exact HB.out | apply below_alloc | apply pw_below_drewN | apply below_drew1 | refine below_set ?_ GE289.out | refine below_set ?_ GE299.out) | exact HB.out)) hb); have n5_ := Aside0.mk (hbox); have n6_ := Aside0.mk ((by rw [hg]; exact (below_size (by repeat (first | (with_reducible first | exact HB.out | apply below_alloc | apply pw_below_drewN | apply below_drew1 | refine below_set ?_ GE289.out | refine below_set ?_ GE299.out) | exact HB.out))) : w.heap.size ≤ gb303)); have n7_ := Aside0.mk ((by rw [hg]; exact (below_size (by repeat (first | (with_reducible first | exact HB.out | apply below_alloc | apply pw_below_drewN | apply below_drew1 | refine below_set ?_ GE289.out | refine below_set ?_ GE299.out) | exact HB.out))) : w.heap.size ≤ gb303)); have n8_ := Aside0.mk ((by rw [hg]; exact Nat.ne_of_lt (blk_lt (g := gb289) (o := .cells #[.slice (some ad301) l0_0.length c0_0, .slice (some ad302) l0_1.length c0_1] 25 (0, 0)) (by (with_reducible repeat (first | refine blk_drewN ?_ _ | refine blk_drew ?_ | refine blk_alloc ?_ _)); exact BK289.out)) : gb289 ≠ gb303)); have n9_ := Aside0.mk ((by rw [hg]; exact Nat.ne_of_gt (blk_lt (g := gb289) (o := .cells #[.slice (some ad301) l0_0.length c0_0, .slice (some ad302) l0_1.length c0_1] 25 (0, 0)) (by (with_reducible repeat (first | refine blk_drewN ?_ _ | refine blk_drew ?_ | refine blk_alloc ?_ _)); exact BK289.out)) : gb303 ≠ gb289)); have n10_ := Aside0.mk ((by rw [hg]; exact Nat.ne_of_lt (blk_lt (g := gb299) (o := .cells #[.slice (some ad300) t293.length co27, .slice Ao30 t296.length co30] 25 (0, 0)) (by (with_reducible repeat (first | refine blk_drewN ?_ _ | refine blk_drew ?_ | refine blk_alloc ?_ _)); exact BK299.out)) : gb299 ≠ gb303)); have n11_ := Aside0.mk ((by rw [hg]; exact Nat.ne_of_gt (blk_lt (g := gb299) (o := .cells #[.slice (some ad300) t293.length co27, .slice Ao30 t296.length co30] 25 (0, 0)) (by (with_reducible repeat (first | refine blk_drewN ?_ _ | refine blk_drew ?_ | refine blk_alloc ?_ _)); exact BK299.out)) : gb303 ≠ gb299)); clear HO_300000; clear HO_300001; clear BK289; clear BK299; clear HB; have HO_300000 := n0_; have HO_300001 := n1_; have BK289 := n2_; have BK299 := n3_; have HB := n4_; have BK303 := n5_; have GW303 := n6_; have GE303 := n7_; have NB289_303 := n8_; have NB303_289 := n9_; have NB299_303 := n10_; have NB303_299 := n11_; clear n0_ n1_ n2_ n3_ n4_ n5_ n6_ n7_ n8_ n9_ n10_ n11_; clear hb hbox hg; have hnb64 := NB303_289.out; have hnc64 := NB289_303.out; have hnb65 := NB303_299.out; have hnc65 := NB299_303.out; have hcz66_0 : w63.cell? ⟨gb303, 0, none⟩ = some (.int .i64 0) := (blk_cell BK303.out 0).trans rfl; have hcz66_1 : w63.cell? ⟨gb303, 1, none⟩ = some (.slice none 0 0) := (blk_cell BK303.out 1).trans rfl; have hfz66_0 := blk_frozen BK303.out 0; have hfz66_1 := blk_frozen BK303.out 1; have p304 : 0 ≤ ((ji56) : Int) := of_decide_eq_true (by first | (with_reducible assumption) | assumption); have q304 : (ji56) < (((rd_T45 l0_1 x9_4).f1).length : Int) := of_decide_eq_true (by first | (with_reducible assumption) | assumption); obtain ⟨ad304, e304, hx304_0⟩ := Kd.at_int HR302_1.out (ji56) p304 q304; cases e304; have hn304_0 : ad304.block ≠ gb303 := Nat.ne_of_lt (Nat.lt_of_lt_of_le (by have := World.block_lt_of_cell? _ _ hx304_0; first | rwa [add_block] at this | exact this) GW303.out); have hn304_1 : ad304.block ≠ gb303 := Nat.ne_of_lt (Nat.lt_of_lt_of_le (by have := World.block_lt_of_cell? _ _ hx304_0; first | rwa [add_block] at this | exact this) GW303.out); replace hx304_0 := (HB.out.cell (World.block_lt_of_cell? w _ hx304_0)).trans hx304_0; replace hx304_0 := (cell_far (p := ⟨gb303, 0, none⟩) (by first | (rw [add_block]; exact hn304_0) | (show (Addr.add _ _).block ≠ _; rw [add_block]; exact hn304_0) | exact hn304_0) (.int .i64 ((rd_T45 l0_1 x9_4).f0))).trans hx304_0; replace hx304_0 := (cell_far (p := ⟨gb303, 1, none⟩) (by first | (rw [add_block]; exact hn304_1) | (show (Addr.add _ _).block ≠ _; rw [add_block]; exact hn304_1) | exact hn304_1) (.slice (some ad304) ((rd_T45 l0_1 x9_4).f1).length c302_1)).trans hx304_0; (try have hy304_0 := fun (n_ : Nat) => (show ((((w63.drewN n_).setCell ⟨gb303, 0, none⟩ (.int .i64 ((rd_T45 l0_1 x9_4).f0))).setCell ⟨gb303, 1, none⟩ (.slice (some ad304) ((rd_T45 l0_1 x9_4).f1).length c302_1))).cell? _ = some _ from hx304_0)); clear hn304_0; clear hn304_1; replace p304 := eq_true p304; replace q304 := eq_true q304; have hcz67_0 : w63.cell? ⟨gb299, 0, none⟩ = some (.slice (some ad300) t293.length co27) := (blk_cell BK299.out 0).trans rfl; have hcz67_1 : w63.cell? ⟨gb299, 1, none⟩ = some (.slice Ao30 t296.length co30) := (blk_cell BK299.out 1).trans rfl; have hfz67_0 := blk_frozen BK299.out 0; have hfz67_1 := blk_frozen BK299.out 1; have p305 : 0 ≤ (x7_3 : Int) := of_decide_eq_true (by first | (with_reducible assumption) | assumption); have q305 : x7_3 < (t293.length : Int) := of_decide_eq_true (by first | (with_reducible assumption) | assumption); obtain ⟨ad305, e305, hx305_0⟩ := Kd.at_int (Kd.R_reads' HO_300000.out).2.2 x7_3 p305 q305; obtain rfl : ad300 = ad305 := (by injection e305); have hn305_0 : ad300.block ≠ gb303 := Kd.own_blk (Kd.R_ne HO_300000.out BK303.out (by decide)); have hn305_1 : ad300.block ≠ gb303 := Kd.own_blk (Kd.R_ne HO_300000.out BK303.out (by decide)); replace hx305_0 := (cell_far (p := ⟨gb303, 0, none⟩) (by first | (rw [add_block]; exact hn305_0) | (show (Addr.add _ _).block ≠ _; rw [add_block]; exact hn305_0) | exact hn305_0) (.int .i64 ((rd_T45 l0_1 x9_4).f0))).trans hx305_0; replace hx305_0 := (cell_far (p := ⟨gb303, 1, none⟩) (by first | (rw [add_block]; exact hn305_1) | (show (Addr.add _ _).block ≠ _; rw [add_block]; exact hn305_1) | exact hn305_1) (.slice (some ad304) ((rd_T45 l0_1 x9_4).f1).length c302_1)).trans hx305_0; (try have hy305_0 := fun (n_ : Nat) => (show ((((w63.drewN n_).setCell ⟨gb303, 0, none⟩ (.int .i64 ((rd_T45 l0_1 x9_4).f0))).setCell ⟨gb303, 1, none⟩ (.slice (some ad304) ((rd_T45 l0_1 x9_4).f1).length c302_1))).cell? _ = some _ from hx305_0)); clear hn305_0; clear hn305_1; replace p305 := eq_true p305; replace q305 := eq_true q305)))
                                              go_roundg k4
                                              case measure => have := HJ3.out; have := HJ22.out; have := HK3.out; have := HK4.out; omega
                                              case rel => exact ⟨(((rd ((rd_T45 l0_1 x9_4).f1) (ji56)) == (rd t293 x7_3))), (wrap64 (x9_4 + 1)), (by first | rfl | (simp; done) | (simp only [← hji56] <;> (first | rfl | simp)) | (simp [*]; done)), (by first | rfl | (simp; done) | (simp [*]; done)), H', ⟨by have := HJ3.out; have := HJ22.out; have := HK3.out; have := HK4.out; omega⟩, ⟨by (with_reducible repeat (first | apply Kd.R_alloc | apply Kd.R_drewN | apply Kd.R_drew)); exact Kd.R_mono (Kd.R_far (p := ⟨gb303, 1, none⟩) (Kd.R_far (p := ⟨gb303, 0, none⟩) (Kd.R_types HO_300000.out BK303.out (by decide)) (fun _ hk => hk.2) (.int .i64 ((rd_T45 l0_1 x9_4).f0))) (fun _ hk => hk.2) (.slice (some ad304) ((rd_T45 l0_1 x9_4).f1).length c302_1)) (fun _ hk => trivial)⟩, ⟨by (with_reducible repeat (first | apply Kd.S_alloc | apply Kd.S_drewN | apply Kd.S_drew)); exact Kd.S_mono (Kd.S_far (p := ⟨gb303, 1, none⟩) (Kd.S_far (p := ⟨gb303, 0, none⟩) (Kd.S_mono HO_300001.out (fun k_ hk => (⟨hk, hk.2⟩ : _ ∧ k_ ≠ gb303))) (fun _ hk => hk.2) (.int .i64 ((rd_T45 l0_1 x9_4).f0))) (fun _ hk => hk.2) (.slice (some ad304) ((rd_T45 l0_1 x9_4).f1).length c302_1)) (fun _ hk => hk.1.1)⟩, ⟨by (with_reducible repeat (first | refine blk_drewN ?_ _ | refine blk_drew ?_ | refine blk_alloc ?_ _)); refine blk_far ?_ NB289_303.out _; (with_reducible repeat (first | refine blk_drewN ?_ _ | refine blk_drew ?_ | refine blk_alloc ?_ _)); refine blk_far ?_ NB289_303.out _; (with_reducible repeat (first | refine blk_drewN ?_ _ | refine blk_drew ?_ | refine blk_alloc ?_ _)); exact BK289.out⟩, ⟨by (with_reducible repeat (first | refine blk_drewN ?_ _ | refine blk_drew ?_ | refine blk_alloc ?_ _)); refine blk_far ?_ NB299_303.out _; (with_reducible repeat (first | refine blk_drewN ?_ _ | refine blk_drew ?_ | refine blk_alloc ?_ _)); refine blk_far ?_ NB299_303.out _; (with_reducible repeat (first | refine blk_drewN ?_ _ | refine blk_drew ?_ | refine blk_alloc ?_ _)); exact BK299.out⟩, ⟨by repeat (first | (with_reducible first | exact HB.out | apply below_alloc | apply pw_below_drewN | apply below_drew1 | refine below_set ?_ GE289.out | refine below_set ?_ GE299.out | refine below_set ?_ GE303.out) | exact HB.out)⟩⟩
                                            · rw [if_neg c60] at H
                                              exact absurd H (by simp)
                                          · rw [if_neg c59] at H
                                            exact absurd H (by simp)
                                        · rw [if_neg c58] at H
                                          exact absurd H (by simp)
                                      · rw [if_neg c57] at H
                                        exact absurd H (by simp)
                                    · rw [if_neg c55] at H
                                      have c55b0 : decide (x7_3 < (wrap64 (((rd_T45 l0_1 x9_4).f0) + (((rd_T45 l0_1 x9_4).f1).length : Int)))) = false := decide_eq_false c55
                                      clear c55
                                      have H' := Aside0.mk H
                                      clear H
                                      have hnb68 := NB289_299.out
                                      have hnc68 := NB299_289.out
                                      have hcz69_0 : wr.cell? ⟨gb289, 0, none⟩ = some (.slice (some ad301) l0_0.length c0_0) := (blk_cell BK289.out 0).trans rfl
                                      have hcz69_1 : wr.cell? ⟨gb289, 1, none⟩ = some (.slice A0_1 l0_1.length c0_1) := (blk_cell BK289.out 1).trans rfl
                                      have hfz69_0 := blk_frozen BK289.out 0
                                      have hfz69_1 := blk_frozen BK289.out 1
                                      have p302 : 0 ≤ (x9_4 : Int) := of_decide_eq_true (by first | (with_reducible assumption) | assumption)
                                      have q302 : x9_4 < (l0_1.length : Int) := of_decide_eq_true (by first | (with_reducible assumption) | assumption)
                                      obtain ⟨ad302, A302_1, c302_1, e302, hx302_0, hx302_1, hl302_1, hi302_1⟩ := at_T45 HR0_1.out x9_4 p302 q302
                                      cases e302
                                      replace hx302_0 := (HB.out.cell (World.block_lt_of_cell? w _ hx302_0)).trans hx302_0
                                      replace hx302_1 := (HB.out.cell (World.block_lt_of_cell? w _ hx302_1)).trans hx302_1
                                      have HR302_1 := Aside0.mk hi302_1
                                      have HC302_1 := Aside0.mk hl302_1
                                      clear hi302_1 hl302_1
                                      replace p302 := eq_true p302
                                      replace q302 := eq_true q302
                                      go_wp2_with (first | ((with_reducible refine gate_dst (N := 10) rfl ?_); (try (refine gate_guard (by rfl) ?_; dsimp only)); refine box_event ?hg (N := 10) ?hd (cs := #[.int .i64 0, .slice none 0 0]) (t := 45) ?hr ?_; (case hd => rfl); (case hg => rfl); (case hr => first | (go_simp; done) | (go_simp; rfl)); intro gb303 hg w70 hbox hb; have n0_ := Aside0.mk (Kd.R_below (by (with_reducible repeat (first | apply Kd.R_alloc | apply Kd.R_drewN | apply Kd.R_drew)); exact HO_300000.out) hb); have n1_ := Aside0.mk (Kd.S_below (Kd.S_elderB (by (with_reducible repeat (first | apply Kd.S_alloc | apply Kd.S_drewN | apply Kd.S_drew)); exact HO_300001.out) gb303 (Nat.le_of_eq hg.symm)) hb); have n2_ := Aside0.mk (blk_below (g := gb289) (o := .cells #[.slice (some ad301) l0_0.length c0_0, .slice (some ad302) l0_1.length c0_1] 25 (0, 0)) (by (with_reducible repeat (first | refine blk_drewN ?_ _ | refine blk_drew ?_ | refine blk_alloc ?_ _)); exact BK289.out) hb); have n3_ := Aside0.mk (blk_below (g := gb299) (o := .cells #[.slice (some ad300) t293.length co27, .slice Ao30 t296.length co30] 25 (0, 0)) (by (with_reducible repeat (first | refine blk_drewN ?_ _ | refine blk_drew ?_ | refine blk_alloc ?_ _)); exact BK299.out) hb); have n4_ := Aside0.mk (below_step (by repeat (first | (with_reducible first | exact HB.out | apply below_alloc | apply pw_below_drewN | apply below_drew1 | refine below_set ?_ GE289.out | refine below_set ?_ GE299.out) | exact HB.out)) hb); have n5_ := Aside0.mk (hbox); have n6_ := Aside0.mk ((by rw [hg]; exact (below_size (by repeat (first | (with_reducible first | exact HB.out | apply below_alloc | apply pw_below_drewN | apply below_drew1 | refine below_set ?_ GE289.out | refine below_set ?_ GE299.out) | exact HB.out))) : w.heap.size ≤ gb303)); have n7_ := Aside0.mk ((by rw [hg]; exact (below_size (by repeat (first | (with_reducible first | exact HB.out | apply below_alloc | apply pw_below_drewN | apply below_drew1 | refine below_set ?_ GE289.out | refine below_set ?_ GE299.out) | exact HB.out))) : w.heap.size ≤ gb303)); have n8_ := Aside0.mk ((by rw [hg]; exact Nat.ne_of_lt (blk_lt (g := gb289) (o := .cells #[.slice (some ad301) l0_0.length c0_0, .slice (some ad302) l0_1.length c0_1] 25 (0, 0)) (by (with_reducible repeat (first | refine blk_drewN ?_ _ | refine blk_drew ?_ | refine blk_alloc ?_ _)); exact BK289.out)) : gb289 ≠ gb303)); have n9_ := Aside0.mk ((by rw [hg]; exact Nat.ne_of_gt (blk_lt (g := gb289) (o := .cells #[.slice (some ad301) l0_0.length c0_0, .slice (some ad302) l0_1.length c0_1] 25 (0, 0)) (by (with_reducible repeat (first | refine blk_drewN ?_ _ | refine blk_drew ?_ | refine blk_alloc ?_ _)); exact BK289.out)) : gb303 ≠ gb289)); have n10_ := Aside0.mk ((by rw [hg]; exact Nat.ne_of_lt (blk_lt (g := gb299) (o := .cells #[.slice (some ad300) t293.length co27, .slice Ao30 t296.length co30] 25 (0, 0)) (by (with_reducible repeat (first | refine blk_drewN ?_ _ | refine blk_drew ?_ | refine blk_alloc ?_ _)); exact BK299.out)) : gb299 ≠ gb303)); have n11_ := Aside0.mk ((by rw [hg]; exact Nat.ne_of_gt (blk_lt (g := gb299) (o := .cells #[.slice (some ad300) t293.length co27, .slice Ao30 t296.length co30] 25 (0, 0)) (by (with_reducible repeat (first | refine blk_drewN ?_ _ | refine blk_drew ?_ | refine blk_alloc ?_ _)); exact BK299.out)) : gb303 ≠ gb299)); clear HO_300000; clear HO_300001; clear BK289; clear BK299; clear HB; have HO_300000 := n0_; have HO_300001 := n1_; have BK289 := n2_; have BK299 := n3_; have HB := n4_; have BK303 := n5_; have GW303 := n6_; have GE303 := n7_; have NB289_303 := n8_; have NB303_289 := n9_; have NB299_303 := n10_; have NB303_299 := n11_; clear n0_ n1_ n2_ n3_ n4_ n5_ n6_ n7_ n8_ n9_ n10_ n11_; clear hb hbox hg; have hnb71 := NB303_289.out; have hnc71 := NB289_303.out; have hnb72 := NB303_299.out; have hnc72 := NB299_303.out; have hcz73_0 : w70.cell? ⟨gb303, 0, none⟩ = some (.int .i64 0) := (blk_cell BK303.out 0).trans rfl; have hcz73_1 : w70.cell? ⟨gb303, 1, none⟩ = some (.slice none 0 0) := (blk_cell BK303.out 1).trans rfl; have hfz73_0 := blk_frozen BK303.out 0; have hfz73_1 := blk_frozen BK303.out 1))
                                      repeat (go_quiet (first | ((with_reducible refine gate_dst (N := 10) rfl ?_); (try (refine gate_guard (by rfl) ?_; dsimp only)); refine box_event ?hg (N := 10) ?hd (cs := #[.int .i64 0, .slice none 0 0]) (t := 45) ?hr ?_; (case hd => rfl); (case hg => rfl); (case hr => first | (go_simp; done) | (go_simp; rfl)); intro gb303 hg w70 hbox hb; have n0_ := Aside0.mk (Kd.R_below (by (with_reducible repeat (first | apply Kd.R_alloc | apply Kd.R_drewN | apply Kd.R_drew)); exact HO_300000.out) hb); have n1_ := Aside0.mk (Kd.S_below (Kd.S_elderB (by (with_reducible repeat (first | apply Kd.S_alloc | apply Kd.S_drewN | apply Kd.S_drew)); exact HO_300001.out) gb303 (Nat.le_of_eq hg.symm)) hb); have n2_ := Aside0.mk (blk_below (g := gb289) (o := .cells #[.slice (some ad301) l0_0.length c0_0, .slice (some ad302) l0_1.length c0_1] 25 (0, 0)) (by (with_reducible repeat (first | refine blk_drewN ?_ _ | refine blk_drew ?_ | refine blk_alloc ?_ _)); exact BK289.out) hb); have n3_ := Aside0.mk (blk_below (g := gb299) (o := .cells #[.slice (some ad300) t293.length co27, .slice Ao30 t296.length co30] 25 (0, 0)) (by (with_reducible repeat (first | refine blk_drewN ?_ _ | refine blk_drew ?_ | refine blk_alloc ?_ _)); exact BK299.out) hb); have n4_ := Aside0.mk (below_step (by repeat (first | (with_reducible first | exact HB.out | apply below_alloc | apply pw_below_drewN | apply below_drew1 | refine below_set ?_ GE289.out | refine below_set ?_ GE299.out) | exact HB.out)) hb); have n5_ := Aside0.mk (hbox); have n6_ := Aside0.mk ((by rw [hg]; exact (below_size (by repeat (first | (with_reducible first | exact HB.out | apply below_alloc | apply pw_below_drewN | apply below_drew1 | refine below_set ?_ GE289.out | refine below_set ?_ GE299.out) | exact HB.out))) : w.heap.size ≤ gb303)); have n7_ := Aside0.mk ((by rw [hg]; exact (below_size (by repeat (first | (with_reducible first | exact HB.out | apply below_alloc | apply pw_below_drewN | apply below_drew1 | refine below_set ?_ GE289.out | refine below_set ?_ GE299.out) | exact HB.out))) : w.heap.size ≤ gb303)); have n8_ := Aside0.mk ((by rw [hg]; exact Nat.ne_of_lt (blk_lt (g := gb289) (o := .cells #[.slice (some ad301) l0_0.length c0_0, .slice (some ad302) l0_1.length c0_1] 25 (0, 0)) (by (with_reducible repeat (first | refine blk_drewN ?_ _ | refine blk_drew ?_ | refine blk_alloc ?_ _)); exact BK289.out)) : gb289 ≠ gb303)); have n9_ := Aside0.mk ((by rw [hg]; exact Nat.ne_of_gt (blk_lt (g := gb289) (o := .cells #[.slice (some ad301) l0_0.length c0_0, .slice (some ad302) l0_1.length c0_1] 25 (0, 0)) (by (with_reducible repeat (first | refine blk_drewN ?_ _ | refine blk_drew ?_ | refine blk_alloc ?_ _)); exact BK289.out)) : gb303 ≠ gb289)); have n10_ := Aside0.mk ((by rw [hg]; exact Nat.ne_of_lt (blk_lt (g := gb299) (o := .cells #[.slice (some ad300) t293.length co27, .slice Ao30 t296.length co30] 25 (0, 0)) (by (with_reducible repeat (first | refine blk_drewN ?_ _ | refine blk_drew ?_ | refine blk_alloc ?_ _)); exact BK299.out)) : gb299 ≠ gb303)); have n11_ := Aside0.mk ((by rw [hg]; exact Nat.ne_of_gt (blk_lt (g := gb299) (o := .cells #[.slice (some ad300) t293.length co27, .slice Ao30 t296.length co30] 25 (0, 0)) (by (with_reducible repeat (first | refine blk_drewN ?_ _ | refine blk_drew ?_ | refine blk_alloc ?_ _)); exact BK299.out)) : gb303 ≠ gb299)); clear HO_300000; clear HO_300001; clear BK289; clear BK299; clear HB; have HO_300000 := n0_; have HO_300001 := n1_; have BK289 := n2_; have BK299 := n3_; have HB := n4_; have BK303 := n5_; have GW303 := n6_; have GE303 := n7_; have NB289_303 := n8_; have NB303_289 := n9_; have NB299_303 := n10_; have NB303_299 := n11_; clear n0_ n1_ n2_ n3_ n4_ n5_ n6_ n7_ n8_ n9_ n10_ n11_; clear hb hbox hg; have hnb71 := NB303_289.out; have hnc71 := NB289_303.out; have hnb72 := NB303_299.out; have hnc72 := NB299_303.out; have hcz73_0 : w70.cell? ⟨gb303, 0, none⟩ = some (.int .i64 0) := (blk_cell BK303.out 0).trans rfl; have hcz73_1 : w70.cell? ⟨gb303, 1, none⟩ = some (.slice none 0 0) := (blk_cell BK303.out 1).trans rfl; have hfz73_0 := blk_frozen BK303.out 0; have hfz73_1 := blk_frozen BK303.out 1)); try go_wp2_with (first | ((with_reducible refine gate_dst (N := 10) rfl ?_); (try (refine gate_guard (by rfl) ?_; dsimp only)); refine box_event ?hg (N := 10) ?hd (cs := #[.int .i64 0, .slice none 0 0]) (t := 45) ?hr ?_; (case hd => rfl); (case hg => rfl); (case hr => first | (go_simp; done) | (go_simp; rfl)); intro gb303 hg w70 hbox hb; have n0_ := Aside0.mk (Kd.R_below (by (with_reducible repeat (first | apply Kd.R_alloc | apply Kd.R_drewN | apply Kd.R_drew)); exact HO_300000.out) hb); have n1_ := Aside0.mk (Kd.S_below (Kd.S_elderB (by (with_reducible repeat (first | apply Kd.S_alloc | apply Kd.S_drewN | apply Kd.S_drew)); exact HO_300001.out) gb303 (Nat.le_of_eq hg.symm)) hb); have n2_ := Aside0.mk (blk_below (g := gb289) (o := .cells #[.slice (some ad301) l0_0.length c0_0, .slice (some ad302) l0_1.length c0_1] 25 (0, 0)) (by (with_reducible repeat (first | refine blk_drewN ?_ _ | refine blk_drew ?_ | refine blk_alloc ?_ _)); exact BK289.out) hb); have n3_ := Aside0.mk (blk_below (g := gb299) (o := .cells #[.slice (some ad300) t293.length co27, .slice Ao30 t296.length co30] 25 (0, 0)) (by (with_reducible repeat (first | refine blk_drewN ?_ _ | refine blk_drew ?_ | refine blk_alloc ?_ _)); exact BK299.out) hb); have n4_ := Aside0.mk (below_step (by repeat (first | (with_reducible first | exact HB.out | apply below_alloc | apply pw_below_drewN | apply below_drew1 | refine below_set ?_ GE289.out | refine below_set ?_ GE299.out) | exact HB.out)) hb); have n5_ := Aside0.mk (hbox); have n6_ := Aside0.mk ((by rw [hg]; exact (below_size (by repeat (first | (with_reducible first | exact HB.out | apply below_alloc | apply pw_below_drewN | apply below_drew1 | refine below_set ?_ GE289.out | refine below_set ?_ GE299.out) | exact HB.out))) : w.heap.size ≤ gb303)); have n7_ := Aside0.mk ((by rw [hg]; exact (below_size (by repeat (first | (with_reducible first | exact HB.out | apply below_alloc | apply pw_below_drewN | apply below_drew1 | refine below_set ?_ GE289.out | refine below_set ?_ GE299.out) | exact HB.out))) : w.heap.size ≤ gb303)); have n8_ := Aside0.mk ((by rw [hg]; exact Nat.ne_of_lt (blk_lt (g := gb289) (o := .cells #[.slice (some ad301) l0_0.length c0_0, .slice (some ad302) l0_1.length c0_1] 25 (0, 0)) (by (with_reducible repeat (first | refine blk_drewN ?_ _ | refine blk_drew ?_ | refine blk_alloc ?_ _)); exact BK289.out)) : gb289 ≠ gb303)); have n9_ := Aside0.mk ((by rw [hg]; exact Nat.ne_of_gt (blk_lt (g := gb289) (o := .cells #[.slice (some ad301) l0_0.length c0_0, .slice (some ad302) l0_1.length c0_1] 25 (0, 0)) (by (with_reducible repeat (first | refine blk_drewN ?_ _ | refine blk_drew ?_ | refine blk_alloc ?_ _)); exact BK289.out)) : gb303 ≠ gb289)); have n10_ := Aside0.mk ((by rw [hg]; exact Nat.ne_of_lt (blk_lt (g := gb299) (o := .cells #[.slice (some ad300) t293.length co27, .slice Ao30 t296.length co30] 25 (0, 0)) (by (with_reducible repeat (first | refine blk_drewN ?_ _ | refine blk_drew ?_ | refine blk_alloc ?_ _)); exact BK299.out)) : gb299 ≠ gb303)); have n11_ := Aside0.mk ((by rw [hg]; exact Nat.ne_of_gt (blk_lt (g := gb299) (o := .cells #[.slice (some ad300) t293.length co27, .slice Ao30 t296.length co30] 25 (0, 0)) (by (with_reducible repeat (first | refine blk_drewN ?_ _ | refine blk_drew ?_ | refine blk_alloc ?_ _)); exact BK299.out)) : gb303 ≠ gb299)); clear HO_300000; clear HO_300001; clear BK289; clear BK299; clear HB; have HO_300000 := n0_; have HO_300001 := n1_; have BK289 := n2_; have BK299 := n3_; have HB := n4_; have BK303 := n5_; have GW303 := n6_; have GE303 := n7_; have NB289_303 := n8_; have NB303_289 := n9_; have NB299_303 := n10_; have NB303_299 := n11_; clear n0_ n1_ n2_ n3_ n4_ n5_ n6_ n7_ n8_ n9_ n10_ n11_; clear hb hbox hg; have hnb71 := NB303_289.out; have hnc71 := NB289_303.out; have hnb72 := NB303_299.out; have hnc72 := NB299_303.out; have hcz73_0 : w70.cell? ⟨gb303, 0, none⟩ = some (.int .i64 0) := (blk_cell BK303.out 0).trans rfl; have hcz73_1 : w70.cell? ⟨gb303, 1, none⟩ = some (.slice none 0 0) := (blk_cell BK303.out 1).trans rfl; have hfz73_0 := blk_frozen BK303.out 0; have hfz73_1 := blk_frozen BK303.out 1)))
                                      go_roundg k4
                                      case measure => have := HJ3.out; have := HJ22.out; have := HK3.out; have := HK4.out; omega
                                      case rel => exact ⟨(false), (wrap64 (x9_4 + 1)), (by first | rfl | (simp; done) | (simp [*]; done)), (by first | rfl | (simp; done) | (simp [*]; done)), H', ⟨by have := HJ3.out; have := HJ22.out; have := HK3.out; have := HK4.out; omega⟩, ⟨by (with_reducible repeat (first | apply Kd.R_alloc | apply Kd.R_drewN | apply Kd.R_drew)); exact Kd.R_mono (Kd.R_far (p := ⟨gb303, 1, none⟩) (Kd.R_far (p := ⟨gb303, 0, none⟩) (Kd.R_types HO_300000.out BK303.out (by decide)) (fun _ hk => hk.2) (.int .i64 ((rd_T45 l0_1 x9_4).f0))) (fun _ hk => hk.2) (.slice A302_1 ((rd_T45 l0_1 x9_4).f1).length c302_1)) (fun _ hk => trivial)⟩, ⟨by (with_reducible repeat (first | apply Kd.S_alloc | apply Kd.S_drewN | apply Kd.S_drew)); exact Kd.S_mono (Kd.S_far (p := ⟨gb303, 1, none⟩) (Kd.S_far (p := ⟨gb303, 0, none⟩) (Kd.S_mono HO_300001.out (fun k_ hk => (⟨hk, hk.2⟩ : _ ∧ k_ ≠ gb303))) (fun _ hk => hk.2) (.int .i64 ((rd_T45 l0_1 x9_4).f0))) (fun _ hk => hk.2) (.slice A302_1 ((rd_T45 l0_1 x9_4).f1).length c302_1)) (fun _ hk => hk.1.1)⟩, ⟨by (with_reducible repeat (first | refine blk_drewN ?_ _ | refine blk_drew ?_ | refine blk_alloc ?_ _)); refine blk_far ?_ NB289_303.out _; (with_reducible repeat (first | refine blk_drewN ?_ _ | refine blk_drew ?_ | refine blk_alloc ?_ _)); refine blk_far ?_ NB289_303.out _; (with_reducible repeat (first | refine blk_drewN ?_ _ | refine blk_drew ?_ | refine blk_alloc ?_ _)); exact BK289.out⟩, ⟨by (with_reducible repeat (first | refine blk_drewN ?_ _ | refine blk_drew ?_ | refine blk_alloc ?_ _)); refine blk_far ?_ NB299_303.out _; (with_reducible repeat (first | refine blk_drewN ?_ _ | refine blk_drew ?_ | refine blk_alloc ?_ _)); refine blk_far ?_ NB299_303.out _; (with_reducible repeat (first | refine blk_drewN ?_ _ | refine blk_drew ?_ | refine blk_alloc ?_ _)); exact BK299.out⟩, ⟨by repeat (first | (with_reducible first | exact HB.out | apply below_alloc | apply pw_below_drewN | apply below_drew1 | refine below_set ?_ GE289.out | refine below_set ?_ GE299.out | refine below_set ?_ GE303.out) | exact HB.out)⟩⟩
                                  · rw [if_neg c54] at H
                                    have c54b0 : decide (((rd_T45 l0_1 x9_4).f0) ≤ x7_3) = false := decide_eq_false c54
                                    clear c54
                                    have H' := Aside0.mk H
                                    clear H
                                    have hnb74 := NB289_299.out
                                    have hnc74 := NB299_289.out
                                    have hcz75_0 : wr.cell? ⟨gb289, 0, none⟩ = some (.slice (some ad301) l0_0.length c0_0) := (blk_cell BK289.out 0).trans rfl
                                    have hcz75_1 : wr.cell? ⟨gb289, 1, none⟩ = some (.slice A0_1 l0_1.length c0_1) := (blk_cell BK289.out 1).trans rfl
                                    have hfz75_0 := blk_frozen BK289.out 0
                                    have hfz75_1 := blk_frozen BK289.out 1
                                    have p302 : 0 ≤ (x9_4 : Int) := of_decide_eq_true (by first | (with_reducible assumption) | assumption)
                                    have q302 : x9_4 < (l0_1.length : Int) := of_decide_eq_true (by first | (with_reducible assumption) | assumption)
                                    obtain ⟨ad302, A302_1, c302_1, e302, hx302_0, hx302_1, hl302_1, hi302_1⟩ := at_T45 HR0_1.out x9_4 p302 q302
                                    cases e302
                                    replace hx302_0 := (HB.out.cell (World.block_lt_of_cell? w _ hx302_0)).trans hx302_0
                                    replace hx302_1 := (HB.out.cell (World.block_lt_of_cell? w _ hx302_1)).trans hx302_1
                                    have HR302_1 := Aside0.mk hi302_1
                                    have HC302_1 := Aside0.mk hl302_1
                                    clear hi302_1 hl302_1
                                    replace p302 := eq_true p302
                                    replace q302 := eq_true q302
                                    go_wp2_with (first | ((with_reducible refine gate_dst (N := 10) rfl ?_); (try (refine gate_guard (by rfl) ?_; dsimp only)); refine box_event ?hg (N := 10) ?hd (cs := #[.int .i64 0, .slice none 0 0]) (t := 45) ?hr ?_; (case hd => rfl); (case hg => rfl); (case hr => first | (go_simp; done) | (go_simp; rfl)); intro gb303 hg w76 hbox hb; have n0_ := Aside0.mk (Kd.R_below (by (with_reducible repeat (first | apply Kd.R_alloc | apply Kd.R_drewN | apply Kd.R_drew)); exact HO_300000.out) hb); have n1_ := Aside0.mk (Kd.S_below (Kd.S_elderB (by (with_reducible repeat (first | apply Kd.S_alloc | apply Kd.S_drewN | apply Kd.S_drew)); exact HO_300001.out) gb303 (Nat.le_of_eq hg.symm)) hb); have n2_ := Aside0.mk (blk_below (g := gb289) (o := .cells #[.slice (some ad301) l0_0.length c0_0, .slice (some ad302) l0_1.length c0_1] 25 (0, 0)) (by (with_reducible repeat (first | refine blk_drewN ?_ _ | refine blk_drew ?_ | refine blk_alloc ?_ _)); exact BK289.out) hb); have n3_ := Aside0.mk (blk_below (g := gb299) (o := .cells #[.slice (some ad300) t293.length co27, .slice Ao30 t296.length co30] 25 (0, 0)) (by (with_reducible repeat (first | refine blk_drewN ?_ _ | refine blk_drew ?_ | refine blk_alloc ?_ _)); exact BK299.out) hb); have n4_ := Aside0.mk (below_step (by repeat (first | (with_reducible first | exact HB.out | apply below_alloc | apply pw_below_drewN | apply below_drew1 | refine below_set ?_ GE289.out | refine below_set ?_ GE299.out) | exact HB.out)) hb); have n5_ := Aside0.mk (hbox); have n6_ := Aside0.mk ((by rw [hg]; exact (below_size (by repeat (first | (with_reducible first | exact HB.out | apply below_alloc | apply pw_below_drewN | apply below_drew1 | refine below_set ?_ GE289.out | refine below_set ?_ GE299.out) | exact HB.out))) : w.heap.size ≤ gb303)); have n7_ := Aside0.mk ((by rw [hg]; exact (below_size (by repeat (first | (with_reducible first | exact HB.out | apply below_alloc | apply pw_below_drewN | apply below_drew1 | refine below_set ?_ GE289.out | refine below_set ?_ GE299.out) | exact HB.out))) : w.heap.size ≤ gb303)); have n8_ := Aside0.mk ((by rw [hg]; exact Nat.ne_of_lt (blk_lt (g := gb289) (o := .cells #[.slice (some ad301) l0_0.length c0_0, .slice (some ad302) l0_1.length c0_1] 25 (0, 0)) (by (with_reducible repeat (first | refine blk_drewN ?_ _ | refine blk_drew ?_ | refine blk_alloc ?_ _)); exact BK289.out)) : gb289 ≠ gb303)); have n9_ := Aside0.mk ((by rw [hg]; exact Nat.ne_of_gt (blk_lt (g := gb289) (o := .cells #[.slice (some ad301) l0_0.length c0_0, .slice (some ad302) l0_1.length c0_1] 25 (0, 0)) (by (with_reducible repeat (first | refine blk_drewN ?_ _ | refine blk_drew ?_ | refine blk_alloc ?_ _)); exact BK289.out)) : gb303 ≠ gb289)); have n10_ := Aside0.mk ((by rw [hg]; exact Nat.ne_of_lt (blk_lt (g := gb299) (o := .cells #[.slice (some ad300) t293.length co27, .slice Ao30 t296.length co30] 25 (0, 0)) (by (with_reducible repeat (first | refine blk_drewN ?_ _ | refine blk_drew ?_ | refine blk_alloc ?_ _)); exact BK299.out)) : gb299 ≠ gb303)); have n11_ := Aside0.mk ((by rw [hg]; exact Nat.ne_of_gt (blk_lt (g := gb299) (o := .cells #[.slice (some ad300) t293.length co27, .slice Ao30 t296.length co30] 25 (0, 0)) (by (with_reducible repeat (first | refine blk_drewN ?_ _ | refine blk_drew ?_ | refine blk_alloc ?_ _)); exact BK299.out)) : gb303 ≠ gb299)); clear HO_300000; clear HO_300001; clear BK289; clear BK299; clear HB; have HO_300000 := n0_; have HO_300001 := n1_; have BK289 := n2_; have BK299 := n3_; have HB := n4_; have BK303 := n5_; have GW303 := n6_; have GE303 := n7_; have NB289_303 := n8_; have NB303_289 := n9_; have NB299_303 := n10_; have NB303_299 := n11_; clear n0_ n1_ n2_ n3_ n4_ n5_ n6_ n7_ n8_ n9_ n10_ n11_; clear hb hbox hg; have hnb77 := NB303_289.out; have hnc77 := NB289_303.out; have hnb78 := NB303_299.out; have hnc78 := NB299_303.out; have hcz79_0 : w76.cell? ⟨gb303, 0, none⟩ = some (.int .i64 0) := (blk_cell BK303.out 0).trans rfl; have hcz79_1 : w76.cell? ⟨gb303, 1, none⟩ = some (.slice none 0 0) := (blk_cell BK303.out 1).trans rfl; have hfz79_0 := blk_frozen BK303.out 0; have hfz79_1 := blk_frozen BK303.out 1))
                                    repeat (go_quiet (first | ((with_reducible refine gate_dst (N := 10) rfl ?_); (try (refine gate_guard (by rfl) ?_; dsimp only)); refine box_event ?hg (N := 10) ?hd (cs := #[.int .i64 0, .slice none 0 0]) (t := 45) ?hr ?_; (case hd => rfl); (case hg => rfl); (case hr => first | (go_simp; done) | (go_simp; rfl)); intro gb303 hg w76 hbox hb; have n0_ := Aside0.mk (Kd.R_below (by (with_reducible repeat (first | apply Kd.R_alloc | apply Kd.R_drewN | apply Kd.R_drew)); exact HO_300000.out) hb); have n1_ := Aside0.mk (Kd.S_below (Kd.S_elderB (by (with_reducible repeat (first | apply Kd.S_alloc | apply Kd.S_drewN | apply Kd.S_drew)); exact HO_300001.out) gb303 (Nat.le_of_eq hg.symm)) hb); have n2_ := Aside0.mk (blk_below (g := gb289) (o := .cells #[.slice (some ad301) l0_0.length c0_0, .slice (some ad302) l0_1.length c0_1] 25 (0, 0)) (by (with_reducible repeat (first | refine blk_drewN ?_ _ | refine blk_drew ?_ | refine blk_alloc ?_ _)); exact BK289.out) hb); have n3_ := Aside0.mk (blk_below (g := gb299) (o := .cells #[.slice (some ad300) t293.length co27, .slice Ao30 t296.length co30] 25 (0, 0)) (by (with_reducible repeat (first | refine blk_drewN ?_ _ | refine blk_drew ?_ | refine blk_alloc ?_ _)); exact BK299.out) hb); have n4_ := Aside0.mk (below_step (by repeat (first | (with_reducible first | exact HB.out | apply below_alloc | apply pw_below_drewN | apply below_drew1 | refine below_set ?_ GE289.out | refine below_set ?_ GE299.out) | exact HB.out)) hb); have n5_ := Aside0.mk (hbox); have n6_ := Aside0.mk ((by rw [hg]; exact (below_size (by repeat (first | (with_reducible first | exact HB.out | apply below_alloc | apply pw_below_drewN | apply below_drew1 | refine below_set ?_ GE289.out | refine below_set ?_ GE299.out) | exact HB.out))) : w.heap.size ≤ gb303)); have n7_ := Aside0.mk ((by rw [hg]; exact (below_size (by repeat (first | (with_reducible first | exact HB.out | apply below_alloc | apply pw_below_drewN | apply below_drew1 | refine below_set ?_ GE289.out | refine below_set ?_ GE299.out) | exact HB.out))) : w.heap.size ≤ gb303)); have n8_ := Aside0.mk ((by rw [hg]; exact Nat.ne_of_lt (blk_lt (g := gb289) (o := .cells #[.slice (some ad301) l0_0.length c0_0, .slice (some ad302) l0_1.length c0_1] 25 (0, 0)) (by (with_reducible repeat (first | refine blk_drewN ?_ _ | refine blk_drew ?_ | refine blk_alloc ?_ _)); exact BK289.out)) : gb289 ≠ gb303)); have n9_ := Aside0.mk ((by rw [hg]; exact Nat.ne_of_gt (blk_lt (g := gb289) (o := .cells #[.slice (some ad301) l0_0.length c0_0, .slice (some ad302) l0_1.length c0_1] 25 (0, 0)) (by (with_reducible repeat (first | refine blk_drewN ?_ _ | refine blk_drew ?_ | refine blk_alloc ?_ _)); exact BK289.out)) : gb303 ≠ gb289)); have n10_ := Aside0.mk ((by rw [hg]; exact Nat.ne_of_lt (blk_lt (g := gb299) (o := .cells #[.slice (some ad300) t293.length co27, .slice Ao30 t296.length co30] 25 (0, 0)) (by (with_reducible repeat (first | refine blk_drewN ?_ _ | refine blk_drew ?_ | refine blk_alloc ?_ _)); exact BK299.out)) : gb299 ≠ gb303)); have n11_ := Aside0.mk ((by rw [hg]; exact Nat.ne_of_gt (blk_lt (g := gb299) (o := .cells #[.slice (some ad300) t293.length co27, .slice Ao30 t296.length co30] 25 (0, 0)) (by (with_reducible repeat (first | refine blk_drewN ?_ _ | refine blk_drew ?_ | refine blk_alloc ?_ _)); exact BK299.out)) : gb303 ≠ gb299)); clear HO_300000; clear HO_300001; clear BK289; clear BK299; clear HB; have HO_300000 := n0_; have HO_300001 := n1_; have BK289 := n2_; have BK299 := n3_; have HB := n4_; have BK303 := n5_; have GW303 := n6_; have GE303 := n7_; have NB289_303 := n8_; have NB303_289 := n9_; have NB299_303 := n10_; have NB303_299 := n11_; clear n0_ n1_ n2_ n3_ n4_ n5_ n6_ n7_ n8_ n9_ n10_ n11_; clear hb hbox hg; have hnb77 := NB303_289.out; have hnc77 := NB289_303.out; have hnb78 := NB303_299.out; have hnc78 := NB299_303.out; have hcz79_0 : w76.cell? ⟨gb303, 0, none⟩ = some (.int .i64 0) := (blk_cell BK303.out 0).trans rfl; have hcz79_1 : w76.cell? ⟨gb303, 1, none⟩ = some (.slice none 0 0) := (blk_cell BK303.out 1).trans rfl; have hfz79_0 := blk_frozen BK303.out 0; have hfz79_1 := blk_frozen BK303.out 1)); try go_wp2_with (first | ((with_reducible refine gate_dst (N := 10) rfl ?_); (try (refine gate_guard (by rfl) ?_; dsimp only)); refine box_event ?hg (N := 10) ?hd (cs := #[.int .i64 0, .slice none 0 0]) (t := 45) ?hr ?_; (case hd => rfl); (case hg => rfl); (case hr => first | (go_simp; done) | (go_simp; rfl)); intro gb303 hg w76 hbox hb; have n0_ := Aside0.mk (Kd.R_below (by (with_reducible repeat (first | apply Kd.R_alloc | apply Kd.R_drewN | apply Kd.R_drew)); exact HO_300000.out) hb); have n1_ := Aside0.mk (Kd.S_below (Kd.S_elderB (by (with_reducible repeat (first | apply Kd.S_alloc | apply Kd.S_drewN | apply Kd.S_drew)); exact HO_300001.out) gb303 (Nat.le_of_eq hg.symm)) hb); have n2_ := Aside0.mk (blk_below (g := gb289) (o := .cells #[.slice (some ad301) l0_0.length c0_0, .slice (some ad302) l0_1.length c0_1] 25 (0, 0)) (by (with_reducible repeat (first | refine blk_drewN ?_ _ | refine blk_drew ?_ | refine blk_alloc ?_ _)); exact BK289.out) hb); have n3_ := Aside0.mk (blk_below (g := gb299) (o := .cells #[.slice (some ad300) t293.length co27, .slice Ao30 t296.length co30] 25 (0, 0)) (by (with_reducible repeat (first | refine blk_drewN ?_ _ | refine blk_drew ?_ | refine blk_alloc ?_ _)); exact BK299.out) hb); have n4_ := Aside0.mk (below_step (by repeat (first | (with_reducible first | exact HB.out | apply below_alloc | apply pw_below_drewN | apply below_drew1 | refine below_set ?_ GE289.out | refine below_set ?_ GE299.out) | exact HB.out)) hb); have n5_ := Aside0.mk (hbox); have n6_ := Aside0.mk ((by rw [hg]; exact (below_size (by repeat (first | (with_reducible first | exact HB.out | apply below_alloc | apply pw_below_drewN | apply below_drew1 | refine below_set ?_ GE289.out | refine below_set ?_ GE299.out) | exact HB.out))) : w.heap.size ≤ gb303)); have n7_ := Aside0.mk ((by rw [hg]; exact (below_size (by repeat (first | (with_reducible first | exact HB.out | apply below_alloc | apply pw_below_drewN | apply below_drew1 | refine below_set ?_ GE289.out | refine below_set ?_ GE299.out) | exact HB.out))) : w.heap.size ≤ gb303)); have n8_ := Aside0.mk ((by rw [hg]; exact Nat.ne_of_lt (blk_lt (g := gb289) (o := .cells #[.slice (some ad301) l0_0.length c0_0, .slice (some ad302) l0_1.length c0_1] 25 (0, 0)) (by (with_reducible repeat (first | refine blk_drewN ?_ _ | refine blk_drew ?_ | refine blk_alloc ?_ _)); exact BK289.out)) : gb289 ≠ gb303)); have n9_ := Aside0.mk ((by rw [hg]; exact Nat.ne_of_gt (blk_lt (g := gb289) (o := .cells #[.slice (some ad301) l0_0.length c0_0, .slice (some ad302) l0_1.length c0_1] 25 (0, 0)) (by (with_reducible repeat (first | refine blk_drewN ?_ _ | refine blk_drew ?_ | refine blk_alloc ?_ _)); exact BK289.out)) : gb303 ≠ gb289)); have n10_ := Aside0.mk ((by rw [hg]; exact Nat.ne_of_lt (blk_lt (g := gb299) (o := .cells #[.slice (some ad300) t293.length co27, .slice Ao30 t296.length co30] 25 (0, 0)) (by (with_reducible repeat (first | refine blk_drewN ?_ _ | refine blk_drew ?_ | refine blk_alloc ?_ _)); exact BK299.out)) : gb299 ≠ gb303)); have n11_ := Aside0.mk ((by rw [hg]; exact Nat.ne_of_gt (blk_lt (g := gb299) (o := .cells #[.slice (some ad300) t293.length co27, .slice Ao30 t296.length co30] 25 (0, 0)) (by (with_reducible repeat (first | refine blk_drewN ?_ _ | refine blk_drew ?_ | refine blk_alloc ?_ _)); exact BK299.out)) : gb303 ≠ gb299)); clear HO_300000; clear HO_300001; clear BK289; clear BK299; clear HB; have HO_300000 := n0_; have HO_300001 := n1_; have BK289 := n2_; have BK299 := n3_; have HB := n4_; have BK303 := n5_; have GW303 := n6_; have GE303 := n7_; have NB289_303 := n8_; have NB303_289 := n9_; have NB299_303 := n10_; have NB303_299 := n11_; clear n0_ n1_ n2_ n3_ n4_ n5_ n6_ n7_ n8_ n9_ n10_ n11_; clear hb hbox hg; have hnb77 := NB303_289.out; have hnc77 := NB289_303.out; have hnb78 := NB303_299.out; have hnc78 := NB299_303.out; have hcz79_0 : w76.cell? ⟨gb303, 0, none⟩ = some (.int .i64 0) := (blk_cell BK303.out 0).trans rfl; have hcz79_1 : w76.cell? ⟨gb303, 1, none⟩ = some (.slice none 0 0) := (blk_cell BK303.out 1).trans rfl; have hfz79_0 := blk_frozen BK303.out 0; have hfz79_1 := blk_frozen BK303.out 1)))
                                    go_roundg k4
                                    case measure => have := HJ3.out; have := HJ22.out; have := HK3.out; have := HK4.out; omega
                                    case rel => exact ⟨(false), (wrap64 (x9_4 + 1)), (by first | rfl | (simp; done) | (simp [*]; done)), (by first | rfl | (simp; done) | (simp [*]; done)), H', ⟨by have := HJ3.out; have := HJ22.out; have := HK3.out; have := HK4.out; omega⟩, ⟨by (with_reducible repeat (first | apply Kd.R_alloc | apply Kd.R_drewN | apply Kd.R_drew)); exact Kd.R_mono (Kd.R_far (p := ⟨gb303, 1, none⟩) (Kd.R_far (p := ⟨gb303, 0, none⟩) (Kd.R_types HO_300000.out BK303.out (by decide)) (fun _ hk => hk.2) (.int .i64 ((rd_T45 l0_1 x9_4).f0))) (fun _ hk => hk.2) (.slice A302_1 ((rd_T45 l0_1 x9_4).f1).length c302_1)) (fun _ hk => trivial)⟩, ⟨by (with_reducible repeat (first | apply Kd.S_alloc | apply Kd.S_drewN | apply Kd.S_drew)); exact Kd.S_mono (Kd.S_far (p := ⟨gb303, 1, none⟩) (Kd.S_far (p := ⟨gb303, 0, none⟩) (Kd.S_mono HO_300001.out (fun k_ hk => (⟨hk, hk.2⟩ : _ ∧ k_ ≠ gb303))) (fun _ hk => hk.2) (.int .i64 ((rd_T45 l0_1 x9_4).f0))) (fun _ hk => hk.2) (.slice A302_1 ((rd_T45 l0_1 x9_4).f1).length c302_1)) (fun _ hk => hk.1.1)⟩, ⟨by (with_reducible repeat (first | refine blk_drewN ?_ _ | refine blk_drew ?_ | refine blk_alloc ?_ _)); refine blk_far ?_ NB289_303.out _; (with_reducible repeat (first | refine blk_drewN ?_ _ | refine blk_drew ?_ | refine blk_alloc ?_ _)); refine blk_far ?_ NB289_303.out _; (with_reducible repeat (first | refine blk_drewN ?_ _ | refine blk_drew ?_ | refine blk_alloc ?_ _)); exact BK289.out⟩, ⟨by (with_reducible repeat (first | refine blk_drewN ?_ _ | refine blk_drew ?_ | refine blk_alloc ?_ _)); refine blk_far ?_ NB299_303.out _; (with_reducible repeat (first | refine blk_drewN ?_ _ | refine blk_drew ?_ | refine blk_alloc ?_ _)); refine blk_far ?_ NB299_303.out _; (with_reducible repeat (first | refine blk_drewN ?_ _ | refine blk_drew ?_ | refine blk_alloc ?_ _)); exact BK299.out⟩, ⟨by repeat (first | (with_reducible first | exact HB.out | apply below_alloc | apply pw_below_drewN | apply below_drew1 | refine below_set ?_ GE289.out | refine below_set ?_ GE299.out | refine below_set ?_ GE303.out) | exact HB.out)⟩⟩
                              · rw [if_neg c46] at H
                                exact absurd H (by simp)
                            · rw [if_neg c45] at H
                              have c45b0 : decide (x9_4 < (l0_1.length : Int)) = false := decide_eq_false c45
                              clear c45
                              by_cases c80 : x8_4 = true
                              · subst c80
                                have H1 : (wageofficelaw42_DiskTearing.l0 k4 t290 (wrap64 (x7_3 + 1)) l0_0 l0_1 t293 t296) = some r := by rw [if_pos rfl] at H; exact H
                                clear H
                                have H := H1
                                clear H1
                                have H' := Aside0.mk H
                                clear H
                                have hnb81 := NB289_299.out
                                have hnc81 := NB299_289.out
                                have hcz82_0 : wr.cell? ⟨gb289, 0, none⟩ = some (.slice (some ad301) l0_0.length c0_0) := (blk_cell BK289.out 0).trans rfl
                                have hcz82_1 : wr.cell? ⟨gb289, 1, none⟩ = some (.slice A0_1 l0_1.length c0_1) := (blk_cell BK289.out 1).trans rfl
                                have hfz82_0 := blk_frozen BK289.out 0
                                have hfz82_1 := blk_frozen BK289.out 1
                                go_wp2
                                repeat (go_quiet (fail); try go_wp2)
                                go_roundg k4
                                case measure => have := HJ3.out; have := HJ22.out; have := HK3.out; have := HK4.out; omega
                                case rel => exact ⟨(wrap64 (x7_3 + 1)), (by first | rfl | (simp; done) | (simp [*]; done)), H', ⟨by have := HJ3.out; have := HJ22.out; have := HK3.out; have := HK4.out; omega⟩, ⟨by (with_reducible repeat (first | apply Kd.R_alloc | apply Kd.R_drewN | apply Kd.R_drew)); exact HO_300000.out⟩, ⟨by (with_reducible repeat (first | apply Kd.S_alloc | apply Kd.S_drewN | apply Kd.S_drew)); exact HO_300001.out⟩, ⟨by (with_reducible repeat (first | refine blk_drewN ?_ _ | refine blk_drew ?_ | refine blk_alloc ?_ _)); exact BK289.out⟩, ⟨by (with_reducible repeat (first | refine blk_drewN ?_ _ | refine blk_drew ?_ | refine blk_alloc ?_ _)); exact BK299.out⟩, ⟨by repeat (first | (with_reducible first | exact HB.out | apply below_alloc | apply pw_below_drewN | apply below_drew1 | refine below_set ?_ GE289.out | refine below_set ?_ GE299.out) | exact HB.out)⟩⟩
                              · replace c80 := Bool.eq_false_iff.mpr c80
                                subst c80
                                have H1 : (some false) = some r := by rw [if_neg (show ¬ (false = true) by decide)] at H; exact H
                                clear H
                                have H := H1
                                clear H1
                                obtain rfl := Option.some.inj H
                                have hnb83 := NB289_299.out
                                have hnc83 := NB299_289.out
                                have hcz84_0 : wr.cell? ⟨gb289, 0, none⟩ = some (.slice (some ad301) l0_0.length c0_0) := (blk_cell BK289.out 0).trans rfl
                                have hcz84_1 : wr.cell? ⟨gb289, 1, none⟩ = some (.slice A0_1 l0_1.length c0_1) := (blk_cell BK289.out 1).trans rfl
                                have hfz84_0 := blk_frozen BK289.out 0
                                have hfz84_1 := blk_frozen BK289.out 1
                                go_wp2
                                repeat (go_quiet (fail); try go_wp2)
                                go_ret
                                exact ⟨by first | rfl | (simp [errW_none, errW_some] <;> rfl) | (simp [*, errW_none, errW_some] <;> rfl), by repeat (first | (with_reducible first | exact HB.out | apply below_alloc | apply pw_below_drewN | apply below_drew1 | refine below_set ?_ GE289.out | refine below_set ?_ GE299.out) | exact HB.out)⟩
                      · rw [if_neg c41] at H
                        exact absurd H (by simp)
                    · rw [if_neg c40] at H
                      exact absurd H (by simp)
                  · rw [if_neg c39] at H
                    have c39b0 : decide (x7_3 < (l0_0.length : Int)) = false := decide_eq_false c39
                    clear c39
                    obtain rfl := Option.some.inj H
                    have hnb85 := NB289_299.out
                    have hnc85 := NB299_289.out
                    have hcz86_0 : wr.cell? ⟨gb289, 0, none⟩ = some (.slice A0_0 l0_0.length c0_0) := (blk_cell BK289.out 0).trans rfl
                    have hcz86_1 : wr.cell? ⟨gb289, 1, none⟩ = some (.slice A0_1 l0_1.length c0_1) := (blk_cell BK289.out 1).trans rfl
                    have hfz86_0 := blk_frozen BK289.out 0
                    have hfz86_1 := blk_frozen BK289.out 1
                    go_wp2
                    repeat (go_quiet (fail); try go_wp2)
                    go_ret
                    exact ⟨by first | rfl | (simp [errW_none, errW_some] <;> rfl) | (simp [*, errW_none, errW_some] <;> rfl), by repeat (first | (with_reducible first | exact HB.out | apply below_alloc | apply pw_below_drewN | apply below_drew1 | refine below_set ?_ GE289.out | refine below_set ?_ GE299.out) | exact HB.out)⟩

-- NOT PRINTED: function 9 (wageofficelaw42_DiskIndependence)

end Go.Proofs.Ytfpdmlhknddffaa.Dk
