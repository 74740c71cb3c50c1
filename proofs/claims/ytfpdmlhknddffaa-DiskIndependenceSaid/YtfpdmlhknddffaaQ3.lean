/- Printed by a program of this session: contracts of functions that the Disk statements reach. -/
import Derived.Test.YtfpdmlhknddffaaQ0
import Derived.Test.YtfpdmlhknddffaaQ2
namespace Go.Proofs.Ytfpdmlhknddffaa.Dk
open Go.RowKit Go.Proofs.YtfpdmlhknddffaaW.PrintWords Go.Proofs.YtfpdmlhknddffaaW.PrintLast Go.Proofs.YtfpdmlhknddffaaW.PrintMore
attribute [local go_sem] max2_int min2_int max_two min_two max_three min_three max_four min_four   -- for this text's walks alone
set_option linter.unusedVariables false
set_option linter.unusedSimpArgs false

/-! ### wageofficeref42_Write: function 22 -/
mutual
def wageofficeref42_Write.j0 : Nat → Int → List Int → Bool → List Int → List (S45) → Option (List Int × (List (S45)) × Int)
  | 0, _, _, _, _, _ => none
  | k + 1, x1, x2, x26, x149000, x149001 => if x26 = true then (some (([] : List Int), ([] : List (S45)), 1)) else (if (x149001.length : Int) = 64 then (some (([] : List Int), ([] : List (S45)), 2)) else ((wageofficeref42_Copy.f k x149000).bind fun t151 => (wageofficeref42_Write.l0 k x1 x2 0 x149000 x149001 t151 ([] : List (S45)))))
def wageofficeref42_Write.l0 : Nat → Int → List Int → Int → List Int → List (S45) → List Int → List (S45) → Option (List Int × (List (S45)) × Int)
  | 0, _, _, _, _, _, _, _ => none
  | k + 1, x1, x2, x9, x149000, x149001, x155000, x155001 => if x9 < (x149001.length : Int) then (if 0 ≤ x9 then ((wageofficeref42_Copy.f k ((rd_T45 x149001 x9).f1)).bind fun t157 => (if x155001.length < 4398046511104 then (wageofficeref42_Write.l0 k x1 x2 (wrap64 (x9 + 1)) x149000 x149001 x155000 (x155001 ++ [(⟨(rd_T45 x149001 x9).f0, t157⟩ : S45)])) else (none))) else (none)) else ((wageofficeref42_Copy.f k x2).bind fun t163 => (if x155001.length < 4398046511104 then (some (x155000, (x155001 ++ [(⟨x1, t163⟩ : S45)]), 0)) else (none)))
end
def wageofficeref42_Write.f (k : Nat) (l0_0 : List Int) (l0_1 : List (S45)) (a1 : Int) (l2 : List Int) : Option (List Int × (List (S45)) × Int) := (wageofficeref42_Valid.f k l0_0 l0_1).bind fun t150 => (if t150 = true then (if a1 < 0 then (wageofficeref42_Write.j0 k a1 l2 true l0_0 l0_1) else (wageofficeref42_Write.j0 k a1 l2 (decide (a1 > (wrap64 ((l0_0.length : Int) - (l2.length : Int))))) l0_0 l0_1)) else (wageofficeref42_Write.j0 k a1 l2 true l0_0 l0_1))
theorem wageofficeref42_Write.mono_l : ∀ k, (∀ y0 y1 y2 y3 y4, LeO (wageofficeref42_Write.j0 k y0 y1 y2 y3 y4) (wageofficeref42_Write.j0 (k + 1) y0 y1 y2 y3 y4)) ∧ (∀ y0 y1 y2 y3 y4 y5 y6, LeO (wageofficeref42_Write.l0 k y0 y1 y2 y3 y4 y5 y6) (wageofficeref42_Write.l0 (k + 1) y0 y1 y2 y3 y4 y5 y6))
  | 0 => ⟨fun _ _ _ _ _ r h => by simp [wageofficeref42_Write.j0] at h, fun _ _ _ _ _ _ _ r h => by simp [wageofficeref42_Write.l0] at h⟩
  | k + 1 => by
    obtain ⟨ih0, ih1⟩ := wageofficeref42_Write.mono_l k
    refine ⟨?_, ?_⟩
    · intro y0 y1 y2 y3 y4
      unfold wageofficeref42_Write.j0
      repeat' first
      | (with_reducible exact ih0 _ _ _ _ _)
      | (with_reducible exact ih1 _ _ _ _ _ _ _)
      | (with_reducible exact wageofficeref42_Copy.mono _ _)
      | (with_reducible exact wageofficeref42_Valid.mono _ _ _)
      | (with_reducible exact LeO.refl _)
      | (with_reducible exact LeO.none _)
      | (with_reducible refine LeO.ite ?_ ?_)
      | (with_reducible refine LeO.bind ?_ (fun _ => ?_))
      | exact ih0 _ _ _ _ _
      | exact ih1 _ _ _ _ _ _ _
      | exact wageofficeref42_Copy.mono _ _
      | exact wageofficeref42_Valid.mono _ _ _
      | exact LeO.none _
      | refine LeO.ite ?_ ?_
      | refine LeO.bind ?_ (fun _ => ?_)
    · intro y0 y1 y2 y3 y4 y5 y6
      unfold wageofficeref42_Write.l0
      repeat' first
      | (with_reducible exact ih0 _ _ _ _ _)
      | (with_reducible exact ih1 _ _ _ _ _ _ _)
      | (with_reducible exact wageofficeref42_Copy.mono _ _)
      | (with_reducible exact wageofficeref42_Valid.mono _ _ _)
      | (with_reducible exact LeO.refl _)
      | (with_reducible exact LeO.none _)
      | (with_reducible refine LeO.ite ?_ ?_)
      | (with_reducible refine LeO.bind ?_ (fun _ => ?_))
      | exact ih0 _ _ _ _ _
      | exact ih1 _ _ _ _ _ _ _
      | exact wageofficeref42_Copy.mono _ _
      | exact wageofficeref42_Valid.mono _ _ _
      | exact LeO.none _
      | refine LeO.ite ?_ ?_
      | refine LeO.bind ?_ (fun _ => ?_)
theorem wageofficeref42_Write.mono : ∀ a0 a1 a2 a3 k, LeO (wageofficeref42_Write.f k a0 a1 a2 a3) (wageofficeref42_Write.f (k + 1) a0 a1 a2 a3) := by
  intro a0 a1 a2 a3 k
  obtain ⟨ih0, ih1⟩ := wageofficeref42_Write.mono_l k
  unfold wageofficeref42_Write.f
  repeat' first
      | (with_reducible exact ih0 _ _ _ _ _)
      | (with_reducible exact ih1 _ _ _ _ _ _ _)
      | (with_reducible exact wageofficeref42_Copy.mono _ _)
      | (with_reducible exact wageofficeref42_Valid.mono _ _ _)
      | (with_reducible exact LeO.refl _)
      | (with_reducible exact LeO.none _)
      | (with_reducible refine LeO.ite ?_ ?_)
      | (with_reducible refine LeO.bind ?_ (fun _ => ?_))
      | exact ih0 _ _ _ _ _
      | exact ih1 _ _ _ _ _ _ _
      | exact wageofficeref42_Copy.mono _ _
      | exact wageofficeref42_Valid.mono _ _ _
      | exact LeO.none _
      | refine LeO.ite ?_ ?_
      | refine LeO.bind ?_ (fun _ => ?_)
def wageofficeref42_Write.T9 : Bool × List (List Nat × List Nat) := (true, [([], []), ([0], [0]), ([], []), ([2], [2]), ([], []), ([3, 4], [3, 4]), ([5], [5]), ([6], [6]), ([], []), ([8], [8]), ([], []), ([9, 10], [9, 10]), ([11], [11]), ([12], [12]), ([13], [13]), ([7, 14], [7, 14]), ([15], [15]), ([1, 16, 14], [1, 16]), ([0, 1, 2, 3, 4, 5, 6, 7, 8, 9, 10, 11, 12, 13, 14, 15, 16, 17], []), ([18, 17, 17, 0, 1, 2, 3, 4, 5, 6, 7, 8, 9, 10, 11, 12, 13, 14, 15, 16, 17], [17, 18])])
def wageofficeref42_Write.B9 : List Nat := [0, 1, 0, 4, 0, 28, 60, 124, 0, 256, 0, 1792, 3840, 7936, 16128, 32764, 65532, 131071, 262143, 524287]
theorem wageofficeref42_Write.tab9 : rtab .any (opsOf Try.f22 9) = wageofficeref42_Write.T9 := by kernel_rfl
theorem wageofficeref42_Write.bits9 : waitsOk wageofficeref42_Write.T9.2 wageofficeref42_Write.B9 = true := by kernel_rfl
def wageofficeref42_Write.T10 : Bool × List (List Nat × List Nat) := (true, [([], []), ([0], [0]), ([], []), ([], []), ([3], [3]), ([2, 4], [2, 4]), ([5], [5]), ([1, 6, 4], [1, 6]), ([0, 1, 2, 3, 4, 5, 6, 7], []), ([8, 7, 7, 0, 1, 2, 3, 4, 5, 6, 7], [7, 8])])
def wageofficeref42_Write.B10 : List Nat := [0, 1, 0, 0, 8, 28, 60, 127, 255, 511]
theorem wageofficeref42_Write.tab10 : rtab .any (opsOf Try.f22 10) = wageofficeref42_Write.T10 := by kernel_rfl
theorem wageofficeref42_Write.bits10 : waitsOk wageofficeref42_Write.T10.2 wageofficeref42_Write.B10 = true := by kernel_rfl
set_option maxHeartbeats 8000000 in
set_option maxRecDepth 100000 in
theorem wageofficeref42_Write.calls (k : Nat) (A0_0 : Option Addr) (c0_0 : Nat) (l0_0 : List Int) (A0_1 : Option Addr) (c0_1 : Nat) (l0_1 : List (S45)) (a1 : Int) (A2 : Option Addr) (c2 : Nat) (l2 : List Int) (r1 : List Int) (r2 : List (S45)) (r3 : Int) (w : World) (hr0_0 : Kd.C (Kd.int .u8) w A0_0 l0_0.length l0_0) (hc0_0 : l0_0.length ≤ c0_0) (hr0_1 : Kd.C k45 w A0_1 l0_1.length l0_1) (hc0_1 : l0_1.length ≤ c0_1) (hr2 : Kd.C (Kd.int .u8) w A2 l2.length l2) (hc2 : l2.length ≤ c2) (h : wageofficeref42_Write.f k l0_0 l0_1 a1 l2 = some (r1, r2, r3)) :
    Calls Try.prog 22 #[.agg #[.slice A0_0 l0_0.length c0_0, .slice A0_1 l0_1.length c0_1], .int .i64 a1, .slice A2 l2.length c2] w fun e w' => ∃ v0_ v1_ : Value, e = .returned (.tuple #[.agg #[v0_, v1_], .int .i64 r3]) ∧ Kd.R (Kd.int .u8) 5 w' w.heap.size (fun _ => True) v0_ r1 ∧ Kd.S k45 45 w' w.heap.size (fun k_ => some k_ ≠ (v0_ : Value).ownBlock) v1_ r2 ∧ Below w.heap.size w w' := by
  have hu25 := Try.underlying25
  have hu45 := Try.underlying45
  have HR0_0 := Aside0.mk hr0_0
  have HC0_0 := Aside0.mk hc0_0
  clear hr0_0 hc0_0
  have HR0_1 := Aside0.mk hr0_1
  have HC0_1 := Aside0.mk hc0_1
  clear hr0_1 hc0_1
  have HR2 := Aside0.mk hr2
  have HC2 := Aside0.mk hc2
  clear hr2 hc2
  have HB := Aside0.mk (Below.refl w.heap.size w)
  have H : ((wageofficeref42_Valid.f k l0_0 l0_1).bind fun t150 => (if t150 = true then (if a1 < 0 then (wageofficeref42_Write.j0 k a1 l2 true l0_0 l0_1) else (wageofficeref42_Write.j0 k a1 l2 (decide (a1 > (wrap64 ((l0_0.length : Int) - (l2.length : Int))))) l0_0 l0_1)) else (wageofficeref42_Write.j0 k a1 l2 true l0_0 l0_1))) = some (r1, r2, r3) := h
  clear h
  have HC4 := Aside0.mk H
  clear H
  go_enter Try.func22, Try.ntmps22
  go_upto_region 1 with (first | ((with_reducible refine gate_dst (N := 3) rfl ?_); (try (refine gate_guard (by rfl) ?_; dsimp only)); refine box_event ?hg (N := 3) ?hd (cs := #[.slice A0_0 l0_0.length c0_0, .slice A0_1 l0_1.length c0_1]) (t := 25) ?hr ?_; (case hd => rfl); (case hg => rfl); (case hr => first | (go_simp; done) | (go_simp; rfl)); intro gb148 hg w5 hbox hb; have n0_ := Aside0.mk (below_step (by repeat (first | (with_reducible first | exact HB.out | apply below_alloc | apply pw_below_drewN | apply below_drew1) | exact HB.out)) hb); have n1_ := Aside0.mk (hbox); have n2_ := Aside0.mk ((by rw [hg]; exact (below_size (by repeat (first | (with_reducible first | exact HB.out | apply below_alloc | apply pw_below_drewN | apply below_drew1) | exact HB.out))) : w.heap.size ≤ gb148)); have n3_ := Aside0.mk ((by rw [hg]; exact (below_size (by repeat (first | (with_reducible first | exact HB.out | apply below_alloc | apply pw_below_drewN | apply below_drew1) | exact HB.out))) : w.heap.size ≤ gb148)); clear HB; have HB := n0_; have BK148 := n1_; have GW148 := n2_; have GE148 := n3_; clear n0_ n1_ n2_ n3_; clear hb hbox hg) | ((with_reducible refine gate_dst (N := 6) rfl ?_); (try (refine gate_guard (by rfl) ?_; dsimp only)); refine box_event ?hg (N := 6) ?hd (cs := #[.slice none 0 0, .slice none 0 0]) (t := 25) ?hr ?_; (case hd => rfl); (case hg => rfl); (case hr => first | (go_simp; done) | (go_simp; rfl)); intro gb149 hg w6 hbox hb; have n0_ := Aside0.mk (blk_below (g := gb148) (o := .cells #[.slice A0_0 l0_0.length c0_0, .slice A0_1 l0_1.length c0_1] 25 (0, 0)) (by (with_reducible repeat (first | refine blk_drewN ?_ _ | refine blk_drew ?_ | refine blk_alloc ?_ _)); exact BK148.out) hb); have n1_ := Aside0.mk (below_step (by repeat (first | (with_reducible first | exact HB.out | apply below_alloc | apply pw_below_drewN | apply below_drew1 | refine below_set ?_ GE148.out) | exact HB.out)) hb); have n2_ := Aside0.mk (hbox); have n3_ := Aside0.mk ((by rw [hg]; exact (below_size (by repeat (first | (with_reducible first | exact HB.out | apply below_alloc | apply pw_below_drewN | apply below_drew1 | refine below_set ?_ GE148.out) | exact HB.out))) : w.heap.size ≤ gb149)); have n4_ := Aside0.mk ((by rw [hg]; exact (below_size (by repeat (first | (with_reducible first | exact HB.out | apply below_alloc | apply pw_below_drewN | apply below_drew1 | refine below_set ?_ GE148.out) | exact HB.out))) : w.heap.size ≤ gb149)); have n5_ := Aside0.mk ((by rw [hg]; exact Nat.ne_of_lt (blk_lt (g := gb148) (o := .cells #[.slice A0_0 l0_0.length c0_0, .slice A0_1 l0_1.length c0_1] 25 (0, 0)) (by (with_reducible repeat (first | refine blk_drewN ?_ _ | refine blk_drew ?_ | refine blk_alloc ?_ _)); exact BK148.out)) : gb148 ≠ gb149)); have n6_ := Aside0.mk ((by rw [hg]; exact Nat.ne_of_gt (blk_lt (g := gb148) (o := .cells #[.slice A0_0 l0_0.length c0_0, .slice A0_1 l0_1.length c0_1] 25 (0, 0)) (by (with_reducible repeat (first | refine blk_drewN ?_ _ | refine blk_drew ?_ | refine blk_alloc ?_ _)); exact BK148.out)) : gb149 ≠ gb148)); clear BK148; clear HB; have BK148 := n0_; have HB := n1_; have BK149 := n2_; have GW149 := n3_; have GE149 := n4_; have NB148_149 := n5_; have NB149_148 := n6_; clear n0_ n1_ n2_ n3_ n4_ n5_ n6_; clear hb hbox hg))
  (try simp only [Act.put, List.setIfInBounds_toArray, List.set_cons_zero, List.set_cons_succ])
  go_cut [26] (fun v26 wc => ∃ (kq : Nat) (x26_3 : Bool), v26 = .bool x26_3 ∧ Aside0 (wageofficeref42_Write.j0 kq a1 l2 x26_3 l0_0 l0_1 = some (r1, r2, r3)) ∧ Aside0 (kq ≤ k) ∧ Aside0 (wc.heap[gb148]? = some (.cells #[(.slice A0_0 l0_0.length c0_0), (.slice A0_1 l0_1.length c0_1)] 25 (0, 0))) ∧ Aside0 (wc.heap[gb149]? = some (.cells #[(.slice none 0 0), (.slice none 0 0)] 25 (0, 0))) ∧ Aside0 (Below w.heap.size w wc))
  case first =>
    have H := HC4.out
    clear HC4
    replace H := Option.bind_eq_some_iff.mp H
    obtain ⟨t150, A70, H⟩ := H
    replace H : (if t150 = true then (if a1 < 0 then (wageofficeref42_Write.j0 k a1 l2 true l0_0 l0_1) else (wageofficeref42_Write.j0 k a1 l2 (decide (a1 > (wrap64 ((l0_0.length : Int) - (l2.length : Int))))) l0_0 l0_1)) else (wageofficeref42_Write.j0 k a1 l2 true l0_0 l0_1)) = some (r1, r2, r3) := H
    have A7 := Aside0.mk A70
    clear A70
    by_cases c8 : t150 = true
    · subst c8
      have H1 : (if a1 < 0 then (wageofficeref42_Write.j0 k a1 l2 true l0_0 l0_1) else (wageofficeref42_Write.j0 k a1 l2 (decide (a1 > (wrap64 ((l0_0.length : Int) - (l2.length : Int))))) l0_0 l0_1)) = some (r1, r2, r3) := by rw [if_pos rfl] at H; exact H
      clear H
      have H := H1
      clear H1
      by_cases c9 : a1 < 0
      · rw [if_pos c9] at H
        have c9b0 : decide (a1 < 0) = true := decide_eq_true c9
        clear c9
        (first | rw [c9b0] | (simp only [i64_w, i32_w]; rw [c9b0]) | skip)
        have H' := Aside0.mk H
        clear H
        have hnb10 := NB148_149.out
        have hnc10 := NB149_148.out
        have hcz11_0 : w6.cell? ⟨gb148, 0, none⟩ = some (.slice A0_0 l0_0.length c0_0) := (blk_cell BK148.out 0).trans rfl
        have hcz11_1 : w6.cell? ⟨gb148, 1, none⟩ = some (.slice A0_1 l0_1.length c0_1) := (blk_cell BK148.out 1).trans rfl
        have hfz11_0 := blk_frozen BK148.out 0
        have hfz11_1 := blk_frozen BK148.out 1
        go_wp2_with (first | ((with_reducible refine gate_callee (f := 31) rfl ?_); refine goesL_ (some 11) rfl rfl Try.func31 (by kernel_rfl) rfl #[.agg #[.slice A0_0 l0_0.length c0_0, .slice A0_1 l0_1.length c0_1]] rfl (by (try simp only [List.map_toArray, List.map_cons, List.map_nil]); first | done | rfl | (simp only [List.length_drop, List.length_take]; rfl)) ?_; (with_reducible refine (wageofficeref42_Valid.calls k _ _ l0_0 _ _ l0_1 true _ ?side1 ?side2 ?side3 ?side4 A7.out).mono ?_); (case side1 => repeat (first | exact (Kd.C_below HR0_0.out HB.out) | (with_reducible refine Kd.C_alloc ?_ _) | (with_reducible refine Kd.C_drewN ?_ _) | (with_reducible refine Kd.C_drew ?_))); (case side2 => exact HC0_0.out); (case side3 => repeat (first | exact (Kd.C_below HR0_1.out HB.out) | (with_reducible refine Kd.C_alloc ?_ _) | (with_reducible refine Kd.C_drewN ?_ _) | (with_reducible refine Kd.C_drew ?_))); (case side4 => exact HC0_1.out); rintro e w12 ⟨rfl, hb⟩; refine ⟨_, rfl, ?_⟩; have n0_ := Aside0.mk (blk_below (g := gb148) (o := .cells #[.slice A0_0 l0_0.length c0_0, .slice A0_1 l0_1.length c0_1] 25 (0, 0)) (by (with_reducible repeat (first | refine blk_drewN ?_ _ | refine blk_drew ?_ | refine blk_alloc ?_ _)); exact BK148.out) hb); have n1_ := Aside0.mk (blk_below (g := gb149) (o := .cells #[.slice none 0 0, .slice none 0 0] 25 (0, 0)) (by (with_reducible repeat (first | refine blk_drewN ?_ _ | refine blk_drew ?_ | refine blk_alloc ?_ _)); exact BK149.out) hb); have n2_ := Aside0.mk (below_step (by repeat (first | (with_reducible first | exact HB.out | apply below_alloc | apply pw_below_drewN | apply below_drew1 | refine below_set ?_ GE148.out | refine below_set ?_ GE149.out) | exact HB.out)) hb); clear BK148; clear BK149; clear HB; have BK148 := n0_; have BK149 := n1_; have HB := n2_; clear n0_ n1_ n2_; (try clear hb); (try clear hb2); (try clear hk); (try clear hi)))
        go_meet
        case rel => exact ⟨_, (true), (by first | rfl | (simp; done) | (simp [*]; done)), H', ⟨by first | omega | exact Nat.le_refl _⟩, ⟨by (with_reducible repeat (first | refine blk_drewN ?_ _ | refine blk_drew ?_ | refine blk_alloc ?_ _)); exact BK148.out⟩, ⟨by (with_reducible repeat (first | refine blk_drewN ?_ _ | refine blk_drew ?_ | refine blk_alloc ?_ _)); exact BK149.out⟩, ⟨by repeat (first | (with_reducible first | exact HB.out | apply below_alloc | apply pw_below_drewN | apply below_drew1 | refine below_set ?_ GE148.out | refine below_set ?_ GE149.out) | exact HB.out)⟩⟩
      · rw [if_neg c9] at H
        have c9b0 : decide (a1 < 0) = false := decide_eq_false c9
        clear c9
        (first | rw [c9b0] | (simp only [i64_w, i32_w]; rw [c9b0]) | skip)
        have H' := Aside0.mk H
        clear H
        have hnb13 := NB148_149.out
        have hnc13 := NB149_148.out
        have hcz14_0 : w6.cell? ⟨gb148, 0, none⟩ = some (.slice A0_0 l0_0.length c0_0) := (blk_cell BK148.out 0).trans rfl
        have hcz14_1 : w6.cell? ⟨gb148, 1, none⟩ = some (.slice A0_1 l0_1.length c0_1) := (blk_cell BK148.out 1).trans rfl
        have hfz14_0 := blk_frozen BK148.out 0
        have hfz14_1 := blk_frozen BK148.out 1
        go_wp2_with (first | ((with_reducible refine gate_callee (f := 31) rfl ?_); refine goesL_ (some 11) rfl rfl Try.func31 (by kernel_rfl) rfl #[.agg #[.slice A0_0 l0_0.length c0_0, .slice A0_1 l0_1.length c0_1]] rfl (by (try simp only [List.map_toArray, List.map_cons, List.map_nil]); first | done | rfl | (simp only [List.length_drop, List.length_take]; rfl)) ?_; (with_reducible refine (wageofficeref42_Valid.calls k _ _ l0_0 _ _ l0_1 true _ ?side1 ?side2 ?side3 ?side4 A7.out).mono ?_); (case side1 => repeat (first | exact (Kd.C_below HR0_0.out HB.out) | (with_reducible refine Kd.C_alloc ?_ _) | (with_reducible refine Kd.C_drewN ?_ _) | (with_reducible refine Kd.C_drew ?_))); (case side2 => exact HC0_0.out); (case side3 => repeat (first | exact (Kd.C_below HR0_1.out HB.out) | (with_reducible refine Kd.C_alloc ?_ _) | (with_reducible refine Kd.C_drewN ?_ _) | (with_reducible refine Kd.C_drew ?_))); (case side4 => exact HC0_1.out); rintro e w15 ⟨rfl, hb⟩; refine ⟨_, rfl, ?_⟩; have n0_ := Aside0.mk (blk_below (g := gb148) (o := .cells #[.slice A0_0 l0_0.length c0_0, .slice A0_1 l0_1.length c0_1] 25 (0, 0)) (by (with_reducible repeat (first | refine blk_drewN ?_ _ | refine blk_drew ?_ | refine blk_alloc ?_ _)); exact BK148.out) hb); have n1_ := Aside0.mk (blk_below (g := gb149) (o := .cells #[.slice none 0 0, .slice none 0 0] 25 (0, 0)) (by (with_reducible repeat (first | refine blk_drewN ?_ _ | refine blk_drew ?_ | refine blk_alloc ?_ _)); exact BK149.out) hb); have n2_ := Aside0.mk (below_step (by repeat (first | (with_reducible first | exact HB.out | apply below_alloc | apply pw_below_drewN | apply below_drew1 | refine below_set ?_ GE148.out | refine below_set ?_ GE149.out) | exact HB.out)) hb); clear BK148; clear BK149; clear HB; have BK148 := n0_; have BK149 := n1_; have HB := n2_; clear n0_ n1_ n2_; (try clear hb); (try clear hb2); (try clear hk); (try clear hi); have hcz16_0 : w15.cell? ⟨gb148, 0, none⟩ = some (.slice A0_0 l0_0.length c0_0) := (blk_cell BK148.out 0).trans rfl; have hcz16_1 : w15.cell? ⟨gb148, 1, none⟩ = some (.slice A0_1 l0_1.length c0_1) := (blk_cell BK148.out 1).trans rfl; have hfz16_0 := blk_frozen BK148.out 0; have hfz16_1 := blk_frozen BK148.out 1))
        go_meet
        case rel => exact ⟨_, (decide (a1 > (wrap64 ((l0_0.length : Int) - (l2.length : Int))))), (by first | rfl | (simp; done) | (simp [*]; done)), H', ⟨by first | omega | exact Nat.le_refl _⟩, ⟨by (with_reducible repeat (first | refine blk_drewN ?_ _ | refine blk_drew ?_ | refine blk_alloc ?_ _)); exact BK148.out⟩, ⟨by (with_reducible repeat (first | refine blk_drewN ?_ _ | refine blk_drew ?_ | refine blk_alloc ?_ _)); exact BK149.out⟩, ⟨by repeat (first | (with_reducible first | exact HB.out | apply below_alloc | apply pw_below_drewN | apply below_drew1 | refine below_set ?_ GE148.out | refine below_set ?_ GE149.out) | exact HB.out)⟩⟩
    · replace c8 := Bool.eq_false_iff.mpr c8
      subst c8
      have H1 : (wageofficeref42_Write.j0 k a1 l2 true l0_0 l0_1) = some (r1, r2, r3) := by rw [if_neg (show ¬ (false = true) by decide)] at H; exact H
      clear H
      have H := H1
      clear H1
      have H' := Aside0.mk H
      clear H
      have hnb17 := NB148_149.out
      have hnc17 := NB149_148.out
      have hcz18_0 : w6.cell? ⟨gb148, 0, none⟩ = some (.slice A0_0 l0_0.length c0_0) := (blk_cell BK148.out 0).trans rfl
      have hcz18_1 : w6.cell? ⟨gb148, 1, none⟩ = some (.slice A0_1 l0_1.length c0_1) := (blk_cell BK148.out 1).trans rfl
      have hfz18_0 := blk_frozen BK148.out 0
      have hfz18_1 := blk_frozen BK148.out 1
      go_wp2_with (first | ((with_reducible refine gate_callee (f := 31) rfl ?_); refine goesL_ (some 11) rfl rfl Try.func31 (by kernel_rfl) rfl #[.agg #[.slice A0_0 l0_0.length c0_0, .slice A0_1 l0_1.length c0_1]] rfl (by (try simp only [List.map_toArray, List.map_cons, List.map_nil]); first | done | rfl | (simp only [List.length_drop, List.length_take]; rfl)) ?_; (with_reducible refine (wageofficeref42_Valid.calls k _ _ l0_0 _ _ l0_1 false _ ?side1 ?side2 ?side3 ?side4 A7.out).mono ?_); (case side1 => repeat (first | exact (Kd.C_below HR0_0.out HB.out) | (with_reducible refine Kd.C_alloc ?_ _) | (with_reducible refine Kd.C_drewN ?_ _) | (with_reducible refine Kd.C_drew ?_))); (case side2 => exact HC0_0.out); (case side3 => repeat (first | exact (Kd.C_below HR0_1.out HB.out) | (with_reducible refine Kd.C_alloc ?_ _) | (with_reducible refine Kd.C_drewN ?_ _) | (with_reducible refine Kd.C_drew ?_))); (case side4 => exact HC0_1.out); rintro e w19 ⟨rfl, hb⟩; refine ⟨_, rfl, ?_⟩; have n0_ := Aside0.mk (blk_below (g := gb148) (o := .cells #[.slice A0_0 l0_0.length c0_0, .slice A0_1 l0_1.length c0_1] 25 (0, 0)) (by (with_reducible repeat (first | refine blk_drewN ?_ _ | refine blk_drew ?_ | refine blk_alloc ?_ _)); exact BK148.out) hb); have n1_ := Aside0.mk (blk_below (g := gb149) (o := .cells #[.slice none 0 0, .slice none 0 0] 25 (0, 0)) (by (with_reducible repeat (first | refine blk_drewN ?_ _ | refine blk_drew ?_ | refine blk_alloc ?_ _)); exact BK149.out) hb); have n2_ := Aside0.mk (below_step (by repeat (first | (with_reducible first | exact HB.out | apply below_alloc | apply pw_below_drewN | apply below_drew1 | refine below_set ?_ GE148.out | refine below_set ?_ GE149.out) | exact HB.out)) hb); clear BK148; clear BK149; clear HB; have BK148 := n0_; have BK149 := n1_; have HB := n2_; clear n0_ n1_ n2_; (try clear hb); (try clear hb2); (try clear hk); (try clear hi)))
      go_meet
      case rel => exact ⟨_, (true), (by first | rfl | (simp; done) | (simp [*]; done)), H', ⟨by first | omega | exact Nat.le_refl _⟩, ⟨by (with_reducible repeat (first | refine blk_drewN ?_ _ | refine blk_drew ?_ | refine blk_alloc ?_ _)); exact BK148.out⟩, ⟨by (with_reducible repeat (first | refine blk_drewN ?_ _ | refine blk_drew ?_ | refine blk_alloc ?_ _)); exact BK149.out⟩, ⟨by repeat (first | (with_reducible first | exact HB.out | apply below_alloc | apply pw_below_drewN | apply below_drew1 | refine below_set ?_ GE148.out | refine below_set ?_ GE149.out) | exact HB.out)⟩⟩
  case rest =>
    clear HC4
    try clear c1
    try clear c2
    try clear p2
    try clear c3
    try clear p6
    try clear c8
    try clear c9
    try clear c9b0
    try clear c10
    try clear c13
    try clear c17
    try clear hcz11_0
    try clear hcz11_1
    try clear hcz14_0
    try clear hcz14_1
    try clear hcz16_0
    try clear hcz16_1
    try clear hcz18_0
    try clear hcz18_1
    try clear hfz11_0
    try clear hfz11_1
    try clear hfz14_0
    try clear hfz14_1
    try clear hfz16_0
    try clear hfz16_1
    try clear hfz18_0
    try clear hfz18_1
    obtain ⟨kq, x26_3, rfl, HA, HJ3, BK148, BK149, HB⟩ := hcut
    cases kq with
    | zero => exact absurd HA.out (by simp [wageofficeref42_Write.j0])
    | succ kj3 =>
      have H := HA.out
      clear HA
      simp only [wageofficeref42_Write.j0] at H
      by_cases c20 : x26_3 = true
      · subst c20
        have H1 : (some (([] : List Int), ([] : List (S45)), 1)) = some (r1, r2, r3) := by rw [if_pos rfl] at H; exact H
        clear H
        have H := H1
        clear H1
        simp only [Option.some.injEq, Prod.mk.injEq] at H
        obtain ⟨rfl, rfl, rfl⟩ := H
        have hnb21 := NB149_148.out
        have hnc21 := NB148_149.out
        have hcz22_0 : wc.cell? ⟨gb149, 0, none⟩ = some (.slice none 0 0) := (blk_cell BK149.out 0).trans rfl
        have hcz22_1 : wc.cell? ⟨gb149, 1, none⟩ = some (.slice none 0 0) := (blk_cell BK149.out 1).trans rfl
        have hfz22_0 := blk_frozen BK149.out 0
        have hfz22_1 := blk_frozen BK149.out 1
        go_wp2
        refine bodyPost_ret (results_ct rfl _ _ gb149 25 #[.slice none 0 0, .slice none 0 0] (0, 0) _ rfl (by (with_reducible repeat (first | refine blk_drewN ?_ _ | refine blk_drew ?_ | refine blk_alloc ?_ _)); refine blk_put (cs := #[.slice none 0 0, .slice none 0 0]) ?_ 1 _ rfl; (with_reducible repeat (first | refine blk_drewN ?_ _ | refine blk_drew ?_ | refine blk_alloc ?_ _)); refine blk_put (cs := #[.slice none 0 0, .slice none 0 0]) ?_ 0 _ rfl; (with_reducible repeat (first | refine blk_drewN ?_ _ | refine blk_drew ?_ | refine blk_alloc ?_ _)); exact BK149.out) Try.underlying25 rfl (by kernel_rfl)) rfl ?_
        exact ⟨_, _, by first | rfl | (simp [errW_none, errW_some] <;> rfl) | (simp [*, errW_none, errW_some] <;> rfl), by first | exact Kd.R_nil _ _ _ _ _ | exact Kd.N_nil _ _ _ _ _ | exact Kd.V_nil _ _ _ _ _ | exact Kd.Q_nil _ _ _ _ _ | exact Kd.S_nil _ _ _ _ _, by first | exact Kd.S_nil _ _ _ _ _ | exact Kd.N_nil _ _ _ _ _ | exact Kd.V_nil _ _ _ _ _ | exact Kd.Q_nil _ _ _ _ _ | exact Kd.R_nil _ _ _ _ _, by repeat (first | (with_reducible first | exact HB.out | apply below_alloc | apply pw_below_drewN | apply below_drew1 | refine below_set ?_ GE148.out | refine below_set ?_ GE149.out) | exact HB.out)⟩
      · replace c20 := Bool.eq_false_iff.mpr c20
        subst c20
        have H1 : (if (l0_1.length : Int) = 64 then (some (([] : List Int), ([] : List (S45)), 2)) else ((wageofficeref42_Copy.f kj3 l0_0).bind fun t151 => (wageofficeref42_Write.l0 kj3 a1 l2 0 l0_0 l0_1 t151 ([] : List (S45))))) = some (r1, r2, r3) := by rw [if_neg (show ¬ (false = true) by decide)] at H; exact H
        clear H
        have H := H1
        clear H1
        by_cases c23 : (l0_1.length : Int) = 64
        · rw [if_pos c23] at H
          have c23b0 : ((l0_1.length : Int) == 64) = true := beq_iff_eq.mpr c23
          have c23b1 : ((l0_1.length : Int) != 64) = false := bne_eq_false_iff_eq.mpr c23
          clear c23
          simp only [Option.some.injEq, Prod.mk.injEq] at H
          obtain ⟨rfl, rfl, rfl⟩ := H
          have hnb24 := NB148_149.out
          have hnc24 := NB149_148.out
          have hcz25_0 : wc.cell? ⟨gb148, 0, none⟩ = some (.slice A0_0 l0_0.length c0_0) := (blk_cell BK148.out 0).trans rfl
          have hcz25_1 : wc.cell? ⟨gb148, 1, none⟩ = some (.slice A0_1 l0_1.length c0_1) := (blk_cell BK148.out 1).trans rfl
          have hfz25_0 := blk_frozen BK148.out 0
          have hfz25_1 := blk_frozen BK148.out 1
          have hcz26_0 : wc.cell? ⟨gb149, 0, none⟩ = some (.slice none 0 0) := (blk_cell BK149.out 0).trans rfl
          have hcz26_1 : wc.cell? ⟨gb149, 1, none⟩ = some (.slice none 0 0) := (blk_cell BK149.out 1).trans rfl
          have hfz26_0 := blk_frozen BK149.out 0
          have hfz26_1 := blk_frozen BK149.out 1
          go_wp2
          refine bodyPost_ret (results_ct rfl _ _ gb149 25 #[.slice none 0 0, .slice none 0 0] (0, 0) _ rfl (by (with_reducible repeat (first | refine blk_drewN ?_ _ | refine blk_drew ?_ | refine blk_alloc ?_ _)); refine blk_put (cs := #[.slice none 0 0, .slice none 0 0]) ?_ 1 _ rfl; (with_reducible repeat (first | refine blk_drewN ?_ _ | refine blk_drew ?_ | refine blk_alloc ?_ _)); refine blk_put (cs := #[.slice none 0 0, .slice none 0 0]) ?_ 0 _ rfl; (with_reducible repeat (first | refine blk_drewN ?_ _ | refine blk_drew ?_ | refine blk_alloc ?_ _)); exact BK149.out) Try.underlying25 rfl (by kernel_rfl)) rfl ?_
          exact ⟨_, _, by first | rfl | (simp [errW_none, errW_some] <;> rfl) | (simp [*, errW_none, errW_some] <;> rfl), by first | exact Kd.R_nil _ _ _ _ _ | exact Kd.N_nil _ _ _ _ _ | exact Kd.V_nil _ _ _ _ _ | exact Kd.Q_nil _ _ _ _ _ | exact Kd.S_nil _ _ _ _ _, by first | exact Kd.S_nil _ _ _ _ _ | exact Kd.N_nil _ _ _ _ _ | exact Kd.V_nil _ _ _ _ _ | exact Kd.Q_nil _ _ _ _ _ | exact Kd.R_nil _ _ _ _ _, by repeat (first | (with_reducible first | exact HB.out | apply below_alloc | apply pw_below_drewN | apply below_drew1 | refine below_set ?_ GE148.out | refine below_set ?_ GE149.out) | exact HB.out)⟩
        · rw [if_neg c23] at H
          have c23b0 : ((l0_1.length : Int) == 64) = false := beq_eq_false_iff_ne.mpr c23
          have c23b1 : ((l0_1.length : Int) != 64) = true := bne_iff_ne.mpr c23
          replace H := Option.bind_eq_some_iff.mp H
          obtain ⟨t151, A270, H⟩ := H
          replace H : (wageofficeref42_Write.l0 kj3 a1 l2 0 l0_0 l0_1 t151 ([] : List (S45))) = some (r1, r2, r3) := H
          have A27 := Aside0.mk A270
          clear A270
          have H' := Aside0.mk H
          clear H
          have hnb28 := NB148_149.out
          have hnc28 := NB149_148.out
          have hcz29_0 : wc.cell? ⟨gb148, 0, none⟩ = some (.slice A0_0 l0_0.length c0_0) := (blk_cell BK148.out 0).trans rfl
          have hcz29_1 : wc.cell? ⟨gb148, 1, none⟩ = some (.slice A0_1 l0_1.length c0_1) := (blk_cell BK148.out 1).trans rfl
          have hfz29_0 := blk_frozen BK148.out 0
          have hfz29_1 := blk_frozen BK148.out 1
          go_wp2_with (first | ((with_reducible refine gate_callee (f := 46) rfl ?_); refine goesL_ (some 35) rfl rfl Try.func46 (by kernel_rfl) rfl #[.slice A0_0 l0_0.length c0_0] rfl (by (try simp only [List.map_toArray, List.map_cons, List.map_nil]); first | done | rfl | (simp only [List.length_drop, List.length_take]; rfl)) ?_; (with_reducible refine (wageofficeref42_Copy.calls kj3 _ _ l0_0 t151 _ ?side1 ?side2 A27.out).mono ?_); (case side1 => repeat (first | exact (Kd.C_below HR0_0.out HB.out) | (with_reducible refine Kd.C_alloc ?_ _) | (with_reducible refine Kd.C_drewN ?_ _) | (with_reducible refine Kd.C_drew ?_))); (case side2 => exact HC0_0.out); rintro e w30 ⟨v152, rfl, ho0, hb⟩; refine ⟨_, rfl, ?_⟩; have n0_ := Aside0.mk (Kd.R_lower ho0 (below_size (by repeat (first | (with_reducible first | exact HB.out | apply below_alloc | apply pw_below_drewN | apply below_drew1 | refine below_set ?_ GE148.out | refine below_set ?_ GE149.out) | exact HB.out)))); have n1_ := Aside0.mk (blk_below (g := gb148) (o := .cells #[.slice A0_0 l0_0.length c0_0, .slice A0_1 l0_1.length c0_1] 25 (0, 0)) (by (with_reducible repeat (first | refine blk_drewN ?_ _ | refine blk_drew ?_ | refine blk_alloc ?_ _)); exact BK148.out) hb); have n2_ := Aside0.mk (blk_below (g := gb149) (o := .cells #[.slice none 0 0, .slice none 0 0] 25 (0, 0)) (by (with_reducible repeat (first | refine blk_drewN ?_ _ | refine blk_drew ?_ | refine blk_alloc ?_ _)); exact BK149.out) hb); have n3_ := Aside0.mk (below_step (by repeat (first | (with_reducible first | exact HB.out | apply below_alloc | apply pw_below_drewN | apply below_drew1 | refine below_set ?_ GE148.out | refine below_set ?_ GE149.out) | exact HB.out)) hb); clear BK148; clear BK149; clear HB; have HO153 := n0_; have BK148 := n1_; have BK149 := n2_; have HB := n3_; clear n0_ n1_ n2_ n3_; (try clear hb); (try clear hb2); (try clear hk); (try clear hi); (try clear ho0); obtain ⟨Ao31, co31, eo31⟩ := Kd.R_slice HO153.out; subst eo31) | ((with_reducible refine gate_dst (N := 8) rfl ?_); (try (refine gate_guard (by rfl) ?_; dsimp only)); refine box_event ?hg (N := 8) ?hd (cs := #[.slice none 0 0, .slice none 0 0]) (t := 25) ?hr ?_; (case hd => rfl); (case hg => rfl); (case hr => first | (go_simp; done) | (go_simp; rfl)); intro gb154 hg w32 hbox hb; have n0_ := Aside0.mk (Kd.R_below (by (with_reducible repeat (first | apply Kd.R_alloc | apply Kd.R_drewN | apply Kd.R_drew)); exact HO153.out) hb); have n1_ := Aside0.mk (blk_below (g := gb148) (o := .cells #[.slice A0_0 l0_0.length c0_0, .slice A0_1 l0_1.length c0_1] 25 (0, 0)) (by (with_reducible repeat (first | refine blk_drewN ?_ _ | refine blk_drew ?_ | refine blk_alloc ?_ _)); exact BK148.out) hb); have n2_ := Aside0.mk (blk_below (g := gb149) (o := .cells #[.slice none 0 0, .slice none 0 0] 25 (0, 0)) (by (with_reducible repeat (first | refine blk_drewN ?_ _ | refine blk_drew ?_ | refine blk_alloc ?_ _)); exact BK149.out) hb); have n3_ := Aside0.mk (below_step (by repeat (first | (with_reducible first | exact HB.out | apply below_alloc | apply pw_below_drewN | apply below_drew1 | refine below_set ?_ GE148.out | refine below_set ?_ GE149.out) | exact HB.out)) hb); have n4_ := Aside0.mk (hbox); have n5_ := Aside0.mk ((by rw [hg]; exact (below_size (by repeat (first | (with_reducible first | exact HB.out | apply below_alloc | apply pw_below_drewN | apply below_drew1 | refine below_set ?_ GE148.out | refine below_set ?_ GE149.out) | exact HB.out))) : w.heap.size ≤ gb154)); have n6_ := Aside0.mk ((by rw [hg]; exact (below_size (by repeat (first | (with_reducible first | exact HB.out | apply below_alloc | apply pw_below_drewN | apply below_drew1 | refine below_set ?_ GE148.out | refine below_set ?_ GE149.out) | exact HB.out))) : w.heap.size ≤ gb154)); have n7_ := Aside0.mk ((by rw [hg]; exact Nat.ne_of_lt (blk_lt (g := gb148) (o := .cells #[.slice A0_0 l0_0.length c0_0, .slice A0_1 l0_1.length c0_1] 25 (0, 0)) (by (with_reducible repeat (first | refine blk_drewN ?_ _ | refine blk_drew ?_ | refine blk_alloc ?_ _)); exact BK148.out)) : gb148 ≠ gb154)); have n8_ := Aside0.mk ((by rw [hg]; exact Nat.ne_of_gt (blk_lt (g := gb148) (o := .cells #[.slice A0_0 l0_0.length c0_0, .slice A0_1 l0_1.length c0_1] 25 (0, 0)) (by (with_reducible repeat (first | refine blk_drewN ?_ _ | refine blk_drew ?_ | refine blk_alloc ?_ _)); exact BK148.out)) : gb154 ≠ gb148)); have n9_ := Aside0.mk ((by rw [hg]; exact Nat.ne_of_lt (blk_lt (g := gb149) (o := .cells #[.slice none 0 0, .slice none 0 0] 25 (0, 0)) (by (with_reducible repeat (first | refine blk_drewN ?_ _ | refine blk_drew ?_ | refine blk_alloc ?_ _)); exact BK149.out)) : gb149 ≠ gb154)); have n10_ := Aside0.mk ((by rw [hg]; exact Nat.ne_of_gt (blk_lt (g := gb149) (o := .cells #[.slice none 0 0, .slice none 0 0] 25 (0, 0)) (by (with_reducible repeat (first | refine blk_drewN ?_ _ | refine blk_drew ?_ | refine blk_alloc ?_ _)); exact BK149.out)) : gb154 ≠ gb149)); clear HO153; clear BK148; clear BK149; clear HB; have HO153 := n0_; have BK148 := n1_; have BK149 := n2_; have HB := n3_; have BK154 := n4_; have GW154 := n5_; have GE154 := n6_; have NB148_154 := n7_; have NB154_148 := n8_; have NB149_154 := n9_; have NB154_149 := n10_; clear n0_ n1_ n2_ n3_ n4_ n5_ n6_ n7_ n8_ n9_ n10_; clear hb hbox hg; have hnb33 := NB154_148.out; have hnc33 := NB148_154.out; have hnb34 := NB154_149.out; have hnc34 := NB149_154.out; have hcz35_0 : w32.cell? ⟨gb154, 0, none⟩ = some (.slice none 0 0) := (blk_cell BK154.out 0).trans rfl; have hcz35_1 : w32.cell? ⟨gb154, 1, none⟩ = some (.slice none 0 0) := (blk_cell BK154.out 1).trans rfl; have hfz35_0 := blk_frozen BK154.out 0; have hfz35_1 := blk_frozen BK154.out 1))
          go_loopg [9] kj3 (fun kq v9 w' => ∃ (x9_2 : Int) (x155001_2 : List (S45)) (u155001 : Value), v9 = .int .i64 x9_2 ∧ Aside0 (wageofficeref42_Write.l0 kq a1 l2 x9_2 l0_0 l0_1 t151 x155001_2 = some (r1, r2, r3)) ∧ Aside0 (kq ≤ kj3) ∧ Aside0 (Kd.R (Kd.int .u8) 5 w' w.heap.size (fun _ => True) (.slice Ao31 t151.length co31) t151) ∧ Aside0 (Kd.S k45 45 w' w.heap.size (fun k_ => some k_ ≠ ((.slice Ao31 t151.length co31) : Value).ownBlock) u155001 x155001_2) ∧ Aside0 (w'.heap[gb148]? = some (.cells #[(.slice A0_0 l0_0.length c0_0), (.slice A0_1 l0_1.length c0_1)] 25 (0, 0))) ∧ Aside0 (w'.heap[gb149]? = some (.cells #[(.slice none 0 0), (.slice none 0 0)] 25 (0, 0))) ∧ Aside0 (w'.heap[gb154]? = some (.cells #[(.slice Ao31 t151.length co31), u155001] 25 (0, 0))) ∧ Aside0 (Below w.heap.size w w'))
          case atStart => exact ⟨(0), (([] : List (S45))), (.slice none 0 0), (by first | rfl | (simp; done) | (simp [*]; done)), H', ⟨Nat.le_refl _⟩, ⟨by (with_reducible repeat (first | apply Kd.R_alloc | apply Kd.R_drewN | apply Kd.R_drew)); exact Kd.R_mono (Kd.R_far (p := ⟨gb154, 1, none⟩) (Kd.R_far (p := ⟨gb154, 0, none⟩) (Kd.R_types HO153.out BK154.out (by decide)) (fun _ hk => hk.2) (.slice Ao31 t151.length co31)) (fun _ hk => hk.2) (.slice none 0 0)) (fun _ hk => trivial)⟩, ⟨by first | exact Kd.S_nil _ _ _ _ _ | exact Kd.N_nil _ _ _ _ _ | exact Kd.V_nil _ _ _ _ _ | exact Kd.Q_nil _ _ _ _ _ | exact Kd.R_nil _ _ _ _ _⟩, ⟨by (with_reducible repeat (first | refine blk_drewN ?_ _ | refine blk_drew ?_ | refine blk_alloc ?_ _)); refine blk_far ?_ NB148_154.out _; (with_reducible repeat (first | refine blk_drewN ?_ _ | refine blk_drew ?_ | refine blk_alloc ?_ _)); refine blk_far ?_ NB148_154.out _; (with_reducible repeat (first | refine blk_drewN ?_ _ | refine blk_drew ?_ | refine blk_alloc ?_ _)); exact BK148.out⟩, ⟨by (with_reducible repeat (first | refine blk_drewN ?_ _ | refine blk_drew ?_ | refine blk_alloc ?_ _)); refine blk_far ?_ NB149_154.out _; (with_reducible repeat (first | refine blk_drewN ?_ _ | refine blk_drew ?_ | refine blk_alloc ?_ _)); refine blk_far ?_ NB149_154.out _; (with_reducible repeat (first | refine blk_drewN ?_ _ | refine blk_drew ?_ | refine blk_alloc ?_ _)); exact BK149.out⟩, ⟨by (with_reducible repeat (first | refine blk_drewN ?_ _ | refine blk_drew ?_ | refine blk_alloc ?_ _)); refine blk_put (cs := #[.slice Ao31 t151.length co31, .slice none 0 0]) ?_ 1 _ rfl; (with_reducible repeat (first | refine blk_drewN ?_ _ | refine blk_drew ?_ | refine blk_alloc ?_ _)); refine blk_put (cs := #[.slice none 0 0, .slice none 0 0]) ?_ 0 _ rfl; (with_reducible repeat (first | refine blk_drewN ?_ _ | refine blk_drew ?_ | refine blk_alloc ?_ _)); exact BK154.out⟩, ⟨by repeat (first | (with_reducible first | exact HB.out | apply below_alloc | apply pw_below_drewN | apply below_drew1 | refine below_set ?_ GE148.out | refine below_set ?_ GE149.out | refine below_set ?_ GE154.out) | exact HB.out)⟩⟩
          case round =>
            clear H'
            try clear c1
            try clear c2
            try clear p2
            try clear c3
            try clear c4
            try clear p6
            try clear c8
            try clear c9
            try clear c9b0
            try clear c10
            try clear c13
            try clear c17
            try clear c20
            try clear c21
            try clear c22
            try clear c23
            try clear c23b0
            try clear c23b1
            try clear c24
            try clear c28
            try clear c31
            try clear c33
            try clear c34
            try clear hcz11_0
            try clear hcz11_1
            try clear hcz14_0
            try clear hcz14_1
            try clear hcz16_0
            try clear hcz16_1
            try clear hcz18_0
            try clear hcz18_1
            try clear hcz22_0
            try clear hcz22_1
            try clear hcz25_0
            try clear hcz25_1
            try clear hcz26_0
            try clear hcz26_1
            try clear hcz29_0
            try clear hcz29_1
            try clear hcz35_0
            try clear hcz35_1
            try clear hfz11_0
            try clear hfz11_1
            try clear hfz14_0
            try clear hfz14_1
            try clear hfz16_0
            try clear hfz16_1
            try clear hfz18_0
            try clear hfz18_1
            try clear hfz22_0
            try clear hfz22_1
            try clear hfz25_0
            try clear hfz25_1
            try clear hfz26_0
            try clear hfz26_1
            try clear hfz29_0
            try clear hfz29_1
            try clear hfz35_0
            try clear hfz35_1
            try clear p2
            try clear p6
            obtain ⟨x9_2, x155001_2, u155001, rfl, HA, HK2, HO_155000, HO_155001, BK148, BK149, BK154, HB⟩ := hrel
            cases gk with
            | zero => exact absurd HA.out (by simp [wageofficeref42_Write.l0])
            | succ k2 =>
              have H := HA.out
              clear HA
              simp only [wageofficeref42_Write.l0] at H
              by_cases c36 : x9_2 < (l0_1.length : Int)
              · rw [if_pos c36] at H
                have c36b0 : decide (x9_2 < (l0_1.length : Int)) = true := decide_eq_true c36
                clear c36
                by_cases c37 : 0 ≤ x9_2
                · rw [if_pos c37] at H
                  have c37b0 : decide (0 ≤ x9_2) = true := decide_eq_true c37
                  clear c37
                  replace H := Option.bind_eq_some_iff.mp H
                  obtain ⟨t157, A380, H⟩ := H
                  replace H : (if x155001_2.length < 4398046511104 then (wageofficeref42_Write.l0 k2 a1 l2 (wrap64 (x9_2 + 1)) l0_0 l0_1 t151 (x155001_2 ++ [(⟨(rd_T45 l0_1 x9_2).f0, t157⟩ : S45)])) else (none)) = some (r1, r2, r3) := H
                  have A38 := Aside0.mk A380
                  clear A380
                  by_cases c39 : x155001_2.length < 4398046511104
                  · rw [if_pos c39] at H
                    have LMc39 := Aside0.mk c39
                    clear c39
                    obtain ⟨y160, hy160⟩ : ∃ y_ : List (S45), y_ = (x155001_2 ++ [(⟨(rd_T45 l0_1 x9_2).f0, t157⟩ : S45)]) := ⟨_, rfl⟩
                    replace H : (wageofficeref42_Write.l0 k2 a1 l2 (wrap64 (x9_2 + 1)) l0_0 l0_1 t151 y160) = some (r1, r2, r3) := by first | (rw [hy160]; with_reducible exact H) | (have H2_ := (Option.bind_some _ _).symm.trans H; rw [hy160]; with_reducible exact H2_) | (have H2_ := (Option.bind_some _ _).symm.trans H; with_reducible exact H2_) | with_reducible exact H | (rw [hy160]; exact H) | exact H
                    have Ny160 := Aside0.mk hy160
                    clear hy160
                    have H' := Aside0.mk H
                    clear H
                    have hnb40 := NB148_149.out
                    have hnc40 := NB149_148.out
                    have hnb41 := NB148_154.out
                    have hnc41 := NB154_148.out
                    have hcz42_0 : wr.cell? ⟨gb148, 0, none⟩ = some (.slice A0_0 l0_0.length c0_0) := (blk_cell BK148.out 0).trans rfl
                    have hcz42_1 : wr.cell? ⟨gb148, 1, none⟩ = some (.slice A0_1 l0_1.length c0_1) := (blk_cell BK148.out 1).trans rfl
                    have hfz42_0 := blk_frozen BK148.out 0
                    have hfz42_1 := blk_frozen BK148.out 1
                    try go_wp2
                    have n0_ := Aside0.mk (Kd.R_drew HO_155000.out)
                    have n1_ := Aside0.mk (Kd.S_drew HO_155001.out)
                    have n2_ := Aside0.mk (blk_drew BK148.out)
                    have n3_ := Aside0.mk (blk_drew BK149.out)
                    have n4_ := Aside0.mk (blk_drew BK154.out)
                    have n5_ := Aside0.mk (below_drew1 HB.out)
                    clear HO_155000
                    clear HO_155001
                    clear BK148
                    clear BK149
                    clear BK154
                    clear HB
                    have HO_155000 := n0_
                    have HO_155001 := n1_
                    have BK148 := n2_
                    have BK149 := n3_
                    have BK154 := n4_
                    have HB := n5_
                    clear n0_ n1_ n2_ n3_ n4_ n5_
                    have p155 : 0 ≤ (x9_2 : Int) := of_decide_eq_true (by first | (with_reducible assumption) | assumption)
                    have q155 : x9_2 < (l0_1.length : Int) := of_decide_eq_true (by first | (with_reducible assumption) | assumption)
                    obtain ⟨ad155, A155_1, c155_1, e155, hx155_0, hx155_1, hl155_1, hi155_1⟩ := at_T45 HR0_1.out x9_2 p155 q155
                    have hw155_1 := hx155_1
                    have hw155_0 := hx155_0
                    cases e155
                    replace hx155_0 := (HB.out.cell (World.block_lt_of_cell? w _ hx155_0)).trans hx155_0
                    replace hx155_1 := (HB.out.cell (World.block_lt_of_cell? w _ hx155_1)).trans hx155_1
                    have HR155_1 := Aside0.mk hi155_1
                    have HC155_1 := Aside0.mk hl155_1
                    clear hi155_1 hl155_1
                    replace p155 := eq_true p155
                    replace q155 := eq_true q155
                    have p156 : 0 ≤ (x9_2 : Int) := of_decide_eq_true (by first | (with_reducible assumption) | assumption)
                    have q156 : x9_2 < (l0_1.length : Int) := of_decide_eq_true (by first | (with_reducible assumption) | assumption)
                    obtain ⟨ad156, A156_1, c156_1, e156, hx156_0, hx156_1, hl156_1, hi156_1⟩ := at_T45 HR0_1.out x9_2 p156 q156
                    have hw156_1 := hx156_1
                    have hw156_0 := hx156_0
                    obtain rfl : ad155 = ad156 := (by injection e156)
                    replace hx156_0 := (HB.out.cell (World.block_lt_of_cell? w _ hx156_0)).trans hx156_0
                    replace hx156_1 := (HB.out.cell (World.block_lt_of_cell? w _ hx156_1)).trans hx156_1
                    have HR156_1 := Aside0.mk hi156_1
                    have HC156_1 := Aside0.mk hl156_1
                    clear hi156_1 hl156_1
                    replace p156 := eq_true p156
                    replace q156 := eq_true q156
                    have ea_ := Option.some.inj (hx155_1.symm.trans hx156_1)
                    injection ea_ with ea_ en_ ec_
                    subst ea_
                    subst ec_
                    clear en_
                    refine start_ (n := 20) (S := fun w' => w'.cell? ⟨gb154, 0, none⟩ = some (.slice Ao31 t151.length co31) ∧ w'.cell? ⟨gb154, 1, none⟩ = some (u155001) ∧ w'.cell? ⟨gb148, 0, none⟩ = some (.slice A0_0 l0_0.length c0_0) ∧ w'.cell? ⟨gb148, 1, none⟩ = some (.slice (some ad155) l0_1.length c0_1) ∧ w'.cell? (ad155.add ((x9_2).toNat * 2)) = some (.int .i64 ((rd_T45 l0_1 x9_2).f0)) ∧ w'.cell? ⟨(ad155.add ((x9_2).toNat * 2)).block, (ad155.add ((x9_2).toNat * 2)).off + 1, none⟩ = some (.slice A155_1 ((rd_T45 l0_1 x9_2).f1).length c155_1) ∧ w'.cell? (ad155.add ((x9_2).toNat * 2)) = some (.int .i64 ((rd_T45 l0_1 x9_2).f0)) ∧ w'.cell? ⟨(ad155.add ((x9_2).toNat * 2)).block, (ad155.add ((x9_2).toNat * 2)).off + 1, none⟩ = some (.slice A155_1 ((rd_T45 l0_1 x9_2).f1).length c155_1)) (ds := [19]) #[false, false, false, false, false, false, false, false, false, false, false, false, false, false, false, false, false, false, false, false] (by kernel_rfl) rfl rfl ⟨(blk_cell BK154.out 0).trans rfl, (blk_cell BK154.out 1).trans rfl, (blk_cell BK148.out 0).trans rfl, (blk_cell BK148.out 1).trans rfl, ((HB.out.cell (World.block_lt_of_cell? w _ hw155_0)).trans hw155_0), ((HB.out.cell (World.block_lt_of_cell? w _ hw155_1)).trans hw155_1), ((HB.out.cell (World.block_lt_of_cell? w _ hw156_0)).trans hw156_0), ((HB.out.cell (World.block_lt_of_cell? w _ hw156_1)).trans hw156_1)⟩ (fun hHeld => ?_); refine with_tabW wageofficeref42_Write.tab9 wageofficeref42_Write.bits9 (fun HT_ HW_ => ?_)
                    generalize wr.drew = w43 at HO_155000 HO_155001 BK148 BK149 BK154 HB HR155_1 HR156_1 hx155_0 hx155_1 hx156_0 hx156_1 hHeld ⊢
                    refine pure_ (i := 0) (N := some 44) (v := ?_) (a' := ?_) #[true, false, false, false, false, false, false, false, false, false, false, false, false, false, false, false, false, false, false, false] rfl rfl (any_of HT_.out (by kernel_rfl)) (fun _ _ _ h => h) (Or.inl ⟨by rfl, ?_⟩) ?_ ?_
                    rotate_left
                    · intro w'
                      go_simp
                      with_reducible rfl
                    rotate_left
                    · simp only [Act.put, List.setIfInBounds_toArray, List.set_cons_zero, List.set_cons_succ, i64_w, i32_w]
                      rfl
                    refine pure_ (i := 2) (N := some 46) (v := ?_) (a' := ?_) #[true, false, true, false, false, false, false, false, false, false, false, false, false, false, false, false, false, false, false, false] rfl rfl (any_of HT_.out (by kernel_rfl)) (fun _ _ _ h => h) (Or.inl ⟨by rfl, ?_⟩) ?_ ?_
                    rotate_left
                    · intro w'
                      go_simp
                      with_reducible rfl
                    rotate_left
                    · simp only [Act.put, List.setIfInBounds_toArray, List.set_cons_zero, List.set_cons_succ, i64_w, i32_w]
                      rfl
                    refine pure_ (i := 4) (N := some 48) (v := ?_) (a' := ?_) #[true, false, true, false, true, false, false, false, false, false, false, false, false, false, false, false, false, false, false, false] rfl rfl (any_of HT_.out (by kernel_rfl)) (fun _ _ _ h => h) (Or.inl ⟨by rfl, ?_⟩) ?_ ?_
                    rotate_left
                    · intro w'
                      go_simp
                      with_reducible rfl
                    rotate_left
                    · simp only [Act.put, List.setIfInBounds_toArray, List.set_cons_zero, List.set_cons_succ, i64_w, i32_w]
                      rfl
                    refine pure_ (i := 8) (N := some 52) (v := ?_) (a' := ?_) #[true, false, true, false, true, false, false, false, true, false, false, false, false, false, false, false, false, false, false, false] rfl rfl (any_of HT_.out (by kernel_rfl)) (fun _ _ _ h => h) (Or.inl ⟨by rfl, ?_⟩) ?_ ?_
                    rotate_left
                    · intro w'
                      go_simp
                      with_reducible rfl
                    rotate_left
                    · simp only [Act.put, List.setIfInBounds_toArray, List.set_cons_zero, List.set_cons_succ, i64_w, i32_w]
                      rfl
                    refine pure_ (i := 10) (N := some 54) (v := ?_) (a' := ?_) #[true, false, true, false, true, false, false, false, true, false, true, false, false, false, false, false, false, false, false, false] rfl rfl (any_of HT_.out (by kernel_rfl)) (fun _ _ _ h => h) (Or.inl ⟨by rfl, ?_⟩) ?_ ?_
                    rotate_left
                    · intro w'
                      go_simp
                      with_reducible rfl
                    rotate_left
                    · simp only [Act.put, List.setIfInBounds_toArray, List.set_cons_zero, List.set_cons_succ, i64_w, i32_w]
                      rfl
                    refine take_ (i := 1) (N := some 45) (v := ?_) (a' := ?_) #[true, true, true, false, true, false, false, false, true, false, true, false, false, false, false, false, false, false, false, false] rfl rfl (take_ofW HT_.out HW_.out (by kernel_rfl)) (fun _ _ _ h => h) (Or.inl ⟨by rfl, ?_⟩) hHeld ?_ ?_
                    rotate_left
                    · rintro w' ⟨s0, s1, s2, s3, s4, s5, s6, s7⟩
                      go_simp
                      with_reducible rfl
                    rotate_left
                    · simp only [Act.put, List.setIfInBounds_toArray, List.set_cons_zero, List.set_cons_succ, i64_w, i32_w]
                      rfl
                    refine take_ (i := 3) (N := some 47) (v := ?_) (a' := ?_) #[true, true, true, true, true, false, false, false, true, false, true, false, false, false, false, false, false, false, false, false] rfl rfl (take_ofW HT_.out HW_.out (by kernel_rfl)) (fun _ _ _ h => h) (Or.inl ⟨by rfl, ?_⟩) hHeld ?_ ?_
                    rotate_left
                    · rintro w' ⟨s0, s1, s2, s3, s4, s5, s6, s7⟩
                      go_simp
                      with_reducible rfl
                    rotate_left
                    · simp only [Act.put, List.setIfInBounds_toArray, List.set_cons_zero, List.set_cons_succ, i64_w, i32_w]
                      rfl
                    refine pure_ (i := 5) (N := some 49) (v := ?_) (a' := ?_) #[true, true, true, true, true, true, false, false, true, false, true, false, false, false, false, false, false, false, false, false] rfl rfl (any_of HT_.out (by kernel_rfl)) (fun _ _ _ h => h) (Or.inl ⟨by rfl, ?_⟩) ?_ ?_
                    rotate_left
                    · intro w'
                      go_simp
                      with_reducible rfl
                    rotate_left
                    · simp only [Act.put, List.setIfInBounds_toArray, List.set_cons_zero, List.set_cons_succ, i64_w, i32_w]
                      rfl
                    refine pure_ (i := 6) (N := some 50) (v := ?_) (a' := ?_) #[true, true, true, true, true, true, true, false, true, false, true, false, false, false, false, false, false, false, false, false] rfl rfl (any_of HT_.out (by kernel_rfl)) (fun _ _ _ h => h) (Or.inl ⟨by rfl, ?_⟩) ?_ ?_
                    rotate_left
                    · intro w'
                      go_simp
                      with_reducible rfl
                    rotate_left
                    · simp only [Act.put, List.setIfInBounds_toArray, List.set_cons_zero, List.set_cons_succ, i64_w, i32_w]
                      rfl
                    refine take_ (i := 7) (N := some 51) (v := ?_) (a' := ?_) #[true, true, true, true, true, true, true, true, true, false, true, false, false, false, false, false, false, false, false, false] rfl rfl (take_ofW HT_.out HW_.out (by kernel_rfl)) (fun _ _ _ h => h) (Or.inl ⟨by rfl, ?_⟩) hHeld ?_ ?_
                    rotate_left
                    · rintro w' ⟨s0, s1, s2, s3, s4, s5, s6, s7⟩
                      go_simp
                      with_reducible rfl
                    rotate_left
                    · simp only [Act.put, List.setIfInBounds_toArray, List.set_cons_zero, List.set_cons_succ, i64_w, i32_w]
                      rfl
                    refine take_ (i := 9) (N := some 53) (v := ?_) (a' := ?_) #[true, true, true, true, true, true, true, true, true, true, true, false, false, false, false, false, false, false, false, false] rfl rfl (take_ofW HT_.out HW_.out (by kernel_rfl)) (fun _ _ _ h => h) (Or.inl ⟨by rfl, ?_⟩) hHeld ?_ ?_
                    rotate_left
                    · rintro w' ⟨s0, s1, s2, s3, s4, s5, s6, s7⟩
                      go_simp
                      with_reducible rfl
                    rotate_left
                    · simp only [Act.put, List.setIfInBounds_toArray, List.set_cons_zero, List.set_cons_succ, i64_w, i32_w]
                      rfl
                    refine pure_ (i := 11) (N := some 55) (v := ?_) (a' := ?_) #[true, true, true, true, true, true, true, true, true, true, true, true, false, false, false, false, false, false, false, false] rfl rfl (any_of HT_.out (by kernel_rfl)) (fun _ _ _ h => h) (Or.inl ⟨by rfl, ?_⟩) ?_ ?_
                    rotate_left
                    · intro w'
                      go_simp
                      with_reducible rfl
                    rotate_left
                    · simp only [Act.put, List.setIfInBounds_toArray, List.set_cons_zero, List.set_cons_succ, i64_w, i32_w]
                      rfl
                    refine pure_ (i := 12) (N := some 56) (v := ?_) (a' := ?_) #[true, true, true, true, true, true, true, true, true, true, true, true, true, false, false, false, false, false, false, false] rfl rfl (any_of HT_.out (by kernel_rfl)) (fun _ _ _ h => h) (Or.inl ⟨by rfl, ?_⟩) ?_ ?_
                    rotate_left
                    · intro w'
                      go_simp
                      with_reducible rfl
                    rotate_left
                    · simp only [Act.put, List.setIfInBounds_toArray, List.set_cons_zero, List.set_cons_succ, i64_w, i32_w]
                      rfl
                    refine take_ (i := 13) (N := some 57) (v := ?_) (a' := ?_) #[true, true, true, true, true, true, true, true, true, true, true, true, true, true, false, false, false, false, false, false] rfl rfl (take_ofW HT_.out HW_.out (by kernel_rfl)) (fun _ _ _ h => h) (Or.inl ⟨by rfl, ?_⟩) hHeld ?_ ?_
                    rotate_left
                    · rintro w' ⟨s0, s1, s2, s3, s4, s5, s6, s7⟩
                      go_simp
                      with_reducible rfl
                    rotate_left
                    · simp only [Act.put, List.setIfInBounds_toArray, List.set_cons_zero, List.set_cons_succ, i64_w, i32_w]
                      rfl
                    refine one_ (i := 14) (N := some 58) #[true, true, true, true, true, true, true, true, true, true, true, true, true, true, true, false, false, false, false, false] rfl rfl (one_of HT_.out (by kernel_rfl)) (by decide) (fun K hK => ?_)
                    refine goes_ Try.func46 (by kernel_rfl) rfl #[.slice A155_1 ((rd_T45 l0_1 x9_2).f1).length c155_1] (by rfl) rfl rfl (by (try simp only [List.map_toArray, List.map_cons, List.map_nil]); first | done | rfl | (simp only [List.length_drop, List.length_take]; rfl)) ?_
                    with_reducible refine (wageofficeref42_Copy.calls k2 _ _ ((rd_T45 l0_1 x9_2).f1) t157 _ ?side1 ?side2 A38.out).mono ?_
                    (case side1 => repeat (first | exact (Kd.C_below HR156_1.out HB.out) | (with_reducible refine Kd.C_alloc ?_ _) | (with_reducible refine Kd.C_drewN ?_ _) | (with_reducible refine Kd.C_drew ?_)))
                    (case side2 => exact HC156_1.out)
                    rintro e w44 ⟨v158, rfl, ho0, hb⟩
                    refine ⟨_, rfl, ?_⟩
                    have n0_ := Aside0.mk (Kd.R_elder' (by (with_reducible repeat (first | apply Kd.R_alloc | apply Kd.R_drewN | apply Kd.R_drew)); exact HO_155000.out) (Kd.R_base ho0) hb)
                    have n1_ := Aside0.mk (Kd.S_elder' (by (with_reducible repeat (first | apply Kd.S_alloc | apply Kd.S_drewN | apply Kd.S_drew)); exact HO_155001.out) (Kd.R_base ho0) hb)
                    have n2_ := Aside0.mk (Kd.R_lower (Kd.R_new' ho0 (Kd.R_lt (by (with_reducible repeat (first | apply Kd.R_alloc | apply Kd.R_drewN | apply Kd.R_drew)); exact HO_155000.out))) (below_size (by repeat (first | (with_reducible first | exact HB.out | apply below_alloc | apply pw_below_drewN | apply below_drew1 | refine below_set ?_ GE148.out | refine below_set ?_ GE149.out | refine below_set ?_ GE154.out) | exact HB.out))))
                    have n3_ := Aside0.mk (blk_below (g := gb148) (o := .cells #[.slice A0_0 l0_0.length c0_0, .slice (some ad155) l0_1.length c0_1] 25 (0, 0)) (by (with_reducible repeat (first | refine blk_drewN ?_ _ | refine blk_drew ?_ | refine blk_alloc ?_ _)); exact BK148.out) hb)
                    have n4_ := Aside0.mk (blk_below (g := gb149) (o := .cells #[.slice none 0 0, .slice none 0 0] 25 (0, 0)) (by (with_reducible repeat (first | refine blk_drewN ?_ _ | refine blk_drew ?_ | refine blk_alloc ?_ _)); exact BK149.out) hb)
                    have n5_ := Aside0.mk (blk_below (g := gb154) (o := .cells #[.slice Ao31 t151.length co31, u155001] 25 (0, 0)) (by (with_reducible repeat (first | refine blk_drewN ?_ _ | refine blk_drew ?_ | refine blk_alloc ?_ _)); exact BK154.out) hb)
                    have n6_ := Aside0.mk (below_step (by repeat (first | (with_reducible first | exact HB.out | apply below_alloc | apply pw_below_drewN | apply below_drew1 | refine below_set ?_ GE148.out | refine below_set ?_ GE149.out | refine below_set ?_ GE154.out) | exact HB.out)) hb)
                    clear HO_155000
                    clear HO_155001
                    clear BK148
                    clear BK149
                    clear BK154
                    clear HB
                    have HO_155000 := n0_
                    have HO_155001 := n1_
                    have HO159 := n2_
                    have BK148 := n3_
                    have BK149 := n4_
                    have BK154 := n5_
                    have HB := n6_
                    clear n0_ n1_ n2_ n3_ n4_ n5_ n6_
                    (try clear hb)
                    (try clear hb2)
                    (try clear hk)
                    (try clear hi)
                    (try clear ho0)
                    obtain ⟨Ao45, co45, eo45⟩ := Kd.R_slice HO159.out
                    (first | subst eo45 | (injection eo45 with f1_ f2_ f3_; have f4_ := f1_.symm; have f5_ := f3_.symm; clear f1_ f2_ f3_; subst f4_; subst f5_))
                    refine hK.out _ _ ⟨(blk_cell BK154.out 0).trans rfl, (blk_cell BK154.out 1).trans rfl, (blk_cell BK148.out 0).trans rfl, (blk_cell BK148.out 1).trans rfl, ((HB.out.cell (World.block_lt_of_cell? w _ hw155_0)).trans hw155_0), ((HB.out.cell (World.block_lt_of_cell? w _ hw155_1)).trans hw155_1), ((HB.out.cell (World.block_lt_of_cell? w _ hw156_0)).trans hw156_0), ((HB.out.cell (World.block_lt_of_cell? w _ hw156_1)).trans hw156_1)⟩ (fun hHeld => ?_)
                    clear hK K
                    refine norm_ (a' := ?_) ?_ ?_
                    rotate_left
                    · show Act.put _ (some 58) _ = _
                      simp only [Act.put, List.setIfInBounds_toArray, List.set_cons_zero, List.set_cons_succ, i64_w, i32_w]
                      rfl
                    refine pure_ (i := 15) (N := some 59) (v := ?_) (a' := ?_) #[true, true, true, true, true, true, true, true, true, true, true, true, true, true, true, true, false, false, false, false] rfl rfl (any_of HT_.out (by kernel_rfl)) (fun _ _ _ h => h) (Or.inl ⟨by rfl, ?_⟩) ?_ ?_
                    rotate_left
                    · intro w'
                      go_simp
                      with_reducible rfl
                    rotate_left
                    · simp only [Act.put, List.setIfInBounds_toArray, List.set_cons_zero, List.set_cons_succ, i64_w, i32_w]
                      rfl
                    refine one_ (i := 16) (N := some 60) #[true, true, true, true, true, true, true, true, true, true, true, true, true, true, true, true, true, false, false, false] rfl rfl (one_of HT_.out (by kernel_rfl)) (by decide) (fun K hK => ?_)
                    refine value_ (w1 := ?_) (v := ?_) (by rfl) rfl ?_ ?_
                    rotate_left 2
                    · go_simp
                      constructor
                      · rfl
                      · rfl
                    refine hK.out _ _ ⟨(blk_cell (blk_alloc BK154.out _) 0).trans rfl, (blk_cell (blk_alloc BK154.out _) 1).trans rfl, (blk_cell (blk_alloc BK148.out _) 0).trans rfl, (blk_cell (blk_alloc BK148.out _) 1).trans rfl, (World.cell?_alloc_lt _ _ _ (World.block_lt_of_cell? _ _ (((HB.out.cell (World.block_lt_of_cell? w _ hw155_0)).trans hw155_0)))).trans (((HB.out.cell (World.block_lt_of_cell? w _ hw155_0)).trans hw155_0)), (World.cell?_alloc_lt _ _ _ (World.block_lt_of_cell? _ _ (((HB.out.cell (World.block_lt_of_cell? w _ hw155_1)).trans hw155_1)))).trans (((HB.out.cell (World.block_lt_of_cell? w _ hw155_1)).trans hw155_1)), (World.cell?_alloc_lt _ _ _ (World.block_lt_of_cell? _ _ (((HB.out.cell (World.block_lt_of_cell? w _ hw156_0)).trans hw156_0)))).trans (((HB.out.cell (World.block_lt_of_cell? w _ hw156_0)).trans hw156_0)), (World.cell?_alloc_lt _ _ _ (World.block_lt_of_cell? _ _ (((HB.out.cell (World.block_lt_of_cell? w _ hw156_1)).trans hw156_1)))).trans (((HB.out.cell (World.block_lt_of_cell? w _ hw156_1)).trans hw156_1))⟩ (fun hHeld => ?_)
                    clear hK K
                    refine norm_ (a' := ?_) ?_ ?_
                    rotate_left
                    · show Act.put _ (some 60) _ = _
                      simp only [Act.put, List.setIfInBounds_toArray, List.set_cons_zero, List.set_cons_succ, i64_w, i32_w]
                      rfl
                    refine one_ (i := 17) (N := some 61) #[true, true, true, true, true, true, true, true, true, true, true, true, true, true, true, true, true, true, false, false] rfl rfl (one_of HT_.out (by kernel_rfl)) (by decide) (fun K hK => ?_)
                    refine Kd.S_append_step k45 (w0 := w) w.heap.size (by rfl) (.tmp 45) (.tmp 60) 23 45 (.agg #[(.int .i64 0), (.slice none 0 0)]) 32 rfl Try.underlying23 info45 rfl (by decide) (by omega) u155001 x155001_2 (⟨(rd_T45 l0_1 x9_2).f0, t157⟩ : S45) [.int .i64 ((rd_T45 l0_1 x9_2).f0), .slice Ao45 t157.length co45] (fun k_ => some k_ ≠ (.slice Ao31 t151.length co31 : Value).ownBlock) (fun k_ => some k_ = (.slice Ao45 t157.length co45 : Value).ownBlock) rfl rfl ?aP (fun k_ hk_ => ((Kd.R_mono (ok' := fun k_ => ((fun k_ => some k_ ≠ (.slice Ao31 t151.length co31 : Value).ownBlock)) k_ ∧ some k_ ≠ (u155001 : Value).ownBlock) (Kd.R_apart' (HO159.out) (Kd.S_typed HO_155001.out) (by decide)) (fun k_ hk => ⟨hk.1.2, hk.2⟩))).1 k_ hk_.symm) ?aF ?aO ?aB ?aS ?aL ?_
                    (case aP => exact k45_mkM _ _ _ (⟨(rd_T45 l0_1 x9_2).f0, t157⟩ : S45) (Kd.R_mono (Kd.R_tight rfl (Kd.R_mono (ok' := fun k_ => ((fun k_ => some k_ ≠ (.slice Ao31 t151.length co31 : Value).ownBlock)) k_ ∧ some k_ ≠ (u155001 : Value).ownBlock) (Kd.R_apart' (HO159.out) (Kd.S_typed HO_155001.out) (by decide)) (fun k_ hk => ⟨hk.1.2, hk.2⟩))) (fun _ h_ => h_)))
                    (case aB => exact (by repeat (first | (with_reducible first | exact HB.out | apply below_alloc | apply pw_below_drewN | apply below_drew1 | refine below_set ?_ GE148.out | refine below_set ?_ GE149.out | refine below_set ?_ GE154.out) | exact HB.out)))
                    (case aF => exact (fun k_ hk => Kd.fresh' (Kd.R_lt (by (with_reducible repeat (first | apply Kd.R_alloc | apply Kd.R_drewN | apply Kd.R_drew)); exact HO_155000.out)) k_ hk))
                    (case aO => exact (by (with_reducible repeat (first | apply Kd.S_alloc | apply Kd.S_drewN | apply Kd.S_drew)); exact Kd.S_mono HO_155001.out (fun k_ hk => ⟨hk.1, fun e_ => hk.2 e_⟩)))
                    (case aS => exact (below_size (by repeat (first | (with_reducible first | exact HB.out | apply below_alloc | apply pw_below_drewN | apply below_drew1 | refine below_set ?_ GE148.out | refine below_set ?_ GE149.out | refine below_set ?_ GE154.out) | exact HB.out))))
                    (case aL => have := LMc39.out; omega)
                    intro v161 w46 ho hb hg hat
                    rw [← Ny160.out] at ho
                    have n0_ := Aside0.mk (Kd.R_over' (by (with_reducible repeat (first | apply Kd.R_alloc | apply Kd.R_drewN | apply Kd.R_drew)); exact HO_155000.out) (Kd.S_typed (by (with_reducible repeat (first | apply Kd.S_alloc | apply Kd.S_drewN | apply Kd.S_drew)); exact HO_155001.out)) (by decide) hg)
                    have n1_ := Aside0.mk (blk_grown (g := gb148) (o := .cells #[.slice A0_0 l0_0.length c0_0, .slice (some ad155) l0_1.length c0_1] 25 (0, 0)) (by (with_reducible repeat (first | refine blk_drewN ?_ _ | refine blk_drew ?_ | refine blk_alloc ?_ _)); exact BK148.out) hg (Kd.S_ne HO_155001.out BK148.out (by decide)))
                    have n2_ := Aside0.mk (blk_grown (g := gb149) (o := .cells #[.slice none 0 0, .slice none 0 0] 25 (0, 0)) (by (with_reducible repeat (first | refine blk_drewN ?_ _ | refine blk_drew ?_ | refine blk_alloc ?_ _)); exact BK149.out) hg (Kd.S_ne HO_155001.out BK149.out (by decide)))
                    have n3_ := Aside0.mk (blk_grown (g := gb154) (o := .cells #[.slice Ao31 t151.length co31, u155001] 25 (0, 0)) (by (with_reducible repeat (first | refine blk_drewN ?_ _ | refine blk_drew ?_ | refine blk_alloc ?_ _)); exact BK154.out) hg (Kd.S_ne HO_155001.out BK154.out (by decide)))
                    have n4_ := Aside0.mk (hb)
                    have n5_ := Aside0.mk (ho)
                    clear HO_155000
                    clear BK148
                    clear BK149
                    clear BK154
                    clear HB
                    clear HO_155001
                    clear HO159
                    have HO_155000 := n0_
                    have BK148 := n1_
                    have BK149 := n2_
                    have BK154 := n3_
                    have HB := n4_
                    have HO162 := n5_
                    clear n0_ n1_ n2_ n3_ n4_ n5_
                    clear ho hb hg hat
                    obtain ⟨Ao47, co47, eo47⟩ := Kd.S_slice HO162.out
                    (first | subst eo47 | (injection eo47 with f1_ f2_ f3_; have f4_ := f1_.symm; have f5_ := f3_.symm; clear f1_ f2_ f3_; subst f4_; subst f5_))
                    refine hK.out _ _ ⟨(blk_cell BK154.out 0).trans rfl, (blk_cell BK154.out 1).trans rfl, (blk_cell BK148.out 0).trans rfl, (blk_cell BK148.out 1).trans rfl, ((HB.out.cell (World.block_lt_of_cell? w _ hw155_0)).trans hw155_0), ((HB.out.cell (World.block_lt_of_cell? w _ hw155_1)).trans hw155_1), ((HB.out.cell (World.block_lt_of_cell? w _ hw156_0)).trans hw156_0), ((HB.out.cell (World.block_lt_of_cell? w _ hw156_1)).trans hw156_1)⟩ (fun hHeld => ?_)
                    clear hK K
                    refine norm_ (a' := ?_) ?_ ?_
                    rotate_left
                    · show Act.put _ (some 61) _ = _
                      simp only [Act.put, List.setIfInBounds_toArray, List.set_cons_zero, List.set_cons_succ, i64_w, i32_w]
                      rfl
                    refine pure_ (i := 18) (N := some 62) (v := ?_) (a' := ?_) #[true, true, true, true, true, true, true, true, true, true, true, true, true, true, true, true, true, true, true, false] rfl rfl (any_of HT_.out (by kernel_rfl)) (fun _ _ _ h => h) (Or.inl ⟨by rfl, ?_⟩) ?_ ?_
                    rotate_left
                    · intro w'
                      go_simp
                      with_reducible rfl
                    rotate_left
                    · simp only [Act.put, List.setIfInBounds_toArray, List.set_cons_zero, List.set_cons_succ, i64_w, i32_w]
                      rfl
                    refine last_ (i := 19) (N := none) #[true, true, true, true, true, true, true, true, true, true, true, true, true, true, true, true, true, true, true, true] rfl rfl (one_of HT_.out (by kernel_rfl)) (by decide) (fun K hK => ?_)
                    have hs48 : w46.cell? ⟨gb154, 1, none⟩ = some (u155001) := (blk_cell BK154.out 1).trans rfl
                    have hfs48 := blk_frozen BK154.out 1
                    have hns48_0 := NB148_154.out
                    have hns48_1 := NB149_154.out
                    have hms48_0 := NB154_148.out
                    have hms48_1 := NB154_149.out
                    refine skip_ (w1 := ?_) (by rfl) rfl ?_ ?_
                    rotate_left
                    · go_simp
                      rfl
                    refine hK.out _ _ ?_
                    clear hK K
                    refine done_ (done_of HT_.out (by kernel_rfl)) ?_
                    try go_wp2
                    go_roundg k2
                    case measure => have := HJ3.out; have := HK2.out; omega
                    case rel => exact ⟨(wrap64 (x9_2 + 1)), (y160), (.slice Ao47 y160.length co47), (by first | rfl | (simp; done) | (simp [*]; done)), H', ⟨by have := HJ3.out; have := HK2.out; omega⟩, ⟨by (with_reducible repeat (first | apply Kd.R_alloc | apply Kd.R_drewN | apply Kd.R_drew)); exact Kd.R_mono (Kd.R_far (p := ⟨gb154, 1, none⟩) (Kd.R_types HO_155000.out BK154.out (by decide)) (fun _ hk => hk.2) (.slice Ao47 y160.length co47)) (fun _ hk => trivial)⟩, ⟨by (with_reducible repeat (first | apply Kd.S_alloc | apply Kd.S_drewN | apply Kd.S_drew)); exact Kd.S_mono (Kd.S_far (p := ⟨gb154, 1, none⟩) (Kd.S_types HO162.out BK154.out (by decide)) (fun _ hk => hk.2) (.slice Ao47 y160.length co47)) (fun _ hk => hk.1)⟩, ⟨by (with_reducible repeat (first | refine blk_drewN ?_ _ | refine blk_drew ?_ | refine blk_alloc ?_ _)); refine blk_far ?_ NB148_154.out _; (with_reducible repeat (first | refine blk_drewN ?_ _ | refine blk_drew ?_ | refine blk_alloc ?_ _)); exact BK148.out⟩, ⟨by (with_reducible repeat (first | refine blk_drewN ?_ _ | refine blk_drew ?_ | refine blk_alloc ?_ _)); refine blk_far ?_ NB149_154.out _; (with_reducible repeat (first | refine blk_drewN ?_ _ | refine blk_drew ?_ | refine blk_alloc ?_ _)); exact BK149.out⟩, ⟨by (with_reducible repeat (first | refine blk_drewN ?_ _ | refine blk_drew ?_ | refine blk_alloc ?_ _)); refine blk_put (cs := #[.slice Ao31 t151.length co31, u155001]) ?_ 1 _ rfl; (with_reducible repeat (first | refine blk_drewN ?_ _ | refine blk_drew ?_ | refine blk_alloc ?_ _)); exact BK154.out⟩, ⟨by repeat (first | (with_reducible first | exact HB.out | apply below_alloc | apply pw_below_drewN | apply below_drew1 | refine below_set ?_ GE148.out | refine below_set ?_ GE149.out | refine below_set ?_ GE154.out) | exact HB.out)⟩⟩
                  · rw [if_neg c39] at H
                    exact absurd H (by simp)
                · rw [if_neg c37] at H
                  exact absurd H (by simp)
              · rw [if_neg c36] at H
                have c36b0 : decide (x9_2 < (l0_1.length : Int)) = false := decide_eq_false c36
                clear c36
                replace H := Option.bind_eq_some_iff.mp H
                obtain ⟨t163, A490, H⟩ := H
                replace H : (if x155001_2.length < 4398046511104 then (some (t151, (x155001_2 ++ [(⟨a1, t163⟩ : S45)]), 0)) else (none)) = some (r1, r2, r3) := H
                have A49 := Aside0.mk A490
                clear A490
                by_cases c50 : x155001_2.length < 4398046511104
                · rw [if_pos c50] at H
                  have LMc50 := Aside0.mk c50
                  clear c50
                  obtain ⟨y166, hy166⟩ : ∃ y_ : List (S45), y_ = (x155001_2 ++ [(⟨a1, t163⟩ : S45)]) := ⟨_, rfl⟩
                  replace H : (some (t151, y166, 0)) = some (r1, r2, r3) := by first | (rw [hy166]; with_reducible exact H) | (have H2_ := (Option.bind_some _ _).symm.trans H; rw [hy166]; with_reducible exact H2_) | (have H2_ := (Option.bind_some _ _).symm.trans H; with_reducible exact H2_) | with_reducible exact H | (rw [hy166]; exact H) | exact H
                  have Ny166 := Aside0.mk hy166
                  clear hy166
                  simp only [Option.some.injEq, Prod.mk.injEq] at H
                  obtain ⟨rfl, rfl, rfl⟩ := H
                  have hnb51 := NB148_149.out
                  have hnc51 := NB149_148.out
                  have hnb52 := NB148_154.out
                  have hnc52 := NB154_148.out
                  have hcz53_0 : wr.cell? ⟨gb148, 0, none⟩ = some (.slice A0_0 l0_0.length c0_0) := (blk_cell BK148.out 0).trans rfl
                  have hcz53_1 : wr.cell? ⟨gb148, 1, none⟩ = some (.slice A0_1 l0_1.length c0_1) := (blk_cell BK148.out 1).trans rfl
                  have hfz53_0 := blk_frozen BK148.out 0
                  have hfz53_1 := blk_frozen BK148.out 1
                  try go_wp2
                  have n0_ := Aside0.mk (Kd.R_drew HO_155000.out)
                  have n1_ := Aside0.mk (Kd.S_drew HO_155001.out)
                  have n2_ := Aside0.mk (blk_drew BK148.out)
                  have n3_ := Aside0.mk (blk_drew BK149.out)
                  have n4_ := Aside0.mk (blk_drew BK154.out)
                  have n5_ := Aside0.mk (below_drew1 HB.out)
                  clear HO_155000
                  clear HO_155001
                  clear BK148
                  clear BK149
                  clear BK154
                  clear HB
                  have HO_155000 := n0_
                  have HO_155001 := n1_
                  have BK148 := n2_
                  have BK149 := n3_
                  have BK154 := n4_
                  have HB := n5_
                  clear n0_ n1_ n2_ n3_ n4_ n5_
                  refine start_ (n := 10) (S := fun w' => w'.cell? ⟨gb154, 0, none⟩ = some (.slice Ao31 t151.length co31) ∧ w'.cell? ⟨gb154, 1, none⟩ = some (u155001)) (ds := [9]) #[false, false, false, false, false, false, false, false, false, false] (by kernel_rfl) rfl rfl ⟨(blk_cell BK154.out 0).trans rfl, (blk_cell BK154.out 1).trans rfl⟩ (fun hHeld => ?_); refine with_tabW wageofficeref42_Write.tab10 wageofficeref42_Write.bits10 (fun HT_ HW_ => ?_)
                  generalize wr.drew = w54 at HO_155000 HO_155001 BK148 BK149 BK154 HB hHeld ⊢
                  refine pure_ (i := 0) (N := some 63) (v := ?_) (a' := ?_) #[true, false, false, false, false, false, false, false, false, false] rfl rfl (any_of HT_.out (by kernel_rfl)) (fun _ _ _ h => h) (Or.inl ⟨by rfl, ?_⟩) ?_ ?_
                  rotate_left
                  · intro w'
                    go_simp
                    with_reducible rfl
                  rotate_left
                  · simp only [Act.put, List.setIfInBounds_toArray, List.set_cons_zero, List.set_cons_succ, i64_w, i32_w]
                    rfl
                  refine pure_ (i := 2) (N := some 65) (v := ?_) (a' := ?_) #[true, false, true, false, false, false, false, false, false, false] rfl rfl (any_of HT_.out (by kernel_rfl)) (fun _ _ _ h => h) (Or.inl ⟨by rfl, ?_⟩) ?_ ?_
                  rotate_left
                  · intro w'
                    go_simp
                    with_reducible rfl
                  rotate_left
                  · simp only [Act.put, List.setIfInBounds_toArray, List.set_cons_zero, List.set_cons_succ, i64_w, i32_w]
                    rfl
                  refine pure_ (i := 3) (N := some 66) (v := ?_) (a' := ?_) #[true, false, true, true, false, false, false, false, false, false] rfl rfl (any_of HT_.out (by kernel_rfl)) (fun _ _ _ h => h) (Or.inl ⟨by rfl, ?_⟩) ?_ ?_
                  rotate_left
                  · intro w'
                    go_simp
                    with_reducible rfl
                  rotate_left
                  · simp only [Act.put, List.setIfInBounds_toArray, List.set_cons_zero, List.set_cons_succ, i64_w, i32_w]
                    rfl
                  refine take_ (i := 1) (N := some 64) (v := ?_) (a' := ?_) #[true, true, true, true, false, false, false, false, false, false] rfl rfl (take_ofW HT_.out HW_.out (by kernel_rfl)) (fun _ _ _ h => h) (Or.inl ⟨by rfl, ?_⟩) hHeld ?_ ?_
                  rotate_left
                  · rintro w' ⟨s0, s1⟩
                    go_simp
                    with_reducible rfl
                  rotate_left
                  · simp only [Act.put, List.setIfInBounds_toArray, List.set_cons_zero, List.set_cons_succ, i64_w, i32_w]
                    rfl
                  refine one_ (i := 4) (N := some 67) #[true, true, true, true, true, false, false, false, false, false] rfl rfl (one_of HT_.out (by kernel_rfl)) (by decide) (fun K hK => ?_)
                  refine goes_ Try.func46 (by kernel_rfl) rfl #[.slice A2 l2.length c2] (by rfl) rfl rfl (by (try simp only [List.map_toArray, List.map_cons, List.map_nil]); first | done | rfl | (simp only [List.length_drop, List.length_take]; rfl)) ?_
                  with_reducible refine (wageofficeref42_Copy.calls k2 _ _ l2 t163 _ ?side1 ?side2 A49.out).mono ?_
                  (case side1 => repeat (first | exact (Kd.C_below HR2.out HB.out) | (with_reducible refine Kd.C_alloc ?_ _) | (with_reducible refine Kd.C_drewN ?_ _) | (with_reducible refine Kd.C_drew ?_)))
                  (case side2 => exact HC2.out)
                  rintro e w55 ⟨v164, rfl, ho0, hb⟩
                  refine ⟨_, rfl, ?_⟩
                  have n0_ := Aside0.mk (Kd.R_elder' (by (with_reducible repeat (first | apply Kd.R_alloc | apply Kd.R_drewN | apply Kd.R_drew)); exact HO_155000.out) (Kd.R_base ho0) hb)
                  have n1_ := Aside0.mk (Kd.S_elder' (by (with_reducible repeat (first | apply Kd.S_alloc | apply Kd.S_drewN | apply Kd.S_drew)); exact HO_155001.out) (Kd.R_base ho0) hb)
                  have n2_ := Aside0.mk (Kd.R_lower (Kd.R_new' ho0 (Kd.R_lt (by (with_reducible repeat (first | apply Kd.R_alloc | apply Kd.R_drewN | apply Kd.R_drew)); exact HO_155000.out))) (below_size (by repeat (first | (with_reducible first | exact HB.out | apply below_alloc | apply pw_below_drewN | apply below_drew1 | refine below_set ?_ GE148.out | refine below_set ?_ GE149.out | refine below_set ?_ GE154.out) | exact HB.out))))
                  have n3_ := Aside0.mk (blk_below (g := gb148) (o := .cells #[.slice A0_0 l0_0.length c0_0, .slice A0_1 l0_1.length c0_1] 25 (0, 0)) (by (with_reducible repeat (first | refine blk_drewN ?_ _ | refine blk_drew ?_ | refine blk_alloc ?_ _)); exact BK148.out) hb)
                  have n4_ := Aside0.mk (blk_below (g := gb149) (o := .cells #[.slice none 0 0, .slice none 0 0] 25 (0, 0)) (by (with_reducible repeat (first | refine blk_drewN ?_ _ | refine blk_drew ?_ | refine blk_alloc ?_ _)); exact BK149.out) hb)
                  have n5_ := Aside0.mk (blk_below (g := gb154) (o := .cells #[.slice Ao31 t151.length co31, u155001] 25 (0, 0)) (by (with_reducible repeat (first | refine blk_drewN ?_ _ | refine blk_drew ?_ | refine blk_alloc ?_ _)); exact BK154.out) hb)
                  have n6_ := Aside0.mk (below_step (by repeat (first | (with_reducible first | exact HB.out | apply below_alloc | apply pw_below_drewN | apply below_drew1 | refine below_set ?_ GE148.out | refine below_set ?_ GE149.out | refine below_set ?_ GE154.out) | exact HB.out)) hb)
                  clear HO_155000
                  clear HO_155001
                  clear BK148
                  clear BK149
                  clear BK154
                  clear HB
                  have HO_155000 := n0_
                  have HO_155001 := n1_
                  have HO165 := n2_
                  have BK148 := n3_
                  have BK149 := n4_
                  have BK154 := n5_
                  have HB := n6_
                  clear n0_ n1_ n2_ n3_ n4_ n5_ n6_
                  (try clear hb)
                  (try clear hb2)
                  (try clear hk)
                  (try clear hi)
                  (try clear ho0)
                  obtain ⟨Ao56, co56, eo56⟩ := Kd.R_slice HO165.out
                  (first | subst eo56 | (injection eo56 with f1_ f2_ f3_; have f4_ := f1_.symm; have f5_ := f3_.symm; clear f1_ f2_ f3_; subst f4_; subst f5_))
                  refine hK.out _ _ ⟨(blk_cell BK154.out 0).trans rfl, (blk_cell BK154.out 1).trans rfl⟩ (fun hHeld => ?_)
                  clear hK K
                  refine norm_ (a' := ?_) ?_ ?_
                  rotate_left
                  · show Act.put _ (some 67) _ = _
                    simp only [Act.put, List.setIfInBounds_toArray, List.set_cons_zero, List.set_cons_succ, i64_w, i32_w]
                    rfl
                  refine pure_ (i := 5) (N := some 68) (v := ?_) (a' := ?_) #[true, true, true, true, true, true, false, false, false, false] rfl rfl (any_of HT_.out (by kernel_rfl)) (fun _ _ _ h => h) (Or.inl ⟨by rfl, ?_⟩) ?_ ?_
                  rotate_left
                  · intro w'
                    go_simp
                    with_reducible rfl
                  rotate_left
                  · simp only [Act.put, List.setIfInBounds_toArray, List.set_cons_zero, List.set_cons_succ, i64_w, i32_w]
                    rfl
                  refine one_ (i := 6) (N := some 69) #[true, true, true, true, true, true, true, false, false, false] rfl rfl (one_of HT_.out (by kernel_rfl)) (by decide) (fun K hK => ?_)
                  refine value_ (w1 := ?_) (v := ?_) (by rfl) rfl ?_ ?_
                  rotate_left 2
                  · go_simp
                    constructor
                    · rfl
                    · rfl
                  refine hK.out _ _ ⟨(blk_cell (blk_alloc BK154.out _) 0).trans rfl, (blk_cell (blk_alloc BK154.out _) 1).trans rfl⟩ (fun hHeld => ?_)
                  clear hK K
                  refine norm_ (a' := ?_) ?_ ?_
                  rotate_left
                  · show Act.put _ (some 69) _ = _
                    simp only [Act.put, List.setIfInBounds_toArray, List.set_cons_zero, List.set_cons_succ, i64_w, i32_w]
                    rfl
                  refine one_ (i := 7) (N := some 70) #[true, true, true, true, true, true, true, true, false, false] rfl rfl (one_of HT_.out (by kernel_rfl)) (by decide) (fun K hK => ?_)
                  refine Kd.S_append_step k45 (w0 := w) w.heap.size (by rfl) (.tmp 64) (.tmp 69) 23 45 (.agg #[(.int .i64 0), (.slice none 0 0)]) 32 rfl Try.underlying23 info45 rfl (by decide) (by omega) u155001 x155001_2 (⟨a1, t163⟩ : S45) [.int .i64 a1, .slice Ao56 t163.length co56] (fun k_ => some k_ ≠ (.slice Ao31 t151.length co31 : Value).ownBlock) (fun k_ => some k_ = (.slice Ao56 t163.length co56 : Value).ownBlock) rfl rfl ?aP (fun k_ hk_ => ((Kd.R_mono (ok' := fun k_ => ((fun k_ => some k_ ≠ (.slice Ao31 t151.length co31 : Value).ownBlock)) k_ ∧ some k_ ≠ (u155001 : Value).ownBlock) (Kd.R_apart' (HO165.out) (Kd.S_typed HO_155001.out) (by decide)) (fun k_ hk => ⟨hk.1.2, hk.2⟩))).1 k_ hk_.symm) ?aF ?aO ?aB ?aS ?aL ?_
                  (case aP => exact k45_mkM _ _ _ (⟨a1, t163⟩ : S45) (Kd.R_mono (Kd.R_tight rfl (Kd.R_mono (ok' := fun k_ => ((fun k_ => some k_ ≠ (.slice Ao31 t151.length co31 : Value).ownBlock)) k_ ∧ some k_ ≠ (u155001 : Value).ownBlock) (Kd.R_apart' (HO165.out) (Kd.S_typed HO_155001.out) (by decide)) (fun k_ hk => ⟨hk.1.2, hk.2⟩))) (fun _ h_ => h_)))
                  (case aB => exact (by repeat (first | (with_reducible first | exact HB.out | apply below_alloc | apply pw_below_drewN | apply below_drew1 | refine below_set ?_ GE148.out | refine below_set ?_ GE149.out | refine below_set ?_ GE154.out) | exact HB.out)))
                  (case aF => exact (fun k_ hk => Kd.fresh' (Kd.R_lt (by (with_reducible repeat (first | apply Kd.R_alloc | apply Kd.R_drewN | apply Kd.R_drew)); exact HO_155000.out)) k_ hk))
                  (case aO => exact (by (with_reducible repeat (first | apply Kd.S_alloc | apply Kd.S_drewN | apply Kd.S_drew)); exact Kd.S_mono HO_155001.out (fun k_ hk => ⟨hk.1, fun e_ => hk.2 e_⟩)))
                  (case aS => exact (below_size (by repeat (first | (with_reducible first | exact HB.out | apply below_alloc | apply pw_below_drewN | apply below_drew1 | refine below_set ?_ GE148.out | refine below_set ?_ GE149.out | refine below_set ?_ GE154.out) | exact HB.out))))
                  (case aL => have := LMc50.out; omega)
                  intro v167 w57 ho hb hg hat
                  rw [← Ny166.out] at ho
                  have n0_ := Aside0.mk (Kd.R_over' (by (with_reducible repeat (first | apply Kd.R_alloc | apply Kd.R_drewN | apply Kd.R_drew)); exact HO_155000.out) (Kd.S_typed (by (with_reducible repeat (first | apply Kd.S_alloc | apply Kd.S_drewN | apply Kd.S_drew)); exact HO_155001.out)) (by decide) hg)
                  have n1_ := Aside0.mk (blk_grown (g := gb148) (o := .cells #[.slice A0_0 l0_0.length c0_0, .slice A0_1 l0_1.length c0_1] 25 (0, 0)) (by (with_reducible repeat (first | refine blk_drewN ?_ _ | refine blk_drew ?_ | refine blk_alloc ?_ _)); exact BK148.out) hg (Kd.S_ne HO_155001.out BK148.out (by decide)))
                  have n2_ := Aside0.mk (blk_grown (g := gb149) (o := .cells #[.slice none 0 0, .slice none 0 0] 25 (0, 0)) (by (with_reducible repeat (first | refine blk_drewN ?_ _ | refine blk_drew ?_ | refine blk_alloc ?_ _)); exact BK149.out) hg (Kd.S_ne HO_155001.out BK149.out (by decide)))
                  have n3_ := Aside0.mk (blk_grown (g := gb154) (o := .cells #[.slice Ao31 t151.length co31, u155001] 25 (0, 0)) (by (with_reducible repeat (first | refine blk_drewN ?_ _ | refine blk_drew ?_ | refine blk_alloc ?_ _)); exact BK154.out) hg (Kd.S_ne HO_155001.out BK154.out (by decide)))
                  have n4_ := Aside0.mk (hb)
                  have n5_ := Aside0.mk (ho)
                  clear HO_155000
                  clear BK148
                  clear BK149
                  clear BK154
                  clear HB
                  clear HO_155001
                  clear HO165
                  have HO_155000 := n0_
                  have BK148 := n1_
                  have BK149 := n2_
                  have BK154 := n3_
                  have HB := n4_
                  have HO168 := n5_
                  clear n0_ n1_ n2_ n3_ n4_ n5_
                  clear ho hb hg hat
                  obtain ⟨Ao58, co58, eo58⟩ := Kd.S_slice HO168.out
                  (first | subst eo58 | (injection eo58 with f1_ f2_ f3_; have f4_ := f1_.symm; have f5_ := f3_.symm; clear f1_ f2_ f3_; subst f4_; subst f5_))
                  refine hK.out _ _ ⟨(blk_cell BK154.out 0).trans rfl, (blk_cell BK154.out 1).trans rfl⟩ (fun hHeld => ?_)
                  clear hK K
                  refine norm_ (a' := ?_) ?_ ?_
                  rotate_left
                  · show Act.put _ (some 70) _ = _
                    simp only [Act.put, List.setIfInBounds_toArray, List.set_cons_zero, List.set_cons_succ, i64_w, i32_w]
                    rfl
                  refine pure_ (i := 8) (N := some 71) (v := ?_) (a' := ?_) #[true, true, true, true, true, true, true, true, true, false] rfl rfl (any_of HT_.out (by kernel_rfl)) (fun _ _ _ h => h) (Or.inl ⟨by rfl, ?_⟩) ?_ ?_
                  rotate_left
                  · intro w'
                    go_simp
                    with_reducible rfl
                  rotate_left
                  · simp only [Act.put, List.setIfInBounds_toArray, List.set_cons_zero, List.set_cons_succ, i64_w, i32_w]
                    rfl
                  refine last_ (i := 9) (N := none) #[true, true, true, true, true, true, true, true, true, true] rfl rfl (one_of HT_.out (by kernel_rfl)) (by decide) (fun K hK => ?_)
                  have hs59 : w57.cell? ⟨gb154, 1, none⟩ = some (u155001) := (blk_cell BK154.out 1).trans rfl
                  have hfs59 := blk_frozen BK154.out 1
                  have hns59_0 := NB148_154.out
                  have hns59_1 := NB149_154.out
                  have hms59_0 := NB154_148.out
                  have hms59_1 := NB154_149.out
                  refine skip_ (w1 := ?_) (by rfl) rfl ?_ ?_
                  rotate_left
                  · go_simp
                    rfl
                  refine hK.out _ _ ?_
                  clear hK K
                  refine done_ (done_of HT_.out (by kernel_rfl)) ?_
                  have hnb60 := NB154_149.out
                  have hnc60 := NB149_154.out
                  have hcz61_0 : w57.cell? ⟨gb154, 0, none⟩ = some (.slice Ao31 t151.length co31) := (blk_cell BK154.out 0).trans rfl
                  have hcz61_1 : w57.cell? ⟨gb154, 1, none⟩ = some (u155001) := (blk_cell BK154.out 1).trans rfl
                  have hfz61_0 := blk_frozen BK154.out 0
                  have hfz61_1 := blk_frozen BK154.out 1
                  have hcz62_0 : w57.cell? ⟨gb149, 0, none⟩ = some (.slice none 0 0) := (blk_cell BK149.out 0).trans rfl
                  have hcz62_1 : w57.cell? ⟨gb149, 1, none⟩ = some (.slice none 0 0) := (blk_cell BK149.out 1).trans rfl
                  have hfz62_0 := blk_frozen BK149.out 0
                  have hfz62_1 := blk_frozen BK149.out 1
                  try go_wp2
                  refine bodyPost_ret (results_ct rfl _ _ gb149 25 #[.slice Ao31 t151.length co31, .slice Ao58 y166.length co58] (0, 0) _ rfl (by (with_reducible repeat (first | refine blk_drewN ?_ _ | refine blk_drew ?_ | refine blk_alloc ?_ _)); refine blk_put (cs := #[.slice Ao31 t151.length co31, .slice none 0 0]) ?_ 1 _ rfl; (with_reducible repeat (first | refine blk_drewN ?_ _ | refine blk_drew ?_ | refine blk_alloc ?_ _)); refine blk_put (cs := #[.slice none 0 0, .slice none 0 0]) ?_ 0 _ rfl; (with_reducible repeat (first | refine blk_drewN ?_ _ | refine blk_drew ?_ | refine blk_alloc ?_ _)); refine blk_far ?_ NB149_154.out _; (with_reducible repeat (first | refine blk_drewN ?_ _ | refine blk_drew ?_ | refine blk_alloc ?_ _)); exact BK149.out) Try.underlying25 rfl (by kernel_rfl)) rfl ?_
                  exact ⟨_, _, by first | rfl | (simp [errW_none, errW_some] <;> rfl) | (simp [*, errW_none, errW_some] <;> rfl), by (with_reducible repeat (first | apply Kd.R_alloc | apply Kd.R_drewN | apply Kd.R_drew)); exact Kd.R_mono (Kd.R_far (p := ⟨gb149, 1, none⟩) (Kd.R_far (p := ⟨gb149, 0, none⟩) (Kd.R_far (p := ⟨gb154, 1, none⟩) (Kd.R_types (Kd.R_types HO_155000.out BK154.out (by decide)) BK149.out (by decide)) (fun _ hk => hk.1.2) (.slice Ao58 y166.length co58)) (fun _ hk => hk.2) (.slice Ao31 t151.length co31)) (fun _ hk => hk.2) (.slice Ao58 y166.length co58)) (fun _ hk => trivial), by (with_reducible repeat (first | apply Kd.S_alloc | apply Kd.S_drewN | apply Kd.S_drew)); exact Kd.S_mono (Kd.S_far (p := ⟨gb149, 1, none⟩) (Kd.S_far (p := ⟨gb149, 0, none⟩) (Kd.S_far (p := ⟨gb154, 1, none⟩) (Kd.S_types (Kd.S_types HO168.out BK154.out (by decide)) BK149.out (by decide)) (fun _ hk => hk.1.2) (.slice Ao58 y166.length co58)) (fun _ hk => hk.2) (.slice Ao31 t151.length co31)) (fun _ hk => hk.2) (.slice Ao58 y166.length co58)) (fun _ hk => hk.1.1), by repeat (first | (with_reducible first | exact HB.out | apply below_alloc | apply pw_below_drewN | apply below_drew1 | refine below_set ?_ GE148.out | refine below_set ?_ GE149.out | refine below_set ?_ GE154.out) | exact HB.out)⟩
                · rw [if_neg c50] at H
                  exact absurd H (by simp)

end Go.Proofs.Ytfpdmlhknddffaa.Dk
