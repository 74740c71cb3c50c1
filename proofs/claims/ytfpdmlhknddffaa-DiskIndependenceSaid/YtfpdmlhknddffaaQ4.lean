/- Printed by a program of this session: contracts of functions that the Disk statements reach. -/
import Derived.Test.YtfpdmlhknddffaaQ0
import Derived.Test.YtfpdmlhknddffaaQ2
namespace Go.Proofs.Ytfpdmlhknddffaa.Dk
open Go.RowKit Go.Proofs.YtfpdmlhknddffaaW.PrintWords Go.Proofs.YtfpdmlhknddffaaW.PrintLast Go.Proofs.YtfpdmlhknddffaaW.PrintMore
attribute [local go_sem] max2_int min2_int max_two min_two max_three min_three max_four min_four   -- for this text's walks alone
set_option linter.unusedVariables false
set_option linter.unusedSimpArgs false

/-! ### wageofficeref42_Crash: function 29 -/
mutual
def wageofficeref42_Crash.l0 : Nat → List Int → Int → List Int → List (S45) → List Int → Option (List Int × (List (S45)))
  | 0, _, _, _, _, _ => none
  | k + 1, x1, x6, x170000, x170001, x176000 => if x6 < (x170001.length : Int) then (wageofficeref42_Crash.j1 k x1 x6 (decide (x6 < (x1.length : Int))) x170000 x170001 x176000) else (wageofficeref42_Crash.j1 k x1 x6 false x170000 x170001 x176000)
def wageofficeref42_Crash.j1 : Nat → List Int → Int → Bool → List Int → List (S45) → List Int → Option (List Int × (List (S45)))
  | 0, _, _, _, _, _, _ => none
  | k + 1, x1, x6, x27, x170000, x170001, x176000 => if x27 = true then (if 0 ≤ x6 then (if x6 < (x170001.length : Int) then (wageofficeref42_Crash.l1 k x1 x6 0 x170000 x170001 x176000 ((rd_T45 x170001 x6).f0) ((rd_T45 x170001 x6).f1)) else (none)) else (none)) else (some (x176000, ([] : List (S45))))
def wageofficeref42_Crash.l1 : Nat → List Int → Int → Int → List Int → List (S45) → List Int → Int → List Int → Option (List Int × (List (S45)))
  | 0, _, _, _, _, _, _, _, _ => none
  | k + 1, x1, x6, x8, x170000, x170001, x176000, x178000, x178001 => if x8 < (x178001.length : Int) then (if 0 ≤ x6 then (if x6 < (x1.length : Int) then (if x8 < (rd x1 x6) then (if 0 ≤ x8 then (if 0 ≤ (wrap64 (x178000 + x8)) then (if (wrap64 (x178000 + x8)) < (x176000.length : Int) then (wageofficeref42_Crash.l1 k x1 x6 (wrap64 (x8 + 1)) x170000 x170001 (x176000.set ((wrap64 (x178000 + x8)) : Int).toNat (rd x178001 x8)) x178000 x178001) else (none)) else (none)) else (none)) else (wageofficeref42_Crash.l0 k x1 (wrap64 (x6 + 1)) x170000 x170001 x176000)) else (none)) else (none)) else (wageofficeref42_Crash.l0 k x1 (wrap64 (x6 + 1)) x170000 x170001 x176000)
end
def wageofficeref42_Crash.f (k : Nat) (l0_0 : List Int) (l0_1 : List (S45)) (l1 : List Int) : Option (List Int × (List (S45))) := (wageofficeref42_Valid.f k l0_0 l0_1).bind fun t171 => (if t171 = true then ((wageofficeref42_Copy.f k l0_0).bind fun t172 => (wageofficeref42_Crash.l0 k l1 0 l0_0 l0_1 t172)) else (some (([] : List Int), ([] : List (S45)))))
theorem wageofficeref42_Crash.mono_l : ∀ k, (∀ y0 y1 y2 y3 y4, LeO (wageofficeref42_Crash.l0 k y0 y1 y2 y3 y4) (wageofficeref42_Crash.l0 (k + 1) y0 y1 y2 y3 y4)) ∧ (∀ y0 y1 y2 y3 y4 y5, LeO (wageofficeref42_Crash.j1 k y0 y1 y2 y3 y4 y5) (wageofficeref42_Crash.j1 (k + 1) y0 y1 y2 y3 y4 y5)) ∧ (∀ y0 y1 y2 y3 y4 y5 y6 y7, LeO (wageofficeref42_Crash.l1 k y0 y1 y2 y3 y4 y5 y6 y7) (wageofficeref42_Crash.l1 (k + 1) y0 y1 y2 y3 y4 y5 y6 y7))
  | 0 => ⟨fun _ _ _ _ _ r h => by simp [wageofficeref42_Crash.l0] at h, fun _ _ _ _ _ _ r h => by simp [wageofficeref42_Crash.j1] at h, fun _ _ _ _ _ _ _ _ r h => by simp [wageofficeref42_Crash.l1] at h⟩
  | k + 1 => by
    obtain ⟨ih0, ih1, ih2⟩ := wageofficeref42_Crash.mono_l k
    refine ⟨?_, ?_, ?_⟩
    · intro y0 y1 y2 y3 y4
      unfold wageofficeref42_Crash.l0
      repeat' first
      | (with_reducible exact ih0 _ _ _ _ _)
      | (with_reducible exact ih1 _ _ _ _ _ _)
      | (with_reducible exact ih2 _ _ _ _ _ _ _ _)
      | (with_reducible exact wageofficeref42_Copy.mono _ _)
      | (with_reducible exact wageofficeref42_Valid.mono _ _ _)
      | (with_reducible exact LeO.refl _)
      | (with_reducible exact LeO.none _)
      | (with_reducible refine LeO.ite ?_ ?_)
      | (with_reducible refine LeO.bind ?_ (fun _ => ?_))
      | exact ih0 _ _ _ _ _
      | exact ih1 _ _ _ _ _ _
      | exact ih2 _ _ _ _ _ _ _ _
      | exact wageofficeref42_Copy.mono _ _
      | exact wageofficeref42_Valid.mono _ _ _
      | exact LeO.none _
      | refine LeO.ite ?_ ?_
      | refine LeO.bind ?_ (fun _ => ?_)
    · intro y0 y1 y2 y3 y4 y5
      unfold wageofficeref42_Crash.j1
      repeat' first
      | (with_reducible exact ih0 _ _ _ _ _)
      | (with_reducible exact ih1 _ _ _ _ _ _)
      | (with_reducible exact ih2 _ _ _ _ _ _ _ _)
      | (with_reducible exact wageofficeref42_Copy.mono _ _)
      | (with_reducible exact wageofficeref42_Valid.mono _ _ _)
      | (with_reducible exact LeO.refl _)
      | (with_reducible exact LeO.none _)
      | (with_reducible refine LeO.ite ?_ ?_)
      | (with_reducible refine LeO.bind ?_ (fun _ => ?_))
      | exact ih0 _ _ _ _ _
      | exact ih1 _ _ _ _ _ _
      | exact ih2 _ _ _ _ _ _ _ _
      | exact wageofficeref42_Copy.mono _ _
      | exact wageofficeref42_Valid.mono _ _ _
      | exact LeO.none _
      | refine LeO.ite ?_ ?_
      | refine LeO.bind ?_ (fun _ => ?_)
    · intro y0 y1 y2 y3 y4 y5 y6 y7
      unfold wageofficeref42_Crash.l1
      repeat' first
      | (with_reducible exact ih0 _ _ _ _ _)
      | (with_reducible exact ih1 _ _ _ _ _ _)
      | (with_reducible exact ih2 _ _ _ _ _ _ _ _)
      | (with_reducible exact wageofficeref42_Copy.mono _ _)
      | (with_reducible exact wageofficeref42_Valid.mono _ _ _)
      | (with_reducible exact LeO.refl _)
      | (with_reducible exact LeO.none _)
      | (with_reducible refine LeO.ite ?_ ?_)
      | (with_reducible refine LeO.bind ?_ (fun _ => ?_))
      | exact ih0 _ _ _ _ _
      | exact ih1 _ _ _ _ _ _
      | exact ih2 _ _ _ _ _ _ _ _
      | exact wageofficeref42_Copy.mono _ _
      | exact wageofficeref42_Valid.mono _ _ _
      | exact LeO.none _
      | refine LeO.ite ?_ ?_
      | refine LeO.bind ?_ (fun _ => ?_)
theorem wageofficeref42_Crash.mono : ∀ a0 a1 a2 k, LeO (wageofficeref42_Crash.f k a0 a1 a2) (wageofficeref42_Crash.f (k + 1) a0 a1 a2) := by
  intro a0 a1 a2 k
  obtain ⟨ih0, ih1, ih2⟩ := wageofficeref42_Crash.mono_l k
  unfold wageofficeref42_Crash.f
  repeat' first
      | (with_reducible exact ih0 _ _ _ _ _)
      | (with_reducible exact ih1 _ _ _ _ _ _)
      | (with_reducible exact ih2 _ _ _ _ _ _ _ _)
      | (with_reducible exact wageofficeref42_Copy.mono _ _)
      | (with_reducible exact wageofficeref42_Valid.mono _ _ _)
      | (with_reducible exact LeO.refl _)
      | (with_reducible exact LeO.none _)
      | (with_reducible refine LeO.ite ?_ ?_)
      | (with_reducible refine LeO.bind ?_ (fun _ => ?_))
      | exact ih0 _ _ _ _ _
      | exact ih1 _ _ _ _ _ _
      | exact ih2 _ _ _ _ _ _ _ _
      | exact wageofficeref42_Copy.mono _ _
      | exact wageofficeref42_Valid.mono _ _ _
      | exact LeO.none _
      | refine LeO.ite ?_ ?_
      | refine LeO.bind ?_ (fun _ => ?_)
def wageofficeref42_Crash.T11 : Bool × List (List Nat × List Nat) := (true, [([], []), ([0], [0]), ([], []), ([2], [2]), ([], []), ([3, 4], [3, 4]), ([], []), ([6], [6]), ([], []), ([7, 8], [7, 8]), ([9], [9]), ([1, 5, 0, 1, 2, 3, 4, 5, 6, 7, 8, 9, 10], [1, 5]), ([11, 10, 0, 1, 2, 3, 4, 5, 6, 7, 8, 9, 10], [10, 11])])
def wageofficeref42_Crash.B11 : List Nat := [0, 1, 0, 4, 0, 28, 0, 64, 0, 448, 960, 2047, 4095]
theorem wageofficeref42_Crash.tab11 : rtab .any (opsOf Try.f29 11) = wageofficeref42_Crash.T11 := by kernel_rfl
theorem wageofficeref42_Crash.bits11 : waitsOk wageofficeref42_Crash.T11.2 wageofficeref42_Crash.B11 = true := by kernel_rfl
set_option maxHeartbeats 8000000 in
set_option maxRecDepth 100000 in
theorem wageofficeref42_Crash.calls (k : Nat) (A0_0 : Option Addr) (c0_0 : Nat) (l0_0 : List Int) (A0_1 : Option Addr) (c0_1 : Nat) (l0_1 : List (S45)) (A1 : Option Addr) (c1 : Nat) (l1 : List Int) (r1 : List Int) (r2 : List (S45)) (w : World) (hr0_0 : Kd.C (Kd.int .u8) w A0_0 l0_0.length l0_0) (hc0_0 : l0_0.length ≤ c0_0) (hr0_1 : Kd.C k45 w A0_1 l0_1.length l0_1) (hc0_1 : l0_1.length ≤ c0_1) (hr1 : Kd.C (Kd.int .i64) w A1 l1.length l1) (hc1 : l1.length ≤ c1) (h : wageofficeref42_Crash.f k l0_0 l0_1 l1 = some (r1, r2)) :
    Calls Try.prog 29 #[.agg #[.slice A0_0 l0_0.length c0_0, .slice A0_1 l0_1.length c0_1], .slice A1 l1.length c1] w fun e w' => ∃ v0_ v1_ : Value, e = .returned (.agg #[v0_, v1_]) ∧ Kd.R (Kd.int .u8) 5 w' w.heap.size (fun _ => True) v0_ r1 ∧ Kd.S k45 45 w' w.heap.size (fun k_ => some k_ ≠ (v0_ : Value).ownBlock) v1_ r2 ∧ Below w.heap.size w w' := by
  have hu25 := Try.underlying25
  have hu45 := Try.underlying45
  have HR0_0 := Aside0.mk hr0_0
  have HC0_0 := Aside0.mk hc0_0
  clear hr0_0 hc0_0
  have HR0_1 := Aside0.mk hr0_1
  have HC0_1 := Aside0.mk hc0_1
  clear hr0_1 hc0_1
  have HR1 := Aside0.mk hr1
  have HC1 := Aside0.mk hc1
  clear hr1 hc1
  have HB := Aside0.mk (Below.refl w.heap.size w)
  have H : ((wageofficeref42_Valid.f k l0_0 l0_1).bind fun t171 => (if t171 = true then ((wageofficeref42_Copy.f k l0_0).bind fun t172 => (wageofficeref42_Crash.l0 k l1 0 l0_0 l0_1 t172)) else (some (([] : List Int), ([] : List (S45)))))) = some (r1, r2) := h
  clear h
  replace H := Option.bind_eq_some_iff.mp H
  obtain ⟨t171, A30, H⟩ := H
  replace H : (if t171 = true then ((wageofficeref42_Copy.f k l0_0).bind fun t172 => (wageofficeref42_Crash.l0 k l1 0 l0_0 l0_1 t172)) else (some (([] : List Int), ([] : List (S45))))) = some (r1, r2) := H
  have A3 := Aside0.mk A30
  clear A30
  by_cases c4 : t171 = true
  · subst c4
    have H1 : ((wageofficeref42_Copy.f k l0_0).bind fun t172 => (wageofficeref42_Crash.l0 k l1 0 l0_0 l0_1 t172)) = some (r1, r2) := by rw [if_pos rfl] at H; exact H
    clear H
    have H := H1
    clear H1
    replace H := Option.bind_eq_some_iff.mp H
    obtain ⟨t172, A50, H⟩ := H
    replace H : (wageofficeref42_Crash.l0 k l1 0 l0_0 l0_1 t172) = some (r1, r2) := H
    have A5 := Aside0.mk A50
    clear A50
    have H' := Aside0.mk H
    clear H
    go_enter Try.func29, Try.ntmps29
    go_wp2_with (first | ((with_reducible refine gate_dst (N := 2) rfl ?_); (try (refine gate_guard (by rfl) ?_; dsimp only)); refine box_event ?hg (N := 2) ?hd (cs := #[.slice A0_0 l0_0.length c0_0, .slice A0_1 l0_1.length c0_1]) (t := 25) ?hr ?_; (case hd => rfl); (case hg => rfl); (case hr => first | (go_simp; done) | (go_simp; rfl)); intro gb169 hg w6 hbox hb; have n0_ := Aside0.mk (below_step (by repeat (first | (with_reducible first | exact HB.out | apply below_alloc | apply pw_below_drewN | apply below_drew1) | exact HB.out)) hb); have n1_ := Aside0.mk (hbox); have n2_ := Aside0.mk ((by rw [hg]; exact (below_size (by repeat (first | (with_reducible first | exact HB.out | apply below_alloc | apply pw_below_drewN | apply below_drew1) | exact HB.out))) : w.heap.size ≤ gb169)); have n3_ := Aside0.mk ((by rw [hg]; exact (below_size (by repeat (first | (with_reducible first | exact HB.out | apply below_alloc | apply pw_below_drewN | apply below_drew1) | exact HB.out))) : w.heap.size ≤ gb169)); clear HB; have HB := n0_; have BK169 := n1_; have GW169 := n2_; have GE169 := n3_; clear n0_ n1_ n2_ n3_; clear hb hbox hg) | ((with_reducible refine gate_dst (N := 4) rfl ?_); (try (refine gate_guard (by rfl) ?_; dsimp only)); refine box_event ?hg (N := 4) ?hd (cs := #[.slice none 0 0, .slice none 0 0]) (t := 25) ?hr ?_; (case hd => rfl); (case hg => rfl); (case hr => first | (go_simp; done) | (go_simp; rfl)); intro gb170 hg w7 hbox hb; have n0_ := Aside0.mk (blk_below (g := gb169) (o := .cells #[.slice A0_0 l0_0.length c0_0, .slice A0_1 l0_1.length c0_1] 25 (0, 0)) (by (with_reducible repeat (first | refine blk_drewN ?_ _ | refine blk_drew ?_ | refine blk_alloc ?_ _)); exact BK169.out) hb); have n1_ := Aside0.mk (below_step (by repeat (first | (with_reducible first | exact HB.out | apply below_alloc | apply pw_below_drewN | apply below_drew1 | refine below_set ?_ GE169.out) | exact HB.out)) hb); have n2_ := Aside0.mk (hbox); have n3_ := Aside0.mk ((by rw [hg]; exact (below_size (by repeat (first | (with_reducible first | exact HB.out | apply below_alloc | apply pw_below_drewN | apply below_drew1 | refine below_set ?_ GE169.out) | exact HB.out))) : w.heap.size ≤ gb170)); have n4_ := Aside0.mk ((by rw [hg]; exact (below_size (by repeat (first | (with_reducible first | exact HB.out | apply below_alloc | apply pw_below_drewN | apply below_drew1 | refine below_set ?_ GE169.out) | exact HB.out))) : w.heap.size ≤ gb170)); have n5_ := Aside0.mk ((by rw [hg]; exact Nat.ne_of_lt (blk_lt (g := gb169) (o := .cells #[.slice A0_0 l0_0.length c0_0, .slice A0_1 l0_1.length c0_1] 25 (0, 0)) (by (with_reducible repeat (first | refine blk_drewN ?_ _ | refine blk_drew ?_ | refine blk_alloc ?_ _)); exact BK169.out)) : gb169 ≠ gb170)); have n6_ := Aside0.mk ((by rw [hg]; exact Nat.ne_of_gt (blk_lt (g := gb169) (o := .cells #[.slice A0_0 l0_0.length c0_0, .slice A0_1 l0_1.length c0_1] 25 (0, 0)) (by (with_reducible repeat (first | refine blk_drewN ?_ _ | refine blk_drew ?_ | refine blk_alloc ?_ _)); exact BK169.out)) : gb170 ≠ gb169)); clear BK169; clear HB; have BK169 := n0_; have HB := n1_; have BK170 := n2_; have GW170 := n3_; have GE170 := n4_; have NB169_170 := n5_; have NB170_169 := n6_; clear n0_ n1_ n2_ n3_ n4_ n5_ n6_; clear hb hbox hg; have hnb8 := NB169_170.out; have hnc8 := NB170_169.out; have hcz9_0 : w7.cell? ⟨gb169, 0, none⟩ = some (.slice A0_0 l0_0.length c0_0) := (blk_cell BK169.out 0).trans rfl; have hcz9_1 : w7.cell? ⟨gb169, 1, none⟩ = some (.slice A0_1 l0_1.length c0_1) := (blk_cell BK169.out 1).trans rfl; have hfz9_0 := blk_frozen BK169.out 0; have hfz9_1 := blk_frozen BK169.out 1) | ((with_reducible refine gate_callee (f := 31) rfl ?_); refine goesL_ (some 10) rfl rfl Try.func31 (by kernel_rfl) rfl #[.agg #[.slice A0_0 l0_0.length c0_0, .slice A0_1 l0_1.length c0_1]] rfl (by (try simp only [List.map_toArray, List.map_cons, List.map_nil]); first | done | rfl | (simp only [List.length_drop, List.length_take]; rfl)) ?_; (with_reducible refine (wageofficeref42_Valid.calls k _ _ l0_0 _ _ l0_1 true _ ?side1 ?side2 ?side3 ?side4 A3.out).mono ?_); (case side1 => repeat (first | exact (Kd.C_below HR0_0.out HB.out) | (with_reducible refine Kd.C_alloc ?_ _) | (with_reducible refine Kd.C_drewN ?_ _) | (with_reducible refine Kd.C_drew ?_))); (case side2 => exact HC0_0.out); (case side3 => repeat (first | exact (Kd.C_below HR0_1.out HB.out) | (with_reducible refine Kd.C_alloc ?_ _) | (with_reducible refine Kd.C_drewN ?_ _) | (with_reducible refine Kd.C_drew ?_))); (case side4 => exact HC0_1.out); rintro e w10 ⟨rfl, hb⟩; refine ⟨_, rfl, ?_⟩; have n0_ := Aside0.mk (blk_below (g := gb169) (o := .cells #[.slice A0_0 l0_0.length c0_0, .slice A0_1 l0_1.length c0_1] 25 (0, 0)) (by (with_reducible repeat (first | refine blk_drewN ?_ _ | refine blk_drew ?_ | refine blk_alloc ?_ _)); exact BK169.out) hb); have n1_ := Aside0.mk (blk_below (g := gb170) (o := .cells #[.slice none 0 0, .slice none 0 0] 25 (0, 0)) (by (with_reducible repeat (first | refine blk_drewN ?_ _ | refine blk_drew ?_ | refine blk_alloc ?_ _)); exact BK170.out) hb); have n2_ := Aside0.mk (below_step (by repeat (first | (with_reducible first | exact HB.out | apply below_alloc | apply pw_below_drewN | apply below_drew1 | refine below_set ?_ GE169.out | refine below_set ?_ GE170.out) | exact HB.out)) hb); clear BK169; clear BK170; clear HB; have BK169 := n0_; have BK170 := n1_; have HB := n2_; clear n0_ n1_ n2_; (try clear hb); (try clear hb2); (try clear hk); (try clear hi); have hcz11_0 : w10.cell? ⟨gb169, 0, none⟩ = some (.slice A0_0 l0_0.length c0_0) := (blk_cell BK169.out 0).trans rfl; have hcz11_1 : w10.cell? ⟨gb169, 1, none⟩ = some (.slice A0_1 l0_1.length c0_1) := (blk_cell BK169.out 1).trans rfl; have hfz11_0 := blk_frozen BK169.out 0; have hfz11_1 := blk_frozen BK169.out 1) | ((with_reducible refine gate_callee (f := 46) rfl ?_); refine goesL_ (some 15) rfl rfl Try.func46 (by kernel_rfl) rfl #[.slice A0_0 l0_0.length c0_0] rfl (by (try simp only [List.map_toArray, List.map_cons, List.map_nil]); first | done | rfl | (simp only [List.length_drop, List.length_take]; rfl)) ?_; (with_reducible refine (wageofficeref42_Copy.calls k _ _ l0_0 t172 _ ?side1 ?side2 A5.out).mono ?_); (case side1 => repeat (first | exact (Kd.C_below HR0_0.out HB.out) | (with_reducible refine Kd.C_alloc ?_ _) | (with_reducible refine Kd.C_drewN ?_ _) | (with_reducible refine Kd.C_drew ?_))); (case side2 => exact HC0_0.out); rintro e w12 ⟨v173, rfl, ho0, hb⟩; refine ⟨_, rfl, ?_⟩; have n0_ := Aside0.mk (Kd.R_lower ho0 (below_size (by repeat (first | (with_reducible first | exact HB.out | apply below_alloc | apply pw_below_drewN | apply below_drew1 | refine below_set ?_ GE169.out | refine below_set ?_ GE170.out) | exact HB.out)))); have n1_ := Aside0.mk (blk_below (g := gb169) (o := .cells #[.slice A0_0 l0_0.length c0_0, .slice A0_1 l0_1.length c0_1] 25 (0, 0)) (by (with_reducible repeat (first | refine blk_drewN ?_ _ | refine blk_drew ?_ | refine blk_alloc ?_ _)); exact BK169.out) hb); have n2_ := Aside0.mk (blk_below (g := gb170) (o := .cells #[.slice none 0 0, .slice none 0 0] 25 (0, 0)) (by (with_reducible repeat (first | refine blk_drewN ?_ _ | refine blk_drew ?_ | refine blk_alloc ?_ _)); exact BK170.out) hb); have n3_ := Aside0.mk (below_step (by repeat (first | (with_reducible first | exact HB.out | apply below_alloc | apply pw_below_drewN | apply below_drew1 | refine below_set ?_ GE169.out | refine below_set ?_ GE170.out) | exact HB.out)) hb); clear BK169; clear BK170; clear HB; have HO174 := n0_; have BK169 := n1_; have BK170 := n2_; have HB := n3_; clear n0_ n1_ n2_ n3_; (try clear hb); (try clear hb2); (try clear hk); (try clear hi); (try clear ho0); obtain ⟨Ao13, co13, eo13⟩ := Kd.R_slice HO174.out; subst eo13) | ((with_reducible refine gate_dst (N := 5) rfl ?_); (try (refine gate_guard (by rfl) ?_; dsimp only)); refine box_event ?hg (N := 5) ?hd (cs := #[.slice none 0 0, .slice none 0 0]) (t := 25) ?hr ?_; (case hd => rfl); (case hg => rfl); (case hr => first | (go_simp; done) | (go_simp; rfl)); intro gb175 hg w14 hbox hb; have n0_ := Aside0.mk (Kd.R_below (by (with_reducible repeat (first | apply Kd.R_alloc | apply Kd.R_drewN | apply Kd.R_drew)); exact HO174.out) hb); have n1_ := Aside0.mk (blk_below (g := gb169) (o := .cells #[.slice A0_0 l0_0.length c0_0, .slice A0_1 l0_1.length c0_1] 25 (0, 0)) (by (with_reducible repeat (first | refine blk_drewN ?_ _ | refine blk_drew ?_ | refine blk_alloc ?_ _)); exact BK169.out) hb); have n2_ := Aside0.mk (blk_below (g := gb170) (o := .cells #[.slice none 0 0, .slice none 0 0] 25 (0, 0)) (by (with_reducible repeat (first | refine blk_drewN ?_ _ | refine blk_drew ?_ | refine blk_alloc ?_ _)); exact BK170.out) hb); have n3_ := Aside0.mk (below_step (by repeat (first | (with_reducible first | exact HB.out | apply below_alloc | apply pw_below_drewN | apply below_drew1 | refine below_set ?_ GE169.out | refine below_set ?_ GE170.out) | exact HB.out)) hb); have n4_ := Aside0.mk (hbox); have n5_ := Aside0.mk ((by rw [hg]; exact (below_size (by repeat (first | (with_reducible first | exact HB.out | apply below_alloc | apply pw_below_drewN | apply below_drew1 | refine below_set ?_ GE169.out | refine below_set ?_ GE170.out) | exact HB.out))) : w.heap.size ≤ gb175)); have n6_ := Aside0.mk ((by rw [hg]; exact (below_size (by repeat (first | (with_reducible first | exact HB.out | apply below_alloc | apply pw_below_drewN | apply below_drew1 | refine below_set ?_ GE169.out | refine below_set ?_ GE170.out) | exact HB.out))) : w.heap.size ≤ gb175)); have n7_ := Aside0.mk ((by rw [hg]; exact Nat.ne_of_lt (blk_lt (g := gb169) (o := .cells #[.slice A0_0 l0_0.length c0_0, .slice A0_1 l0_1.length c0_1] 25 (0, 0)) (by (with_reducible repeat (first | refine blk_drewN ?_ _ | refine blk_drew ?_ | refine blk_alloc ?_ _)); exact BK169.out)) : gb169 ≠ gb175)); have n8_ := Aside0.mk ((by rw [hg]; exact Nat.ne_of_gt (blk_lt (g := gb169) (o := .cells #[.slice A0_0 l0_0.length c0_0, .slice A0_1 l0_1.length c0_1] 25 (0, 0)) (by (with_reducible repeat (first | refine blk_drewN ?_ _ | refine blk_drew ?_ | refine blk_alloc ?_ _)); exact BK169.out)) : gb175 ≠ gb169)); have n9_ := Aside0.mk ((by rw [hg]; exact Nat.ne_of_lt (blk_lt (g := gb170) (o := .cells #[.slice none 0 0, .slice none 0 0] 25 (0, 0)) (by (with_reducible repeat (first | refine blk_drewN ?_ _ | refine blk_drew ?_ | refine blk_alloc ?_ _)); exact BK170.out)) : gb170 ≠ gb175)); have n10_ := Aside0.mk ((by rw [hg]; exact Nat.ne_of_gt (blk_lt (g := gb170) (o := .cells #[.slice none 0 0, .slice none 0 0] 25 (0, 0)) (by (with_reducible repeat (first | refine blk_drewN ?_ _ | refine blk_drew ?_ | refine blk_alloc ?_ _)); exact BK170.out)) : gb175 ≠ gb170)); clear HO174; clear BK169; clear BK170; clear HB; have HO174 := n0_; have BK169 := n1_; have BK170 := n2_; have HB := n3_; have BK175 := n4_; have GW175 := n5_; have GE175 := n6_; have NB169_175 := n7_; have NB175_169 := n8_; have NB170_175 := n9_; have NB175_170 := n10_; clear n0_ n1_ n2_ n3_ n4_ n5_ n6_ n7_ n8_ n9_ n10_; clear hb hbox hg; have hnb15 := NB175_169.out; have hnc15 := NB169_175.out; have hnb16 := NB175_170.out; have hnc16 := NB170_175.out; have hcz17_0 : w14.cell? ⟨gb175, 0, none⟩ = some (.slice none 0 0) := (blk_cell BK175.out 0).trans rfl; have hcz17_1 : w14.cell? ⟨gb175, 1, none⟩ = some (.slice none 0 0) := (blk_cell BK175.out 1).trans rfl; have hfz17_0 := blk_frozen BK175.out 0; have hfz17_1 := blk_frozen BK175.out 1))
    go_loopg [6] k (fun kq v6 w' => ∃ (x6_1 : Int) (x176000_1 : List Int) (u176000 : Value), v6 = .int .i64 x6_1 ∧ Aside0 (wageofficeref42_Crash.l0 kq l1 x6_1 l0_0 l0_1 x176000_1 = some (r1, r2)) ∧ Aside0 (kq ≤ k) ∧ Aside0 (Kd.R (Kd.int .u8) 5 w' w.heap.size (fun _ => True) u176000 x176000_1) ∧ Aside0 (w'.heap[gb169]? = some (.cells #[(.slice A0_0 l0_0.length c0_0), (.slice A0_1 l0_1.length c0_1)] 25 (0, 0))) ∧ Aside0 (w'.heap[gb170]? = some (.cells #[(.slice none 0 0), (.slice none 0 0)] 25 (0, 0))) ∧ Aside0 (w'.heap[gb175]? = some (.cells #[u176000, (.slice none 0 0)] 25 (0, 0))) ∧ Aside0 (Below w.heap.size w w'))
    case atStart => exact ⟨(0), (t172), (.slice Ao13 t172.length co13), (by first | rfl | (simp; done) | (simp [*]; done)), H', ⟨Nat.le_refl _⟩, ⟨by (with_reducible repeat (first | apply Kd.R_alloc | apply Kd.R_drewN | apply Kd.R_drew)); exact Kd.R_mono (Kd.R_far (p := ⟨gb175, 1, none⟩) (Kd.R_far (p := ⟨gb175, 0, none⟩) (Kd.R_types HO174.out BK175.out (by decide)) (fun _ hk => hk.2) (.slice Ao13 t172.length co13)) (fun _ hk => hk.2) (.slice none 0 0)) (fun _ hk => trivial)⟩, ⟨by (with_reducible repeat (first | refine blk_drewN ?_ _ | refine blk_drew ?_ | refine blk_alloc ?_ _)); refine blk_far ?_ NB169_175.out _; (with_reducible repeat (first | refine blk_drewN ?_ _ | refine blk_drew ?_ | refine blk_alloc ?_ _)); refine blk_far ?_ NB169_175.out _; (with_reducible repeat (first | refine blk_drewN ?_ _ | refine blk_drew ?_ | refine blk_alloc ?_ _)); exact BK169.out⟩, ⟨by (with_reducible repeat (first | refine blk_drewN ?_ _ | refine blk_drew ?_ | refine blk_alloc ?_ _)); refine blk_far ?_ NB170_175.out _; (with_reducible repeat (first | refine blk_drewN ?_ _ | refine blk_drew ?_ | refine blk_alloc ?_ _)); refine blk_far ?_ NB170_175.out _; (with_reducible repeat (first | refine blk_drewN ?_ _ | refine blk_drew ?_ | refine blk_alloc ?_ _)); exact BK170.out⟩, ⟨by (with_reducible repeat (first | refine blk_drewN ?_ _ | refine blk_drew ?_ | refine blk_alloc ?_ _)); refine blk_put (cs := #[.slice Ao13 t172.length co13, .slice none 0 0]) ?_ 1 _ rfl; (with_reducible repeat (first | refine blk_drewN ?_ _ | refine blk_drew ?_ | refine blk_alloc ?_ _)); refine blk_put (cs := #[.slice none 0 0, .slice none 0 0]) ?_ 0 _ rfl; (with_reducible repeat (first | refine blk_drewN ?_ _ | refine blk_drew ?_ | refine blk_alloc ?_ _)); exact BK175.out⟩, ⟨by repeat (first | (with_reducible first | exact HB.out | apply below_alloc | apply pw_below_drewN | apply below_drew1 | refine below_set ?_ GE169.out | refine below_set ?_ GE170.out | refine below_set ?_ GE175.out) | exact HB.out)⟩⟩
    case round =>
      clear H'
      try clear c1
      try clear c2
      try clear p2
      try clear c3
      try clear c4
      try clear c8
      try clear c15
      try clear c16
      try clear hcz11_0
      try clear hcz11_1
      try clear hcz17_0
      try clear hcz17_1
      try clear hcz9_0
      try clear hcz9_1
      try clear hfz11_0
      try clear hfz11_1
      try clear hfz17_0
      try clear hfz17_1
      try clear hfz9_0
      try clear hfz9_1
      obtain ⟨x6_1, x176000_1, u176000, rfl, HA, HK1, HO_176000, BK169, BK170, BK175, HB⟩ := hrel
      cases gk with
      | zero => exact absurd HA.out (by simp [wageofficeref42_Crash.l0])
      | succ k1 =>
        have H := HA.out
        clear HA
        simp only [wageofficeref42_Crash.l0] at H
        have HC18 := Aside0.mk H
        clear H
        go_upto_region 5 with (fail)
        go_cut [27] (fun v27 wc => ∃ (kq : Nat) (x27_17 : Bool), v27 = .bool x27_17 ∧ Aside0 (wageofficeref42_Crash.j1 kq l1 x6_1 x27_17 l0_0 l0_1 x176000_1 = some (r1, r2)) ∧ Aside0 (kq ≤ k1) ∧ Aside0 (Kd.R (Kd.int .u8) 5 wc w.heap.size (fun _ => True) u176000 x176000_1) ∧ Aside0 (wc.heap[gb169]? = some (.cells #[(.slice A0_0 l0_0.length c0_0), (.slice A0_1 l0_1.length c0_1)] 25 (0, 0))) ∧ Aside0 (wc.heap[gb170]? = some (.cells #[(.slice none 0 0), (.slice none 0 0)] 25 (0, 0))) ∧ Aside0 (wc.heap[gb175]? = some (.cells #[u176000, (.slice none 0 0)] 25 (0, 0))) ∧ Aside0 (Below w.heap.size w wc))
        case first =>
          have H := HC18.out
          clear HC18
          by_cases c19 : x6_1 < (l0_1.length : Int)
          · rw [if_pos c19] at H
            have c19b0 : decide (x6_1 < (l0_1.length : Int)) = true := decide_eq_true c19
            clear c19
            (first | rw [c19b0] | (simp only [i64_w, i32_w]; rw [c19b0]) | skip)
            have H' := Aside0.mk H
            clear H
            have hnb20 := NB169_170.out
            have hnc20 := NB170_169.out
            have hnb21 := NB169_175.out
            have hnc21 := NB175_169.out
            have hcz22_0 : wr.cell? ⟨gb169, 0, none⟩ = some (.slice A0_0 l0_0.length c0_0) := (blk_cell BK169.out 0).trans rfl
            have hcz22_1 : wr.cell? ⟨gb169, 1, none⟩ = some (.slice A0_1 l0_1.length c0_1) := (blk_cell BK169.out 1).trans rfl
            have hfz22_0 := blk_frozen BK169.out 0
            have hfz22_1 := blk_frozen BK169.out 1
            go_wp2
            go_meet
            case rel => exact ⟨_, (decide (x6_1 < (l1.length : Int))), (by first | rfl | (simp; done) | (simp [*]; done)), H', ⟨by have := HK1.out; first | omega | exact Nat.le_refl _⟩, ⟨by (with_reducible repeat (first | apply Kd.R_alloc | apply Kd.R_drewN | apply Kd.R_drew)); exact HO_176000.out⟩, ⟨by (with_reducible repeat (first | refine blk_drewN ?_ _ | refine blk_drew ?_ | refine blk_alloc ?_ _)); exact BK169.out⟩, ⟨by (with_reducible repeat (first | refine blk_drewN ?_ _ | refine blk_drew ?_ | refine blk_alloc ?_ _)); exact BK170.out⟩, ⟨by (with_reducible repeat (first | refine blk_drewN ?_ _ | refine blk_drew ?_ | refine blk_alloc ?_ _)); exact BK175.out⟩, ⟨by repeat (first | (with_reducible first | exact HB.out | apply below_alloc | apply pw_below_drewN | apply below_drew1 | refine below_set ?_ GE169.out | refine below_set ?_ GE170.out | refine below_set ?_ GE175.out) | exact HB.out)⟩⟩
          · rw [if_neg c19] at H
            have c19b0 : decide (x6_1 < (l0_1.length : Int)) = false := decide_eq_false c19
            clear c19
            (first | rw [c19b0] | (simp only [i64_w, i32_w]; rw [c19b0]) | skip)
            have H' := Aside0.mk H
            clear H
            have hnb23 := NB169_170.out
            have hnc23 := NB170_169.out
            have hnb24 := NB169_175.out
            have hnc24 := NB175_169.out
            have hcz25_0 : wr.cell? ⟨gb169, 0, none⟩ = some (.slice A0_0 l0_0.length c0_0) := (blk_cell BK169.out 0).trans rfl
            have hcz25_1 : wr.cell? ⟨gb169, 1, none⟩ = some (.slice A0_1 l0_1.length c0_1) := (blk_cell BK169.out 1).trans rfl
            have hfz25_0 := blk_frozen BK169.out 0
            have hfz25_1 := blk_frozen BK169.out 1
            go_wp2
            go_meet
            case rel => exact ⟨_, (false), (by first | rfl | (simp; done) | (simp [*]; done)), H', ⟨by have := HK1.out; first | omega | exact Nat.le_refl _⟩, ⟨by (with_reducible repeat (first | apply Kd.R_alloc | apply Kd.R_drewN | apply Kd.R_drew)); exact HO_176000.out⟩, ⟨by (with_reducible repeat (first | refine blk_drewN ?_ _ | refine blk_drew ?_ | refine blk_alloc ?_ _)); exact BK169.out⟩, ⟨by (with_reducible repeat (first | refine blk_drewN ?_ _ | refine blk_drew ?_ | refine blk_alloc ?_ _)); exact BK170.out⟩, ⟨by (with_reducible repeat (first | refine blk_drewN ?_ _ | refine blk_drew ?_ | refine blk_alloc ?_ _)); exact BK175.out⟩, ⟨by repeat (first | (with_reducible first | exact HB.out | apply below_alloc | apply pw_below_drewN | apply below_drew1 | refine below_set ?_ GE169.out | refine below_set ?_ GE170.out | refine below_set ?_ GE175.out) | exact HB.out)⟩⟩
        case rest =>
          clear HC18
          try clear c1
          try clear c2
          try clear p2
          try clear c3
          try clear c4
          try clear c8
          try clear c15
          try clear c16
          try clear c19
          try clear c19b0
          try clear c20
          try clear c21
          try clear c23
          try clear c24
          try clear hcz11_0
          try clear hcz11_1
          try clear hcz17_0
          try clear hcz17_1
          try clear hcz22_0
          try clear hcz22_1
          try clear hcz25_0
          try clear hcz25_1
          try clear hcz9_0
          try clear hcz9_1
          try clear hfz11_0
          try clear hfz11_1
          try clear hfz17_0
          try clear hfz17_1
          try clear hfz22_0
          try clear hfz22_1
          try clear hfz25_0
          try clear hfz25_1
          try clear hfz9_0
          try clear hfz9_1
          try clear p2
          obtain ⟨kq, x27_17, rfl, HA, HJ17, HO_176000, BK169, BK170, BK175, HB⟩ := hcut
          cases kq with
          | zero => exact absurd HA.out (by simp [wageofficeref42_Crash.j1])
          | succ kj17 =>
            have H := HA.out
            clear HA
            simp only [wageofficeref42_Crash.j1] at H
            by_cases c26 : x27_17 = true
            · subst c26
              have H1 : (if 0 ≤ x6_1 then (if x6_1 < (l0_1.length : Int) then (wageofficeref42_Crash.l1 kj17 l1 x6_1 0 l0_0 l0_1 x176000_1 ((rd_T45 l0_1 x6_1).f0) ((rd_T45 l0_1 x6_1).f1)) else (none)) else (none)) = some (r1, r2) := by rw [if_pos rfl] at H; exact H
              clear H
              have H := H1
              clear H1
              by_cases c27 : 0 ≤ x6_1
              · rw [if_pos c27] at H
                have c27b0 : decide (0 ≤ x6_1) = true := decide_eq_true c27
                clear c27
                by_cases c28 : x6_1 < (l0_1.length : Int)
                · rw [if_pos c28] at H
                  have c28b0 : decide (x6_1 < (l0_1.length : Int)) = true := decide_eq_true c28
                  clear c28
                  have H' := Aside0.mk H
                  clear H
                  have hnb29 := NB169_170.out
                  have hnc29 := NB170_169.out
                  have hnb30 := NB169_175.out
                  have hnc30 := NB175_169.out
                  have hcz31_0 : wc.cell? ⟨gb169, 0, none⟩ = some (.slice A0_0 l0_0.length c0_0) := (blk_cell BK169.out 0).trans rfl
                  have hcz31_1 : wc.cell? ⟨gb169, 1, none⟩ = some (.slice A0_1 l0_1.length c0_1) := (blk_cell BK169.out 1).trans rfl
                  have hfz31_0 := blk_frozen BK169.out 0
                  have hfz31_1 := blk_frozen BK169.out 1
                  have p176 : 0 ≤ (x6_1 : Int) := of_decide_eq_true (by first | (with_reducible assumption) | assumption)
                  have q176 : x6_1 < (l0_1.length : Int) := of_decide_eq_true (by first | (with_reducible assumption) | assumption)
                  obtain ⟨ad176, A176_1, c176_1, e176, hx176_0, hx176_1, hl176_1, hi176_1⟩ := at_T45 HR0_1.out x6_1 p176 q176
                  cases e176
                  replace hx176_0 := (HB.out.cell (World.block_lt_of_cell? w _ hx176_0)).trans hx176_0
                  replace hx176_1 := (HB.out.cell (World.block_lt_of_cell? w _ hx176_1)).trans hx176_1
                  have HR176_1 := Aside0.mk hi176_1
                  have HC176_1 := Aside0.mk hl176_1
                  clear hi176_1 hl176_1
                  replace p176 := eq_true p176
                  replace q176 := eq_true q176
                  go_wp2_with (first | ((with_reducible refine gate_dst (N := 7) rfl ?_); (try (refine gate_guard (by rfl) ?_; dsimp only)); refine box_event ?hg (N := 7) ?hd (cs := #[.int .i64 0, .slice none 0 0]) (t := 45) ?hr ?_; (case hd => rfl); (case hg => rfl); (case hr => first | (go_simp; done) | (go_simp; rfl)); intro gb177 hg w32 hbox hb; have n0_ := Aside0.mk (Kd.R_below (by (with_reducible repeat (first | apply Kd.R_alloc | apply Kd.R_drewN | apply Kd.R_drew)); exact HO_176000.out) hb); have n1_ := Aside0.mk (blk_below (g := gb169) (o := .cells #[.slice A0_0 l0_0.length c0_0, .slice (some ad176) l0_1.length c0_1] 25 (0, 0)) (by (with_reducible repeat (first | refine blk_drewN ?_ _ | refine blk_drew ?_ | refine blk_alloc ?_ _)); exact BK169.out) hb); have n2_ := Aside0.mk (blk_below (g := gb170) (o := .cells #[.slice none 0 0, .slice none 0 0] 25 (0, 0)) (by (with_reducible repeat (first | refine blk_drewN ?_ _ | refine blk_drew ?_ | refine blk_alloc ?_ _)); exact BK170.out) hb); have n3_ := Aside0.mk (blk_below (g := gb175) (o := .cells #[u176000, .slice none 0 0] 25 (0, 0)) (by (with_reducible repeat (first | refine blk_drewN ?_ _ | refine blk_drew ?_ | refine blk_alloc ?_ _)); exact BK175.out) hb); have n4_ := Aside0.mk (below_step (by repeat (first | (with_reducible first | exact HB.out | apply below_alloc | apply pw_below_drewN | apply below_drew1 | refine below_set ?_ GE169.out | refine below_set ?_ GE170.out | refine below_set ?_ GE175.out) | exact HB.out)) hb); have n5_ := Aside0.mk (hbox); have n6_ := Aside0.mk ((by rw [hg]; exact (below_size (by repeat (first | (with_reducible first | exact HB.out | apply below_alloc | apply pw_below_drewN | apply below_drew1 | refine below_set ?_ GE169.out | refine below_set ?_ GE170.out | refine below_set ?_ GE175.out) | exact HB.out))) : w.heap.size ≤ gb177)); have n7_ := Aside0.mk ((by rw [hg]; exact (below_size (by repeat (first | (with_reducible first | exact HB.out | apply below_alloc | apply pw_below_drewN | apply below_drew1 | refine below_set ?_ GE169.out | refine below_set ?_ GE170.out | refine below_set ?_ GE175.out) | exact HB.out))) : w.heap.size ≤ gb177)); have n8_ := Aside0.mk ((by rw [hg]; exact Nat.ne_of_lt (blk_lt (g := gb169) (o := .cells #[.slice A0_0 l0_0.length c0_0, .slice (some ad176) l0_1.length c0_1] 25 (0, 0)) (by (with_reducible repeat (first | refine blk_drewN ?_ _ | refine blk_drew ?_ | refine blk_alloc ?_ _)); exact BK169.out)) : gb169 ≠ gb177)); have n9_ := Aside0.mk ((by rw [hg]; exact Nat.ne_of_gt (blk_lt (g := gb169) (o := .cells #[.slice A0_0 l0_0.length c0_0, .slice (some ad176) l0_1.length c0_1] 25 (0, 0)) (by (with_reducible repeat (first | refine blk_drewN ?_ _ | refine blk_drew ?_ | refine blk_alloc ?_ _)); exact BK169.out)) : gb177 ≠ gb169)); have n10_ := Aside0.mk ((by rw [hg]; exact Nat.ne_of_lt (blk_lt (g := gb170) (o := .cells #[.slice none 0 0, .slice none 0 0] 25 (0, 0)) (by (with_reducible repeat (first | refine blk_drewN ?_ _ | refine blk_drew ?_ | refine blk_alloc ?_ _)); exact BK170.out)) : gb170 ≠ gb177)); have n11_ := Aside0.mk ((by rw [hg]; exact Nat.ne_of_gt (blk_lt (g := gb170) (o := .cells #[.slice none 0 0, .slice none 0 0] 25 (0, 0)) (by (with_reducible repeat (first | refine blk_drewN ?_ _ | refine blk_drew ?_ | refine blk_alloc ?_ _)); exact BK170.out)) : gb177 ≠ gb170)); have n12_ := Aside0.mk ((by rw [hg]; exact Nat.ne_of_lt (blk_lt (g := gb175) (o := .cells #[u176000, .slice none 0 0] 25 (0, 0)) (by (with_reducible repeat (first | refine blk_drewN ?_ _ | refine blk_drew ?_ | refine blk_alloc ?_ _)); exact BK175.out)) : gb175 ≠ gb177)); have n13_ := Aside0.mk ((by rw [hg]; exact Nat.ne_of_gt (blk_lt (g := gb175) (o := .cells #[u176000, .slice none 0 0] 25 (0, 0)) (by (with_reducible repeat (first | refine blk_drewN ?_ _ | refine blk_drew ?_ | refine blk_alloc ?_ _)); exact BK175.out)) : gb177 ≠ gb175)); clear HO_176000; clear BK169; clear BK170; clear BK175; clear HB; have HO_176000 := n0_; have BK169 := n1_; have BK170 := n2_; have BK175 := n3_; have HB := n4_; have BK177 := n5_; have GW177 := n6_; have GE177 := n7_; have NB169_177 := n8_; have NB177_169 := n9_; have NB170_177 := n10_; have NB177_170 := n11_; have NB175_177 := n12_; have NB177_175 := n13_; clear n0_ n1_ n2_ n3_ n4_ n5_ n6_ n7_ n8_ n9_ n10_ n11_ n12_ n13_; clear hb hbox hg; have hnb33 := NB177_169.out; have hnc33 := NB169_177.out; have hnb34 := NB177_170.out; have hnc34 := NB170_177.out; have hnb35 := NB177_175.out; have hnc35 := NB175_177.out; have hcz36_0 : w32.cell? ⟨gb177, 0, none⟩ = some (.int .i64 0) := (blk_cell BK177.out 0).trans rfl; have hcz36_1 : w32.cell? ⟨gb177, 1, none⟩ = some (.slice none 0 0) := (blk_cell BK177.out 1).trans rfl; have hfz36_0 := blk_frozen BK177.out 0; have hfz36_1 := blk_frozen BK177.out 1))
                  go_loopg [8] kj17 (fun kq v8 w' => ∃ (x8_3 : Int) (x176000_3 : List Int) (u176000 : Value), v8 = .int .i64 x8_3 ∧ Aside0 (wageofficeref42_Crash.l1 kq l1 x6_1 x8_3 l0_0 l0_1 x176000_3 ((rd_T45 l0_1 x6_1).f0) ((rd_T45 l0_1 x6_1).f1) = some (r1, r2)) ∧ Aside0 (kq ≤ kj17) ∧ Aside0 (Kd.R (Kd.int .u8) 5 w' w.heap.size (fun _ => True) u176000 x176000_3) ∧ Aside0 (w'.heap[gb169]? = some (.cells #[(.slice A0_0 l0_0.length c0_0), (.slice (some ad176) l0_1.length c0_1)] 25 (0, 0))) ∧ Aside0 (w'.heap[gb170]? = some (.cells #[(.slice none 0 0), (.slice none 0 0)] 25 (0, 0))) ∧ Aside0 (w'.heap[gb175]? = some (.cells #[u176000, (.slice none 0 0)] 25 (0, 0))) ∧ Aside0 (w'.heap[gb177]? = some (.cells #[.int .i64 ((rd_T45 l0_1 x6_1).f0), (.slice A176_1 ((rd_T45 l0_1 x6_1).f1).length c176_1)] 45 (0, 0))) ∧ Aside0 (Below w.heap.size w w'))
                  case atStart => exact ⟨(0), (x176000_1), (u176000), (by first | rfl | (simp; done) | (simp [*]; done)), H', ⟨Nat.le_refl _⟩, ⟨by (with_reducible repeat (first | apply Kd.R_alloc | apply Kd.R_drewN | apply Kd.R_drew)); exact Kd.R_mono (Kd.R_far (p := ⟨gb177, 1, none⟩) (Kd.R_far (p := ⟨gb177, 0, none⟩) (Kd.R_types HO_176000.out BK177.out (by decide)) (fun _ hk => hk.2) (.int .i64 ((rd_T45 l0_1 x6_1).f0))) (fun _ hk => hk.2) (.slice A176_1 ((rd_T45 l0_1 x6_1).f1).length c176_1)) (fun _ hk => trivial)⟩, ⟨by (with_reducible repeat (first | refine blk_drewN ?_ _ | refine blk_drew ?_ | refine blk_alloc ?_ _)); refine blk_far ?_ NB169_177.out _; (with_reducible repeat (first | refine blk_drewN ?_ _ | refine blk_drew ?_ | refine blk_alloc ?_ _)); refine blk_far ?_ NB169_177.out _; (with_reducible repeat (first | refine blk_drewN ?_ _ | refine blk_drew ?_ | refine blk_alloc ?_ _)); exact BK169.out⟩, ⟨by (with_reducible repeat (first | refine blk_drewN ?_ _ | refine blk_drew ?_ | refine blk_alloc ?_ _)); refine blk_far ?_ NB170_177.out _; (with_reducible repeat (first | refine blk_drewN ?_ _ | refine blk_drew ?_ | refine blk_alloc ?_ _)); refine blk_far ?_ NB170_177.out _; (with_reducible repeat (first | refine blk_drewN ?_ _ | refine blk_drew ?_ | refine blk_alloc ?_ _)); exact BK170.out⟩, ⟨by (with_reducible repeat (first | refine blk_drewN ?_ _ | refine blk_drew ?_ | refine blk_alloc ?_ _)); refine blk_far ?_ NB175_177.out _; (with_reducible repeat (first | refine blk_drewN ?_ _ | refine blk_drew ?_ | refine blk_alloc ?_ _)); refine blk_far ?_ NB175_177.out _; (with_reducible repeat (first | refine blk_drewN ?_ _ | refine blk_drew ?_ | refine blk_alloc ?_ _)); exact BK175.out⟩, ⟨by (with_reducible repeat (first | refine blk_drewN ?_ _ | refine blk_drew ?_ | refine blk_alloc ?_ _)); refine blk_put (cs := #[.int .i64 ((rd_T45 l0_1 x6_1).f0), .slice none 0 0]) ?_ 1 _ rfl; (with_reducible repeat (first | refine blk_drewN ?_ _ | refine blk_drew ?_ | refine blk_alloc ?_ _)); refine blk_put (cs := #[.int .i64 0, .slice none 0 0]) ?_ 0 _ rfl; (with_reducible repeat (first | refine blk_drewN ?_ _ | refine blk_drew ?_ | refine blk_alloc ?_ _)); exact BK177.out⟩, ⟨by repeat (first | (with_reducible first | exact HB.out | apply below_alloc | apply pw_below_drewN | apply below_drew1 | refine below_set ?_ GE169.out | refine below_set ?_ GE170.out | refine below_set ?_ GE175.out | refine below_set ?_ GE177.out) | exact HB.out)⟩⟩
                  case round =>
                    clear H'
                    try clear c1
                    try clear p1
                    try clear q1
                    try clear hx1
                    try clear c2
                    try clear p2
                    try clear c3
                    try clear c4
                    try clear c8
                    try clear c15
                    try clear c16
                    try clear c17
                    try clear p17
                    try clear q17
                    try clear hx17
                    try clear c19
                    try clear c19b0
                    try clear c20
                    try clear c21
                    try clear c23
                    try clear c24
                    try clear c26
                    try clear c27
                    try clear c27b0
                    try clear c28
                    try clear c28b0
                    try clear c29
                    try clear c30
                    try clear c31
                    try clear c33
                    try clear c34
                    try clear c35
                    try clear hcz11_0
                    try clear hcz11_1
                    try clear hcz17_0
                    try clear hcz17_1
                    try clear hcz22_0
                    try clear hcz22_1
                    try clear hcz25_0
                    try clear hcz25_1
                    try clear hcz31_0
                    try clear hcz31_1
                    try clear hcz36_0
                    try clear hcz36_1
                    try clear hcz9_0
                    try clear hcz9_1
                    try clear hfz11_0
                    try clear hfz11_1
                    try clear hfz17_0
                    try clear hfz17_1
                    try clear hfz22_0
                    try clear hfz22_1
                    try clear hfz25_0
                    try clear hfz25_1
                    try clear hfz31_0
                    try clear hfz31_1
                    try clear hfz36_0
                    try clear hfz36_1
                    try clear hfz9_0
                    try clear hfz9_1
                    try clear hx176_0
                    try clear hx176_1
                    try clear p176
                    try clear p2
                    try clear q176
                    obtain ⟨x8_3, x176000_3, u176000, rfl, HA, HK3, HO_176000, BK169, BK170, BK175, BK177, HB⟩ := hrel
                    cases gk with
                    | zero => exact absurd HA.out (by simp [wageofficeref42_Crash.l1])
                    | succ k3 =>
                      have H := HA.out
                      clear HA
                      simp only [wageofficeref42_Crash.l1] at H
                      by_cases c37 : x8_3 < (((rd_T45 l0_1 x6_1).f1).length : Int)
                      · rw [if_pos c37] at H
                        have c37b0 : decide (x8_3 < (((rd_T45 l0_1 x6_1).f1).length : Int)) = true := decide_eq_true c37
                        clear c37
                        by_cases c38 : 0 ≤ x6_1
                        · rw [if_pos c38] at H
                          have c38b0 : decide (0 ≤ x6_1) = true := decide_eq_true c38
                          clear c38
                          by_cases c39 : x6_1 < (l1.length : Int)
                          · rw [if_pos c39] at H
                            have c39b0 : decide (x6_1 < (l1.length : Int)) = true := decide_eq_true c39
                            clear c39
                            by_cases c40 : x8_3 < (rd l1 x6_1)
                            · rw [if_pos c40] at H
                              have c40b0 : decide (x8_3 < (rd l1 x6_1)) = true := decide_eq_true c40
                              clear c40
                              by_cases c41 : 0 ≤ x8_3
                              · rw [if_pos c41] at H
                                have c41b0 : decide (0 ≤ x8_3) = true := decide_eq_true c41
                                clear c41
                                obtain ⟨ji42, hji42⟩ : ∃ j_ : Int, (wrap64 (((rd_T45 l0_1 x6_1).f0) + x8_3)) = j_ := ⟨_, rfl⟩
                                replace H : (if 0 ≤ (ji42) then (if (ji42) < (x176000_3.length : Int) then (wageofficeref42_Crash.l1 k3 l1 x6_1 (wrap64 (x8_3 + 1)) l0_0 l0_1 (x176000_3.set ((ji42) : Int).toNat (rd ((rd_T45 l0_1 x6_1).f1) x8_3)) ((rd_T45 l0_1 x6_1).f0) ((rd_T45 l0_1 x6_1).f1)) else (none)) else (none)) = some (r1, r2) := by first | (rw [hji42] at H; exact H) | (simp only [hji42] at H ⊢; exact H)
                                have hji42w : (IntKind.i64.wrap (((rd_T45 l0_1 x6_1).f0) + x8_3)) = ji42 := (i64_w _).trans hji42
                                by_cases c43 : 0 ≤ (ji42)
                                · rw [if_pos c43] at H
                                  have c43b0 : decide (0 ≤ (ji42)) = true := decide_eq_true c43
                                  clear c43
                                  by_cases c44 : (ji42) < (x176000_3.length : Int)
                                  · rw [if_pos c44] at H
                                    have c44b0 : decide ((ji42) < (x176000_3.length : Int)) = true := decide_eq_true c44
                                    clear c44
                                    obtain ⟨y180, hy180⟩ : ∃ y_ : List Int, y_ = (x176000_3.set ((ji42) : Int).toNat (rd ((rd_T45 l0_1 x6_1).f1) x8_3)) := ⟨_, rfl⟩
                                    replace H : (wageofficeref42_Crash.l1 k3 l1 x6_1 (wrap64 (x8_3 + 1)) l0_0 l0_1 y180 ((rd_T45 l0_1 x6_1).f0) ((rd_T45 l0_1 x6_1).f1)) = some (r1, r2) := by first | (rw [hy180]; with_reducible exact H) | (have H2_ := (Option.bind_some _ _).symm.trans H; rw [hy180]; with_reducible exact H2_) | (have H2_ := (Option.bind_some _ _).symm.trans H; with_reducible exact H2_) | with_reducible exact H | (rw [hy180]; exact H) | exact H
                                    have Ny180 := Aside0.mk hy180
                                    clear hy180
                                    have H' := Aside0.mk H
                                    clear H
                                    have hnb46 := NB177_169.out
                                    have hnc46 := NB169_177.out
                                    have hnb47 := NB177_170.out
                                    have hnc47 := NB170_177.out
                                    have hnb48 := NB177_175.out
                                    have hnc48 := NB175_177.out
                                    have hcz49_0 : wr.cell? ⟨gb177, 0, none⟩ = some (.int .i64 ((rd_T45 l0_1 x6_1).f0)) := (blk_cell BK177.out 0).trans rfl
                                    have hcz49_1 : wr.cell? ⟨gb177, 1, none⟩ = some (.slice A176_1 ((rd_T45 l0_1 x6_1).f1).length c176_1) := (blk_cell BK177.out 1).trans rfl
                                    have hfz49_0 := blk_frozen BK177.out 0
                                    have hfz49_1 := blk_frozen BK177.out 1
                                    have p178 : 0 ≤ (x6_1 : Int) := of_decide_eq_true (by first | (with_reducible assumption) | assumption)
                                    have q178 : x6_1 < (l1.length : Int) := of_decide_eq_true (by first | (with_reducible assumption) | assumption)
                                    obtain ⟨ad178, e178, hx178_0⟩ := Kd.at_int HR1.out x6_1 p178 q178
                                    cases e178
                                    replace hx178_0 := (HB.out.cell (World.block_lt_of_cell? w _ hx178_0)).trans hx178_0
                                    replace p178 := eq_true p178
                                    replace q178 := eq_true q178
                                    try go_wp2
                                    have n0_ := Aside0.mk (Kd.R_drew HO_176000.out)
                                    have n1_ := Aside0.mk (blk_drew BK169.out)
                                    have n2_ := Aside0.mk (blk_drew BK170.out)
                                    have n3_ := Aside0.mk (blk_drew BK175.out)
                                    have n4_ := Aside0.mk (blk_drew BK177.out)
                                    have n5_ := Aside0.mk (below_drew1 HB.out)
                                    clear HO_176000
                                    clear BK169
                                    clear BK170
                                    clear BK175
                                    clear BK177
                                    clear HB
                                    have HO_176000 := n0_
                                    have BK169 := n1_
                                    have BK170 := n2_
                                    have BK175 := n3_
                                    have BK177 := n4_
                                    have HB := n5_
                                    clear n0_ n1_ n2_ n3_ n4_ n5_
                                    have p179 : 0 ≤ (x8_3 : Int) := of_decide_eq_true (by first | (with_reducible assumption) | assumption)
                                    have q179 : x8_3 < (((rd_T45 l0_1 x6_1).f1).length : Int) := of_decide_eq_true (by first | (with_reducible assumption) | assumption)
                                    obtain ⟨ad179, e179, hx179_0⟩ := Kd.at_int HR176_1.out x8_3 p179 q179
                                    have hw179_0 := hx179_0
                                    cases e179
                                    replace hx179_0 := (HB.out.cell (World.block_lt_of_cell? w _ hx179_0)).trans hx179_0
                                    replace p179 := eq_true p179
                                    replace q179 := eq_true q179
                                    have p45 : 0 ≤ ((ji42) : Int) := of_decide_eq_true (by first | (with_reducible assumption) | assumption)
                                    have q45 : ((ji42) : Int) < ((x176000_3.length : Int) : Int) := of_decide_eq_true (by first | (with_reducible assumption) | assumption)
                                    obtain ⟨go45, co45, eo45, gb45, gl45, cl45, HG45⟩ := Kd.R_form HO_176000.out (by omega)
                                    (first | cases eo45 | (injection eo45 with ea_ en_ ec_; (first | subst ea_ | (injection ea_ with ea_; subst ea_)); subst ec_; clear en_))
                                    have GB45 := Aside0.mk gb45
                                    have GG45 := Aside0.mk HG45
                                    clear gb45 gl45 HG45
                                    obtain ⟨hx45_0, hf45_0⟩ := Kd.R_celln 0 HO_176000.out ((ji42) : Int) p45 q45
                                    replace p45 := eq_true p45
                                    replace q45 := eq_true q45
                                    have HP51 := Kd.R_putn HO_176000.out ((ji42) : Int) (rd ((rd_T45 l0_1 x6_1).f1) x8_3)
                                    rw [← Ny180.out] at HP51
                                    have HQ51 := Aside0.mk HP51
                                    clear HP51
                                    refine start_ (n := 13) (S := fun w' => w'.cell? ⟨gb175, 0, none⟩ = some (.slice (some ⟨go45, 0, none⟩) x176000_3.length co45) ∧ w'.cell? ⟨gb175, 1, none⟩ = some (.slice none 0 0) ∧ w'.cell? ⟨gb177, 0, none⟩ = some (.int .i64 ((rd_T45 l0_1 x6_1).f0)) ∧ w'.cell? ⟨gb177, 1, none⟩ = some (.slice (some ad179) ((rd_T45 l0_1 x6_1).f1).length c176_1) ∧ w'.cell? (ad179.add (x8_3).toNat) = some (.int .u8 (rd ((rd_T45 l0_1 x6_1).f1) x8_3))) (ds := [12]) #[false, false, false, false, false, false, false, false, false, false, false, false, false] (by kernel_rfl) rfl rfl ⟨(blk_cell BK175.out 0).trans rfl, (blk_cell BK175.out 1).trans rfl, (blk_cell BK177.out 0).trans rfl, (blk_cell BK177.out 1).trans rfl, ((HB.out.cell (World.block_lt_of_cell? w _ hw179_0)).trans hw179_0)⟩ (fun hHeld => ?_); refine with_tabW wageofficeref42_Crash.tab11 wageofficeref42_Crash.bits11 (fun HT_ HW_ => ?_)
                                    generalize wr.drew = w50 at HO_176000 BK169 BK170 BK175 BK177 HB GG45 HQ51 hf45_0 hx179_0 hx45_0 hHeld ⊢
                                    refine pure_ (i := 0) (N := some 50) (v := ?_) (a' := ?_) #[true, false, false, false, false, false, false, false, false, false, false, false, false] rfl rfl (any_of HT_.out (by kernel_rfl)) (fun _ _ _ h => h) (Or.inl ⟨by rfl, ?_⟩) ?_ ?_
                                    rotate_left
                                    · intro w'
                                      go_simp
                                      with_reducible rfl
                                    rotate_left
                                    · simp only [Act.put, List.setIfInBounds_toArray, List.set_cons_zero, List.set_cons_succ, i64_w, i32_w]
                                      rfl
                                    refine pure_ (i := 2) (N := some 52) (v := ?_) (a' := ?_) #[true, false, true, false, false, false, false, false, false, false, false, false, false] rfl rfl (any_of HT_.out (by kernel_rfl)) (fun _ _ _ h => h) (Or.inl ⟨by rfl, ?_⟩) ?_ ?_
                                    rotate_left
                                    · intro w'
                                      go_simp
                                      with_reducible rfl
                                    rotate_left
                                    · simp only [Act.put, List.setIfInBounds_toArray, List.set_cons_zero, List.set_cons_succ, i64_w, i32_w]
                                      rfl
                                    refine pure_ (i := 4) (N := some 54) (v := ?_) (a' := ?_) #[true, false, true, false, true, false, false, false, false, false, false, false, false] rfl rfl (any_of HT_.out (by kernel_rfl)) (fun _ _ _ h => h) (Or.inl ⟨by rfl, ?_⟩) ?_ ?_
                                    rotate_left
                                    · intro w'
                                      go_simp
                                      with_reducible rfl
                                    rotate_left
                                    · simp only [Act.put, List.setIfInBounds_toArray, List.set_cons_zero, List.set_cons_succ, i64_w, i32_w]
                                      rfl
                                    refine pure_ (i := 6) (N := some 56) (v := ?_) (a' := ?_) #[true, false, true, false, true, false, true, false, false, false, false, false, false] rfl rfl (any_of HT_.out (by kernel_rfl)) (fun _ _ _ h => h) (Or.inl ⟨by rfl, ?_⟩) ?_ ?_
                                    rotate_left
                                    · intro w'
                                      go_simp
                                      with_reducible rfl
                                    rotate_left
                                    · simp only [Act.put, List.setIfInBounds_toArray, List.set_cons_zero, List.set_cons_succ, i64_w, i32_w]
                                      rfl
                                    refine pure_ (i := 8) (N := some 58) (v := ?_) (a' := ?_) #[true, false, true, false, true, false, true, false, true, false, false, false, false] rfl rfl (any_of HT_.out (by kernel_rfl)) (fun _ _ _ h => h) (Or.inl ⟨by rfl, ?_⟩) ?_ ?_
                                    rotate_left
                                    · intro w'
                                      go_simp
                                      with_reducible rfl
                                    rotate_left
                                    · simp only [Act.put, List.setIfInBounds_toArray, List.set_cons_zero, List.set_cons_succ, i64_w, i32_w]
                                      rfl
                                    refine take_ (i := 1) (N := some 51) (v := ?_) (a' := ?_) #[true, true, true, false, true, false, true, false, true, false, false, false, false] rfl rfl (take_ofW HT_.out HW_.out (by kernel_rfl)) (fun _ _ _ h => h) (Or.inl ⟨by rfl, ?_⟩) hHeld ?_ ?_
                                    rotate_left
                                    · rintro w' ⟨s0, s1, s2, s3, s4⟩
                                      go_simp
                                      with_reducible rfl
                                    rotate_left
                                    · simp only [Act.put, List.setIfInBounds_toArray, List.set_cons_zero, List.set_cons_succ, i64_w, i32_w]
                                      rfl
                                    refine take_ (i := 3) (N := some 53) (v := ?_) (a' := ?_) #[true, true, true, true, true, false, true, false, true, false, false, false, false] rfl rfl (take_ofW HT_.out HW_.out (by kernel_rfl)) (fun _ _ _ h => h) (Or.inl ⟨by rfl, ?_⟩) hHeld ?_ ?_
                                    rotate_left
                                    · rintro w' ⟨s0, s1, s2, s3, s4⟩
                                      go_simp
                                      with_reducible rfl
                                    rotate_left
                                    · simp only [Act.put, List.setIfInBounds_toArray, List.set_cons_zero, List.set_cons_succ, i64_w, i32_w]
                                      rfl
                                    refine pure_ (i := 5) (N := some 55) (v := ?_) (a' := ?_) #[true, true, true, true, true, true, true, false, true, false, false, false, false] rfl rfl (any_of HT_.out (by kernel_rfl)) (fun _ _ _ h => h) (Or.inl ⟨by rfl, ?_⟩) ?_ ?_
                                    rotate_left
                                    · intro w'
                                      go_simp
                                      with_reducible rfl
                                    rotate_left
                                    · simp only [Act.put, List.setIfInBounds_toArray, List.set_cons_zero, List.set_cons_succ, i64_w, i32_w]
                                      rfl
                                    refine take_ (i := 7) (N := some 57) (v := ?_) (a' := ?_) #[true, true, true, true, true, true, true, true, true, false, false, false, false] rfl rfl (take_ofW HT_.out HW_.out (by kernel_rfl)) (fun _ _ _ h => h) (Or.inl ⟨by rfl, ?_⟩) hHeld ?_ ?_
                                    rotate_left
                                    · rintro w' ⟨s0, s1, s2, s3, s4⟩
                                      go_simp
                                      with_reducible rfl
                                    rotate_left
                                    · simp only [Act.put, List.setIfInBounds_toArray, List.set_cons_zero, List.set_cons_succ, i64_w, i32_w]
                                      rfl
                                    refine pure_ (i := 9) (N := some 59) (v := ?_) (a' := ?_) #[true, true, true, true, true, true, true, true, true, true, false, false, false] rfl rfl (any_of HT_.out (by kernel_rfl)) (fun _ _ _ h => h) (Or.inl ⟨by rfl, ?_⟩) ?_ ?_
                                    rotate_left
                                    · intro w'
                                      go_simp
                                      with_reducible rfl
                                    rotate_left
                                    · simp only [Act.put, List.setIfInBounds_toArray, List.set_cons_zero, List.set_cons_succ, i64_w, i32_w]
                                      rfl
                                    refine take_ (i := 10) (N := some 60) (v := ?_) (a' := ?_) #[true, true, true, true, true, true, true, true, true, true, true, false, false] rfl rfl (take_ofW HT_.out HW_.out (by kernel_rfl)) (fun _ _ _ h => h) (Or.inl ⟨by rfl, ?_⟩) hHeld ?_ ?_
                                    rotate_left
                                    · rintro w' ⟨s0, s1, s2, s3, s4⟩
                                      go_simp
                                      with_reducible rfl
                                    rotate_left
                                    · simp only [Act.put, List.setIfInBounds_toArray, List.set_cons_zero, List.set_cons_succ, i64_w, i32_w]
                                      rfl
                                    refine pure_ (i := 11) (N := some 61) (v := ?_) (a' := ?_) #[true, true, true, true, true, true, true, true, true, true, true, true, false] rfl rfl (any_of HT_.out (by kernel_rfl)) (fun _ _ _ h => h) (Or.inl ⟨by rfl, ?_⟩) ?_ ?_
                                    rotate_left
                                    · intro w'
                                      go_simp
                                      with_reducible rfl
                                    rotate_left
                                    · simp only [Act.put, List.setIfInBounds_toArray, List.set_cons_zero, List.set_cons_succ, i64_w, i32_w]
                                      rfl
                                    refine last_ (i := 12) (N := none) #[true, true, true, true, true, true, true, true, true, true, true, true, true] rfl rfl (one_of HT_.out (by kernel_rfl)) (by decide) (fun K hK => ?_)
                                    refine skip_ (w1 := ?_) (by rfl) rfl ?_ ?_
                                    rotate_left
                                    · go_simp
                                      rfl
                                    refine hK.out _ _ ?_
                                    clear hK K
                                    refine done_ (done_of HT_.out (by kernel_rfl)) ?_
                                    try go_wp2
                                    go_roundg k3
                                    case measure => have := HK1.out; have := HJ17.out; have := HK3.out; omega
                                    case rel => exact ⟨(wrap64 (x8_3 + 1)), (y180), (.slice (some ⟨go45, 0, none⟩) x176000_3.length co45), (by first | rfl | (simp; done) | (simp [*]; done)), H', ⟨by have := HK1.out; have := HJ17.out; have := HK3.out; omega⟩, ⟨by (with_reducible repeat (first | apply Kd.R_alloc | apply Kd.R_drewN | apply Kd.R_drew)); exact HQ51.out⟩, ⟨by (with_reducible repeat (first | refine blk_drewN ?_ _ | refine blk_drew ?_ | refine blk_alloc ?_ _)); refine blk_far ?_ (by have h_ := Kd.R_ne HO_176000.out BK169.out (by decide); intro e_; exact h_ (by rw [e_]; rfl)) _; (with_reducible repeat (first | refine blk_drewN ?_ _ | refine blk_drew ?_ | refine blk_alloc ?_ _)); exact BK169.out⟩, ⟨by (with_reducible repeat (first | refine blk_drewN ?_ _ | refine blk_drew ?_ | refine blk_alloc ?_ _)); refine blk_far ?_ (by have h_ := Kd.R_ne HO_176000.out BK170.out (by decide); intro e_; exact h_ (by rw [e_]; rfl)) _; (with_reducible repeat (first | refine blk_drewN ?_ _ | refine blk_drew ?_ | refine blk_alloc ?_ _)); exact BK170.out⟩, ⟨by (with_reducible repeat (first | refine blk_drewN ?_ _ | refine blk_drew ?_ | refine blk_alloc ?_ _)); refine blk_far ?_ (by have h_ := Kd.R_ne HO_176000.out BK175.out (by decide); intro e_; exact h_ (by rw [e_]; rfl)) _; (with_reducible repeat (first | refine blk_drewN ?_ _ | refine blk_drew ?_ | refine blk_alloc ?_ _)); exact BK175.out⟩, ⟨by (with_reducible repeat (first | refine blk_drewN ?_ _ | refine blk_drew ?_ | refine blk_alloc ?_ _)); refine blk_far ?_ (by have h_ := Kd.R_ne HO_176000.out BK177.out (by decide); intro e_; exact h_ (by rw [e_]; rfl)) _; (with_reducible repeat (first | refine blk_drewN ?_ _ | refine blk_drew ?_ | refine blk_alloc ?_ _)); exact BK177.out⟩, ⟨by repeat (first | (with_reducible first | exact HB.out | apply below_alloc | apply pw_below_drewN | apply below_drew1 | refine below_set ?_ GB45.out | refine below_set ?_ GE169.out | refine below_set ?_ GE170.out | refine below_set ?_ GE175.out | refine below_set ?_ GE177.out) | exact HB.out)⟩⟩
                                  · rw [if_neg c44] at H
                                    exact absurd H (by simp)
                                · rw [if_neg c43] at H
                                  exact absurd H (by simp)
                              · rw [if_neg c41] at H
                                exact absurd H (by simp)
                            · rw [if_neg c40] at H
                              have c40b0 : decide (x8_3 < (rd l1 x6_1)) = false := decide_eq_false c40
                              clear c40
                              have H' := Aside0.mk H
                              clear H
                              have hnb52 := NB177_169.out
                              have hnc52 := NB169_177.out
                              have hnb53 := NB177_170.out
                              have hnc53 := NB170_177.out
                              have hnb54 := NB177_175.out
                              have hnc54 := NB175_177.out
                              have hcz55_0 : wr.cell? ⟨gb177, 0, none⟩ = some (.int .i64 ((rd_T45 l0_1 x6_1).f0)) := (blk_cell BK177.out 0).trans rfl
                              have hcz55_1 : wr.cell? ⟨gb177, 1, none⟩ = some (.slice A176_1 ((rd_T45 l0_1 x6_1).f1).length c176_1) := (blk_cell BK177.out 1).trans rfl
                              have hfz55_0 := blk_frozen BK177.out 0
                              have hfz55_1 := blk_frozen BK177.out 1
                              have p178 : 0 ≤ (x6_1 : Int) := of_decide_eq_true (by first | (with_reducible assumption) | assumption)
                              have q178 : x6_1 < (l1.length : Int) := of_decide_eq_true (by first | (with_reducible assumption) | assumption)
                              obtain ⟨ad178, e178, hx178_0⟩ := Kd.at_int HR1.out x6_1 p178 q178
                              cases e178
                              replace hx178_0 := (HB.out.cell (World.block_lt_of_cell? w _ hx178_0)).trans hx178_0
                              replace p178 := eq_true p178
                              replace q178 := eq_true q178
                              go_wp2
                              go_roundg k3
                              case measure => have := HK1.out; have := HJ17.out; have := HK3.out; omega
                              case rel => exact ⟨(wrap64 (x6_1 + 1)), (x176000_3), (u176000), (by first | rfl | (simp; done) | (simp [*]; done)), H', ⟨by have := HK1.out; have := HJ17.out; have := HK3.out; omega⟩, ⟨by (with_reducible repeat (first | apply Kd.R_alloc | apply Kd.R_drewN | apply Kd.R_drew)); exact HO_176000.out⟩, ⟨by (with_reducible repeat (first | refine blk_drewN ?_ _ | refine blk_drew ?_ | refine blk_alloc ?_ _)); exact BK169.out⟩, ⟨by (with_reducible repeat (first | refine blk_drewN ?_ _ | refine blk_drew ?_ | refine blk_alloc ?_ _)); exact BK170.out⟩, ⟨by (with_reducible repeat (first | refine blk_drewN ?_ _ | refine blk_drew ?_ | refine blk_alloc ?_ _)); exact BK175.out⟩, ⟨by repeat (first | (with_reducible first | exact HB.out | apply below_alloc | apply pw_below_drewN | apply below_drew1 | refine below_set ?_ GE169.out | refine below_set ?_ GE170.out | refine below_set ?_ GE175.out | refine below_set ?_ GE177.out) | exact HB.out)⟩⟩
                          · rw [if_neg c39] at H
                            exact absurd H (by simp)
                        · rw [if_neg c38] at H
                          exact absurd H (by simp)
                      · rw [if_neg c37] at H
                        have c37b0 : decide (x8_3 < (((rd_T45 l0_1 x6_1).f1).length : Int)) = false := decide_eq_false c37
                        clear c37
                        have H' := Aside0.mk H
                        clear H
                        have hnb56 := NB177_169.out
                        have hnc56 := NB169_177.out
                        have hnb57 := NB177_170.out
                        have hnc57 := NB170_177.out
                        have hnb58 := NB177_175.out
                        have hnc58 := NB175_177.out
                        have hcz59_0 : wr.cell? ⟨gb177, 0, none⟩ = some (.int .i64 ((rd_T45 l0_1 x6_1).f0)) := (blk_cell BK177.out 0).trans rfl
                        have hcz59_1 : wr.cell? ⟨gb177, 1, none⟩ = some (.slice A176_1 ((rd_T45 l0_1 x6_1).f1).length c176_1) := (blk_cell BK177.out 1).trans rfl
                        have hfz59_0 := blk_frozen BK177.out 0
                        have hfz59_1 := blk_frozen BK177.out 1
                        go_wp2
                        go_roundg k3
                        case measure => have := HK1.out; have := HJ17.out; have := HK3.out; omega
                        case rel => exact ⟨(wrap64 (x6_1 + 1)), (x176000_3), (u176000), (by first | rfl | (simp; done) | (simp [*]; done)), H', ⟨by have := HK1.out; have := HJ17.out; have := HK3.out; omega⟩, ⟨by (with_reducible repeat (first | apply Kd.R_alloc | apply Kd.R_drewN | apply Kd.R_drew)); exact HO_176000.out⟩, ⟨by (with_reducible repeat (first | refine blk_drewN ?_ _ | refine blk_drew ?_ | refine blk_alloc ?_ _)); exact BK169.out⟩, ⟨by (with_reducible repeat (first | refine blk_drewN ?_ _ | refine blk_drew ?_ | refine blk_alloc ?_ _)); exact BK170.out⟩, ⟨by (with_reducible repeat (first | refine blk_drewN ?_ _ | refine blk_drew ?_ | refine blk_alloc ?_ _)); exact BK175.out⟩, ⟨by repeat (first | (with_reducible first | exact HB.out | apply below_alloc | apply pw_below_drewN | apply below_drew1 | refine below_set ?_ GE169.out | refine below_set ?_ GE170.out | refine below_set ?_ GE175.out | refine below_set ?_ GE177.out) | exact HB.out)⟩⟩
                · rw [if_neg c28] at H
                  exact absurd H (by simp)
              · rw [if_neg c27] at H
                exact absurd H (by simp)
            · replace c26 := Bool.eq_false_iff.mpr c26
              subst c26
              have H1 : (some (x176000_1, ([] : List (S45)))) = some (r1, r2) := by rw [if_neg (show ¬ (false = true) by decide)] at H; exact H
              clear H
              have H := H1
              clear H1
              simp only [Option.some.injEq, Prod.mk.injEq] at H
              obtain ⟨rfl, rfl⟩ := H
              have hnb60 := NB175_169.out
              have hnc60 := NB169_175.out
              have hnb61 := NB175_170.out
              have hnc61 := NB170_175.out
              have hcz62_0 : wc.cell? ⟨gb175, 0, none⟩ = some (u176000) := (blk_cell BK175.out 0).trans rfl
              have hcz62_1 : wc.cell? ⟨gb175, 1, none⟩ = some (.slice none 0 0) := (blk_cell BK175.out 1).trans rfl
              have hfz62_0 := blk_frozen BK175.out 0
              have hfz62_1 := blk_frozen BK175.out 1
              obtain ⟨Ao63, co63, eo63⟩ := Kd.R_slice HO_176000.out
              subst eo63
              have hnb64 := NB170_169.out
              have hnc64 := NB169_170.out
              have hcz65_0 : wc.cell? ⟨gb170, 0, none⟩ = some (.slice none 0 0) := (blk_cell BK170.out 0).trans rfl
              have hcz65_1 : wc.cell? ⟨gb170, 1, none⟩ = some (.slice none 0 0) := (blk_cell BK170.out 1).trans rfl
              have hfz65_0 := blk_frozen BK170.out 0
              have hfz65_1 := blk_frozen BK170.out 1
              go_wp2
              refine bodyPost_ret (results_cell_row rfl _ _ gb170 25 #[.slice Ao63 x176000_1.length co63, .slice none 0 0] (0, 0) _ rfl (by (with_reducible repeat (first | refine blk_drewN ?_ _ | refine blk_drew ?_ | refine blk_alloc ?_ _)); refine blk_put (cs := #[.slice Ao63 x176000_1.length co63, .slice none 0 0]) ?_ 1 _ rfl; (with_reducible repeat (first | refine blk_drewN ?_ _ | refine blk_drew ?_ | refine blk_alloc ?_ _)); refine blk_put (cs := #[.slice none 0 0, .slice none 0 0]) ?_ 0 _ rfl; (with_reducible repeat (first | refine blk_drewN ?_ _ | refine blk_drew ?_ | refine blk_alloc ?_ _)); exact BK170.out) Try.underlying25 rfl (by kernel_rfl)) rfl ?_
              exact ⟨_, _, by first | rfl | (simp [errW_none, errW_some] <;> rfl) | (simp [*, errW_none, errW_some] <;> rfl), by (with_reducible repeat (first | apply Kd.R_alloc | apply Kd.R_drewN | apply Kd.R_drew)); exact Kd.R_mono (Kd.R_far (p := ⟨gb170, 1, none⟩) (Kd.R_far (p := ⟨gb170, 0, none⟩) (Kd.R_types HO_176000.out BK170.out (by decide)) (fun _ hk => hk.2) (.slice Ao63 x176000_1.length co63)) (fun _ hk => hk.2) (.slice none 0 0)) (fun _ hk => trivial), by first | exact Kd.S_nil _ _ _ _ _ | exact Kd.N_nil _ _ _ _ _ | exact Kd.V_nil _ _ _ _ _ | exact Kd.Q_nil _ _ _ _ _ | exact Kd.R_nil _ _ _ _ _, by repeat (first | (with_reducible first | exact HB.out | apply below_alloc | apply pw_below_drewN | apply below_drew1 | refine below_set ?_ GE169.out | refine below_set ?_ GE170.out | refine below_set ?_ GE175.out) | exact HB.out)⟩
  · replace c4 := Bool.eq_false_iff.mpr c4
    subst c4
    have H1 : (some (([] : List Int), ([] : List (S45)))) = some (r1, r2) := by rw [if_neg (show ¬ (false = true) by decide)] at H; exact H
    clear H
    have H := H1
    clear H1
    simp only [Option.some.injEq, Prod.mk.injEq] at H
    obtain ⟨rfl, rfl⟩ := H
    go_enter Try.func29, Try.ntmps29
    go_wp2_with (first | ((with_reducible refine gate_dst (N := 2) rfl ?_); (try (refine gate_guard (by rfl) ?_; dsimp only)); refine box_event ?hg (N := 2) ?hd (cs := #[.slice A0_0 l0_0.length c0_0, .slice A0_1 l0_1.length c0_1]) (t := 25) ?hr ?_; (case hd => rfl); (case hg => rfl); (case hr => first | (go_simp; done) | (go_simp; rfl)); intro gb169 hg w66 hbox hb; have n0_ := Aside0.mk (below_step (by repeat (first | (with_reducible first | exact HB.out | apply below_alloc | apply pw_below_drewN | apply below_drew1) | exact HB.out)) hb); have n1_ := Aside0.mk (hbox); have n2_ := Aside0.mk ((by rw [hg]; exact (below_size (by repeat (first | (with_reducible first | exact HB.out | apply below_alloc | apply pw_below_drewN | apply below_drew1) | exact HB.out))) : w.heap.size ≤ gb169)); have n3_ := Aside0.mk ((by rw [hg]; exact (below_size (by repeat (first | (with_reducible first | exact HB.out | apply below_alloc | apply pw_below_drewN | apply below_drew1) | exact HB.out))) : w.heap.size ≤ gb169)); clear HB; have HB := n0_; have BK169 := n1_; have GW169 := n2_; have GE169 := n3_; clear n0_ n1_ n2_ n3_; clear hb hbox hg) | ((with_reducible refine gate_dst (N := 4) rfl ?_); (try (refine gate_guard (by rfl) ?_; dsimp only)); refine box_event ?hg (N := 4) ?hd (cs := #[.slice none 0 0, .slice none 0 0]) (t := 25) ?hr ?_; (case hd => rfl); (case hg => rfl); (case hr => first | (go_simp; done) | (go_simp; rfl)); intro gb170 hg w67 hbox hb; have n0_ := Aside0.mk (blk_below (g := gb169) (o := .cells #[.slice A0_0 l0_0.length c0_0, .slice A0_1 l0_1.length c0_1] 25 (0, 0)) (by (with_reducible repeat (first | refine blk_drewN ?_ _ | refine blk_drew ?_ | refine blk_alloc ?_ _)); exact BK169.out) hb); have n1_ := Aside0.mk (below_step (by repeat (first | (with_reducible first | exact HB.out | apply below_alloc | apply pw_below_drewN | apply below_drew1 | refine below_set ?_ GE169.out) | exact HB.out)) hb); have n2_ := Aside0.mk (hbox); have n3_ := Aside0.mk ((by rw [hg]; exact (below_size (by repeat (first | (with_reducible first | exact HB.out | apply below_alloc | apply pw_below_drewN | apply below_drew1 | refine below_set ?_ GE169.out) | exact HB.out))) : w.heap.size ≤ gb170)); have n4_ := Aside0.mk ((by rw [hg]; exact (below_size (by repeat (first | (with_reducible first | exact HB.out | apply below_alloc | apply pw_below_drewN | apply below_drew1 | refine below_set ?_ GE169.out) | exact HB.out))) : w.heap.size ≤ gb170)); have n5_ := Aside0.mk ((by rw [hg]; exact Nat.ne_of_lt (blk_lt (g := gb169) (o := .cells #[.slice A0_0 l0_0.length c0_0, .slice A0_1 l0_1.length c0_1] 25 (0, 0)) (by (with_reducible repeat (first | refine blk_drewN ?_ _ | refine blk_drew ?_ | refine blk_alloc ?_ _)); exact BK169.out)) : gb169 ≠ gb170)); have n6_ := Aside0.mk ((by rw [hg]; exact Nat.ne_of_gt (blk_lt (g := gb169) (o := .cells #[.slice A0_0 l0_0.length c0_0, .slice A0_1 l0_1.length c0_1] 25 (0, 0)) (by (with_reducible repeat (first | refine blk_drewN ?_ _ | refine blk_drew ?_ | refine blk_alloc ?_ _)); exact BK169.out)) : gb170 ≠ gb169)); clear BK169; clear HB; have BK169 := n0_; have HB := n1_; have BK170 := n2_; have GW170 := n3_; have GE170 := n4_; have NB169_170 := n5_; have NB170_169 := n6_; clear n0_ n1_ n2_ n3_ n4_ n5_ n6_; clear hb hbox hg; have hnb68 := NB169_170.out; have hnc68 := NB170_169.out; have hcz69_0 : w67.cell? ⟨gb169, 0, none⟩ = some (.slice A0_0 l0_0.length c0_0) := (blk_cell BK169.out 0).trans rfl; have hcz69_1 : w67.cell? ⟨gb169, 1, none⟩ = some (.slice A0_1 l0_1.length c0_1) := (blk_cell BK169.out 1).trans rfl; have hfz69_0 := blk_frozen BK169.out 0; have hfz69_1 := blk_frozen BK169.out 1) | ((with_reducible refine gate_callee (f := 31) rfl ?_); refine goesL_ (some 10) rfl rfl Try.func31 (by kernel_rfl) rfl #[.agg #[.slice A0_0 l0_0.length c0_0, .slice A0_1 l0_1.length c0_1]] rfl (by (try simp only [List.map_toArray, List.map_cons, List.map_nil]); first | done | rfl | (simp only [List.length_drop, List.length_take]; rfl)) ?_; (with_reducible refine (wageofficeref42_Valid.calls k _ _ l0_0 _ _ l0_1 false _ ?side1 ?side2 ?side3 ?side4 A3.out).mono ?_); (case side1 => repeat (first | exact (Kd.C_below HR0_0.out HB.out) | (with_reducible refine Kd.C_alloc ?_ _) | (with_reducible refine Kd.C_drewN ?_ _) | (with_reducible refine Kd.C_drew ?_))); (case side2 => exact HC0_0.out); (case side3 => repeat (first | exact (Kd.C_below HR0_1.out HB.out) | (with_reducible refine Kd.C_alloc ?_ _) | (with_reducible refine Kd.C_drewN ?_ _) | (with_reducible refine Kd.C_drew ?_))); (case side4 => exact HC0_1.out); rintro e w70 ⟨rfl, hb⟩; refine ⟨_, rfl, ?_⟩; have n0_ := Aside0.mk (blk_below (g := gb169) (o := .cells #[.slice A0_0 l0_0.length c0_0, .slice A0_1 l0_1.length c0_1] 25 (0, 0)) (by (with_reducible repeat (first | refine blk_drewN ?_ _ | refine blk_drew ?_ | refine blk_alloc ?_ _)); exact BK169.out) hb); have n1_ := Aside0.mk (blk_below (g := gb170) (o := .cells #[.slice none 0 0, .slice none 0 0] 25 (0, 0)) (by (with_reducible repeat (first | refine blk_drewN ?_ _ | refine blk_drew ?_ | refine blk_alloc ?_ _)); exact BK170.out) hb); have n2_ := Aside0.mk (below_step (by repeat (first | (with_reducible first | exact HB.out | apply below_alloc | apply pw_below_drewN | apply below_drew1 | refine below_set ?_ GE169.out | refine below_set ?_ GE170.out) | exact HB.out)) hb); clear BK169; clear BK170; clear HB; have BK169 := n0_; have BK170 := n1_; have HB := n2_; clear n0_ n1_ n2_; (try clear hb); (try clear hb2); (try clear hk); (try clear hi); have hcz71_0 : w70.cell? ⟨gb170, 0, none⟩ = some (.slice none 0 0) := (blk_cell BK170.out 0).trans rfl; have hcz71_1 : w70.cell? ⟨gb170, 1, none⟩ = some (.slice none 0 0) := (blk_cell BK170.out 1).trans rfl; have hfz71_0 := blk_frozen BK170.out 0; have hfz71_1 := blk_frozen BK170.out 1))
    refine bodyPost_ret (results_cell_row rfl _ _ gb170 25 #[.slice none 0 0, .slice none 0 0] (0, 0) _ rfl (by (with_reducible repeat (first | refine blk_drewN ?_ _ | refine blk_drew ?_ | refine blk_alloc ?_ _)); refine blk_put (cs := #[.slice none 0 0, .slice none 0 0]) ?_ 1 _ rfl; (with_reducible repeat (first | refine blk_drewN ?_ _ | refine blk_drew ?_ | refine blk_alloc ?_ _)); refine blk_put (cs := #[.slice none 0 0, .slice none 0 0]) ?_ 0 _ rfl; (with_reducible repeat (first | refine blk_drewN ?_ _ | refine blk_drew ?_ | refine blk_alloc ?_ _)); exact BK170.out) Try.underlying25 rfl (by kernel_rfl)) rfl ?_
    exact ⟨_, _, by first | rfl | (simp [errW_none, errW_some] <;> rfl) | (simp [*, errW_none, errW_some] <;> rfl), by first | exact Kd.R_nil _ _ _ _ _ | exact Kd.N_nil _ _ _ _ _ | exact Kd.V_nil _ _ _ _ _ | exact Kd.Q_nil _ _ _ _ _ | exact Kd.S_nil _ _ _ _ _, by first | exact Kd.S_nil _ _ _ _ _ | exact Kd.N_nil _ _ _ _ _ | exact Kd.V_nil _ _ _ _ _ | exact Kd.Q_nil _ _ _ _ _ | exact Kd.R_nil _ _ _ _ _, by repeat (first | (with_reducible first | exact HB.out | apply below_alloc | apply pw_below_drewN | apply below_drew1 | refine below_set ?_ GE169.out | refine below_set ?_ GE170.out) | exact HB.out)⟩

/-! ### wageofficeref42_Sync: function 27 -/
def wageofficeref42_Sync.l0 : Nat → List Int → Int → List Int → List (S45) → Option (List Int × (List (S45)))
  | 0, _, _, _, _ => none
  | k + 1, x3, x4, x182000, x182001 => if x4 < (x182001.length : Int) then (if x4 ≤ 64 then (if 0 ≤ x4 then (if x3.length < 17592186044416 then (wageofficeref42_Sync.l0 k (x3 ++ [(((rd_T45 x182001 x4).f1).length : Int)]) (wrap64 (x4 + 1)) x182000 x182001) else (none)) else (none)) else ((wageofficeref42_Crash.f k x182000 x182001 x3).bind fun bt187 => (some (bt187.1, bt187.2)))) else ((wageofficeref42_Crash.f k x182000 x182001 x3).bind fun bt193 => (some (bt193.1, bt193.2)))
def wageofficeref42_Sync.f (k : Nat) (l0_0 : List Int) (l0_1 : List (S45)) : Option (List Int × (List (S45))) := wageofficeref42_Sync.l0 k ([] : List Int) 0 l0_0 l0_1
theorem wageofficeref42_Sync.mono_l : ∀ k, (∀ y0 y1 y2 y3, LeO (wageofficeref42_Sync.l0 k y0 y1 y2 y3) (wageofficeref42_Sync.l0 (k + 1) y0 y1 y2 y3))
  | 0 => fun _ _ _ _ r h => by simp [wageofficeref42_Sync.l0] at h
  | k + 1 => by
    have ih0 := wageofficeref42_Sync.mono_l k
    · intro y0 y1 y2 y3
      unfold wageofficeref42_Sync.l0
      repeat' first
      | (with_reducible exact ih0 _ _ _ _)
      | (with_reducible exact wageofficeref42_Crash.mono _ _ _ _)
      | (with_reducible exact LeO.refl _)
      | (with_reducible exact LeO.none _)
      | (with_reducible refine LeO.ite ?_ ?_)
      | (with_reducible refine LeO.bind ?_ (fun _ => ?_))
      | exact ih0 _ _ _ _
      | exact wageofficeref42_Crash.mono _ _ _ _
      | exact LeO.none _
      | refine LeO.ite ?_ ?_
      | refine LeO.bind ?_ (fun _ => ?_)
theorem wageofficeref42_Sync.mono : ∀ a0 a1 k, LeO (wageofficeref42_Sync.f k a0 a1) (wageofficeref42_Sync.f (k + 1) a0 a1) := by
  intro a0 a1 k
  have ih0 := wageofficeref42_Sync.mono_l k
  unfold wageofficeref42_Sync.f
  repeat' first
      | (with_reducible exact ih0 _ _ _ _)
      | (with_reducible exact wageofficeref42_Crash.mono _ _ _ _)
      | (with_reducible exact LeO.refl _)
      | (with_reducible exact LeO.none _)
      | (with_reducible refine LeO.ite ?_ ?_)
      | (with_reducible refine LeO.bind ?_ (fun _ => ?_))
      | exact ih0 _ _ _ _
      | exact wageofficeref42_Crash.mono _ _ _ _
      | exact LeO.none _
      | refine LeO.ite ?_ ?_
      | refine LeO.bind ?_ (fun _ => ?_)
set_option maxHeartbeats 8000000 in
set_option maxRecDepth 100000 in
theorem wageofficeref42_Sync.calls (k : Nat) (A0_0 : Option Addr) (c0_0 : Nat) (l0_0 : List Int) (A0_1 : Option Addr) (c0_1 : Nat) (l0_1 : List (S45)) (r1 : List Int) (r2 : List (S45)) (w : World) (hr0_0 : Kd.C (Kd.int .u8) w A0_0 l0_0.length l0_0) (hc0_0 : l0_0.length ≤ c0_0) (hr0_1 : Kd.C k45 w A0_1 l0_1.length l0_1) (hc0_1 : l0_1.length ≤ c0_1) (h : wageofficeref42_Sync.f k l0_0 l0_1 = some (r1, r2)) :
    Calls Try.prog 27 #[.agg #[.slice A0_0 l0_0.length c0_0, .slice A0_1 l0_1.length c0_1]] w fun e w' => ∃ v0_ v1_ : Value, e = .returned (.agg #[v0_, v1_]) ∧ Kd.R (Kd.int .u8) 5 w' w.heap.size (fun _ => True) v0_ r1 ∧ Kd.S k45 45 w' w.heap.size (fun k_ => some k_ ≠ (v0_ : Value).ownBlock) v1_ r2 ∧ Below w.heap.size w w' := by
  have hu25 := Try.underlying25
  have HR0_0 := Aside0.mk hr0_0
  have HC0_0 := Aside0.mk hc0_0
  clear hr0_0 hc0_0
  have HR0_1 := Aside0.mk hr0_1
  have HC0_1 := Aside0.mk hc0_1
  clear hr0_1 hc0_1
  have HB := Aside0.mk (Below.refl w.heap.size w)
  have H : (wageofficeref42_Sync.l0 k ([] : List Int) 0 l0_0 l0_1) = some (r1, r2) := h
  clear h
  have H' := Aside0.mk H
  clear H
  go_enter Try.func27, Try.ntmps27
  go_wp2_with (first | ((with_reducible refine gate_dst (N := 1) rfl ?_); refine box_event ?hg (N := 1) ?hd (cs := #[.slice A0_0 l0_0.length c0_0, .slice A0_1 l0_1.length c0_1]) (t := 25) ?hr ?_; (case hd => rfl); (case hg => rfl); (case hr => first | (go_simp; done) | (go_simp; rfl)); intro gb181 hg w2 hbox hb; have n0_ := Aside0.mk (below_step (by repeat (first | (with_reducible first | exact HB.out | apply below_alloc | apply pw_below_drewN | apply below_drew1) | exact HB.out)) hb); have n1_ := Aside0.mk (hbox); have n2_ := Aside0.mk ((by rw [hg]; exact (below_size (by repeat (first | (with_reducible first | exact HB.out | apply below_alloc | apply pw_below_drewN | apply below_drew1) | exact HB.out))) : w.heap.size ≤ gb181)); have n3_ := Aside0.mk ((by rw [hg]; exact (below_size (by repeat (first | (with_reducible first | exact HB.out | apply below_alloc | apply pw_below_drewN | apply below_drew1) | exact HB.out))) : w.heap.size ≤ gb181)); clear HB; have HB := n0_; have BK181 := n1_; have GW181 := n2_; have GE181 := n3_; clear n0_ n1_ n2_ n3_; clear hb hbox hg) | ((with_reducible refine gate_dst (N := 2) rfl ?_); refine box_event ?hg (N := 2) ?hd (cs := #[.slice none 0 0, .slice none 0 0]) (t := 25) ?hr ?_; (case hd => rfl); (case hg => rfl); (case hr => first | (go_simp; done) | (go_simp; rfl)); intro gb182 hg w3 hbox hb; have n0_ := Aside0.mk (blk_below (g := gb181) (o := .cells #[.slice A0_0 l0_0.length c0_0, .slice A0_1 l0_1.length c0_1] 25 (0, 0)) (by (with_reducible repeat (first | refine blk_drewN ?_ _ | refine blk_drew ?_ | refine blk_alloc ?_ _)); exact BK181.out) hb); have n1_ := Aside0.mk (below_step (by repeat (first | (with_reducible first | exact HB.out | apply below_alloc | apply pw_below_drewN | apply below_drew1 | refine below_set ?_ GE181.out) | exact HB.out)) hb); have n2_ := Aside0.mk (hbox); have n3_ := Aside0.mk ((by rw [hg]; exact (below_size (by repeat (first | (with_reducible first | exact HB.out | apply below_alloc | apply pw_below_drewN | apply below_drew1 | refine below_set ?_ GE181.out) | exact HB.out))) : w.heap.size ≤ gb182)); have n4_ := Aside0.mk ((by rw [hg]; exact (below_size (by repeat (first | (with_reducible first | exact HB.out | apply below_alloc | apply pw_below_drewN | apply below_drew1 | refine below_set ?_ GE181.out) | exact HB.out))) : w.heap.size ≤ gb182)); have n5_ := Aside0.mk ((by rw [hg]; exact Nat.ne_of_lt (blk_lt (g := gb181) (o := .cells #[.slice A0_0 l0_0.length c0_0, .slice A0_1 l0_1.length c0_1] 25 (0, 0)) (by (with_reducible repeat (first | refine blk_drewN ?_ _ | refine blk_drew ?_ | refine blk_alloc ?_ _)); exact BK181.out)) : gb181 ≠ gb182)); have n6_ := Aside0.mk ((by rw [hg]; exact Nat.ne_of_gt (blk_lt (g := gb181) (o := .cells #[.slice A0_0 l0_0.length c0_0, .slice A0_1 l0_1.length c0_1] 25 (0, 0)) (by (with_reducible repeat (first | refine blk_drewN ?_ _ | refine blk_drew ?_ | refine blk_alloc ?_ _)); exact BK181.out)) : gb182 ≠ gb181)); clear BK181; clear HB; have BK181 := n0_; have HB := n1_; have BK182 := n2_; have GW182 := n3_; have GE182 := n4_; have NB181_182 := n5_; have NB182_181 := n6_; clear n0_ n1_ n2_ n3_ n4_ n5_ n6_; clear hb hbox hg))
  go_loopg [3, 4] k (fun kq v3 v4 w' => ∃ (x3_1 : List Int) (x4_1 : Int), v4 = .int .i64 x4_1 ∧ Aside0 (wageofficeref42_Sync.l0 kq x3_1 x4_1 l0_0 l0_1 = some (r1, r2)) ∧ Aside0 (kq ≤ k) ∧ Aside0 (Kd.R (Kd.int .i64) 3 w' w.heap.size (fun _ => True) v3 x3_1) ∧ Aside0 (w'.heap[gb181]? = some (.cells #[(.slice A0_0 l0_0.length c0_0), (.slice A0_1 l0_1.length c0_1)] 25 (0, 0))) ∧ Aside0 (w'.heap[gb182]? = some (.cells #[(.slice none 0 0), (.slice none 0 0)] 25 (0, 0))) ∧ Aside0 (Below w.heap.size w w'))
  case atStart => exact ⟨(([] : List Int)), (0), (by first | rfl | (simp; done) | (simp [*]; done)), H', ⟨Nat.le_refl _⟩, ⟨by first | exact Kd.R_nil _ _ _ _ _ | exact Kd.N_nil _ _ _ _ _ | exact Kd.V_nil _ _ _ _ _ | exact Kd.Q_nil _ _ _ _ _ | exact Kd.S_nil _ _ _ _ _⟩, ⟨by (with_reducible repeat (first | refine blk_drewN ?_ _ | refine blk_drew ?_ | refine blk_alloc ?_ _)); exact BK181.out⟩, ⟨by (with_reducible repeat (first | refine blk_drewN ?_ _ | refine blk_drew ?_ | refine blk_alloc ?_ _)); exact BK182.out⟩, ⟨by repeat (first | (with_reducible first | exact HB.out | apply below_alloc | apply pw_below_drewN | apply below_drew1 | refine below_set ?_ GE181.out | refine below_set ?_ GE182.out) | exact HB.out)⟩⟩
  case round =>
    clear H'
    try clear c2
    try clear p2
    obtain ⟨x3_1, x4_1, rfl, HA, HK1, HO_3, BK181, BK182, HB⟩ := hrel
    cases gk with
    | zero => exact absurd HA.out (by simp [wageofficeref42_Sync.l0])
    | succ k1 =>
      have H := HA.out
      clear HA
      simp only [wageofficeref42_Sync.l0] at H
      by_cases c4 : x4_1 < (l0_1.length : Int)
      · rw [if_pos c4] at H
        have c4b0 : decide (x4_1 < (l0_1.length : Int)) = true := decide_eq_true c4
        clear c4
        by_cases c5 : x4_1 ≤ 64
        · rw [if_pos c5] at H
          have c5b0 : decide (x4_1 ≤ 64) = true := decide_eq_true c5
          clear c5
          by_cases c6 : 0 ≤ x4_1
          · rw [if_pos c6] at H
            have c6b0 : decide (0 ≤ x4_1) = true := decide_eq_true c6
            clear c6
            by_cases c7 : x3_1.length < 17592186044416
            · rw [if_pos c7] at H
              have LMc7 := Aside0.mk c7
              clear c7
              obtain ⟨y184, hy184⟩ : ∃ y_ : List Int, y_ = (x3_1 ++ [(((rd_T45 l0_1 x4_1).f1).length : Int)]) := ⟨_, rfl⟩
              replace H : (wageofficeref42_Sync.l0 k1 y184 (wrap64 (x4_1 + 1)) l0_0 l0_1) = some (r1, r2) := by first | (rw [hy184]; with_reducible exact H) | (have H2_ := (Option.bind_some _ _).symm.trans H; rw [hy184]; with_reducible exact H2_) | (have H2_ := (Option.bind_some _ _).symm.trans H; with_reducible exact H2_) | with_reducible exact H | (rw [hy184]; exact H) | exact H
              have Ny184 := Aside0.mk hy184
              clear hy184
              have H' := Aside0.mk H
              clear H
              have hnb8 := NB181_182.out
              have hnc8 := NB182_181.out
              have hcz9_0 : wr.cell? ⟨gb181, 0, none⟩ = some (.slice A0_0 l0_0.length c0_0) := (blk_cell BK181.out 0).trans rfl
              have hcz9_1 : wr.cell? ⟨gb181, 1, none⟩ = some (.slice A0_1 l0_1.length c0_1) := (blk_cell BK181.out 1).trans rfl
              have hfz9_0 := blk_frozen BK181.out 0
              have hfz9_1 := blk_frozen BK181.out 1
              have p183 : 0 ≤ (x4_1 : Int) := of_decide_eq_true (by first | (with_reducible assumption) | assumption)
              have q183 : x4_1 < (l0_1.length : Int) := of_decide_eq_true (by first | (with_reducible assumption) | assumption)
              obtain ⟨ad183, A183_1, c183_1, e183, hx183_0, hx183_1, hl183_1, hi183_1⟩ := at_T45 HR0_1.out x4_1 p183 q183
              cases e183
              replace hx183_0 := (HB.out.cell (World.block_lt_of_cell? w _ hx183_0)).trans hx183_0
              replace hx183_1 := (HB.out.cell (World.block_lt_of_cell? w _ hx183_1)).trans hx183_1
              have HR183_1 := Aside0.mk hi183_1
              have HC183_1 := Aside0.mk hl183_1
              clear hi183_1 hl183_1
              replace p183 := eq_true p183
              replace q183 := eq_true q183
              go_wp2_with (first | ((with_reducible refine gate_builtin (b := .append) (xs := #[.tmp 16, .tmp 24]) rfl ?_); at_builtin; refine Kd.R_append (Kd.int .i64) (w0 := w) w.heap.size rfl (.tmp 16) (.tmp 24) 26 3 (.int .i64 0) 8 rfl Try.underlying26 info3 rfl (by decide) (by omega) u3 x3_1 (((rd_T45 l0_1 x4_1).f1).length : Int) [.int .i64 (((rd_T45 l0_1 x4_1).f1).length : Int)] (fun _ => True) (fun _ => False) rfl rfl ?aP (fun _ hk => hk.elim) ?aF ?aO ?aB ?aS ?aL ?_; (case aP => exact rfl); (case aB => exact (by repeat (first | (with_reducible first | exact HB.out | apply below_alloc | apply pw_below_drewN | apply below_drew1 | refine below_set ?_ GE181.out | refine below_set ?_ GE182.out) | exact HB.out))); (case aF => exact (fun _ _ => trivial)); (case aO => exact (by (with_reducible repeat (first | apply Kd.R_alloc | apply Kd.R_drewN | apply Kd.R_drew)); exact HO_3.out)); (case aS => exact (below_size (by repeat (first | (with_reducible first | exact HB.out | apply below_alloc | apply pw_below_drewN | apply below_drew1 | refine below_set ?_ GE181.out | refine below_set ?_ GE182.out) | exact HB.out)))); (case aL => have := LMc7.out; omega); intro v185 w10 ho hb hg hat; rw [← Ny184.out] at ho; have n0_ := Aside0.mk (blk_grown (g := gb181) (o := .cells #[.slice A0_0 l0_0.length c0_0, .slice (some ad183) l0_1.length c0_1] 25 (0, 0)) (by (with_reducible repeat (first | refine blk_drewN ?_ _ | refine blk_drew ?_ | refine blk_alloc ?_ _)); exact BK181.out) hg (Kd.R_ne HO_3.out BK181.out (by decide))); have n1_ := Aside0.mk (blk_grown (g := gb182) (o := .cells #[.slice none 0 0, .slice none 0 0] 25 (0, 0)) (by (with_reducible repeat (first | refine blk_drewN ?_ _ | refine blk_drew ?_ | refine blk_alloc ?_ _)); exact BK182.out) hg (Kd.R_ne HO_3.out BK182.out (by decide))); have n2_ := Aside0.mk (hb); have n3_ := Aside0.mk (ho); clear BK181; clear BK182; clear HB; clear HO_3; have BK181 := n0_; have BK182 := n1_; have HB := n2_; have HO186 := n3_; clear n0_ n1_ n2_ n3_; clear ho hb hg hat))
              go_roundg k1
              case measure => have := HK1.out; omega
              case rel => exact ⟨(y184), (wrap64 (x4_1 + 1)), (by first | rfl | (simp; done) | (simp [*]; done)), H', ⟨by have := HK1.out; omega⟩, ⟨by (with_reducible repeat (first | apply Kd.R_alloc | apply Kd.R_drewN | apply Kd.R_drew)); exact HO186.out⟩, ⟨by (with_reducible repeat (first | refine blk_drewN ?_ _ | refine blk_drew ?_ | refine blk_alloc ?_ _)); exact BK181.out⟩, ⟨by (with_reducible repeat (first | refine blk_drewN ?_ _ | refine blk_drew ?_ | refine blk_alloc ?_ _)); exact BK182.out⟩, ⟨by repeat (first | (with_reducible first | exact HB.out | apply below_alloc | apply pw_below_drewN | apply below_drew1 | refine below_set ?_ GE181.out | refine below_set ?_ GE182.out) | exact HB.out)⟩⟩
            · rw [if_neg c7] at H
              exact absurd H (by simp)
          · rw [if_neg c6] at H
            exact absurd H (by simp)
        · rw [if_neg c5] at H
          have c5b0 : decide (x4_1 ≤ 64) = false := decide_eq_false c5
          clear c5
          replace H := Option.bind_eq_some_iff.mp H
          obtain ⟨⟨t187, t190⟩, A110, H⟩ := H
          replace H : (some (t187, t190)) = some (r1, r2) := H
          have A11 := Aside0.mk A110
          clear A110
          simp only [Option.some.injEq, Prod.mk.injEq] at H
          obtain ⟨rfl, rfl⟩ := H
          have hnb12 := NB181_182.out
          have hnc12 := NB182_181.out
          have hcz13_0 : wr.cell? ⟨gb181, 0, none⟩ = some (.slice A0_0 l0_0.length c0_0) := (blk_cell BK181.out 0).trans rfl
          have hcz13_1 : wr.cell? ⟨gb181, 1, none⟩ = some (.slice A0_1 l0_1.length c0_1) := (blk_cell BK181.out 1).trans rfl
          have hfz13_0 := blk_frozen BK181.out 0
          have hfz13_1 := blk_frozen BK181.out 1
          obtain ⟨Ao14, co14, eo14⟩ := Kd.R_slice HO_3.out
          subst eo14
          go_wp2_with (first | ((with_reducible refine gate_callee (f := 29) rfl ?_); refine goesL_ (some 28) rfl rfl Try.func29 (by kernel_rfl) rfl #[.agg #[.slice A0_0 l0_0.length c0_0, .slice A0_1 l0_1.length c0_1], .slice Ao14 x3_1.length co14] rfl (by (try simp only [List.map_toArray, List.map_cons, List.map_nil]); first | done | rfl | (simp only [List.length_drop, List.length_take]; rfl)) ?_; (with_reducible refine (wageofficeref42_Crash.calls k1 _ _ l0_0 _ _ l0_1 _ _ x3_1 t187 t190 _ ?side1 ?side2 ?side3 ?side4 ?side5 ?side6 A11.out).mono ?_); (case side1 => repeat (first | exact (Kd.C_below HR0_0.out HB.out) | (with_reducible refine Kd.C_alloc ?_ _) | (with_reducible refine Kd.C_drewN ?_ _) | (with_reducible refine Kd.C_drew ?_))); (case side2 => exact HC0_0.out); (case side3 => repeat (first | exact (Kd.C_below HR0_1.out HB.out) | (with_reducible refine Kd.C_alloc ?_ _) | (with_reducible refine Kd.C_drewN ?_ _) | (with_reducible refine Kd.C_drew ?_))); (case side4 => exact HC0_1.out); (case side5 => repeat (first | exact (Kd.R_reads' HO_3.out).2.2 | (with_reducible refine Kd.C_alloc ?_ _) | (with_reducible refine Kd.C_drewN ?_ _) | (with_reducible refine Kd.C_drew ?_))); (case side6 => exact (Kd.R_reads' HO_3.out).2.1); rintro e w15 ⟨v188, v191, rfl, ho0, ho1, hb⟩; refine ⟨_, rfl, ?_⟩; have n0_ := Aside0.mk (Kd.R_below (by (with_reducible repeat (first | apply Kd.R_alloc | apply Kd.R_drewN | apply Kd.R_drew)); exact HO_3.out) hb); have n1_ := Aside0.mk (Kd.R_lower ho0 (below_size (by repeat (first | (with_reducible first | exact HB.out | apply below_alloc | apply pw_below_drewN | apply below_drew1 | refine below_set ?_ GE181.out | refine below_set ?_ GE182.out) | exact HB.out)))); have n2_ := Aside0.mk (Kd.S_lower ho1 (below_size (by repeat (first | (with_reducible first | exact HB.out | apply below_alloc | apply pw_below_drewN | apply below_drew1 | refine below_set ?_ GE181.out | refine below_set ?_ GE182.out) | exact HB.out)))); have n3_ := Aside0.mk (blk_below (g := gb181) (o := .cells #[.slice A0_0 l0_0.length c0_0, .slice A0_1 l0_1.length c0_1] 25 (0, 0)) (by (with_reducible repeat (first | refine blk_drewN ?_ _ | refine blk_drew ?_ | refine blk_alloc ?_ _)); exact BK181.out) hb); have n4_ := Aside0.mk (blk_below (g := gb182) (o := .cells #[.slice none 0 0, .slice none 0 0] 25 (0, 0)) (by (with_reducible repeat (first | refine blk_drewN ?_ _ | refine blk_drew ?_ | refine blk_alloc ?_ _)); exact BK182.out) hb); have n5_ := Aside0.mk (below_step (by repeat (first | (with_reducible first | exact HB.out | apply below_alloc | apply pw_below_drewN | apply below_drew1 | refine below_set ?_ GE181.out | refine below_set ?_ GE182.out) | exact HB.out)) hb); clear HO_3; clear BK181; clear BK182; clear HB; have HO_3 := n0_; have HO189 := n1_; have HO192 := n2_; have BK181 := n3_; have BK182 := n4_; have HB := n5_; clear n0_ n1_ n2_ n3_ n4_ n5_; (try clear hb); (try clear hb2); (try clear hk); (try clear hi); (try clear ho0); (try clear ho1); obtain ⟨Ao16, co16, eo16⟩ := Kd.R_slice HO189.out; subst eo16; have hcz17_0 : w15.cell? ⟨gb182, 0, none⟩ = some (.slice none 0 0) := (blk_cell BK182.out 0).trans rfl; have hcz17_1 : w15.cell? ⟨gb182, 1, none⟩ = some (.slice none 0 0) := (blk_cell BK182.out 1).trans rfl; have hfz17_0 := blk_frozen BK182.out 0; have hfz17_1 := blk_frozen BK182.out 1; obtain ⟨Ao18, co18, eo18⟩ := Kd.S_slice HO192.out; subst eo18))
          refine bodyPost_ret (results_cell_row rfl _ _ gb182 25 #[.slice Ao16 t187.length co16, .slice Ao18 t190.length co18] (0, 0) _ rfl (by (with_reducible repeat (first | refine blk_drewN ?_ _ | refine blk_drew ?_ | refine blk_alloc ?_ _)); refine blk_put (cs := #[.slice Ao16 t187.length co16, .slice none 0 0]) ?_ 1 _ rfl; (with_reducible repeat (first | refine blk_drewN ?_ _ | refine blk_drew ?_ | refine blk_alloc ?_ _)); refine blk_put (cs := #[.slice none 0 0, .slice none 0 0]) ?_ 0 _ rfl; (with_reducible repeat (first | refine blk_drewN ?_ _ | refine blk_drew ?_ | refine blk_alloc ?_ _)); exact BK182.out) Try.underlying25 rfl (by kernel_rfl)) rfl ?_
          exact ⟨_, _, by first | rfl | (simp [errW_none, errW_some] <;> rfl) | (simp [*, errW_none, errW_some] <;> rfl), by (with_reducible repeat (first | apply Kd.R_alloc | apply Kd.R_drewN | apply Kd.R_drew)); exact Kd.R_mono (Kd.R_far (p := ⟨gb182, 1, none⟩) (Kd.R_far (p := ⟨gb182, 0, none⟩) (Kd.R_types HO189.out BK182.out (by decide)) (fun _ hk => hk.2) (.slice Ao16 t187.length co16)) (fun _ hk => hk.2) (.slice Ao18 t190.length co18)) (fun _ hk => trivial), by (with_reducible repeat (first | apply Kd.S_alloc | apply Kd.S_drewN | apply Kd.S_drew)); exact Kd.S_mono (Kd.S_far (p := ⟨gb182, 1, none⟩) (Kd.S_far (p := ⟨gb182, 0, none⟩) (Kd.S_types HO192.out BK182.out (by decide)) (fun _ hk => hk.2) (.slice Ao16 t187.length co16)) (fun _ hk => hk.2) (.slice Ao18 t190.length co18)) (fun _ hk => hk.1), by repeat (first | (with_reducible first | exact HB.out | apply below_alloc | apply pw_below_drewN | apply below_drew1 | refine below_set ?_ GE181.out | refine below_set ?_ GE182.out) | exact HB.out)⟩
      · rw [if_neg c4] at H
        have c4b0 : decide (x4_1 < (l0_1.length : Int)) = false := decide_eq_false c4
        clear c4
        replace H := Option.bind_eq_some_iff.mp H
        obtain ⟨⟨t193, t196⟩, A190, H⟩ := H
        replace H : (some (t193, t196)) = some (r1, r2) := H
        have A19 := Aside0.mk A190
        clear A190
        simp only [Option.some.injEq, Prod.mk.injEq] at H
        obtain ⟨rfl, rfl⟩ := H
        have hnb20 := NB181_182.out
        have hnc20 := NB182_181.out
        have hcz21_0 : wr.cell? ⟨gb181, 0, none⟩ = some (.slice A0_0 l0_0.length c0_0) := (blk_cell BK181.out 0).trans rfl
        have hcz21_1 : wr.cell? ⟨gb181, 1, none⟩ = some (.slice A0_1 l0_1.length c0_1) := (blk_cell BK181.out 1).trans rfl
        have hfz21_0 := blk_frozen BK181.out 0
        have hfz21_1 := blk_frozen BK181.out 1
        obtain ⟨Ao22, co22, eo22⟩ := Kd.R_slice HO_3.out
        subst eo22
        go_wp2_with (first | ((with_reducible refine gate_callee (f := 29) rfl ?_); refine goesL_ (some 28) rfl rfl Try.func29 (by kernel_rfl) rfl #[.agg #[.slice A0_0 l0_0.length c0_0, .slice A0_1 l0_1.length c0_1], .slice Ao22 x3_1.length co22] rfl (by (try simp only [List.map_toArray, List.map_cons, List.map_nil]); first | done | rfl | (simp only [List.length_drop, List.length_take]; rfl)) ?_; (with_reducible refine (wageofficeref42_Crash.calls k1 _ _ l0_0 _ _ l0_1 _ _ x3_1 t193 t196 _ ?side1 ?side2 ?side3 ?side4 ?side5 ?side6 A19.out).mono ?_); (case side1 => repeat (first | exact (Kd.C_below HR0_0.out HB.out) | (with_reducible refine Kd.C_alloc ?_ _) | (with_reducible refine Kd.C_drewN ?_ _) | (with_reducible refine Kd.C_drew ?_))); (case side2 => exact HC0_0.out); (case side3 => repeat (first | exact (Kd.C_below HR0_1.out HB.out) | (with_reducible refine Kd.C_alloc ?_ _) | (with_reducible refine Kd.C_drewN ?_ _) | (with_reducible refine Kd.C_drew ?_))); (case side4 => exact HC0_1.out); (case side5 => repeat (first | exact (Kd.R_reads' HO_3.out).2.2 | (with_reducible refine Kd.C_alloc ?_ _) | (with_reducible refine Kd.C_drewN ?_ _) | (with_reducible refine Kd.C_drew ?_))); (case side6 => exact (Kd.R_reads' HO_3.out).2.1); rintro e w23 ⟨v194, v197, rfl, ho0, ho1, hb⟩; refine ⟨_, rfl, ?_⟩; have n0_ := Aside0.mk (Kd.R_below (by (with_reducible repeat (first | apply Kd.R_alloc | apply Kd.R_drewN | apply Kd.R_drew)); exact HO_3.out) hb); have n1_ := Aside0.mk (Kd.R_lower ho0 (below_size (by repeat (first | (with_reducible first | exact HB.out | apply below_alloc | apply pw_below_drewN | apply below_drew1 | refine below_set ?_ GE181.out | refine below_set ?_ GE182.out) | exact HB.out)))); have n2_ := Aside0.mk (Kd.S_lower ho1 (below_size (by repeat (first | (with_reducible first | exact HB.out | apply below_alloc | apply pw_below_drewN | apply below_drew1 | refine below_set ?_ GE181.out | refine below_set ?_ GE182.out) | exact HB.out)))); have n3_ := Aside0.mk (blk_below (g := gb181) (o := .cells #[.slice A0_0 l0_0.length c0_0, .slice A0_1 l0_1.length c0_1] 25 (0, 0)) (by (with_reducible repeat (first | refine blk_drewN ?_ _ | refine blk_drew ?_ | refine blk_alloc ?_ _)); exact BK181.out) hb); have n4_ := Aside0.mk (blk_below (g := gb182) (o := .cells #[.slice none 0 0, .slice none 0 0] 25 (0, 0)) (by (with_reducible repeat (first | refine blk_drewN ?_ _ | refine blk_drew ?_ | refine blk_alloc ?_ _)); exact BK182.out) hb); have n5_ := Aside0.mk (below_step (by repeat (first | (with_reducible first | exact HB.out | apply below_alloc | apply pw_below_drewN | apply below_drew1 | refine below_set ?_ GE181.out | refine below_set ?_ GE182.out) | exact HB.out)) hb); clear HO_3; clear BK181; clear BK182; clear HB; have HO_3 := n0_; have HO195 := n1_; have HO198 := n2_; have BK181 := n3_; have BK182 := n4_; have HB := n5_; clear n0_ n1_ n2_ n3_ n4_ n5_; (try clear hb); (try clear hb2); (try clear hk); (try clear hi); (try clear ho0); (try clear ho1); obtain ⟨Ao24, co24, eo24⟩ := Kd.R_slice HO195.out; subst eo24; have hcz25_0 : w23.cell? ⟨gb182, 0, none⟩ = some (.slice none 0 0) := (blk_cell BK182.out 0).trans rfl; have hcz25_1 : w23.cell? ⟨gb182, 1, none⟩ = some (.slice none 0 0) := (blk_cell BK182.out 1).trans rfl; have hfz25_0 := blk_frozen BK182.out 0; have hfz25_1 := blk_frozen BK182.out 1; obtain ⟨Ao26, co26, eo26⟩ := Kd.S_slice HO198.out; subst eo26))
        refine bodyPost_ret (results_cell_row rfl _ _ gb182 25 #[.slice Ao24 t193.length co24, .slice Ao26 t196.length co26] (0, 0) _ rfl (by (with_reducible repeat (first | refine blk_drewN ?_ _ | refine blk_drew ?_ | refine blk_alloc ?_ _)); refine blk_put (cs := #[.slice Ao24 t193.length co24, .slice none 0 0]) ?_ 1 _ rfl; (with_reducible repeat (first | refine blk_drewN ?_ _ | refine blk_drew ?_ | refine blk_alloc ?_ _)); refine blk_put (cs := #[.slice none 0 0, .slice none 0 0]) ?_ 0 _ rfl; (with_reducible repeat (first | refine blk_drewN ?_ _ | refine blk_drew ?_ | refine blk_alloc ?_ _)); exact BK182.out) Try.underlying25 rfl (by kernel_rfl)) rfl ?_
        exact ⟨_, _, by first | rfl | (simp [errW_none, errW_some] <;> rfl) | (simp [*, errW_none, errW_some] <;> rfl), by (with_reducible repeat (first | apply Kd.R_alloc | apply Kd.R_drewN | apply Kd.R_drew)); exact Kd.R_mono (Kd.R_far (p := ⟨gb182, 1, none⟩) (Kd.R_far (p := ⟨gb182, 0, none⟩) (Kd.R_types HO195.out BK182.out (by decide)) (fun _ hk => hk.2) (.slice Ao24 t193.length co24)) (fun _ hk => hk.2) (.slice Ao26 t196.length co26)) (fun _ hk => trivial), by (with_reducible repeat (first | apply Kd.S_alloc | apply Kd.S_drewN | apply Kd.S_drew)); exact Kd.S_mono (Kd.S_far (p := ⟨gb182, 1, none⟩) (Kd.S_far (p := ⟨gb182, 0, none⟩) (Kd.S_types HO198.out BK182.out (by decide)) (fun _ hk => hk.2) (.slice Ao24 t193.length co24)) (fun _ hk => hk.2) (.slice Ao26 t196.length co26)) (fun _ hk => hk.1), by repeat (first | (with_reducible first | exact HB.out | apply below_alloc | apply pw_below_drewN | apply below_drew1 | refine below_set ?_ GE181.out | refine below_set ?_ GE182.out) | exact HB.out)⟩

-- NOT PRINTED: function 24 (wageofficeref42_Read)

-- NOT PRINTED: function 3 (wageofficelaw42_DiskMatchesReference)

end Go.Proofs.Ytfpdmlhknddffaa.Dk
