/- Walks and laws of package disk: part of the proofs of the Disk statements. -/
import Derived.Test.YtfpdmlhknddffaaC4
import Derived.Test.YtfpdmlhknddffaaL0
import Derived.ArgAppend
namespace Go.Proofs.Ytfpdmlhknddffaa.Dk
open Go.RowKit Go.Proofs.YtfpdmlhknddffaaW.PrintWords Go.Proofs.YtfpdmlhknddffaaW.PrintLast Go.Proofs.YtfpdmlhknddffaaW.PrintMore
attribute [local go_sem] field25 field25b max2_int min2_int max_two min_two max_three min_three max_four min_four   -- for this text's walks alone
set_option linter.unusedVariables false
set_option linter.unusedSimpArgs false

/-- the road on which the law compares: small, valid, two writes at least, counts for all of them, the two chosen ones apart -/
def Good (l0 : List Int) (l1 : List S45) (ks : List Int) (a : Int) : Prop :=
  l0.length ≤ 600 ∧ 2 ≤ l1.length ∧ l1.length ≤ ks.length ∧ ks.length ≤ 80 ∧ 0 ≤ a ∧ a ≤ 255 ∧ validB l0 l1 = true ∧ (∀ x ∈ l1, x.f1.length ≤ 600) ∧ apart (l1.getD (a.toNat % (l1.length - 1)) z45) (l1.getD (a.toNat % (l1.length - 1) + 1) z45)

/-! ### wageofficelaw42_DiskIndep2: function 9 -/
def wageofficelaw42_DiskIndep2.j0 : Nat → Int → Bool → Int → Bool → List Int → List (S45) → Option (Bool)
  | 0, _, _, _, _, _, _ => none
  | k + 1, x2, x7, x8, x40, x103000, x103001 => if x40 = true then (some x7) else (if (wrap64 (x8 - 1)) = 0 then (none) else (if 0 ≤ (Int.tmod (wrap64 (x2)) (wrap64 (x8 - 1))) then (if (Int.tmod (wrap64 (x2)) (wrap64 (x8 - 1))) < (x103001.length : Int) then (if 0 ≤ (wrap64 ((Int.tmod (wrap64 (x2)) (wrap64 (x8 - 1))) + 1)) then (if (wrap64 ((Int.tmod (wrap64 (x2)) (wrap64 (x8 - 1))) + 1)) < (x103001.length : Int) then (some x7) else (none)) else (none)) else (none)) else (none)))
def wageofficelaw42_DiskIndep2.f (k : Nat) (l0_0 : List Int) (l0_1 : List (S45)) (l1 : List Int) (a2 : Int) : Option (Bool) := (wageofficelaw42_head.f).bind fun t103 => ((wageofficeref42_Small.f k l0_0 l0_1 600).bind fun t104 => (if t104 = true then ((wageofficeref42_Valid.f k l0_0 l0_1).bind fun t105 => (if t105 = true then (if (l0_1.length : Int) < 2 then (wageofficelaw42_DiskIndep2.j0 k a2 t103 (l0_1.length : Int) true l0_0 l0_1) else (if (l1.length : Int) < (l0_1.length : Int) then (wageofficelaw42_DiskIndep2.j0 k a2 t103 (l0_1.length : Int) true l0_0 l0_1) else (wageofficelaw42_DiskIndep2.j0 k a2 t103 (l0_1.length : Int) (decide ((l1.length : Int) > 80)) l0_0 l0_1))) else (wageofficelaw42_DiskIndep2.j0 k a2 t103 (l0_1.length : Int) true l0_0 l0_1))) else (wageofficelaw42_DiskIndep2.j0 k a2 t103 (l0_1.length : Int) true l0_0 l0_1)))
theorem wageofficelaw42_DiskIndep2.mono_l : ∀ k, (∀ y0 y1 y2 y3 y4 y5, LeO (wageofficelaw42_DiskIndep2.j0 k y0 y1 y2 y3 y4 y5) (wageofficelaw42_DiskIndep2.j0 (k + 1) y0 y1 y2 y3 y4 y5))
  | 0 => fun _ _ _ _ _ _ r h => by simp [wageofficelaw42_DiskIndep2.j0] at h
  | k + 1 => by
    have ih0 := wageofficelaw42_DiskIndep2.mono_l k
    · intro y0 y1 y2 y3 y4 y5
      unfold wageofficelaw42_DiskIndep2.j0
      repeat' first
      | (with_reducible exact ih0 _ _ _ _ _ _)
      | (with_reducible exact wageofficeref42_Small.mono _ _ _ _)
      | (with_reducible exact wageofficeref42_Valid.mono _ _ _)
      | (with_reducible exact LeO.refl _)
      | (with_reducible exact LeO.none _)
      | (with_reducible refine LeO.ite ?_ ?_)
      | (with_reducible refine LeO.bind ?_ (fun _ => ?_))
      | exact ih0 _ _ _ _ _ _
      | exact wageofficeref42_Small.mono _ _ _ _
      | exact wageofficeref42_Valid.mono _ _ _
      | exact LeO.none _
      | refine LeO.ite ?_ ?_
      | refine LeO.bind ?_ (fun _ => ?_)
theorem wageofficelaw42_DiskIndep2.mono : ∀ a0 a1 a2 a3 k, LeO (wageofficelaw42_DiskIndep2.f k a0 a1 a2 a3) (wageofficelaw42_DiskIndep2.f (k + 1) a0 a1 a2 a3) := by
  intro a0 a1 a2 a3 k
  have ih0 := wageofficelaw42_DiskIndep2.mono_l k
  unfold wageofficelaw42_DiskIndep2.f
  repeat' first
      | (with_reducible exact ih0 _ _ _ _ _ _)
      | (with_reducible exact wageofficeref42_Small.mono _ _ _ _)
      | (with_reducible exact wageofficeref42_Valid.mono _ _ _)
      | (with_reducible exact LeO.refl _)
      | (with_reducible exact LeO.none _)
      | (with_reducible refine LeO.ite ?_ ?_)
      | (with_reducible refine LeO.bind ?_ (fun _ => ?_))
      | exact ih0 _ _ _ _ _ _
      | exact wageofficeref42_Small.mono _ _ _ _
      | exact wageofficeref42_Valid.mono _ _ _
      | exact LeO.none _
      | refine LeO.ite ?_ ?_
      | refine LeO.bind ?_ (fun _ => ?_)
def wageofficelaw42_DiskIndep2.T6 : Bool × List (List Nat × List Nat) := (true, [([], []), ([0], [0]), ([], []), ([1, 2], [1, 2]), ([3], [3]), ([], []), ([5], [5]), ([], []), ([7], [7]), ([6, 8], [6, 8]), ([9], [9]), ([], []), ([], []), ([11, 4, 0, 1, 2, 3, 4, 11, 12], [4, 11]), ([12, 10, 13, 0, 1, 2, 3, 4, 5, 6, 7, 8, 9, 10, 11, 12, 13], [10, 12])])
def wageofficelaw42_DiskIndep2.B6 : List Nat := [0, 1, 0, 7, 15, 0, 32, 0, 128, 480, 992, 0, 0, 6175, 16383]
theorem wageofficelaw42_DiskIndep2.tab6 : rtab .any (opsOf Try.f9 6) = wageofficelaw42_DiskIndep2.T6 := by kernel_rfl
theorem wageofficelaw42_DiskIndep2.bits6 : waitsOk wageofficelaw42_DiskIndep2.T6.2 wageofficelaw42_DiskIndep2.B6 = true := by kernel_rfl
set_option maxHeartbeats 8000000 in
set_option maxRecDepth 100000 in
theorem wageofficelaw42_DiskIndep2.calls (k : Nat) (A0_0 : Option Addr) (c0_0 : Nat) (l0_0 : List Int) (A0_1 : Option Addr) (c0_1 : Nat) (l0_1 : List (S45)) (A1 : Option Addr) (c1 : Nat) (l1 : List Int) (a2 : Int) (r : Bool) (w : World) (hr0_0 : Kd.C (Kd.int .u8) w A0_0 l0_0.length l0_0) (hc0_0 : l0_0.length ≤ c0_0) (hr0_1 : Kd.C k45 w A0_1 l0_1.length l0_1) (hc0_1 : l0_1.length ≤ c0_1) (hr1 : Kd.C (Kd.int .i64) w A1 l1.length l1) (hc1 : l1.length ≤ c1) (Hgood : Aside0 (Good l0_0 l0_1 l1 a2)) (h : wageofficelaw42_DiskIndep2.f k l0_0 l0_1 l1 a2 = some r) :
    Calls Try.prog 9 #[.agg #[.slice A0_0 l0_0.length c0_0, .slice A0_1 l0_1.length c0_1], .slice A1 l1.length c1, .int .u8 a2] w fun e w' => e = .returned (.bool r) ∧ Below w.heap.size w w' := by
  have hu25 := Try.underlying25
  have hu45 := Try.underlying45
  have HR0_0 := Aside0.mk hr0_0
  have HC0_0 := Aside0.mk hc0_0
  clear hr0_0 hc0_0
  have HR0_1 := Aside0.mk hr0_1
  have HC0_1 := Aside0.mk hc0_1
  clear hr0_1 hc0_1
  have HR1 := Aside0.mk hr1
  have HC1 := Aside0.mk hc1
  clear hr1 hc1
  have HB := Aside0.mk (Below.refl w.heap.size w)
  have H : ((wageofficelaw42_head.f).bind fun t103 => ((wageofficeref42_Small.f k l0_0 l0_1 600).bind fun t104 => (if t104 = true then ((wageofficeref42_Valid.f k l0_0 l0_1).bind fun t105 => (if t105 = true then (if (l0_1.length : Int) < 2 then (wageofficelaw42_DiskIndep2.j0 k a2 t103 (l0_1.length : Int) true l0_0 l0_1) else (if (l1.length : Int) < (l0_1.length : Int) then (wageofficelaw42_DiskIndep2.j0 k a2 t103 (l0_1.length : Int) true l0_0 l0_1) else (wageofficelaw42_DiskIndep2.j0 k a2 t103 (l0_1.length : Int) (decide ((l1.length : Int) > 80)) l0_0 l0_1))) else (wageofficelaw42_DiskIndep2.j0 k a2 t103 (l0_1.length : Int) true l0_0 l0_1))) else (wageofficelaw42_DiskIndep2.j0 k a2 t103 (l0_1.length : Int) true l0_0 l0_1)))) = some r := h
  clear h
  replace H := Option.bind_eq_some_iff.mp H
  obtain ⟨t103, A40, H⟩ := H
  replace H : ((wageofficeref42_Small.f k l0_0 l0_1 600).bind fun t104 => (if t104 = true then ((wageofficeref42_Valid.f k l0_0 l0_1).bind fun t105 => (if t105 = true then (if (l0_1.length : Int) < 2 then (wageofficelaw42_DiskIndep2.j0 k a2 t103 (l0_1.length : Int) true l0_0 l0_1) else (if (l1.length : Int) < (l0_1.length : Int) then (wageofficelaw42_DiskIndep2.j0 k a2 t103 (l0_1.length : Int) true l0_0 l0_1) else (wageofficelaw42_DiskIndep2.j0 k a2 t103 (l0_1.length : Int) (decide ((l1.length : Int) > 80)) l0_0 l0_1))) else (wageofficelaw42_DiskIndep2.j0 k a2 t103 (l0_1.length : Int) true l0_0 l0_1))) else (wageofficelaw42_DiskIndep2.j0 k a2 t103 (l0_1.length : Int) true l0_0 l0_1))) = some r := H
  have A4 := Aside0.mk A40
  clear A40
  have HC5 := Aside0.mk H
  clear H
  go_enter Try.func9, Try.ntmps9
  go_upto_region 3 with (first | ((with_reducible refine gate_dst (N := 3) rfl ?_); (try (refine gate_guard (by rfl) ?_; dsimp only)); refine box_event ?hg (N := 3) ?hd (cs := #[.slice A0_0 l0_0.length c0_0, .slice A0_1 l0_1.length c0_1]) (t := 25) ?hr ?_; (case hd => rfl); (case hg => rfl); (case hr => first | (go_simp; done) | (go_simp; rfl)); intro gb102 hg w6 hbox hb; have n0_ := Aside0.mk (below_step (by repeat (first | (with_reducible first | exact HB.out | apply below_alloc | apply pw_below_drewN | apply below_drew1) | exact HB.out)) hb); have n1_ := Aside0.mk (hbox); have n2_ := Aside0.mk ((by rw [hg]; exact (below_size (by repeat (first | (with_reducible first | exact HB.out | apply below_alloc | apply pw_below_drewN | apply below_drew1) | exact HB.out))) : w.heap.size ≤ gb102)); have n3_ := Aside0.mk ((by rw [hg]; exact (below_size (by repeat (first | (with_reducible first | exact HB.out | apply below_alloc | apply pw_below_drewN | apply below_drew1) | exact HB.out))) : w.heap.size ≤ gb102)); clear HB; have HB := n0_; have BK102 := n1_; have GW102 := n2_; have GE102 := n3_; clear n0_ n1_ n2_ n3_; clear hb hbox hg) | ((with_reducible refine gate_callee (f := 16) rfl ?_); refine goesL_ (some 14) rfl rfl Try.func16 (by kernel_rfl) rfl #[] rfl (by (try simp only [List.map_toArray, List.map_cons, List.map_nil]); first | done | rfl | (simp only [List.length_drop, List.length_take]; rfl)) ?_; (with_reducible refine (wageofficelaw42_head.calls  t103 _ A4.out).mono ?_); rintro e w7 ⟨rfl, hb⟩; refine ⟨_, rfl, ?_⟩; have n0_ := Aside0.mk (blk_below (g := gb102) (o := .cells #[.slice A0_0 l0_0.length c0_0, .slice A0_1 l0_1.length c0_1] 25 (0, 0)) (by (with_reducible repeat (first | refine blk_drewN ?_ _ | refine blk_drew ?_ | refine blk_alloc ?_ _)); exact BK102.out) hb); have n1_ := Aside0.mk (below_step (by repeat (first | (with_reducible first | exact HB.out | apply below_alloc | apply pw_below_drewN | apply below_drew1 | refine below_set ?_ GE102.out) | exact HB.out)) hb); clear BK102; clear HB; have BK102 := n0_; have HB := n1_; clear n0_ n1_; (try clear hb); (try clear hb2); (try clear hk); (try clear hi); have hcz8_0 : w7.cell? ⟨gb102, 0, none⟩ = some (.slice A0_0 l0_0.length c0_0) := (blk_cell BK102.out 0).trans rfl; have hcz8_1 : w7.cell? ⟨gb102, 1, none⟩ = some (.slice A0_1 l0_1.length c0_1) := (blk_cell BK102.out 1).trans rfl; have hfz8_0 := blk_frozen BK102.out 0; have hfz8_1 := blk_frozen BK102.out 1))
  (try simp only [Act.put, List.setIfInBounds_toArray, List.set_cons_zero, List.set_cons_succ])
  go_cut [40] (fun v40 wc => ∃ (kq : Nat) (x40_4 : Bool), v40 = .bool x40_4 ∧ Aside0 (wageofficelaw42_DiskIndep2.j0 kq a2 t103 (l0_1.length : Int) x40_4 l0_0 l0_1 = some r) ∧ Aside0 (kq ≤ k) ∧ Aside0 (wc.heap[gb102]? = some (.cells #[(.slice A0_0 l0_0.length c0_0), (.slice A0_1 l0_1.length c0_1)] 25 (0, 0))) ∧ Aside0 (Below w.heap.size w wc))
  case first =>
    have H := HC5.out
    clear HC5
    replace H := Option.bind_eq_some_iff.mp H
    obtain ⟨t104, A90, H⟩ := H
    replace H : (if t104 = true then ((wageofficeref42_Valid.f k l0_0 l0_1).bind fun t105 => (if t105 = true then (if (l0_1.length : Int) < 2 then (wageofficelaw42_DiskIndep2.j0 k a2 t103 (l0_1.length : Int) true l0_0 l0_1) else (if (l1.length : Int) < (l0_1.length : Int) then (wageofficelaw42_DiskIndep2.j0 k a2 t103 (l0_1.length : Int) true l0_0 l0_1) else (wageofficelaw42_DiskIndep2.j0 k a2 t103 (l0_1.length : Int) (decide ((l1.length : Int) > 80)) l0_0 l0_1))) else (wageofficelaw42_DiskIndep2.j0 k a2 t103 (l0_1.length : Int) true l0_0 l0_1))) else (wageofficelaw42_DiskIndep2.j0 k a2 t103 (l0_1.length : Int) true l0_0 l0_1)) = some r := H
    have A9 := Aside0.mk A90
    clear A90
    by_cases c10 : t104 = true
    · subst c10
      have H1 : ((wageofficeref42_Valid.f k l0_0 l0_1).bind fun t105 => (if t105 = true then (if (l0_1.length : Int) < 2 then (wageofficelaw42_DiskIndep2.j0 k a2 t103 (l0_1.length : Int) true l0_0 l0_1) else (if (l1.length : Int) < (l0_1.length : Int) then (wageofficelaw42_DiskIndep2.j0 k a2 t103 (l0_1.length : Int) true l0_0 l0_1) else (wageofficelaw42_DiskIndep2.j0 k a2 t103 (l0_1.length : Int) (decide ((l1.length : Int) > 80)) l0_0 l0_1))) else (wageofficelaw42_DiskIndep2.j0 k a2 t103 (l0_1.length : Int) true l0_0 l0_1))) = some r := by rw [if_pos rfl] at H; exact H
      clear H
      have H := H1
      clear H1
      replace H := Option.bind_eq_some_iff.mp H
      obtain ⟨t105, A110, H⟩ := H
      replace H : (if t105 = true then (if (l0_1.length : Int) < 2 then (wageofficelaw42_DiskIndep2.j0 k a2 t103 (l0_1.length : Int) true l0_0 l0_1) else (if (l1.length : Int) < (l0_1.length : Int) then (wageofficelaw42_DiskIndep2.j0 k a2 t103 (l0_1.length : Int) true l0_0 l0_1) else (wageofficelaw42_DiskIndep2.j0 k a2 t103 (l0_1.length : Int) (decide ((l1.length : Int) > 80)) l0_0 l0_1))) else (wageofficelaw42_DiskIndep2.j0 k a2 t103 (l0_1.length : Int) true l0_0 l0_1)) = some r := H
      have A11 := Aside0.mk A110
      clear A110
      by_cases c12 : t105 = true
      · subst c12
        have H1 : (if (l0_1.length : Int) < 2 then (wageofficelaw42_DiskIndep2.j0 k a2 t103 (l0_1.length : Int) true l0_0 l0_1) else (if (l1.length : Int) < (l0_1.length : Int) then (wageofficelaw42_DiskIndep2.j0 k a2 t103 (l0_1.length : Int) true l0_0 l0_1) else (wageofficelaw42_DiskIndep2.j0 k a2 t103 (l0_1.length : Int) (decide ((l1.length : Int) > 80)) l0_0 l0_1))) = some r := by rw [if_pos rfl] at H; exact H
        clear H
        have H := H1
        clear H1
        by_cases c13 : (l0_1.length : Int) < 2
        · rw [if_pos c13] at H
          have c13b0 : decide ((l0_1.length : Int) < 2) = true := decide_eq_true c13
          have c13b1 : decide (l0_1.length < 2) = true := decide_eq_true (by omega)
          clear c13
          (first | rw [c13b0] | (simp only [i64_w, i32_w]; rw [c13b0]) | skip)
          have H' := Aside0.mk H
          clear H
          have hcz14_0 : w7.cell? ⟨gb102, 0, none⟩ = some (.slice A0_0 l0_0.length c0_0) := (blk_cell BK102.out 0).trans rfl
          have hcz14_1 : w7.cell? ⟨gb102, 1, none⟩ = some (.slice A0_1 l0_1.length c0_1) := (blk_cell BK102.out 1).trans rfl
          have hfz14_0 := blk_frozen BK102.out 0
          have hfz14_1 := blk_frozen BK102.out 1
          go_wp2_with (first | ((with_reducible refine gate_callee (f := 20) rfl ?_); refine goesL_ (some 19) rfl rfl Try.func20 (by kernel_rfl) rfl #[.agg #[.slice A0_0 l0_0.length c0_0, .slice A0_1 l0_1.length c0_1], .int .i64 600] rfl (by (try simp only [List.map_toArray, List.map_cons, List.map_nil]); first | done | rfl | (simp only [List.length_drop, List.length_take]; rfl)) ?_; (with_reducible refine (wageofficeref42_Small.calls k _ _ l0_0 _ _ l0_1 600 true _ ?side1 ?side2 ?side3 ?side4 A9.out).mono ?_); (case side1 => repeat (first | exact (Kd.C_below HR0_0.out HB.out) | (with_reducible refine Kd.C_alloc ?_ _) | (with_reducible refine Kd.C_drewN ?_ _) | (with_reducible refine Kd.C_drew ?_))); (case side2 => exact HC0_0.out); (case side3 => repeat (first | exact (Kd.C_below HR0_1.out HB.out) | (with_reducible refine Kd.C_alloc ?_ _) | (with_reducible refine Kd.C_drewN ?_ _) | (with_reducible refine Kd.C_drew ?_))); (case side4 => exact HC0_1.out); rintro e w15 ⟨rfl, hb⟩; refine ⟨_, rfl, ?_⟩; have n0_ := Aside0.mk (blk_below (g := gb102) (o := .cells #[.slice A0_0 l0_0.length c0_0, .slice A0_1 l0_1.length c0_1] 25 (0, 0)) (by (with_reducible repeat (first | refine blk_drewN ?_ _ | refine blk_drew ?_ | refine blk_alloc ?_ _)); exact BK102.out) hb); have n1_ := Aside0.mk (below_step (by repeat (first | (with_reducible first | exact HB.out | apply below_alloc | apply pw_below_drewN | apply below_drew1 | refine below_set ?_ GE102.out) | exact HB.out)) hb); clear BK102; clear HB; have BK102 := n0_; have HB := n1_; clear n0_ n1_; (try clear hb); (try clear hb2); (try clear hk); (try clear hi); have hcz16_0 : w15.cell? ⟨gb102, 0, none⟩ = some (.slice A0_0 l0_0.length c0_0) := (blk_cell BK102.out 0).trans rfl; have hcz16_1 : w15.cell? ⟨gb102, 1, none⟩ = some (.slice A0_1 l0_1.length c0_1) := (blk_cell BK102.out 1).trans rfl; have hfz16_0 := blk_frozen BK102.out 0; have hfz16_1 := blk_frozen BK102.out 1) | (go_at_call 31; (with_reducible refine (wageofficeref42_Valid.calls k _ _ l0_0 _ _ l0_1 true _ ?side1 ?side2 ?side3 ?side4 A11.out).mono ?_); (case side1 => repeat (first | exact (Kd.C_below HR0_0.out HB.out) | (with_reducible refine Kd.C_alloc ?_ _) | (with_reducible refine Kd.C_drewN ?_ _) | (with_reducible refine Kd.C_drew ?_))); (case side2 => exact HC0_0.out); (case side3 => repeat (first | exact (Kd.C_below HR0_1.out HB.out) | (with_reducible refine Kd.C_alloc ?_ _) | (with_reducible refine Kd.C_drewN ?_ _) | (with_reducible refine Kd.C_drew ?_))); (case side4 => exact HC0_1.out); rintro e w17 ⟨rfl, hb⟩; have n0_ := Aside0.mk (blk_below (g := gb102) (o := .cells #[.slice A0_0 l0_0.length c0_0, .slice A0_1 l0_1.length c0_1] 25 (0, 0)) (by (with_reducible repeat (first | refine blk_drewN ?_ _ | refine blk_drew ?_ | refine blk_alloc ?_ _)); exact BK102.out) hb); have n1_ := Aside0.mk (below_step (by repeat (first | (with_reducible first | exact HB.out | apply below_alloc | apply pw_below_drewN | apply below_drew1 | refine below_set ?_ GE102.out) | exact HB.out)) hb); clear BK102; clear HB; have BK102 := n0_; have HB := n1_; clear n0_ n1_; (try clear hb); (try clear hb2); (try clear hk); (try clear hi)))
          go_meet
          case rel => exact ⟨_, (true), (by first | rfl | (simp; done) | (simp [*]; done)), H', ⟨by first | omega | exact Nat.le_refl _⟩, ⟨by (with_reducible repeat (first | refine blk_drewN ?_ _ | refine blk_drew ?_ | refine blk_alloc ?_ _)); exact BK102.out⟩, ⟨by repeat (first | (with_reducible first | exact HB.out | apply below_alloc | apply pw_below_drewN | apply below_drew1 | refine below_set ?_ GE102.out) | exact HB.out)⟩⟩
        · rw [if_neg c13] at H
          have c13b0 : decide ((l0_1.length : Int) < 2) = false := decide_eq_false c13
          have c13b1 : decide (l0_1.length < 2) = false := decide_eq_false (by omega)
          clear c13
          (first | rw [c13b0] | (simp only [i64_w, i32_w]; rw [c13b0]) | skip)
          by_cases c18 : (l1.length : Int) < (l0_1.length : Int)
          · rw [if_pos c18] at H
            have c18b0 : decide ((l1.length : Int) < (l0_1.length : Int)) = true := decide_eq_true c18
            have c18b1 : decide (l1.length < l0_1.length) = true := decide_eq_true (Int.ofNat_lt.mp c18)
            clear c18
            have H' := Aside0.mk H
            clear H
            have hcz19_0 : w7.cell? ⟨gb102, 0, none⟩ = some (.slice A0_0 l0_0.length c0_0) := (blk_cell BK102.out 0).trans rfl
            have hcz19_1 : w7.cell? ⟨gb102, 1, none⟩ = some (.slice A0_1 l0_1.length c0_1) := (blk_cell BK102.out 1).trans rfl
            have hfz19_0 := blk_frozen BK102.out 0
            have hfz19_1 := blk_frozen BK102.out 1
            go_wp2_with (first | ((with_reducible refine gate_callee (f := 20) rfl ?_); refine goesL_ (some 19) rfl rfl Try.func20 (by kernel_rfl) rfl #[.agg #[.slice A0_0 l0_0.length c0_0, .slice A0_1 l0_1.length c0_1], .int .i64 600] rfl (by (try simp only [List.map_toArray, List.map_cons, List.map_nil]); first | done | rfl | (simp only [List.length_drop, List.length_take]; rfl)) ?_; (with_reducible refine (wageofficeref42_Small.calls k _ _ l0_0 _ _ l0_1 600 true _ ?side1 ?side2 ?side3 ?side4 A9.out).mono ?_); (case side1 => repeat (first | exact (Kd.C_below HR0_0.out HB.out) | (with_reducible refine Kd.C_alloc ?_ _) | (with_reducible refine Kd.C_drewN ?_ _) | (with_reducible refine Kd.C_drew ?_))); (case side2 => exact HC0_0.out); (case side3 => repeat (first | exact (Kd.C_below HR0_1.out HB.out) | (with_reducible refine Kd.C_alloc ?_ _) | (with_reducible refine Kd.C_drewN ?_ _) | (with_reducible refine Kd.C_drew ?_))); (case side4 => exact HC0_1.out); rintro e w20 ⟨rfl, hb⟩; refine ⟨_, rfl, ?_⟩; have n0_ := Aside0.mk (blk_below (g := gb102) (o := .cells #[.slice A0_0 l0_0.length c0_0, .slice A0_1 l0_1.length c0_1] 25 (0, 0)) (by (with_reducible repeat (first | refine blk_drewN ?_ _ | refine blk_drew ?_ | refine blk_alloc ?_ _)); exact BK102.out) hb); have n1_ := Aside0.mk (below_step (by repeat (first | (with_reducible first | exact HB.out | apply below_alloc | apply pw_below_drewN | apply below_drew1 | refine below_set ?_ GE102.out) | exact HB.out)) hb); clear BK102; clear HB; have BK102 := n0_; have HB := n1_; clear n0_ n1_; (try clear hb); (try clear hb2); (try clear hk); (try clear hi); have hcz21_0 : w20.cell? ⟨gb102, 0, none⟩ = some (.slice A0_0 l0_0.length c0_0) := (blk_cell BK102.out 0).trans rfl; have hcz21_1 : w20.cell? ⟨gb102, 1, none⟩ = some (.slice A0_1 l0_1.length c0_1) := (blk_cell BK102.out 1).trans rfl; have hfz21_0 := blk_frozen BK102.out 0; have hfz21_1 := blk_frozen BK102.out 1) | (go_at_call 31; (with_reducible refine (wageofficeref42_Valid.calls k _ _ l0_0 _ _ l0_1 true _ ?side1 ?side2 ?side3 ?side4 A11.out).mono ?_); (case side1 => repeat (first | exact (Kd.C_below HR0_0.out HB.out) | (with_reducible refine Kd.C_alloc ?_ _) | (with_reducible refine Kd.C_drewN ?_ _) | (with_reducible refine Kd.C_drew ?_))); (case side2 => exact HC0_0.out); (case side3 => repeat (first | exact (Kd.C_below HR0_1.out HB.out) | (with_reducible refine Kd.C_alloc ?_ _) | (with_reducible refine Kd.C_drewN ?_ _) | (with_reducible refine Kd.C_drew ?_))); (case side4 => exact HC0_1.out); rintro e w22 ⟨rfl, hb⟩; have n0_ := Aside0.mk (blk_below (g := gb102) (o := .cells #[.slice A0_0 l0_0.length c0_0, .slice A0_1 l0_1.length c0_1] 25 (0, 0)) (by (with_reducible repeat (first | refine blk_drewN ?_ _ | refine blk_drew ?_ | refine blk_alloc ?_ _)); exact BK102.out) hb); have n1_ := Aside0.mk (below_step (by repeat (first | (with_reducible first | exact HB.out | apply below_alloc | apply pw_below_drewN | apply below_drew1 | refine below_set ?_ GE102.out) | exact HB.out)) hb); clear BK102; clear HB; have BK102 := n0_; have HB := n1_; clear n0_ n1_; (try clear hb); (try clear hb2); (try clear hk); (try clear hi)))
            go_meet
            case rel => exact ⟨_, (true), (by first | rfl | (simp; done) | (simp [*]; done)), H', ⟨by first | omega | exact Nat.le_refl _⟩, ⟨by (with_reducible repeat (first | refine blk_drewN ?_ _ | refine blk_drew ?_ | refine blk_alloc ?_ _)); exact BK102.out⟩, ⟨by repeat (first | (with_reducible first | exact HB.out | apply below_alloc | apply pw_below_drewN | apply below_drew1 | refine below_set ?_ GE102.out) | exact HB.out)⟩⟩
          · rw [if_neg c18] at H
            have c18b0 : decide ((l1.length : Int) < (l0_1.length : Int)) = false := decide_eq_false c18
            have c18b1 : decide (l1.length < l0_1.length) = false := decide_eq_false (fun h => c18 (Int.ofNat_lt.mpr h))
            clear c18
            have H' := Aside0.mk H
            clear H
            have hcz23_0 : w7.cell? ⟨gb102, 0, none⟩ = some (.slice A0_0 l0_0.length c0_0) := (blk_cell BK102.out 0).trans rfl
            have hcz23_1 : w7.cell? ⟨gb102, 1, none⟩ = some (.slice A0_1 l0_1.length c0_1) := (blk_cell BK102.out 1).trans rfl
            have hfz23_0 := blk_frozen BK102.out 0
            have hfz23_1 := blk_frozen BK102.out 1
            go_wp2_with (first | ((with_reducible refine gate_callee (f := 20) rfl ?_); refine goesL_ (some 19) rfl rfl Try.func20 (by kernel_rfl) rfl #[.agg #[.slice A0_0 l0_0.length c0_0, .slice A0_1 l0_1.length c0_1], .int .i64 600] rfl (by (try simp only [List.map_toArray, List.map_cons, List.map_nil]); first | done | rfl | (simp only [List.length_drop, List.length_take]; rfl)) ?_; (with_reducible refine (wageofficeref42_Small.calls k _ _ l0_0 _ _ l0_1 600 true _ ?side1 ?side2 ?side3 ?side4 A9.out).mono ?_); (case side1 => repeat (first | exact (Kd.C_below HR0_0.out HB.out) | (with_reducible refine Kd.C_alloc ?_ _) | (with_reducible refine Kd.C_drewN ?_ _) | (with_reducible refine Kd.C_drew ?_))); (case side2 => exact HC0_0.out); (case side3 => repeat (first | exact (Kd.C_below HR0_1.out HB.out) | (with_reducible refine Kd.C_alloc ?_ _) | (with_reducible refine Kd.C_drewN ?_ _) | (with_reducible refine Kd.C_drew ?_))); (case side4 => exact HC0_1.out); rintro e w24 ⟨rfl, hb⟩; refine ⟨_, rfl, ?_⟩; have n0_ := Aside0.mk (blk_below (g := gb102) (o := .cells #[.slice A0_0 l0_0.length c0_0, .slice A0_1 l0_1.length c0_1] 25 (0, 0)) (by (with_reducible repeat (first | refine blk_drewN ?_ _ | refine blk_drew ?_ | refine blk_alloc ?_ _)); exact BK102.out) hb); have n1_ := Aside0.mk (below_step (by repeat (first | (with_reducible first | exact HB.out | apply below_alloc | apply pw_below_drewN | apply below_drew1 | refine below_set ?_ GE102.out) | exact HB.out)) hb); clear BK102; clear HB; have BK102 := n0_; have HB := n1_; clear n0_ n1_; (try clear hb); (try clear hb2); (try clear hk); (try clear hi); have hcz25_0 : w24.cell? ⟨gb102, 0, none⟩ = some (.slice A0_0 l0_0.length c0_0) := (blk_cell BK102.out 0).trans rfl; have hcz25_1 : w24.cell? ⟨gb102, 1, none⟩ = some (.slice A0_1 l0_1.length c0_1) := (blk_cell BK102.out 1).trans rfl; have hfz25_0 := blk_frozen BK102.out 0; have hfz25_1 := blk_frozen BK102.out 1) | (go_at_call 31; (with_reducible refine (wageofficeref42_Valid.calls k _ _ l0_0 _ _ l0_1 true _ ?side1 ?side2 ?side3 ?side4 A11.out).mono ?_); (case side1 => repeat (first | exact (Kd.C_below HR0_0.out HB.out) | (with_reducible refine Kd.C_alloc ?_ _) | (with_reducible refine Kd.C_drewN ?_ _) | (with_reducible refine Kd.C_drew ?_))); (case side2 => exact HC0_0.out); (case side3 => repeat (first | exact (Kd.C_below HR0_1.out HB.out) | (with_reducible refine Kd.C_alloc ?_ _) | (with_reducible refine Kd.C_drewN ?_ _) | (with_reducible refine Kd.C_drew ?_))); (case side4 => exact HC0_1.out); rintro e w26 ⟨rfl, hb⟩; have n0_ := Aside0.mk (blk_below (g := gb102) (o := .cells #[.slice A0_0 l0_0.length c0_0, .slice A0_1 l0_1.length c0_1] 25 (0, 0)) (by (with_reducible repeat (first | refine blk_drewN ?_ _ | refine blk_drew ?_ | refine blk_alloc ?_ _)); exact BK102.out) hb); have n1_ := Aside0.mk (below_step (by repeat (first | (with_reducible first | exact HB.out | apply below_alloc | apply pw_below_drewN | apply below_drew1 | refine below_set ?_ GE102.out) | exact HB.out)) hb); clear BK102; clear HB; have BK102 := n0_; have HB := n1_; clear n0_ n1_; (try clear hb); (try clear hb2); (try clear hk); (try clear hi)))
            go_meet
            case rel => exact ⟨_, (decide ((l1.length : Int) > 80)), (by first | rfl | (simp; done) | (simp [*]; done)), H', ⟨by first | omega | exact Nat.le_refl _⟩, ⟨by (with_reducible repeat (first | refine blk_drewN ?_ _ | refine blk_drew ?_ | refine blk_alloc ?_ _)); exact BK102.out⟩, ⟨by repeat (first | (with_reducible first | exact HB.out | apply below_alloc | apply pw_below_drewN | apply below_drew1 | refine below_set ?_ GE102.out) | exact HB.out)⟩⟩
      · replace c12 := Bool.eq_false_iff.mpr c12
        subst c12
        have H1 : (wageofficelaw42_DiskIndep2.j0 k a2 t103 (l0_1.length : Int) true l0_0 l0_1) = some r := by rw [if_neg (show ¬ (false = true) by decide)] at H; exact H
        clear H
        have H := H1
        clear H1
        have H' := Aside0.mk H
        clear H
        have hcz27_0 : w7.cell? ⟨gb102, 0, none⟩ = some (.slice A0_0 l0_0.length c0_0) := (blk_cell BK102.out 0).trans rfl
        have hcz27_1 : w7.cell? ⟨gb102, 1, none⟩ = some (.slice A0_1 l0_1.length c0_1) := (blk_cell BK102.out 1).trans rfl
        have hfz27_0 := blk_frozen BK102.out 0
        have hfz27_1 := blk_frozen BK102.out 1
        go_wp2_with (first | ((with_reducible refine gate_callee (f := 20) rfl ?_); refine goesL_ (some 19) rfl rfl Try.func20 (by kernel_rfl) rfl #[.agg #[.slice A0_0 l0_0.length c0_0, .slice A0_1 l0_1.length c0_1], .int .i64 600] rfl (by (try simp only [List.map_toArray, List.map_cons, List.map_nil]); first | done | rfl | (simp only [List.length_drop, List.length_take]; rfl)) ?_; (with_reducible refine (wageofficeref42_Small.calls k _ _ l0_0 _ _ l0_1 600 true _ ?side1 ?side2 ?side3 ?side4 A9.out).mono ?_); (case side1 => repeat (first | exact (Kd.C_below HR0_0.out HB.out) | (with_reducible refine Kd.C_alloc ?_ _) | (with_reducible refine Kd.C_drewN ?_ _) | (with_reducible refine Kd.C_drew ?_))); (case side2 => exact HC0_0.out); (case side3 => repeat (first | exact (Kd.C_below HR0_1.out HB.out) | (with_reducible refine Kd.C_alloc ?_ _) | (with_reducible refine Kd.C_drewN ?_ _) | (with_reducible refine Kd.C_drew ?_))); (case side4 => exact HC0_1.out); rintro e w28 ⟨rfl, hb⟩; refine ⟨_, rfl, ?_⟩; have n0_ := Aside0.mk (blk_below (g := gb102) (o := .cells #[.slice A0_0 l0_0.length c0_0, .slice A0_1 l0_1.length c0_1] 25 (0, 0)) (by (with_reducible repeat (first | refine blk_drewN ?_ _ | refine blk_drew ?_ | refine blk_alloc ?_ _)); exact BK102.out) hb); have n1_ := Aside0.mk (below_step (by repeat (first | (with_reducible first | exact HB.out | apply below_alloc | apply pw_below_drewN | apply below_drew1 | refine below_set ?_ GE102.out) | exact HB.out)) hb); clear BK102; clear HB; have BK102 := n0_; have HB := n1_; clear n0_ n1_; (try clear hb); (try clear hb2); (try clear hk); (try clear hi); have hcz29_0 : w28.cell? ⟨gb102, 0, none⟩ = some (.slice A0_0 l0_0.length c0_0) := (blk_cell BK102.out 0).trans rfl; have hcz29_1 : w28.cell? ⟨gb102, 1, none⟩ = some (.slice A0_1 l0_1.length c0_1) := (blk_cell BK102.out 1).trans rfl; have hfz29_0 := blk_frozen BK102.out 0; have hfz29_1 := blk_frozen BK102.out 1) | (go_at_call 31; (with_reducible refine (wageofficeref42_Valid.calls k _ _ l0_0 _ _ l0_1 false _ ?side1 ?side2 ?side3 ?side4 A11.out).mono ?_); (case side1 => repeat (first | exact (Kd.C_below HR0_0.out HB.out) | (with_reducible refine Kd.C_alloc ?_ _) | (with_reducible refine Kd.C_drewN ?_ _) | (with_reducible refine Kd.C_drew ?_))); (case side2 => exact HC0_0.out); (case side3 => repeat (first | exact (Kd.C_below HR0_1.out HB.out) | (with_reducible refine Kd.C_alloc ?_ _) | (with_reducible refine Kd.C_drewN ?_ _) | (with_reducible refine Kd.C_drew ?_))); (case side4 => exact HC0_1.out); rintro e w30 ⟨rfl, hb⟩; have n0_ := Aside0.mk (blk_below (g := gb102) (o := .cells #[.slice A0_0 l0_0.length c0_0, .slice A0_1 l0_1.length c0_1] 25 (0, 0)) (by (with_reducible repeat (first | refine blk_drewN ?_ _ | refine blk_drew ?_ | refine blk_alloc ?_ _)); exact BK102.out) hb); have n1_ := Aside0.mk (below_step (by repeat (first | (with_reducible first | exact HB.out | apply below_alloc | apply pw_below_drewN | apply below_drew1 | refine below_set ?_ GE102.out) | exact HB.out)) hb); clear BK102; clear HB; have BK102 := n0_; have HB := n1_; clear n0_ n1_; (try clear hb); (try clear hb2); (try clear hk); (try clear hi)))
        go_meet
        case rel => exact ⟨_, (true), (by first | rfl | (simp; done) | (simp [*]; done)), H', ⟨by first | omega | exact Nat.le_refl _⟩, ⟨by (with_reducible repeat (first | refine blk_drewN ?_ _ | refine blk_drew ?_ | refine blk_alloc ?_ _)); exact BK102.out⟩, ⟨by repeat (first | (with_reducible first | exact HB.out | apply below_alloc | apply pw_below_drewN | apply below_drew1 | refine below_set ?_ GE102.out) | exact HB.out)⟩⟩
    · replace c10 := Bool.eq_false_iff.mpr c10
      subst c10
      have H1 : (wageofficelaw42_DiskIndep2.j0 k a2 t103 (l0_1.length : Int) true l0_0 l0_1) = some r := by rw [if_neg (show ¬ (false = true) by decide)] at H; exact H
      clear H
      have H := H1
      clear H1
      have H' := Aside0.mk H
      clear H
      have hcz31_0 : w7.cell? ⟨gb102, 0, none⟩ = some (.slice A0_0 l0_0.length c0_0) := (blk_cell BK102.out 0).trans rfl
      have hcz31_1 : w7.cell? ⟨gb102, 1, none⟩ = some (.slice A0_1 l0_1.length c0_1) := (blk_cell BK102.out 1).trans rfl
      have hfz31_0 := blk_frozen BK102.out 0
      have hfz31_1 := blk_frozen BK102.out 1
      go_wp2_with (first | ((with_reducible refine gate_callee (f := 20) rfl ?_); refine goesL_ (some 19) rfl rfl Try.func20 (by kernel_rfl) rfl #[.agg #[.slice A0_0 l0_0.length c0_0, .slice A0_1 l0_1.length c0_1], .int .i64 600] rfl (by (try simp only [List.map_toArray, List.map_cons, List.map_nil]); first | done | rfl | (simp only [List.length_drop, List.length_take]; rfl)) ?_; (with_reducible refine (wageofficeref42_Small.calls k _ _ l0_0 _ _ l0_1 600 false _ ?side1 ?side2 ?side3 ?side4 A9.out).mono ?_); (case side1 => repeat (first | exact (Kd.C_below HR0_0.out HB.out) | (with_reducible refine Kd.C_alloc ?_ _) | (with_reducible refine Kd.C_drewN ?_ _) | (with_reducible refine Kd.C_drew ?_))); (case side2 => exact HC0_0.out); (case side3 => repeat (first | exact (Kd.C_below HR0_1.out HB.out) | (with_reducible refine Kd.C_alloc ?_ _) | (with_reducible refine Kd.C_drewN ?_ _) | (with_reducible refine Kd.C_drew ?_))); (case side4 => exact HC0_1.out); rintro e w32 ⟨rfl, hb⟩; refine ⟨_, rfl, ?_⟩; have n0_ := Aside0.mk (blk_below (g := gb102) (o := .cells #[.slice A0_0 l0_0.length c0_0, .slice A0_1 l0_1.length c0_1] 25 (0, 0)) (by (with_reducible repeat (first | refine blk_drewN ?_ _ | refine blk_drew ?_ | refine blk_alloc ?_ _)); exact BK102.out) hb); have n1_ := Aside0.mk (below_step (by repeat (first | (with_reducible first | exact HB.out | apply below_alloc | apply pw_below_drewN | apply below_drew1 | refine below_set ?_ GE102.out) | exact HB.out)) hb); clear BK102; clear HB; have BK102 := n0_; have HB := n1_; clear n0_ n1_; (try clear hb); (try clear hb2); (try clear hk); (try clear hi)))
      go_meet
      case rel => exact ⟨_, (true), (by first | rfl | (simp; done) | (simp [*]; done)), H', ⟨by first | omega | exact Nat.le_refl _⟩, ⟨by (with_reducible repeat (first | refine blk_drewN ?_ _ | refine blk_drew ?_ | refine blk_alloc ?_ _)); exact BK102.out⟩, ⟨by repeat (first | (with_reducible first | exact HB.out | apply below_alloc | apply pw_below_drewN | apply below_drew1 | refine below_set ?_ GE102.out) | exact HB.out)⟩⟩
  case rest =>
    clear HC5
    try clear c1
    try clear c2
    try clear p2
    try clear c9
    try clear c10
    try clear c12
    try clear c13
    try clear c13b0
    try clear c13b1
    try clear c16
    try clear c18
    try clear c18b0
    try clear c18b1
    try clear c20
    try clear hcz14_0
    try clear hcz14_1
    try clear hcz16_0
    try clear hcz16_1
    try clear hcz19_0
    try clear hcz19_1
    try clear hcz21_0
    try clear hcz21_1
    try clear hcz23_0
    try clear hcz23_1
    try clear hcz25_0
    try clear hcz25_1
    try clear hcz27_0
    try clear hcz27_1
    try clear hcz29_0
    try clear hcz29_1
    try clear hcz31_0
    try clear hcz31_1
    try clear hcz8_0
    try clear hcz8_1
    try clear hfz14_0
    try clear hfz14_1
    try clear hfz16_0
    try clear hfz16_1
    try clear hfz19_0
    try clear hfz19_1
    try clear hfz21_0
    try clear hfz21_1
    try clear hfz23_0
    try clear hfz23_1
    try clear hfz25_0
    try clear hfz25_1
    try clear hfz27_0
    try clear hfz27_1
    try clear hfz29_0
    try clear hfz29_1
    try clear hfz31_0
    try clear hfz31_1
    try clear hfz8_0
    try clear hfz8_1
    obtain ⟨kq, x40_4, rfl, HA, HJ4, BK102, HB⟩ := hcut
    cases kq with
    | zero => exact absurd HA.out (by simp [wageofficelaw42_DiskIndep2.j0])
    | succ kj4 =>
      have H := HA.out
      clear HA
      simp only [wageofficelaw42_DiskIndep2.j0] at H
      by_cases c33 : x40_4 = true
      · subst c33
        have H1 : (some t103) = some r := by rw [if_pos rfl] at H; exact H
        clear H
        have H := H1
        clear H1
        obtain rfl := Option.some.inj H
        go_wp2
        go_ret
        exact ⟨by first | rfl | (simp [errW_none, errW_some] <;> rfl) | (simp [*, errW_none, errW_some] <;> rfl), by repeat (first | (with_reducible first | exact HB.out | apply below_alloc | apply pw_below_drewN | apply below_drew1 | refine below_set ?_ GE102.out) | exact HB.out)⟩
      · replace c33 := Bool.eq_false_iff.mpr c33
        subst c33
        have H1 : (if (wrap64 ((l0_1.length : Int) - 1)) = 0 then (none) else (if 0 ≤ (Int.tmod (wrap64 (a2)) (wrap64 ((l0_1.length : Int) - 1))) then (if (Int.tmod (wrap64 (a2)) (wrap64 ((l0_1.length : Int) - 1))) < (l0_1.length : Int) then (if 0 ≤ (wrap64 ((Int.tmod (wrap64 (a2)) (wrap64 ((l0_1.length : Int) - 1))) + 1)) then (if (wrap64 ((Int.tmod (wrap64 (a2)) (wrap64 ((l0_1.length : Int) - 1))) + 1)) < (l0_1.length : Int) then (some t103) else (none)) else (none)) else (none)) else (none))) = some r := by rw [if_neg (show ¬ (false = true) by decide)] at H; exact H
        clear H
        have H := H1
        clear H1
        by_cases c34 : (wrap64 ((l0_1.length : Int) - 1)) = 0
        · rw [if_pos c34] at H
          exact absurd H (by simp)
        · rw [if_neg c34] at H
          have c34b0 : ((wrap64 ((l0_1.length : Int) - 1)) == 0) = false := beq_eq_false_iff_ne.mpr c34
          have c34b1 : ((wrap64 ((l0_1.length : Int) - 1)) != 0) = true := bne_iff_ne.mpr c34
          obtain ⟨ji35, hji35⟩ : ∃ j_ : Int, (Int.tmod (wrap64 (a2)) (wrap64 ((l0_1.length : Int) - 1))) = j_ := ⟨_, rfl⟩
          replace H : (if 0 ≤ (ji35) then (if (ji35) < (l0_1.length : Int) then (if 0 ≤ (wrap64 ((ji35) + 1)) then (if (wrap64 ((ji35) + 1)) < (l0_1.length : Int) then (some t103) else (none)) else (none)) else (none)) else (none)) = some r := by first | (rw [hji35] at H; exact H) | (simp only [hji35] at H ⊢; exact H)
          by_cases c36 : 0 ≤ (ji35)
          · rw [if_pos c36] at H
            have c36b0 : decide (0 ≤ (ji35)) = true := decide_eq_true c36
            clear c36
            by_cases c37 : (ji35) < (l0_1.length : Int)
            · rw [if_pos c37] at H
              have c37b0 : decide ((ji35) < (l0_1.length : Int)) = true := decide_eq_true c37
              clear c37
              obtain ⟨ji38, hji38⟩ : ∃ j_ : Int, (wrap64 ((ji35) + 1)) = j_ := ⟨_, rfl⟩
              replace H : (if 0 ≤ (ji38) then (if (ji38) < (l0_1.length : Int) then (some t103) else (none)) else (none)) = some r := by first | (rw [hji38] at H; exact H) | (simp only [hji38] at H ⊢; exact H)
              have hji38w : (IntKind.i64.wrap ((ji35) + 1)) = ji38 := (i64_w _).trans hji38
              by_cases c39 : 0 ≤ (ji38)
              · rw [if_pos c39] at H
                have c39b0 : decide (0 ≤ (ji38)) = true := decide_eq_true c39
                clear c39
                by_cases c40 : (ji38) < (l0_1.length : Int)
                · rw [if_pos c40] at H
                  have c40b0 : decide ((ji38) < (l0_1.length : Int)) = true := decide_eq_true c40
                  clear c40
                  rcases (Or.inl trivial : True ∨ False) with c41 | c41
                  · clear c41
                    rcases (Or.inl trivial : True ∨ False) with c42 | c42
                    · clear c42
                      obtain rfl := Option.some.inj H
                      try go_wp2
                      have n0_ := Aside0.mk (blk_drew BK102.out)
                      have n1_ := Aside0.mk (below_drew1 HB.out)
                      clear BK102
                      clear HB
                      have BK102 := n0_
                      have HB := n1_
                      clear n0_ n1_
                      have p106 : 0 ≤ ((ji35) : Int) := of_decide_eq_true (by first | (with_reducible assumption) | assumption)
                      have q106 : (ji35) < (l0_1.length : Int) := of_decide_eq_true (by first | (with_reducible assumption) | assumption)
                      obtain ⟨ad106, A106_1, c106_1, e106, hx106_0, hx106_1, hl106_1, hi106_1⟩ := at_T45 HR0_1.out (ji35) p106 q106
                      have hw106_1 := hx106_1
                      have hw106_0 := hx106_0
                      cases e106
                      replace hx106_0 := (HB.out.cell (World.block_lt_of_cell? w _ hx106_0)).trans hx106_0
                      replace hx106_1 := (HB.out.cell (World.block_lt_of_cell? w _ hx106_1)).trans hx106_1
                      have HR106_1 := Aside0.mk hi106_1
                      have HC106_1 := Aside0.mk hl106_1
                      clear hi106_1 hl106_1
                      replace p106 := eq_true p106
                      replace q106 := eq_true q106
                      have p107 : 0 ≤ ((ji38) : Int) := of_decide_eq_true (by first | (with_reducible assumption) | assumption)
                      have q107 : (ji38) < (l0_1.length : Int) := of_decide_eq_true (by first | (with_reducible assumption) | assumption)
                      obtain ⟨ad107, A107_1, c107_1, e107, hx107_0, hx107_1, hl107_1, hi107_1⟩ := at_T45 HR0_1.out (ji38) p107 q107
                      have hw107_1 := hx107_1
                      have hw107_0 := hx107_0
                      obtain rfl : ad106 = ad107 := (by injection e107)
                      replace hx107_0 := (HB.out.cell (World.block_lt_of_cell? w _ hx107_0)).trans hx107_0
                      replace hx107_1 := (HB.out.cell (World.block_lt_of_cell? w _ hx107_1)).trans hx107_1
                      have HR107_1 := Aside0.mk hi107_1
                      have HC107_1 := Aside0.mk hl107_1
                      clear hi107_1 hl107_1
                      replace p107 := eq_true p107
                      replace q107 := eq_true q107
                      refine start_ (n := 15) (S := fun w' => w'.cell? ⟨gb102, 0, none⟩ = some (.slice A0_0 l0_0.length c0_0) ∧ w'.cell? ⟨gb102, 1, none⟩ = some (.slice (some ad106) l0_1.length c0_1) ∧ w'.cell? (ad106.add (((ji35)).toNat * 2)) = some (.int .i64 ((rd_T45 l0_1 (ji35)).f0)) ∧ w'.cell? ⟨(ad106.add (((ji35)).toNat * 2)).block, (ad106.add (((ji35)).toNat * 2)).off + 1, none⟩ = some (.slice A106_1 ((rd_T45 l0_1 (ji35)).f1).length c106_1) ∧ w'.cell? (ad106.add (((ji38)).toNat * 2)) = some (.int .i64 ((rd_T45 l0_1 (ji38)).f0)) ∧ w'.cell? ⟨(ad106.add (((ji38)).toNat * 2)).block, (ad106.add (((ji38)).toNat * 2)).off + 1, none⟩ = some (.slice A107_1 ((rd_T45 l0_1 (ji38)).f1).length c107_1)) (ds := []) #[false, false, false, false, false, false, false, false, false, false, false, false, false, false, false] (by kernel_rfl) rfl rfl ⟨(blk_cell BK102.out 0).trans rfl, (blk_cell BK102.out 1).trans rfl, ((HB.out.cell (World.block_lt_of_cell? w _ hw106_0)).trans hw106_0), ((HB.out.cell (World.block_lt_of_cell? w _ hw106_1)).trans hw106_1), ((HB.out.cell (World.block_lt_of_cell? w _ hw107_0)).trans hw107_0), ((HB.out.cell (World.block_lt_of_cell? w _ hw107_1)).trans hw107_1)⟩ (fun hHeld => ?_); refine with_tabW wageofficelaw42_DiskIndep2.tab6 wageofficelaw42_DiskIndep2.bits6 (fun HT_ HW_ => ?_)
                      generalize wc.drew = w43 at BK102 HB HR106_1 HR107_1 hx106_0 hx106_1 hx107_0 hx107_1 hHeld ⊢
                      refine pure_ (i := 0) (N := some 47) (v := ?_) (a' := ?_) #[true, false, false, false, false, false, false, false, false, false, false, false, false, false, false] rfl rfl (any_of HT_.out (by kernel_rfl)) (fun _ _ _ h => h) (Or.inl ⟨by rfl, ?_⟩) ?_ ?_
                      rotate_left
                      · intro w'
                        go_simp
                        with_reducible rfl
                      rotate_left
                      · simp only [Act.put, List.setIfInBounds_toArray, List.set_cons_zero, List.set_cons_succ, i64_w, i32_w]
                        rfl
                      refine pure_ (i := 2) (N := some 49) (v := ?_) (a' := ?_) #[true, false, true, false, false, false, false, false, false, false, false, false, false, false, false] rfl rfl (any_of HT_.out (by kernel_rfl)) (fun _ _ _ h => h) (Or.inl ⟨by rfl, ?_⟩) ?_ ?_
                      rotate_left
                      · intro w'
                        go_simp
                        with_reducible rfl
                      rotate_left
                      · simp only [Act.put, List.setIfInBounds_toArray, List.set_cons_zero, List.set_cons_succ, i64_w, i32_w]
                        rfl
                      refine pure_ (i := 5) (N := some 52) (v := ?_) (a' := ?_) #[true, false, true, false, false, true, false, false, false, false, false, false, false, false, false] rfl rfl (any_of HT_.out (by kernel_rfl)) (fun _ _ _ h => h) (Or.inl ⟨by rfl, ?_⟩) ?_ ?_
                      rotate_left
                      · intro w'
                        go_simp
                        with_reducible rfl
                      rotate_left
                      · simp only [Act.put, List.setIfInBounds_toArray, List.set_cons_zero, List.set_cons_succ, i64_w, i32_w]
                        rfl
                      refine pure_ (i := 7) (N := some 54) (v := ?_) (a' := ?_) #[true, false, true, false, false, true, false, true, false, false, false, false, false, false, false] rfl rfl (any_of HT_.out (by kernel_rfl)) (fun _ _ _ h => h) (Or.inl ⟨by rfl, ?_⟩) ?_ ?_
                      rotate_left
                      · intro w'
                        go_simp
                        with_reducible rfl
                      rotate_left
                      · simp only [Act.put, List.setIfInBounds_toArray, List.set_cons_zero, List.set_cons_succ, i64_w, i32_w]
                        rfl
                      refine pure_ (i := 8) (N := some 55) (v := ?_) (a' := ?_) #[true, false, true, false, false, true, false, true, true, false, false, false, false, false, false] rfl rfl (any_of HT_.out (by kernel_rfl)) (fun _ _ _ h => h) (Or.inl ⟨by rfl, ?_⟩) ?_ ?_
                      rotate_left
                      · intro w'
                        go_simp
                        with_reducible rfl
                      rotate_left
                      · simp only [Act.put, List.setIfInBounds_toArray, List.set_cons_zero, List.set_cons_succ, i64_w, i32_w]
                        rfl
                      refine take_ (i := 1) (N := some 48) (v := ?_) (a' := ?_) #[true, true, true, false, false, true, false, true, true, false, false, false, false, false, false] rfl rfl (take_ofW HT_.out HW_.out (by kernel_rfl)) (fun _ _ _ h => h) (Or.inl ⟨by rfl, ?_⟩) hHeld ?_ ?_
                      rotate_left
                      · rintro w' ⟨s0, s1, s2, s3, s4, s5⟩
                        go_simp
                        with_reducible rfl
                      rotate_left
                      · simp only [Act.put, List.setIfInBounds_toArray, List.set_cons_zero, List.set_cons_succ, i64_w, i32_w]
                        rfl
                      refine pure_ (i := 3) (N := some 50) (v := ?_) (a' := ?_) #[true, true, true, true, false, true, false, true, true, false, false, false, false, false, false] rfl rfl (any_of HT_.out (by kernel_rfl)) (fun _ _ _ h => h) (Or.inl ⟨by rfl, ?_⟩) ?_ ?_
                      rotate_left
                      · intro w'
                        go_simp
                        with_reducible rfl
                      rotate_left
                      · simp only [Act.put, List.setIfInBounds_toArray, List.set_cons_zero, List.set_cons_succ, i64_w, i32_w]
                        rfl
                      refine take_ (i := 4) (N := some 51) (v := ?_) (a' := ?_) #[true, true, true, true, true, true, false, true, true, false, false, false, false, false, false] rfl rfl (take_ofW HT_.out HW_.out (by kernel_rfl)) (fun _ _ _ h => h) (Or.inl ⟨by rfl, ?_⟩) hHeld ?_ ?_
                      rotate_left
                      · rintro w' ⟨s0, s1, s2, s3, s4, s5⟩
                        go_simp
                        with_reducible rfl
                      rotate_left
                      · simp only [Act.put, List.setIfInBounds_toArray, List.set_cons_zero, List.set_cons_succ, i64_w, i32_w]
                        rfl
                      refine take_ (i := 6) (N := some 53) (v := ?_) (a' := ?_) #[true, true, true, true, true, true, true, true, true, false, false, false, false, false, false] rfl rfl (take_ofW HT_.out HW_.out (by kernel_rfl)) (fun _ _ _ h => h) (Or.inl ⟨by rfl, ?_⟩) hHeld ?_ ?_
                      rotate_left
                      · rintro w' ⟨s0, s1, s2, s3, s4, s5⟩
                        go_simp
                        with_reducible rfl
                      rotate_left
                      · simp only [Act.put, List.setIfInBounds_toArray, List.set_cons_zero, List.set_cons_succ, i64_w, i32_w]
                        rfl
                      refine pure_ (i := 9) (N := some 56) (v := ?_) (a' := ?_) #[true, true, true, true, true, true, true, true, true, true, false, false, false, false, false] rfl rfl (any_of HT_.out (by kernel_rfl)) (fun _ _ _ h => h) (Or.inl ⟨by rfl, ?_⟩) ?_ ?_
                      rotate_left
                      · intro w'
                        go_simp
                        with_reducible rfl
                      rotate_left
                      · simp only [Act.put, List.setIfInBounds_toArray, List.set_cons_zero, List.set_cons_succ, i64_w, i32_w]
                        rfl
                      refine take_ (i := 10) (N := some 57) (v := ?_) (a' := ?_) #[true, true, true, true, true, true, true, true, true, true, true, false, false, false, false] rfl rfl (take_ofW HT_.out HW_.out (by kernel_rfl)) (fun _ _ _ h => h) (Or.inl ⟨by rfl, ?_⟩) hHeld ?_ ?_
                      rotate_left
                      · rintro w' ⟨s0, s1, s2, s3, s4, s5⟩
                        go_simp
                        with_reducible rfl
                      rotate_left
                      · simp only [Act.put, List.setIfInBounds_toArray, List.set_cons_zero, List.set_cons_succ, i64_w, i32_w]
                        rfl
                      refine join_ (σ := Nat × Nat) 2 #[true, true, true, true, true, true, true, true, true, true, true, true, true, false, false] (fun s_ => [(10, .pointer (some ⟨s_.1, 0, none⟩)), (11, .pointer (some ⟨s_.2, 0, none⟩))]) (fun s_ w' => (w'.cell? ⟨gb102, 0, none⟩ = some (.slice A0_0 l0_0.length c0_0) ∧ w'.cell? ⟨gb102, 1, none⟩ = some (.slice (some ad106) l0_1.length c0_1) ∧ w'.cell? (ad106.add (((ji35)).toNat * 2)) = some (.int .i64 ((rd_T45 l0_1 (ji35)).f0)) ∧ w'.cell? ⟨(ad106.add (((ji35)).toNat * 2)).block, (ad106.add (((ji35)).toNat * 2)).off + 1, none⟩ = some (.slice A106_1 ((rd_T45 l0_1 (ji35)).f1).length c106_1) ∧ w'.cell? (ad106.add (((ji38)).toNat * 2)) = some (.int .i64 ((rd_T45 l0_1 (ji38)).f0)) ∧ w'.cell? ⟨(ad106.add (((ji38)).toNat * 2)).block, (ad106.add (((ji38)).toNat * 2)).off + 1, none⟩ = some (.slice A107_1 ((rd_T45 l0_1 (ji38)).f1).length c107_1)) ∧ (w'.heap[gb102]? = some (.cells #[.slice A0_0 l0_0.length c0_0, .slice (some ad106) l0_1.length c0_1] 25 (0, 0))) ∧ (w'.heap[s_.1]? = some (.cells #[.int .i64 0, .slice none 0 0] 45 (0, 0))) ∧ (w'.heap[s_.2]? = some (.cells #[.int .i64 0, .slice none 0 0] 45 (0, 0))) ∧ (w.heap.size ≤ s_.1) ∧ (w.heap.size ≤ s_.1) ∧ (gb102 ≠ s_.1) ∧ (s_.1 ≠ gb102) ∧ (s_.2 ≠ s_.1) ∧ (s_.1 ≠ s_.2) ∧ (w.heap.size ≤ s_.2) ∧ (w.heap.size ≤ s_.2) ∧ (gb102 ≠ s_.2) ∧ (s_.2 ≠ gb102) ∧ (Below w.heap.size w w')) ?_ ?_
                      rotate_left
                      · intro hCont
                        refine two_ (i := 11) (j := 12) (Ni := some 10) (Nj := some 11) #[true, true, true, true, true, true, true, true, true, true, true, true, false, false, false] #[true, true, true, true, true, true, true, true, true, true, true, false, true, false, false] rfl rfl rfl rfl (two_of HT_.out (by kernel_rfl)) (by decide) (by decide) (fun K hK => ?_) (fun K hK => ?_)
                        · skip
                          refine box_step ?hg (N := 10) ?hd (cs := #[.int .i64 0, .slice none 0 0]) (t := 45) ?hr ?_; (case hd => rfl); (case hg => rfl); (case hr => first | (go_simp; done) | (go_simp; rfl))
                          intro gb108 hg w44 hbox hb
                          have n0_ := Aside0.mk (blk_below (g := gb102) (o := .cells #[.slice A0_0 l0_0.length c0_0, .slice (some ad106) l0_1.length c0_1] 25 (0, 0)) (by (with_reducible repeat (first | refine blk_drewN ?_ _ | refine blk_drew ?_ | refine blk_alloc ?_ _)); exact BK102.out) hb)
                          have n1_ := Aside0.mk (below_step (by repeat (first | (with_reducible first | exact HB.out | apply below_alloc | apply pw_below_drewN | apply below_drew1 | refine below_set ?_ GE102.out) | exact HB.out)) hb)
                          have n2_ := Aside0.mk (hbox)
                          have n3_ := Aside0.mk ((by rw [hg]; exact (below_size (by repeat (first | (with_reducible first | exact HB.out | apply below_alloc | apply pw_below_drewN | apply below_drew1 | refine below_set ?_ GE102.out) | exact HB.out))) : w.heap.size ≤ gb108))
                          have n4_ := Aside0.mk ((by rw [hg]; exact (below_size (by repeat (first | (with_reducible first | exact HB.out | apply below_alloc | apply pw_below_drewN | apply below_drew1 | refine below_set ?_ GE102.out) | exact HB.out))) : w.heap.size ≤ gb108))
                          have n5_ := Aside0.mk ((by rw [hg]; exact Nat.ne_of_lt (blk_lt (g := gb102) (o := .cells #[.slice A0_0 l0_0.length c0_0, .slice (some ad106) l0_1.length c0_1] 25 (0, 0)) (by (with_reducible repeat (first | refine blk_drewN ?_ _ | refine blk_drew ?_ | refine blk_alloc ?_ _)); exact BK102.out)) : gb102 ≠ gb108))
                          have n6_ := Aside0.mk ((by rw [hg]; exact Nat.ne_of_gt (blk_lt (g := gb102) (o := .cells #[.slice A0_0 l0_0.length c0_0, .slice (some ad106) l0_1.length c0_1] 25 (0, 0)) (by (with_reducible repeat (first | refine blk_drewN ?_ _ | refine blk_drew ?_ | refine blk_alloc ?_ _)); exact BK102.out)) : gb108 ≠ gb102))
                          clear BK102
                          clear HB
                          have BK102 := n0_
                          have HB := n1_
                          have BK108 := n2_
                          have GW108 := n3_
                          have GE108 := n4_
                          have NB102_108 := n5_
                          have NB108_102 := n6_
                          clear n0_ n1_ n2_ n3_ n4_ n5_ n6_
                          clear hb hbox hg
                          refine hK.out _ _ ⟨(blk_cell BK102.out 0).trans rfl, (blk_cell BK102.out 1).trans rfl, ((HB.out.cell (World.block_lt_of_cell? w _ hw106_0)).trans hw106_0), ((HB.out.cell (World.block_lt_of_cell? w _ hw106_1)).trans hw106_1), ((HB.out.cell (World.block_lt_of_cell? w _ hw107_0)).trans hw107_0), ((HB.out.cell (World.block_lt_of_cell? w _ hw107_1)).trans hw107_1)⟩ (fun hHeld => ?_)
                          clear hK K
                          refine norm_ (a' := ?_) ?_ ?_
                          rotate_left
                          · show Act.put _ (some 10) _ = _
                            simp only [Act.put, List.setIfInBounds_toArray, List.set_cons_zero, List.set_cons_succ, i64_w, i32_w]
                            rfl
                          refine one_ (i := 12) (N := some 11) #[true, true, true, true, true, true, true, true, true, true, true, true, true, false, false] rfl rfl (one_of HT_.out (by kernel_rfl)) (by decide) (fun K hK => ?_)
                          refine box_step ?hg (N := 11) ?hd (cs := #[.int .i64 0, .slice none 0 0]) (t := 45) ?hr ?_; (case hd => rfl); (case hg => rfl); (case hr => first | (go_simp; done) | (go_simp; rfl))
                          intro gb109 hg w45 hbox hb
                          have n0_ := Aside0.mk (blk_below (g := gb102) (o := .cells #[.slice A0_0 l0_0.length c0_0, .slice (some ad106) l0_1.length c0_1] 25 (0, 0)) (by (with_reducible repeat (first | refine blk_drewN ?_ _ | refine blk_drew ?_ | refine blk_alloc ?_ _)); exact BK102.out) hb)
                          have n1_ := Aside0.mk (blk_below (g := gb108) (o := .cells #[.int .i64 0, .slice none 0 0] 45 (0, 0)) (by (with_reducible repeat (first | refine blk_drewN ?_ _ | refine blk_drew ?_ | refine blk_alloc ?_ _)); exact BK108.out) hb)
                          have n2_ := Aside0.mk (below_step (by repeat (first | (with_reducible first | exact HB.out | apply below_alloc | apply pw_below_drewN | apply below_drew1 | refine below_set ?_ GE102.out | refine below_set ?_ GE108.out) | exact HB.out)) hb)
                          have n3_ := Aside0.mk (hbox)
                          have n4_ := Aside0.mk ((by rw [hg]; exact (below_size (by repeat (first | (with_reducible first | exact HB.out | apply below_alloc | apply pw_below_drewN | apply below_drew1 | refine below_set ?_ GE102.out | refine below_set ?_ GE108.out) | exact HB.out))) : w.heap.size ≤ gb109))
                          have n5_ := Aside0.mk ((by rw [hg]; exact (below_size (by repeat (first | (with_reducible first | exact HB.out | apply below_alloc | apply pw_below_drewN | apply below_drew1 | refine below_set ?_ GE102.out | refine below_set ?_ GE108.out) | exact HB.out))) : w.heap.size ≤ gb109))
                          have n6_ := Aside0.mk ((by rw [hg]; exact Nat.ne_of_lt (blk_lt (g := gb102) (o := .cells #[.slice A0_0 l0_0.length c0_0, .slice (some ad106) l0_1.length c0_1] 25 (0, 0)) (by (with_reducible repeat (first | refine blk_drewN ?_ _ | refine blk_drew ?_ | refine blk_alloc ?_ _)); exact BK102.out)) : gb102 ≠ gb109))
                          have n7_ := Aside0.mk ((by rw [hg]; exact Nat.ne_of_gt (blk_lt (g := gb102) (o := .cells #[.slice A0_0 l0_0.length c0_0, .slice (some ad106) l0_1.length c0_1] 25 (0, 0)) (by (with_reducible repeat (first | refine blk_drewN ?_ _ | refine blk_drew ?_ | refine blk_alloc ?_ _)); exact BK102.out)) : gb109 ≠ gb102))
                          have n8_ := Aside0.mk ((by rw [hg]; exact Nat.ne_of_lt (blk_lt (g := gb108) (o := .cells #[.int .i64 0, .slice none 0 0] 45 (0, 0)) (by (with_reducible repeat (first | refine blk_drewN ?_ _ | refine blk_drew ?_ | refine blk_alloc ?_ _)); exact BK108.out)) : gb108 ≠ gb109))
                          have n9_ := Aside0.mk ((by rw [hg]; exact Nat.ne_of_gt (blk_lt (g := gb108) (o := .cells #[.int .i64 0, .slice none 0 0] 45 (0, 0)) (by (with_reducible repeat (first | refine blk_drewN ?_ _ | refine blk_drew ?_ | refine blk_alloc ?_ _)); exact BK108.out)) : gb109 ≠ gb108))
                          clear BK102
                          clear BK108
                          clear HB
                          have BK102 := n0_
                          have BK108 := n1_
                          have HB := n2_
                          have BK109 := n3_
                          have GW109 := n4_
                          have GE109 := n5_
                          have NB102_109 := n6_
                          have NB109_102 := n7_
                          have NB108_109 := n8_
                          have NB109_108 := n9_
                          clear n0_ n1_ n2_ n3_ n4_ n5_ n6_ n7_ n8_ n9_
                          clear hb hbox hg
                          refine hK.out _ _ ⟨(blk_cell BK102.out 0).trans rfl, (blk_cell BK102.out 1).trans rfl, ((HB.out.cell (World.block_lt_of_cell? w _ hw106_0)).trans hw106_0), ((HB.out.cell (World.block_lt_of_cell? w _ hw106_1)).trans hw106_1), ((HB.out.cell (World.block_lt_of_cell? w _ hw107_0)).trans hw107_0), ((HB.out.cell (World.block_lt_of_cell? w _ hw107_1)).trans hw107_1)⟩ (fun hHeld => ?_)
                          clear hK K
                          refine norm_ (a' := ?_) ?_ ?_
                          rotate_left
                          · show Act.put _ (some 11) _ = _
                            simp only [Act.put, List.setIfInBounds_toArray, List.set_cons_zero, List.set_cons_succ, i64_w, i32_w]
                            rfl
                          exact norm_ (by simp only [putAll, Act.put, List.setIfInBounds_toArray, List.set_cons_zero, List.set_cons_succ]) (hCont (gb108, gb109) _ ⟨hHeld, (by (with_reducible repeat (first | refine blk_drewN ?_ _ | refine blk_drew ?_ | refine blk_alloc ?_ _)); exact BK102.out), (by (with_reducible repeat (first | refine blk_drewN ?_ _ | refine blk_drew ?_ | refine blk_alloc ?_ _)); exact BK108.out), (by (with_reducible repeat (first | refine blk_drewN ?_ _ | refine blk_drew ?_ | refine blk_alloc ?_ _)); exact BK109.out), GW108.out, GE108.out, NB102_108.out, NB108_102.out, NB109_108.out, NB108_109.out, GW109.out, GE109.out, NB102_109.out, NB109_102.out, (by repeat (first | (with_reducible first | exact HB.out | apply below_alloc | apply pw_below_drewN | apply below_drew1 | refine below_set ?_ GE102.out | refine below_set ?_ GE108.out | refine below_set ?_ GE109.out) | exact HB.out))⟩)
                        · skip
                          refine box_step ?hg (N := 11) ?hd (cs := #[.int .i64 0, .slice none 0 0]) (t := 45) ?hr ?_; (case hd => rfl); (case hg => rfl); (case hr => first | (go_simp; done) | (go_simp; rfl))
                          intro gb109 hg w44 hbox hb
                          have n0_ := Aside0.mk (blk_below (g := gb102) (o := .cells #[.slice A0_0 l0_0.length c0_0, .slice (some ad106) l0_1.length c0_1] 25 (0, 0)) (by (with_reducible repeat (first | refine blk_drewN ?_ _ | refine blk_drew ?_ | refine blk_alloc ?_ _)); exact BK102.out) hb)
                          have n1_ := Aside0.mk (below_step (by repeat (first | (with_reducible first | exact HB.out | apply below_alloc | apply pw_below_drewN | apply below_drew1 | refine below_set ?_ GE102.out) | exact HB.out)) hb)
                          have n2_ := Aside0.mk (hbox)
                          have n3_ := Aside0.mk ((by rw [hg]; exact (below_size (by repeat (first | (with_reducible first | exact HB.out | apply below_alloc | apply pw_below_drewN | apply below_drew1 | refine below_set ?_ GE102.out) | exact HB.out))) : w.heap.size ≤ gb109))
                          have n4_ := Aside0.mk ((by rw [hg]; exact (below_size (by repeat (first | (with_reducible first | exact HB.out | apply below_alloc | apply pw_below_drewN | apply below_drew1 | refine below_set ?_ GE102.out) | exact HB.out))) : w.heap.size ≤ gb109))
                          have n5_ := Aside0.mk ((by rw [hg]; exact Nat.ne_of_lt (blk_lt (g := gb102) (o := .cells #[.slice A0_0 l0_0.length c0_0, .slice (some ad106) l0_1.length c0_1] 25 (0, 0)) (by (with_reducible repeat (first | refine blk_drewN ?_ _ | refine blk_drew ?_ | refine blk_alloc ?_ _)); exact BK102.out)) : gb102 ≠ gb109))
                          have n6_ := Aside0.mk ((by rw [hg]; exact Nat.ne_of_gt (blk_lt (g := gb102) (o := .cells #[.slice A0_0 l0_0.length c0_0, .slice (some ad106) l0_1.length c0_1] 25 (0, 0)) (by (with_reducible repeat (first | refine blk_drewN ?_ _ | refine blk_drew ?_ | refine blk_alloc ?_ _)); exact BK102.out)) : gb109 ≠ gb102))
                          clear BK102
                          clear HB
                          have BK102 := n0_
                          have HB := n1_
                          have BK109 := n2_
                          have GW109 := n3_
                          have GE109 := n4_
                          have NB102_109 := n5_
                          have NB109_102 := n6_
                          clear n0_ n1_ n2_ n3_ n4_ n5_ n6_
                          clear hb hbox hg
                          refine hK.out _ _ ⟨(blk_cell BK102.out 0).trans rfl, (blk_cell BK102.out 1).trans rfl, ((HB.out.cell (World.block_lt_of_cell? w _ hw106_0)).trans hw106_0), ((HB.out.cell (World.block_lt_of_cell? w _ hw106_1)).trans hw106_1), ((HB.out.cell (World.block_lt_of_cell? w _ hw107_0)).trans hw107_0), ((HB.out.cell (World.block_lt_of_cell? w _ hw107_1)).trans hw107_1)⟩ (fun hHeld => ?_)
                          clear hK K
                          refine norm_ (a' := ?_) ?_ ?_
                          rotate_left
                          · show Act.put _ (some 11) _ = _
                            simp only [Act.put, List.setIfInBounds_toArray, List.set_cons_zero, List.set_cons_succ, i64_w, i32_w]
                            rfl
                          refine one_ (i := 11) (N := some 10) #[true, true, true, true, true, true, true, true, true, true, true, true, true, false, false] rfl rfl (one_of HT_.out (by kernel_rfl)) (by decide) (fun K hK => ?_)
                          refine box_step ?hg (N := 10) ?hd (cs := #[.int .i64 0, .slice none 0 0]) (t := 45) ?hr ?_; (case hd => rfl); (case hg => rfl); (case hr => first | (go_simp; done) | (go_simp; rfl))
                          intro gb108 hg w45 hbox hb
                          have n0_ := Aside0.mk (blk_below (g := gb102) (o := .cells #[.slice A0_0 l0_0.length c0_0, .slice (some ad106) l0_1.length c0_1] 25 (0, 0)) (by (with_reducible repeat (first | refine blk_drewN ?_ _ | refine blk_drew ?_ | refine blk_alloc ?_ _)); exact BK102.out) hb)
                          have n1_ := Aside0.mk (blk_below (g := gb109) (o := .cells #[.int .i64 0, .slice none 0 0] 45 (0, 0)) (by (with_reducible repeat (first | refine blk_drewN ?_ _ | refine blk_drew ?_ | refine blk_alloc ?_ _)); exact BK109.out) hb)
                          have n2_ := Aside0.mk (below_step (by repeat (first | (with_reducible first | exact HB.out | apply below_alloc | apply pw_below_drewN | apply below_drew1 | refine below_set ?_ GE102.out | refine below_set ?_ GE109.out) | exact HB.out)) hb)
                          have n3_ := Aside0.mk (hbox)
                          have n4_ := Aside0.mk ((by rw [hg]; exact (below_size (by repeat (first | (with_reducible first | exact HB.out | apply below_alloc | apply pw_below_drewN | apply below_drew1 | refine below_set ?_ GE102.out | refine below_set ?_ GE109.out) | exact HB.out))) : w.heap.size ≤ gb108))
                          have n5_ := Aside0.mk ((by rw [hg]; exact (below_size (by repeat (first | (with_reducible first | exact HB.out | apply below_alloc | apply pw_below_drewN | apply below_drew1 | refine below_set ?_ GE102.out | refine below_set ?_ GE109.out) | exact HB.out))) : w.heap.size ≤ gb108))
                          have n6_ := Aside0.mk ((by rw [hg]; exact Nat.ne_of_lt (blk_lt (g := gb102) (o := .cells #[.slice A0_0 l0_0.length c0_0, .slice (some ad106) l0_1.length c0_1] 25 (0, 0)) (by (with_reducible repeat (first | refine blk_drewN ?_ _ | refine blk_drew ?_ | refine blk_alloc ?_ _)); exact BK102.out)) : gb102 ≠ gb108))
                          have n7_ := Aside0.mk ((by rw [hg]; exact Nat.ne_of_gt (blk_lt (g := gb102) (o := .cells #[.slice A0_0 l0_0.length c0_0, .slice (some ad106) l0_1.length c0_1] 25 (0, 0)) (by (with_reducible repeat (first | refine blk_drewN ?_ _ | refine blk_drew ?_ | refine blk_alloc ?_ _)); exact BK102.out)) : gb108 ≠ gb102))
                          have n8_ := Aside0.mk ((by rw [hg]; exact Nat.ne_of_lt (blk_lt (g := gb109) (o := .cells #[.int .i64 0, .slice none 0 0] 45 (0, 0)) (by (with_reducible repeat (first | refine blk_drewN ?_ _ | refine blk_drew ?_ | refine blk_alloc ?_ _)); exact BK109.out)) : gb109 ≠ gb108))
                          have n9_ := Aside0.mk ((by rw [hg]; exact Nat.ne_of_gt (blk_lt (g := gb109) (o := .cells #[.int .i64 0, .slice none 0 0] 45 (0, 0)) (by (with_reducible repeat (first | refine blk_drewN ?_ _ | refine blk_drew ?_ | refine blk_alloc ?_ _)); exact BK109.out)) : gb108 ≠ gb109))
                          clear BK102
                          clear BK109
                          clear HB
                          have BK102 := n0_
                          have BK109 := n1_
                          have HB := n2_
                          have BK108 := n3_
                          have GW108 := n4_
                          have GE108 := n5_
                          have NB102_108 := n6_
                          have NB108_102 := n7_
                          have NB109_108 := n8_
                          have NB108_109 := n9_
                          clear n0_ n1_ n2_ n3_ n4_ n5_ n6_ n7_ n8_ n9_
                          clear hb hbox hg
                          refine hK.out _ _ ⟨(blk_cell BK102.out 0).trans rfl, (blk_cell BK102.out 1).trans rfl, ((HB.out.cell (World.block_lt_of_cell? w _ hw106_0)).trans hw106_0), ((HB.out.cell (World.block_lt_of_cell? w _ hw106_1)).trans hw106_1), ((HB.out.cell (World.block_lt_of_cell? w _ hw107_0)).trans hw107_0), ((HB.out.cell (World.block_lt_of_cell? w _ hw107_1)).trans hw107_1)⟩ (fun hHeld => ?_)
                          clear hK K
                          refine norm_ (a' := ?_) ?_ ?_
                          rotate_left
                          · show Act.put _ (some 10) _ = _
                            simp only [Act.put, List.setIfInBounds_toArray, List.set_cons_zero, List.set_cons_succ, i64_w, i32_w]
                            rfl
                          exact norm_ (by simp only [putAll, Act.put, List.setIfInBounds_toArray, List.set_cons_zero, List.set_cons_succ]) (hCont (gb108, gb109) _ ⟨hHeld, (by (with_reducible repeat (first | refine blk_drewN ?_ _ | refine blk_drew ?_ | refine blk_alloc ?_ _)); exact BK102.out), (by (with_reducible repeat (first | refine blk_drewN ?_ _ | refine blk_drew ?_ | refine blk_alloc ?_ _)); exact BK108.out), (by (with_reducible repeat (first | refine blk_drewN ?_ _ | refine blk_drew ?_ | refine blk_alloc ?_ _)); exact BK109.out), GW108.out, GE108.out, NB102_108.out, NB108_102.out, NB109_108.out, NB108_109.out, GW109.out, GE109.out, NB102_109.out, NB109_102.out, (by repeat (first | (with_reducible first | exact HB.out | apply below_alloc | apply pw_below_drewN | apply below_drew1 | refine below_set ?_ GE102.out | refine below_set ?_ GE109.out | refine below_set ?_ GE108.out) | exact HB.out))⟩)
                      rintro ⟨gb108, gb109⟩ w46 ⟨hS_, h0_, h1_, h2_, h3_, h4_, h5_, h6_, h7_, h8_, h9_, h10_, h11_, h12_, h13_⟩
                      have n0_ : Aside0 (w46.heap[gb102]? = some (.cells #[.slice A0_0 l0_0.length c0_0, .slice (some ad106) l0_1.length c0_1] 25 (0, 0))) := ⟨h0_⟩
                      have n1_ : Aside0 (w46.heap[gb108]? = some (.cells #[.int .i64 0, .slice none 0 0] 45 (0, 0))) := ⟨h1_⟩
                      have n2_ : Aside0 (w46.heap[gb109]? = some (.cells #[.int .i64 0, .slice none 0 0] 45 (0, 0))) := ⟨h2_⟩
                      have n3_ : Aside0 (w.heap.size ≤ gb108) := ⟨h3_⟩
                      have n4_ : Aside0 (w.heap.size ≤ gb108) := ⟨h4_⟩
                      have n5_ : Aside0 (gb102 ≠ gb108) := ⟨h5_⟩
                      have n6_ : Aside0 (gb108 ≠ gb102) := ⟨h6_⟩
                      have n7_ : Aside0 (gb109 ≠ gb108) := ⟨h7_⟩
                      have n8_ : Aside0 (gb108 ≠ gb109) := ⟨h8_⟩
                      have n9_ : Aside0 (w.heap.size ≤ gb109) := ⟨h9_⟩
                      have n10_ : Aside0 (w.heap.size ≤ gb109) := ⟨h10_⟩
                      have n11_ : Aside0 (gb102 ≠ gb109) := ⟨h11_⟩
                      have n12_ : Aside0 (gb109 ≠ gb102) := ⟨h12_⟩
                      have n13_ : Aside0 (Below w.heap.size w w46) := ⟨h13_⟩
                      clear BK102
                      clear HB
                      clear h0_ h1_ h2_ h3_ h4_ h5_ h6_ h7_ h8_ h9_ h10_ h11_ h12_ h13_
                      have BK102 := n0_
                      have BK108 := n1_
                      have BK109 := n2_
                      have GW108 := n3_
                      have GE108 := n4_
                      have NB102_108 := n5_
                      have NB108_102 := n6_
                      have NB109_108 := n7_
                      have NB108_109 := n8_
                      have GW109 := n9_
                      have GE109 := n10_
                      have NB102_109 := n11_
                      have NB109_102 := n12_
                      have HB := n13_
                      clear n0_ n1_ n2_ n3_ n4_ n5_ n6_ n7_ n8_ n9_ n10_ n11_ n12_ n13_
                      have hHeld : w46.cell? ⟨gb102, 0, none⟩ = some (.slice A0_0 l0_0.length c0_0) ∧ w46.cell? ⟨gb102, 1, none⟩ = some (.slice (some ad106) l0_1.length c0_1) ∧ w46.cell? (ad106.add (((ji35)).toNat * 2)) = some (.int .i64 ((rd_T45 l0_1 (ji35)).f0)) ∧ w46.cell? ⟨(ad106.add (((ji35)).toNat * 2)).block, (ad106.add (((ji35)).toNat * 2)).off + 1, none⟩ = some (.slice A106_1 ((rd_T45 l0_1 (ji35)).f1).length c106_1) ∧ w46.cell? (ad106.add (((ji38)).toNat * 2)) = some (.int .i64 ((rd_T45 l0_1 (ji38)).f0)) ∧ w46.cell? ⟨(ad106.add (((ji38)).toNat * 2)).block, (ad106.add (((ji38)).toNat * 2)).off + 1, none⟩ = some (.slice A107_1 ((rd_T45 l0_1 (ji38)).f1).length c107_1) := hS_
                      refine norm_ (a' := ?_) ?_ ?_
                      rotate_left
                      · simp only [putAll, Act.put, List.setIfInBounds_toArray, List.set_cons_zero, List.set_cons_succ]
                        rfl
                      refine one_ (i := 13) (N := none) #[true, true, true, true, true, true, true, true, true, true, true, true, true, true, false] rfl rfl (one_of HT_.out (by kernel_rfl)) (by decide) (fun K hK => ?_)
                      have hs47 : w46.cell? ⟨gb108, 0, none⟩ = some (.int .i64 0) := (blk_cell BK108.out 0).trans rfl
                      have hfs47 := blk_frozen BK108.out 0
                      have hns47_0 := NB102_108.out
                      have hns47_2 := NB109_108.out
                      have hms47_0 := NB108_102.out
                      have hms47_2 := NB108_109.out
                      have hs48 : w46.cell? ⟨gb108, 1, none⟩ = some (.slice none 0 0) := (blk_cell BK108.out 1).trans rfl
                      have hfs48 := blk_frozen BK108.out 1
                      have hns48_0 := NB102_108.out
                      have hns48_2 := NB109_108.out
                      have hms48_0 := NB108_102.out
                      have hms48_2 := NB108_109.out
                      refine skip_ (w1 := ?_) (by rfl) rfl ?_ ?_
                      rotate_left
                      · go_simp
                        rfl
                      refine hK.out _ _ ⟨((cell_far (p := ⟨gb108, _, none⟩) NB102_108.out _).trans (((cell_far (p := ⟨gb108, _, none⟩) NB102_108.out _).trans (hHeld.1)))), ((cell_far (p := ⟨gb108, _, none⟩) NB102_108.out _).trans (((cell_far (p := ⟨gb108, _, none⟩) NB102_108.out _).trans (hHeld.2.1)))), ((cell_far (p := ⟨gb108, _, none⟩) (by first | exact Nat.ne_of_lt (Nat.lt_of_lt_of_le (by have := World.block_lt_of_cell? _ _ hw106_0; first | rwa [add_block] at this | exact this) GW108.out) | (rw [add_block]; exact Nat.ne_of_lt (Nat.lt_of_lt_of_le (by have := World.block_lt_of_cell? _ _ hw106_0; first | rwa [add_block] at this | exact this) GW108.out)) | (show (Addr.add _ _).block ≠ _; rw [add_block]; exact Nat.ne_of_lt (Nat.lt_of_lt_of_le (by have := World.block_lt_of_cell? _ _ hw106_0; first | rwa [add_block] at this | exact this) GW108.out)) | (dsimp only; exact Nat.ne_of_lt (Nat.lt_of_lt_of_le (by have := World.block_lt_of_cell? _ _ hw106_0; first | rwa [add_block] at this | exact this) GW108.out))) _).trans (((cell_far (p := ⟨gb108, _, none⟩) (by first | exact Nat.ne_of_lt (Nat.lt_of_lt_of_le (by have := World.block_lt_of_cell? _ _ hw106_0; first | rwa [add_block] at this | exact this) GW108.out) | (rw [add_block]; exact Nat.ne_of_lt (Nat.lt_of_lt_of_le (by have := World.block_lt_of_cell? _ _ hw106_0; first | rwa [add_block] at this | exact this) GW108.out)) | (show (Addr.add _ _).block ≠ _; rw [add_block]; exact Nat.ne_of_lt (Nat.lt_of_lt_of_le (by have := World.block_lt_of_cell? _ _ hw106_0; first | rwa [add_block] at this | exact this) GW108.out)) | (dsimp only; exact Nat.ne_of_lt (Nat.lt_of_lt_of_le (by have := World.block_lt_of_cell? _ _ hw106_0; first | rwa [add_block] at this | exact this) GW108.out))) _).trans (hHeld.2.2.1)))), ((cell_far (p := ⟨gb108, _, none⟩) (by first | exact Nat.ne_of_lt (Nat.lt_of_lt_of_le (by have := World.block_lt_of_cell? _ _ hw106_1; first | rwa [add_block] at this | exact this) GW108.out) | (rw [add_block]; exact Nat.ne_of_lt (Nat.lt_of_lt_of_le (by have := World.block_lt_of_cell? _ _ hw106_1; first | rwa [add_block] at this | exact this) GW108.out)) | (show (Addr.add _ _).block ≠ _; rw [add_block]; exact Nat.ne_of_lt (Nat.lt_of_lt_of_le (by have := World.block_lt_of_cell? _ _ hw106_1; first | rwa [add_block] at this | exact this) GW108.out)) | (dsimp only; exact Nat.ne_of_lt (Nat.lt_of_lt_of_le (by have := World.block_lt_of_cell? _ _ hw106_1; first | rwa [add_block] at this | exact this) GW108.out))) _).trans (((cell_far (p := ⟨gb108, _, none⟩) (by first | exact Nat.ne_of_lt (Nat.lt_of_lt_of_le (by have := World.block_lt_of_cell? _ _ hw106_1; first | rwa [add_block] at this | exact this) GW108.out) | (rw [add_block]; exact Nat.ne_of_lt (Nat.lt_of_lt_of_le (by have := World.block_lt_of_cell? _ _ hw106_1; first | rwa [add_block] at this | exact this) GW108.out)) | (show (Addr.add _ _).block ≠ _; rw [add_block]; exact Nat.ne_of_lt (Nat.lt_of_lt_of_le (by have := World.block_lt_of_cell? _ _ hw106_1; first | rwa [add_block] at this | exact this) GW108.out)) | (dsimp only; exact Nat.ne_of_lt (Nat.lt_of_lt_of_le (by have := World.block_lt_of_cell? _ _ hw106_1; first | rwa [add_block] at this | exact this) GW108.out))) _).trans (hHeld.2.2.2.1)))), ((cell_far (p := ⟨gb108, _, none⟩) (by first | exact Nat.ne_of_lt (Nat.lt_of_lt_of_le (by have := World.block_lt_of_cell? _ _ hw107_0; first | rwa [add_block] at this | exact this) GW108.out) | (rw [add_block]; exact Nat.ne_of_lt (Nat.lt_of_lt_of_le (by have := World.block_lt_of_cell? _ _ hw107_0; first | rwa [add_block] at this | exact this) GW108.out)) | (show (Addr.add _ _).block ≠ _; rw [add_block]; exact Nat.ne_of_lt (Nat.lt_of_lt_of_le (by have := World.block_lt_of_cell? _ _ hw107_0; first | rwa [add_block] at this | exact this) GW108.out)) | (dsimp only; exact Nat.ne_of_lt (Nat.lt_of_lt_of_le (by have := World.block_lt_of_cell? _ _ hw107_0; first | rwa [add_block] at this | exact this) GW108.out))) _).trans (((cell_far (p := ⟨gb108, _, none⟩) (by first | exact Nat.ne_of_lt (Nat.lt_of_lt_of_le (by have := World.block_lt_of_cell? _ _ hw107_0; first | rwa [add_block] at this | exact this) GW108.out) | (rw [add_block]; exact Nat.ne_of_lt (Nat.lt_of_lt_of_le (by have := World.block_lt_of_cell? _ _ hw107_0; first | rwa [add_block] at this | exact this) GW108.out)) | (show (Addr.add _ _).block ≠ _; rw [add_block]; exact Nat.ne_of_lt (Nat.lt_of_lt_of_le (by have := World.block_lt_of_cell? _ _ hw107_0; first | rwa [add_block] at this | exact this) GW108.out)) | (dsimp only; exact Nat.ne_of_lt (Nat.lt_of_lt_of_le (by have := World.block_lt_of_cell? _ _ hw107_0; first | rwa [add_block] at this | exact this) GW108.out))) _).trans (hHeld.2.2.2.2.1)))), ((cell_far (p := ⟨gb108, _, none⟩) (by first | exact Nat.ne_of_lt (Nat.lt_of_lt_of_le (by have := World.block_lt_of_cell? _ _ hw107_1; first | rwa [add_block] at this | exact this) GW108.out) | (rw [add_block]; exact Nat.ne_of_lt (Nat.lt_of_lt_of_le (by have := World.block_lt_of_cell? _ _ hw107_1; first | rwa [add_block] at this | exact this) GW108.out)) | (show (Addr.add _ _).block ≠ _; rw [add_block]; exact Nat.ne_of_lt (Nat.lt_of_lt_of_le (by have := World.block_lt_of_cell? _ _ hw107_1; first | rwa [add_block] at this | exact this) GW108.out)) | (dsimp only; exact Nat.ne_of_lt (Nat.lt_of_lt_of_le (by have := World.block_lt_of_cell? _ _ hw107_1; first | rwa [add_block] at this | exact this) GW108.out))) _).trans (((cell_far (p := ⟨gb108, _, none⟩) (by first | exact Nat.ne_of_lt (Nat.lt_of_lt_of_le (by have := World.block_lt_of_cell? _ _ hw107_1; first | rwa [add_block] at this | exact this) GW108.out) | (rw [add_block]; exact Nat.ne_of_lt (Nat.lt_of_lt_of_le (by have := World.block_lt_of_cell? _ _ hw107_1; first | rwa [add_block] at this | exact this) GW108.out)) | (show (Addr.add _ _).block ≠ _; rw [add_block]; exact Nat.ne_of_lt (Nat.lt_of_lt_of_le (by have := World.block_lt_of_cell? _ _ hw107_1; first | rwa [add_block] at this | exact this) GW108.out)) | (dsimp only; exact Nat.ne_of_lt (Nat.lt_of_lt_of_le (by have := World.block_lt_of_cell? _ _ hw107_1; first | rwa [add_block] at this | exact this) GW108.out))) _).trans (hHeld.2.2.2.2.2))))⟩ (fun hHeld => ?_)
                      clear hK K
                      refine one_ (i := 14) (N := none) #[true, true, true, true, true, true, true, true, true, true, true, true, true, true, true] rfl rfl (one_of HT_.out (by kernel_rfl)) (by decide) (fun K hK => ?_)
                      have hs49 : w46.cell? ⟨gb109, 0, none⟩ = some (.int .i64 0) := (blk_cell BK109.out 0).trans rfl
                      have hfs49 := blk_frozen BK109.out 0
                      have hns49_0 := NB102_109.out
                      have hns49_1 := NB108_109.out
                      have hms49_0 := NB109_102.out
                      have hms49_1 := NB109_108.out
                      have hs50 : w46.cell? ⟨gb109, 1, none⟩ = some (.slice none 0 0) := (blk_cell BK109.out 1).trans rfl
                      have hfs50 := blk_frozen BK109.out 1
                      have hns50_0 := NB102_109.out
                      have hns50_1 := NB108_109.out
                      have hms50_0 := NB109_102.out
                      have hms50_1 := NB109_108.out
                      refine skip_ (w1 := ?_) (by rfl) rfl ?_ ?_
                      rotate_left
                      · go_simp
                        rfl
                      refine hK.out _ _ ⟨((cell_far (p := ⟨gb109, _, none⟩) NB102_109.out _).trans (((cell_far (p := ⟨gb109, _, none⟩) NB102_109.out _).trans (hHeld.1)))), ((cell_far (p := ⟨gb109, _, none⟩) NB102_109.out _).trans (((cell_far (p := ⟨gb109, _, none⟩) NB102_109.out _).trans (hHeld.2.1)))), ((cell_far (p := ⟨gb109, _, none⟩) (by first | exact Nat.ne_of_lt (Nat.lt_of_lt_of_le (by have := World.block_lt_of_cell? _ _ hw106_0; first | rwa [add_block] at this | exact this) GW109.out) | (rw [add_block]; exact Nat.ne_of_lt (Nat.lt_of_lt_of_le (by have := World.block_lt_of_cell? _ _ hw106_0; first | rwa [add_block] at this | exact this) GW109.out)) | (show (Addr.add _ _).block ≠ _; rw [add_block]; exact Nat.ne_of_lt (Nat.lt_of_lt_of_le (by have := World.block_lt_of_cell? _ _ hw106_0; first | rwa [add_block] at this | exact this) GW109.out)) | (dsimp only; exact Nat.ne_of_lt (Nat.lt_of_lt_of_le (by have := World.block_lt_of_cell? _ _ hw106_0; first | rwa [add_block] at this | exact this) GW109.out))) _).trans (((cell_far (p := ⟨gb109, _, none⟩) (by first | exact Nat.ne_of_lt (Nat.lt_of_lt_of_le (by have := World.block_lt_of_cell? _ _ hw106_0; first | rwa [add_block] at this | exact this) GW109.out) | (rw [add_block]; exact Nat.ne_of_lt (Nat.lt_of_lt_of_le (by have := World.block_lt_of_cell? _ _ hw106_0; first | rwa [add_block] at this | exact this) GW109.out)) | (show (Addr.add _ _).block ≠ _; rw [add_block]; exact Nat.ne_of_lt (Nat.lt_of_lt_of_le (by have := World.block_lt_of_cell? _ _ hw106_0; first | rwa [add_block] at this | exact this) GW109.out)) | (dsimp only; exact Nat.ne_of_lt (Nat.lt_of_lt_of_le (by have := World.block_lt_of_cell? _ _ hw106_0; first | rwa [add_block] at this | exact this) GW109.out))) _).trans (hHeld.2.2.1)))), ((cell_far (p := ⟨gb109, _, none⟩) (by first | exact Nat.ne_of_lt (Nat.lt_of_lt_of_le (by have := World.block_lt_of_cell? _ _ hw106_1; first | rwa [add_block] at this | exact this) GW109.out) | (rw [add_block]; exact Nat.ne_of_lt (Nat.lt_of_lt_of_le (by have := World.block_lt_of_cell? _ _ hw106_1; first | rwa [add_block] at this | exact this) GW109.out)) | (show (Addr.add _ _).block ≠ _; rw [add_block]; exact Nat.ne_of_lt (Nat.lt_of_lt_of_le (by have := World.block_lt_of_cell? _ _ hw106_1; first | rwa [add_block] at this | exact this) GW109.out)) | (dsimp only; exact Nat.ne_of_lt (Nat.lt_of_lt_of_le (by have := World.block_lt_of_cell? _ _ hw106_1; first | rwa [add_block] at this | exact this) GW109.out))) _).trans (((cell_far (p := ⟨gb109, _, none⟩) (by first | exact Nat.ne_of_lt (Nat.lt_of_lt_of_le (by have := World.block_lt_of_cell? _ _ hw106_1; first | rwa [add_block] at this | exact this) GW109.out) | (rw [add_block]; exact Nat.ne_of_lt (Nat.lt_of_lt_of_le (by have := World.block_lt_of_cell? _ _ hw106_1; first | rwa [add_block] at this | exact this) GW109.out)) | (show (Addr.add _ _).block ≠ _; rw [add_block]; exact Nat.ne_of_lt (Nat.lt_of_lt_of_le (by have := World.block_lt_of_cell? _ _ hw106_1; first | rwa [add_block] at this | exact this) GW109.out)) | (dsimp only; exact Nat.ne_of_lt (Nat.lt_of_lt_of_le (by have := World.block_lt_of_cell? _ _ hw106_1; first | rwa [add_block] at this | exact this) GW109.out))) _).trans (hHeld.2.2.2.1)))), ((cell_far (p := ⟨gb109, _, none⟩) (by first | exact Nat.ne_of_lt (Nat.lt_of_lt_of_le (by have := World.block_lt_of_cell? _ _ hw107_0; first | rwa [add_block] at this | exact this) GW109.out) | (rw [add_block]; exact Nat.ne_of_lt (Nat.lt_of_lt_of_le (by have := World.block_lt_of_cell? _ _ hw107_0; first | rwa [add_block] at this | exact this) GW109.out)) | (show (Addr.add _ _).block ≠ _; rw [add_block]; exact Nat.ne_of_lt (Nat.lt_of_lt_of_le (by have := World.block_lt_of_cell? _ _ hw107_0; first | rwa [add_block] at this | exact this) GW109.out)) | (dsimp only; exact Nat.ne_of_lt (Nat.lt_of_lt_of_le (by have := World.block_lt_of_cell? _ _ hw107_0; first | rwa [add_block] at this | exact this) GW109.out))) _).trans (((cell_far (p := ⟨gb109, _, none⟩) (by first | exact Nat.ne_of_lt (Nat.lt_of_lt_of_le (by have := World.block_lt_of_cell? _ _ hw107_0; first | rwa [add_block] at this | exact this) GW109.out) | (rw [add_block]; exact Nat.ne_of_lt (Nat.lt_of_lt_of_le (by have := World.block_lt_of_cell? _ _ hw107_0; first | rwa [add_block] at this | exact this) GW109.out)) | (show (Addr.add _ _).block ≠ _; rw [add_block]; exact Nat.ne_of_lt (Nat.lt_of_lt_of_le (by have := World.block_lt_of_cell? _ _ hw107_0; first | rwa [add_block] at this | exact this) GW109.out)) | (dsimp only; exact Nat.ne_of_lt (Nat.lt_of_lt_of_le (by have := World.block_lt_of_cell? _ _ hw107_0; first | rwa [add_block] at this | exact this) GW109.out))) _).trans (hHeld.2.2.2.2.1)))), ((cell_far (p := ⟨gb109, _, none⟩) (by first | exact Nat.ne_of_lt (Nat.lt_of_lt_of_le (by have := World.block_lt_of_cell? _ _ hw107_1; first | rwa [add_block] at this | exact this) GW109.out) | (rw [add_block]; exact Nat.ne_of_lt (Nat.lt_of_lt_of_le (by have := World.block_lt_of_cell? _ _ hw107_1; first | rwa [add_block] at this | exact this) GW109.out)) | (show (Addr.add _ _).block ≠ _; rw [add_block]; exact Nat.ne_of_lt (Nat.lt_of_lt_of_le (by have := World.block_lt_of_cell? _ _ hw107_1; first | rwa [add_block] at this | exact this) GW109.out)) | (dsimp only; exact Nat.ne_of_lt (Nat.lt_of_lt_of_le (by have := World.block_lt_of_cell? _ _ hw107_1; first | rwa [add_block] at this | exact this) GW109.out))) _).trans (((cell_far (p := ⟨gb109, _, none⟩) (by first | exact Nat.ne_of_lt (Nat.lt_of_lt_of_le (by have := World.block_lt_of_cell? _ _ hw107_1; first | rwa [add_block] at this | exact this) GW109.out) | (rw [add_block]; exact Nat.ne_of_lt (Nat.lt_of_lt_of_le (by have := World.block_lt_of_cell? _ _ hw107_1; first | rwa [add_block] at this | exact this) GW109.out)) | (show (Addr.add _ _).block ≠ _; rw [add_block]; exact Nat.ne_of_lt (Nat.lt_of_lt_of_le (by have := World.block_lt_of_cell? _ _ hw107_1; first | rwa [add_block] at this | exact this) GW109.out)) | (dsimp only; exact Nat.ne_of_lt (Nat.lt_of_lt_of_le (by have := World.block_lt_of_cell? _ _ hw107_1; first | rwa [add_block] at this | exact this) GW109.out))) _).trans (hHeld.2.2.2.2.2))))⟩ (fun hHeld => ?_)
                      clear hK K
                      refine done_ (done_of HT_.out (by kernel_rfl)) ?_
                      have hnb51 := NB108_102.out
                      have hnc51 := NB102_108.out
                      have hnb52 := NB108_109.out
                      have hnc52 := NB109_108.out
                      have hcz53_0 : w46.cell? ⟨gb108, 0, none⟩ = some (.int .i64 0) := (blk_cell BK108.out 0).trans rfl
                      have hcz53_1 : w46.cell? ⟨gb108, 1, none⟩ = some (.slice none 0 0) := (blk_cell BK108.out 1).trans rfl
                      have hfz53_0 := blk_frozen BK108.out 0
                      have hfz53_1 := blk_frozen BK108.out 1
                      have hnb54 := NB109_102.out
                      have hnc54 := NB102_109.out
                      have hcz55_0 : w46.cell? ⟨gb109, 0, none⟩ = some (.int .i64 0) := (blk_cell BK109.out 0).trans rfl
                      have hcz55_1 : w46.cell? ⟨gb109, 1, none⟩ = some (.slice none 0 0) := (blk_cell BK109.out 1).trans rfl
                      have hfz55_0 := blk_frozen BK109.out 0
                      have hfz55_1 := blk_frozen BK109.out 1
                      obtain rfl : true = t103 := Option.some.inj A4.out
                      obtain ⟨gl0, gn2, gks, gk80, ga0, ga255, gv, gs, gap⟩ := Hgood.out
                      have gn64 := ((validB_iff _ _).1 gv).2.1
                      obtain ⟨i, hi⟩ : ∃ i, i = a2.toNat % (l0_1.length - 1) := ⟨_, rfl⟩
                      rw [← hi] at gap
                      have hmod : i < l0_1.length - 1 := by rw [hi]; exact Nat.mod_lt _ (by omega)
                      have hilt : i + 1 < l0_1.length := by omega
                      have hN : wrap64 ((l0_1.length : Int) - 1) = ((l0_1.length - 1 : Nat) : Int) := by unfold wrap64; omega
                      have ha : wrap64 a2 = ((a2.toNat : Nat) : Int) := by unfold wrap64; omega
                      have hj1 : ji35 = (i : Int) := by rw [← hji35, hN, ha, hi]; exact (Int.ofNat_tmod _ _).symm
                      have hj2 : ji38 = ((i + 1 : Nat) : Int) := by rw [← hji38, hj1]; unfold wrap64; omega
                      have hX : rd_T45 l0_1 ji35 = l0_1.getD i z45 := by rw [hj1]; unfold rd_T45; rw [Int.toNat_natCast]
                      have hY : rd_T45 l0_1 ji38 = l0_1.getD (i + 1) z45 := by rw [hj2]; unfold rd_T45; rw [Int.toNat_natCast]
                      generalize rd_T45 l0_1 ji35 = x at hX HR106_1 HC106_1 ⊢
                      generalize rd_T45 l0_1 ji38 = y at hY HR107_1 HC107_1 ⊢
                      clear hji35 hji38
                      subst hj1
                      subst hj2
                      clear hHeld
                      obtain ⟨w50, hw50⟩ : ∃ W, W = ((((w46.setCell ⟨gb108, 0, none⟩ (.int .i64 x.f0)).setCell ⟨gb108, 1, none⟩ (.slice A106_1 x.f1.length c106_1)).setCell ⟨gb109, 0, none⟩ (.int .i64 y.f0)).setCell ⟨gb109, 1, none⟩ (.slice A107_1 y.f1.length c107_1)) := ⟨_, rfl⟩
                      rw [← hw50]
                      have Ba : Hid (w50.heap[gb108]? = some (.cells #[.int .i64 x.f0, .slice A106_1 x.f1.length c106_1] 45 (0, 0))) := Lib.hid (by rw [hw50]; exact blk_far (blk_far (blk_put (blk_put BK108.out 0 _ rfl) 1 _ rfl) NB108_109.out _) NB108_109.out _)
                      have Bb : Hid (w50.heap[gb109]? = some (.cells #[.int .i64 y.f0, .slice A107_1 y.f1.length c107_1] 45 (0, 0))) := Lib.hid (by rw [hw50]; exact blk_put (blk_put (blk_far (blk_far BK109.out NB109_108.out _) NB109_108.out _) 0 _ rfl) 1 _ rfl)
                      have Bd : Hid (w50.heap[gb102]? = some (.cells #[.slice A0_0 l0_0.length c0_0, .slice (some ad106) l0_1.length c0_1] 25 (0, 0))) := Lib.hid (by rw [hw50]; exact blk_far (blk_far (blk_far (blk_far BK102.out NB102_108.out _) NB102_108.out _) NB102_109.out _) NB102_109.out _)
                      have HB50 : Hid (Below w.heap.size w w50) := Lib.hid (by rw [hw50]; exact (((HB.out.setCell (p := ⟨gb108, 0, none⟩) GE108.out _).setCell (p := ⟨gb108, 1, none⟩) GE108.out _).setCell (p := ⟨gb109, 0, none⟩) GE109.out _).setCell (p := ⟨gb109, 1, none⟩) GE109.out _)
                      clear hw50 BK102 BK108 BK109 HB
                      have k0 := (blk_cell Ba.out 0).trans rfl
                      have k1 := (blk_cell Ba.out 1).trans rfl
                      have k2 := (blk_cell Bb.out 0).trans rfl
                      have k3 := (blk_cell Bb.out 1).trans rfl
                      have hyv := ((validB_iff _ _).1 gv).2.2 y (by rw [hY]; exact getD_mem hilt)
                      have hxv := ((validB_iff _ _).1 gv).2.2 x (by rw [hX]; exact getD_mem (by omega))
                      have hwy : wrap64 (y.f0 + (y.f1.length : Int)) = y.f0 + (y.f1.length : Int) := wrap_id (by omega) (by omega)
                      have hwx : wrap64 (x.f0 + (x.f1.length : Int)) = x.f0 + (x.f1.length : Int) := wrap_id (by omega) (by omega)
                      have gap2 := gap
                      rw [← hX, ← hY] at gap2
                      unfold apart at gap2
                      have hcase : (decide (x.f0 < wrap64 (y.f0 + (y.f1.length : Int))) = false ∧ True) ∨ (decide (x.f0 < wrap64 (y.f0 + (y.f1.length : Int))) = true ∧ decide (y.f0 < wrap64 (x.f0 + (x.f1.length : Int))) = false) := by
                        rw [hwy, hwx]
                        by_cases c : x.f0 < y.f0 + (y.f1.length : Int)
                        · exact .inr ⟨decide_eq_true c, decide_eq_false (by rcases gap2 with h | h <;> omega)⟩
                        · exact .inl ⟨decide_eq_false c, trivial⟩
                      have Gap := Lib.hid gap
                      have Gv := Lib.hid gv
                      have Gs := Lib.hid gs
                      have hu23 := Try.underlying23
                      have hu26 := Try.underlying26
                      obtain ⟨inner, hin, hinl, hcell, _⟩ := C_inner HR0_1.out
                      have Hin := Lib.hid hin
                      have Hinl := Lib.hid hinl
                      have Hcell := Lib.hid (hcell ad106 rfl)
                      obtain ⟨B, hB⟩ : ∃ B, B = w50.heap.size := ⟨_, rfl⟩
                      have ST0 : Hid (St w w50 B gb102 gb108 gb109 #[.slice A0_0 l0_0.length c0_0, .slice (some ad106) l0_1.length c0_1] #[.int .i64 x.f0, .slice A106_1 x.f1.length c106_1] #[.int .i64 y.f0, .slice A107_1 y.f1.length c107_1]) := Lib.hid ⟨Bd.out, Ba.out, Bb.out, HB50.out, Nat.le_of_eq hB, by rw [hB]; exact blk_lt Bd.out, by rw [hB]; exact blk_lt Ba.out, by rw [hB]; exact blk_lt Bb.out, by rw [hB]; exact HB50.out.size⟩
                      have HX := Lib.hid hX
                      have HY := Lib.hid hY
                      clear hX hY gap gap2 gv gs hwy hwx hyv hxv hi ha hN hmod hin hinl hcell hB Bd Ba Bb HB50
                      rcases hcase with ⟨q1, q2⟩ | ⟨q1, q2⟩
                      iterate 2
                        · go_wp2_with (fail)
                          clear k0 k1 k2 k3 q1 q2
                          have ST1 := Lib.hid (ST0.out.below (below_drew (Below.refl _ _)))
                          clear ST0
                          refine start_ (n := 9) (S := fun w' => w'.cell? ⟨gb102, 0, none⟩ = some (.slice A0_0 l0_0.length c0_0) ∧ w'.cell? ⟨gb102, 1, none⟩ = some (.slice (some ad106) l0_1.length c0_1)) (ds := []) #[false, false, false, false, false, false, false, false, false] (by kernel_rfl) rfl rfl ⟨(blk_cell ST1.out.1 0).trans rfl, (blk_cell ST1.out.1 1).trans rfl⟩ ?_
                          intro hHeld
                          refine pure_ (i := 0) (N := some 79) (v := ?_) (a' := ?_) #[true, false, false, false, false, false, false, false, false] rfl rfl (by kernel_rfl) (fun _ _ _ h => h) (Or.inl ⟨by rfl, ?_⟩) ?_ ?_
                          rotate_left
                          · intro w'
                            go_simp
                            try (with_reducible rfl)
                          rotate_left
                          · simp only [Act.put, List.setIfInBounds_toArray, List.set_cons_zero, List.set_cons_succ]
                            rfl
                          refine pure_ (i := 3) (N := some 82) (v := ?_) (a' := ?_) #[true, false, false, true, false, false, false, false, false] rfl rfl (by kernel_rfl) (fun _ _ _ h => h) (Or.inl ⟨by rfl, ?_⟩) ?_ ?_
                          rotate_left
                          · intro w'
                            go_simp
                            try (with_reducible rfl)
                          rotate_left
                          · simp only [Act.put, List.setIfInBounds_toArray, List.set_cons_zero, List.set_cons_succ]
                            rfl
                          refine take_ (i := 1) (N := some 80) (v := ?_) (a' := ?_) #[true, true, false, true, false, false, false, false, false] rfl rfl (by kernel_rfl) (fun _ _ _ h => h) (Or.inl ⟨by rfl, ?_⟩) hHeld ?_ ?_
                          rotate_left
                          · rintro w' ⟨s0, s1⟩
                            go_simp
                            with_reducible rfl
                          rotate_left
                          · simp only [Act.put, List.setIfInBounds_toArray, List.set_cons_zero, List.set_cons_succ]
                            rfl
                          refine take_ (i := 4) (N := some 83) (v := ?_) (a' := ?_) #[true, true, false, true, true, false, false, false, false] rfl rfl (by kernel_rfl) (fun _ _ _ h => h) (Or.inl ⟨by rfl, ?_⟩) hHeld ?_ ?_
                          rotate_left
                          · rintro w' ⟨s0, s1⟩
                            go_simp
                            with_reducible rfl
                          rotate_left
                          · simp only [Act.put, List.setIfInBounds_toArray, List.set_cons_zero, List.set_cons_succ]
                            rfl
                          generalize w50.drew = wd at ST1 hHeld ⊢
                          refine join_ (σ := Value × Nat × Nat × Nat) 1 #[true, true, true, true, true, true, true, true, false] (fun s => [(81, s.1), (84, .slice (some ⟨s.2.1, 0, none⟩) l0_1.length s.2.2.1), (85, .agg #[.slice A0_0 l0_0.length c0_0, .slice (some ⟨s.2.1, 0, none⟩) l0_1.length s.2.2.1]), (12, .pointer (some ⟨s.2.2.2, 0, none⟩))])
                            (fun s w' => St w w' B gb102 gb108 gb109 #[.slice A0_0 l0_0.length c0_0, .slice (some ad106) l0_1.length c0_1] #[.int .i64 x.f0, .slice A106_1 x.f1.length c106_1] #[.int .i64 y.f0, .slice A107_1 y.f1.length c107_1] ∧ w'.ownsRow B 45 2 (.slice (some ⟨s.2.1, 0, none⟩) l0_1.length s.2.2.1) l0_1.length inner ∧ w'.heap[s.2.2.2]? = some (.cells #[.slice none 0 0, .slice none 0 0] 25 (0, 0)) ∧ B ≤ s.2.2.2) ?_ ?_
                          rotate_left
                          · intro hCont
                            refine two_ (i := 2) (j := 7) (Ni := some 81) (Nj := some 12) #[true, true, true, true, true, false, false, false, false] #[true, true, false, true, true, false, false, true, false] rfl rfl rfl rfl (by kernel_rfl) (by decide) (by decide) (fun K hK => ?_) (fun K hK => ?_)
                            · (refine value_ (w1 := wd.alloc (.cells #[] 45)) (v := .slice (some ⟨wd.heap.size, 0, none⟩) 0 0) (by rfl) rfl ?hr ?_); (case hr => first | (go_simp; done) | (go_simp; rfl)); have hbe := below_alloc (Below.refl wd.heap.size wd) (.cells #[] 45); have STe := Lib.hid (ST1.out.below hbe); have Oe := Lib.hid (own_empty wd B 45 2 ST1.out.2.2.2.2.1); obtain ⟨v81, hv81⟩ : ∃ v : Value, v = .slice (some ⟨wd.heap.size, 0, none⟩) 0 0 := ⟨_, rfl⟩; rw [← hv81] at Oe ⊢; obtain ⟨we, hwe⟩ : ∃ W, W = wd.alloc (.cells #[] 45) := ⟨_, rfl⟩; rw [← hwe] at Oe STe hbe ⊢
                              refine hK.out _ _ ⟨(blk_cell STe.out.1 0).trans rfl, (blk_cell STe.out.1 1).trans rfl⟩ (fun hHeld => ?_); clear hK K; (refine norm_ (a' := ?_) ?_ ?_); rotate_left; (show Act.put _ (some 81) _ = _; simp only [Act.put, List.setIfInBounds_toArray, List.set_cons_zero, List.set_cons_succ]; rfl)
                              refine two_ (i := 5) (j := 7) (Ni := some 84) (Nj := some 12) #[true, true, true, true, true, true, false, false, false] #[true, true, true, true, true, false, false, true, false] rfl rfl rfl rfl (by kernel_rfl) (by decide) (by decide) (fun K hK => ?_) (fun K hK => ?_)
                              · (refine own_row_step we B (by rfl) (.tmp 81) (.tmp 83) 23 45 (.agg #[.int .i64 0, .slice none 0 0]) 2 32 (by rfl) hu23 info45 rfl (by decide) _ 0 [] ad106 l0_1.length c0_1 inner (by rfl) (by rfl) Hinl.out (fun j u hu => pw_cell_below STe.out.2.2.2.1 (Hcell.out j u hu)) (reps_ones Hin.out) Oe.out STe.out.2.2.2.2.1 (by unfold maxLen; omega) (by omega) ?_); intro v84 wf hown hgr; have hown2 : wf.ownsRow B 45 2 v84 l0_1.length inner := (by simpa using hown); obtain ⟨g84, c84, rfl⟩ := own_form hown2 (by omega); have Of := Lib.hid hown2; have STf := Lib.hid (STe.out.grown hgr (fun k hk => own_base Oe.out k hk)); clear hown hown2
                                refine hK.out _ _ ⟨(blk_cell STf.out.1 0).trans rfl, (blk_cell STf.out.1 1).trans rfl⟩ (fun hHeld => ?_); clear hK K; (refine norm_ (a' := ?_) ?_ ?_); rotate_left; (show Act.put _ (some 84) _ = _; simp only [Act.put, List.setIfInBounds_toArray, List.set_cons_zero, List.set_cons_succ]; rfl)
                                (refine pure_ (i := 6) (N := some 85) (v := ?_) (a' := ?_) #[true, true, true, true, true, true, true, false, false] rfl rfl (by kernel_rfl) (fun _ _ _ h => h) (Or.inl ⟨by rfl, ?_⟩) ?_ ?_); rotate_left; (focus (intro w'; go_simp; (try (with_reducible rfl)))); rotate_left; (focus (simp only [Act.put, List.setIfInBounds_toArray, List.set_cons_zero, List.set_cons_succ]; rfl))
                                refine one_ (i := 7) (N := some 12) #[true, true, true, true, true, true, true, true, false] rfl rfl (by kernel_rfl) (by decide) (fun K hK => ?_)
                                (refine box_step ?hg (N := 12) ?hd (cs := #[.slice none 0 0, .slice none 0 0]) (t := 25) ?hr ?_); (case hd => rfl); (case hg => rfl); (case hr => first | (go_simp; done) | (go_simp; rfl)); intro g12 hg wg hbox hbg; have STg := Lib.hid (STf.out.below hbg); have Ng := Lib.hid hbox; have Gg : Hid (B ≤ g12) := Lib.hid (by rw [hg]; exact STf.out.2.2.2.2.1); clear hg hbox
                                have Og := Lib.hid (pw_own_below Of.out hbg)
                                refine hK.out _ _ ⟨(blk_cell STg.out.1 0).trans rfl, (blk_cell STg.out.1 1).trans rfl⟩ (fun hHeld => ?_); clear hK K; (refine norm_ (a' := ?_) ?_ ?_); rotate_left; (show Act.put _ (some 12) _ = _; simp only [Act.put, List.setIfInBounds_toArray, List.set_cons_zero, List.set_cons_succ]; rfl)
                                exact norm_ (by simp only [putAll, Act.put, List.setIfInBounds_toArray, List.set_cons_zero, List.set_cons_succ]) (hCont (v81, g84, c84, g12) _ ⟨STg.out, Og.out, Ng.out, Gg.out⟩)
                              · (refine box_step ?hg (N := 12) ?hd (cs := #[.slice none 0 0, .slice none 0 0]) (t := 25) ?hr ?_); (case hd => rfl); (case hg => rfl); (case hr => first | (go_simp; done) | (go_simp; rfl)); intro g12 hg wf hbox hbg; have STf := Lib.hid (STe.out.below hbg); have Ng := Lib.hid hbox; have Gg : Hid (B ≤ g12) := Lib.hid (by rw [hg]; exact STe.out.2.2.2.2.1); clear hg hbox
                                have Of := Lib.hid (pw_own_below Oe.out hbg)
                                refine hK.out _ _ ⟨(blk_cell STf.out.1 0).trans rfl, (blk_cell STf.out.1 1).trans rfl⟩ (fun hHeld => ?_); clear hK K; (refine norm_ (a' := ?_) ?_ ?_); rotate_left; (show Act.put _ (some 12) _ = _; simp only [Act.put, List.setIfInBounds_toArray, List.set_cons_zero, List.set_cons_succ]; rfl)
                                refine one_ (i := 5) (N := some 84) #[true, true, true, true, true, true, false, true, false] rfl rfl (by kernel_rfl) (by decide) (fun K hK => ?_)
                                (refine own_row_step wf B (by rfl) (.tmp 81) (.tmp 83) 23 45 (.agg #[.int .i64 0, .slice none 0 0]) 2 32 (by rfl) hu23 info45 rfl (by decide) _ 0 [] ad106 l0_1.length c0_1 inner (by rfl) (by rfl) Hinl.out (fun j u hu => pw_cell_below STf.out.2.2.2.1 (Hcell.out j u hu)) (reps_ones Hin.out) Of.out STf.out.2.2.2.2.1 (by unfold maxLen; omega) (by omega) ?_); intro v84 wg hown hgr; have hown2 : wg.ownsRow B 45 2 v84 l0_1.length inner := (by simpa using hown); obtain ⟨g84, c84, rfl⟩ := own_form hown2 (by omega); have Og := Lib.hid hown2; have STg := Lib.hid (STf.out.grown hgr (fun k hk => own_base Of.out k hk)); clear hown hown2
                                have Nh := Lib.hid (blk_grown Ng.out hgr (own_ne Of.out Ng.out (by decide)))
                                refine hK.out _ _ ⟨(blk_cell STg.out.1 0).trans rfl, (blk_cell STg.out.1 1).trans rfl⟩ (fun hHeld => ?_); clear hK K; (refine norm_ (a' := ?_) ?_ ?_); rotate_left; (show Act.put _ (some 84) _ = _; simp only [Act.put, List.setIfInBounds_toArray, List.set_cons_zero, List.set_cons_succ]; rfl)
                                (refine pure_ (i := 6) (N := some 85) (v := ?_) (a' := ?_) #[true, true, true, true, true, true, true, true, false] rfl rfl (by kernel_rfl) (fun _ _ _ h => h) (Or.inl ⟨by rfl, ?_⟩) ?_ ?_); rotate_left; (focus (intro w'; go_simp; (try (with_reducible rfl)))); rotate_left; (focus (simp only [Act.put, List.setIfInBounds_toArray, List.set_cons_zero, List.set_cons_succ]; rfl))
                                exact norm_ (by simp only [putAll, Act.put, List.setIfInBounds_toArray, List.set_cons_zero, List.set_cons_succ]) (hCont (v81, g84, c84, g12) _ ⟨STg.out, Og.out, Nh.out, Gg.out⟩)
                            · (refine box_step ?hg (N := 12) ?hd (cs := #[.slice none 0 0, .slice none 0 0]) (t := 25) ?hr ?_); (case hd => rfl); (case hg => rfl); (case hr => first | (go_simp; done) | (go_simp; rfl)); intro g12 hg we hbox hbg; have STe := Lib.hid (ST1.out.below hbg); have Ng := Lib.hid hbox; have Gg : Hid (B ≤ g12) := Lib.hid (by rw [hg]; exact ST1.out.2.2.2.2.1); clear hg hbox
                              refine hK.out _ _ ⟨(blk_cell STe.out.1 0).trans rfl, (blk_cell STe.out.1 1).trans rfl⟩ (fun hHeld => ?_); clear hK K; (refine norm_ (a' := ?_) ?_ ?_); rotate_left; (show Act.put _ (some 12) _ = _; simp only [Act.put, List.setIfInBounds_toArray, List.set_cons_zero, List.set_cons_succ]; rfl)
                              refine one_ (i := 2) (N := some 81) #[true, true, true, true, true, false, false, true, false] rfl rfl (by kernel_rfl) (by decide) (fun K hK => ?_)
                              (refine value_ (w1 := we.alloc (.cells #[] 45)) (v := .slice (some ⟨we.heap.size, 0, none⟩) 0 0) (by rfl) rfl ?hr ?_); (case hr => first | (go_simp; done) | (go_simp; rfl)); have hbe := below_alloc (Below.refl we.heap.size we) (.cells #[] 45); have STf := Lib.hid (STe.out.below hbe); have Of := Lib.hid (own_empty we B 45 2 STe.out.2.2.2.2.1); obtain ⟨v81, hv81⟩ : ∃ v : Value, v = .slice (some ⟨we.heap.size, 0, none⟩) 0 0 := ⟨_, rfl⟩; rw [← hv81] at Of ⊢; obtain ⟨wf, hwf⟩ : ∃ W, W = we.alloc (.cells #[] 45) := ⟨_, rfl⟩; rw [← hwf] at Of STf hbe ⊢
                              have Nf := Lib.hid (blk_below Ng.out hbe)
                              refine hK.out _ _ ⟨(blk_cell STf.out.1 0).trans rfl, (blk_cell STf.out.1 1).trans rfl⟩ (fun hHeld => ?_); clear hK K; (refine norm_ (a' := ?_) ?_ ?_); rotate_left; (show Act.put _ (some 81) _ = _; simp only [Act.put, List.setIfInBounds_toArray, List.set_cons_zero, List.set_cons_succ]; rfl)
                              refine one_ (i := 5) (N := some 84) #[true, true, true, true, true, true, false, true, false] rfl rfl (by kernel_rfl) (by decide) (fun K hK => ?_)
                              (refine own_row_step wf B (by rfl) (.tmp 81) (.tmp 83) 23 45 (.agg #[.int .i64 0, .slice none 0 0]) 2 32 (by rfl) hu23 info45 rfl (by decide) _ 0 [] ad106 l0_1.length c0_1 inner (by rfl) (by rfl) Hinl.out (fun j u hu => pw_cell_below STf.out.2.2.2.1 (Hcell.out j u hu)) (reps_ones Hin.out) Of.out STf.out.2.2.2.2.1 (by unfold maxLen; omega) (by omega) ?_); intro v84 wg hown hgr; have hown2 : wg.ownsRow B 45 2 v84 l0_1.length inner := (by simpa using hown); obtain ⟨g84, c84, rfl⟩ := own_form hown2 (by omega); have Og := Lib.hid hown2; have STg := Lib.hid (STf.out.grown hgr (fun k hk => own_base Of.out k hk)); clear hown hown2
                              have Nh := Lib.hid (blk_grown Nf.out hgr (own_ne Of.out Nf.out (by decide)))
                              refine hK.out _ _ ⟨(blk_cell STg.out.1 0).trans rfl, (blk_cell STg.out.1 1).trans rfl⟩ (fun hHeld => ?_); clear hK K; (refine norm_ (a' := ?_) ?_ ?_); rotate_left; (show Act.put _ (some 84) _ = _; simp only [Act.put, List.setIfInBounds_toArray, List.set_cons_zero, List.set_cons_succ]; rfl)
                              (refine pure_ (i := 6) (N := some 85) (v := ?_) (a' := ?_) #[true, true, true, true, true, true, true, true, false] rfl rfl (by kernel_rfl) (fun _ _ _ h => h) (Or.inl ⟨by rfl, ?_⟩) ?_ ?_); rotate_left; (focus (intro w'; go_simp; (try (with_reducible rfl)))); rotate_left; (focus (simp only [Act.put, List.setIfInBounds_toArray, List.set_cons_zero, List.set_cons_succ]; rfl))
                              exact norm_ (by simp only [putAll, Act.put, List.setIfInBounds_toArray, List.set_cons_zero, List.set_cons_succ]) (hCont (v81, g84, c84, g12) _ ⟨STg.out, Og.out, Nh.out, Gg.out⟩)
                          rintro ⟨u81, g84, c84, g12⟩ w54 ⟨h1_, h2_, h3_, h4_⟩
                          have STa := Lib.hid h1_
                          have Oa := Lib.hid h2_
                          have Na := Lib.hid h3_
                          have Ga := Lib.hid h4_
                          have Hb84 := Lib.hid (own_base h2_ g84 (by simp [Value.ownBlock]))
                          have z0 := (blk_cell Na.out 0).trans rfl
                          have z1 := (blk_cell Na.out 1).trans rfl
                          have z2 := blk_frozen Na.out 0
                          have z3 := blk_frozen Na.out 1
                          clear h1_ h2_ h3_ h4_ ST1 hHeld
                          have hHeld : w54.cell? ⟨gb102, 0, none⟩ = some (.slice A0_0 l0_0.length c0_0) ∧ w54.cell? ⟨gb102, 1, none⟩ = some (.slice (some ad106) l0_1.length c0_1) := ⟨(blk_cell STa.out.1 0).trans rfl, (blk_cell STa.out.1 1).trans rfl⟩
                          refine norm_ (a' := ?_) ?_ ?_
                          rotate_left
                          · simp only [putAll, Act.put, List.setIfInBounds_toArray, List.set_cons_zero, List.set_cons_succ]
                            rfl
                          refine one_ (i := 8) (N := none) #[true, true, true, true, true, true, true, true, true] rfl rfl (by kernel_rfl) (by decide) (fun K hK => ?_)
                          refine skip_ (w1 := ?_) (by rfl) rfl ?_ ?_
                          rotate_left
                          · go_simp
                            rfl
                          obtain ⟨w60, hw60⟩ : ∃ W, W = ((w54.setCell ⟨g12, 0, none⟩ (.slice A0_0 l0_0.length c0_0)).setCell ⟨g12, 1, none⟩ (.slice (some ⟨g84, 0, none⟩) l0_1.length c84)) := ⟨_, rfl⟩
                          rw [← hw60]
                          have STb : Hid (St w w60 B gb102 gb108 gb109 #[.slice A0_0 l0_0.length c0_0, .slice (some ad106) l0_1.length c0_1] #[.int .i64 x.f0, .slice A106_1 x.f1.length c106_1] #[.int .i64 y.f0, .slice A107_1 y.f1.length c107_1]) := Lib.hid (by rw [hw60]; exact (STa.out.set ⟨g12, 0, none⟩ Ga.out _).set ⟨g12, 1, none⟩ Ga.out _)
                          have Nb : Hid (w60.heap[g12]? = some (.cells #[.slice A0_0 l0_0.length c0_0, .slice (some ⟨g84, 0, none⟩) l0_1.length c84] 25 (0, 0))) := Lib.hid (by rw [hw60]; exact two_cells Na.out _ _)
                          have Ob : Hid (w60.ownsRow B 45 2 (.slice (some ⟨g84, 0, none⟩) l0_1.length c84) l0_1.length inner) := Lib.hid (by rw [hw60]; exact own_setCell (own_setCell Oa.out (own_ne Oa.out Na.out (by decide)) _) (own_ne Oa.out Na.out (by decide)) _)
                          clear hw60 STa Na Oa z0 z1 z2 z3
                          refine hK.out _ _ ⟨(blk_cell STb.out.1 0).trans rfl, (blk_cell STb.out.1 1).trans rfl⟩ (fun hHeld => ?_)
                          clear hK K
                          refine done_ (by kernel_rfl) ?_
                          have STc := Lib.hid (STb.out.below (below_drew (Below.refl _ _)))
                          have Nc := Lib.hid (blk_drew Nb.out)
                          have Oc := Lib.hid (pw_own_below Ob.out (below_drew (Below.refl _ _)))
                          go_wp2_with (fail)
                          clear STb Nb Ob hHeld
                          have hi1 : wrap64 ((i : Int) + 1) = (i : Int) + 1 := by unfold wrap64; omega
                          have hi2 : (0 ≤ (i : Int) + 1) = True := eq_true (by omega)
                          have hi3 : ((i : Int) + 1 < (l0_1.length : Int)) = True := eq_true (by omega)
                          refine start_ (n := 13) (S := fun w' => w'.cell? ⟨g12, 1, none⟩ = some (.slice (some ⟨g84, 0, none⟩) l0_1.length c84) ∧ w'.cell? ⟨gb108, 0, none⟩ = some (.int .i64 x.f0) ∧ w'.cell? ⟨gb108, 1, none⟩ = some (.slice A106_1 x.f1.length c106_1) ∧ w'.cell? ⟨gb109, 0, none⟩ = some (.int .i64 y.f0) ∧ w'.cell? ⟨gb109, 1, none⟩ = some (.slice A107_1 y.f1.length c107_1)) (ds := []) #[false, false, false, false, false, false, false, false, false, false, false, false, false] (by kernel_rfl) rfl rfl ⟨(blk_cell Nc.out 1).trans rfl, (blk_cell STc.out.2.1 0).trans rfl, (blk_cell STc.out.2.1 1).trans rfl, (blk_cell STc.out.2.2.1 0).trans rfl, (blk_cell STc.out.2.2.1 1).trans rfl⟩ ?_
                          intro hHeld
                          refine pure_ (i := 0) (N := some 86) (v := ?_) (a' := ?_) #[true, false, false, false, false, false, false, false, false, false, false, false, false] rfl rfl (by kernel_rfl) (fun _ _ _ h => h) (Or.inl ⟨by rfl, ?_⟩) ?_ ?_
                          rotate_left
                          · intro w'
                            go_simp
                            try (with_reducible rfl)
                          rotate_left
                          · simp only [Act.put, List.setIfInBounds_toArray, List.set_cons_zero, List.set_cons_succ]
                            rfl
                          refine pure_ (i := 2) (N := some 88) (v := ?_) (a' := ?_) #[true, false, true, false, false, false, false, false, false, false, false, false, false] rfl rfl (by kernel_rfl) (fun _ _ _ h => h) (Or.inl ⟨by rfl, ?_⟩) ?_ ?_
                          rotate_left
                          · intro w'
                            go_simp
                            try (with_reducible rfl)
                          rotate_left
                          · simp only [Act.put, List.setIfInBounds_toArray, List.set_cons_zero, List.set_cons_succ]
                            rfl
                          refine pure_ (i := 3) (N := some 89) (v := ?_) (a' := ?_) #[true, false, true, true, false, false, false, false, false, false, false, false, false] rfl rfl (by kernel_rfl) (fun _ _ _ h => h) (Or.inl ⟨by rfl, ?_⟩) ?_ ?_
                          rotate_left
                          · intro w'
                            go_simp
                            try (with_reducible rfl)
                          rotate_left
                          · simp only [Act.put, List.setIfInBounds_toArray, List.set_cons_zero, List.set_cons_succ]
                            rfl
                          refine pure_ (i := 5) (N := some 91) (v := ?_) (a' := ?_) #[true, false, true, true, false, true, false, false, false, false, false, false, false] rfl rfl (by kernel_rfl) (fun _ _ _ h => h) (Or.inl ⟨by rfl, ?_⟩) ?_ ?_
                          rotate_left
                          · intro w'
                            go_simp
                            try (with_reducible rfl)
                          rotate_left
                          · simp only [Act.put, List.setIfInBounds_toArray, List.set_cons_zero, List.set_cons_succ]
                            rfl
                          refine pure_ (i := 6) (N := some 92) (v := ?_) (a' := ?_) #[true, false, true, true, false, true, true, false, false, false, false, false, false] rfl rfl (by kernel_rfl) (fun _ _ _ h => h) (Or.inl ⟨by rfl, ?_⟩) ?_ ?_
                          rotate_left
                          · intro w'
                            go_simp
                            try (with_reducible rfl)
                          rotate_left
                          · simp only [Act.put, List.setIfInBounds_toArray, List.set_cons_zero, List.set_cons_succ]
                            rfl
                          refine take_ (i := 1) (N := some 87) (v := ?_) (a' := ?_) #[true, true, true, true, false, true, true, false, false, false, false, false, false] rfl rfl (by kernel_rfl) (fun _ _ _ h => h) (Or.inl ⟨by rfl, ?_⟩) hHeld ?_ ?_
                          rotate_left
                          · rintro w' ⟨s0, s1, s2, s3, s4⟩
                            go_simp
                            with_reducible rfl
                          rotate_left
                          · simp only [Act.put, List.setIfInBounds_toArray, List.set_cons_zero, List.set_cons_succ]
                            rfl
                          refine take_ (i := 4) (N := some 90) (v := ?_) (a' := ?_) #[true, true, true, true, true, true, true, false, false, false, false, false, false] rfl rfl (by kernel_rfl) (fun _ _ _ h => h) (Or.inl ⟨by rfl, ?_⟩) hHeld ?_ ?_
                          rotate_left
                          · rintro w' ⟨s0, s1, s2, s3, s4⟩
                            go_simp
                            with_reducible rfl
                          rotate_left
                          · simp only [Act.put, List.setIfInBounds_toArray, List.set_cons_zero, List.set_cons_succ]
                            rfl
                          refine take_ (i := 7) (N := some 93) (v := ?_) (a' := ?_) #[true, true, true, true, true, true, true, true, false, false, false, false, false] rfl rfl (by kernel_rfl) (fun _ _ _ h => h) (Or.inl ⟨by rfl, ?_⟩) hHeld ?_ ?_
                          rotate_left
                          · rintro w' ⟨s0, s1, s2, s3, s4⟩
                            go_simp
                            with_reducible rfl
                          rotate_left
                          · simp only [Act.put, List.setIfInBounds_toArray, List.set_cons_zero, List.set_cons_succ]
                            rfl
                          refine pure_ (i := 9) (N := some 95) (v := ?_) (a' := ?_) #[true, true, true, true, true, true, true, true, false, true, false, false, false] rfl rfl (by kernel_rfl) (fun _ _ _ h => h) (Or.inl ⟨by rfl, ?_⟩) ?_ ?_
                          rotate_left
                          · intro w'
                            go_simp
                            try (with_reducible rfl)
                          rotate_left
                          · simp only [Act.put, List.setIfInBounds_toArray, List.set_cons_zero, List.set_cons_succ]
                            rfl
                          refine take_ (i := 8) (N := some 94) (v := ?_) (a' := ?_) #[true, true, true, true, true, true, true, true, true, true, false, false, false] rfl rfl (by kernel_rfl) (fun _ _ _ h => h) (Or.inl ⟨by rfl, ?_⟩) hHeld ?_ ?_
                          rotate_left
                          · rintro w' ⟨s0, s1, s2, s3, s4⟩
                            go_simp
                            with_reducible rfl
                          rotate_left
                          · simp only [Act.put, List.setIfInBounds_toArray, List.set_cons_zero, List.set_cons_succ]
                            rfl
                          generalize w60.drew = wq at STc Nc Oc hHeld ⊢
                          have hgg : g12 ≠ g84 := by
                            obtain ⟨cells, hc⟩ := own_typed Oc.out g84 (by simp [Value.ownBlock])
                            exact (blk_ne hc Nc.out (by decide)).symm
                          obtain ⟨g9, c9, cur, e9, _, hcur, hcap, hcsz, htk⟩ := own_pos Oc.out (by omega)
                          cases e9
                          have Hgg := Lib.hid hgg
                          have Hcur := Lib.hid hcur
                          have Hcsz := Lib.hid hcsz
                          have Htk := Lib.hid htk
                          obtain ⟨e0, t0⟩ : ∃ u, wq.cell? ⟨g84, i * 2, none⟩ = some u := ⟨_, (blk_cell hcur _).trans (Array.getElem?_eq_getElem (by omega))⟩
                          obtain ⟨e1, t1⟩ : ∃ u, wq.cell? ⟨g84, i * 2 + 1, none⟩ = some u := ⟨_, (blk_cell hcur _).trans (Array.getElem?_eq_getElem (by omega))⟩
                          have t2 := blk_frozen hcur (i * 2)
                          have t3 := blk_frozen hcur (i * 2 + 1)
                          clear hgg hcur hcsz htk
                          refine one_ (i := 10) (N := none) #[true, true, true, true, true, true, true, true, true, true, true, false, false] rfl rfl (by kernel_rfl) (by decide) (fun K hK => ?_)
                          refine skip_ (w1 := ?_) (by rfl) rfl ?_ ?_
                          rotate_left
                          · go_simp
                            rfl
                          obtain ⟨w61, hw61⟩ : ∃ W, W = ((wq.setCell ⟨g84, i * 2, none⟩ (.int .i64 y.f0)).setCell ⟨g84, i * 2 + 1, none⟩ (.slice A107_1 y.f1.length c107_1)) := ⟨_, rfl⟩
                          rw [← hw61]
                          have Nd : Hid (w61.heap[g12]? = some (.cells #[.slice A0_0 l0_0.length c0_0, .slice (some ⟨g84, 0, none⟩) l0_1.length c84] 25 (0, 0))) := Lib.hid (by rw [hw61]; exact blk_far (blk_far Nc.out Hgg.out _) Hgg.out _)
                          have STd : Hid (St w w61 B gb102 gb108 gb109 #[.slice A0_0 l0_0.length c0_0, .slice (some ad106) l0_1.length c0_1] #[.int .i64 x.f0, .slice A106_1 x.f1.length c106_1] #[.int .i64 y.f0, .slice A107_1 y.f1.length c107_1]) := Lib.hid (by rw [hw61]; exact (STc.out.set ⟨g84, _, none⟩ Hb84.out _).set ⟨g84, _, none⟩ Hb84.out _)
                          have hcur1 : w61.heap[g84]? = some (.cells ((cur.setIfInBounds (i * 2) (.int .i64 y.f0)).setIfInBounds (i * 2 + 1) (.slice A107_1 y.f1.length c107_1)) 45 (0, 0)) := by rw [hw61]; exact blk_set (blk_set Hcur.out _ _) _ _
                          have Hw61 := Lib.hid hw61
                          clear t0 t1 t2 t3 hw61 STc Nc
                          have hcz := Hcsz.out
                          obtain ⟨e2, t0⟩ : ∃ u, w61.cell? ⟨g84, (i + 1) * 2, none⟩ = some u := ⟨cur[(i + 1) * 2], (blk_cell hcur1 _).trans (by rw [Array.getElem?_setIfInBounds_ne (by omega), Array.getElem?_setIfInBounds_ne (by omega)]; exact Array.getElem?_eq_getElem _)⟩
                          obtain ⟨e3, t1⟩ : ∃ u, w61.cell? ⟨g84, (i + 1) * 2 + 1, none⟩ = some u := ⟨cur[(i + 1) * 2 + 1], (blk_cell hcur1 _).trans (by rw [Array.getElem?_setIfInBounds_ne (by omega), Array.getElem?_setIfInBounds_ne (by omega)]; exact Array.getElem?_eq_getElem _)⟩
                          have t2 := blk_frozen hcur1 ((i + 1) * 2)
                          have t3 := blk_frozen hcur1 ((i + 1) * 2 + 1)
                          clear hcur1 hcz
                          refine hK.out _ _ ⟨(blk_cell Nd.out 1).trans rfl, (blk_cell STd.out.2.1 0).trans rfl, (blk_cell STd.out.2.1 1).trans rfl, (blk_cell STd.out.2.2.1 0).trans rfl, (blk_cell STd.out.2.2.1 1).trans rfl⟩ (fun hHeld => ?_)
                          clear hK K
                          refine pure_ (i := 11) (N := some 96) (v := ?_) (a' := ?_) #[true, true, true, true, true, true, true, true, true, true, true, true, false] rfl rfl (by kernel_rfl) (fun _ _ _ h => h) (Or.inl ⟨by rfl, ?_⟩) ?_ ?_
                          rotate_left
                          · intro w'
                            go_simp
                            try (with_reducible rfl)
                          rotate_left
                          · simp only [Act.put, List.setIfInBounds_toArray, List.set_cons_zero, List.set_cons_succ]
                            rfl
                          refine one_ (i := 12) (N := none) #[true, true, true, true, true, true, true, true, true, true, true, true, true] rfl rfl (by kernel_rfl) (by decide) (fun K hK => ?_)
                          refine skip_ (w1 := ?_) (by rfl) rfl ?_ ?_
                          rotate_left
                          · go_simp
                            rfl
                          obtain ⟨w62, hw62⟩ : ∃ W, W = ((w61.setCell ⟨g84, (i + 1) * 2, none⟩ (.int .i64 x.f0)).setCell ⟨g84, (i + 1) * 2 + 1, none⟩ (.slice A106_1 x.f1.length c106_1)) := ⟨_, rfl⟩
                          rw [← hw62]
                          have Ne : Hid (w62.heap[g12]? = some (.cells #[.slice A0_0 l0_0.length c0_0, .slice (some ⟨g84, 0, none⟩) l0_1.length c84] 25 (0, 0))) := Lib.hid (by rw [hw62]; exact blk_far (blk_far Nd.out Hgg.out _) Hgg.out _)
                          have STe : Hid (St w w62 B gb102 gb108 gb109 #[.slice A0_0 l0_0.length c0_0, .slice (some ad106) l0_1.length c0_1] #[.int .i64 x.f0, .slice A106_1 x.f1.length c106_1] #[.int .i64 y.f0, .slice A107_1 y.f1.length c107_1]) := Lib.hid (by rw [hw62]; exact (STd.out.set ⟨g84, _, none⟩ Hb84.out _).set ⟨g84, _, none⟩ Hb84.out _)
                          have CP : Hid (Kd.C k45 w62 (some ⟨g84, 0, none⟩) l0_1.length (sw l0_1 i z45)) := Lib.hid (sw_row (w := w) (cx := c106_1) (cy := c107_1) (Ax := A106_1) (Ay := A107_1) Hcur.out Hcsz.out Htk.out Hin.out hilt (by omega) (by rw [← HX.out]; exact HC106_1.out) (by rw [← HX.out]; exact HR106_1.out) (by rw [← HY.out]; exact HC107_1.out) (by rw [← HY.out]; exact HR107_1.out) (by rw [hw62, Hw61.out, HX.out, HY.out]) STe.out.2.2.2.1)
                          clear t0 t1 t2 t3 hw62 STd Nd
                          refine hK.out _ _ ⟨(blk_cell Ne.out 1).trans rfl, (blk_cell STe.out.2.1 0).trans rfl, (blk_cell STe.out.2.1 1).trans rfl, (blk_cell STe.out.2.2.1 0).trans rfl, (blk_cell STe.out.2.2.1 1).trans rfl⟩ (fun hHeld => ?_)
                          clear hK K
                          refine done_ (by kernel_rfl) ?_
                          have gk := gks
                          have hk1 : (((i : Nat) : Int) < (l1.length : Int)) = True := eq_true (by omega)
                          have hk2 : ((i : Int) + 1 < (l1.length : Int)) = True := eq_true (by omega)
                          obtain ⟨adk, eadk, hkc⟩ := kept_at HR1.out (by omega)
                          cases eadk
                          obtain ⟨kx, hkx⟩ : ∃ p, p = l1.getD i 0 := ⟨_, rfl⟩
                          obtain ⟨ky, hky⟩ : ∃ p, p = l1.getD (i + 1) 0 := ⟨_, rfl⟩
                          have kc0 := hkc i (by omega)
                          have kc1 := hkc (i + 1) (by omega)
                          rw [← hkx] at kc0
                          rw [← hky, show adk.add (i + 1) = ⟨adk.block, adk.off + (i + 1), none⟩ by simp [Addr.add]] at kc1
                          have Hkx := Lib.hid hkx
                          have Hky := Lib.hid hky
                          have Kc0 := Lib.hid kc0
                          have Kc1 := Lib.hid kc1
                          clear hkc hkx hky kc0 kc1 hHeld gk
                          go_wp2_with (first | ((with_reducible refine gate_dst (N := 97) rfl ?_); refine Kd.R_lit (Kd.int .i64) (w0 := w62) w62.heap.size 3 rfl rfl (xs := []) (inner := []) (ok := fun _ => True) (okp := fun _ => False) ?hr (Reps.none _ _) (fun _ _ => trivial) trivial (Below.refl _ _) (Nat.le_refl _) (by simp) ?_; (case hr => first | (go_simp; done) | (go_simp; rfl)); intro v97 w63 hr97 hb63 _ _; have HR97 := Lib.hid hr97; have HB63 := Lib.hid hb63; clear hr97 hb63) | ((with_reducible refine gate_dst (N := 99) rfl ?_); refine Kd.R_append_row (Value.int .i64) (0 : Int) (h1 := fun _ => rfl) (w0 := w62) w62.heap.size rfl (.tmp 97) (.tmp 98) 26 3 (.int .i64 0) 8 rfl hu26 info3 rfl (by decide) v97 [] l1 (some adk) l1.length c1 (fun _ => True) rfl rfl (fun _ _ => trivial) HR97.out (Kd.C_below HR1.out (below_then STe.out.2.2.2.1 STe.out.2.2.2.1.size HB63.out)) HB63.out HB63.out.size (by simp; omega) ?_; intro v99 w64 hr99 hb64 _ _; obtain ⟨g99, c99, rfl⟩ := own_form (Kd.own_of_R hr99) (by simp; omega); have HR99 := Lib.hid (show Kd.R (Kd.int .i64) 3 w64 w62.heap.size (fun _ => True) (.slice (some ⟨g99, 0, none⟩) l1.length c99) l1 from hr99); have HB64 := Lib.hid hb64; clear hr99 hb64 HR97 HB63) )
                          have HRa := Lib.hid (Kd.R_below HR99.out (below_drew (Below.refl _ _)))
                          have HBa := Lib.hid (below_drew HB64.out)
                          have HBw := Lib.hid (below_then STe.out.2.2.2.1 STe.out.2.2.2.1.size HBa.out)
                          have hHg : w62.heap.size ≤ g99 := own_base (Kd.own_of_R HR99.out) g99 (by simp [Value.ownBlock])
                          have Hg99 := Lib.hid hHg
                          have kcap : l1.length ≤ c99 := (Kd.R_reads' HR99.out).2.1
                          clear HR99 HB64 hHg
                          refine start_ (n := 18) (S := fun w' => w'.cell? ⟨adk.block, adk.off + (i + 1), none⟩ = some (.int .i64 ky) ∧ w'.cell? (adk.add i) = some (.int .i64 kx)) (ds := []) #[false, false, false, false, false, false, false, false, false, false, false, false, false, false, false, false, false, false] (by kernel_rfl) rfl rfl ⟨pw_cell_below HBw.out Kc1.out, pw_cell_below HBw.out Kc0.out⟩ ?_
                          intro hHeld
                          refine pure_ (i := 0) (N := some 100) (v := ?_) (a' := ?_) #[true, false, false, false, false, false, false, false, false, false, false, false, false, false, false, false, false, false] rfl rfl (by kernel_rfl) (fun _ _ _ h => h) (Or.inl ⟨by rfl, ?_⟩) ?_ ?_
                          rotate_left
                          · intro w'
                            go_simp
                            try (with_reducible rfl)
                          rotate_left
                          · simp only [Act.put, List.setIfInBounds_toArray, List.set_cons_zero, List.set_cons_succ]
                            rfl
                          refine pure_ (i := 1) (N := some 101) (v := ?_) (a' := ?_) #[true, true, false, false, false, false, false, false, false, false, false, false, false, false, false, false, false, false] rfl rfl (by kernel_rfl) (fun _ _ _ h => h) (Or.inl ⟨by rfl, ?_⟩) ?_ ?_
                          rotate_left
                          · intro w'
                            go_simp
                            try (with_reducible rfl)
                          rotate_left
                          · simp only [Act.put, List.setIfInBounds_toArray, List.set_cons_zero, List.set_cons_succ]
                            rfl
                          refine pure_ (i := 2) (N := some 102) (v := ?_) (a' := ?_) #[true, true, true, false, false, false, false, false, false, false, false, false, false, false, false, false, false, false] rfl rfl (by kernel_rfl) (fun _ _ _ h => h) (Or.inl ⟨by rfl, ?_⟩) ?_ ?_
                          rotate_left
                          · intro w'
                            go_simp
                            try (with_reducible rfl)
                          rotate_left
                          · simp only [Act.put, List.setIfInBounds_toArray, List.set_cons_zero, List.set_cons_succ]
                            rfl
                          refine pure_ (i := 3) (N := some 103) (v := ?_) (a' := ?_) #[true, true, true, true, false, false, false, false, false, false, false, false, false, false, false, false, false, false] rfl rfl (by kernel_rfl) (fun _ _ _ h => h) (Or.inl ⟨by rfl, ?_⟩) ?_ ?_
                          rotate_left
                          · intro w'
                            go_simp
                            try (with_reducible rfl)
                          rotate_left
                          · simp only [Act.put, List.setIfInBounds_toArray, List.set_cons_zero, List.set_cons_succ]
                            rfl
                          refine pure_ (i := 4) (N := some 104) (v := ?_) (a' := ?_) #[true, true, true, true, true, false, false, false, false, false, false, false, false, false, false, false, false, false] rfl rfl (by kernel_rfl) (fun _ _ _ h => h) (Or.inl ⟨by rfl, ?_⟩) ?_ ?_
                          rotate_left
                          · intro w'
                            go_simp
                            try (with_reducible rfl)
                          rotate_left
                          · simp only [Act.put, List.setIfInBounds_toArray, List.set_cons_zero, List.set_cons_succ]
                            rfl
                          refine pure_ (i := 5) (N := some 105) (v := ?_) (a' := ?_) #[true, true, true, true, true, true, false, false, false, false, false, false, false, false, false, false, false, false] rfl rfl (by kernel_rfl) (fun _ _ _ h => h) (Or.inl ⟨by rfl, ?_⟩) ?_ ?_
                          rotate_left
                          · intro w'
                            go_simp
                            try (with_reducible rfl)
                          rotate_left
                          · simp only [Act.put, List.setIfInBounds_toArray, List.set_cons_zero, List.set_cons_succ]
                            rfl
                          refine pure_ (i := 6) (N := some 106) (v := ?_) (a' := ?_) #[true, true, true, true, true, true, true, false, false, false, false, false, false, false, false, false, false, false] rfl rfl (by kernel_rfl) (fun _ _ _ h => h) (Or.inl ⟨by rfl, ?_⟩) ?_ ?_
                          rotate_left
                          · intro w'
                            go_simp
                            try (with_reducible rfl)
                          rotate_left
                          · simp only [Act.put, List.setIfInBounds_toArray, List.set_cons_zero, List.set_cons_succ]
                            rfl
                          refine pure_ (i := 7) (N := some 107) (v := ?_) (a' := ?_) #[true, true, true, true, true, true, true, true, false, false, false, false, false, false, false, false, false, false] rfl rfl (by kernel_rfl) (fun _ _ _ h => h) (Or.inl ⟨by rfl, ?_⟩) ?_ ?_
                          rotate_left
                          · intro w'
                            go_simp
                            try (with_reducible rfl)
                          rotate_left
                          · simp only [Act.put, List.setIfInBounds_toArray, List.set_cons_zero, List.set_cons_succ]
                            rfl
                          refine pure_ (i := 8) (N := some 108) (v := ?_) (a' := ?_) #[true, true, true, true, true, true, true, true, true, false, false, false, false, false, false, false, false, false] rfl rfl (by kernel_rfl) (fun _ _ _ h => h) (Or.inl ⟨by rfl, ?_⟩) ?_ ?_
                          rotate_left
                          · intro w'
                            go_simp
                            try (with_reducible rfl)
                          rotate_left
                          · simp only [Act.put, List.setIfInBounds_toArray, List.set_cons_zero, List.set_cons_succ]
                            rfl
                          refine pure_ (i := 10) (N := some 110) (v := ?_) (a' := ?_) #[true, true, true, true, true, true, true, true, true, false, true, false, false, false, false, false, false, false] rfl rfl (by kernel_rfl) (fun _ _ _ h => h) (Or.inl ⟨by rfl, ?_⟩) ?_ ?_
                          rotate_left
                          · intro w'
                            go_simp
                            try (with_reducible rfl)
                          rotate_left
                          · simp only [Act.put, List.setIfInBounds_toArray, List.set_cons_zero, List.set_cons_succ]
                            rfl
                          refine pure_ (i := 11) (N := some 111) (v := ?_) (a' := ?_) #[true, true, true, true, true, true, true, true, true, false, true, true, false, false, false, false, false, false] rfl rfl (by kernel_rfl) (fun _ _ _ h => h) (Or.inl ⟨by rfl, ?_⟩) ?_ ?_
                          rotate_left
                          · intro w'
                            go_simp
                            try (with_reducible rfl)
                          rotate_left
                          · simp only [Act.put, List.setIfInBounds_toArray, List.set_cons_zero, List.set_cons_succ]
                            rfl
                          refine pure_ (i := 12) (N := some 112) (v := ?_) (a' := ?_) #[true, true, true, true, true, true, true, true, true, false, true, true, true, false, false, false, false, false] rfl rfl (by kernel_rfl) (fun _ _ _ h => h) (Or.inl ⟨by rfl, ?_⟩) ?_ ?_
                          rotate_left
                          · intro w'
                            go_simp
                            try (with_reducible rfl)
                          rotate_left
                          · simp only [Act.put, List.setIfInBounds_toArray, List.set_cons_zero, List.set_cons_succ]
                            rfl
                          refine take_ (i := 9) (N := some 109) (v := ?_) (a' := ?_) #[true, true, true, true, true, true, true, true, true, true, true, true, true, false, false, false, false, false] rfl rfl (by kernel_rfl) (fun _ _ _ h => h) (Or.inl ⟨by rfl, ?_⟩) hHeld ?_ ?_
                          rotate_left
                          · rintro w' ⟨s0, s1⟩
                            go_simp
                            with_reducible rfl
                          rotate_left
                          · simp only [Act.put, List.setIfInBounds_toArray, List.set_cons_zero, List.set_cons_succ]
                            rfl
                          refine take_ (i := 13) (N := some 113) (v := ?_) (a' := ?_) #[true, true, true, true, true, true, true, true, true, true, true, true, true, true, false, false, false, false] rfl rfl (by kernel_rfl) (fun _ _ _ h => h) (Or.inl ⟨by rfl, ?_⟩) hHeld ?_ ?_
                          rotate_left
                          · rintro w' ⟨s0, s1⟩
                            go_simp
                            with_reducible rfl
                          rotate_left
                          · simp only [Act.put, List.setIfInBounds_toArray, List.set_cons_zero, List.set_cons_succ]
                            rfl
                          refine pure_ (i := 14) (N := some 114) (v := ?_) (a' := ?_) #[true, true, true, true, true, true, true, true, true, true, true, true, true, true, true, false, false, false] rfl rfl (by kernel_rfl) (fun _ _ _ h => h) (Or.inl ⟨by rfl, ?_⟩) ?_ ?_
                          rotate_left
                          · intro w'
                            go_simp
                            try (with_reducible rfl)
                          rotate_left
                          · simp only [Act.put, List.setIfInBounds_toArray, List.set_cons_zero, List.set_cons_succ]
                            rfl
                          generalize w64.drew = wr at HRa HBa HBw hHeld ⊢
                          have rr := Kd.R_celln (0 : Int) HRa.out (i : Int) (by omega) (by omega)
                          simp only [Int.toNat_natCast] at rr
                          obtain ⟨r0, r1⟩ := rr
                          refine one_ (i := 15) (N := none) #[true, true, true, true, true, true, true, true, true, true, true, true, true, true, true, true, false, false] rfl rfl (by kernel_rfl) (by decide) (fun K hK => ?_)
                          refine skip_ (w1 := ?_) (by rfl) rfl ?_ ?_
                          rotate_left
                          · go_simp
                            rfl
                          obtain ⟨w65, hw65⟩ : ∃ W, W = wr.setCell ⟨g99, i, none⟩ (.int .i64 ky) := ⟨_, rfl⟩
                          rw [← hw65]
                          have HRb : Hid (Kd.R (Kd.int .i64) 3 w65 w62.heap.size (fun _ => True) (.slice (some ⟨g99, 0, none⟩) l1.length c99) (l1.set i ky)) := Lib.hid (by rw [hw65]; have z := Kd.R_putn (enc := Value.int .i64) (h1 := fun _ => rfl) HRa.out (i : Int) ky; simp only [Int.toNat_natCast] at z; exact z)
                          have HBb : Hid (Below w62.heap.size w62 w65) := Lib.hid (by rw [hw65]; exact HBa.out.setCell (p := ⟨g99, i, none⟩) Hg99.out _)
                          have HBv := Lib.hid (below_then STe.out.2.2.2.1 STe.out.2.2.2.1.size HBb.out)
                          have rr := Kd.R_celln (0 : Int) HRb.out ((i + 1 : Nat) : Int) (by omega) (by omega)
                          simp only [Int.toNat_natCast] at rr
                          have Hw65 := Lib.hid hw65
                          clear r0 r1 hw65
                          obtain ⟨r0, r1⟩ := rr
                          refine hK.out _ _ ⟨pw_cell_below HBv.out Kc1.out, pw_cell_below HBv.out Kc0.out⟩ (fun hHeld => ?_)
                          clear hK K
                          refine pure_ (i := 16) (N := some 115) (v := ?_) (a' := ?_) #[true, true, true, true, true, true, true, true, true, true, true, true, true, true, true, true, true, false] rfl rfl (by kernel_rfl) (fun _ _ _ h => h) (Or.inl ⟨by rfl, ?_⟩) ?_ ?_
                          rotate_left
                          · intro w'
                            go_simp
                            try (with_reducible rfl)
                          rotate_left
                          · simp only [Act.put, List.setIfInBounds_toArray, List.set_cons_zero, List.set_cons_succ]
                            rfl
                          refine one_ (i := 17) (N := none) #[true, true, true, true, true, true, true, true, true, true, true, true, true, true, true, true, true, true] rfl rfl (by kernel_rfl) (by decide) (fun K hK => ?_)
                          refine skip_ (w1 := ?_) (by rfl) rfl ?_ ?_
                          rotate_left
                          · go_simp
                            rfl
                          obtain ⟨w66, hw66⟩ : ∃ W, W = w65.setCell ⟨g99, i + 1, none⟩ (.int .i64 kx) := ⟨_, rfl⟩
                          rw [← hw66]
                          have CK : Hid (Kd.C (Kd.int .i64) w66 (some ⟨g99, 0, none⟩) l1.length (sw l1 i 0)) := Lib.hid (by rw [hw66, Hw65.out]; exact R_sw HRa.out Hkx.out Hky.out)
                          have HBc : Hid (Below w62.heap.size w62 w66) := Lib.hid (by rw [hw66]; exact HBb.out.setCell (p := ⟨g99, i + 1, none⟩) Hg99.out _)
                          have HBu := Lib.hid (below_then STe.out.2.2.2.1 STe.out.2.2.2.1.size HBc.out)
                          clear r0 r1 hw66
                          refine hK.out _ _ ⟨pw_cell_below HBu.out Kc1.out, pw_cell_below HBu.out Kc0.out⟩ (fun hHeld => ?_)
                          clear hK K
                          refine done_ (by kernel_rfl) ?_
                          clear Hw65 HRa HRb HBa HBb HBw HBv hHeld
                          obtain ⟨X, hXe⟩ : ∃ X, X = crashL l0_0 l0_1 l1 := ⟨_, rfl⟩
                          obtain ⟨Y, hYe⟩ : ∃ Y, Y = syncL l0_0 l0_1 := ⟨_, rfl⟩
                          have HXe := Lib.hid hXe
                          have HYe := Lib.hid hYe
                          have HX2 : Hid (crashL l0_0 (sw l0_1 i z45) (sw l1 i 0) = X) := Lib.hid (by rw [hXe]; exact crash_sw l0_0 l0_1 l1 i hilt gks Gv.out Gap.out)
                          have HY2 : Hid (syncL l0_0 (sw l0_1 i z45) = Y) := Lib.hid (by rw [hYe]; exact sync_sw l0_0 l0_1 i hilt Gv.out Gap.out)
                          have j0 := (blk_cell (STe.out.below HBc.out).1 0).trans rfl
                          have j1 := (blk_cell (STe.out.below HBc.out).1 1).trans rfl
                          have j2 := (blk_cell (blk_below Ne.out HBc.out) 0).trans rfl
                          have j3 := (blk_cell (blk_below Ne.out HBc.out) 1).trans rfl
                          have J0 := Lib.hid j0
                          have J1 := Lib.hid j1
                          have J2 := Lib.hid j2
                          have J3 := Lib.hid j3
                          have CP2 := Lib.hid (Kd.C_below CP.out HBc.out)
                          clear hXe hYe j0 j1 j2 j3
                          go_wp2_with (fail)
                          refine start_ (n := 18) (S := fun w' => w'.cell? ⟨gb102, 0, none⟩ = some (.slice A0_0 l0_0.length c0_0) ∧ w'.cell? ⟨gb102, 1, none⟩ = some (.slice (some ad106) l0_1.length c0_1) ∧ w'.cell? ⟨g12, 0, none⟩ = some (.slice A0_0 l0_0.length c0_0) ∧ w'.cell? ⟨g12, 1, none⟩ = some (.slice (some ⟨g84, 0, none⟩) l0_1.length c84)) (ds := []) #[false, false, false, false, false, false, false, false, false, false, false, false, false, false, false, false, false, false] (by kernel_rfl) rfl rfl ⟨J0.out, J1.out, J2.out, J3.out⟩ ?_
                          intro hHeld
                          refine pure_ (i := 0) (N := some 116) (v := ?_) (a' := ?_) #[true, false, false, false, false, false, false, false, false, false, false, false, false, false, false, false, false, false] rfl rfl (by kernel_rfl) (fun _ _ _ h => h) (Or.inl ⟨by rfl, ?_⟩) ?_ ?_
                          rotate_left
                          · intro w'
                            go_simp
                            try (with_reducible rfl)
                          rotate_left
                          · simp only [Act.put, List.setIfInBounds_toArray, List.set_cons_zero, List.set_cons_succ]
                            rfl
                          refine pure_ (i := 1) (N := some 117) (v := ?_) (a' := ?_) #[true, true, false, false, false, false, false, false, false, false, false, false, false, false, false, false, false, false] rfl rfl (by kernel_rfl) (fun _ _ _ h => h) (Or.inl ⟨by rfl, ?_⟩) ?_ ?_
                          rotate_left
                          · intro w'
                            go_simp
                            try (with_reducible rfl)
                          rotate_left
                          · simp only [Act.put, List.setIfInBounds_toArray, List.set_cons_zero, List.set_cons_succ]
                            rfl
                          refine pure_ (i := 3) (N := some 119) (v := ?_) (a' := ?_) #[true, true, false, true, false, false, false, false, false, false, false, false, false, false, false, false, false, false] rfl rfl (by kernel_rfl) (fun _ _ _ h => h) (Or.inl ⟨by rfl, ?_⟩) ?_ ?_
                          rotate_left
                          · intro w'
                            go_simp
                            try (with_reducible rfl)
                          rotate_left
                          · simp only [Act.put, List.setIfInBounds_toArray, List.set_cons_zero, List.set_cons_succ]
                            rfl
                          refine pure_ (i := 6) (N := some 122) (v := ?_) (a' := ?_) #[true, true, false, true, false, false, true, false, false, false, false, false, false, false, false, false, false, false] rfl rfl (by kernel_rfl) (fun _ _ _ h => h) (Or.inl ⟨by rfl, ?_⟩) ?_ ?_
                          rotate_left
                          · intro w'
                            go_simp
                            try (with_reducible rfl)
                          rotate_left
                          · simp only [Act.put, List.setIfInBounds_toArray, List.set_cons_zero, List.set_cons_succ]
                            rfl
                          refine take_ (i := 2) (N := some 118) (v := ?_) (a' := ?_) #[true, true, true, true, false, false, true, false, false, false, false, false, false, false, false, false, false, false] rfl rfl (by kernel_rfl) (fun _ _ _ h => h) (Or.inl ⟨by rfl, ?_⟩) hHeld ?_ ?_
                          rotate_left
                          · rintro w' ⟨s0, s1, s2, s3⟩
                            go_simp
                            with_reducible rfl
                          rotate_left
                          · simp only [Act.put, List.setIfInBounds_toArray, List.set_cons_zero, List.set_cons_succ]
                            rfl
                          refine take_ (i := 5) (N := some 121) (v := ?_) (a' := ?_) #[true, true, true, true, false, true, true, false, false, false, false, false, false, false, false, false, false, false] rfl rfl (by kernel_rfl) (fun _ _ _ h => h) (Or.inl ⟨by rfl, ?_⟩) hHeld ?_ ?_
                          rotate_left
                          · rintro w' ⟨s0, s1, s2, s3⟩
                            go_simp
                            with_reducible rfl
                          rotate_left
                          · simp only [Act.put, List.setIfInBounds_toArray, List.set_cons_zero, List.set_cons_succ]
                            rfl
                          refine one_ (i := 4) (N := some 120) #[true, true, true, true, true, true, true, false, false, false, false, false, false, false, false, false, false, false] rfl rfl (by kernel_rfl) (by decide) (fun K hK => ?_)
                          refine goes_ Try.func28 (by kernel_rfl) rfl #[.agg #[.slice A0_0 l0_0.length c0_0, .slice (some ad106) l0_1.length c0_1], .slice (some adk) l1.length c1] (by rfl) rfl rfl (by (try simp only [List.map_toArray, List.map_cons, List.map_nil]); first | done | rfl) ?_
                          refine (crash_res l0_0 l0_1 l1 X _ rfl rfl HXe.out.symm (Kd.C_below HR0_0.out (below_drew HBu.out)) HC0_0.out (Kd.C_below HR0_1.out (below_drew HBu.out)) HC0_1.out (Kd.C_below HR1.out (below_drew HBu.out)) HC1.out).mono ?_
                          rintro e w70 ⟨E1, e1, F1, f1, rfl, le1, ce1, cf1, hb70⟩
                          have D70 := Lib.hid (show Below w66.heap.size w66 w70 from below_then (below_drew (Below.refl _ _)) (Nat.le_refl _) hb70)
                          have CE1 := Lib.hid ce1
                          have CF1 := Lib.hid cf1
                          clear ce1 cf1 hb70
                          refine ⟨_, rfl, ?_⟩
                          refine hK.out _ _ ⟨pw_cell_below D70.out J0.out, pw_cell_below D70.out J1.out, pw_cell_below D70.out J2.out, pw_cell_below D70.out J3.out⟩ (fun hHeld => ?_)
                          clear hK K
                          refine norm_ (a' := ?_) ?_ ?_
                          rotate_left
                          · show Act.put _ (some 120) _ = _
                            simp only [Act.put, List.setIfInBounds_toArray, List.set_cons_zero, List.set_cons_succ]
                            rfl
                          refine one_ (i := 7) (N := some 123) #[true, true, true, true, true, true, true, true, false, false, false, false, false, false, false, false, false, false] rfl rfl (by kernel_rfl) (by decide) (fun K hK => ?_)
                          refine goes_ Try.func28 (by kernel_rfl) rfl #[.agg #[.slice A0_0 l0_0.length c0_0, .slice (some ⟨g84, 0, none⟩) l0_1.length c84], .slice (some ⟨g99, 0, none⟩) l1.length c99] (by rfl) rfl rfl (by (try simp only [List.map_toArray, List.map_cons, List.map_nil]); first | done | rfl) ?_
                          refine (crash_res l0_0 (sw l0_1 i z45) (sw l1 i 0) X _ (sw_length _ _ _) (sw_length _ _ _) HX2.out (Kd.C_below HR0_0.out (below_then HBu.out HBu.out.size D70.out)) HC0_0.out (Kd.C_below CP2.out D70.out) hcap (Kd.C_below CK.out D70.out) kcap).mono ?_
                          rintro e w71 ⟨E2, e2, F2, f2, rfl, le2, ce2, cf2, hb71⟩
                          have D71 := Lib.hid (below_then D70.out D70.out.size hb71)
                          have CE11 := Lib.hid (Kd.C_below CE1.out hb71)
                          have CF11 := Lib.hid (Kd.C_below CF1.out hb71)
                          have CE2 := Lib.hid ce2
                          have CF2 := Lib.hid cf2
                          clear ce2 cf2 hb71
                          refine ⟨_, rfl, ?_⟩
                          refine hK.out _ _ ⟨pw_cell_below D71.out J0.out, pw_cell_below D71.out J1.out, pw_cell_below D71.out J2.out, pw_cell_below D71.out J3.out⟩ (fun hHeld => ?_)
                          clear hK K
                          refine norm_ (a' := ?_) ?_ ?_
                          rotate_left
                          · show Act.put _ (some 123) _ = _
                            simp only [Act.put, List.setIfInBounds_toArray, List.set_cons_zero, List.set_cons_succ]
                            rfl
                          refine one_ (i := 8) (N := some 124) #[true, true, true, true, true, true, true, true, true, false, false, false, false, false, false, false, false, false] rfl rfl (by kernel_rfl) (by decide) (fun K hK => ?_)
                          refine goes_ Try.func19 (by kernel_rfl) rfl #[.agg #[.slice E1 X.length e1, .slice F1 0 f1], .agg #[.slice E2 X.length e2, .slice F2 0 f2]] (by rfl) rfl rfl (by (try simp only [List.map_toArray, List.map_cons, List.map_nil]); first | done | rfl) ?_
                          refine (same_self X _ CE11.out le1 CF11.out CE2.out le2 CF2.out).mono ?_
                          rintro e w72 ⟨rfl, hb72⟩
                          have D72 := Lib.hid (below_then D71.out D71.out.size hb72)
                          clear hb72
                          refine ⟨_, rfl, ?_⟩
                          refine hK.out _ _ ⟨pw_cell_below D72.out J0.out, pw_cell_below D72.out J1.out, pw_cell_below D72.out J2.out, pw_cell_below D72.out J3.out⟩ (fun hHeld => ?_)
                          clear hK K
                          refine norm_ (a' := ?_) ?_ ?_
                          rotate_left
                          · show Act.put _ (some 124) _ = _
                            simp only [Act.put, List.setIfInBounds_toArray, List.set_cons_zero, List.set_cons_succ]
                            rfl
                          refine pure_ (i := 9) (N := some 125) (v := ?_) (a' := ?_) #[true, true, true, true, true, true, true, true, true, true, false, false, false, false, false, false, false, false] rfl rfl (by kernel_rfl) (fun _ _ _ h => h) (Or.inl ⟨by rfl, ?_⟩) ?_ ?_
                          rotate_left
                          · intro w'
                            go_simp
                            try (with_reducible rfl)
                          rotate_left
                          · simp only [Act.put, List.setIfInBounds_toArray, List.set_cons_zero, List.set_cons_succ]
                            rfl
                          refine pure_ (i := 10) (N := some 126) (v := ?_) (a' := ?_) #[true, true, true, true, true, true, true, true, true, true, true, false, false, false, false, false, false, false] rfl rfl (by kernel_rfl) (fun _ _ _ h => h) (Or.inl ⟨by rfl, ?_⟩) ?_ ?_
                          rotate_left
                          · intro w'
                            go_simp
                            try (with_reducible rfl)
                          rotate_left
                          · simp only [Act.put, List.setIfInBounds_toArray, List.set_cons_zero, List.set_cons_succ]
                            rfl
                          refine take_ (i := 11) (N := some 127) (v := ?_) (a' := ?_) #[true, true, true, true, true, true, true, true, true, true, true, true, false, false, false, false, false, false] rfl rfl (by kernel_rfl) (fun _ _ _ h => h) (Or.inl ⟨by rfl, ?_⟩) hHeld ?_ ?_
                          rotate_left
                          · rintro w' ⟨s0, s1, s2, s3⟩
                            go_simp
                            with_reducible rfl
                          rotate_left
                          · simp only [Act.put, List.setIfInBounds_toArray, List.set_cons_zero, List.set_cons_succ]
                            rfl
                          refine take_ (i := 13) (N := some 129) (v := ?_) (a' := ?_) #[true, true, true, true, true, true, true, true, true, true, true, true, false, true, false, false, false, false] rfl rfl (by kernel_rfl) (fun _ _ _ h => h) (Or.inl ⟨by rfl, ?_⟩) hHeld ?_ ?_
                          rotate_left
                          · rintro w' ⟨s0, s1, s2, s3⟩
                            go_simp
                            with_reducible rfl
                          rotate_left
                          · simp only [Act.put, List.setIfInBounds_toArray, List.set_cons_zero, List.set_cons_succ]
                            rfl
                          refine one_ (i := 12) (N := some 128) #[true, true, true, true, true, true, true, true, true, true, true, true, true, true, false, false, false, false] rfl rfl (by kernel_rfl) (by decide) (fun K hK => ?_)
                          refine goes_ Try.func26 (by kernel_rfl) rfl #[.agg #[.slice A0_0 l0_0.length c0_0, .slice (some ad106) l0_1.length c0_1]] (by rfl) rfl rfl (by (try simp only [List.map_toArray, List.map_cons, List.map_nil]); first | done | rfl) ?_
                          refine (sync_res l0_0 l0_1 Y _ rfl HYe.out.symm (Kd.C_below HR0_0.out (below_then HBu.out HBu.out.size D72.out)) HC0_0.out (Kd.C_below HR0_1.out (below_then HBu.out HBu.out.size D72.out)) HC0_1.out).mono ?_
                          rintro e w73 ⟨E3, e3, F3, f3, rfl, le3, ce3, cf3, hb73⟩
                          have D73 := Lib.hid (below_then D72.out D72.out.size hb73)
                          have CE3 := Lib.hid ce3
                          have CF3 := Lib.hid cf3
                          clear ce3 cf3 hb73
                          refine ⟨_, rfl, ?_⟩
                          refine hK.out _ _ ⟨pw_cell_below D73.out J0.out, pw_cell_below D73.out J1.out, pw_cell_below D73.out J2.out, pw_cell_below D73.out J3.out⟩ (fun hHeld => ?_)
                          clear hK K
                          refine norm_ (a' := ?_) ?_ ?_
                          rotate_left
                          · show Act.put _ (some 128) _ = _
                            simp only [Act.put, List.setIfInBounds_toArray, List.set_cons_zero, List.set_cons_succ]
                            rfl
                          refine one_ (i := 14) (N := some 130) #[true, true, true, true, true, true, true, true, true, true, true, true, true, true, true, false, false, false] rfl rfl (by kernel_rfl) (by decide) (fun K hK => ?_)
                          refine goes_ Try.func26 (by kernel_rfl) rfl #[.agg #[.slice A0_0 l0_0.length c0_0, .slice (some ⟨g84, 0, none⟩) l0_1.length c84]] (by rfl) rfl rfl (by (try simp only [List.map_toArray, List.map_cons, List.map_nil]); first | done | rfl) ?_
                          refine (sync_res l0_0 (sw l0_1 i z45) Y _ (sw_length _ _ _) HY2.out (Kd.C_below HR0_0.out (below_then HBu.out HBu.out.size D73.out)) HC0_0.out (Kd.C_below CP2.out D73.out) hcap).mono ?_
                          rintro e w74 ⟨E4, e4, F4, f4, rfl, le4, ce4, cf4, hb74⟩
                          have D74 := Lib.hid (below_then D73.out D73.out.size hb74)
                          have CE33 := Lib.hid (Kd.C_below CE3.out hb74)
                          have CF33 := Lib.hid (Kd.C_below CF3.out hb74)
                          have CE4 := Lib.hid ce4
                          have CF4 := Lib.hid cf4
                          clear ce4 cf4 hb74
                          refine ⟨_, rfl, ?_⟩
                          refine hK.out _ _ ⟨pw_cell_below D74.out J0.out, pw_cell_below D74.out J1.out, pw_cell_below D74.out J2.out, pw_cell_below D74.out J3.out⟩ (fun hHeld => ?_)
                          clear hK K
                          refine norm_ (a' := ?_) ?_ ?_
                          rotate_left
                          · show Act.put _ (some 130) _ = _
                            simp only [Act.put, List.setIfInBounds_toArray, List.set_cons_zero, List.set_cons_succ]
                            rfl
                          refine one_ (i := 15) (N := some 131) #[true, true, true, true, true, true, true, true, true, true, true, true, true, true, true, true, false, false] rfl rfl (by kernel_rfl) (by decide) (fun K hK => ?_)
                          refine goes_ Try.func19 (by kernel_rfl) rfl #[.agg #[.slice E3 Y.length e3, .slice F3 0 f3], .agg #[.slice E4 Y.length e4, .slice F4 0 f4]] (by rfl) rfl rfl (by (try simp only [List.map_toArray, List.map_cons, List.map_nil]); first | done | rfl) ?_
                          refine (same_self Y _ CE33.out le3 CF33.out CE4.out le4 CF4.out).mono ?_
                          rintro e w75 ⟨rfl, hb75⟩
                          have D75 := Lib.hid (below_then D74.out D74.out.size hb75)
                          clear hb75
                          refine ⟨_, rfl, ?_⟩
                          refine hK.out _ _ ⟨pw_cell_below D75.out J0.out, pw_cell_below D75.out J1.out, pw_cell_below D75.out J2.out, pw_cell_below D75.out J3.out⟩ (fun hHeld => ?_)
                          clear hK K
                          refine norm_ (a' := ?_) ?_ ?_
                          rotate_left
                          · show Act.put _ (some 131) _ = _
                            simp only [Act.put, List.setIfInBounds_toArray, List.set_cons_zero, List.set_cons_succ]
                            rfl
                          refine pure_ (i := 16) (N := some 132) (v := ?_) (a' := ?_) #[true, true, true, true, true, true, true, true, true, true, true, true, true, true, true, true, true, false] rfl rfl (by kernel_rfl) (fun _ _ _ h => h) (Or.inl ⟨by rfl, ?_⟩) ?_ ?_
                          rotate_left
                          · intro w'
                            go_simp
                            try (with_reducible rfl)
                          rotate_left
                          · simp only [Act.put, List.setIfInBounds_toArray, List.set_cons_zero, List.set_cons_succ]
                            rfl
                          refine pure_ (i := 17) (N := some 6) (v := ?_) (a' := ?_) #[true, true, true, true, true, true, true, true, true, true, true, true, true, true, true, true, true, true] rfl rfl (by kernel_rfl) (fun _ _ _ h => h) (Or.inl ⟨by rfl, ?_⟩) ?_ ?_
                          rotate_left
                          · intro w'
                            go_simp
                            try (with_reducible rfl)
                          rotate_left
                          · simp only [Act.put, List.setIfInBounds_toArray, List.set_cons_zero, List.set_cons_succ]
                            rfl
                          refine done_ (by kernel_rfl) ?_
                          go_wp2
                          go_ret
                          exact ⟨rfl, below_then HBu.out HBu.out.size D75.out⟩
                    · exact c42.elim
                  · exact c41.elim
                · rw [if_neg c40] at H
                  exact absurd H (by simp)
              · rw [if_neg c39] at H
                exact absurd H (by simp)
            · rw [if_neg c37] at H
              exact absurd H (by simp)
          · rw [if_neg c36] at H
            exact absurd H (by simp)

end Go.Proofs.Ytfpdmlhknddffaa.Dk
