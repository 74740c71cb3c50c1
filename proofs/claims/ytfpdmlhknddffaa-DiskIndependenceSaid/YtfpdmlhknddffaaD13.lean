/- Walks and laws of package disk: part of the proofs of the Disk statements. -/
import Derived.Test.YtfpdmlhknddffaaD12
namespace Go.Proofs.Ytfpdmlhknddffaa.Dk
open Go.RowKit Go.Proofs.YtfpdmlhknddffaaW.PrintWords Go.Proofs.YtfpdmlhknddffaaW.PrintLast Go.Proofs.YtfpdmlhknddffaaW.PrintMore
set_option linter.unusedVariables false
set_option linter.unusedSimpArgs false

theorem fit_of {w : World} {A1 : Option Addr} {l1 : List S45} (h1 : Kd.C k45 w A1 l1.length l1) : Fit l1 := by
  refine ⟨C_max h1, fun x hx => ?_⟩
  obtain ⟨i, hi, rfl⟩ := List.getElem_of_mem hx
  obtain ⟨_, _, _, _, _, _, _, q3⟩ := C_get45 h1 i hi hi
  exact C_max q3

set_option maxHeartbeats 800000 in
theorem refRead_no (A0 : Option Addr) (c0 : Nat) (l0 : List Int) (A1 : Option Addr) (c1 : Nat) (l1 : List S45) (a c : Int) (w : World)
   (h0 : Kd.C (Kd.int .u8) w A0 l0.length l0) (hc0 : l0.length ≤ c0) (h1 : Kd.C k45 w A1 l1.length l1) (hc1 : l1.length ≤ c1) (hr : readOk l0 l1 a c = false) :
    Calls Try.prog 24 #[.agg #[.slice A0 l0.length c0, .slice A1 l1.length c1], .int .i64 a, .int .i64 c] w fun e w' => e = .returned (.tuple #[.slice none 0 0, .int .i64 1]) ∧ Below w.heap.size w w' := by
  have hu25 := Try.underlying25
  obtain ⟨kv, hkv⟩ := (valid_ev l0 l1 (fit_of h1)).rounds
  have Hkv := Lib.hid hkv
  have hm0 := C_max h0
  clear hkv
  unfold readOk at hr
  cases hv : validB l0 l1
  · have Hv := Lib.hid hv
    clear hr hv
    go_enter Try.func24, Try.ntmps24
    go_wp2_with (first | ((with_reducible refine gate_dst (N := 3) rfl ?_); (refine box_event ?hg (N := 3) ?hd (cs := #[.slice A0 l0.length c0, .slice A1 l1.length c1]) (t := 25) ?hr ?_); (case hd => rfl); (case hg => rfl); (case hr => first | (go_simp; done) | (go_simp; rfl)); intro g hg w1 hb1 hB1; have hq0 := (blk_cell hb1 0).trans rfl; have hq1 := (blk_cell hb1 1).trans rfl; have HB1 := Lib.hid hB1; have Hb1 := Lib.hid hb1; clear hB1 hb1 hg) | (go_at_call 31; refine (wageofficeref42_Valid.calls kv _ _ l0 _ _ l1 _ _ (Kd.C_below h0 HB1.out) hc0 (Kd.C_below h1 HB1.out) hc1 Hkv.out).mono ?_; rintro e w3 ⟨rfl, hb3⟩; rw [Hv.out]; have HB3 := Lib.hid (below_then HB1.out HB1.out.size hb3); clear hb3 Hb1 hq0 hq1) )
    go_ret2
    exact ⟨rfl, HB3.out⟩
  · rw [hv, Bool.true_and] at hr
    have hn : ¬ (0 ≤ a ∧ 0 ≤ c ∧ a ≤ l0.length ∧ c ≤ l0.length - a) := fun h => by rw [(isPartB_iff _ _ _).2 h] at hr; cases hr
    have Hv := Lib.hid hv
    have hl := ((validB_iff l0 l1).1 hv).1
    clear hr hv
    by_cases e1 : a < 0
    · clear hn
      go_enter Try.func24, Try.ntmps24
      go_wp2_with (first | ((with_reducible refine gate_dst (N := 3) rfl ?_); (refine box_event ?hg (N := 3) ?hd (cs := #[.slice A0 l0.length c0, .slice A1 l1.length c1]) (t := 25) ?hr ?_); (case hd => rfl); (case hg => rfl); (case hr => first | (go_simp; done) | (go_simp; rfl)); intro g hg w1 hb1 hB1; have hq0 := (blk_cell hb1 0).trans rfl; have hq1 := (blk_cell hb1 1).trans rfl; have HB1 := Lib.hid hB1; have Hb1 := Lib.hid hb1; clear hB1 hb1 hg) | (go_at_call 31; refine (wageofficeref42_Valid.calls kv _ _ l0 _ _ l1 _ _ (Kd.C_below h0 HB1.out) hc0 (Kd.C_below h1 HB1.out) hc1 Hkv.out).mono ?_; rintro e w3 ⟨rfl, hb3⟩; rw [Hv.out]; have HB3 := Lib.hid (below_then HB1.out HB1.out.size hb3); clear hb3 Hb1 hq0 hq1) )
      go_ret2
      exact ⟨rfl, HB3.out⟩
    · by_cases e2 : c < 0
      · clear hn
        go_enter Try.func24, Try.ntmps24
        go_wp2_with (first | ((with_reducible refine gate_dst (N := 3) rfl ?_); (refine box_event ?hg (N := 3) ?hd (cs := #[.slice A0 l0.length c0, .slice A1 l1.length c1]) (t := 25) ?hr ?_); (case hd => rfl); (case hg => rfl); (case hr => first | (go_simp; done) | (go_simp; rfl)); intro g hg w1 hb1 hB1; have hq0 := (blk_cell hb1 0).trans rfl; have hq1 := (blk_cell hb1 1).trans rfl; have HB1 := Lib.hid hB1; have Hb1 := Lib.hid hb1; clear hB1 hb1 hg) | (go_at_call 31; refine (wageofficeref42_Valid.calls kv _ _ l0 _ _ l1 _ _ (Kd.C_below h0 HB1.out) hc0 (Kd.C_below h1 HB1.out) hc1 Hkv.out).mono ?_; rintro e w3 ⟨rfl, hb3⟩; rw [Hv.out]; have HB3 := Lib.hid (below_then HB1.out HB1.out.size hb3); clear hb3 Hb1 hq0 hq1) )
        go_ret2
        exact ⟨rfl, HB3.out⟩
      · by_cases e3 : a > (l0.length : Int)
        all_goals
          have e0 : 0 ≤ a := by omega
          have e00 : 0 ≤ c := by omega
        · clear hn
          go_enter Try.func24, Try.ntmps24
          go_wp2_with (first | ((with_reducible refine gate_dst (N := 3) rfl ?_); (refine box_event ?hg (N := 3) ?hd (cs := #[.slice A0 l0.length c0, .slice A1 l1.length c1]) (t := 25) ?hr ?_); (case hd => rfl); (case hg => rfl); (case hr => first | (go_simp; done) | (go_simp; rfl)); intro g hg w1 hb1 hB1; have HB1 := Lib.hid hB1; have Hb1 := Lib.hid hb1; have hq0 := (blk_cell hb1 0).trans rfl; have hq1 := (blk_cell hb1 1).trans rfl; clear hB1 hb1 hg) | (go_at_call 31; refine (wageofficeref42_Valid.calls kv _ _ l0 _ _ l1 _ _ (Kd.C_below h0 HB1.out) hc0 (Kd.C_below h1 HB1.out) hc1 Hkv.out).mono ?_; rintro e w3 ⟨rfl, hb3⟩; rw [Hv.out]; clear hq0 hq1; have hq0 := (blk_cell (blk_below Hb1.out hb3) 0).trans rfl; have HB3 := Lib.hid (below_then HB1.out HB1.out.size hb3); clear hb3 Hb1) )
          go_ret2
          exact ⟨rfl, HB3.out⟩
        · have e4 : c > (l0.length : Int) - a := by omega
          have e5 : a ≤ (l0.length : Int) := by omega
          clear hn
          go_enter Try.func24, Try.ntmps24
          go_wp2_with (first | ((with_reducible refine gate_dst (N := 3) rfl ?_); (refine box_event ?hg (N := 3) ?hd (cs := #[.slice A0 l0.length c0, .slice A1 l1.length c1]) (t := 25) ?hr ?_); (case hd => rfl); (case hg => rfl); (case hr => first | (go_simp; done) | (go_simp; rfl)); intro g hg w1 hb1 hB1; have HB1 := Lib.hid hB1; have Hb1 := Lib.hid hb1; have hq0 := (blk_cell hb1 0).trans rfl; have hq1 := (blk_cell hb1 1).trans rfl; clear hB1 hb1 hg) | (go_at_call 31; refine (wageofficeref42_Valid.calls kv _ _ l0 _ _ l1 _ _ (Kd.C_below h0 HB1.out) hc0 (Kd.C_below h1 HB1.out) hc1 Hkv.out).mono ?_; rintro e w3 ⟨rfl, hb3⟩; rw [Hv.out]; clear hq0 hq1; have hq0 := (blk_cell (blk_below Hb1.out hb3) 0).trans rfl; have HB3 := Lib.hid (below_then HB1.out HB1.out.size hb3); clear hb3 Hb1) )
          go_ret2
          exact ⟨rfl, HB3.out⟩

theorem field25 (u v : Value) (W : World) : (Instr.field 25 (.agg #[u, v]) 0).run Try.prog W = .ok u W := by
  have hu25 := Try.underlying25
  have hu22 := Try.underlying22
  simp [Instr.field, run_underlying hu25, run_underlying hu22, part, isAgg, asAgg, Result.andThen]

theorem field25b (u v : Value) (W : World) : (Instr.field 25 (.agg #[u, v]) 1).run Try.prog W = .ok v W := by
  have hu25 := Try.underlying25
  have hu23 := Try.underlying23
  simp [Instr.field, run_underlying hu25, run_underlying hu23, part, isAgg, asAgg, Result.andThen]

set_option maxHeartbeats 800000 in
theorem refRead_yes (A0 : Option Addr) (c0 : Nat) (l0 : List Int) (A1 : Option Addr) (c1 : Nat) (l1 : List S45) (a c : Int) (w : World)
   (h0 : Kd.C (Kd.int .u8) w A0 l0.length l0) (hc0 : l0.length ≤ c0) (h1 : Kd.C k45 w A1 l1.length l1) (hc1 : l1.length ≤ c1) (hr : readOk l0 l1 a c = true) :
    Calls Try.prog 24 #[.agg #[.slice A0 l0.length c0, .slice A1 l1.length c1], .int .i64 a, .int .i64 c] w fun e w' => ∃ v, e = .returned (.tuple #[v, .int .i64 0]) ∧ Kd.Q (Kd.int .u8) 5 w' w.heap.size (fun _ => True) v (((syncL l0 l1).take (a + c).toNat).drop a.toNat) ∧ Below w.heap.size w w' := by
  have hu25 := Try.underlying25
  have hu22 := Try.underlying22
  obtain ⟨i5, hi5, _, hs5, _⟩ := info_parts info5
  obtain ⟨kv, hkv⟩ := (valid_ev l0 l1 (fit_of h1)).rounds
  have Hkv := Lib.hid hkv
  clear hkv
  unfold readOk at hr
  rw [Bool.and_eq_true] at hr
  have hl := ((validB_iff l0 l1).1 hr.1).1
  obtain ⟨ks, hks⟩ := (sync_ev l0 l1 (fit_of h1) (by omega)).rounds
  have Hks := Lib.hid hks
  clear hks
  obtain ⟨e0, e00, e1, e2⟩ := (isPartB_iff _ _ _).1 hr.2
  have hwr : IntKind.i64.wrap (a + c) = a + c := IntWalk.i64_in _ (by omega)
  have hlen : (syncL l0 l1).length = l0.length := by
    unfold syncL
    rw [if_pos hr.1]
    exact applyN_length _ l0 l1 hr.1 l1.length (Nat.le_refl _)
  have hac : 0 ≤ a + c := by omega
  have hac2 : a ≤ a + c := by omega
  have Hv := Lib.hid hr.1
  have Hlen := Lib.hid hlen
  have hfd := field25
  clear hr hlen
  go_enter Try.func24, Try.ntmps24
  go_wp2_with (first | ((with_reducible refine gate_dst (N := 3) rfl ?_); (refine box_event ?hg (N := 3) ?hd (cs := #[.slice A0 l0.length c0, .slice A1 l1.length c1]) (t := 25) ?hr ?_); (case hd => rfl); (case hg => rfl); (case hr => first | (go_simp; done) | (go_simp; rfl)); intro g hg w1 hb1 hB1; have HB1 := Lib.hid hB1; have Hb1 := Lib.hid hb1; have hq0 := (blk_cell hb1 0).trans rfl; have hq1 := (blk_cell hb1 1).trans rfl; clear hB1 hb1 hg) | (go_at_call 31; refine (wageofficeref42_Valid.calls kv _ _ l0 _ _ l1 _ _ (Kd.C_below h0 HB1.out) hc0 (Kd.C_below h1 HB1.out) hc1 Hkv.out).mono ?_; rintro e w3 ⟨rfl, hb3⟩; rw [Hv.out]; clear hq0 hq1; have hq0 := (blk_cell (blk_below Hb1.out hb3) 0).trans rfl; have hq1 := (blk_cell (blk_below Hb1.out hb3) 1).trans rfl; have HB3 := Lib.hid (below_then HB1.out HB1.out.size hb3); clear hb3 Hb1) | (go_at_call 27; refine (wageofficeref42_Sync.calls ks _ _ l0 _ _ l1 _ _ _ (Kd.C_below h0 HB3.out) hc0 (Kd.C_below h1 HB3.out) hc1 Hks.out).mono ?_; rintro e w4 ⟨v0, v1, rfl, hr4, hs4, hb4⟩; obtain ⟨A5, cap5, rfl⟩ := Kd.R_slice hr4; obtain ⟨A6, n6, cap6, rfl⟩ := S_any hs4; have hn5 := (Kd.R_reads' hr4).2.1; have hcut := cut_mid (P := Try.prog) 22 5 .i64 .i64 hu22 hi5 1 hs5 A5 (syncL l0 l1).length cap5 a (a + c) e0 hac2 (by rw [Hlen.out]; omega) hn5; obtain ⟨dp, hdp⟩ : ∃ dp, dp = (if cap5 = a.toNat then A5 else A5.map (·.add (a.toNat * 1))) := ⟨_, rfl⟩; rw [← hdp] at hcut; have HQ : Hid (Kd.Q (Kd.int .u8) 5 w4 w3.heap.size (fun _ => True) (.slice dp ((a + c).toNat - a.toNat) (cap5 - a.toNat)) (((syncL l0 l1).take (a + c).toNat).drop a.toNat)) := (Lib.hid (by rw [hdp]; exact Kd.Q_drop (Kd.Q_take (Kd.Q_of_R hr4) (by rw [Hlen.out]; omega)) (by rw [List.length_take, Hlen.out]; omega))); have HB4 := Lib.hid (below_then HB3.out HB3.out.size hb4); have HL4 := Lib.hid (HB3.out.size); clear hb4 hr4 hs4 hn5 hdp) )
  go_ret2
  exact ⟨_, rfl, Kd.Q_lower HQ.out HL4.out, HB4.out⟩

theorem wageofficeref42_Read.calls (A0_0 : Option Addr) (c0_0 : Nat) (l0_0 : List Int) (A0_1 : Option Addr) (c0_1 : Nat) (l0_1 : List (S45)) (a1 : Int) (a2 : Int) (r1 : List Int) (r2 : Int) (w : World) (hr0_0 : Kd.C (Kd.int .u8) w A0_0 l0_0.length l0_0) (hc0_0 : l0_0.length ≤ c0_0) (hr0_1 : Kd.C k45 w A0_1 l0_1.length l0_1) (hc0_1 : l0_1.length ≤ c0_1) (h : wageofficeref42_Read.f l0_0 l0_1 a1 a2 = some (r1, r2)) :
    Calls Try.prog 24 #[.agg #[.slice A0_0 l0_0.length c0_0, .slice A0_1 l0_1.length c0_1], .int .i64 a1, .int .i64 a2] w fun e w' => ∃ v0_ : Value, e = .returned (.tuple #[v0_, .int .i64 r2]) ∧ Kd.Q (Kd.int .u8) 5 w' w.heap.size (fun _ => True) v0_ r1 ∧ Below w.heap.size w w' := by
  unfold wageofficeref42_Read.f at h
  injection h with h
  obtain ⟨rfl, rfl⟩ := h
  cases hr : readOk l0_0 l0_1 a1 a2
  · refine (refRead_no _ _ l0_0 _ _ l0_1 a1 a2 w hr0_0 hc0_0 hr0_1 hc0_1 hr).mono ?_
    rintro e w' ⟨rfl, hb⟩
    refine ⟨_, rfl, ?_, hb⟩
    unfold readL
    rw [hr, if_neg (by simp)]
    exact Kd.Q_nil _ _ _ _ _
  · refine (refRead_yes _ _ l0_0 _ _ l0_1 a1 a2 w hr0_0 hc0_0 hr0_1 hc0_1 hr).mono ?_
    rintro e w' ⟨v, rfl, hq, hb⟩
    refine ⟨_, rfl, ?_, hb⟩
    unfold readL
    unfold readOk at hr
    rw [Bool.and_eq_true] at hr
    unfold syncL at hq
    rw [if_pos hr.1] at hq
    unfold readOk
    rw [hr.1, hr.2, Bool.and_self, if_pos rfl]
    exact hq
end Go.Proofs.Ytfpdmlhknddffaa.Dk
