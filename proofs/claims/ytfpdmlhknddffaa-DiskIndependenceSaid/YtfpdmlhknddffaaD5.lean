/- Walks and laws of package disk: part of the proofs of the Disk statements. -/
import Derived.Test.YtfpdmlhknddffaaD4
namespace Go.Proofs.Ytfpdmlhknddffaa.Dk
open Go.RowKit Go.Proofs.YtfpdmlhknddffaaW.PrintWords Go.Proofs.YtfpdmlhknddffaaW.PrintLast Go.Proofs.YtfpdmlhknddffaaW.PrintMore
attribute [local go_sem] max2_int min2_int max_two min_two
set_option linter.unusedVariables false
set_option linter.unusedSimpArgs false

theorem R_block {k : IntKind} {e g n cap base : Nat} {ok : Nat → Prop} {w : World} {xs : List Int} (h : Kd.R (Kd.int k) e w base ok (.slice (some ⟨g, 0, none⟩) n cap) xs) :
    ∃ cur : List Value, w.heap[g]? = some (.cells cur.toArray e (0, 0)) ∧ cur.length = cap ∧ n ≤ cap ∧ cap ≤ maxLen ∧ n = xs.length ∧ cur.take n = xs.map (Value.int k) ∧ base ≤ g := by
  have hl := (Kd.R_reads' h).1
  subst hl
  have ho := Kd.own_of_R h
  obtain ⟨h1, h2⟩ := ho
  rcases h2 with ⟨h3, _⟩ | ⟨g', cap', cur, h3, h4, h5, h6, h7, h8, h9⟩
  · cases h3
  · injection h3 with e1 _ e3
    injection e1 with e1
    injection e1 with e1
    subst e1
    subst e3
    refine ⟨cur.toList, by simpa using h5, by simpa using h8, h6, h7, rfl, ?_, h4⟩
    rw [Nat.mul_one] at h9
    rw [h9]
    rfl

theorem R_mk {k : IntKind} {e g cap base : Nat} {ok : Nat → Prop} {w : World} {xs : List Int} {cur : List Value} (hg : w.heap[g]? = some (.cells cur.toArray e (0, 0))) (hc : cur.length = cap) (hn : xs.length ≤ cap) (hm : cap ≤ maxLen)
    (ht : cur.take xs.length = xs.map (Value.int k)) (hb : base ≤ g) (hok : ok g) : Kd.R (Kd.int k) e w base ok (.slice (some ⟨g, 0, none⟩) xs.length cap) xs := by
  refine Kd.R_of_own ⟨by simp [encs], .inr ⟨g, cap, cur.toArray, rfl, hb, hg, hn, hm, by simp [hc], ?_⟩⟩ (fun k hk => ?_)
  · simp [encs, ht]
  · simp [Value.ownBlock] at hk
    subst hk
    exact hok

theorem take_splice {α : Type} (L : List α) (off n : Nat) (cs : List α) (h : off + cs.length ≤ n) (hL : n ≤ L.length) : (splice L off cs).take n = splice (L.take n) off cs := by
  unfold splice
  have e : List.take off (List.take n L) = List.take off L := by rw [List.take_take, Nat.min_eq_left (by omega)]
  have e2 : List.drop (off + cs.length) (List.take n L) = List.take (n - (off + cs.length)) (List.drop (off + cs.length) L) := by rw [List.drop_take]
  rw [e, e2, List.take_append, List.take_append, List.length_take, Nat.min_eq_left (by omega), List.take_take, Nat.min_eq_right (by omega), List.take_of_length_le (l := cs) (by omega)]
  rw [show n - off - cs.length = n - (off + cs.length) from by omega]

theorem region_tail {P : Program} {id : Nat} {Q : Exit → Act → World → Prop} {a : Act} {w : World} {l : List Oper} (n : Nat) (hm : P.follows .mixedOrders = true) (hB : Region.lexTailB .any l.toArray n = true)
    (h : ∀ wd : World, Below w.heap.size w wd → wd.heap = w.heap → wpStill P l.toArray wd (fun a' => wpList P l.toArray Q (l.drop n) a' wd) (l.take n) a) : (Code.region id l.toArray true).wp P Q a w :=
  wp_region_still_tail n hm hB (h w.drew (below_drew (Below.refl _ _)) rfl)

theorem keptN_ite (k : Int) (n : Nat) : (if (n : Int) < (if k < 0 then 0 else k) then (n : Int) else (if k < 0 then 0 else k)) = ((keptN k n : Nat) : Int) := by
  unfold keptN
  split <;> split at * <;> omega

set_option maxHeartbeats 400000 in
theorem apply59_pos (A0 : Option Addr) (c0 : Nat) (l0 : List Int) (A1 : Option Addr) (c1 : Nat) (l1 : List S45) (B : Nat) (w : World) (kept : Nat → Int)
   (h0 : Kd.C (Kd.int .u8) w A0 l0.length l0) (hc0 : l0.length ≤ c0) (h1 : Kd.C k45 w A1 l1.length l1) (hc1 : l1.length ≤ c1) (hv : validB l0 l1 = true) (hpos : 0 < l0.length)
   (hkc : ∀ (i : Nat) (w1 : World), i < l1.length → Below w.heap.size w w1 → Calls Try.prog 59 #[.int .i64 i, .pointer (some ⟨B, 0, none⟩)] w1 fun e w' => e = .returned (.int .i64 (kept i)) ∧ w' = w1) :
    Calls Try.prog 47 #[.agg #[.slice A0 l0.length c0, .slice A1 l1.length c1], .func (.func 59) #[] #[.pointer (some ⟨B, 0, none⟩)]] w fun e w' => ∃ v, e = .returned v ∧ Kd.R (Kd.int .u8) 5 w' w.heap.size (fun _ => True) v (applyL kept l1 l0) ∧ Below w.heap.size w w' := by
  have hu25 := Try.underlying25
  have hu45 := Try.underlying45
  have hu23 := Try.underlying23
  have hu22 := Try.underlying22
  obtain ⟨i5, hi5, _, hs5, _⟩ := info_parts info5
  have hm := C_max h1
  have Hv := (validB_iff l0 l1).1 hv
  have hl0 := Hv.1
  have hl1 := Hv.2.1
  have Hkc := Lib.hid hkc; clear hkc
  go_enter Try.func47, Try.ntmps47
  go_wp2_with (first | ((with_reducible refine gate_dst (N := 2) rfl ?_); (refine box_event ?hg (N := 2) ?hd (cs := #[.slice A0 l0.length c0, .slice A1 l1.length c1]) (t := 25) ?hr ?_); (case hd => rfl); (case hg => rfl); (case hr => first | (go_simp; done) | (go_simp; rfl)); intro g hg w1 hb1 hB1; have hq0 := (blk_cell hb1 0).trans rfl; have hq1 := (blk_cell hb1 1).trans rfl; have HB1 := Lib.hid hB1; have Hb1 := Lib.hid hb1; clear hB1 hb1 hg) | (go_at_call 45; refine (clone_calls A0 c0 l0 w1 (Kd.C_below h0 HB1.out) hc0 (by omega)).mono ?_; rintro e w2 ⟨v, rfl, hr, hb2⟩; obtain ⟨g2, cap2, rfl, hg2b, hg2, cells2, hcells2⟩ := Kd.R_form hr hpos; have hq2 := (blk_cell (blk_below Hb1.out hb2) 0).trans rfl; have hq3 := (blk_cell (blk_below Hb1.out hb2) 1).trans rfl; have HR := Lib.hid hr; have HB2 := Lib.hid (below_then HB1.out HB1.out.size hb2); have Hcells := Lib.hid hcells2; clear hr hb2 hcells2) )
  obtain ⟨cur0, k1, k2, k3, k4, k5, k6, k7⟩ := R_block HR.out
  have hgw : w.heap.size ≤ g2 := Nat.le_trans HB1.out.size k7
  have K1 := Lib.hid k1
  have K6 := Lib.hid k6
  clear k1 k5 k6 hq0 hq1 hq2 hq3
  go_loopg [15] l1.length (fun k v15 wr => ∃ i : Nat, i ≤ l1.length ∧ k = l1.length - i ∧ v15 = .int .i64 i ∧ (∃ cur : List Value, Hid (wr.heap[g2]? = some (.cells cur.toArray 5 (0, 0))) ∧ Hid (cur.length = cap2) ∧ Hid (cur.take l0.length = (applyN kept l1 l0 i).map (Value.int .u8))) ∧ Below w.heap.size w wr)
  case atStart => exact ⟨0, by omega, by omega, rfl, ⟨cur0, K1, Lib.hid k2, K6⟩, HB2.out⟩
  case round =>
    obtain ⟨i, hi, rfl, rfl, ⟨cur, C1, C2, C3⟩, hb⟩ := hrel
    by_cases hlt : i < l1.length
    · have g1 := Kd.C_below h1 hb
      obtain ⟨ad, A2, c2, rfl, q0, q1, q2, q3⟩ := C_get45 g1 i hlt hlt
      obtain ⟨xi, hxi⟩ : ∃ xi, xi = l1[i] := ⟨_, rfl⟩
      have hxm : xi ∈ l1 := by rw [hxi]; exact List.getElem_mem _
      have hxv := Hv.2.2 xi hxm
      rw [← hxi] at q0 q1 q2 q3
      have Hxi := Lib.hid hxi
      clear hxi
      obtain ⟨f0, f1⟩ := xi
      dsimp only at q0 q1 q2 q3 hxv
      have hm2 := C_max q3
      have hge : g2 < wr.heap.size := blk_lt C1.out
      go_wp2_with (fail)
      obtain ⟨wb, hwb⟩ : ∃ wb, wb = wr.alloc (.cells #[.int .i64 f0, .slice A2 f1.length c2] 45) := ⟨_, rfl⟩
      rw [← hwb]
      have hbb : Below wr.heap.size wr wb := by rw [hwb]; exact below_alloc (Below.refl _ _) _
      have hblk : wb.heap[wr.heap.size]? = some (.cells #[.int .i64 f0, .slice A2 f1.length c2] 45 (0, 0)) := by rw [hwb]; exact blk_new _ _
      have hq4 : wb.cell? ⟨wr.heap.size, 0, none⟩ = some (.int .i64 f0) := (blk_cell hblk 0).trans rfl
      have hq5 : wb.cell? ⟨wr.heap.size, 1, none⟩ = some (.slice A2 f1.length c2) := (blk_cell hblk 1).trans rfl
      have Hbb := Lib.hid hbb
      have Hblk := Lib.hid hblk
      clear hwb hbb hblk q0 q1
      go_quiet ((go_at_call 59; exact Calls.quiet_of_same (Hkc.out i _ hlt (pw_below_drewN (below_then hb hb.size Hbb.out) _))))
      rw [keptN_ite (kept i) f1.length]
      have hkn := keptN_le (kept i) f1.length
      obtain ⟨kn, hkk⟩ : ∃ kn, kn = keptN (kept i) f1.length := ⟨_, rfl⟩
      rw [← hkk] at hkn ⊢
      generalize (if kept i < 0 then (0 : Int) else kept i) = mx
      have Hkk := Lib.hid hkk
      clear hkk
      have hcut := cut_from (P := Try.prog) 22 5 .i64 hu22 hi5 1 hs5 (some ⟨g2, 0, none⟩) l0.length cap2 f0 hxv.1 (by omega)
      obtain ⟨dp, hdp⟩ : ∃ dp, dp = (if cap2 = f0.toNat then (some ⟨g2, 0, none⟩ : Option Addr) else (some (⟨g2, 0, none⟩ : Addr)).map (·.add (f0.toNat * 1))) := ⟨_, rfl⟩
      rw [← hdp] at hcut
      have Hdp := Lib.hid hdp
      clear hdp
      have hcut2 := cut3 (P := Try.prog) 22 5 hu22 hi5 A2 f1.length c2 (kn : Int) (kn : Int) (by omega) (by omega) (by omega)
      go_wp2_with (fail)
      refine region_tail 9 (by kernel_rfl) (by kernel_rfl) ?_
      intro wd hbd hhd
      simp only [List.take_succ_cons, List.take_zero, List.drop_succ_cons, List.drop_zero]
      have hq6 : wd.cell? ⟨wr.heap.size, 0, none⟩ = some (.int .i64 f0) := (pw_cell_below hbd (pw_cell_below (pw_below_drewN (Below.refl _ _) nq) hq4))
      have hq7 : wd.cell? ⟨wr.heap.size, 1, none⟩ = some (.slice A2 f1.length c2) := (pw_cell_below hbd (pw_cell_below (pw_below_drewN (Below.refl _ _) nq) hq5))
      have Hbd := Lib.hid (below_then Hbb.out Hbb.out.size (below_then (pw_below_drewN (Below.refl wb.heap.size wb) nq) (Nat.le_refl _) hbd))
      clear hq4 hq5 hbd hhd
      repeat still_step
      refine wpStill_nil ?_
      have hbw : Below w.heap.size w wd := below_then hb hb.size Hbd.out
      have hcl : (((f1.take kn).map (Value.int .u8)).length) = kn := by simp; omega
      have hzn : l0.length ≤ cap2 := k3
      refine wpList_copy_splice rfl (.tmp 31) (.tmp 36) 22 22 rfl 5 hu22 (by rw [hi5]; simp [hs5]) dp A2 (l0.length - f0.toNat) (cap2 - f0.toNat) kn kn rfl rfl g2 f0.toNat cur 5 (blk_below C1.out Hbd.out) ((f1.take kn).map (Value.int .u8)) ?hn ?hp ?hfit ?h1 w.heap.size w hbw hgw ?rest
      case hn => rw [hcl]; show kn = min kn (l0.length - f0.toNat); omega
      case hp =>
        intro hlen
        rw [hcl] at hlen
        refine ⟨?_, ?_⟩
        · rw [Hdp.out, if_neg (by omega)]
          simp [Addr.add]
          intro _; omega
        · obtain ⟨ad2, e2, _⟩ := C_int q3 0 (by omega)
          refine ⟨ad2, e2, ?_⟩
          intro j v hj
          have hj2 : j < kn := by have := (List.getElem?_eq_some_iff.1 hj).1; rw [hcl] at this; exact this
          obtain ⟨ad3, e3, hc3⟩ := C_int (Kd.C_below q3 Hbd.out) j (by omega)
          rw [e2] at e3
          injection e3 with e3
          subst e3
          rw [hc3]
          rw [List.getElem?_map, List.getElem?_take_of_lt hj2, List.getElem?_eq_getElem (by omega)] at hj
          exact hj
      case hfit => rw [hcl, C2.out]; omega
      case h1 =>
        intro v hv
        obtain ⟨z, _, rfl⟩ := List.mem_map.1 hv
        rfl
      case rest =>
        intro w6 h6 hb6
        go_wp2
        go_roundg (l1.length - (i + 1))
        case measure => omega
        case rel =>
          refine ⟨i + 1, by omega, rfl, by go_num, ⟨_, h6, Lib.hid ?_, Lib.hid ?_⟩, hb6⟩
          · rw [splice_length _ _ _ (by rw [hcl, C2.out]; omega)]; exact C2.out
          · have hz : l1.getD i z45 = ⟨f0, f1⟩ := by rw [Hxi.out]; simp [List.getD, hlt]
            show _ = (splice (applyN kept l1 l0 i) (l1.getD i z45).f0.toNat ((l1.getD i z45).f1.take (keptN (kept i) (l1.getD i z45).f1.length))).map _
            rw [hz, take_splice _ _ _ _ (by rw [hcl]; omega) (by rw [C2.out]; omega), C3.out]
            dsimp only
            rw [← Hkk.out]
            unfold splice
            simp
    · obtain rfl : i = l1.length := by omega
      go_wp2
      go_ret
      refine ⟨_, rfl, ?_, hb⟩
      have hlen := applyN_length kept l0 l1 hv l1.length (Nat.le_refl _)
      have := R_mk (k := .u8) (ok := fun _ => True) (base := w.heap.size) (xs := applyL kept l1 l0) C1.out C2.out (by unfold applyL; omega) k4 (by unfold applyL; rw [hlen]; exact C3.out) hgw trivial
      unfold applyL at this ⊢
      rw [hlen] at this
      exact this
set_option maxHeartbeats 400000 in
theorem apply59_nil (A0 : Option Addr) (c0 : Nat) (A1 : Option Addr) (c1 : Nat) (l1 : List S45) (B : Nat) (w : World) (kept : Nat → Int)
   (h0 : Kd.C (Kd.int .u8) w A0 0 []) (h1 : Kd.C k45 w A1 l1.length l1) (hc1 : l1.length ≤ c1) (hv : validB [] l1 = true)
   (hkc : ∀ (i : Nat) (w1 : World), i < l1.length → Below w.heap.size w w1 → Calls Try.prog 59 #[.int .i64 i, .pointer (some ⟨B, 0, none⟩)] w1 fun e w' => e = .returned (.int .i64 (kept i)) ∧ w' = w1) :
    Calls Try.prog 47 #[.agg #[.slice A0 0 c0, .slice A1 l1.length c1], .func (.func 59) #[] #[.pointer (some ⟨B, 0, none⟩)]] w fun e w' => ∃ v, e = .returned v ∧ Kd.R (Kd.int .u8) 5 w' w.heap.size (fun _ => True) v (applyL kept l1 []) ∧ Below w.heap.size w w' := by
  have hu25 := Try.underlying25
  have hu45 := Try.underlying45
  have hu23 := Try.underlying23
  have hu22 := Try.underlying22
  obtain ⟨i5, hi5, _, hs5, _⟩ := info_parts info5
  have hm := C_max h1
  have Hv := (validB_iff [] l1).1 hv
  have hl1 := Hv.2.1
  have Hkc := Lib.hid hkc; clear hkc
  go_enter Try.func47, Try.ntmps47
  go_wp2_with (first | ((with_reducible refine gate_dst (N := 2) rfl ?_); (refine box_event ?hg (N := 2) ?hd (cs := #[.slice A0 0 c0, .slice A1 l1.length c1]) (t := 25) ?hr ?_); (case hd => rfl); (case hg => rfl); (case hr => first | (go_simp; done) | (go_simp; rfl)); intro g hg w1 hb1 hB1; have hq0 := (blk_cell hb1 0).trans rfl; have hq1 := (blk_cell hb1 1).trans rfl; have HB1 := Lib.hid hB1; have Hb1 := Lib.hid hb1; clear hB1 hb1 hg) | (go_at_call 45; refine (clone_calls A0 c0 [] w1 (Kd.C_below h0 HB1.out) (by simp) (by simp)).mono ?_; rintro e w2 ⟨v, rfl, hr, hb2⟩; obtain ⟨A5, cap2, rfl⟩ := Kd.R_slice hr; have hq2 := (blk_cell (blk_below Hb1.out hb2) 0).trans rfl; have hq3 := (blk_cell (blk_below Hb1.out hb2) 1).trans rfl; have HR := Lib.hid hr; have HB2 := Lib.hid (below_then HB1.out HB1.out.size hb2); clear hr hb2) )
  clear hq0 hq1 hq2 hq3
  go_loopg [15] l1.length (fun k v15 wr => ∃ i : Nat, i ≤ l1.length ∧ k = l1.length - i ∧ v15 = .int .i64 i ∧ Below w2.heap.size w2 wr)
  case atStart => exact ⟨0, by omega, by omega, rfl, Below.refl _ _⟩
  case round =>
    obtain ⟨i, hi, rfl, rfl, hb⟩ := hrel
    have hbw := below_then HB2.out HB2.out.size hb
    by_cases hlt : i < l1.length
    · have g1 := Kd.C_below h1 hbw
      obtain ⟨ad, A2, c2, rfl, q0, q1, q2, q3⟩ := C_get45 g1 i hlt hlt
      obtain ⟨xi, hxi⟩ : ∃ xi, xi = l1[i] := ⟨_, rfl⟩
      have hxm : xi ∈ l1 := by rw [hxi]; exact List.getElem_mem _
      have hxv := Hv.2.2 xi hxm
      rw [← hxi] at q0 q1 q2 q3
      clear hxi hxm
      obtain ⟨f0, f1⟩ := xi
      dsimp only at q0 q1 q2 q3 hxv
      obtain rfl : f1 = [] := List.length_eq_zero_iff.1 (by simp at hxv; omega)
      obtain rfl : f0 = 0 := by simp at hxv; omega
      have q4 : wr.cell? ⟨(ad.add (i * 2)).block, (ad.add (i * 2)).off + 1, none⟩ = some (.slice A2 0 c2) := q1
      clear q1
      go_wp2_with (fail)
      obtain ⟨wb, hwb⟩ : ∃ wb, wb = wr.alloc (.cells #[.int .i64 0, .slice A2 0 c2] 45) := ⟨_, rfl⟩
      rw [← hwb]
      have hbb : Below wr.heap.size wr wb := by rw [hwb]; exact below_alloc (Below.refl _ _) _
      have hblk : wb.heap[wr.heap.size]? = some (.cells #[.int .i64 0, .slice A2 0 c2] 45 (0, 0)) := by rw [hwb]; exact blk_new _ _
      have hq4 : wb.cell? ⟨wr.heap.size, 0, none⟩ = some (.int .i64 0) := (blk_cell hblk 0).trans rfl
      have hq5 : wb.cell? ⟨wr.heap.size, 1, none⟩ = some (.slice A2 0 c2) := (blk_cell hblk 1).trans rfl
      have Hbb := Lib.hid hbb
      clear hwb hbb hblk q0 q4
      go_quiet ((go_at_call 59; exact Calls.quiet_of_same (Hkc.out i _ hlt (pw_below_drewN (below_then hbw hbw.size Hbb.out) _))))
      have hz : (if (0 : Int) < (if kept i < 0 then 0 else kept i) then (0 : Int) else (if kept i < 0 then 0 else kept i)) = 0 := by split <;> split at * <;> omega
      rw [hz]
      clear hz
      generalize (if kept i < 0 then (0 : Int) else kept i) = mx
      have hcut := cut_from (P := Try.prog) 22 5 .i64 hu22 hi5 1 hs5 A5 0 cap2 0 (by omega) (by omega)
      obtain ⟨dp, hdp⟩ : ∃ dp, dp = (if cap2 = (0 : Int).toNat then A5 else A5.map (·.add ((0 : Int).toNat * 1))) := ⟨_, rfl⟩
      rw [← hdp] at hcut
      clear hdp
      have hcut2 := cut3 (P := Try.prog) 22 5 hu22 hi5 A2 0 c2 0 0 (by omega) (by omega) (by omega)
      go_wp2_with (fail)
      refine region_tail 9 (by kernel_rfl) (by kernel_rfl) ?_
      intro wd hbd hhd
      simp only [List.take_succ_cons, List.take_zero, List.drop_succ_cons, List.drop_zero]
      have hq6 : wd.cell? ⟨wr.heap.size, 0, none⟩ = some (.int .i64 0) := (pw_cell_below hbd (pw_cell_below (pw_below_drewN (Below.refl _ _) nq) hq4))
      have hq7 : wd.cell? ⟨wr.heap.size, 1, none⟩ = some (.slice A2 0 c2) := (pw_cell_below hbd (pw_cell_below (pw_below_drewN (Below.refl _ _) nq) hq5))
      have Hbd := Lib.hid (below_then Hbb.out Hbb.out.size (below_then (pw_below_drewN (Below.refl wb.heap.size wb) nq) (Nat.le_refl _) hbd))
      clear hq4 hq5 hbd hhd
      repeat still_step
      refine wpStill_nil ?_
      refine wpList_copy_nothing rfl (.tmp 31) (.tmp 36) 22 22 rfl 5 hu22 (by rw [hi5]; simp [hs5]) dp A2 0 cap2 0 0 rfl rfl rfl ?_
      go_wp2
      go_roundg (l1.length - (i + 1))
      case measure => omega
      case rel => exact ⟨i + 1, by omega, rfl, by go_num, below_then hb hb.size Hbd.out⟩
    · go_wp2
      go_ret
      refine ⟨_, rfl, ?_, hbw⟩
      have hlen := applyN_length kept [] l1 hv l1.length (Nat.le_refl _)
      have e : applyL kept l1 [] = [] := List.length_eq_zero_iff.1 hlen
      rw [e]
      exact Kd.R_lower (Kd.R_below HR.out hb) HB1.out.size

theorem apply59_calls (A0 : Option Addr) (c0 : Nat) (l0 : List Int) (A1 : Option Addr) (c1 : Nat) (l1 : List S45) (B : Nat) (w : World) (kept : Nat → Int)
   (h0 : Kd.C (Kd.int .u8) w A0 l0.length l0) (hc0 : l0.length ≤ c0) (h1 : Kd.C k45 w A1 l1.length l1) (hc1 : l1.length ≤ c1) (hv : validB l0 l1 = true)
   (hkc : ∀ (i : Nat) (w1 : World), i < l1.length → Below w.heap.size w w1 → Calls Try.prog 59 #[.int .i64 i, .pointer (some ⟨B, 0, none⟩)] w1 fun e w' => e = .returned (.int .i64 (kept i)) ∧ w' = w1) :
    Calls Try.prog 47 #[.agg #[.slice A0 l0.length c0, .slice A1 l1.length c1], .func (.func 59) #[] #[.pointer (some ⟨B, 0, none⟩)]] w fun e w' => ∃ v, e = .returned v ∧ Kd.R (Kd.int .u8) 5 w' w.heap.size (fun _ => True) v (applyL kept l1 l0) ∧ Below w.heap.size w w' := by
  rcases Nat.eq_zero_or_pos l0.length with h | h
  · obtain rfl := List.length_eq_zero_iff.1 h
    exact apply59_nil A0 c0 A1 c1 l1 B w kept h0 h1 hc1 hv hkc
  · exact apply59_pos A0 c0 l0 A1 c1 l1 B w kept h0 hc0 h1 hc1 hv h hkc

set_option maxHeartbeats 400000 in
theorem apply49_pos (A0 : Option Addr) (c0 : Nat) (l0 : List Int) (A1 : Option Addr) (c1 : Nat) (l1 : List S45) (B : Nat) (w : World) (kept : Nat → Int)
   (h0 : Kd.C (Kd.int .u8) w A0 l0.length l0) (hc0 : l0.length ≤ c0) (h1 : Kd.C k45 w A1 l1.length l1) (hc1 : l1.length ≤ c1) (hv : validB l0 l1 = true) (hpos : 0 < l0.length)
   (hkc : ∀ (i : Nat) (w1 : World), i < l1.length → Below w.heap.size w w1 → Calls Try.prog 49 #[.int .i64 i, .pointer (some ⟨B, 0, none⟩)] w1 fun e w' => e = .returned (.int .i64 (kept i)) ∧ w' = w1) :
    Calls Try.prog 47 #[.agg #[.slice A0 l0.length c0, .slice A1 l1.length c1], .func (.func 49) #[] #[.pointer (some ⟨B, 0, none⟩)]] w fun e w' => ∃ v, e = .returned v ∧ Kd.R (Kd.int .u8) 5 w' w.heap.size (fun _ => True) v (applyL kept l1 l0) ∧ Below w.heap.size w w' := by
  have hu25 := Try.underlying25
  have hu45 := Try.underlying45
  have hu23 := Try.underlying23
  have hu22 := Try.underlying22
  obtain ⟨i5, hi5, _, hs5, _⟩ := info_parts info5
  have hm := C_max h1
  have Hv := (validB_iff l0 l1).1 hv
  have hl0 := Hv.1
  have hl1 := Hv.2.1
  have Hkc := Lib.hid hkc; clear hkc
  go_enter Try.func47, Try.ntmps47
  go_wp2_with (first | ((with_reducible refine gate_dst (N := 2) rfl ?_); (refine box_event ?hg (N := 2) ?hd (cs := #[.slice A0 l0.length c0, .slice A1 l1.length c1]) (t := 25) ?hr ?_); (case hd => rfl); (case hg => rfl); (case hr => first | (go_simp; done) | (go_simp; rfl)); intro g hg w1 hb1 hB1; have hq0 := (blk_cell hb1 0).trans rfl; have hq1 := (blk_cell hb1 1).trans rfl; have HB1 := Lib.hid hB1; have Hb1 := Lib.hid hb1; clear hB1 hb1 hg) | (go_at_call 45; refine (clone_calls A0 c0 l0 w1 (Kd.C_below h0 HB1.out) hc0 (by omega)).mono ?_; rintro e w2 ⟨v, rfl, hr, hb2⟩; obtain ⟨g2, cap2, rfl, hg2b, hg2, cells2, hcells2⟩ := Kd.R_form hr hpos; have hq2 := (blk_cell (blk_below Hb1.out hb2) 0).trans rfl; have hq3 := (blk_cell (blk_below Hb1.out hb2) 1).trans rfl; have HR := Lib.hid hr; have HB2 := Lib.hid (below_then HB1.out HB1.out.size hb2); have Hcells := Lib.hid hcells2; clear hr hb2 hcells2) )
  obtain ⟨cur0, k1, k2, k3, k4, k5, k6, k7⟩ := R_block HR.out
  have hgw : w.heap.size ≤ g2 := Nat.le_trans HB1.out.size k7
  have K1 := Lib.hid k1
  have K6 := Lib.hid k6
  clear k1 k5 k6 hq0 hq1 hq2 hq3
  go_loopg [15] l1.length (fun k v15 wr => ∃ i : Nat, i ≤ l1.length ∧ k = l1.length - i ∧ v15 = .int .i64 i ∧ (∃ cur : List Value, Hid (wr.heap[g2]? = some (.cells cur.toArray 5 (0, 0))) ∧ Hid (cur.length = cap2) ∧ Hid (cur.take l0.length = (applyN kept l1 l0 i).map (Value.int .u8))) ∧ Below w.heap.size w wr)
  case atStart => exact ⟨0, by omega, by omega, rfl, ⟨cur0, K1, Lib.hid k2, K6⟩, HB2.out⟩
  case round =>
    obtain ⟨i, hi, rfl, rfl, ⟨cur, C1, C2, C3⟩, hb⟩ := hrel
    by_cases hlt : i < l1.length
    · have g1 := Kd.C_below h1 hb
      obtain ⟨ad, A2, c2, rfl, q0, q1, q2, q3⟩ := C_get45 g1 i hlt hlt
      obtain ⟨xi, hxi⟩ : ∃ xi, xi = l1[i] := ⟨_, rfl⟩
      have hxm : xi ∈ l1 := by rw [hxi]; exact List.getElem_mem _
      have hxv := Hv.2.2 xi hxm
      rw [← hxi] at q0 q1 q2 q3
      have Hxi := Lib.hid hxi
      clear hxi
      obtain ⟨f0, f1⟩ := xi
      dsimp only at q0 q1 q2 q3 hxv
      have hm2 := C_max q3
      have hge : g2 < wr.heap.size := blk_lt C1.out
      go_wp2_with (fail)
      obtain ⟨wb, hwb⟩ : ∃ wb, wb = wr.alloc (.cells #[.int .i64 f0, .slice A2 f1.length c2] 45) := ⟨_, rfl⟩
      rw [← hwb]
      have hbb : Below wr.heap.size wr wb := by rw [hwb]; exact below_alloc (Below.refl _ _) _
      have hblk : wb.heap[wr.heap.size]? = some (.cells #[.int .i64 f0, .slice A2 f1.length c2] 45 (0, 0)) := by rw [hwb]; exact blk_new _ _
      have hq4 : wb.cell? ⟨wr.heap.size, 0, none⟩ = some (.int .i64 f0) := (blk_cell hblk 0).trans rfl
      have hq5 : wb.cell? ⟨wr.heap.size, 1, none⟩ = some (.slice A2 f1.length c2) := (blk_cell hblk 1).trans rfl
      have Hbb := Lib.hid hbb
      have Hblk := Lib.hid hblk
      clear hwb hbb hblk q0 q1
      go_quiet ((go_at_call 49; exact Calls.quiet_of_same (Hkc.out i _ hlt (pw_below_drewN (below_then hb hb.size Hbb.out) _))))
      rw [keptN_ite (kept i) f1.length]
      have hkn := keptN_le (kept i) f1.length
      obtain ⟨kn, hkk⟩ : ∃ kn, kn = keptN (kept i) f1.length := ⟨_, rfl⟩
      rw [← hkk] at hkn ⊢
      generalize (if kept i < 0 then (0 : Int) else kept i) = mx
      have Hkk := Lib.hid hkk
      clear hkk
      have hcut := cut_from (P := Try.prog) 22 5 .i64 hu22 hi5 1 hs5 (some ⟨g2, 0, none⟩) l0.length cap2 f0 hxv.1 (by omega)
      obtain ⟨dp, hdp⟩ : ∃ dp, dp = (if cap2 = f0.toNat then (some ⟨g2, 0, none⟩ : Option Addr) else (some (⟨g2, 0, none⟩ : Addr)).map (·.add (f0.toNat * 1))) := ⟨_, rfl⟩
      rw [← hdp] at hcut
      have Hdp := Lib.hid hdp
      clear hdp
      have hcut2 := cut3 (P := Try.prog) 22 5 hu22 hi5 A2 f1.length c2 (kn : Int) (kn : Int) (by omega) (by omega) (by omega)
      go_wp2_with (fail)
      refine region_tail 9 (by kernel_rfl) (by kernel_rfl) ?_
      intro wd hbd hhd
      simp only [List.take_succ_cons, List.take_zero, List.drop_succ_cons, List.drop_zero]
      have hq6 : wd.cell? ⟨wr.heap.size, 0, none⟩ = some (.int .i64 f0) := (pw_cell_below hbd (pw_cell_below (pw_below_drewN (Below.refl _ _) nq) hq4))
      have hq7 : wd.cell? ⟨wr.heap.size, 1, none⟩ = some (.slice A2 f1.length c2) := (pw_cell_below hbd (pw_cell_below (pw_below_drewN (Below.refl _ _) nq) hq5))
      have Hbd := Lib.hid (below_then Hbb.out Hbb.out.size (below_then (pw_below_drewN (Below.refl wb.heap.size wb) nq) (Nat.le_refl _) hbd))
      clear hq4 hq5 hbd hhd
      repeat still_step
      refine wpStill_nil ?_
      have hbw : Below w.heap.size w wd := below_then hb hb.size Hbd.out
      have hcl : (((f1.take kn).map (Value.int .u8)).length) = kn := by simp; omega
      have hzn : l0.length ≤ cap2 := k3
      refine wpList_copy_splice rfl (.tmp 31) (.tmp 36) 22 22 rfl 5 hu22 (by rw [hi5]; simp [hs5]) dp A2 (l0.length - f0.toNat) (cap2 - f0.toNat) kn kn rfl rfl g2 f0.toNat cur 5 (blk_below C1.out Hbd.out) ((f1.take kn).map (Value.int .u8)) ?hn ?hp ?hfit ?h1 w.heap.size w hbw hgw ?rest
      case hn => rw [hcl]; show kn = min kn (l0.length - f0.toNat); omega
      case hp =>
        intro hlen
        rw [hcl] at hlen
        refine ⟨?_, ?_⟩
        · rw [Hdp.out, if_neg (by omega)]
          simp [Addr.add]
          intro _; omega
        · obtain ⟨ad2, e2, _⟩ := C_int q3 0 (by omega)
          refine ⟨ad2, e2, ?_⟩
          intro j v hj
          have hj2 : j < kn := by have := (List.getElem?_eq_some_iff.1 hj).1; rw [hcl] at this; exact this
          obtain ⟨ad3, e3, hc3⟩ := C_int (Kd.C_below q3 Hbd.out) j (by omega)
          rw [e2] at e3
          injection e3 with e3
          subst e3
          rw [hc3]
          rw [List.getElem?_map, List.getElem?_take_of_lt hj2, List.getElem?_eq_getElem (by omega)] at hj
          exact hj
      case hfit => rw [hcl, C2.out]; omega
      case h1 =>
        intro v hv
        obtain ⟨z, _, rfl⟩ := List.mem_map.1 hv
        rfl
      case rest =>
        intro w6 h6 hb6
        go_wp2
        go_roundg (l1.length - (i + 1))
        case measure => omega
        case rel =>
          refine ⟨i + 1, by omega, rfl, by go_num, ⟨_, h6, Lib.hid ?_, Lib.hid ?_⟩, hb6⟩
          · rw [splice_length _ _ _ (by rw [hcl, C2.out]; omega)]; exact C2.out
          · have hz : l1.getD i z45 = ⟨f0, f1⟩ := by rw [Hxi.out]; simp [List.getD, hlt]
            show _ = (splice (applyN kept l1 l0 i) (l1.getD i z45).f0.toNat ((l1.getD i z45).f1.take (keptN (kept i) (l1.getD i z45).f1.length))).map _
            rw [hz, take_splice _ _ _ _ (by rw [hcl]; omega) (by rw [C2.out]; omega), C3.out]
            dsimp only
            rw [← Hkk.out]
            unfold splice
            simp
    · obtain rfl : i = l1.length := by omega
      go_wp2
      go_ret
      refine ⟨_, rfl, ?_, hb⟩
      have hlen := applyN_length kept l0 l1 hv l1.length (Nat.le_refl _)
      have := R_mk (k := .u8) (ok := fun _ => True) (base := w.heap.size) (xs := applyL kept l1 l0) C1.out C2.out (by unfold applyL; omega) k4 (by unfold applyL; rw [hlen]; exact C3.out) hgw trivial
      unfold applyL at this ⊢
      rw [hlen] at this
      exact this
set_option maxHeartbeats 400000 in
theorem apply49_nil (A0 : Option Addr) (c0 : Nat) (A1 : Option Addr) (c1 : Nat) (l1 : List S45) (B : Nat) (w : World) (kept : Nat → Int)
   (h0 : Kd.C (Kd.int .u8) w A0 0 []) (h1 : Kd.C k45 w A1 l1.length l1) (hc1 : l1.length ≤ c1) (hv : validB [] l1 = true)
   (hkc : ∀ (i : Nat) (w1 : World), i < l1.length → Below w.heap.size w w1 → Calls Try.prog 49 #[.int .i64 i, .pointer (some ⟨B, 0, none⟩)] w1 fun e w' => e = .returned (.int .i64 (kept i)) ∧ w' = w1) :
    Calls Try.prog 47 #[.agg #[.slice A0 0 c0, .slice A1 l1.length c1], .func (.func 49) #[] #[.pointer (some ⟨B, 0, none⟩)]] w fun e w' => ∃ v, e = .returned v ∧ Kd.R (Kd.int .u8) 5 w' w.heap.size (fun _ => True) v (applyL kept l1 []) ∧ Below w.heap.size w w' := by
  have hu25 := Try.underlying25
  have hu45 := Try.underlying45
  have hu23 := Try.underlying23
  have hu22 := Try.underlying22
  obtain ⟨i5, hi5, _, hs5, _⟩ := info_parts info5
  have hm := C_max h1
  have Hv := (validB_iff [] l1).1 hv
  have hl1 := Hv.2.1
  have Hkc := Lib.hid hkc; clear hkc
  go_enter Try.func47, Try.ntmps47
  go_wp2_with (first | ((with_reducible refine gate_dst (N := 2) rfl ?_); (refine box_event ?hg (N := 2) ?hd (cs := #[.slice A0 0 c0, .slice A1 l1.length c1]) (t := 25) ?hr ?_); (case hd => rfl); (case hg => rfl); (case hr => first | (go_simp; done) | (go_simp; rfl)); intro g hg w1 hb1 hB1; have hq0 := (blk_cell hb1 0).trans rfl; have hq1 := (blk_cell hb1 1).trans rfl; have HB1 := Lib.hid hB1; have Hb1 := Lib.hid hb1; clear hB1 hb1 hg) | (go_at_call 45; refine (clone_calls A0 c0 [] w1 (Kd.C_below h0 HB1.out) (by simp) (by simp)).mono ?_; rintro e w2 ⟨v, rfl, hr, hb2⟩; obtain ⟨A5, cap2, rfl⟩ := Kd.R_slice hr; have hq2 := (blk_cell (blk_below Hb1.out hb2) 0).trans rfl; have hq3 := (blk_cell (blk_below Hb1.out hb2) 1).trans rfl; have HR := Lib.hid hr; have HB2 := Lib.hid (below_then HB1.out HB1.out.size hb2); clear hr hb2) )
  clear hq0 hq1 hq2 hq3
  go_loopg [15] l1.length (fun k v15 wr => ∃ i : Nat, i ≤ l1.length ∧ k = l1.length - i ∧ v15 = .int .i64 i ∧ Below w2.heap.size w2 wr)
  case atStart => exact ⟨0, by omega, by omega, rfl, Below.refl _ _⟩
  case round =>
    obtain ⟨i, hi, rfl, rfl, hb⟩ := hrel
    have hbw := below_then HB2.out HB2.out.size hb
    by_cases hlt : i < l1.length
    · have g1 := Kd.C_below h1 hbw
      obtain ⟨ad, A2, c2, rfl, q0, q1, q2, q3⟩ := C_get45 g1 i hlt hlt
      obtain ⟨xi, hxi⟩ : ∃ xi, xi = l1[i] := ⟨_, rfl⟩
      have hxm : xi ∈ l1 := by rw [hxi]; exact List.getElem_mem _
      have hxv := Hv.2.2 xi hxm
      rw [← hxi] at q0 q1 q2 q3
      clear hxi hxm
      obtain ⟨f0, f1⟩ := xi
      dsimp only at q0 q1 q2 q3 hxv
      obtain rfl : f1 = [] := List.length_eq_zero_iff.1 (by simp at hxv; omega)
      obtain rfl : f0 = 0 := by simp at hxv; omega
      have q4 : wr.cell? ⟨(ad.add (i * 2)).block, (ad.add (i * 2)).off + 1, none⟩ = some (.slice A2 0 c2) := q1
      clear q1
      go_wp2_with (fail)
      obtain ⟨wb, hwb⟩ : ∃ wb, wb = wr.alloc (.cells #[.int .i64 0, .slice A2 0 c2] 45) := ⟨_, rfl⟩
      rw [← hwb]
      have hbb : Below wr.heap.size wr wb := by rw [hwb]; exact below_alloc (Below.refl _ _) _
      have hblk : wb.heap[wr.heap.size]? = some (.cells #[.int .i64 0, .slice A2 0 c2] 45 (0, 0)) := by rw [hwb]; exact blk_new _ _
      have hq4 : wb.cell? ⟨wr.heap.size, 0, none⟩ = some (.int .i64 0) := (blk_cell hblk 0).trans rfl
      have hq5 : wb.cell? ⟨wr.heap.size, 1, none⟩ = some (.slice A2 0 c2) := (blk_cell hblk 1).trans rfl
      have Hbb := Lib.hid hbb
      clear hwb hbb hblk q0 q4
      go_quiet ((go_at_call 49; exact Calls.quiet_of_same (Hkc.out i _ hlt (pw_below_drewN (below_then hbw hbw.size Hbb.out) _))))
      have hz : (if (0 : Int) < (if kept i < 0 then 0 else kept i) then (0 : Int) else (if kept i < 0 then 0 else kept i)) = 0 := by split <;> split at * <;> omega
      rw [hz]
      clear hz
      generalize (if kept i < 0 then (0 : Int) else kept i) = mx
      have hcut := cut_from (P := Try.prog) 22 5 .i64 hu22 hi5 1 hs5 A5 0 cap2 0 (by omega) (by omega)
      obtain ⟨dp, hdp⟩ : ∃ dp, dp = (if cap2 = (0 : Int).toNat then A5 else A5.map (·.add ((0 : Int).toNat * 1))) := ⟨_, rfl⟩
      rw [← hdp] at hcut
      clear hdp
      have hcut2 := cut3 (P := Try.prog) 22 5 hu22 hi5 A2 0 c2 0 0 (by omega) (by omega) (by omega)
      go_wp2_with (fail)
      refine region_tail 9 (by kernel_rfl) (by kernel_rfl) ?_
      intro wd hbd hhd
      simp only [List.take_succ_cons, List.take_zero, List.drop_succ_cons, List.drop_zero]
      have hq6 : wd.cell? ⟨wr.heap.size, 0, none⟩ = some (.int .i64 0) := (pw_cell_below hbd (pw_cell_below (pw_below_drewN (Below.refl _ _) nq) hq4))
      have hq7 : wd.cell? ⟨wr.heap.size, 1, none⟩ = some (.slice A2 0 c2) := (pw_cell_below hbd (pw_cell_below (pw_below_drewN (Below.refl _ _) nq) hq5))
      have Hbd := Lib.hid (below_then Hbb.out Hbb.out.size (below_then (pw_below_drewN (Below.refl wb.heap.size wb) nq) (Nat.le_refl _) hbd))
      clear hq4 hq5 hbd hhd
      repeat still_step
      refine wpStill_nil ?_
      refine wpList_copy_nothing rfl (.tmp 31) (.tmp 36) 22 22 rfl 5 hu22 (by rw [hi5]; simp [hs5]) dp A2 0 cap2 0 0 rfl rfl rfl ?_
      go_wp2
      go_roundg (l1.length - (i + 1))
      case measure => omega
      case rel => exact ⟨i + 1, by omega, rfl, by go_num, below_then hb hb.size Hbd.out⟩
    · go_wp2
      go_ret
      refine ⟨_, rfl, ?_, hbw⟩
      have hlen := applyN_length kept [] l1 hv l1.length (Nat.le_refl _)
      have e : applyL kept l1 [] = [] := List.length_eq_zero_iff.1 hlen
      rw [e]
      exact Kd.R_lower (Kd.R_below HR.out hb) HB1.out.size

theorem apply49_calls (A0 : Option Addr) (c0 : Nat) (l0 : List Int) (A1 : Option Addr) (c1 : Nat) (l1 : List S45) (B : Nat) (w : World) (kept : Nat → Int)
   (h0 : Kd.C (Kd.int .u8) w A0 l0.length l0) (hc0 : l0.length ≤ c0) (h1 : Kd.C k45 w A1 l1.length l1) (hc1 : l1.length ≤ c1) (hv : validB l0 l1 = true)
   (hkc : ∀ (i : Nat) (w1 : World), i < l1.length → Below w.heap.size w w1 → Calls Try.prog 49 #[.int .i64 i, .pointer (some ⟨B, 0, none⟩)] w1 fun e w' => e = .returned (.int .i64 (kept i)) ∧ w' = w1) :
    Calls Try.prog 47 #[.agg #[.slice A0 l0.length c0, .slice A1 l1.length c1], .func (.func 49) #[] #[.pointer (some ⟨B, 0, none⟩)]] w fun e w' => ∃ v, e = .returned v ∧ Kd.R (Kd.int .u8) 5 w' w.heap.size (fun _ => True) v (applyL kept l1 l0) ∧ Below w.heap.size w w' := by
  rcases Nat.eq_zero_or_pos l0.length with h | h
  · obtain rfl := List.length_eq_zero_iff.1 h
    exact apply49_nil A0 c0 A1 c1 l1 B w kept h0 h1 hc1 hv hkc
  · exact apply49_pos A0 c0 l0 A1 c1 l1 B w kept h0 hc0 h1 hc1 hv h hkc

end Go.Proofs.Ytfpdmlhknddffaa.Dk
