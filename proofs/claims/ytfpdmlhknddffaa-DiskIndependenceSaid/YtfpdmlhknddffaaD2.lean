/- Walks and laws of package disk: part of the proofs of the Disk statements. -/
import Derived.Test.YtfpdmlhknddffaaD1
namespace Go.Proofs.Ytfpdmlhknddffaa.Dk
open Go.RowKit Go.Proofs.YtfpdmlhknddffaaW.PrintWords Go.Proofs.YtfpdmlhknddffaaW.PrintLast Go.Proofs.YtfpdmlhknddffaaW.PrintMore
set_option linter.unusedVariables false
set_option linter.unusedSimpArgs false

theorem C_get45 {w : World} {A : Option Addr} {n : Nat} {xs : List S45} (h : Kd.C k45 w A n xs) (i : Nat) (h1 : i < xs.length) (h2 : i < n) : ∃ ad A1 c1, A = some ad ∧ w.cell? (ad.add (i * 2)) = some (.int .i64 (xs[i]).f0) ∧ w.cell? (⟨(ad.add (i * 2)).block, (ad.add (i * 2)).off + 1, none⟩) = some (.slice A1 (xs[i]).f1.length c1) ∧ (xs[i]).f1.length ≤ c1 ∧ (Kd.int .u8).C w A1 (xs[i]).f1.length (xs[i]).f1 := by
  have h3 := at_T45 h i (by omega) (by omega)
  have h4 : rd_T45 xs i = xs[i] := by unfold rd_T45; simp [List.getD, h1]
  rw [h4] at h3
  simpa using h3

theorem C_len {α : Type} {d : Kd α} {w : World} {A : Option Addr} {n : Nat} {xs : List α} (h : Kd.C d w A n xs) : xs.length = n := h.1
theorem C_max {α : Type} {d : Kd α} {w : World} {A : Option Addr} {n : Nat} {xs : List α} (h : Kd.C d w A n xs) : n ≤ 9223372036854775807 := h.2.1

set_option maxHeartbeats 400000 in
theorem indexFunc_calls (A1 : Option Addr) (c1 : Nat) (l1 : List S45) (B : Nat) (w : World) (p : S45 → Bool)
   (h1 : Kd.C k45 w A1 l1.length l1) (hc1 : l1.length ≤ c1)
   (hp : ∀ (x : S45) (cs : List Value) (w1 : World), Below w.heap.size w w1 → k45.K w1 x cs → Calls Try.prog 58 #[.agg cs.toArray, .pointer (some ⟨B, 0, none⟩)] w1 fun e w' => e = .returned (.bool (p x)) ∧ Below w1.heap.size w1 w') :
    Calls Try.prog 65 #[.slice A1 l1.length c1, .func (.func 58) #[] #[.pointer (some ⟨B, 0, none⟩)]] w fun e w' => ∃ n : Int, e = .returned (.int .i64 n) ∧ (decide (0 ≤ n) = l1.any p) ∧ Below w.heap.size w w' := by
  have hu45 := Try.underlying45
  have hm := C_max h1
  have Hp := Lib.hid hp; clear hp
  go_enter Try.func65, Try.ntmps65
  go_wp2
  go_loopg [8] l1.length (fun k v8 wr => ∃ i : Nat, i ≤ l1.length ∧ k = l1.length - i ∧ v8 = .int .i64 i ∧ Hid (∀ j (hj : j < l1.length), j < i → p l1[j] = false) ∧ Below w.heap.size w wr)
  case atStart => exact ⟨0, by omega, by omega, rfl, Lib.hid (by intro j hj h; omega), Below.refl _ _⟩
  case round =>
    obtain ⟨i, hi, rfl, rfl, hall, hb⟩ := hrel
    by_cases hlt : i < l1.length
    · have g1 := Kd.C_below h1 hb
      obtain ⟨ad, A2, c2, rfl, q0, q1, q2, q3⟩ := C_get45 g1 i hlt hlt
      have hk : k45.K wr l1[i] [.int .i64 l1[i].f0, .slice A2 l1[i].f1.length c2] := k45_mk wr l1[i] q2 q3
      have Hk := Lib.hid hk
      clear hk
      cases hpx : p l1[i]
      all_goals
        have Hx := Lib.hid hpx
        clear hpx
        go_wp2_with (go_at_call 58; refine (Hp.out l1[i] _ wr hb Hk.out).mono ?_; rintro e w2 ⟨rfl, hb2⟩; rw [Hx.out])
      · go_roundg (l1.length - (i + 1))
        case measure => omega
        case rel =>
          refine ⟨i + 1, by omega, rfl, by go_num, Lib.hid ?_, below_then hb hb.size hb2⟩
          intro j hj hji
          by_cases e : j = i
          · subst e; exact Hx.out
          · exact hall.out j hj (by omega)
      · go_ret
        refine ⟨i, rfl, ?_, below_then hb hb.size hb2⟩
        rw [List.any_eq_true.2 ⟨l1[i], List.getElem_mem _, Hx.out⟩]
        simp
    · go_wp2
      go_ret
      refine ⟨-1, rfl, ?_, hb⟩
      have : l1.any p = false := by
        rw [List.any_eq_false]
        intro x hx
        obtain ⟨j, hj, rfl⟩ := List.getElem_of_mem hx
        rw [hall.out j hj (by omega)]
        simp
      rw [this]
      simp

set_option maxHeartbeats 400000 in
theorem containsFunc_calls (A1 : Option Addr) (c1 : Nat) (l1 : List S45) (B : Nat) (w : World) (p : S45 → Bool)
   (h1 : Kd.C k45 w A1 l1.length l1) (hc1 : l1.length ≤ c1)
   (hp : ∀ (x : S45) (cs : List Value) (w1 : World), Below w.heap.size w w1 → k45.K w1 x cs → Calls Try.prog 58 #[.agg cs.toArray, .pointer (some ⟨B, 0, none⟩)] w1 fun e w' => e = .returned (.bool (p x)) ∧ Below w1.heap.size w1 w') :
    Calls Try.prog 57 #[.slice A1 l1.length c1, .func (.func 58) #[] #[.pointer (some ⟨B, 0, none⟩)]] w fun e w' => e = .returned (.bool (l1.any p)) ∧ Below w.heap.size w w' := by
  have Hp := Lib.hid hp; clear hp
  go_enter Try.func57, Try.ntmps57
  go_wp2_with (go_at_call 65; refine (indexFunc_calls _ _ l1 B _ p h1 hc1 Hp.out).mono ?_; rintro e w2 ⟨n, rfl, hn, hb2⟩; have Hn := Lib.hid hn; clear hn)
  go_ret
  exact ⟨by rw [← Hn.out]; rfl, hb2⟩

/-- the validity of a disk -/
def validB (l0 : List Int) (l1 : List S45) : Bool := decide (l0.length ≤ 65536) && decide (l1.length ≤ 64) && !l1.any fun x => !isPartB l0.length x.f0 x.f1.length

set_option maxHeartbeats 400000 in
theorem disk_isValid_calls (A0 : Option Addr) (c0 : Nat) (l0 : List Int) (A1 : Option Addr) (c1 : Nat) (l1 : List S45) (w : World)
   (h0 : Kd.C (Kd.int .u8) w A0 l0.length l0) (hc0 : l0.length ≤ c0) (h1 : Kd.C k45 w A1 l1.length l1) (hc1 : l1.length ≤ c1) :
    Calls Try.prog 43 #[.agg #[.slice A0 l0.length c0, .slice A1 l1.length c1]] w fun e w' => e = .returned (.bool (validB l0 l1)) ∧ Below w.heap.size w w' := by
  have hu25 := Try.underlying25
  have hmf : ∀ (fn : Fn) (first cap : Array Value) (w : World), (Instr.makeFunc fn first cap).run Try.prog w = .ok (.func fn first cap) w := fun _ _ _ _ => rfl
  unfold validB
  by_cases ha : l0.length ≤ 65536
  · by_cases hb : l1.length ≤ 64
    · have e1 : decide (65536 < l0.length) = false := by simp; omega
      have e2 : decide (64 < l1.length) = false := by simp; omega
      go_enter Try.func43, Try.ntmps43
      go_wp2_with (first | ((with_reducible refine gate_dst (N := 1) rfl ?_); (refine box_event ?hg (N := 1) ?hd (cs := #[.slice A0 l0.length c0, .slice A1 l1.length c1]) (t := 25) ?hr ?_); (case hd => rfl); (case hg => rfl); (case hr => first | (go_simp; done) | (go_simp; rfl)); intro g hg w1 hb1 hB1; have hq0 := (blk_cell hb1 0).trans rfl; have hq1 := (blk_cell hb1 1).trans rfl; have HB1 := Lib.hid hB1; have Hb1 := Lib.hid hb1; clear hB1 hb1 hg) | (go_at_call 57; refine (containsFunc_calls A1 c1 l1 g w1 (fun x => !isPartB l0.length x.f0 x.f1.length) (Kd.C_below h1 HB1.out) hc1 (fun x cs w3 hb3 hx => isValid1_calls A0 c0 l0 A1 c1 l1 g w3 x cs (blk_below Hb1.out hb3) (Kd.C_below (Kd.C_below h0 HB1.out) hb3) hc0 (Kd.C_below (Kd.C_below h1 HB1.out) hb3) hc1 (by unfold maxLen; omega) hx)).mono ?_; rintro e w2 ⟨rfl, hb2⟩) )
      go_ret
      exact ⟨by simp [ha, hb], below_then HB1.out HB1.out.size hb2⟩
    · have e1 : decide (65536 < l0.length) = false := by simp; omega
      have e2 : decide (64 < l1.length) = true := by simp; omega
      go_enter Try.func43, Try.ntmps43
      go_wp2_with (first | ((with_reducible refine gate_dst (N := 1) rfl ?_); (refine box_event ?hg (N := 1) ?hd (cs := #[.slice A0 l0.length c0, .slice A1 l1.length c1]) (t := 25) ?hr ?_); (case hd => rfl); (case hg => rfl); (case hr => first | (go_simp; done) | (go_simp; rfl)); intro g hg w1 hb1 hB1; have hq0 := (blk_cell hb1 0).trans rfl; have hq1 := (blk_cell hb1 1).trans rfl; have HB1 := Lib.hid hB1; clear hB1 hb1 hg) )
      go_ret
      exact ⟨by simp [ha, hb], HB1.out⟩
  · have e1 : decide (65536 < l0.length) = true := by simp; omega
    go_enter Try.func43, Try.ntmps43
    go_wp2_with (first | ((with_reducible refine gate_dst (N := 1) rfl ?_); (refine box_event ?hg (N := 1) ?hd (cs := #[.slice A0 l0.length c0, .slice A1 l1.length c1]) (t := 25) ?hr ?_); (case hd => rfl); (case hg => rfl); (case hr => first | (go_simp; done) | (go_simp; rfl)); intro g hg w1 hb1 hB1; have hq0 := (blk_cell hb1 0).trans rfl; have hq1 := (blk_cell hb1 1).trans rfl; have HB1 := Lib.hid hB1; clear hB1 hb1 hg) )
    go_ret
    exact ⟨by simp [ha], HB1.out⟩
end Go.Proofs.Ytfpdmlhknddffaa.Dk
