/- Walks and laws of package disk: part of the proofs of the Disk statements. -/
import Derived.Test.YtfpdmlhknddffaaD2
import Derived.WalkSpells
namespace Go.Proofs.Ytfpdmlhknddffaa.Dk
open Go.RowKit Go.Proofs.YtfpdmlhknddffaaW.PrintWords Go.Proofs.YtfpdmlhknddffaaW.PrintLast Go.Proofs.YtfpdmlhknddffaaW.PrintMore
set_option linter.unusedVariables false
set_option linter.unusedSimpArgs false

theorem C_int {k : IntKind} {w : World} {A : Option Addr} {n : Nat} {l : List Int} (h0 : Kd.C (Kd.int k) w A n l) (i : Nat) (hi : i < l.length) : ∃ ad, A = some ad ∧ w.cell? (ad.add i) = some (.int k l[i]) := by
  obtain ⟨ad, c, e, hc1, hK, hc⟩ := Kd.C_get h0 0 i (by omega) (by have := h0.1; omega)
  refine ⟨ad, e, ?_⟩
  cases hK
  have hq := hc 0 _ rfl
  have e2 : ((i : Int)).toNat * (Kd.int k).sz + 0 = i := by show ((i : Int)).toNat * 1 + 0 = i; omega
  rw [e2] at hq
  rw [hq]
  simp [List.getD, hi]

theorem R_empty {α : Type} (d : Kd α) (e base g : Nat) (w : World) (ok : Nat → Prop) (hok : ok g) (hb : base ≤ g) (h : w.heap[g]? = some (.cells #[] e (0, 0))) : d.R e w base ok (.slice (some ⟨g, 0, none⟩) 0 0) [] := by
  refine ⟨fun k hk => ?_, [], ⟨by simp, .inr ⟨g, 0, #[], rfl, hb, h, Nat.le_refl _, by unfold maxLen; omega, by simp, by simp⟩⟩, Reps.none _ _⟩
  simp [Value.ownBlock] at hk
  subst hk
  exact hok

set_option maxHeartbeats 400000 in
theorem clone_calls (A0 : Option Addr) (c0 : Nat) (l0 : List Int) (w : World) (h0 : Kd.C (Kd.int .u8) w A0 l0.length l0) (hc0 : l0.length ≤ c0) (hl : l0.length ≤ 140737488355328) :
    Calls Try.prog 45 #[.slice A0 l0.length c0] w fun e w' => ∃ v, e = .returned v ∧ Kd.R (Kd.int .u8) 5 w' w.heap.size (fun _ => True) v l0 ∧ Below w.heap.size w w' := by
  have hu22 := Try.underlying22
  have hnil := fun w => Lib.run_eql_slice_nil (P := Try.prog) w 22 5 A0 l0.length c0 0 0 hu22
  cases A0 with
  | none =>
    have hz : l0 = [] := by
      rcases Nat.eq_zero_or_pos l0.length with h | h
      · exact List.length_eq_zero_iff.1 h
      · obtain ⟨ad, he, _⟩ := h0.2.2 h
        cases he
    subst hz
    have hnil := fun w => Lib.run_eql_slice_nil (P := Try.prog) w 22 5 none 0 c0 0 0 hu22
    go_enter Try.func45, Try.ntmps45
    go_wp2
    go_ret
    exact ⟨_, rfl, Kd.R_nil _ _ _ _ _, Below.refl _ _⟩
  | some ad =>
    go_enter Try.func45, Try.ntmps45
    go_wp2_with (first | ((with_reducible refine gate_dst (N := 7) rfl ?_); refine Kd.R_append_row (w0 := w) (Value.int .u8) (0 : Int) (h1 := fun _ => rfl) w.heap.size rfl (.tmp 5) (.tmp 6) 22 5 (.int .u8 0) 1 rfl hu22 info5 rfl (by decide) (.slice (some ⟨w.heap.size, 0, none⟩) 0 0) [] l0 (some ad) l0.length c0 (fun _ => True) rfl rfl (fun _ _ => trivial) (R_empty _ _ _ _ _ _ trivial (Nat.le_refl _) (blk_new w _)) (Kd.C_alloc h0 _) (below_alloc (Below.refl _ _) _) (by simp) (by simp; omega) ?_; intro v1 w1 hr hb hg hv; have Hr := Lib.hid hr; have Hb := Lib.hid hb; clear hr hb hg hv) )
    go_ret
    exact ⟨_, rfl, Hr.out, Hb.out⟩

theorem pick_calls (i : Int) (A0 : Option Addr) (c0 : Nat) (l0 : List Int) (w : World) (hi : 0 ≤ i) (h0 : Kd.C (Kd.int .i64) w A0 l0.length l0) (hc0 : l0.length ≤ c0) :
    Calls Try.prog 50 #[.int .i64 i, .slice A0 l0.length c0] w fun e w' => e = .returned (.int .i64 (l0.getD i.toNat 0)) ∧ w' = w := by
  have hu26 := Try.underlying26
  have hm := C_max h0
  obtain ⟨n, rfl⟩ := Int.eq_ofNat_of_zero_le hi
  by_cases hlt : n < l0.length
  · obtain ⟨ad, rfl, hq⟩ := C_int h0 n hlt
    go_enter Try.func50, Try.ntmps50
    go_wp2
    go_ret
    exact ⟨by simp [List.getD, hlt], rfl⟩
  · go_enter Try.func50, Try.ntmps50
    go_wp2
    go_ret
    refine ⟨?_, rfl⟩
    simp [List.getD, List.getElem?_eq_none (Nat.le_of_not_lt hlt)]

theorem crash1_calls (i : Int) (A0 : Option Addr) (c0 : Nat) (l0 : List Int) (B : Nat) (w : World) (hi : 0 ≤ i) (hB : w.heap[B]? = some (.cells #[.slice A0 l0.length c0] 26 (0, 0))) (h0 : Kd.C (Kd.int .i64) w A0 l0.length l0) (hc0 : l0.length ≤ c0) :
    Calls Try.prog 49 #[.int .i64 i, .pointer (some ⟨B, 0, none⟩)] w fun e w' => e = .returned (.int .i64 (l0.getD i.toNat 0)) ∧ w' = w := by
  have hu26 := Try.underlying26
  have hq := (blk_cell hB 0).trans rfl
  go_enter Try.func49, Try.ntmps49
  go_wp2_with (go_at_call 50; refine (pick_calls i A0 c0 l0 w hi h0 hc0).mono ?_; rintro e w2 ⟨rfl, rfl⟩)
  go_ret
  exact ⟨rfl, rfl⟩

theorem whole1_calls (i : Nat) (A0 : Option Addr) (n0 c0 : Nat) (A1 : Option Addr) (c1 : Nat) (l1 : List S45) (B : Nat) (w : World) (hi : i < l1.length) (hB : w.heap[B]? = some (.cells #[.slice A0 n0 c0, .slice A1 l1.length c1] 25 (0, 0))) (h1 : Kd.C k45 w A1 l1.length l1) :
    Calls Try.prog 59 #[.int .i64 i, .pointer (some ⟨B, 0, none⟩)] w fun e w' => e = .returned (.int .i64 l1[i].f1.length) ∧ w' = w := by
  have hu25 := Try.underlying25
  have hu45 := Try.underlying45
  have hu23 := Try.underlying23
  have hm := C_max h1
  have hq := (blk_cell hB 1).trans rfl
  obtain ⟨ad, A2, c2, rfl, q0, q1, q2, q3⟩ := C_get45 h1 i hi hi
  go_enter Try.func59, Try.ntmps59
  go_wp2
  go_ret
  exact ⟨rfl, rfl⟩

theorem whole_calls (A0 : Option Addr) (n0 c0 : Nat) (A1 : Option Addr) (n1 c1 : Nat) (w : World) :
    Calls Try.prog 48 #[.agg #[.slice A0 n0 c0, .slice A1 n1 c1]] w fun e w' => ∃ B, e = .returned (.func (.func 59) #[] #[.pointer (some ⟨B, 0, none⟩)]) ∧ w'.heap[B]? = some (.cells #[.slice A0 n0 c0, .slice A1 n1 c1] 25 (0, 0)) ∧ w.heap.size ≤ B ∧ Below w.heap.size w w' := by
  have hu25 := Try.underlying25
  have hmf : ∀ (fn : Fn) (first cap : Array Value) (w : World), (Instr.makeFunc fn first cap).run Try.prog w = .ok (.func fn first cap) w := fun _ _ _ _ => rfl
  go_enter Try.func48, Try.ntmps48
  go_wp2
  go_ret
  exact ⟨_, rfl, blk_new w _, Nat.le_refl _, below_alloc (Below.refl _ _) _⟩
end Go.Proofs.Ytfpdmlhknddffaa.Dk
