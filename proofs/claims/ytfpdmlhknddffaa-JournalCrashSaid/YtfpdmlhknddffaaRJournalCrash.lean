/- Proved: for every input the law returns true and each argument reads as it did. No conditions beyond the given row. -/
import Derived.Test.YtfpdmlhknddffaaG7
namespace Go.Proofs.Ytfpdmlhknddffaa.journalCrash
open Go.ChangeShapes Go.WideShapes Go.ChangeAt Go.RowKit Go.Joins Go.Proofs.Ytfpdmlhknddffaa.Dk
open Go.ChangeMaps (open_string shut_string)
open Go.Proofs.YtfpdmlhknddffaaW.PrintWords
set_option linter.unusedVariables false
theorem own : ownKnob Try.prog.godebug = none := by kernel_rfl
set_option maxRecDepth 100000 in
theorem lifted (os : Os) (started : os.Started) (H : Type) (enc : TypeId × Value → H) :
 ReturnsInHanded {} Try.checked os 15 .any (Rows.journalCrashSpec.pre6 enc Try.prog Try.f15 Rows.journalCrashRow.domain false) (Rows.journalCrashSpec.post enc Try.prog Try.f15 false true false false) := by
 refine returnsInHanded_of_change_sized (C := Try.checked) own started (by kernel_rfl) Try.func15
  (ChangeSpec.witness6 (enc := enc) (C := Try.checked) false ⟨#[], #[.agg #[.slice none 0 0, .slice none 0 0], .slice none 0 0, .slice none 0 0, .int .u8 0, .int .u16 0], []⟩ 8 (by kernel_rfl) (by kernel_rfl) (by kernel_rfl) (by kernel_rfl)) ?_
 intro W base args ds gs before hval0 hW hcnd hsz0 _
 have hval : ∀ (j : Nat) t v, Try.f15.params[j]? = some t → args[j]? = some v → Value.okWide Try.prog W .any base t v := hval0
 have hW' := hW
 obtain ⟨p, q, hA0, hV, rfl, hfz, hnd⟩ := hW
 have hA : DataW.TrodAll enc Try.prog W 0 (fun _ => true) true Try.f15.params.toList args.toList ds p := hA0
 rw [Try.params15] at hA hval
 obtain ⟨v0, vs0, d0, ds0, p0, q0, hargs, rfl, rfl, h0, r0⟩ := trodAll_cons hA
 obtain ⟨v1, vs1, d1, ds1, p1, q1, rfl, rfl, rfl, h1, r1⟩ := trodAll_cons r0
 obtain ⟨v2, vs2, d2, ds2, p2, q2, rfl, rfl, rfl, h2, r2⟩ := trodAll_cons r1
 obtain ⟨v3, vs3, d3, ds3, p3, q3, rfl, rfl, rfl, h3, r3⟩ := trodAll_cons r2
 obtain ⟨v4, vs4, d4, ds4, p4, q4, rfl, rfl, rfl, h4, r4⟩ := trodAll_cons r3
 obtain ⟨rfl, rfl, rfl⟩ := trodAll_nil r4
 obtain rfl : args = #[v0, v1, v2, v3, v4] := by cases args; simp_all
 obtain ⟨rfl, rfl⟩ := trodVars_none hV
 have k0 := h0
 have lt0 : ∀ x ∈ p0, x.block < W.heap.size := by obtain ⟨m, hm⟩ := k0; exact DataW.trod_lt m _ _ _ hm
 obtain ⟨A0_0, A0_1, c0_0, c0_1, l0_0, l0_1, rfl, hr0_0, hc0_0, hr0_1, hc0_1, hn0, hm0, hb0, hg0⟩ := open_disk2 (hval 0 25 v0 rfl rfl) h0 (fun m hm => of_decide_eq_true (List.all_eq_true.1 hsz0 m (DataW.weights_mem_each (P := Try.prog) (j := 0) (t := 25) (d := d0) rfl rfl m hm)))
 have k1 := h1
 have lt1 : ∀ x ∈ p1, x.block < W.heap.size := by obtain ⟨m, hm⟩ := k1; exact DataW.trod_lt m _ _ _ hm
 obtain ⟨A1, c1, l1, rfl, hr1, hc1, hw1, hL1⟩ := open_u8s (hval 1 22 v1 rfl rfl) h1 (fun m hm => of_decide_eq_true (List.all_eq_true.1 hsz0 m (DataW.weights_mem_each (P := Try.prog) (j := 1) (t := 22) (d := d1) rfl rfl m hm)))
 have k2 := h2
 have lt2 : ∀ x ∈ p2, x.block < W.heap.size := by obtain ⟨m, hm⟩ := k2; exact DataW.trod_lt m _ _ _ hm
 obtain ⟨A2, c2, l2, rfl, hr2, hc2, hw2, hL2⟩ := open_u8s (hval 2 22 v2 rfl rfl) h2 (fun m hm => of_decide_eq_true (List.all_eq_true.1 hsz0 m (DataW.weights_mem_each (P := Try.prog) (j := 2) (t := 22) (d := d2) rfl rfl m hm)))
 obtain ⟨a3, rfl, rfl, rfl, w3⟩ := open_int (k := .u8) (by kernel_rfl) (hval 3 5 v3 rfl rfl) h3
 obtain ⟨a4, rfl, rfl, rfl, w4⟩ := open_int (k := .u16) (by kernel_rfl) (hval 4 55 v4 rfl rfl) h4
 clear hA0 hval0 hsz0
 obtain ⟨k, h⟩ := (Dk.crash_law l0_0 l0_1 l1 l2 a3 a4 (fit_of hr0_1) hm0 ⟨hb0, hg0⟩ (fun x hx => u8_of (hw1 x hx)) (fun x hx => u8_of (hw2 x hx)) hL2 hn0 (u8_of w3) (u16_of w4)).rounds
 refine (Dk.wageofficelaw43_JournalCrash.calls k A0_0 c0_0 l0_0 A0_1 c0_1 l0_1 A1 c1 l1 A2 c2 l2 a3 a4 true W hr0_0 hc0_0 hr0_1 hc0_1 hr1 hc1 hr2 hc2 h).mono fun e W' ⟨he, bel⟩ => ?_
 subst he
 exact ⟨_, rfl, _, _, _, [], _, [], hW', trodAll_mk1 (shut_bool (by kernel_rfl) _), (trodAll_cons_mk (Below.trod laidOut (by kernel_rfl) (of_decide_eq_true (by kernel_rfl)) k0 bel lt0) (trodAll_cons_mk (Below.trod laidOut (by kernel_rfl) (of_decide_eq_true (by kernel_rfl)) k1 bel lt1) (trodAll_cons_mk (Below.trod laidOut (by kernel_rfl) (of_decide_eq_true (by kernel_rfl)) k2 bel lt2) (trodAll_cons_mk (shut_int (by kernel_rfl) w3) (trodAll_cons_mk (shut_int (by kernel_rfl) w4) trodAll_mk0))))), rfl, bel.frame _, fun h => by cases h⟩
theorem over : Rows.journalCrashRow.holds Try.pinned (OpenSpec.ofChange Rows.journalCrashSpec) :=
 OpenClaim.holds_of_wide 15 Try.f15 rfl rfl rfl rfl rfl rfl rfl ⟨rfl, rfl, rfl, rfl, rfl⟩ rfl rfl rfl rfl rfl (by kernel_rfl) Try.func15 (by kernel_rfl)
  (of_decide_eq_true (by kernel_rfl)) (by unfold Func.isWrapper; first | (rw [if_pos (by decide +kernel)]; kernel_rfl) | (rw [if_neg (by decide +kernel)]; exact ⟨rfl, rfl⟩))
  (fun os started H enc _ => lifted os started H enc)
theorem proved : Rows.JournalCrashSaid := over
end Go.Proofs.Ytfpdmlhknddffaa.journalCrash
namespace Go.Proofs.Ytfpdmlhknddffaa
theorem journalCrash_holds : Rows.JournalCrashSaid := journalCrash.proved
end Go.Proofs.Ytfpdmlhknddffaa
