/- Proved: for every input the law returns true and each argument reads as it did. No conditions beyond the given row. -/
import Derived.Test.YtfpdmlhknddffaaG3
namespace Go.Proofs.Ytfpdmlhknddffaa.journalSequence
open Go.ChangeShapes Go.WideShapes Go.ChangeAt Go.RowKit Go.Joins Go.Proofs.Ytfpdmlhknddffaa.Dk
open Go.ChangeMaps (open_string shut_string)
open Go.Proofs.YtfpdmlhknddffaaW.PrintWords
set_option linter.unusedVariables false
theorem own : ownKnob Try.prog.godebug = none := by kernel_rfl
set_option maxRecDepth 100000 in
theorem lifted (os : Os) (started : os.Started) (H : Type) (enc : TypeId × Value → H) :
 ReturnsInHanded {} Try.checked os 13 .any (Rows.journalSequenceSpec.pre6 enc Try.prog Try.f13 Rows.journalSequenceRow.domain false) (Rows.journalSequenceSpec.post enc Try.prog Try.f13 false true false false) := by
 refine returnsInHanded_of_change_sized (C := Try.checked) own started (by kernel_rfl) Try.func13
  (ChangeSpec.witness6 (enc := enc) (C := Try.checked) false ⟨#[], #[.int .u16 0, .slice none 0 0], []⟩ 8 (by kernel_rfl) (by kernel_rfl) (by kernel_rfl) (by kernel_rfl)) ?_
 intro W base args ds gs before hval0 hW hcnd hsz0 _
 have hval : ∀ (j : Nat) t v, Try.f13.params[j]? = some t → args[j]? = some v → Value.okWide Try.prog W .any base t v := hval0
 have hW' := hW
 obtain ⟨p, q, hA0, hV, rfl, hfz, hnd⟩ := hW
 have hA : DataW.TrodAll enc Try.prog W 0 (fun _ => true) true Try.f13.params.toList args.toList ds p := hA0
 rw [Try.params13] at hA hval
 obtain ⟨v0, vs0, d0, ds0, p0, q0, hargs, rfl, rfl, h0, r0⟩ := trodAll_cons hA
 obtain ⟨v1, vs1, d1, ds1, p1, q1, rfl, rfl, rfl, h1, r1⟩ := trodAll_cons r0
 obtain ⟨rfl, rfl, rfl⟩ := trodAll_nil r1
 obtain rfl : args = #[v0, v1] := by cases args; simp_all
 obtain ⟨rfl, rfl⟩ := trodVars_none hV
 obtain ⟨a0, rfl, rfl, rfl, w0⟩ := open_int (k := .u16) (by kernel_rfl) (hval 0 55 v0 rfl rfl) h0
 have k1 := h1
 have lt1 : ∀ x ∈ p1, x.block < W.heap.size := by obtain ⟨m, hm⟩ := k1; exact DataW.trod_lt m _ _ _ hm
 obtain ⟨A1, c1, l1, rfl, hr1, hc1, hL1, hb1⟩ := open_rows (hval 1 49 v1 rfl rfl) h1 (fun m hm => of_decide_eq_true (List.all_eq_true.1 hsz0 m (DataW.weights_mem_each (P := Try.prog) (j := 1) (t := 49) (d := d1) rfl rfl m hm)))
 clear hA0 hval0 hsz0
 refine (Dk.seq_row a0 A1 c1 l1 W hr1 hc1 hL1 hb1 (u16_of w0)).mono fun e W' ⟨he, bel⟩ => ?_
 subst he
 exact ⟨_, rfl, _, _, _, [], _, [], hW', trodAll_mk1 (shut_bool (by kernel_rfl) _), (trodAll_cons_mk (shut_int (by kernel_rfl) w0) (trodAll_cons_mk (Below.trod laidOut (by kernel_rfl) (of_decide_eq_true (by kernel_rfl)) k1 bel lt1) trodAll_mk0)), rfl, bel.frame _, fun h => by cases h⟩
theorem over : Rows.journalSequenceRow.holds Try.pinned (OpenSpec.ofChange Rows.journalSequenceSpec) :=
 OpenClaim.holds_of_wide 13 Try.f13 rfl rfl rfl rfl rfl rfl rfl ⟨rfl, rfl, rfl, rfl, rfl⟩ rfl rfl rfl rfl rfl (by kernel_rfl) Try.func13 (by kernel_rfl)
  (of_decide_eq_true (by kernel_rfl)) (by unfold Func.isWrapper; first | (rw [if_pos (by decide +kernel)]; kernel_rfl) | (rw [if_neg (by decide +kernel)]; exact ⟨rfl, rfl⟩))
  (fun os started H enc _ => lifted os started H enc)
theorem proved : Rows.JournalSequenceSaid := over
end Go.Proofs.Ytfpdmlhknddffaa.journalSequence
namespace Go.Proofs.Ytfpdmlhknddffaa
theorem journalSequence_holds : Rows.JournalSequenceSaid := journalSequence.proved
end Go.Proofs.Ytfpdmlhknddffaa
