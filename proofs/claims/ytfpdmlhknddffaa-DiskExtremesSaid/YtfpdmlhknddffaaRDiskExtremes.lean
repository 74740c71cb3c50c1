/- Proved: for every input the law DiskExtremes returns true and each argument reads as it did. No conditions beyond the given row. -/
import Derived.Test.YtfpdmlhknddffaaO1
import Derived.Test.YtfpdmlhknddffaaPExt
namespace Go.Proofs.Ytfpdmlhknddffaa.diskExtremes
open Go.ChangeShapes Go.WideShapes Go.ChangeAt Go.RowKit Go.Joins Go.Proofs.Ytfpdmlhknddffaa.Dk
open Go.ChangeMaps (open_string shut_string)
open Go.Proofs.YtfpdmlhknddffaaW.PrintWords
set_option linter.unusedVariables false
theorem own : ownKnob Try.prog.godebug = none := by kernel_rfl
set_option maxRecDepth 100000 in
theorem lifted (os : Os) (started : os.Started) (H : Type) (enc : TypeId × Value → H) :
    ReturnsInHanded {} Try.checked os 6 .any (Rows.diskExtremesSpec.pre6 enc Try.prog Try.f6 Rows.diskExtremesRow.domain false) (Rows.diskExtremesSpec.post enc Try.prog Try.f6 false true false false) := by
  refine returnsInHanded_of_change_sized (C := Try.checked) own started (by kernel_rfl) Try.func6
    (ChangeSpec.witness6 (enc := enc) (C := Try.checked) false ⟨#[], #[.agg #[.slice none 0 0, .slice none 0 0]], []⟩ 8 (by kernel_rfl) (by kernel_rfl) (by kernel_rfl) (by kernel_rfl)) ?_
  intro W base args ds gs before hval0 hW hcnd hsz0 _
  have hval : ∀ (j : Nat) t v, Try.f6.params[j]? = some t → args[j]? = some v → Value.okWide Try.prog W .any base t v := hval0
  have hW' := hW
  obtain ⟨p, q, hA0, hV, rfl, hfz, hnd⟩ := hW
  have hA : DataW.TrodAll enc Try.prog W 0 (fun _ => true) true Try.f6.params.toList args.toList ds p := hA0
  rw [Try.params6] at hA hval
  obtain ⟨v0, vs0, d0, ds0, p0, q0, hargs, rfl, rfl, h0, r0⟩ := trodAll_cons hA
  obtain ⟨rfl, rfl, rfl⟩ := trodAll_nil r0
  obtain rfl : args = #[v0] := by cases args; simp_all
  obtain ⟨rfl, rfl⟩ := trodVars_none hV
  have k0 := h0
  have lt0 : ∀ x ∈ p0, x.block < W.heap.size := by obtain ⟨m, hm⟩ := k0; exact DataW.trod_lt m _ _ _ hm
  obtain ⟨A0_0, A0_1, c0_0, c0_1, l0_0, l0_1, rfl, hr0_0, hc0_0, hr0_1, hc0_1, hw0_0, hw0_1⟩ := open_disk (hval 0 25 v0 rfl rfl) h0
  clear hA0 hval0 hsz0
  obtain ⟨k, h⟩ := (Dk.extremes_ev l0_0 l0_1 (fit_of hr0_1)).rounds
  refine (Dk.wageofficelaw42_DiskExtremes.calls k A0_0 c0_0 l0_0 A0_1 c0_1 l0_1 true W hr0_0 hc0_0 hr0_1 hc0_1 h).mono fun e W' ⟨he, bel⟩ => ?_
  subst he
  exact ⟨_, rfl, _, _, _, [], _, [], hW', trodAll_mk1 (shut_bool (by kernel_rfl) _), (trodAll_cons_mk (Below.trod laidOut (by kernel_rfl) (of_decide_eq_true (by kernel_rfl)) k0 bel lt0) trodAll_mk0), rfl, bel.frame _, fun h => by cases h⟩
theorem over : Rows.diskExtremesRow.holds Try.pinned (OpenSpec.ofChange Rows.diskExtremesSpec) :=
  OpenClaim.holds_of_wide 6 Try.f6 rfl rfl rfl rfl rfl rfl rfl ⟨rfl, rfl, rfl, rfl, rfl⟩ rfl rfl rfl rfl rfl (by kernel_rfl) Try.func6 (by kernel_rfl)
    (of_decide_eq_true (by kernel_rfl)) (by unfold Func.isWrapper; first | (rw [if_pos (by decide +kernel)]; kernel_rfl) | (rw [if_neg (by decide +kernel)]; exact ⟨rfl, rfl⟩))
    (fun os started H enc _ => lifted os started H enc)
theorem proved : Rows.DiskExtremesSaid := over
end Go.Proofs.Ytfpdmlhknddffaa.diskExtremes
namespace Go.Proofs.Ytfpdmlhknddffaa
/-- The row, under a short name, for the claim. -/
theorem diskExtremes_holds : Rows.DiskExtremesSaid := diskExtremes.proved
end Go.Proofs.Ytfpdmlhknddffaa
