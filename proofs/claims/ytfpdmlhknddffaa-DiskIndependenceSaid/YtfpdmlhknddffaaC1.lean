/- Walks and laws of package disk: part of the proofs of the Disk statements. -/
import Derived.Test.YtfpdmlhknddffaaD12
import Derived.Test.YtfpdmlhknddffaaL1
namespace Go.Proofs.Ytfpdmlhknddffaa.Dk
open Go.RowKit Go.Proofs.YtfpdmlhknddffaaW.PrintWords Go.Proofs.YtfpdmlhknddffaaW.PrintLast Go.Proofs.YtfpdmlhknddffaaW.PrintMore
set_option linter.unusedVariables false

theorem applyN_app (f : Nat → Int) (l1 m : List S45) (l0 : List Int) : ∀ n, n ≤ l1.length → applyN f (l1 ++ m) l0 n = applyN f l1 l0 n := by
  intro n
  induction n with
  | zero => intro _; rfl
  | succ n ih =>
    intro h
    have e : (l1 ++ m).getD n z45 = l1.getD n z45 := by simp only [List.getD_eq_getElem?_getD]; rw [List.getElem?_append_left (by omega)]
    simp only [applyN]
    rw [ih (by omega), e]

theorem sync_len (l0 : List Int) (l1 : List S45) (hv : validB l0 l1 = true) : (syncL l0 l1).length = l0.length := by
  unfold syncL applyL
  rw [if_pos hv]
  exact applyN_length _ _ _ hv _ (Nat.le_refl _)

theorem crash_len (l0 : List Int) (l1 : List S45) (ks : List Int) (hv : validB l0 l1 = true) : (crashL l0 l1 ks).length = l0.length := by
  unfold crashL applyL
  rw [if_pos hv]
  exact applyN_length _ _ _ hv _ (Nat.le_refl _)

theorem keptN_all (n : Nat) : keptN (n : Int) n = n := by unfold keptN; omega

theorem valid_snoc (l0 : List Int) (l1 : List S45) (a : Int) (l2 : List Int) (hv : validB l0 l1 = true) (hp : isPartB l0.length a l2.length = true) (h64 : l1.length ≠ 64) : validB l0 (l1 ++ [⟨a, l2⟩]) = true := by
  obtain ⟨h1, h2, h3⟩ := (validB_iff _ _).1 hv
  obtain ⟨p1, p2, p3, p4⟩ := (isPartB_iff _ _ _).1 hp
  refine (validB_iff _ _).2 ⟨h1, by simp; omega, fun x hx => ?_⟩
  rcases List.mem_append.1 hx with hx | hx
  · exact h3 x hx
  · simp at hx
    subst hx
    exact ⟨p1, by show a + (l2.length : Int) ≤ l0.length; omega⟩

theorem sync_snoc (l0 : List Int) (l1 : List S45) (a : Int) (l2 : List Int) (hv : validB l0 l1 = true) (hv2 : validB l0 (l1 ++ [⟨a, l2⟩]) = true) : syncL l0 (l1 ++ [⟨a, l2⟩]) = splice (syncL l0 l1) a.toNat l2 := by
  unfold syncL applyL
  rw [if_pos hv, if_pos hv2]
  have e : (l1 ++ [(⟨a, l2⟩ : S45)]).length = l1.length + 1 := by simp
  rw [e]
  simp only [applyN]
  rw [applyN_app _ _ _ _ _ (Nat.le_refl _)]
  have e2 : (l1 ++ [(⟨a, l2⟩ : S45)]).getD l1.length z45 = ⟨a, l2⟩ := by simp [List.getD_eq_getElem?_getD]
  have e3 : wholeK (l1 ++ [(⟨a, l2⟩ : S45)]) l1.length = (l2.length : Int) := by unfold wholeK; rw [e2]
  rw [e2, e3]
  show splice _ a.toNat (l2.take (keptN (l2.length : Int) l2.length)) = _
  rw [keptN_all, List.take_length]
  congr 1
  refine applyN_congr _ _ _ _ _ (fun i hi => ?_)
  unfold wholeK
  simp only [List.getD_eq_getElem?_getD]
  rw [List.getElem?_append_left hi]

theorem part_whole (n : Nat) : isPartB (n : Int) 0 (n : Int) = true := (isPartB_iff _ _ _).2 (by omega)

theorem all_f (l0 : List Int) (l1 : List S45) (hv : validB l0 l1 = true) : wageofficelaw42_all.f l0 l1 = some (syncL l0 l1) := by
  unfold wageofficelaw42_all.f disk_Read.f
  have hr : readOk l0 l1 0 (l0.length : Int) = true := by unfold readOk; rw [hv, part_whole]; rfl
  have hs := sync_len l0 l1 hv
  have e : readL l0 l1 0 (l0.length : Int) = syncL l0 l1 := by
    unfold readL
    rw [if_pos hr]
    unfold syncL at hs ⊢
    rw [if_pos hv] at hs ⊢
    have e2 : ((0 : Int) + (l0.length : Int)).toNat = l0.length := by omega
    rw [e2, ← hs, List.take_length]
    rfl
  rw [e, if_pos hr]
  rfl

/-- what 'Small(d, 600)' answers -/
def smallB (l0 : List Int) (l1 : List S45) : Bool := decide ((l0.length : Int) ≤ 600 ∧ l1.length ≤ 70 ∧ ∀ x ∈ l1, (x.f1.length : Int) ≤ 600)
theorem small_true {l0 : List Int} {l1 : List S45} (h : smallB l0 l1 = true) : l0.length ≤ 600 ∧ l1.length ≤ 70 ∧ ∀ x ∈ l1, x.f1.length ≤ 600 := by
  obtain ⟨h1, h2, h3⟩ := of_decide_eq_true h
  exact ⟨by omega, h2, fun x hx => by have := h3 x hx; omega⟩

/-- every law of a small disk: the head is true, so is a disk that is not small -/
theorem small_start {g : Nat → Bool → Option Bool} (l0 : List Int) (l1 : List S45) (hf : Fit l1) (h1 : smallB l0 l1 = false → Ev (fun k => g k false) true) (h2 : smallB l0 l1 = true → Ev (fun k => g k true) true) :
    Ev (fun k => (wageofficeref42_Small.f k l0 l1 600).bind (g k)) true := by
  have hs := small_ev l0 l1 600 hf
  cases hb : smallB l0 l1
  · refine Ev.bind (f := g) (a := false) ?_ (h1 hb)
    exact ev_eq hs hb
  · refine Ev.bind (f := g) (a := true) ?_ (h2 hb)
    exact ev_eq hs hb
end Go.Proofs.Ytfpdmlhknddffaa.Dk
