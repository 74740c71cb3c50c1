/- Walks and laws of package disk: part of the proofs of the Disk statements. -/
import Derived.Test.YtfpdmlhknddffaaC1
namespace Go.Proofs.Ytfpdmlhknddffaa.Dk
open Go.RowKit Go.Proofs.YtfpdmlhknddffaaW.PrintWords Go.Proofs.YtfpdmlhknddffaaW.PrintLast Go.Proofs.YtfpdmlhknddffaaW.PrintMore
set_option linter.unusedVariables false

theorem applyN_kept (f g : Nat → Int) (l1 : List S45) (l0 : List Int) : ∀ n, (∀ i, i < n → keptN (f i) (l1.getD i z45).f1.length = keptN (g i) (l1.getD i z45).f1.length) → applyN f l1 l0 n = applyN g l1 l0 n := by
  intro n
  induction n with
  | zero => intro _; rfl
  | succ n ih =>
    intro h
    simp only [applyN]
    rw [ih (fun i hi => h i (by omega)), h n (by omega)]

theorem getD_mem {l1 : List S45} {i : Nat} (hi : i < l1.length) : l1.getD i z45 ∈ l1 := by
  simp [List.getD_eq_getElem?_getD, hi]

theorem crash_full (l0 : List Int) (l1 : List S45) (m : Nat) (hm : ∀ x ∈ l1, x.f1.length ≤ m) : crashL l0 l1 (List.replicate l1.length ((m + 1 : Nat) : Int)) = syncL l0 l1 := by
  unfold crashL syncL applyL
  congr 1
  refine applyN_kept _ _ _ _ _ (fun i hi => ?_)
  have h1 := hm _ (getD_mem hi)
  have e : keptK (List.replicate l1.length ((m + 1 : Nat) : Int)) i = ((m + 1 : Nat) : Int) := by
    unfold keptK
    simp [List.getD_eq_getElem?_getD, hi]
  rw [e]
  unfold wholeK keptN
  omega

theorem crash_nil (l0 : List Int) (l1 : List S45) (hv : validB l0 l1 = true) : crashL l0 l1 [] = l0 := by
  unfold crashL applyL
  rw [if_pos hv]
  have h := applyN_stay [] l1 l0 l1.length
  simp only [List.length_nil, Nat.zero_add] at h
  exact h

theorem valid_take (l0 : List Int) (l1 : List S45) (m : Nat) (hv : validB l0 l1 = true) : validB l0 (l1.take m) = true := by
  obtain ⟨h1, h2, h3⟩ := (validB_iff _ _).1 hv
  exact (validB_iff _ _).2 ⟨h1, by rw [List.length_take]; omega, fun x hx => h3 x (List.mem_of_mem_take hx)⟩

theorem crash_prefix (l0 : List Int) (l1 : List S45) (m : Nat) (hm : m ≤ l1.length) (hv : validB l0 l1 = true) : crashL l0 l1 ((lens l1).take m) = syncL l0 (l1.take m) := by
  unfold crashL syncL applyL
  rw [if_pos hv, if_pos (valid_take l0 l1 m hv)]
  have hl : ((lens l1).take m).length = m := by unfold lens; simp; omega
  have hl2 : (l1.take m).length = m := by rw [List.length_take]; omega
  have h := applyN_stay ((lens l1).take m) l1 l0 (l1.length - m)
  rw [hl] at h
  rw [show m + (l1.length - m) = l1.length by omega] at h
  rw [h, hl2]
  have h2 := applyN_app (keptK ((lens l1).take m)) (l1.take m) (l1.drop m) l0 m (by omega)
  rw [List.take_append_drop] at h2
  rw [h2]
  refine applyN_congr _ _ _ _ _ (fun i hi => ?_)
  unfold keptK wholeK lens
  simp only [List.getD_eq_getElem?_getD]
  rw [List.getElem?_take_of_lt hi, List.getElem?_take_of_lt hi, List.getElem?_map, List.getElem?_eq_getElem (by omega : i < l1.length)]
  rfl

/-- a byte behind a crash is the old one, or one of a write that covers it -/
def coverB (c : List Int) (i : Nat) (x : S45) : Bool := decide (x.f0 ≤ (i : Int)) && (decide ((i : Int) < x.f0 + (x.f1.length : Int)) && (x.f1.getD ((i : Int) - x.f0).toNat 0 == c.getD i 0))

theorem tear (f : Nat → Int) (l0 : List Int) (l1 : List S45) (hv : validB l0 l1 = true) (i : Nat) (hi : i < l0.length) : ∀ n, n ≤ l1.length → (applyN f l1 l0 n).getD i 0 = l0.getD i 0 ∨ ∃ j, j < n ∧ coverB (applyN f l1 l0 n) i (l1.getD j z45) = true := by
  intro n
  induction n with
  | zero => intro _; exact .inl rfl
  | succ n ih =>
    intro hn
    have hlen := applyN_length f l0 l1 hv n (by omega)
    have hm := ((validB_iff _ _).1 hv).2.2 _ (getD_mem (by omega : n < l1.length))
    obtain ⟨x, hx⟩ : ∃ x, x = l1.getD n z45 := ⟨_, rfl⟩
    obtain ⟨cs, hcs⟩ : ∃ cs, cs = x.f1.take (keptN (f n) x.f1.length) := ⟨_, rfl⟩
    have hcl : cs.length ≤ x.f1.length := by rw [hcs, List.length_take]; omega
    have e : applyN f l1 l0 (n + 1) = splice (applyN f l1 l0 n) x.f0.toNat cs := by rw [hcs, hx]; rfl
    rw [← hx] at hm
    have hg := splice_get (applyN f l1 l0 n) x.f0.toNat cs (by omega) i
    rw [e]
    by_cases hin : x.f0.toNat ≤ i ∧ i < x.f0.toNat + cs.length
    · right
      refine ⟨n, by omega, ?_⟩
      rw [if_neg (by omega), if_pos hin.2] at hg
      rw [← hx]
      unfold coverB
      have h1 : x.f0 ≤ (i : Int) := by omega
      have h2 : (i : Int) < x.f0 + (x.f1.length : Int) := by omega
      have h3 : ((i : Int) - x.f0).toNat = i - x.f0.toNat := by omega
      have h4 : cs[i - x.f0.toNat]? = x.f1[i - x.f0.toNat]? := by
        rw [hcs]
        refine List.getElem?_take_of_lt ?_
        have h5 : i - x.f0.toNat < cs.length := by omega
        rw [hcs, List.length_take] at h5
        omega
      simp only [List.getD_eq_getElem?_getD, hg, h3, h4, h1, h2]
      simp
    · have hs : (splice (applyN f l1 l0 n) x.f0.toNat cs)[i]? = (applyN f l1 l0 n)[i]? := by
        rw [hg]
        by_cases h1 : i < x.f0.toNat
        · rw [if_pos h1]
        · rw [if_neg h1, if_neg (by omega)]
      rcases ih (by omega) with h | ⟨j, hj, h⟩
      · left
        simp only [List.getD_eq_getElem?_getD] at h ⊢
        rw [hs, h]
      · right
        refine ⟨j, by omega, ?_⟩
        unfold coverB at h ⊢
        simp only [List.getD_eq_getElem?_getD] at h ⊢
        rw [hs]
        exact h
end Go.Proofs.Ytfpdmlhknddffaa.Dk
