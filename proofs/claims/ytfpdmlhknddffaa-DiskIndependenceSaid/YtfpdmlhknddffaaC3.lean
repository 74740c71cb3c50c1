/- Walks and laws of package disk: part of the proofs of the Disk statements. -/
import Derived.Test.YtfpdmlhknddffaaC2
namespace Go.Proofs.Ytfpdmlhknddffaa.Dk
open Go.RowKit Go.Proofs.YtfpdmlhknddffaaW.PrintWords Go.Proofs.YtfpdmlhknddffaaW.PrintLast Go.Proofs.YtfpdmlhknddffaaW.PrintMore
set_option linter.unusedVariables false

/-- two neighbours change places -/
def sw {α : Type} (L : List α) (i : Nat) (z : α) : List α := (L.set i (L.getD (i + 1) z)).set (i + 1) (L.getD i z)
theorem sw_length {α : Type} (L : List α) (i : Nat) (z : α) : (sw L i z).length = L.length := by simp [sw]
theorem sw_get {α : Type} (L : List α) (i : Nat) (z : α) (h : i + 1 < L.length) (j : Nat) : (sw L i z).getD j z = if j = i then L.getD (i + 1) z else if j = i + 1 then L.getD i z else L.getD j z := by
  unfold sw
  simp only [List.getD_eq_getElem?_getD, List.getElem?_set, List.length_set]
  by_cases h1 : j = i
  · subst h1
    simp [show j < L.length by omega]
  · by_cases h2 : j = i + 1
    · subst h2
      simp [h]
    · rw [if_neg (by omega), if_neg (by omega), if_neg h1, if_neg h2]
theorem sw_mem {α : Type} {L : List α} {i : Nat} {z x : α} (h : i + 1 < L.length) (hx : x ∈ sw L i z) : x ∈ L := by
  obtain ⟨j, hj, rfl⟩ := List.getElem_of_mem hx
  have e : (sw L i z)[j] = (sw L i z).getD j z := by simp [List.getD_eq_getElem?_getD, hj]
  have hm : ∀ m, m < L.length → L.getD m z ∈ L := fun m hm => by simp [List.getD_eq_getElem?_getD, hm]
  rw [sw_length] at hj
  rw [e, sw_get L i z h]
  split
  · exact hm _ h
  · split
    · exact hm _ (by omega)
    · exact hm _ hj

theorem splice_comm {α : Type} (X : List α) (p q : Nat) (a b : List α) (hp : p + a.length ≤ X.length) (hq : q + b.length ≤ X.length) (hd : p + a.length ≤ q ∨ q + b.length ≤ p) : splice (splice X p a) q b = splice (splice X q b) p a := by
  have e1 := splice_length X p a hp
  have e2 := splice_length X q b hq
  apply List.ext_getElem?
  intro i
  rw [splice_get (splice X p a) q b (by omega) i, splice_get (splice X q b) p a (by omega) i, splice_get X p a hp i, splice_get X q b hq i]
  by_cases h1 : i < q <;> by_cases h2 : i < q + b.length <;> by_cases h3 : i < p <;> by_cases h4 : i < p + a.length <;> simp only [h1, h2, h3, h4, if_true, if_false] <;> (exfalso; omega)

def apart (x y : S45) : Prop := y.f0 + (y.f1.length : Int) ≤ x.f0 ∨ x.f0 + (x.f1.length : Int) ≤ y.f0

theorem applyN_sw (f g : Nat → Int) (l0 : List Int) (l1 : List S45) (i : Nat) (hi : i + 1 < l1.length) (hv : validB l0 l1 = true) (hap : apart (l1.getD i z45) (l1.getD (i + 1) z45))
    (e0 : g i = f (i + 1)) (e1 : g (i + 1) = f i) (e2 : ∀ j, j ≠ i → j ≠ i + 1 → g j = f j) : applyN g (sw l1 i z45) l0 l1.length = applyN f l1 l0 l1.length := by
  have hm := ((validB_iff _ _).1 hv).2.2
  have lo : ∀ n, n ≤ i → applyN g (sw l1 i z45) l0 n = applyN f l1 l0 n := by
    intro n
    induction n with
    | zero => intro _; rfl
    | succ n ih =>
      intro hn
      simp only [applyN]
      rw [ih (by omega), e2 n (by omega) (by omega), sw_get _ _ _ hi, if_neg (by omega), if_neg (by omega)]
  have mid : applyN g (sw l1 i z45) l0 (i + 2) = applyN f l1 l0 (i + 2) := by
    have hX := applyN_length f l0 l1 hv i (by omega)
    have ha := hm _ (getD_mem (by omega : i < l1.length))
    have hb := hm _ (getD_mem hi)
    simp only [applyN]
    rw [lo i (Nat.le_refl _), e0, e1, sw_get _ _ _ hi, sw_get _ _ _ hi, if_pos rfl, if_neg (by omega), if_pos rfl]
    have la := keptN_le (f i) (l1.getD i z45).f1.length
    have lb := keptN_le (f (i + 1)) (l1.getD (i + 1) z45).f1.length
    refine splice_comm _ _ _ _ _ ?_ ?_ ?_
    · rw [List.length_take]; omega
    · rw [List.length_take]; omega
    · rw [List.length_take, List.length_take]
      rcases hap with h | h <;> omega
  have hi2 : ∀ d, i + 2 + d ≤ l1.length → applyN g (sw l1 i z45) l0 (i + 2 + d) = applyN f l1 l0 (i + 2 + d) := by
    intro d
    induction d with
    | zero => intro _; exact mid
    | succ d ih =>
      intro hd
      show applyN g (sw l1 i z45) l0 (i + 2 + d + 1) = applyN f l1 l0 (i + 2 + d + 1)
      simp only [applyN]
      rw [ih (by omega), e2 _ (by omega) (by omega), sw_get _ _ _ hi, if_neg (by omega), if_neg (by omega)]
  have := hi2 (l1.length - (i + 2)) (by omega)
  rw [show i + 2 + (l1.length - (i + 2)) = l1.length by omega] at this
  exact this

theorem valid_sw (l0 : List Int) (l1 : List S45) (i : Nat) (hi : i + 1 < l1.length) (hv : validB l0 l1 = true) : validB l0 (sw l1 i z45) = true := by
  obtain ⟨h1, h2, h3⟩ := (validB_iff _ _).1 hv
  exact (validB_iff _ _).2 ⟨h1, by rw [sw_length]; exact h2, fun x hx => h3 x (sw_mem hi hx)⟩

theorem crash_sw (l0 : List Int) (l1 : List S45) (ks : List Int) (i : Nat) (hi : i + 1 < l1.length) (hk : l1.length ≤ ks.length) (hv : validB l0 l1 = true) (hap : apart (l1.getD i z45) (l1.getD (i + 1) z45)) : crashL l0 (sw l1 i z45) (sw ks i 0) = crashL l0 l1 ks := by
  unfold crashL applyL
  rw [if_pos hv, if_pos (valid_sw l0 l1 i hi hv), sw_length]
  have hk2 : i + 1 < ks.length := by omega
  refine applyN_sw _ _ l0 l1 i hi hv hap ?_ ?_ (fun j h1 h2 => ?_)
  · unfold keptK; rw [sw_get ks i 0 hk2, if_pos rfl]
  · unfold keptK; rw [sw_get ks i 0 hk2, if_neg (by omega), if_pos rfl]
  · unfold keptK; rw [sw_get ks i 0 hk2, if_neg h1, if_neg h2]

theorem sync_sw (l0 : List Int) (l1 : List S45) (i : Nat) (hi : i + 1 < l1.length) (hv : validB l0 l1 = true) (hap : apart (l1.getD i z45) (l1.getD (i + 1) z45)) : syncL l0 (sw l1 i z45) = syncL l0 l1 := by
  unfold syncL applyL
  rw [if_pos hv, if_pos (valid_sw l0 l1 i hi hv), sw_length]
  refine applyN_sw _ _ l0 l1 i hi hv hap ?_ ?_ (fun j h1 h2 => ?_)
  · unfold wholeK; rw [sw_get l1 i z45 hi, if_pos rfl]
  · unfold wholeK; rw [sw_get l1 i z45 hi, if_neg (by omega), if_pos rfl]
  · unfold wholeK; rw [sw_get l1 i z45 hi, if_neg h1, if_neg h2]
end Go.Proofs.Ytfpdmlhknddffaa.Dk
