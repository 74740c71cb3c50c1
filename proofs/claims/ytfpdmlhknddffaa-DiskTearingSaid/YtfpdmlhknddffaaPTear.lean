/- Walks and laws of package disk: part of the proofs of the Disk statements. -/
import Derived.Test.YtfpdmlhknddffaaC2
import Derived.Test.YtfpdmlhknddffaaL6
namespace Go.Proofs.Ytfpdmlhknddffaa.Dk
open Go.RowKit Go.Proofs.YtfpdmlhknddffaaW.PrintWords Go.Proofs.YtfpdmlhknddffaaW.PrintLast Go.Proofs.YtfpdmlhknddffaaW.PrintMore
set_option linter.unusedVariables false

def okAt (l0 : List Int) (l1 : List S45) (c : List Int) (i : Nat) : Nat → Bool
  | 0 => rd c (i : Int) == rd l0 (i : Int)
  | j + 1 => okAt l0 l1 c i j || coverB c i (l1.getD j z45)

theorem okAt_of (l0 : List Int) (l1 : List S45) (c : List Int) (i : Nat) (n : Nat) (h : c.getD i 0 = l0.getD i 0 ∨ ∃ j, j < n ∧ coverB c i (l1.getD j z45) = true) : okAt l0 l1 c i n = true := by
  induction n with
  | zero =>
    rcases h with h | ⟨j, hj, _⟩
    · unfold okAt rd
      simp only [Int.toNat_natCast]
      rw [h]
      simp
    · omega
  | succ n ih =>
    simp only [okAt, Bool.or_eq_true]
    rcases h with h | ⟨j, hj, h⟩
    · exact .inl (ih (.inl h))
    · by_cases e : j = n
      · subst e; exact .inr h
      · exact .inl (ih (.inr ⟨j, by omega, h⟩))

theorem tearing_inner (l0 : List Int) (l1 : List S45) (c : List Int) (hc : c.length = l0.length) (h0 : l0.length ≤ 65536) (h1 : l1.length ≤ 70) (hv : ∀ x ∈ l1, 0 ≤ x.f0 ∧ x.f0 + x.f1.length ≤ l0.length) (i : Nat) (hi : i < l0.length)
    (hok : okAt l0 l1 c i l1.length = true) (hnext : Ev (fun k => wageofficelaw42_DiskTearing.l0 k true ((i + 1 : Nat) : Int) l0 l1 c []) true) : Ev (fun k => wageofficelaw42_DiskTearing.l1 k true (i : Int) (okAt l0 l1 c i 0) 0 l0 l1 c []) true := by
  have hi1 : wrap64 ((i : Int) + 1) = ((i + 1 : Nat) : Int) := wrap_succ (n := l0.length) hi (by omega)
  have key := ev_down (n := l1.length) (g := fun j k => wageofficelaw42_DiskTearing.l1 k true (i : Int) (okAt l0 l1 c i j) (j : Int) l0 l1 c []) (r := fun _ => true)
    (by
      refine Ev.step (f := fun k => wageofficelaw42_DiskTearing.l0 k true ((i + 1 : Nat) : Int) l0 l1 c []) (fun k => ?_) hnext
      simp only [wageofficelaw42_DiskTearing.l1]
      rw [if_neg (by omega), hok, if_pos rfl, hi1])
    (by
      intro j hj ih
      have hj1 : wrap64 ((j : Int) + 1) = ((j + 1 : Nat) : Int) := wrap_succ (n := l1.length) hj (by omega)
      refine Ev.step (f := fun k => wageofficelaw42_DiskTearing.l1 k true (i : Int) (okAt l0 l1 c i (j + 1)) ((j + 1 : Nat) : Int) l0 l1 c []) (fun k => ?_) ih
      obtain ⟨x, hx⟩ : ∃ x, x = l1.getD j z45 := ⟨_, rfl⟩
      have hr : rd_T45 l1 (j : Int) = x := by rw [hx]; unfold rd_T45; rw [Int.toNat_natCast]
      obtain ⟨v1, v2⟩ := hv x (by rw [hx]; exact getD_mem hj)
      have hw1 : wrap64 (x.f0 + (x.f1.length : Int)) = x.f0 + (x.f1.length : Int) := wrap_id (by omega) (by omega)
      have hw2 : wrap64 ((i : Int) - x.f0) = (i : Int) - x.f0 := wrap_id (by omega) (by omega)
      have e : okAt l0 l1 c i (j + 1) = (okAt l0 l1 c i j || coverB c i x) := by rw [hx]; rfl
      simp only [wageofficelaw42_DiskTearing.l1]
      rw [if_pos (by omega), if_pos (by omega), hr, hj1, hw1, hw2, e]
      cases ho : okAt l0 l1 c i j
      · rw [if_neg (by simp)]
        by_cases g1 : x.f0 ≤ (i : Int)
        · rw [if_pos (by omega)]
          by_cases g2 : (i : Int) < x.f0 + (x.f1.length : Int)
          · rw [if_pos g2, if_pos (by omega), if_pos (by omega), if_pos (by omega), if_pos (by omega)]
            congr 1
            unfold coverB rd
            simp [g1, g2]
          · rw [if_neg g2]
            congr 1
            unfold coverB
            simp [g2]
        · rw [if_neg (by omega)]
          congr 1
          unfold coverB
          simp [g1]
      · rw [if_pos rfl]
        rfl)
  exact key 0 (by omega)

theorem tearing_loop (l0 : List Int) (l1 : List S45) (ks : List Int) (hv : validB l0 l1 = true) (h1 : l1.length ≤ 70) : Ev (fun k => wageofficelaw42_DiskTearing.l0 k true 0 l0 l1 (crashL l0 l1 ks) []) true := by
  have hlen := crash_len l0 l1 ks hv
  obtain ⟨v1, v2, v3⟩ := (validB_iff _ _).1 hv
  have hcr : crashL l0 l1 ks = applyN (keptK ks) l1 l0 l1.length := by unfold crashL applyL; rw [if_pos hv]
  have key := ev_down (n := l0.length) (g := fun i k => wageofficelaw42_DiskTearing.l0 k true (i : Int) l0 l1 (crashL l0 l1 ks) []) (r := fun _ => true)
    (by
      refine Ev.step (f := fun _ => some true) (fun k => ?_) (Ev.now true)
      simp only [wageofficelaw42_DiskTearing.l0]
      rw [if_neg (by omega)])
    (by
      intro i hi ih
      refine Ev.step (f := fun k => wageofficelaw42_DiskTearing.l1 k true (i : Int) (okAt l0 l1 (crashL l0 l1 ks) i 0) 0 l0 l1 (crashL l0 l1 ks) []) (fun k => ?_) (tearing_inner l0 l1 _ hlen v1 h1 v3 i hi ?_ ih)
      · simp only [wageofficelaw42_DiskTearing.l0]
        rw [if_pos (by omega), if_pos (by omega), if_pos (by omega)]
        rfl
      · refine okAt_of _ _ _ _ _ ?_
        rw [hcr]
        exact tear _ _ _ hv i hi _ (Nat.le_refl _))
  exact key 0 (by omega)

theorem tearing_ev (l0 : List Int) (l1 : List S45) (ks : List Int) (hf : Fit l1) : Ev (fun k => wageofficelaw42_DiskTearing.f k l0 l1 ks) true := by
  refine Ev.congr (f := fun k => (wageofficeref42_Small.f k l0 l1 600).bind fun t => if t = true then ((wageofficeref42_Valid.f k l0 l1).bind fun t239 => if t239 = true then (wageofficelaw42_DiskTearing.j0 k ks true (decide ((ks.length : Int) > 80)) l0 l1) else wageofficelaw42_DiskTearing.j0 k ks true true l0 l1) else wageofficelaw42_DiskTearing.j0 k ks true true l0 l1) (fun k => rfl) ?_
  have hT : Ev (fun k => wageofficelaw42_DiskTearing.j0 k ks true true l0 l1) true := by
    refine Ev.step (f := fun _ => some true) (fun k => ?_) (Ev.now true)
    simp [wageofficelaw42_DiskTearing.j0]
  refine small_start (g := fun k t => if t = true then ((wageofficeref42_Valid.f k l0 l1).bind fun t239 => if t239 = true then (wageofficelaw42_DiskTearing.j0 k ks true (decide ((ks.length : Int) > 80)) l0 l1) else wageofficelaw42_DiskTearing.j0 k ks true true l0 l1) else wageofficelaw42_DiskTearing.j0 k ks true true l0 l1) l0 l1 hf (fun _ => ?_) (fun hs => ?_)
  · exact Ev.congr (fun k => by rw [if_neg (by simp)]) hT
  · obtain ⟨hs0, hs1, hs2⟩ := small_true hs
    refine Ev.congr (f := fun k => (wageofficeref42_Valid.f k l0 l1).bind fun t239 => if t239 = true then (wageofficelaw42_DiskTearing.j0 k ks true (decide ((ks.length : Int) > 80)) l0 l1) else wageofficelaw42_DiskTearing.j0 k ks true true l0 l1) (fun k => by rw [if_pos rfl]) ?_
    refine Ev.bind (f := fun k t239 => if t239 = true then (wageofficelaw42_DiskTearing.j0 k ks true (decide ((ks.length : Int) > 80)) l0 l1) else wageofficelaw42_DiskTearing.j0 k ks true true l0 l1) (valid_ev l0 l1 hf) ?_
    cases hv : validB l0 l1
    · exact Ev.congr (fun k => by rw [if_neg (by simp)]) hT
    · refine Ev.congr (f := fun k => wageofficelaw42_DiskTearing.j0 k ks true (decide ((ks.length : Int) > 80)) l0 l1) (fun k => by rw [if_pos rfl]) ?_
      by_cases h8 : (ks.length : Int) > 80
      · rw [decide_eq_true h8]; exact hT
      · rw [decide_eq_false h8]
        have hlen := crash_len l0 l1 ks hv
        refine Ev.step (f := fun k => wageofficelaw42_DiskTearing.j1 k true false l0 l1 (crashL l0 l1 ks) []) (fun k => ?_) ?_
        · simp only [wageofficelaw42_DiskTearing.j0, disk_Crash.f, Option.bind_some]
          rw [if_neg (by simp), if_pos (by omega)]
          rfl
        · refine Ev.step (f := fun k => wageofficelaw42_DiskTearing.l0 k true 0 l0 l1 (crashL l0 l1 ks) []) (fun k => ?_) (tearing_loop l0 l1 ks hv hs1)
          simp [wageofficelaw42_DiskTearing.j1]
end Go.Proofs.Ytfpdmlhknddffaa.Dk
