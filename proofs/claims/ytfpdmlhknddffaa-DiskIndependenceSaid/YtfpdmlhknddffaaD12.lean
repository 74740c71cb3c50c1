/- Walks and laws of package disk: part of the proofs of the Disk statements. -/
import Derived.Test.YtfpdmlhknddffaaD11
namespace Go.Proofs.Ytfpdmlhknddffaa.Dk
open Go.RowKit Go.Proofs.YtfpdmlhknddffaaW.PrintWords Go.Proofs.YtfpdmlhknddffaaW.PrintLast Go.Proofs.YtfpdmlhknddffaaW.PrintMore
set_option linter.unusedVariables false
set_option linter.unusedSimpArgs false

theorem splice_nil {α : Type} (L : List α) (off : Nat) : splice L off [] = L := by
  unfold splice; simp

theorem splice_get {α : Type} (L : List α) (off : Nat) (cs : List α) (h : off + cs.length ≤ L.length) (i : Nat) : (splice L off cs)[i]? = if i < off then L[i]? else if i < off + cs.length then cs[i - off]? else L[i]? := by
  unfold splice
  rw [List.getElem?_append, List.length_take, Nat.min_eq_left (by omega)]
  by_cases h1 : i < off
  · rw [if_pos h1, if_pos h1, List.getElem?_take_of_lt h1]
  · rw [if_neg h1, if_neg h1, List.getElem?_append]
    by_cases h2 : i < off + cs.length
    · rw [if_pos (by omega), if_pos h2]
    · rw [if_neg (by omega), if_neg h2, List.getElem?_drop]
      congr 1
      omega

theorem splice_set (L : List Int) (off : Nat) (d : List Int) (j : Nat) (hj : j < d.length) (h : off + d.length ≤ L.length) : (splice L off (d.take j)).set (off + j) d[j] = splice L off (d.take (j + 1)) := by
  apply List.ext_getElem?
  intro i
  have hl : (d.take j).length = j := by rw [List.length_take]; omega
  have hl2 : (d.take (j + 1)).length = j + 1 := by rw [List.length_take]; omega
  rw [List.getElem?_set, splice_length _ _ _ (by omega), splice_get _ _ _ (by omega), splice_get _ _ _ (by omega), hl, hl2]
  by_cases e : off + j = i
  · subst e
    rw [if_pos rfl, if_pos (by omega), if_neg (by omega), if_pos (by omega), show off + j - off = j by omega, List.getElem?_take_of_lt (by omega), List.getElem?_eq_getElem hj]
  · rw [if_neg e]
    by_cases h1 : i < off
    · rw [if_pos h1, if_pos h1]
    · rw [if_neg h1, if_neg h1]
      by_cases h2 : i < off + j
      · rw [if_pos h2, if_pos (by omega), List.getElem?_take_of_lt (by omega), List.getElem?_take_of_lt (by omega)]
      · rw [if_neg h2, if_neg (by omega)]

theorem keptN_spec (k : Int) (n j : Nat) : (j < keptN k n → j < n ∧ (j : Int) < k) ∧ (¬ j < keptN k n → ¬ (j < n) ∨ ¬ ((j : Int) < k)) := by
  unfold keptN
  constructor <;> intro h <;> omega

theorem applyN_stay (ks : List Int) (l1 : List S45) (l0 : List Int) : ∀ d, applyN (keptK ks) l1 l0 (ks.length + d) = applyN (keptK ks) l1 l0 ks.length := by
  intro d
  induction d with
  | zero => rfl
  | succ d ih =>
    show splice (applyN (keptK ks) l1 l0 (ks.length + d)) _ (List.take (keptN (keptK ks (ks.length + d)) _) _) = _
    have hk : keptK ks (ks.length + d) = 0 := by unfold keptK; simp [List.getD]
    rw [hk, show ∀ n, keptN 0 n = 0 from fun n => by unfold keptN; omega, List.take_zero, splice_nil, ih]

theorem crash_ev (l0 : List Int) (l1 : List S45) (ks : List Int) (hf : Fit l1) (h0 : l0.length < 140737488355328) (hks : ks.length ≤ 9223372036854775807) : Ev (fun k => wageofficeref42_Crash.f k l0 l1 ks) (crashL l0 l1 ks, []) := by
  unfold wageofficeref42_Crash.f crashL
  refine Ev.bind (f := fun k t => if t = true then (wageofficeref42_Copy.f k l0).bind fun t172 => wageofficeref42_Crash.l0 k ks 0 l0 l1 t172 else some (([] : List Int), ([] : List S45))) (valid_ev l0 l1 hf) ?_
  cases hv : validB l0 l1
  · exact Ev.congr (f := fun _ => some (([] : List Int), ([] : List S45))) (fun k => by rw [if_neg (by simp)]) (ev_eq (Ev.now _) (by simp))
  · have Hv := (validB_iff l0 l1).1 hv
    refine Ev.congr (f := fun k => (wageofficeref42_Copy.f k l0).bind fun t172 => wageofficeref42_Crash.l0 k ks 0 l0 l1 t172) (fun k => by rw [if_pos rfl]) ?_
    refine Ev.bind (f := fun k t => wageofficeref42_Crash.l0 k ks 0 l0 l1 t) (copy_ev l0 h0) ?_
    rw [if_pos rfl]
    have hlen := applyN_length (keptK ks) l0 l1 hv
    have key := ev_down (n := min l1.length ks.length) (g := fun i k => wageofficeref42_Crash.l0 k ks (i : Int) l0 l1 (applyN (keptK ks) l1 l0 i)) (r := fun _ => (applyL (keptK ks) l1 l0, ([] : List S45)))
      (by
        have hfin : applyN (keptK ks) l1 l0 (min l1.length ks.length) = applyL (keptK ks) l1 l0 := by
          unfold applyL
          rcases Nat.le_total l1.length ks.length with h | h
          · rw [Nat.min_eq_left h]
          · rw [Nat.min_eq_right h]
            have := applyN_stay ks l1 l0 (l1.length - ks.length)
            rw [show ks.length + (l1.length - ks.length) = l1.length by omega] at this
            exact this.symm
        rw [hfin]
        by_cases e : min l1.length ks.length < l1.length
        · refine Ev.step (f := fun k => wageofficeref42_Crash.j1 k ks ((min l1.length ks.length : Nat) : Int) false l0 l1 (applyL (keptK ks) l1 l0)) (fun k => ?_) (Ev.step (f := fun _ => some (applyL (keptK ks) l1 l0, ([] : List S45))) (fun k => ?_) (Ev.now _))
          · simp only [wageofficeref42_Crash.l0]
            rw [if_pos (by omega), decide_eq_false (by omega)]
          · simp only [wageofficeref42_Crash.j1]
            rw [if_neg (by simp)]
        · refine Ev.step (f := fun k => wageofficeref42_Crash.j1 k ks ((min l1.length ks.length : Nat) : Int) false l0 l1 (applyL (keptK ks) l1 l0)) (fun k => ?_) (Ev.step (f := fun _ => some (applyL (keptK ks) l1 l0, ([] : List S45))) (fun k => ?_) (Ev.now _))
          · simp only [wageofficeref42_Crash.l0]
            rw [if_neg (by omega)]
          · simp only [wageofficeref42_Crash.j1]
            rw [if_neg (by simp)])
      (by
        intro i hi ih
        have hi1 : i < l1.length := by omega
        have hi2 : i < ks.length := by omega
        have hx := Hv.2.2 l1[i] (List.getElem_mem _)
        have hlo := hlen i (by omega)
        obtain ⟨out, hout⟩ : ∃ out, out = applyN (keptK ks) l1 l0 i := ⟨_, rfl⟩
        have hgd : l1.getD i z45 = l1[i] := by simp [List.getD, hi1]
        have hkd : keptK ks i = ks[i] := by unfold keptK; simp [List.getD, hi2]
        have hnext : applyN (keptK ks) l1 l0 (i + 1) = splice out l1[i].f0.toNat (l1[i].f1.take (keptN ks[i] l1[i].f1.length)) := by
          show splice (applyN (keptK ks) l1 l0 i) (l1.getD i z45).f0.toNat ((l1.getD i z45).f1.take (keptN (keptK ks i) (l1.getD i z45).f1.length)) = _
          rw [hgd, hkd, ← hout]
        rw [hnext] at ih
        rw [← hout] at hlo ⊢
        have hkn := keptN_le ks[i] l1[i].f1.length
        have inner := ev_down (n := keptN ks[i] l1[i].f1.length) (g := fun j k => wageofficeref42_Crash.l1 k ks (i : Int) (j : Int) l0 l1 (splice out l1[i].f0.toNat (l1[i].f1.take j)) l1[i].f0 l1[i].f1) (r := fun _ => (applyL (keptK ks) l1 l0, ([] : List S45)))
          (by
            refine Ev.step (f := fun k => wageofficeref42_Crash.l0 k ks ((i + 1 : Nat) : Int) l0 l1 (splice out l1[i].f0.toNat (l1[i].f1.take (keptN ks[i] l1[i].f1.length)))) (fun k => ?_) ih
            simp only [wageofficeref42_Crash.l1]
            rcases (keptN_spec ks[i] l1[i].f1.length (keptN ks[i] l1[i].f1.length)).2 (Nat.lt_irrefl _) with e | e
            · rw [if_neg (by omega), wrap_succ hi2 hks]
            · by_cases e2 : ((keptN ks[i] l1[i].f1.length : Nat) : Int) < (l1[i].f1.length : Int)
              · rw [if_pos e2, if_pos (by omega), if_pos (by omega), rd_nat hi2, if_neg e, wrap_succ hi2 hks]
              · rw [if_neg e2, wrap_succ hi2 hks])
          (by
            intro j hj ihj
            obtain ⟨hj1, hj2⟩ := (keptN_spec ks[i] l1[i].f1.length j).1 hj
            have hw : wrap64 (l1[i].f0 + (j : Int)) = l1[i].f0 + j := wrap_id (by omega) (by omega)
            have hsl : (splice out l1[i].f0.toNat (l1[i].f1.take j)).length = out.length := splice_length _ _ _ (by rw [List.length_take]; omega)
            refine Ev.step (f := fun k => wageofficeref42_Crash.l1 k ks (i : Int) ((j + 1 : Nat) : Int) l0 l1 (splice out l1[i].f0.toNat (l1[i].f1.take (j + 1))) l1[i].f0 l1[i].f1) (fun k => ?_) ihj
            simp only [wageofficeref42_Crash.l1]
            rw [if_pos (by omega), if_pos (by omega), if_pos (by omega), rd_nat hi2, if_pos hj2, if_pos (by omega), hw, if_pos (by omega), if_pos (by rw [hsl]; omega), rd_nat hj1, wrap_succ hj1 (hf.2 _ (List.getElem_mem _))]
            rw [show (l1[i].f0 + (j : Int)).toNat = l1[i].f0.toNat + j by omega, splice_set _ _ _ _ hj1 (by omega)])
          0 (by omega)
        rw [List.take_zero, splice_nil] at inner
        refine Ev.step (f := fun k => wageofficeref42_Crash.j1 k ks (i : Int) true l0 l1 out) (fun k => ?_) (Ev.step (f := fun k => wageofficeref42_Crash.l1 k ks (i : Int) 0 l0 l1 out l1[i].f0 l1[i].f1) (fun k => ?_) inner)
        · simp only [wageofficeref42_Crash.l0]
          rw [if_pos (by omega), decide_eq_true (by omega)]
        · simp only [wageofficeref42_Crash.j1]
          rw [if_pos trivial, if_pos (by omega), if_pos (by omega), rd45_nat hi1])
      0 (by omega)
    exact key

theorem applyN_congr (f g : Nat → Int) (l1 : List S45) (l0 : List Int) : ∀ n, (∀ i, i < n → f i = g i) → applyN f l1 l0 n = applyN g l1 l0 n := by
  intro n
  induction n with
  | zero => intro _; rfl
  | succ n ih =>
    intro h
    show splice (applyN f l1 l0 n) _ (List.take (keptN (f n) _) _) = splice (applyN g l1 l0 n) _ (List.take (keptN (g n) _) _)
    rw [ih (fun i hi => h i (by omega)), h n (by omega)]

def lens (l1 : List S45) : List Int := l1.map fun x => (x.f1.length : Int)

theorem crash_lens (l0 : List Int) (l1 : List S45) : crashL l0 l1 (lens l1) = syncL l0 l1 := by
  unfold crashL syncL applyL
  split
  · refine applyN_congr _ _ _ _ _ (fun i hi => ?_)
    unfold keptK wholeK lens
    simp [List.getD, hi]
  · rfl

theorem sync_ev (l0 : List Int) (l1 : List S45) (hf : Fit l1) (h0 : l0.length < 140737488355328) : Ev (fun k => wageofficeref42_Sync.f k l0 l1) (syncL l0 l1, []) := by
  have hbad : 64 < l1.length → validB l0 l1 = false := fun h => validB_false_of (fun h2 => by omega)
  have hend : ∀ ks : List Int, ks = (lens l1).take (min l1.length 65) → Ev (fun k => (wageofficeref42_Crash.f k l0 l1 ks).bind fun bt => some (bt.1, bt.2)) (syncL l0 l1, []) := by
    intro ks hks
    have hks2 : ks.length ≤ 65 := by rw [hks, List.length_take]; omega
    refine ev_eq (Ev.bind (f := fun k bt => some (bt.1, bt.2)) (crash_ev l0 l1 ks hf h0 (by omega)) (Ev.now _)) ?_
    by_cases h : 64 < l1.length
    · unfold crashL syncL
      rw [hbad h]
      simp
    · have e : ks = lens l1 := by
        rw [hks, Nat.min_eq_left (by omega), List.take_of_length_le (by unfold lens; simp)]
      rw [e, crash_lens]
  have key := ev_down (n := min l1.length 65) (g := fun i k => wageofficeref42_Sync.l0 k ((lens l1).take i) (i : Int) l0 l1) (r := fun _ => (syncL l0 l1, ([] : List S45)))
    (by
      refine Ev.step (f := fun k => (wageofficeref42_Crash.f k l0 l1 ((lens l1).take (min l1.length 65))).bind fun bt => some (bt.1, bt.2)) (fun k => ?_) (hend _ rfl)
      simp only [wageofficeref42_Sync.l0]
      by_cases h : l1.length ≤ 65
      · rw [if_neg (by omega)]
      · rw [if_pos (by omega), if_neg (by omega)])
    (by
      intro i hi ih
      have hi1 : i < l1.length := by omega
      have hl : i < (lens l1).length := by unfold lens; simpa using hi1
      refine Ev.step (f := fun k => wageofficeref42_Sync.l0 k ((lens l1).take (i + 1)) ((i + 1 : Nat) : Int) l0 l1) (fun k => ?_) ih
      simp only [wageofficeref42_Sync.l0]
      rw [if_pos (by omega), if_pos (by omega), if_pos (by omega), if_pos (by rw [List.length_take]; omega), rd45_nat hi1, wrap_succ hi1 hf.1, List.take_succ_eq_append_getElem hl, show (lens l1)[i] = (l1[i].f1.length : Int) from (by simp [lens])])
    0 (by omega)
  exact key
/-! The reference's Read, in the printed form. Its slice begins inside its block. -/
def wageofficeref42_Read.f (l0_0 : List Int) (l0_1 : List (S45)) (a1 a2 : Int) : Option (List Int × Int) := some (readL l0_0 l0_1 a1 a2, if readOk l0_0 l0_1 a1 a2 = true then 0 else 1)
end Go.Proofs.Ytfpdmlhknddffaa.Dk
