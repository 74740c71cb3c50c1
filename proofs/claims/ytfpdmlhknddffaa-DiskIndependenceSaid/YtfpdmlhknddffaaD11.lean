/- Walks and laws of package disk: part of the proofs of the Disk statements. -/
import Derived.Test.YtfpdmlhknddffaaD10
import Derived.Test.YtfpdmlhknddffaaQ3
import Derived.Test.YtfpdmlhknddffaaQ4
namespace Go.Proofs.Ytfpdmlhknddffaa.Dk
open Go.RowKit Go.Proofs.YtfpdmlhknddffaaW.PrintWords Go.Proofs.YtfpdmlhknddffaaW.PrintLast Go.Proofs.YtfpdmlhknddffaaW.PrintMore
set_option linter.unusedVariables false
set_option linter.unusedSimpArgs false

theorem wrap_succ {i n : Nat} (h : i < n) (hn : n ≤ 9223372036854775807) : wrap64 ((i : Int) + 1) = ((i + 1 : Nat) : Int) := by
  unfold wrap64; omega
theorem wrap_id {x : Int} (h : -9223372036854775808 ≤ x) (h2 : x ≤ 9223372036854775807) : wrap64 x = x := by
  unfold wrap64; omega
theorem rd_nat {xs : List Int} {i : Nat} (h : i < xs.length) : rd xs (i : Int) = xs[i] := by
  unfold rd; simp [List.getD, h]
theorem rd45_nat {xs : List S45} {i : Nat} (h : i < xs.length) : rd_T45 xs (i : Int) = xs[i] := by
  unfold rd_T45; simp [List.getD, h]
theorem ev_eq {α : Type} {g : Nat → Option α} {r r' : α} (h : Ev g r) (e : r = r') : Ev g r' := e ▸ h

/-- a loop over the numbers below n, the answers told from behind -/
theorem ev_down {α : Type} {n : Nat} {g : Nat → Nat → Option α} {r : Nat → α} (hn : Ev (g n) (r n)) (hs : ∀ i, i < n → Ev (g (i + 1)) (r (i + 1)) → Ev (g i) (r i)) : ∀ i, i ≤ n → Ev (g i) (r i) := by
  have key : ∀ d i, i + d = n → Ev (g i) (r i) := by
    intro d
    induction d with
    | zero => intro i h; obtain rfl : i = n := by omega
              exact hn
    | succ d ih => intro i h; exact hs i (by omega) (ih (i + 1) (by omega))
  intro i hi
  exact key (n - i) i (by omega)

theorem bytes_ev (a b : List Int) (ha : a.length ≤ 9223372036854775807) : Ev (fun k => wageofficeref42_Bytes.f k a b) (decide (a = b)) := by
  by_cases hl : a.length = b.length
  · have key := ev_down (n := a.length) (g := fun i k => wageofficeref42_Bytes.l0 k a b (i : Int)) (r := fun i => decide (a.drop i = b.drop i))
      (by
        refine Ev.step (f := fun _ => some true) (fun k => ?_) (ev_eq (Ev.now true) (by simp [hl]))
        simp only [wageofficeref42_Bytes.l0]
        rw [if_neg (by omega)])
      (by
        intro i hi ih
        have hb : i < b.length := by omega
        by_cases he : a[i] = b[i]
        · refine Ev.step (f := fun k => wageofficeref42_Bytes.l0 k a b ((i + 1 : Nat) : Int)) (fun k => ?_) (ev_eq ih ?_)
          · simp only [wageofficeref42_Bytes.l0]
            rw [if_pos (by omega), if_pos (by omega), if_pos (by omega), rd_nat hi, rd_nat hb, if_pos he, wrap_succ hi ha]
          · rw [List.drop_eq_getElem_cons hi, List.drop_eq_getElem_cons hb, he]
            simp only [List.cons.injEq, true_and]
        · refine Ev.step (f := fun _ => some false) (fun k => ?_) (ev_eq (Ev.now false) ?_)
          · simp only [wageofficeref42_Bytes.l0]
            rw [if_pos (by omega), if_pos (by omega), if_pos (by omega), rd_nat hi, rd_nat hb, if_neg he]
          · rw [List.drop_eq_getElem_cons hi, List.drop_eq_getElem_cons hb]
            simp only [List.cons.injEq, he, false_and, decide_false])
      0 (by omega)
    refine Ev.congr (fun k => ?_) key
    unfold wageofficeref42_Bytes.f
    rw [if_pos (by omega)]
    rfl
  · refine Ev.congr (f := fun _ => some false) (fun k => ?_) (ev_eq (Ev.now false) ?_)
    · unfold wageofficeref42_Bytes.f
      rw [if_neg (by omega)]
    · symm; rw [decide_eq_false_iff_not]; intro h; exact hl (by rw [h])

theorem copy_ev (a : List Int) (ha : a.length < 140737488355328) : Ev (fun k => wageofficeref42_Copy.f k a) a := by
  have key := ev_down (n := a.length) (g := fun i k => wageofficeref42_Copy.l0 k a (a.take i) (i : Int)) (r := fun i => a)
      (by
        refine Ev.step (f := fun _ => some a) (fun k => ?_) (Ev.now a)
        simp only [wageofficeref42_Copy.l0]
        rw [if_neg (by omega), List.take_length])
      (by
        intro i hi ih
        refine Ev.step (f := fun k => wageofficeref42_Copy.l0 k a (a.take (i + 1)) ((i + 1 : Nat) : Int)) (fun k => ?_) ih
        simp only [wageofficeref42_Copy.l0]
        rw [if_pos (by omega), if_pos (by omega), if_pos (by rw [List.length_take]; omega), rd_nat hi, wrap_succ hi (by omega), ← List.take_succ_eq_append_getElem hi])
      0 (by omega)
  exact key

/-- what is asked of the lengths of a disk's data -/
def Fit (l1 : List S45) : Prop := l1.length ≤ 9223372036854775807 ∧ ∀ x ∈ l1, x.f1.length ≤ 9223372036854775807

theorem validB_false_of {l0 : List Int} {l1 : List S45} (h : ¬ (l0.length ≤ 65536 ∧ l1.length ≤ 64 ∧ ∀ x ∈ l1, 0 ≤ x.f0 ∧ x.f0 + x.f1.length ≤ l0.length)) : validB l0 l1 = false := by
  cases hv : validB l0 l1
  · rfl
  · exact absurd ((validB_iff l0 l1).1 hv) h

theorem valid_ev (l0 : List Int) (l1 : List S45) (hf : Fit l1) : Ev (fun k => wageofficeref42_Valid.f k l0 l1) (validB l0 l1) := by
  by_cases h1 : l0.length > 65536
  · rw [validB_false_of (fun h => by omega)]
    refine Ev.congr (f := fun k => wageofficeref42_Valid.j0 k true l0 l1) (fun k => ?_) (Ev.step (f := fun _ => some false) (fun k => ?_) (Ev.now false))
    · unfold wageofficeref42_Valid.f
      rw [if_pos (by omega)]
    · simp only [wageofficeref42_Valid.j0]
      rw [if_pos trivial]
  · by_cases h2 : l1.length > 64
    · rw [validB_false_of (fun h => by omega)]
      refine Ev.congr (f := fun k => wageofficeref42_Valid.j0 k true l0 l1) (fun k => ?_) (Ev.step (f := fun _ => some false) (fun k => ?_) (Ev.now false))
      · unfold wageofficeref42_Valid.f
        rw [if_neg (by omega), decide_eq_true (by omega)]
      · simp only [wageofficeref42_Valid.j0]
        rw [if_pos trivial]
    · have key := ev_down (n := l1.length) (g := fun i k => wageofficeref42_Valid.l0 k (i : Int) l0 l1) (r := fun i => (l1.drop i).all fun x => decide (0 ≤ x.f0 ∧ x.f0 + x.f1.length ≤ l0.length))
        (by
          refine Ev.step (f := fun _ => some true) (fun k => ?_) (ev_eq (Ev.now true) (by simp))
          simp only [wageofficeref42_Valid.l0]
          rw [if_neg (by omega)])
        (by
          intro i hi ih
          have hfi := hf.2 l1[i] (List.getElem_mem _)
          have hd : l1.drop i = l1[i] :: l1.drop (i + 1) := List.drop_eq_getElem_cons hi
          have hw : wrap64 ((l0.length : Int) - (l1[i].f1.length : Int)) = (l0.length : Int) - (l1[i].f1.length : Int) := wrap_id (by omega) (by omega)
          by_cases e1 : l1[i].f0 < 0
          · refine Ev.step (f := fun _ => some false) (fun k => ?_) (ev_eq (Ev.now false) ?_)
            · simp only [wageofficeref42_Valid.l0]
              rw [if_pos (by omega), if_pos (by omega), rd45_nat hi, if_pos e1]
            · rw [hd, List.all_cons, decide_eq_false (by omega)]; rfl
          · by_cases e2 : l1[i].f0 > (l0.length : Int) - (l1[i].f1.length : Int)
            · refine Ev.step (f := fun _ => some false) (fun k => ?_) (ev_eq (Ev.now false) ?_)
              · simp only [wageofficeref42_Valid.l0]
                rw [if_pos (by omega), if_pos (by omega), rd45_nat hi, if_neg e1, hw, if_pos e2]
              · rw [hd, List.all_cons, decide_eq_false (by omega)]; rfl
            · refine Ev.step (f := fun k => wageofficeref42_Valid.l0 k ((i + 1 : Nat) : Int) l0 l1) (fun k => ?_) (ev_eq ih ?_)
              · simp only [wageofficeref42_Valid.l0]
                rw [if_pos (by omega), if_pos (by omega), rd45_nat hi, if_neg e1, hw, if_neg e2, wrap_succ hi (by omega)]
              · rw [hd, List.all_cons, decide_eq_true (by omega), Bool.true_and])
        0 (by omega)
      refine Ev.congr (f := fun k => wageofficeref42_Valid.j0 k false l0 l1) (fun k => ?_) (Ev.step (f := fun k => wageofficeref42_Valid.l0 k 0 l0 l1) (fun k => ?_) (ev_eq key ?_))
      · unfold wageofficeref42_Valid.f
        rw [if_neg (by omega), decide_eq_false (by omega)]
      · simp only [wageofficeref42_Valid.j0]
        rw [if_neg (by simp)]
      · rw [Bool.eq_iff_iff, validB_iff]
        simp only [List.drop_zero, List.all_eq_true, decide_eq_true_eq]
        constructor
        · intro h; exact ⟨by omega, by omega, h⟩
        · intro h; exact h.2.2

theorem small_ev (l0 : List Int) (l1 : List S45) (m : Int) (hf : Fit l1) : Ev (fun k => wageofficeref42_Small.f k l0 l1 m) (decide ((l0.length : Int) ≤ m ∧ l1.length ≤ 70 ∧ ∀ x ∈ l1, (x.f1.length : Int) ≤ m)) := by
  by_cases h1 : (l0.length : Int) > m
  · refine Ev.congr (f := fun k => wageofficeref42_Small.j0 k m true l0 l1) (fun k => ?_) (Ev.step (f := fun _ => some false) (fun k => ?_) (ev_eq (Ev.now false) ?_))
    · unfold wageofficeref42_Small.f
      rw [if_pos h1]
    · simp only [wageofficeref42_Small.j0]
      rw [if_pos trivial]
    · symm; rw [decide_eq_false_iff_not]; intro h; omega
  · by_cases h2 : l1.length > 70
    · refine Ev.congr (f := fun k => wageofficeref42_Small.j0 k m true l0 l1) (fun k => ?_) (Ev.step (f := fun _ => some false) (fun k => ?_) (ev_eq (Ev.now false) ?_))
      · unfold wageofficeref42_Small.f
        rw [if_neg h1, decide_eq_true (by omega)]
      · simp only [wageofficeref42_Small.j0]
        rw [if_pos trivial]
      · symm; rw [decide_eq_false_iff_not]; intro h; omega
    · have key := ev_down (n := l1.length) (g := fun i k => wageofficeref42_Small.l0 k m (i : Int) l0 l1) (r := fun i => (l1.drop i).all fun x => decide ((x.f1.length : Int) ≤ m))
        (by
          refine Ev.step (f := fun _ => some true) (fun k => ?_) (ev_eq (Ev.now true) (by simp))
          simp only [wageofficeref42_Small.l0]
          rw [if_neg (by omega)])
        (by
          intro i hi ih
          have hd : l1.drop i = l1[i] :: l1.drop (i + 1) := List.drop_eq_getElem_cons hi
          by_cases e1 : (l1[i].f1.length : Int) > m
          · refine Ev.step (f := fun _ => some false) (fun k => ?_) (ev_eq (Ev.now false) ?_)
            · simp only [wageofficeref42_Small.l0]
              rw [if_pos (by omega), if_pos (by omega), rd45_nat hi, if_pos e1]
            · rw [hd, List.all_cons, decide_eq_false (by omega)]; rfl
          · refine Ev.step (f := fun k => wageofficeref42_Small.l0 k m ((i + 1 : Nat) : Int) l0 l1) (fun k => ?_) (ev_eq ih ?_)
            · simp only [wageofficeref42_Small.l0]
              rw [if_pos (by omega), if_pos (by omega), rd45_nat hi, if_neg e1, wrap_succ hi (by omega)]
            · rw [hd, List.all_cons, decide_eq_true (by omega), Bool.true_and])
        0 (by omega)
      refine Ev.congr (f := fun k => wageofficeref42_Small.j0 k m false l0 l1) (fun k => ?_) (Ev.step (f := fun k => wageofficeref42_Small.l0 k m 0 l0 l1) (fun k => ?_) (ev_eq key ?_))
      · unfold wageofficeref42_Small.f
        rw [if_neg h1, decide_eq_false (by omega)]
      · simp only [wageofficeref42_Small.j0]
        rw [if_neg (by simp)]
      · rw [Bool.eq_iff_iff]
        simp only [List.drop_zero, List.all_eq_true, decide_eq_true_eq]
        constructor
        · intro h; exact ⟨by omega, by omega, h⟩
        · intro h; exact h.2.2
theorem s45_iff (a b : S45) : (a.f0 = b.f0 ∧ a.f1 = b.f1) ↔ a = b := by
  cases a; cases b; simp
instance s45_dec : DecidableEq S45 := fun a b => decidable_of_iff _ (s45_iff a b)

theorem same_ev (a b : List Int) (x y : List S45) (ha : a.length ≤ 9223372036854775807) (hx : Fit x) : Ev (fun k => wageofficeref42_Same.f k a x b y) (decide (a = b ∧ x = y)) := by
  have hB := bytes_ev a b ha
  by_cases e : a = b
  · by_cases hl : x.length = y.length
    · have key := ev_down (n := x.length) (g := fun i k => wageofficeref42_Same.l0 k (i : Int) a x b y) (r := fun i => decide (x.drop i = y.drop i))
        (by
          refine Ev.step (f := fun _ => some true) (fun k => ?_) (ev_eq (Ev.now true) (by simp [hl]))
          simp only [wageofficeref42_Same.l0]
          rw [if_neg (by omega)])
        (by
          intro i hi ih
          have hj : i < y.length := by omega
          have hd : x.drop i = x[i] :: x.drop (i + 1) := List.drop_eq_getElem_cons hi
          have hd2 : y.drop i = y[i] :: y.drop (i + 1) := List.drop_eq_getElem_cons hj
          have hBi := bytes_ev x[i].f1 y[i].f1 (hx.2 _ (List.getElem_mem _))
          by_cases e0 : x[i].f0 = y[i].f0
          · by_cases e1 : x[i].f1 = y[i].f1
            · have exy : x[i] = y[i] := by
                cases hxx : x[i]
                cases hyy : y[i]
                rw [hxx, hyy] at e0 e1
                simp_all
              refine Ev.step (f := fun k => (wageofficeref42_Bytes.f k x[i].f1 y[i].f1).bind fun t => if t = true then wageofficeref42_Same.l0 k ((i + 1 : Nat) : Int) a x b y else some false) (fun k => ?_) (ev_eq (Ev.bind (f := fun k t => if t = true then wageofficeref42_Same.l0 k ((i + 1 : Nat) : Int) a x b y else some false) hBi (Ev.congr (fun k => ?_) ih)) ?_)
              · simp only [wageofficeref42_Same.l0]
                rw [if_pos (by omega), if_pos (by omega), if_pos (by omega), rd45_nat hi, rd45_nat hj, if_pos e0, wrap_succ hi hx.1]
              · rw [decide_eq_true e1, if_pos rfl]
              · rw [hd, hd2, exy]
                simp only [List.cons.injEq, true_and]
            · refine Ev.step (f := fun k => (wageofficeref42_Bytes.f k x[i].f1 y[i].f1).bind fun t => if t = true then wageofficeref42_Same.l0 k ((i + 1 : Nat) : Int) a x b y else some false) (fun k => ?_) (ev_eq (Ev.bind (f := fun k t => if t = true then wageofficeref42_Same.l0 k ((i + 1 : Nat) : Int) a x b y else some false) hBi (Ev.congr (f := fun _ => some false) (fun k => ?_) (Ev.now false))) ?_)
              · simp only [wageofficeref42_Same.l0]
                rw [if_pos (by omega), if_pos (by omega), if_pos (by omega), rd45_nat hi, rd45_nat hj, if_pos e0, wrap_succ hi hx.1]
              · rw [decide_eq_false e1, if_neg (by simp)]
              · rw [hd, hd2]
                symm; rw [decide_eq_false_iff_not]
                intro h
                injection h with h _
                exact e1 (by rw [h])
          · refine Ev.step (f := fun _ => some false) (fun k => ?_) (ev_eq (Ev.now false) ?_)
            · simp only [wageofficeref42_Same.l0]
              rw [if_pos (by omega), if_pos (by omega), if_pos (by omega), rd45_nat hi, rd45_nat hj, if_neg e0]
            · rw [hd, hd2]
              symm; rw [decide_eq_false_iff_not]
              intro h
              injection h with h _
              exact e0 (by rw [h]))
        0 (by omega)
      unfold wageofficeref42_Same.f
      refine ev_eq (Ev.bind (f := fun k t => if t = true then wageofficeref42_Same.j0 k ((x.length : Int) != (y.length : Int)) a x b y else wageofficeref42_Same.j0 k true a x b y) hB (Ev.step (f := fun k => wageofficeref42_Same.l0 k 0 a x b y) (fun k => ?_) key)) ?_
      · rw [decide_eq_true e, if_pos rfl]
        simp only [wageofficeref42_Same.j0]
        rw [if_neg (by simp [hl])]
      · simp only [List.drop_zero, e, true_and]
    · unfold wageofficeref42_Same.f
      refine ev_eq (Ev.bind (f := fun k t => if t = true then wageofficeref42_Same.j0 k ((x.length : Int) != (y.length : Int)) a x b y else wageofficeref42_Same.j0 k true a x b y) hB (Ev.step (f := fun k => some false) (fun k => ?_) (Ev.now false))) ?_
      · rw [decide_eq_true e, if_pos rfl]
        simp only [wageofficeref42_Same.j0]
        rw [if_pos (by simp; omega)]
      · symm; rw [decide_eq_false_iff_not]; rintro ⟨_, h⟩; exact hl (by rw [h])
  · unfold wageofficeref42_Same.f
    refine ev_eq (Ev.bind (f := fun k t => if t = true then wageofficeref42_Same.j0 k ((x.length : Int) != (y.length : Int)) a x b y else wageofficeref42_Same.j0 k true a x b y) hB (Ev.step (f := fun k => some false) (fun k => ?_) (Ev.now false))) ?_
    · rw [decide_eq_false e, if_neg (by simp)]
      simp only [wageofficeref42_Same.j0]
      rw [if_pos trivial]
    · symm; rw [decide_eq_false_iff_not]; rintro ⟨h, _⟩; exact e h

/-- bytes that are not too many for an append -/
def Fine (l0 : List Int) (l1 : List S45) : Prop := l0.length < 140737488355328 ∧ l1.length < 4398046511104 ∧ ∀ x ∈ l1, x.f1.length < 140737488355328

theorem fine_fit {l0 : List Int} {l1 : List S45} (h : Fine l0 l1) : Fit l1 := ⟨by have := h.2.1; omega, fun x hx => by have := h.2.2 x hx; omega⟩

theorem write_loop (l0 : List Int) (l1 : List S45) (a : Int) (l2 : List Int) (h : Fine l0 l1) (h2 : l2.length < 140737488355328) : Ev (fun k => wageofficeref42_Write.l0 k a l2 0 l0 l1 l0 []) (l0, l1 ++ [⟨a, l2⟩], 0) := by
  have key := ev_down (n := l1.length) (g := fun i k => wageofficeref42_Write.l0 k a l2 (i : Int) l0 l1 l0 (l1.take i)) (r := fun i => (l0, l1 ++ [(⟨a, l2⟩ : S45)], (0 : Int)))
    (by
      refine Ev.step (f := fun k => (wageofficeref42_Copy.f k l2).bind fun t => if (l1.take l1.length).length < 4398046511104 then some (l0, l1.take l1.length ++ [(⟨a, t⟩ : S45)], (0 : Int)) else none) (fun k => ?_) (ev_eq (Ev.bind (f := fun k t => if (l1.take l1.length).length < 4398046511104 then some (l0, l1.take l1.length ++ [(⟨a, t⟩ : S45)], (0 : Int)) else none) (copy_ev l2 h2) (Ev.congr (fun k => ?_) (Ev.now (l0, l1.take l1.length ++ [(⟨a, l2⟩ : S45)], (0 : Int))))) ?_)
      · simp only [wageofficeref42_Write.l0]
        rw [if_neg (by omega)]
      · rw [if_pos (by rw [List.take_length]; exact h.2.1)]
      · rw [List.take_length])
    (by
      intro i hi ih
      refine Ev.step (f := fun k => (wageofficeref42_Copy.f k l1[i].f1).bind fun t => if (l1.take i).length < 4398046511104 then wageofficeref42_Write.l0 k a l2 ((i + 1 : Nat) : Int) l0 l1 l0 (l1.take i ++ [(⟨l1[i].f0, t⟩ : S45)]) else none) (fun k => ?_) (ev_eq (Ev.bind (f := fun k t => if (l1.take i).length < 4398046511104 then wageofficeref42_Write.l0 k a l2 ((i + 1 : Nat) : Int) l0 l1 l0 (l1.take i ++ [(⟨l1[i].f0, t⟩ : S45)]) else none) (copy_ev l1[i].f1 (h.2.2 _ (List.getElem_mem _))) (Ev.congr (fun k => ?_) ih)) rfl)
      · simp only [wageofficeref42_Write.l0]
        rw [if_pos (by omega), if_pos (by omega), rd45_nat hi, wrap_succ hi (by have := h.2.1; omega)]
      · rw [if_pos (by rw [List.length_take]; have := h.2.1; omega), show l1.take i ++ [(⟨l1[i].f0, l1[i].f1⟩ : S45)] = l1.take (i + 1) from (List.take_succ_eq_append_getElem hi).symm])
    0 (by omega)
  exact key

theorem write_ev (l0 : List Int) (l1 : List S45) (a : Int) (l2 : List Int) (h : Fine l0 l1) (h2 : l2.length < 140737488355328) : Ev (fun k => wageofficeref42_Write.f k l0 l1 a l2) (writeF l0 l1 a l2) := by
  unfold wageofficeref42_Write.f writeF
  refine Ev.bind (f := fun k t => if t = true then if a < 0 then wageofficeref42_Write.j0 k a l2 true l0 l1 else wageofficeref42_Write.j0 k a l2 (decide (a > wrap64 ((l0.length : Int) - (l2.length : Int)))) l0 l1 else wageofficeref42_Write.j0 k a l2 true l0 l1) (valid_ev l0 l1 (fine_fit h)) ?_
  have hbad : Ev (fun k => wageofficeref42_Write.j0 k a l2 true l0 l1) (([], [], 1) : List Int × List S45 × Int) := by
    refine Ev.step (f := fun _ => some (([], [], 1) : List Int × List S45 × Int)) (fun k => ?_) (Ev.now _)
    simp only [wageofficeref42_Write.j0]
    rw [if_pos trivial]
  cases hv : validB l0 l1
  · exact Ev.congr (fun k => by rw [if_neg (by simp)]) hbad
  · by_cases ha : a < 0
    · have : isPartB l0.length a l2.length = false := by
        cases hp : isPartB l0.length a l2.length
        · rfl
        · have := (isPartB_iff _ _ _).1 hp; omega
      rw [this]
      exact Ev.congr (fun k => by rw [if_pos rfl, if_pos ha]) hbad
    · have hw : wrap64 ((l0.length : Int) - (l2.length : Int)) = (l0.length : Int) - (l2.length : Int) := wrap_id (by omega) (by have := h.1; omega)
      by_cases hb : a > (l0.length : Int) - (l2.length : Int)
      · have : isPartB l0.length a l2.length = false := by
          cases hp : isPartB l0.length a l2.length
          · rfl
          · have := (isPartB_iff _ _ _).1 hp; omega
        rw [this]
        exact Ev.congr (fun k => by rw [if_pos rfl, if_neg ha, hw, decide_eq_true hb]) hbad
      · have hp : isPartB l0.length a l2.length = true := (isPartB_iff _ _ _).2 (by omega)
        rw [hp, Bool.and_self, if_pos rfl]
        refine Ev.congr (f := fun k => wageofficeref42_Write.j0 k a l2 false l0 l1) (fun k => by rw [if_pos rfl, if_neg ha, hw, decide_eq_false hb]) ?_
        by_cases h64 : l1.length = 64
        · refine Ev.step (f := fun _ => some (([], [], 2) : List Int × List S45 × Int)) (fun k => ?_) (ev_eq (Ev.now _) (by rw [if_pos h64]))
          simp only [wageofficeref42_Write.j0]
          rw [if_neg (by simp), if_pos (by omega)]
        · refine Ev.step (f := fun k => (wageofficeref42_Copy.f k l0).bind fun t => wageofficeref42_Write.l0 k a l2 0 l0 l1 t []) (fun k => ?_) (ev_eq (Ev.bind (f := fun k t => wageofficeref42_Write.l0 k a l2 0 l0 l1 t []) (copy_ev l0 h.1) (write_loop l0 l1 a l2 h h2)) (by rw [if_neg h64]))
          simp only [wageofficeref42_Write.j0]
          rw [if_neg (by simp), if_neg (by omega)]
end Go.Proofs.Ytfpdmlhknddffaa.Dk
