/- Walks and laws of package disk: part of the proofs of the Disk statements. -/
import Derived.Test.YtfpdmlhknddffaaD3
import Derived.Laws.CopyOwn
import Derived.StillTailTactics
namespace Go.Proofs.Ytfpdmlhknddffaa.Dk
open Go.RowKit Go.Proofs.YtfpdmlhknddffaaW.PrintWords Go.Proofs.YtfpdmlhknddffaaW.PrintLast Go.Proofs.YtfpdmlhknddffaaW.PrintMore
attribute [local go_sem] max2_int min2_int max_two min_two
set_option linter.unusedVariables false
set_option linter.unusedSimpArgs false

/-- s[:h:m] -/
theorem cut3 {P : Program} (t e : TypeId) {i : TypeInfo} (ht : P.underlying t = some (.slice e)) (hi : P.info? e = some i) (A : Option Addr) (n c : Nat) (h m : Int) (h0 : 0 ≤ h) (hm : h ≤ m) (hc : m ≤ c) :
    ∀ W : World, (Instr.slice t (.slice A n c) none (some (.int .i64 h)) (some (.int .i64 m))).run P W = .ok (.slice A h.toNat m.toNat) W := by
  intro W
  have ha : (A.map fun x => x.add 0) = A := by cases A <;> simp [Addr.add]
  have hm0 : 0 ≤ m := by omega
  have hmc : m.toNat = m := by omega
  simp [Instr.slice, run_underlying ht, Instr.sliceBounds, Instr.sliceBound, asIntOf, hm0, hc, h0, hm, hmc, sizeOf, typeInfo, hi, Result.andThen]
  intro _
  exact ha

/-- how much of a write is kept -/
def keptN (k : Int) (n : Nat) : Nat := (min (max k 0) n).toNat
theorem keptN_le (k : Int) (n : Nat) : keptN k n ≤ n := by unfold keptN; omega
/-- the first n writes applied -/
def applyN (kept : Nat → Int) (ws : List S45) (out : List Int) : Nat → List Int
  | 0 => out
  | i + 1 => splice (applyN kept ws out i) (ws.getD i z45).f0.toNat ((ws.getD i z45).f1.take (keptN (kept i) (ws.getD i z45).f1.length))
def applyL (kept : Nat → Int) (ws : List S45) (out : List Int) : List Int := applyN kept ws out ws.length

theorem splice_length {α : Type} (L : List α) (off : Nat) (cs : List α) (h : off + cs.length ≤ L.length) : (splice L off cs).length = L.length := by
  unfold splice; simp; omega

theorem isPartB_iff (n a c : Int) : isPartB n a c = true ↔ 0 ≤ a ∧ 0 ≤ c ∧ a ≤ n ∧ c ≤ n - a := by
  unfold isPartB; simp; omega

theorem validB_iff (l0 : List Int) (l1 : List S45) : validB l0 l1 = true ↔ l0.length ≤ 65536 ∧ l1.length ≤ 64 ∧ ∀ x ∈ l1, 0 ≤ x.f0 ∧ x.f0 + x.f1.length ≤ l0.length := by
  have key : ∀ x : S45, (!isPartB l0.length x.f0 x.f1.length) = false ↔ 0 ≤ x.f0 ∧ x.f0 + x.f1.length ≤ l0.length := by
    intro x
    rw [Bool.not_eq_false', isPartB_iff]
    omega
  unfold validB
  rw [Bool.and_eq_true, Bool.and_eq_true, decide_eq_true_eq, decide_eq_true_eq, Bool.not_eq_true', List.any_eq_false]
  constructor
  · rintro ⟨⟨a, b⟩, c⟩
    exact ⟨a, b, fun x hx => (key x).1 (by simpa using c x hx)⟩
  · rintro ⟨a, b, c⟩
    exact ⟨⟨a, b⟩, fun x hx => by rw [(key x).2 (c x hx)]; simp⟩

theorem applyN_length (kept : Nat → Int) (l0 : List Int) (l1 : List S45) (hv : validB l0 l1 = true) : ∀ i, i ≤ l1.length → (applyN kept l1 l0 i).length = l0.length := by
  intro i
  induction i with
  | zero => intro _; rfl
  | succ i ih =>
    intro hi
    have h1 := ih (by omega)
    have hx := ((validB_iff l0 l1).1 hv).2.2 (l1.getD i z45) (by simp [List.getD, show i < l1.length by omega])
    show (splice _ _ _).length = _
    rw [splice_length, h1]
    rw [h1, List.length_take]
    have := keptN_le (kept i) (l1.getD i z45).f1.length
    omega
end Go.Proofs.Ytfpdmlhknddffaa.Dk
