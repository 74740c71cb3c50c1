/- Walks and laws of package disk: part of the proofs of the Disk statements. -/
import Derived.Test.YtfpdmlhknddffaaD13
import Derived.Test.YtfpdmlhknddffaaRows
import Derived.ProofKit
import Derived.WalkKit
import Derived.OpenShut
import Derived.ChangeOld
import Derived.ChangeSlices
import Derived.Below
import Derived.SizedLaws
import Derived.Carry
import Derived.Deep.SlicePairs
import Derived.Lib.SmallJoins
namespace Go.Proofs.Ytfpdmlhknddffaa.Dk
open Go.RowKit Go.Proofs.YtfpdmlhknddffaaW.PrintWords Go.Proofs.YtfpdmlhknddffaaW.PrintLast Go.Proofs.YtfpdmlhknddffaaW.PrintMore
open Go.ChangeShapes Go.WideShapes Go.ChangeAt Go.Joins Go.Deep
set_option linter.unusedVariables false

theorem laidOut : laidOutB Try.prog = true := by kernel_rfl

theorem open_row {k : IntKind} {w : World} {H : Type} {enc : TypeId × Value → H} {base : Nat} {spare : Nat → Bool} {held : Bool} {t e : TypeId} {fuel : Nat} {cs : List Value} {x : DataW H × List MemPlace}
    (ht : Try.prog.underlying t = some (.slice e)) (he : Try.prog.underlying e = some (.int k)) (hc : Try.prog.cellsOf e = 1) (h : DataW.trod enc Try.prog w base spare held fuel t cs = some x) :
    ∃ (A : Option Addr) (c : Nat) (l : List Int), cs = [.slice A l.length c] ∧ l.length ≤ c ∧ Kd.C (Kd.int k) w A l.length l ∧ ∀ n ∈ l, (Lit.int k n).wf = true := by
  rcases open_ints ht he hc h with ⟨rfl, _⟩ | ⟨a, len, cap, zs, rfl, _, hl, hm, hz, _, hcell, hwz⟩
  · exact ⟨none, 0, [], rfl, Nat.le_refl _, Kd.C_nil _ _, fun n hn => by simp at hn⟩
  · have hle : len ≤ zs.length := by rw [hz]; split <;> omega
    have hlen : (zs.take len).length = len := by rw [List.length_take]; omega
    have hmax : cap ≤ 9223372036854775807 := hm
    have hr : ReadsInt w k (some a) len (zs.take len) := ⟨hlen, by omega, fun _ => ⟨a, rfl, fun j hj => by
      rw [hcell j (by omega)]
      simp [List.getD, hj]⟩⟩
    refine ⟨some a, cap, zs.take len, by rw [hlen], by omega, ?_, fun n hn => hwz n (List.mem_of_mem_take hn)⟩
    rw [hlen]
    exact Kd.C_of_reads (d := (0 : Int)) (h1 := fun _ => rfl) hr

theorem open_writes {w : World} {H : Type} {enc : TypeId × Value → H} {base : Nat} {spare : Nat → Bool} {held : Bool} {fuel : Nat} {cs : List Value} {x : DataW H × List MemPlace}
    (h : DataW.trod enc Try.prog w base spare held fuel 23 cs = some x) :
    ∃ (A : Option Addr) (c : Nat) (l : List S45), cs = [.slice A l.length c] ∧ l.length ≤ c ∧ Kd.C k45 w A l.length l ∧ ∀ y ∈ l, (Lit.int .i64 y.f0).wf = true := by
  rcases open_slice_pairs Try.underlying23 Try.underlying45 (by kernel_rfl) rfl rfl (by kernel_rfl) (by kernel_rfl) h with ⟨rfl, _⟩ | ⟨a, len, cap, m, n, V0, V1, D0, D1, P0, P1, rfl, _, hl, hm, hmm, _, hcell⟩
  · exact ⟨none, 0, [], rfl, Nat.le_refl _, Kd.C_nil _ _, fun n hn => by simp at hn⟩
  · have hle : len ≤ m := by rw [hmm]; split <;> omega
    have H : ∀ i, i < len → ∃ (y : S45) (A1 : Option Addr) (c1 : Nat), w.cell? (a.add (i * 2)) = some (.int .i64 y.f0) ∧ w.cell? (a.add (i * 2 + 1)) = some (.slice A1 y.f1.length c1) ∧ y.f1.length ≤ c1 ∧ Kd.C (Kd.int .u8) w A1 y.f1.length y.f1 ∧ (Lit.int .i64 y.f0).wf = true := by
      intro i hi
      obtain ⟨h0, h1, t0, t1⟩ := hcell i (by omega)
      obtain ⟨n0, e0, _, wf0⟩ := DataW.trod_int (k := .i64) (by kernel_rfl) t0
      obtain ⟨A1, c1, l1, e1, hc1, hC1, _⟩ := open_row (k := .u8) (e := 5) (by kernel_rfl) (by kernel_rfl) (by kernel_rfl) t1
      simp at e0 e1
      exact ⟨⟨n0, l1⟩, A1, c1, by rw [h0, e0], by rw [h1, e1], hc1, hC1, wf0⟩
    let F : Nat → S45 := fun i => if hi : i < len then Classical.choose (H i hi) else z45
    have HF : ∀ i, i < len → ∃ (A1 : Option Addr) (c1 : Nat), w.cell? (a.add (i * 2)) = some (.int .i64 (F i).f0) ∧ w.cell? (a.add (i * 2 + 1)) = some (.slice A1 (F i).f1.length c1) ∧ (F i).f1.length ≤ c1 ∧ Kd.C (Kd.int .u8) w A1 (F i).f1.length (F i).f1 ∧ (Lit.int .i64 (F i).f0).wf = true := by
      intro i hi
      have e : F i = Classical.choose (H i hi) := dif_pos hi
      rw [e]
      exact Classical.choose_spec (H i hi)
    have hlen : ((List.range len).map F).length = len := by simp
    have hmax : cap ≤ 9223372036854775807 := hm
    refine ⟨some a, cap, (List.range len).map F, by rw [hlen], by omega, ?_, ?_⟩
    · rw [hlen]
      refine ⟨hlen, by omega, fun _ => ⟨a, rfl, fun j p hj => ?_⟩⟩
      have hj2 : j < len := by
        have := (List.getElem?_eq_some_iff.1 hj).1
        rw [hlen] at this
        exact this
      obtain rfl : F j = p := by simpa [hj2] using hj
      obtain ⟨A1, c1, q0, q1, q2, q3, _⟩ := HF j hj2
      refine ⟨[.int .i64 (F j).f0, .slice A1 (F j).f1.length c1], rfl, k45_mk w (F j) q2 q3, fun i u hu => ?_⟩
      match i, hu with
      | 0, hu => simp at hu; subst hu; exact q0
      | 1, hu => simp at hu; subst hu; exact q1
      | i + 2, hu => simp at hu
    · intro y hy
      obtain ⟨i, hi, rfl⟩ := List.mem_map.1 hy
      exact (HF i (List.mem_range.1 hi)).choose_spec.choose_spec.2.2.2.2

theorem open_disk {r : Reach} {w : World} {H : Type} {enc : TypeId × Value → H} {base b0 : Nat} {spare : Nat → Bool} {held : Bool} {v : Value} {d : DataW H} {p : List MemPlace}
    (hv : Value.okWide Try.prog w r b0 25 v) (h : DataW.Trod enc Try.prog w base spare held 25 v d p) :
    ∃ (A0 A1 : Option Addr) (c0 c1 : Nat) (l0 : List Int) (l1 : List S45), v = .agg #[.slice A0 l0.length c0, .slice A1 l1.length c1] ∧ Kd.C (Kd.int .u8) w A0 l0.length l0 ∧ l0.length ≤ c0 ∧ Kd.C k45 w A1 l1.length l1 ∧ l1.length ≤ c1 ∧ (∀ n ∈ l0, (Lit.int .u8 n).wf = true) ∧ ∀ y ∈ l1, (Lit.int .i64 y.f0).wf = true := by
  obtain ⟨v0, v1, y0, y1, n, rfl, _, _, t0, t1⟩ := open_agg2 Try.underlying25 (by kernel_rfl) (by kernel_rfl) hv h
  obtain ⟨A0, c0, l0, e0, h0, C0, w0⟩ := open_row (k := .u8) (e := 5) Try.underlying22 (by kernel_rfl) (by kernel_rfl) t0
  obtain ⟨A1, c1, l1, e1, h1, C1, w1⟩ := open_writes t1
  simp at e0 e1
  subst e0 e1
  exact ⟨A0, A1, c0, c1, l0, l1, rfl, C0, h0, C1, h1, w0, w1⟩

theorem open_slice_v {r : Reach} {k : IntKind} {w : World} {H : Type} {enc : TypeId × Value → H} {base b0 : Nat} {spare : Nat → Bool} {held : Bool} {t e : TypeId} {v : Value} {d : DataW H} {p : List MemPlace}
    (ht : Try.prog.underlying t = some (.slice e)) (he : Try.prog.underlying e = some (.int k)) (hc : Try.prog.cellsOf e = 1) (hv : Value.okWide Try.prog w r b0 t v) (h : DataW.Trod enc Try.prog w base spare held t v d p) :
    ∃ (A : Option Addr) (c : Nat) (l : List Int), v = .slice A l.length c ∧ Kd.C (Kd.int k) w A l.length l ∧ l.length ≤ c ∧ ∀ n ∈ l, (Lit.int k n).wf = true := by
  obtain ⟨a, len, cap, rfl⟩ := okWide_slice ht hv
  obtain ⟨fuel, hf⟩ := h
  obtain ⟨A, c, l, e, hl, hC, hw⟩ := open_row ht he hc hf
  simp [Value.cells] at e
  obtain ⟨rfl, rfl, rfl⟩ := e
  exact ⟨_, _, l, rfl, hC, hl, hw⟩
end Go.Proofs.Ytfpdmlhknddffaa.Dk
