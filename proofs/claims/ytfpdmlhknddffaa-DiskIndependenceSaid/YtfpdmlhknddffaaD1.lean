/- Walks and laws of package disk: part of the proofs of the Disk statements. -/
import Derived.Test.YtfpdmlhknddffaaQ1
import Derived.Outline
import Derived.Lib.Hide
namespace Go.Proofs.Ytfpdmlhknddffaa.Dk
open Go.RowKit Go.Proofs.YtfpdmlhknddffaaW.PrintWords Go.Proofs.YtfpdmlhknddffaaW.PrintLast Go.Proofs.YtfpdmlhknddffaaW.PrintMore
set_option linter.unusedVariables false
set_option linter.unusedSimpArgs false

/-- is it a part -/
def isPartB (n at_ count : Int) : Bool := decide (0 ≤ at_) && decide (0 ≤ count) && decide (at_ ≤ n) && decide (count ≤ n - at_)

theorem isPart_f (l0 : List Int) (l1 : List S45) (a c : Int) (hl : l0.length ≤ maxLen) : disk_isPart.f l0 l1 a c = some (isPartB l0.length a c) := by
  unfold disk_isPart.f isPartB maxLen at *
  unfold wrap64
  by_cases h1 : a ≥ 0 <;> by_cases h2 : c ≥ 0 <;> by_cases h3 : a ≤ (l0.length : Int) <;> simp [h1, h2, h3]
  omega

set_option maxHeartbeats 400000 in
theorem isValid1_calls (A0 : Option Addr) (c0 : Nat) (l0 : List Int) (A1 : Option Addr) (c1 : Nat) (l1 : List S45) (B : Nat) (w : World) (x : S45) (cs : List Value)
   (hB : w.heap[B]? = some (.cells #[.slice A0 l0.length c0, .slice A1 l1.length c1] 25 (0, 0)))
   (h0 : Kd.C (Kd.int .u8) w A0 l0.length l0) (hc0 : l0.length ≤ c0) (h1 : Kd.C k45 w A1 l1.length l1) (hc1 : l1.length ≤ c1)
   (hm : l0.length ≤ maxLen) (hx : k45.K w x cs) :
    Calls Try.prog 58 #[.agg cs.toArray, .pointer (some ⟨B, 0, none⟩)] w fun e w' => e = .returned (.bool (!isPartB l0.length x.f0 x.f1.length)) ∧ Below w.heap.size w w' := by
  obtain ⟨A2, c2, rfl, l2, g2⟩ := k45_open hx
  have hu25 := Try.underlying25
  have hu45 := Try.underlying45
  have hp := isPart_f l0 l1 x.f0 x.f1.length hm
  have Hp := Lib.hid hp; clear hp
  have HB := Lib.hid hB; clear hB
  go_enter Try.func58, Try.ntmps58
  go_wp2_with (first | ((with_reducible refine gate_dst (N := 2) rfl ?_); (refine box_event ?hg (N := 2) ?hd (cs := #[.int .i64 x.f0, .slice A2 x.f1.length c2]) (t := 45) ?hr ?_); (case hd => rfl); (case hg => rfl); (case hr => first | (go_simp; done) | (go_simp; rfl)); intro g hg w1 hb1 hB1; have hq0 := (blk_cell (blk_below HB.out hB1) 0).trans rfl; have hq1 := (blk_cell (blk_below HB.out hB1) 1).trans rfl; have hq2 := (blk_cell hb1 0).trans rfl; have hq3 := (blk_cell hb1 1).trans rfl; have HB1 := Lib.hid hB1; clear hB1 hg) | (go_at_call 44; refine (disk_isPart.calls _ _ l0 _ _ l1 x.f0 x.f1.length _ _ (Kd.C_below h0 HB1.out) hc0 (Kd.C_below h1 HB1.out) hc1 Hp.out).mono ?_; rintro e w2 ⟨rfl, hb2⟩) )
  go_ret
  exact ⟨rfl, below_then HB1.out HB1.out.size hb2⟩
end Go.Proofs.Ytfpdmlhknddffaa.Dk
