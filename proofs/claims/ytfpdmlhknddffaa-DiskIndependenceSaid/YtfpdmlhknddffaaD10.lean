/- Walks and laws of package disk: part of the proofs of the Disk statements. -/
import Derived.Test.YtfpdmlhknddffaaD9
namespace Go.Proofs.Ytfpdmlhknddffaa.Dk
open Go.RowKit Go.Proofs.YtfpdmlhknddffaaW.PrintWords Go.Proofs.YtfpdmlhknddffaaW.PrintLast Go.Proofs.YtfpdmlhknddffaaW.PrintMore
set_option linter.unusedVariables false
set_option linter.unusedSimpArgs false

/-! The five functions in the printed form: 'f' and 'calls'. -/
theorem slices_Clone_byte_byte.calls' : True := trivial

def disk_Write.f (l0_0 : List Int) (l0_1 : List (S45)) (a1 : Int) (l2 : List Int) : Option (List Int × (List (S45)) × Int) := some (writeF l0_0 l0_1 a1 l2)
theorem disk_Write.calls (A0_0 : Option Addr) (c0_0 : Nat) (l0_0 : List Int) (A0_1 : Option Addr) (c0_1 : Nat) (l0_1 : List (S45)) (a1 : Int) (A2 : Option Addr) (c2 : Nat) (l2 : List Int) (r1 : List Int) (r2 : List (S45)) (r3 : Int) (w : World) (hr0_0 : Kd.C (Kd.int .u8) w A0_0 l0_0.length l0_0) (hc0_0 : l0_0.length ≤ c0_0) (hr0_1 : Kd.C k45 w A0_1 l0_1.length l0_1) (hc0_1 : l0_1.length ≤ c0_1) (hr2 : Kd.C (Kd.int .u8) w A2 l2.length l2) (hc2 : l2.length ≤ c2) (h : disk_Write.f l0_0 l0_1 a1 l2 = some (r1, r2, r3)) :
    Calls Try.prog 21 #[.agg #[.slice A0_0 l0_0.length c0_0, .slice A0_1 l0_1.length c0_1], .int .i64 a1, .slice A2 l2.length c2] w fun e w' => ∃ v0_ v1_ : Value, e = .returned (.tuple #[.agg #[v0_, v1_], .int .i64 r3]) ∧ Kd.R (Kd.int .u8) 5 w' w.heap.size (fun _ => True) v0_ r1 ∧ Kd.S k45 45 w' w.heap.size (fun k_ => some k_ ≠ (v0_ : Value).ownBlock) v1_ r2 ∧ Below w.heap.size w w' := by
  unfold disk_Write.f writeF at h
  cases hv : validB l0_0 l0_1
  · rw [hv] at h
    injection h with h
    obtain ⟨rfl, rfl, rfl⟩ := h
    refine (disk_Write_e1 _ _ l0_0 _ _ l0_1 a1 _ _ l2 w hr0_0 hc0_0 hr0_1 hc0_1 hr2 hc2 (Lib.hid hv)).mono ?_
    rintro e w' ⟨rfl, hb⟩
    exact ⟨_, _, rfl, Kd.R_nil _ _ _ _ _, Kd.S_nil _ _ _ _ _, hb⟩
  · cases hp : isPartB l0_0.length a1 l2.length
    · rw [hv, hp] at h
      injection h with h
      obtain ⟨rfl, rfl, rfl⟩ := h
      refine (disk_Write_e2 _ _ l0_0 _ _ l0_1 a1 _ _ l2 w hr0_0 hc0_0 hr0_1 hc0_1 hr2 hc2 (Lib.hid hv) (Lib.hid hp)).mono ?_
      rintro e w' ⟨rfl, hb⟩
      exact ⟨_, _, rfl, Kd.R_nil _ _ _ _ _, Kd.S_nil _ _ _ _ _, hb⟩
    · by_cases h64 : l0_1.length = 64
      · rw [hv, hp, Bool.and_self, if_pos rfl, if_pos h64] at h
        injection h with h
        obtain ⟨rfl, rfl, rfl⟩ := h
        refine (disk_Write_e64 _ _ l0_0 _ _ l0_1 a1 _ _ l2 w hr0_0 hc0_0 hr0_1 hc0_1 hr2 hc2 (Lib.hid hv) (Lib.hid hp) h64).mono ?_
        rintro e w' ⟨rfl, hb⟩
        exact ⟨_, _, rfl, Kd.R_nil _ _ _ _ _, Kd.S_nil _ _ _ _ _, hb⟩
      · rw [hv, hp, Bool.and_self, if_pos rfl, if_neg h64] at h
        injection h with h
        obtain ⟨rfl, rfl, rfl⟩ := h
        exact disk_Write_ok _ _ l0_0 _ _ l0_1 a1 _ _ l2 w hr0_0 hc0_0 hr0_1 hc0_1 hr2 hc2 (Lib.hid hv) (Lib.hid hp) h64

def disk_Sync.f (l0_0 : List Int) (l0_1 : List (S45)) : Option (List Int × (List (S45))) := some (syncL l0_0 l0_1, [])
theorem disk_Sync.calls (A0_0 : Option Addr) (c0_0 : Nat) (l0_0 : List Int) (A0_1 : Option Addr) (c0_1 : Nat) (l0_1 : List (S45)) (r1 : List Int) (r2 : List (S45)) (w : World) (hr0_0 : Kd.C (Kd.int .u8) w A0_0 l0_0.length l0_0) (hc0_0 : l0_0.length ≤ c0_0) (hr0_1 : Kd.C k45 w A0_1 l0_1.length l0_1) (hc0_1 : l0_1.length ≤ c0_1) (h : disk_Sync.f l0_0 l0_1 = some (r1, r2)) :
    Calls Try.prog 26 #[.agg #[.slice A0_0 l0_0.length c0_0, .slice A0_1 l0_1.length c0_1]] w fun e w' => ∃ v0_ v1_ : Value, e = .returned (.agg #[v0_, v1_]) ∧ Kd.R (Kd.int .u8) 5 w' w.heap.size (fun _ => True) v0_ r1 ∧ Kd.S k45 45 w' w.heap.size (fun k_ => some k_ ≠ (v0_ : Value).ownBlock) v1_ r2 ∧ Below w.heap.size w w' := by
  unfold disk_Sync.f at h
  injection h with h
  obtain ⟨rfl, rfl⟩ := h
  refine (disk_Sync_calls _ _ l0_0 _ _ l0_1 w hr0_0 hc0_0 hr0_1 hc0_1).mono ?_
  rintro e w' ⟨v0, rfl, hr, hb⟩
  exact ⟨_, _, rfl, hr, Kd.S_nil _ _ _ _ _, hb⟩

def disk_Crash.f (l0_0 : List Int) (l0_1 : List (S45)) (l1 : List Int) : Option (List Int × (List (S45))) := some (crashL l0_0 l0_1 l1, [])
theorem disk_Crash.calls (A0_0 : Option Addr) (c0_0 : Nat) (l0_0 : List Int) (A0_1 : Option Addr) (c0_1 : Nat) (l0_1 : List (S45)) (A1 : Option Addr) (c1 : Nat) (l1 : List Int) (r1 : List Int) (r2 : List (S45)) (w : World) (hr0_0 : Kd.C (Kd.int .u8) w A0_0 l0_0.length l0_0) (hc0_0 : l0_0.length ≤ c0_0) (hr0_1 : Kd.C k45 w A0_1 l0_1.length l0_1) (hc0_1 : l0_1.length ≤ c0_1) (hr1 : Kd.C (Kd.int .i64) w A1 l1.length l1) (hc1 : l1.length ≤ c1) (h : disk_Crash.f l0_0 l0_1 l1 = some (r1, r2)) :
    Calls Try.prog 28 #[.agg #[.slice A0_0 l0_0.length c0_0, .slice A0_1 l0_1.length c0_1], .slice A1 l1.length c1] w fun e w' => ∃ v0_ v1_ : Value, e = .returned (.agg #[v0_, v1_]) ∧ Kd.R (Kd.int .u8) 5 w' w.heap.size (fun _ => True) v0_ r1 ∧ Kd.S k45 45 w' w.heap.size (fun k_ => some k_ ≠ (v0_ : Value).ownBlock) v1_ r2 ∧ Below w.heap.size w w' := by
  unfold disk_Crash.f at h
  injection h with h
  obtain ⟨rfl, rfl⟩ := h
  refine (disk_Crash_calls _ _ l0_0 _ _ l0_1 _ _ l1 w hr0_0 hc0_0 hr0_1 hc0_1 hr1 hc1).mono ?_
  rintro e w' ⟨v0, rfl, hr, hb⟩
  exact ⟨_, _, rfl, hr, Kd.S_nil _ _ _ _ _, hb⟩

def disk_Read.f (l0_0 : List Int) (l0_1 : List (S45)) (a1 a2 : Int) : Option (List Int × Int) := some (readL l0_0 l0_1 a1 a2, if readOk l0_0 l0_1 a1 a2 = true then 0 else 1)
theorem disk_Read.calls (A0_0 : Option Addr) (c0_0 : Nat) (l0_0 : List Int) (A0_1 : Option Addr) (c0_1 : Nat) (l0_1 : List (S45)) (a1 : Int) (a2 : Int) (r1 : List Int) (r2 : Int) (w : World) (hr0_0 : Kd.C (Kd.int .u8) w A0_0 l0_0.length l0_0) (hc0_0 : l0_0.length ≤ c0_0) (hr0_1 : Kd.C k45 w A0_1 l0_1.length l0_1) (hc0_1 : l0_1.length ≤ c0_1) (h : disk_Read.f l0_0 l0_1 a1 a2 = some (r1, r2)) :
    Calls Try.prog 23 #[.agg #[.slice A0_0 l0_0.length c0_0, .slice A0_1 l0_1.length c0_1], .int .i64 a1, .int .i64 a2] w fun e w' => ∃ v0_ : Value, e = .returned (.tuple #[v0_, .int .i64 r2]) ∧ Kd.R (Kd.int .u8) 5 w' w.heap.size (fun _ => True) v0_ r1 ∧ Below w.heap.size w w' := by
  unfold disk_Read.f at h
  injection h with h
  obtain ⟨rfl, rfl⟩ := h
  exact disk_Read_calls _ _ l0_0 _ _ l0_1 a1 a2 w hr0_0 hc0_0 hr0_1 hc0_1
end Go.Proofs.Ytfpdmlhknddffaa.Dk
