/- Walks and laws of package disk: part of the proofs of the Disk statements. -/
import Derived.Test.YtfpdmlhknddffaaD13
namespace Go.Proofs.Ytfpdmlhknddffaa.Dk
open Go.RowKit Go.Proofs.YtfpdmlhknddffaaW.PrintWords Go.Proofs.YtfpdmlhknddffaaW.PrintLast Go.Proofs.YtfpdmlhknddffaaW.PrintMore
attribute [local go_sem] field25 field25b
set_option linter.unusedVariables false
set_option linter.unusedSimpArgs false

/-- a literal's block reads as its list -/
theorem C_blk {k : IntKind} {e g : Nat} {w : World} {xs : List Int} (h : w.heap[g]? = some (.cells (xs.map (Value.int k)).toArray e (0, 0))) (hm : xs.length ≤ 9223372036854775807) : Kd.C (Kd.int k) w (some ⟨g, 0, none⟩) xs.length xs := by
  refine ⟨rfl, hm, fun _ => ⟨⟨g, 0, none⟩, rfl, fun j p hj => ⟨[.int k p], rfl, rfl, fun i u hu => ?_⟩⟩⟩
  have hi : i = 0 := by have := (List.getElem?_eq_some_iff.1 hu).1; simpa using this
  subst hi
  rw [add_at, Nat.zero_add]
  refine (blk_cell h _).trans ?_
  show (xs.map (Value.int k)).toArray[j * 1 + 0]? = some u
  simp at hu
  simp [hj, hu]

/-- a disk in a box of the call's own: its content is told -/
def Dsk (w : World) (base gd : Nat) (S : List Int) (P : List S45) : Prop :=
  ∃ A c A' c', w.heap[gd]? = some (.cells #[.slice A S.length c, .slice A' P.length c'] 25 (0, 0)) ∧ Kd.R (Kd.int .u8) 5 w base (fun _ => True) (.slice A S.length c) S ∧ Kd.S k45 45 w base (fun _ => True) (.slice A' P.length c') P

theorem Dsk.below {w w1 : World} {base gd : Nat} {S : List Int} {P : List S45} (h : Dsk w base gd S P) (hb : Below w.heap.size w w1) : Dsk w1 base gd S P := by
  obtain ⟨A, c, A', c', h1, h2, h3⟩ := h
  exact ⟨A, c, A', c', blk_below h1 hb, Kd.R_below h2 hb, Kd.S_below h3 hb⟩

/-- what a call hands back is laid into the box -/
theorem Dsk.put {w1 : World} {base base' gd : Nat} {x y : Value} {S : List Int} {P : List S45} {v0 v1 : Value} (hg : w1.heap[gd]? = some (.cells #[x, y] 25 (0, 0)))
    (hr : Kd.R (Kd.int .u8) 5 w1 base' (fun _ => True) v0 S) (hs : Kd.S k45 45 w1 base' (fun k => some k ≠ v0.ownBlock) v1 P) (hb : base ≤ base') :
    ∃ A c A' c', v0 = .slice A S.length c ∧ v1 = .slice A' P.length c' ∧ Dsk ((w1.setCell ⟨gd, 0, none⟩ v0).setCell ⟨gd, 1, none⟩ v1) base gd S P := by
  obtain ⟨A, c, rfl⟩ := Kd.R_slice hr
  obtain ⟨A', c', rfl⟩ := Kd.S_slice hs
  refine ⟨A, c, A', c', rfl, rfl, A, c, A', c', two_cells hg _ _, ?_, ?_⟩
  · exact Kd.R_lower (Kd.R_set (Kd.R_set hr hg (by decide) 0 _) (blk_put hg 0 _ rfl) (by decide) 1 _) hb
  · exact Kd.S_lower (Kd.S_mono (Kd.S_set (Kd.S_set hs hg (by decide) 0 _) (blk_put hg 0 _ rfl) (by decide) 1 _) (fun _ _ => trivial)) hb

/-! The contracts with the lengths as numbers: for literals. -/
theorem write_n {A0 A1 A2 : Option Addr} {c0 c1 c2 n0 n1 n2 : Nat} (l0 : List Int) (l1 : List S45) (a1 : Int) (l2 r1 : List Int) (r2 : List S45) (r3 : Int) (w : World) (e0 : l0.length = n0) (e1 : l1.length = n1) (e2 : l2.length = n2)
    (h0 : Kd.C (Kd.int .u8) w A0 n0 l0) (k0 : n0 ≤ c0) (h1 : Kd.C k45 w A1 n1 l1) (k1 : n1 ≤ c1) (h2 : Kd.C (Kd.int .u8) w A2 n2 l2) (k2 : n2 ≤ c2) (h : disk_Write.f l0 l1 a1 l2 = some (r1, r2, r3)) :
    Calls Try.prog 21 #[.agg #[.slice A0 n0 c0, .slice A1 n1 c1], .int .i64 a1, .slice A2 n2 c2] w fun e w' => ∃ v0 v1 : Value, e = .returned (.tuple #[.agg #[v0, v1], .int .i64 r3]) ∧ Kd.R (Kd.int .u8) 5 w' w.heap.size (fun _ => True) v0 r1 ∧ Kd.S k45 45 w' w.heap.size (fun k => some k ≠ v0.ownBlock) v1 r2 ∧ Below w.heap.size w w' := by
  subst e0; subst e1; subst e2
  exact disk_Write.calls A0 c0 l0 A1 c1 l1 a1 A2 c2 l2 r1 r2 r3 w h0 k0 h1 k1 h2 k2 h
theorem read_n {A0 A1 : Option Addr} {c0 c1 n0 n1 : Nat} (l0 : List Int) (l1 : List S45) (a1 a2 : Int) (r1 : List Int) (r2 : Int) (w : World) (e0 : l0.length = n0) (e1 : l1.length = n1)
    (h0 : Kd.C (Kd.int .u8) w A0 n0 l0) (k0 : n0 ≤ c0) (h1 : Kd.C k45 w A1 n1 l1) (k1 : n1 ≤ c1) (h : disk_Read.f l0 l1 a1 a2 = some (r1, r2)) :
    Calls Try.prog 23 #[.agg #[.slice A0 n0 c0, .slice A1 n1 c1], .int .i64 a1, .int .i64 a2] w fun e w' => ∃ v0 : Value, e = .returned (.tuple #[v0, .int .i64 r2]) ∧ Kd.R (Kd.int .u8) 5 w' w.heap.size (fun _ => True) v0 r1 ∧ Below w.heap.size w w' := by
  subst e0; subst e1
  exact disk_Read.calls A0 c0 l0 A1 c1 l1 a1 a2 r1 r2 w h0 k0 h1 k1 h
theorem crash_n {A0 A1 A2 : Option Addr} {c0 c1 c2 n0 n1 n2 : Nat} (l0 : List Int) (l1 : List S45) (l2 r1 : List Int) (r2 : List S45) (w : World) (e0 : l0.length = n0) (e1 : l1.length = n1) (e2 : l2.length = n2)
    (h0 : Kd.C (Kd.int .u8) w A0 n0 l0) (k0 : n0 ≤ c0) (h1 : Kd.C k45 w A1 n1 l1) (k1 : n1 ≤ c1) (h2 : Kd.C (Kd.int .i64) w A2 n2 l2) (k2 : n2 ≤ c2) (h : disk_Crash.f l0 l1 l2 = some (r1, r2)) :
    Calls Try.prog 28 #[.agg #[.slice A0 n0 c0, .slice A1 n1 c1], .slice A2 n2 c2] w fun e w' => ∃ v0 v1 : Value, e = .returned (.agg #[v0, v1]) ∧ Kd.R (Kd.int .u8) 5 w' w.heap.size (fun _ => True) v0 r1 ∧ Kd.S k45 45 w' w.heap.size (fun k => some k ≠ v0.ownBlock) v1 r2 ∧ Below w.heap.size w w' := by
  subst e0; subst e1; subst e2
  exact disk_Crash.calls A0 c0 l0 A1 c1 l1 A2 c2 l2 r1 r2 w h0 k0 h1 k1 h2 k2 h
theorem sync_n {A0 A1 : Option Addr} {c0 c1 n0 n1 : Nat} (l0 : List Int) (l1 : List S45) (r1 : List Int) (r2 : List S45) (w : World) (e0 : l0.length = n0) (e1 : l1.length = n1)
    (h0 : Kd.C (Kd.int .u8) w A0 n0 l0) (k0 : n0 ≤ c0) (h1 : Kd.C k45 w A1 n1 l1) (k1 : n1 ≤ c1) (h : disk_Sync.f l0 l1 = some (r1, r2)) :
    Calls Try.prog 26 #[.agg #[.slice A0 n0 c0, .slice A1 n1 c1]] w fun e w' => ∃ v0 v1 : Value, e = .returned (.agg #[v0, v1]) ∧ Kd.R (Kd.int .u8) 5 w' w.heap.size (fun _ => True) v0 r1 ∧ Kd.S k45 45 w' w.heap.size (fun k => some k ≠ v0.ownBlock) v1 r2 ∧ Below w.heap.size w w' := by
  subst e0; subst e1
  exact disk_Sync.calls A0 c0 l0 A1 c1 l1 r1 r2 w h0 k0 h1 k1 h
theorem bytes_n {A0 A1 : Option Addr} {c0 c1 n0 n1 : Nat} (k : Nat) (l0 l1 : List Int) (r : Bool) (w : World) (e0 : l0.length = n0) (e1 : l1.length = n1)
    (h0 : Kd.C (Kd.int .u8) w A0 n0 l0) (k0 : n0 ≤ c0) (h1 : Kd.C (Kd.int .u8) w A1 n1 l1) (k1 : n1 ≤ c1) (h : wageofficeref42_Bytes.f k l0 l1 = some r) :
    Calls Try.prog 25 #[.slice A0 n0 c0, .slice A1 n1 c1] w fun e w' => e = .returned (.bool r) ∧ Below w.heap.size w w' := by
  subst e0; subst e1
  exact (wageofficeref42_Bytes.calls k A0 c0 l0 A1 c1 l1 r w h0 k0 h1 k1 h).mono (fun e w' h => by obtain ⟨h1, h2⟩ := h; exact ⟨h1, h2.below⟩)
/-- what an own row of bytes tells: its form and its reading -/
theorem R_num {e base : Nat} {ok : Nat → Prop} {w : World} {k : IntKind} {v : Value} {xs : List Int} (h : Kd.R (Kd.int k) e w base ok v xs) : ∃ A c, v = .slice A xs.length c ∧ xs.length ≤ c ∧ Kd.C (Kd.int k) w A xs.length xs := by
  obtain ⟨A, c, rfl⟩ := Kd.R_slice h
  exact ⟨A, c, rfl, (Kd.R_reads' h).2.1, (Kd.R_reads' h).2.2⟩

set_option maxHeartbeats 1600000 in
theorem head_calls (w : World) : Calls Try.prog 16 #[] w fun e w' => e = .returned (.bool true) ∧ Below w.heap.size w w' := by
  have hu25 := Try.underlying25
  have hu22 := Try.underlying22
  have hu23 := Try.underlying23
  have hu26 := Try.underlying26
  go_enter Try.func16, Try.ntmps16
  go_wp2_with (fail)
  refine (disk_New.calls 6 [0, 0, 0, 0, 0, 0] [] 0 _ (by rfl)).mono ?_
  rintro e w1 ⟨v0, v1, rfl, hr1, hs1, hb1⟩
  obtain ⟨A0, c0, rfl⟩ := Kd.R_slice hr1
  obtain ⟨A1, c1, rfl⟩ := Kd.S_slice hs1
  have HB1 := Lib.hid hb1
  have HR1 := Lib.hid hr1
  have HS1 := Lib.hid hs1
  clear hb1 hr1 hs1
  go_wp2_with (first | ((with_reducible refine gate_dst (N := 1) rfl ?_); (refine box_event ?hg (N := 1) ?hd (cs := #[.slice none 0 0, .slice none 0 0]) (t := 25) ?hr ?_); (case hd => rfl); (case hg => rfl); (case hr => first | (go_simp; done) | (go_simp; rfl)); intro gd hgd w2 hb2 hB2; have hf0 := blk_frozen hb2 0; have hf1 := blk_frozen hb2 1; have hf2 := (blk_cell hb2 0).trans rfl; have hf3 := (blk_cell hb2 1).trans rfl; have HB2 := Lib.hid (below_then HB1.out HB1.out.size hB2); have Hgd : Hid (w.heap.size ≤ gd) := (Lib.hid (by rw [hgd]; exact HB1.out.size)); have Hb2 := Lib.hid hb2; have HR2 := Lib.hid (Kd.R_below HR1.out hB2); have HS2 := Lib.hid (Kd.S_below HS1.out hB2); clear hb2 hB2 hgd) )
  obtain ⟨w3, hw3⟩ : ∃ W, W = ((w2.setCell ⟨gd, 0, none⟩ (.slice A0 6 c0)).setCell ⟨gd, 1, none⟩ (.slice A1 0 c1)) := ⟨_, rfl⟩; have hz3 : w2.heap.size = w3.heap.size := (by rw [hw3]; simp); rw [← hw3]; (try rw [hz3]); have Hb3 : Hid (w3.heap[gd]? = some (.cells #[(.slice A0 6 c0), (.slice A1 0 c1)] 25 (0, 0))) := (Lib.hid (by rw [hw3]; exact two_cells Hb2.out _ _)); have HR3 := Lib.hid (show Kd.R (Kd.int .u8) 5 w3 _ _ (.slice A0 6 c0) _ from (by rw [hw3]; exact Kd.R_set (Kd.R_set HR2.out Hb2.out (by decide) 0 _) (blk_put Hb2.out 0 _ rfl) (by decide) 1 _)); have HS3 := Lib.hid (show Kd.S k45 45 w3 _ _ (.slice A1 0 c1) _ from (by rw [hw3]; exact Kd.S_set (Kd.S_set HS2.out Hb2.out (by decide) 0 _) (blk_put Hb2.out 0 _ rfl) (by decide) 1 _)); have HB3 : Hid (Below w.heap.size w w3) := (Lib.hid (by rw [hw3]; exact (HB2.out.setCell (p := ⟨gd, 0, none⟩) Hgd.out _).setCell (p := ⟨gd, 1, none⟩) Hgd.out _)); clear hw3 hz3
  clear hf0 hf1 hf2 hf3 Hb2 HR2 HS2
  refine (write_n [0, 0, 0, 0, 0, 0] [] 1 [1, 2, 3] [0, 0, 0, 0, 0, 0] [⟨1, [1, 2, 3]⟩] 0 _ rfl rfl rfl (Kd.C_alloc (Kd.R_reads' HR3.out).2.2 _) (Kd.R_reads' HR3.out).2.1 (Kd.C_alloc (Kd.R_reads' (Kd.S_R HS3.out)).2.2 _) (Kd.R_reads' (Kd.S_R HS3.out)).2.1 (C_blk (xs := [1, 2, 3]) (blk_new _ _) (by decide)) (by decide) (by kernel_rfl)).mono ?_
  rintro e w4 ⟨v2, v3, rfl, hr4, hs4, hb4⟩
  obtain ⟨A2, c2, rfl⟩ := Kd.R_slice hr4
  obtain ⟨A3, c3, rfl⟩ := Kd.S_slice hs4
  have Hb4 := Lib.hid (blk_below (blk_alloc Hb3.out _) hb4)
  have HR4 := Lib.hid (show Kd.R (Kd.int .u8) 5 w4 _ _ (.slice A2 6 c2) [0, 0, 0, 0, 0, 0] from hr4)
  have HS4 := Lib.hid (show Kd.S k45 45 w4 _ _ (.slice A3 1 c3) [⟨1, [1, 2, 3]⟩] from hs4)
  have HB4 := Lib.hid (below_then HB3.out HB3.out.size (below_then (below_alloc (Below.refl _ _) _) (by simp) hb4))
  have q0 := (blk_cell Hb4.out 0).trans rfl
  have q1 := (blk_cell Hb4.out 1).trans rfl
  have q2 := blk_frozen Hb4.out 0
  have q3 := blk_frozen Hb4.out 1
  clear hr4 hs4 hb4 Hb3 HR3 HS3
  go_wp2_with (fail)
  obtain ⟨w5, hw5⟩ : ∃ W, W = ((w4.setCell ⟨gd, 0, none⟩ (.slice A2 6 c2)).setCell ⟨gd, 1, none⟩ (.slice A3 1 c3)) := ⟨_, rfl⟩; have hz5 : w4.heap.size = w5.heap.size := (by rw [hw5]; simp); rw [← hw5]; (try rw [hz5]); have Hb5 : Hid (w5.heap[gd]? = some (.cells #[(.slice A2 6 c2), (.slice A3 1 c3)] 25 (0, 0))) := (Lib.hid (by rw [hw5]; exact two_cells Hb4.out _ _)); have HR5 := Lib.hid (show Kd.R (Kd.int .u8) 5 w5 _ _ (.slice A2 6 c2) _ from (by rw [hw5]; exact Kd.R_set (Kd.R_set HR4.out Hb4.out (by decide) 0 _) (blk_put Hb4.out 0 _ rfl) (by decide) 1 _)); have HS5 := Lib.hid (show Kd.S k45 45 w5 _ _ (.slice A3 1 c3) _ from (by rw [hw5]; exact Kd.S_set (Kd.S_set HS4.out Hb4.out (by decide) 0 _) (blk_put Hb4.out 0 _ rfl) (by decide) 1 _)); have HB5 : Hid (Below w.heap.size w w5) := (Lib.hid (by rw [hw5]; exact (HB4.out.setCell (p := ⟨gd, 0, none⟩) Hgd.out _).setCell (p := ⟨gd, 1, none⟩) Hgd.out _)); clear hw5 hz5
  clear q0 q1 q2 q3 Hb4 HR4 HS4
  refine (write_n [0, 0, 0, 0, 0, 0] [⟨1, [1, 2, 3]⟩] 2 [9] [0, 0, 0, 0, 0, 0] [⟨1, [1, 2, 3]⟩, ⟨2, [9]⟩] 0 _ rfl rfl rfl (Kd.C_alloc (Kd.R_reads' HR5.out).2.2 _) (Kd.R_reads' HR5.out).2.1 (Kd.C_alloc (Kd.R_reads' (Kd.S_R HS5.out)).2.2 _) (Kd.R_reads' (Kd.S_R HS5.out)).2.1 (C_blk (xs := [9]) (blk_new _ _) (by decide)) (by decide) (by kernel_rfl)).mono ?_
  rintro e w6 ⟨v4, v5, rfl, hr6, hs6, hb6⟩
  obtain ⟨A4, c4, rfl⟩ := Kd.R_slice hr6
  obtain ⟨A5, c5, rfl⟩ := Kd.S_slice hs6
  have Hb6 := Lib.hid (blk_below (blk_alloc Hb5.out _) hb6)
  have HR6 := Lib.hid (show Kd.R (Kd.int .u8) 5 w6 _ _ (.slice A4 6 c4) [0, 0, 0, 0, 0, 0] from hr6)
  have HS6 := Lib.hid (show Kd.S k45 45 w6 _ _ (.slice A5 2 c5) [⟨1, [1, 2, 3]⟩, ⟨2, [9]⟩] from hs6)
  have HB6 := Lib.hid (below_then HB5.out HB5.out.size (below_then (below_alloc (Below.refl _ _) _) (by simp) hb6))
  have q0 := (blk_cell Hb6.out 0).trans rfl
  have q1 := (blk_cell Hb6.out 1).trans rfl
  have q2 := blk_frozen Hb6.out 0
  have q3 := blk_frozen Hb6.out 1
  clear hr6 hs6 hb6 Hb5 HR5 HS5
  go_wp2_with (fail)
  obtain ⟨w7, hw7⟩ : ∃ W, W = ((w6.setCell ⟨gd, 0, none⟩ (.slice A4 6 c4)).setCell ⟨gd, 1, none⟩ (.slice A5 2 c5)) := ⟨_, rfl⟩; have hz7 : w6.heap.size = w7.heap.size := (by rw [hw7]; simp); rw [← hw7]; (try rw [hz7]); have Hb7 : Hid (w7.heap[gd]? = some (.cells #[(.slice A4 6 c4), (.slice A5 2 c5)] 25 (0, 0))) := (Lib.hid (by rw [hw7]; exact two_cells Hb6.out _ _)); have HR7 := Lib.hid (show Kd.R (Kd.int .u8) 5 w7 _ _ (.slice A4 6 c4) _ from (by rw [hw7]; exact Kd.R_set (Kd.R_set HR6.out Hb6.out (by decide) 0 _) (blk_put Hb6.out 0 _ rfl) (by decide) 1 _)); have HS7 := Lib.hid (show Kd.S k45 45 w7 _ _ (.slice A5 2 c5) _ from (by rw [hw7]; exact Kd.S_set (Kd.S_set HS6.out Hb6.out (by decide) 0 _) (blk_put Hb6.out 0 _ rfl) (by decide) 1 _)); have HB7 : Hid (Below w.heap.size w w7) := (Lib.hid (by rw [hw7]; exact (HB6.out.setCell (p := ⟨gd, 0, none⟩) Hgd.out _).setCell (p := ⟨gd, 1, none⟩) Hgd.out _)); clear hw7 hz7
  clear q0 q1 q2 q3 Hb6 HR6 HS6
  have C7 := Lib.hid (show Kd.C (Kd.int .u8) w7 A4 6 [0, 0, 0, 0, 0, 0] from (Kd.R_reads' HR7.out).2.2)
  have D7 := Lib.hid (show Kd.C k45 w7 A5 2 [⟨1, [1, 2, 3]⟩, ⟨2, [9]⟩] from (Kd.R_reads' (Kd.S_R HS7.out)).2.2)
  have kc4 : 6 ≤ c4 := (Kd.R_reads' HR7.out).2.1
  have kc5 : 2 ≤ c5 := (Kd.R_reads' (Kd.S_R HS7.out)).2.1
  refine (read_n [0, 0, 0, 0, 0, 0] [⟨1, [1, 2, 3]⟩, ⟨2, [9]⟩] 0 6 [0, 1, 9, 3, 0, 0] 0 _ rfl rfl C7.out kc4 D7.out kc5 (by kernel_rfl)).mono ?_
  rintro e w8 ⟨v6, rfl, hr8, hb8⟩
  obtain ⟨A6, c6, rfl⟩ := Kd.R_slice hr8
  have Hb8 := Lib.hid (blk_below Hb7.out hb8)
  have C6 := Lib.hid (show Kd.C (Kd.int .u8) w8 A6 6 [0, 1, 9, 3, 0, 0] from (Kd.R_reads' hr8).2.2)
  have kc6 : 6 ≤ c6 := (Kd.R_reads' hr8).2.1
  have C8 := Lib.hid (Kd.C_below C7.out hb8)
  have D8 := Lib.hid (Kd.C_below D7.out hb8)
  have HB8 := Lib.hid (below_then HB7.out HB7.out.size hb8)
  clear hr8 hb8 HR7 HS7 Hb7
  go_wp2_with (fail)
  have Hbd := Lib.hid (blk_drew Hb8.out)
  refine start_ (n := 32) (S := fun w' => w'.cell? ⟨gd, 0, none⟩ = some (.slice A4 6 c4) ∧ w'.cell? ⟨gd, 1, none⟩ = some (.slice A5 2 c5)) (ds := []) #[false, false, false, false, false, false, false, false, false, false, false, false, false, false, false, false, false, false, false, false, false, false, false, false, false, false, false, false, false, false, false, false] (by kernel_rfl) rfl rfl ⟨(blk_cell Hbd.out 0).trans rfl, (blk_cell Hbd.out 1).trans rfl⟩ ?_
  intro hHeld
  refine pure_ (i := 0) (N := some 31) (v := ?_) (a' := ?_) #[true, false, false, false, false, false, false, false, false, false, false, false, false, false, false, false, false, false, false, false, false, false, false, false, false, false, false, false, false, false, false, false] rfl rfl (by kernel_rfl) (fun _ _ _ h => h) (Or.inl ⟨by rfl, ?_⟩) ?_ ?_
  rotate_left
  · intro w'
    go_simp
    try (with_reducible rfl)
  rotate_left
  · simp only [Act.put, List.setIfInBounds_toArray, List.set_cons_zero, List.set_cons_succ]
    rfl
  refine pure_ (i := 1) (N := some 32) (v := ?_) (a' := ?_) #[true, true, false, false, false, false, false, false, false, false, false, false, false, false, false, false, false, false, false, false, false, false, false, false, false, false, false, false, false, false, false, false] rfl rfl (by kernel_rfl) (fun _ _ _ h => h) (Or.inl ⟨by rfl, ?_⟩) ?_ ?_
  rotate_left
  · intro w'
    go_simp
    try (with_reducible rfl)
  rotate_left
  · simp only [Act.put, List.setIfInBounds_toArray, List.set_cons_zero, List.set_cons_succ]
    rfl
  refine pure_ (i := 2) (N := some 33) (v := ?_) (a' := ?_) #[true, true, true, false, false, false, false, false, false, false, false, false, false, false, false, false, false, false, false, false, false, false, false, false, false, false, false, false, false, false, false, false] rfl rfl (by kernel_rfl) (fun _ _ _ h => h) (Or.inl ⟨by rfl, ?_⟩) ?_ ?_
  rotate_left
  · intro w'
    go_simp
    try (with_reducible rfl)
  rotate_left
  · simp only [Act.put, List.setIfInBounds_toArray, List.set_cons_zero, List.set_cons_succ]
    rfl
  refine pure_ (i := 3) (N := some 34) (v := ?_) (a' := ?_) #[true, true, true, true, false, false, false, false, false, false, false, false, false, false, false, false, false, false, false, false, false, false, false, false, false, false, false, false, false, false, false, false] rfl rfl (by kernel_rfl) (fun _ _ _ h => h) (Or.inl ⟨by rfl, ?_⟩) ?_ ?_
  rotate_left
  · intro w'
    go_simp
    try (with_reducible rfl)
  rotate_left
  · simp only [Act.put, List.setIfInBounds_toArray, List.set_cons_zero, List.set_cons_succ]
    rfl
  refine pure_ (i := 4) (N := some 35) (v := ?_) (a' := ?_) #[true, true, true, true, true, false, false, false, false, false, false, false, false, false, false, false, false, false, false, false, false, false, false, false, false, false, false, false, false, false, false, false] rfl rfl (by kernel_rfl) (fun _ _ _ h => h) (Or.inl ⟨by rfl, ?_⟩) ?_ ?_
  rotate_left
  · intro w'
    go_simp
    try (with_reducible rfl)
  rotate_left
  · simp only [Act.put, List.setIfInBounds_toArray, List.set_cons_zero, List.set_cons_succ]
    rfl
  refine pure_ (i := 5) (N := some 36) (v := ?_) (a' := ?_) #[true, true, true, true, true, true, false, false, false, false, false, false, false, false, false, false, false, false, false, false, false, false, false, false, false, false, false, false, false, false, false, false] rfl rfl (by kernel_rfl) (fun _ _ _ h => h) (Or.inl ⟨by rfl, ?_⟩) ?_ ?_
  rotate_left
  · intro w'
    go_simp
    try (with_reducible rfl)
  rotate_left
  · simp only [Act.put, List.setIfInBounds_toArray, List.set_cons_zero, List.set_cons_succ]
    rfl
  refine pure_ (i := 6) (N := some 37) (v := ?_) (a' := ?_) #[true, true, true, true, true, true, true, false, false, false, false, false, false, false, false, false, false, false, false, false, false, false, false, false, false, false, false, false, false, false, false, false] rfl rfl (by kernel_rfl) (fun _ _ _ h => h) (Or.inl ⟨by rfl, ?_⟩) ?_ ?_
  rotate_left
  · intro w'
    go_simp
    try (with_reducible rfl)
  rotate_left
  · simp only [Act.put, List.setIfInBounds_toArray, List.set_cons_zero, List.set_cons_succ]
    rfl
  refine pure_ (i := 7) (N := some 38) (v := ?_) (a' := ?_) #[true, true, true, true, true, true, true, true, false, false, false, false, false, false, false, false, false, false, false, false, false, false, false, false, false, false, false, false, false, false, false, false] rfl rfl (by kernel_rfl) (fun _ _ _ h => h) (Or.inl ⟨by rfl, ?_⟩) ?_ ?_
  rotate_left
  · intro w'
    go_simp
    try (with_reducible rfl)
  rotate_left
  · simp only [Act.put, List.setIfInBounds_toArray, List.set_cons_zero, List.set_cons_succ]
    rfl
  refine pure_ (i := 8) (N := some 39) (v := ?_) (a' := ?_) #[true, true, true, true, true, true, true, true, true, false, false, false, false, false, false, false, false, false, false, false, false, false, false, false, false, false, false, false, false, false, false, false] rfl rfl (by kernel_rfl) (fun _ _ _ h => h) (Or.inl ⟨by rfl, ?_⟩) ?_ ?_
  rotate_left
  · intro w'
    go_simp
    try (with_reducible rfl)
  rotate_left
  · simp only [Act.put, List.setIfInBounds_toArray, List.set_cons_zero, List.set_cons_succ]
    rfl
  refine pure_ (i := 9) (N := some 40) (v := ?_) (a' := ?_) #[true, true, true, true, true, true, true, true, true, true, false, false, false, false, false, false, false, false, false, false, false, false, false, false, false, false, false, false, false, false, false, false] rfl rfl (by kernel_rfl) (fun _ _ _ h => h) (Or.inl ⟨by rfl, ?_⟩) ?_ ?_
  rotate_left
  · intro w'
    go_simp
    try (with_reducible rfl)
  rotate_left
  · simp only [Act.put, List.setIfInBounds_toArray, List.set_cons_zero, List.set_cons_succ]
    rfl
  refine pure_ (i := 10) (N := some 41) (v := ?_) (a' := ?_) #[true, true, true, true, true, true, true, true, true, true, true, false, false, false, false, false, false, false, false, false, false, false, false, false, false, false, false, false, false, false, false, false] rfl rfl (by kernel_rfl) (fun _ _ _ h => h) (Or.inl ⟨by rfl, ?_⟩) ?_ ?_
  rotate_left
  · intro w'
    go_simp
    try (with_reducible rfl)
  rotate_left
  · simp only [Act.put, List.setIfInBounds_toArray, List.set_cons_zero, List.set_cons_succ]
    rfl
  refine pure_ (i := 11) (N := some 42) (v := ?_) (a' := ?_) #[true, true, true, true, true, true, true, true, true, true, true, true, false, false, false, false, false, false, false, false, false, false, false, false, false, false, false, false, false, false, false, false] rfl rfl (by kernel_rfl) (fun _ _ _ h => h) (Or.inl ⟨by rfl, ?_⟩) ?_ ?_
  rotate_left
  · intro w'
    go_simp
    try (with_reducible rfl)
  rotate_left
  · simp only [Act.put, List.setIfInBounds_toArray, List.set_cons_zero, List.set_cons_succ]
    rfl
  refine pure_ (i := 12) (N := some 43) (v := ?_) (a' := ?_) #[true, true, true, true, true, true, true, true, true, true, true, true, true, false, false, false, false, false, false, false, false, false, false, false, false, false, false, false, false, false, false, false] rfl rfl (by kernel_rfl) (fun _ _ _ h => h) (Or.inl ⟨by rfl, ?_⟩) ?_ ?_
  rotate_left
  · intro w'
    go_simp
    try (with_reducible rfl)
  rotate_left
  · simp only [Act.put, List.setIfInBounds_toArray, List.set_cons_zero, List.set_cons_succ]
    rfl
  refine pure_ (i := 13) (N := some 44) (v := ?_) (a' := ?_) #[true, true, true, true, true, true, true, true, true, true, true, true, true, true, false, false, false, false, false, false, false, false, false, false, false, false, false, false, false, false, false, false] rfl rfl (by kernel_rfl) (fun _ _ _ h => h) (Or.inl ⟨by rfl, ?_⟩) ?_ ?_
  rotate_left
  · intro w'
    go_simp
    try (with_reducible rfl)
  rotate_left
  · simp only [Act.put, List.setIfInBounds_toArray, List.set_cons_zero, List.set_cons_succ]
    rfl
  refine pure_ (i := 14) (N := some 45) (v := ?_) (a' := ?_) #[true, true, true, true, true, true, true, true, true, true, true, true, true, true, true, false, false, false, false, false, false, false, false, false, false, false, false, false, false, false, false, false] rfl rfl (by kernel_rfl) (fun _ _ _ h => h) (Or.inl ⟨by rfl, ?_⟩) ?_ ?_
  rotate_left
  · intro w'
    go_simp
    try (with_reducible rfl)
  rotate_left
  · simp only [Act.put, List.setIfInBounds_toArray, List.set_cons_zero, List.set_cons_succ]
    rfl
  refine pure_ (i := 15) (N := some 46) (v := ?_) (a' := ?_) #[true, true, true, true, true, true, true, true, true, true, true, true, true, true, true, true, false, false, false, false, false, false, false, false, false, false, false, false, false, false, false, false] rfl rfl (by kernel_rfl) (fun _ _ _ h => h) (Or.inl ⟨by rfl, ?_⟩) ?_ ?_
  rotate_left
  · intro w'
    go_simp
    try (with_reducible rfl)
  rotate_left
  · simp only [Act.put, List.setIfInBounds_toArray, List.set_cons_zero, List.set_cons_succ]
    rfl
  refine take_ (i := 16) (N := some 47) (v := ?_) (a' := ?_) #[true, true, true, true, true, true, true, true, true, true, true, true, true, true, true, true, true, false, false, false, false, false, false, false, false, false, false, false, false, false, false, false] rfl rfl (by kernel_rfl) (fun _ _ _ h => h) (Or.inl ⟨by rfl, ?_⟩) hHeld ?_ ?_
  rotate_left
  · rintro w' ⟨s0, s1⟩
    go_simp
    with_reducible rfl
  rotate_left
  · simp only [Act.put, List.setIfInBounds_toArray, List.set_cons_zero, List.set_cons_succ]
    rfl
  refine one_ (i := 17) (N := some 48) #[true, true, true, true, true, true, true, true, true, true, true, true, true, true, true, true, true, true, false, false, false, false, false, false, false, false, false, false, false, false, false, false] rfl rfl (by kernel_rfl) (by decide) (fun K hK => ?_)
  refine Kd.R_make_step (Kd.int .u8) (w0 := w8) w8.heap.size 5 (by rfl) (N := 48) rfl 22 (.const (.int .i64 6)) (.const (.int .i64 6)) rfl 6 rfl rfl hu22 (.int .u8 0) 1 info5 rfl (by decide) (by decide) (0 : Int) (ok := fun _ => True) (okp := fun _ => False) rfl (fun _ h => trivial) trivial (by decide) (by decide) (below_drew (Below.refl _ _)) (Nat.le_refl _) ?_
  intro v9 w9 hr9 hb9 _ _
  obtain ⟨A9, c9, rfl, kc9, hc9⟩ := R_num hr9
  have Hb9 := Lib.hid (blk_below Hb8.out hb9)
  have C9 := Lib.hid (show Kd.C (Kd.int .u8) w9 A9 6 [0, 0, 0, 0, 0, 0] from hc9)
  have k9 : 6 ≤ c9 := kc9
  have C49 := Lib.hid (Kd.C_below C8.out hb9)
  have C69 := Lib.hid (Kd.C_below C6.out hb9)
  have D9 := Lib.hid (Kd.C_below D8.out hb9)
  have HB9 := Lib.hid (below_then HB8.out HB8.out.size hb9)
  clear hr9 hb9 hc9 kc9
  refine hK.out _ _ ⟨(blk_cell Hb9.out 0).trans rfl, (blk_cell Hb9.out 1).trans rfl⟩ (fun hHeld => ?_)
  clear hK K
  refine norm_ (a' := ?_) ?_ ?_
  rotate_left
  · show Act.put _ (some 48) _ = _
    simp only [Act.put, List.setIfInBounds_toArray, List.set_cons_zero, List.set_cons_succ]
    rfl
  refine one_ (i := 18) (N := some 49) #[true, true, true, true, true, true, true, true, true, true, true, true, true, true, true, true, true, true, true, false, false, false, false, false, false, false, false, false, false, false, false, false] rfl rfl (by kernel_rfl) (by decide) (fun K hK => ?_)
  refine goes_ Try.func25 (by kernel_rfl) rfl #[.slice A4 6 c4, .slice A9 6 c9] (by rfl) rfl rfl (by (try simp only [List.map_toArray, List.map_cons, List.map_nil]); first | done | rfl) ?_
  refine (bytes_n 10 [0, 0, 0, 0, 0, 0] [0, 0, 0, 0, 0, 0] true _ rfl rfl C49.out kc4 C9.out k9 (by kernel_rfl)).mono ?_
  rintro e w10 ⟨rfl, hb10⟩
  have Hb10 := Lib.hid (blk_below Hb9.out hb10)
  have C410 := Lib.hid (Kd.C_below C49.out hb10)
  have C610 := Lib.hid (Kd.C_below C69.out hb10)
  have D10 := Lib.hid (Kd.C_below D9.out hb10)
  have HB10 := Lib.hid (below_then HB9.out HB9.out.size hb10)
  clear hb10
  refine ⟨_, rfl, ?_⟩
  refine hK.out _ _ ⟨(blk_cell Hb10.out 0).trans rfl, (blk_cell Hb10.out 1).trans rfl⟩ (fun hHeld => ?_)
  clear hK K
  refine norm_ (a' := ?_) ?_ ?_
  rotate_left
  · show Act.put _ (some 49) _ = _
    simp only [Act.put, List.setIfInBounds_toArray, List.set_cons_zero, List.set_cons_succ]
    rfl
  refine pure_ (i := 19) (N := some 50) (v := ?_) (a' := ?_) #[true, true, true, true, true, true, true, true, true, true, true, true, true, true, true, true, true, true, true, true, false, false, false, false, false, false, false, false, false, false, false, false] rfl rfl (by kernel_rfl) (fun _ _ _ h => h) (Or.inl ⟨by rfl, ?_⟩) ?_ ?_
  rotate_left
  · intro w'
    go_simp
    try (with_reducible rfl)
  rotate_left
  · simp only [Act.put, List.setIfInBounds_toArray, List.set_cons_zero, List.set_cons_succ]
    rfl
  refine pure_ (i := 20) (N := some 51) (v := ?_) (a' := ?_) #[true, true, true, true, true, true, true, true, true, true, true, true, true, true, true, true, true, true, true, true, true, false, false, false, false, false, false, false, false, false, false, false] rfl rfl (by kernel_rfl) (fun _ _ _ h => h) (Or.inl ⟨by rfl, ?_⟩) ?_ ?_
  rotate_left
  · intro w'
    go_simp
    try (with_reducible rfl)
  rotate_left
  · simp only [Act.put, List.setIfInBounds_toArray, List.set_cons_zero, List.set_cons_succ]
    rfl
  refine pure_ (i := 21) (N := some 52) (v := ?_) (a' := ?_) #[true, true, true, true, true, true, true, true, true, true, true, true, true, true, true, true, true, true, true, true, true, true, false, false, false, false, false, false, false, false, false, false] rfl rfl (by kernel_rfl) (fun _ _ _ h => h) (Or.inl ⟨by rfl, ?_⟩) ?_ ?_
  rotate_left
  · intro w'
    go_simp
    try (with_reducible rfl)
  rotate_left
  · simp only [Act.put, List.setIfInBounds_toArray, List.set_cons_zero, List.set_cons_succ]
    rfl
  refine take_ (i := 22) (N := some 53) (v := ?_) (a' := ?_) #[true, true, true, true, true, true, true, true, true, true, true, true, true, true, true, true, true, true, true, true, true, true, true, false, false, false, false, false, false, false, false, false] rfl rfl (by kernel_rfl) (fun _ _ _ h => h) (Or.inl ⟨by rfl, ?_⟩) hHeld ?_ ?_
  rotate_left
  · rintro w' ⟨s0, s1⟩
    go_simp
    with_reducible rfl
  rotate_left
  · simp only [Act.put, List.setIfInBounds_toArray, List.set_cons_zero, List.set_cons_succ]
    rfl
  refine pure_ (i := 23) (N := some 54) (v := ?_) (a' := ?_) #[true, true, true, true, true, true, true, true, true, true, true, true, true, true, true, true, true, true, true, true, true, true, true, true, false, false, false, false, false, false, false, false] rfl rfl (by kernel_rfl) (fun _ _ _ h => h) (Or.inl ⟨by rfl, ?_⟩) ?_ ?_
  rotate_left
  · intro w'
    go_simp
    try (with_reducible rfl)
  rotate_left
  · simp only [Act.put, List.setIfInBounds_toArray, List.set_cons_zero, List.set_cons_succ]
    rfl
  refine pure_ (i := 24) (N := some 55) (v := ?_) (a' := ?_) #[true, true, true, true, true, true, true, true, true, true, true, true, true, true, true, true, true, true, true, true, true, true, true, true, true, false, false, false, false, false, false, false] rfl rfl (by kernel_rfl) (fun _ _ _ h => h) (Or.inl ⟨by rfl, ?_⟩) ?_ ?_
  rotate_left
  · intro w'
    go_simp
    try (with_reducible rfl)
  rotate_left
  · simp only [Act.put, List.setIfInBounds_toArray, List.set_cons_zero, List.set_cons_succ]
    rfl
  refine pure_ (i := 25) (N := some 56) (v := ?_) (a' := ?_) #[true, true, true, true, true, true, true, true, true, true, true, true, true, true, true, true, true, true, true, true, true, true, true, true, true, true, false, false, false, false, false, false] rfl rfl (by kernel_rfl) (fun _ _ _ h => h) (Or.inl ⟨by rfl, ?_⟩) ?_ ?_
  rotate_left
  · intro w'
    go_simp
    try (with_reducible rfl)
  rotate_left
  · simp only [Act.put, List.setIfInBounds_toArray, List.set_cons_zero, List.set_cons_succ]
    rfl
  refine pure_ (i := 26) (N := some 57) (v := ?_) (a' := ?_) #[true, true, true, true, true, true, true, true, true, true, true, true, true, true, true, true, true, true, true, true, true, true, true, true, true, true, true, false, false, false, false, false] rfl rfl (by kernel_rfl) (fun _ _ _ h => h) (Or.inl ⟨by rfl, ?_⟩) ?_ ?_
  rotate_left
  · intro w'
    go_simp
    try (with_reducible rfl)
  rotate_left
  · simp only [Act.put, List.setIfInBounds_toArray, List.set_cons_zero, List.set_cons_succ]
    rfl
  refine pure_ (i := 27) (N := some 58) (v := ?_) (a' := ?_) #[true, true, true, true, true, true, true, true, true, true, true, true, true, true, true, true, true, true, true, true, true, true, true, true, true, true, true, true, false, false, false, false] rfl rfl (by kernel_rfl) (fun _ _ _ h => h) (Or.inl ⟨by rfl, ?_⟩) ?_ ?_
  rotate_left
  · intro w'
    go_simp
    try (with_reducible rfl)
  rotate_left
  · simp only [Act.put, List.setIfInBounds_toArray, List.set_cons_zero, List.set_cons_succ]
    rfl
  refine one_ (i := 28) (N := some 59) #[true, true, true, true, true, true, true, true, true, true, true, true, true, true, true, true, true, true, true, true, true, true, true, true, true, true, true, true, true, false, false, false] rfl rfl (by kernel_rfl) (by decide) (fun K hK => ?_)
  refine value_ (w1 := ?_) (v := ?_) (by rfl) rfl ?_ ?_
  rotate_left 2
  · go_simp
    constructor
    · rfl
    · rfl
  have Hb11 := Lib.hid (blk_alloc Hb10.out (.cells #[.int .u8 0, .int .u8 1, .int .u8 9, .int .u8 3, .int .u8 0, .int .u8 0] 5))
  refine hK.out _ _ ⟨(blk_cell Hb11.out 0).trans rfl, (blk_cell Hb11.out 1).trans rfl⟩ (fun hHeld => ?_)
  clear hK K
  refine norm_ (a' := ?_) ?_ ?_
  rotate_left
  · show Act.put _ (some 59) _ = _
    simp only [Act.put, List.setIfInBounds_toArray, List.set_cons_zero, List.set_cons_succ]
    rfl
  refine one_ (i := 29) (N := some 60) #[true, true, true, true, true, true, true, true, true, true, true, true, true, true, true, true, true, true, true, true, true, true, true, true, true, true, true, true, true, true, false, false] rfl rfl (by kernel_rfl) (by decide) (fun K hK => ?_)
  refine goes_ Try.func25 (by kernel_rfl) rfl #[.slice A6 6 c6, .slice (some ⟨w10.heap.size, 0, none⟩) 6 6] (by rfl) rfl rfl (by (try simp only [List.map_toArray, List.map_cons, List.map_nil]); first | done | rfl) ?_
  refine (bytes_n 10 [0, 1, 9, 3, 0, 0] [0, 1, 9, 3, 0, 0] true _ rfl rfl (Kd.C_alloc C610.out _) kc6 (C_blk (xs := [0, 1, 9, 3, 0, 0]) (blk_new _ _) (by decide)) (by decide) (by kernel_rfl)).mono ?_
  rintro e w12 ⟨rfl, hb12⟩
  have Hb12 := Lib.hid (blk_below Hb11.out hb12)
  have C412 := Lib.hid (Kd.C_below (Kd.C_alloc C410.out _) hb12)
  have C612 := Lib.hid (Kd.C_below (Kd.C_alloc C610.out _) hb12)
  have D12 := Lib.hid (Kd.C_below (Kd.C_alloc D10.out _) hb12)
  have HB12 := Lib.hid (below_then HB10.out HB10.out.size (below_then (below_alloc (Below.refl _ _) _) (by simp) hb12))
  clear hb12
  refine ⟨_, rfl, ?_⟩
  refine hK.out _ _ ⟨(blk_cell Hb12.out 0).trans rfl, (blk_cell Hb12.out 1).trans rfl⟩ (fun hHeld => ?_)
  clear hK K
  refine norm_ (a' := ?_) ?_ ?_
  rotate_left
  · show Act.put _ (some 60) _ = _
    simp only [Act.put, List.setIfInBounds_toArray, List.set_cons_zero, List.set_cons_succ]
    rfl
  refine pure_ (i := 30) (N := some 61) (v := ?_) (a' := ?_) #[true, true, true, true, true, true, true, true, true, true, true, true, true, true, true, true, true, true, true, true, true, true, true, true, true, true, true, true, true, true, true, false] rfl rfl (by kernel_rfl) (fun _ _ _ h => h) (Or.inl ⟨by rfl, ?_⟩) ?_ ?_
  rotate_left
  · intro w'
    go_simp
    try (with_reducible rfl)
  rotate_left
  · simp only [Act.put, List.setIfInBounds_toArray, List.set_cons_zero, List.set_cons_succ]
    rfl
  refine pure_ (i := 31) (N := some 7) (v := ?_) (a' := ?_) #[true, true, true, true, true, true, true, true, true, true, true, true, true, true, true, true, true, true, true, true, true, true, true, true, true, true, true, true, true, true, true, true] rfl rfl (by kernel_rfl) (fun _ _ _ h => h) (Or.inl ⟨by rfl, ?_⟩) ?_ ?_
  rotate_left
  · intro w'
    go_simp
    try (with_reducible rfl)
  rotate_left
  · simp only [Act.put, List.setIfInBounds_toArray, List.set_cons_zero, List.set_cons_succ]
    rfl
  refine done_ (by kernel_rfl) ?_
  have k0 := (blk_cell Hb12.out 0).trans rfl
  have k1 := (blk_cell Hb12.out 1).trans rfl
  go_wp2_with (fail)
  clear k0 k1
  refine (crash_n [0, 0, 0, 0, 0, 0] [⟨1, [1, 2, 3]⟩, ⟨2, [9]⟩] [2, 0] [0, 1, 2, 0, 0, 0] [] _ rfl rfl rfl (Kd.C_alloc C412.out _) kc4 (Kd.C_alloc D12.out _) kc5 (C_blk (k := .i64) (xs := [2, 0]) (blk_new _ _) (by decide)) (by decide) (by kernel_rfl)).mono ?_
  rintro e w13 ⟨v13, u13, rfl, hr13, hs13, hb13⟩
  obtain ⟨E13, e13, rfl, ke13, hE13⟩ := R_num hr13
  obtain ⟨F13, f13, rfl⟩ := Kd.S_slice hs13
  have CE13 := Lib.hid (show Kd.C (Kd.int .u8) w13 E13 6 [0, 1, 2, 0, 0, 0] from hE13)
  have kE13 : 6 ≤ e13 := ke13
  have Hb13 := Lib.hid (blk_below (blk_alloc Hb12.out _) hb13)
  have C413 := Lib.hid (Kd.C_below (Kd.C_alloc C412.out _) hb13)
  have C613 := Lib.hid (Kd.C_below (Kd.C_alloc C612.out _) hb13)
  have D13 := Lib.hid (Kd.C_below (Kd.C_alloc D12.out _) hb13)
  have HB13 := Lib.hid (below_then HB12.out HB12.out.size (below_then (below_alloc (Below.refl _ _) _) (by simp) hb13))
  have k0 := (blk_cell Hb13.out 0).trans rfl
  have k1 := (blk_cell Hb13.out 1).trans rfl
  clear hr13 hs13 hb13 hE13 ke13
  go_wp2_with (fail)
  clear k0 k1
  refine (bytes_n 10 [0, 1, 2, 0, 0, 0] [0, 1, 2, 0, 0, 0] true _ rfl rfl (Kd.C_alloc CE13.out _) kE13 (C_blk (xs := [0, 1, 2, 0, 0, 0]) (blk_new _ _) (by decide)) (by decide) (by kernel_rfl)).mono ?_
  rintro e w14 ⟨rfl, hb14⟩
  have Hb14 := Lib.hid (blk_below (blk_alloc Hb13.out _) hb14)
  have C414 := Lib.hid (Kd.C_below (Kd.C_alloc C413.out _) hb14)
  have C614 := Lib.hid (Kd.C_below (Kd.C_alloc C613.out _) hb14)
  have D14 := Lib.hid (Kd.C_below (Kd.C_alloc D13.out _) hb14)
  have HB14 := Lib.hid (below_then HB13.out HB13.out.size (below_then (below_alloc (Below.refl _ _) _) (by simp) hb14))
  have k0 := (blk_cell Hb14.out 0).trans rfl
  have k1 := (blk_cell Hb14.out 1).trans rfl
  clear hb14
  go_wp2_with (fail)
  clear k0 k1
  refine (crash_n [0, 0, 0, 0, 0, 0] [⟨1, [1, 2, 3]⟩, ⟨2, [9]⟩] [3, 1] [0, 1, 9, 3, 0, 0] [] _ rfl rfl rfl (Kd.C_alloc C414.out _) kc4 (Kd.C_alloc D14.out _) kc5 (C_blk (k := .i64) (xs := [3, 1]) (blk_new _ _) (by decide)) (by decide) (by kernel_rfl)).mono ?_
  rintro e w15 ⟨v15, u15, rfl, hr15, hs15, hb15⟩
  obtain ⟨E15, e15, rfl, ke15, hE15⟩ := R_num hr15
  obtain ⟨F15, f15, rfl⟩ := Kd.S_slice hs15
  have CE15 := Lib.hid (show Kd.C (Kd.int .u8) w15 E15 6 [0, 1, 9, 3, 0, 0] from hE15)
  have kE15 : 6 ≤ e15 := ke15
  have Hb15 := Lib.hid (blk_below (blk_alloc Hb14.out _) hb15)
  have C415 := Lib.hid (Kd.C_below (Kd.C_alloc C414.out _) hb15)
  have C615 := Lib.hid (Kd.C_below (Kd.C_alloc C614.out _) hb15)
  have D15 := Lib.hid (Kd.C_below (Kd.C_alloc D14.out _) hb15)
  have HB15 := Lib.hid (below_then HB14.out HB14.out.size (below_then (below_alloc (Below.refl _ _) _) (by simp) hb15))
  have k0 := (blk_cell Hb15.out 0).trans rfl
  have k1 := (blk_cell Hb15.out 1).trans rfl
  clear hr15 hs15 hb15 hE15 ke15
  go_wp2_with (fail)
  clear k0 k1
  refine (bytes_n 10 [0, 1, 9, 3, 0, 0] [0, 1, 9, 3, 0, 0] true _ rfl rfl (Kd.C_alloc CE15.out _) kE15 (C_blk (xs := [0, 1, 9, 3, 0, 0]) (blk_new _ _) (by decide)) (by decide) (by kernel_rfl)).mono ?_
  rintro e w16 ⟨rfl, hb16⟩
  have Hb16 := Lib.hid (blk_below (blk_alloc Hb15.out _) hb16)
  have C416 := Lib.hid (Kd.C_below (Kd.C_alloc C415.out _) hb16)
  have C616 := Lib.hid (Kd.C_below (Kd.C_alloc C615.out _) hb16)
  have D16 := Lib.hid (Kd.C_below (Kd.C_alloc D15.out _) hb16)
  have HB16 := Lib.hid (below_then HB15.out HB15.out.size (below_then (below_alloc (Below.refl _ _) _) (by simp) hb16))
  have k0 := (blk_cell Hb16.out 0).trans rfl
  have k1 := (blk_cell Hb16.out 1).trans rfl
  clear hb16
  go_wp2_with (fail)
  clear k0 k1
  refine (crash_n [0, 0, 0, 0, 0, 0] [⟨1, [1, 2, 3]⟩, ⟨2, [9]⟩] [-1, 5] [0, 0, 9, 0, 0, 0] [] _ rfl rfl rfl (Kd.C_alloc C416.out _) kc4 (Kd.C_alloc D16.out _) kc5 (C_blk (k := .i64) (xs := [-1, 5]) (blk_new _ _) (by decide)) (by decide) (by kernel_rfl)).mono ?_
  rintro e w17 ⟨v17, u17, rfl, hr17, hs17, hb17⟩
  obtain ⟨E17, e17, rfl, ke17, hE17⟩ := R_num hr17
  obtain ⟨F17, f17, rfl⟩ := Kd.S_slice hs17
  have CE17 := Lib.hid (show Kd.C (Kd.int .u8) w17 E17 6 [0, 0, 9, 0, 0, 0] from hE17)
  have kE17 : 6 ≤ e17 := ke17
  have Hb17 := Lib.hid (blk_below (blk_alloc Hb16.out _) hb17)
  have C417 := Lib.hid (Kd.C_below (Kd.C_alloc C416.out _) hb17)
  have C617 := Lib.hid (Kd.C_below (Kd.C_alloc C616.out _) hb17)
  have D17 := Lib.hid (Kd.C_below (Kd.C_alloc D16.out _) hb17)
  have HB17 := Lib.hid (below_then HB16.out HB16.out.size (below_then (below_alloc (Below.refl _ _) _) (by simp) hb17))
  have k0 := (blk_cell Hb17.out 0).trans rfl
  have k1 := (blk_cell Hb17.out 1).trans rfl
  clear hr17 hs17 hb17 hE17 ke17
  go_wp2_with (fail)
  clear k0 k1
  refine (bytes_n 10 [0, 0, 9, 0, 0, 0] [0, 0, 9, 0, 0, 0] true _ rfl rfl (Kd.C_alloc CE17.out _) kE17 (C_blk (xs := [0, 0, 9, 0, 0, 0]) (blk_new _ _) (by decide)) (by decide) (by kernel_rfl)).mono ?_
  rintro e w18 ⟨rfl, hb18⟩
  have Hb18 := Lib.hid (blk_below (blk_alloc Hb17.out _) hb18)
  have C418 := Lib.hid (Kd.C_below (Kd.C_alloc C417.out _) hb18)
  have C618 := Lib.hid (Kd.C_below (Kd.C_alloc C617.out _) hb18)
  have D18 := Lib.hid (Kd.C_below (Kd.C_alloc D17.out _) hb18)
  have HB18 := Lib.hid (below_then HB17.out HB17.out.size (below_then (below_alloc (Below.refl _ _) _) (by simp) hb18))
  have k0 := (blk_cell Hb18.out 0).trans rfl
  have k1 := (blk_cell Hb18.out 1).trans rfl
  clear hb18
  go_wp2_with (fail)
  clear k0 k1
  refine (write_n [0, 0, 0, 0, 0, 0] [⟨1, [1, 2, 3]⟩, ⟨2, [9]⟩] 6 [1] [] [] 1 _ rfl rfl rfl (Kd.C_alloc C418.out _) kc4 (Kd.C_alloc D18.out _) kc5 (C_blk (xs := [1]) (blk_new _ _) (by decide)) (by decide) (by kernel_rfl)).mono ?_
  rintro e w19 ⟨v19, u19, rfl, hr19, hs19, hb19⟩
  obtain ⟨E19, e19, rfl⟩ := Kd.R_slice hr19
  obtain ⟨F19, f19, rfl⟩ := Kd.S_slice hs19
  have Hb19 := Lib.hid (blk_below (blk_alloc Hb18.out _) hb19)
  have C419 := Lib.hid (Kd.C_below (Kd.C_alloc C418.out _) hb19)
  have C619 := Lib.hid (Kd.C_below (Kd.C_alloc C618.out _) hb19)
  have D19 := Lib.hid (Kd.C_below (Kd.C_alloc D18.out _) hb19)
  have HB19 := Lib.hid (below_then HB18.out HB18.out.size (below_then (below_alloc (Below.refl _ _) _) (by simp) hb19))
  have k0 := (blk_cell Hb19.out 0).trans rfl
  have k1 := (blk_cell Hb19.out 1).trans rfl
  clear hr19 hs19 hb19
  go_wp2_with (first | ((with_reducible refine gate_dst (N := 8) rfl ?_); (refine box_event ?hg (N := 8) ?hd (cs := #[.slice none 0 0, .slice none 0 0]) (t := 25) ?hr ?_); (case hd => rfl); (case hg => rfl); (case hr => first | (go_simp; done) | (go_simp; rfl)); intro gx hgx w20 hb20 hB20; have hx0 := blk_frozen hb20 0; have hx1 := blk_frozen hb20 1; have hx2 := (blk_cell hb20 0).trans rfl; have hx3 := (blk_cell hb20 1).trans rfl; have Hgx : Hid (w19.heap.size ≤ gx) := (Lib.hid (by rw [hgx]; exact Nat.le_refl _)); have Hnx : Hid (gd ≠ gx) := (Lib.hid (by have := blk_lt Hb19.out; omega)); have HB20 := Lib.hid hB20; have Hb20 := Lib.hid (blk_below Hb19.out hB20); clear hb20 hB20 hgx k0 k1; have k0 := (blk_cell Hb20.out 0).trans rfl; have k1 := (blk_cell Hb20.out 1).trans rfl) | ((with_reducible refine gate_store (t := 25) (p := 8) rfl ?_); refine store_event (w1 := (w20.setCell ⟨gx, 0, none⟩ (.slice E19 0 e19)).setCell ⟨gx, 1, none⟩ (.slice F19 0 f19)) rfl (v := .tmp 91) rfl rfl ?hrun ?_; (case hrun => first | (go_simp; done) | (go_simp; rfl)); intro w21 hw21; have Hb21 : Hid (w21.heap[gd]? = some (.cells #[.slice A4 6 c4, .slice A5 2 c5] 25 (0, 0))) := (Lib.hid (by rw [hw21]; exact blk_far (blk_far Hb20.out Hnx.out _) Hnx.out _)); have hb21 : Below w19.heap.size w19 w21 := (by rw [hw21]; exact (HB20.out.setCell (p := ⟨gx, 0, none⟩) Hgx.out _).setCell (p := ⟨gx, 1, none⟩) Hgx.out _); have C421 := Lib.hid (Kd.C_below C419.out hb21); have C621 := Lib.hid (Kd.C_below C619.out hb21); have D21 := Lib.hid (Kd.C_below D19.out hb21); have HB21 := Lib.hid (below_then HB19.out HB19.out.size hb21); clear hw21 hb21 hx0 hx1 hx2 hx3 k0 k1; have k0 := (blk_cell Hb21.out 0).trans rfl; have k1 := (blk_cell Hb21.out 1).trans rfl) )
  clear k0 k1
  refine (sync_n [0, 0, 0, 0, 0, 0] [⟨1, [1, 2, 3]⟩, ⟨2, [9]⟩] [0, 1, 9, 3, 0, 0] [] _ rfl rfl C421.out kc4 D21.out kc5 (by kernel_rfl)).mono ?_
  rintro e w22 ⟨v22, u22, rfl, hr22, hs22, hb22⟩
  obtain ⟨E22, e22, rfl, ke22, hE22⟩ := R_num hr22
  obtain ⟨F22, f22, rfl⟩ := Kd.S_slice hs22
  have CE22 := Lib.hid (show Kd.C (Kd.int .u8) w22 E22 6 [0, 1, 9, 3, 0, 0] from hE22)
  have kE22 : 6 ≤ e22 := ke22
  have Hb22 := Lib.hid (blk_below Hb21.out hb22)
  have C422 := Lib.hid (Kd.C_below C421.out hb22)
  have C622 := Lib.hid (Kd.C_below C621.out hb22)
  have D22 := Lib.hid (Kd.C_below D21.out hb22)
  have HB22 := Lib.hid (below_then HB21.out HB21.out.size hb22)
  have k0 := (blk_cell Hb22.out 0).trans rfl
  have k1 := (blk_cell Hb22.out 1).trans rfl
  clear hr22 hs22 hb22 hE22 ke22
  go_wp2_with (fail)
  clear k0 k1
  refine (bytes_n 10 [0, 1, 9, 3, 0, 0] [0, 1, 9, 3, 0, 0] true _ rfl rfl CE22.out kE22 C622.out kc6 (by kernel_rfl)).mono ?_
  rintro e w23 ⟨rfl, hb23⟩
  have Hb23 := Lib.hid (blk_below Hb22.out hb23)
  have C423 := Lib.hid (Kd.C_below C422.out hb23)
  have D23 := Lib.hid (Kd.C_below D22.out hb23)
  have HB23 := Lib.hid (below_then HB22.out HB22.out.size hb23)
  have k0 := (blk_cell Hb23.out 0).trans rfl
  have k1 := (blk_cell Hb23.out 1).trans rfl
  clear hb23
  go_wp2_with (fail)
  clear k0 k1
  refine (sync_n [0, 0, 0, 0, 0, 0] [⟨1, [1, 2, 3]⟩, ⟨2, [9]⟩] [0, 1, 9, 3, 0, 0] [] _ rfl rfl C423.out kc4 D23.out kc5 (by kernel_rfl)).mono ?_
  rintro e w24 ⟨v24, u24, rfl, hr24, hs24, hb24⟩
  obtain ⟨E24, e24, rfl, ke24, hE24⟩ := R_num hr24
  obtain ⟨F24, f24, rfl⟩ := Kd.S_slice hs24
  have HB24 := Lib.hid (below_then HB23.out HB23.out.size hb24)
  clear hr24 hs24 hb24 hE24 ke24
  go_wp2
  go_ret
  exact ⟨rfl, HB24.out⟩
end Go.Proofs.Ytfpdmlhknddffaa.Dk
