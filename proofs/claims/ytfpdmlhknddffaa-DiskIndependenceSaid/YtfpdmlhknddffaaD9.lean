/- Walks and laws of package disk: part of the proofs of the Disk statements. -/
import Derived.Test.YtfpdmlhknddffaaD8
import Derived.ArgAppend
namespace Go.Proofs.Ytfpdmlhknddffaa.Dk
open Go.RowKit Go.Proofs.YtfpdmlhknddffaaW.PrintWords Go.Proofs.YtfpdmlhknddffaaW.PrintLast Go.Proofs.YtfpdmlhknddffaaW.PrintMore
set_option linter.unusedVariables false
set_option linter.unusedSimpArgs false

/-- the cells of a slice that is read -/
theorem C_inner {α : Type} {d : Kd α} {w : World} {A : Option Addr} {xs : List α} (h : d.C w A xs.length xs) : ∃ inner, Reps (d.K w) d.sz xs inner ∧ inner.length = xs.length * d.sz ∧ (∀ b, A = some b → ∀ j u, inner[j]? = some u → w.cell? (b.add j) = some u) ∧ (A = none → xs = []) := by
  cases A with
  | none =>
    have hz : xs = [] := by
      rcases Nat.eq_zero_or_pos xs.length with h0 | h0
      · exact List.length_eq_zero_iff.1 h0
      · obtain ⟨ad, he, _⟩ := h.2.2 h0
        cases he
    subst hz
    exact ⟨[], Reps.none _ _, by simp, (fun _ hb => by cases hb), fun _ => rfl⟩
  | some ad =>
    obtain ⟨inner, hr, hc⟩ := ReadsRow.inner_ h
    exact ⟨inner, hr, hr.1, (fun b hb => by cases hb; exact hc), (fun hb => by cases hb)⟩

theorem at45 {w w1 : World} {g cap : Nat} {xs : List S45} {inner : List Value} (hown : w.ownsRow 0 45 2 (.slice (some ⟨g, 0, none⟩) xs.length cap) xs.length inner) (hr : Reps (k45.K w1) 2 xs inner) (i : Nat) (hi : i < xs.length) :
    ∃ A1 c1, w.cell? ⟨g, i * 2, none⟩ = some (.int .i64 (xs[i]).f0) ∧ w.cell? ⟨g, i * 2 + 1, none⟩ = some (.slice A1 (xs[i]).f1.length c1) ∧ (xs[i]).f1.length ≤ c1 ∧ (Kd.int .u8).C w1 A1 (xs[i]).f1.length (xs[i]).f1 := by
  have hK := hr.2 i _ (List.getElem?_eq_getElem hi)
  obtain ⟨A1, c1, e, l1, g1⟩ := k45_open hK
  obtain ⟨hl, h2⟩ := hown
  rcases h2 with ⟨h3, _⟩ | ⟨g', cap', cur, h3, h4, h5, h6, h7, h8, h9⟩
  · cases h3
  · injection h3 with e1 _ e3
    injection e1 with e1
    injection e1 with e1
    subst e1
    have hget : ∀ j, j < 2 → w.cell? ⟨g, i * 2 + j, none⟩ = ((inner.drop (i * 2)).take 2)[j]? := by
      intro j hj
      rw [blk_cell h5, List.getElem?_take_of_lt hj, List.getElem?_drop, ← h9, List.getElem?_take_of_lt (by omega)]
      simp
    refine ⟨A1, c1, ?_, ?_, l1, g1⟩
    · have := hget 0 (by omega)
      rw [e] at this
      exact this
    · have := hget 1 (by omega)
      rw [e] at this
      exact this

theorem S_any {α : Type} {d : Kd α} {e base : Nat} {w : World} {ok : Nat → Prop} {v : Value} {xs : List α} (h : Kd.S d e w base ok v xs) : ∃ A n c, v = .slice A n c := by
  obtain ⟨A, c, e⟩ := Kd.S_slice h
  exact ⟨A, _, c, e⟩

theorem news_cells (w : World) (cs : List Value) (t : TypeId) : ∀ j u, cs[j]? = some u → (w.alloc (.cells cs.toArray t)).cell? ((⟨w.heap.size, 0, none⟩ : Addr).add j) = some u := by
  intro j u hu
  rw [add_at, Nat.zero_add]
  refine (blk_cell (blk_new w _) j).trans ?_
  simpa using hu

theorem own_succ {W : World} {base : Nat} {e : TypeId} {size : Nat} {v : Value} {k : Nat} {xs : List Value} (h : W.ownsRow base e size v (k + 1) xs) : ∃ g cap, v = .slice (some ⟨g, 0, none⟩) (k + 1) cap := by
  rcases h.2 with ⟨_, h3⟩ | ⟨g', cap', cur, h3, _⟩
  · omega
  · exact ⟨g', cap', h3⟩

set_option maxHeartbeats 1600000 in
theorem disk_Write_ok (A0 : Option Addr) (c0 : Nat) (l0 : List Int) (A1 : Option Addr) (c1 : Nat) (l1 : List S45) (a : Int) (A2 : Option Addr) (c2 : Nat) (l2 : List Int) (w : World)
   (h0 : Kd.C (Kd.int .u8) w A0 l0.length l0) (hc0 : l0.length ≤ c0) (h1 : Kd.C k45 w A1 l1.length l1) (hc1 : l1.length ≤ c1) (h2 : Kd.C (Kd.int .u8) w A2 l2.length l2) (hc2 : l2.length ≤ c2)
   (Hv : Hid (validB l0 l1 = true)) (Hp : Hid (isPartB l0.length a l2.length = true)) (h64 : l1.length ≠ 64) :
    Calls Try.prog 21 #[.agg #[.slice A0 l0.length c0, .slice A1 l1.length c1], .int .i64 a, .slice A2 l2.length c2] w fun e w' => ∃ v0 v1 : Value, e = .returned (.tuple #[.agg #[v0, v1], .int .i64 0]) ∧ Kd.R (Kd.int .u8) 5 w' w.heap.size (fun _ => True) v0 l0 ∧ Kd.S k45 45 w' w.heap.size (fun k_ => some k_ ≠ v0.ownBlock) v1 (l1 ++ [⟨a, l2⟩]) ∧ Below w.heap.size w w' := by
  have hu25 := Try.underlying25
  have hu22 := Try.underlying22
  have hu23 := Try.underlying23
  have hu45 := Try.underlying45
  obtain ⟨i45, hi45, hz45, hs45, hy45⟩ := info_parts info45
  have hl := (validB_iff l0 l1).1 Hv.out
  have hp := (isPartB_iff _ _ _).1 Hp.out
  have hl0 := hl.1
  have hl1 := hl.2.1
  have hl2 : l2.length ≤ 65536 := by omega
  have e1 : ((l1.length : Int) == 64) = false := by rw [beq_eq_false_iff_ne]; omega
  have hl63 : l1.length ≤ 63 := by omega
  have hcut := cut3 (P := Try.prog) 23 45 hu23 hi45 A1 l1.length c1 (l1.length : Int) (l1.length : Int) (by omega) (by omega) (by omega)
  have Hl := Lib.hid hl
  clear h64 hl hp
  obtain ⟨inner, hin, hinl, hcell, hnone⟩ := C_inner h1
  have Hin := Lib.hid hin
  have Hcell := Lib.hid hcell
  have Hnone := Lib.hid hnone
  have Hinl := Lib.hid hinl
  clear hin hcell hnone hinl
  go_enter Try.func21, Try.ntmps21
  go_wp2_with (first | ((with_reducible refine gate_dst (N := 3) rfl ?_); (refine box_event ?hg (N := 3) ?hd (cs := #[.slice A0 l0.length c0, .slice A1 l1.length c1]) (t := 25) ?hr ?_); (case hd => rfl); (case hg => rfl); (case hr => first | (go_simp; done) | (go_simp; rfl)); intro g hg w1 hb1 hB1; have HB1 := Lib.hid hB1; have Hb1 := Lib.hid hb1; clear hB1 hb1 hg) | ((with_reducible refine gate_dst (N := 6) rfl ?_); (refine box_event ?hg (N := 6) ?hd (cs := #[.slice none 0 0, .slice none 0 0]) (t := 25) ?hr ?_); (case hd => rfl); (case hg => rfl); (case hr => first | (go_simp; done) | (go_simp; rfl)); intro g2 hg2 w2 hb2 hB2; have hq2 := (blk_cell (blk_below Hb1.out hB2) 0).trans rfl; have hq3 := (blk_cell (blk_below Hb1.out hB2) 1).trans rfl; have Hgs : Hid (w.heap.size ≤ g2) := (Lib.hid (by rw [hg2]; exact HB1.out.size)); have HB2 := Lib.hid (below_then HB1.out HB1.out.size hB2); have Hb2 := Lib.hid hb2; have Hb1' := Lib.hid (blk_below Hb1.out hB2); have Hne12 : Hid (g ≠ g2) := (Lib.hid (by have := blk_lt Hb1.out; omega)); clear hB2 hb2 Hb1 hg2) | (go_at_call 43; refine (disk_isValid_calls A0 c0 l0 A1 c1 l1 w2 (Kd.C_below h0 HB2.out) hc0 (Kd.C_below h1 HB2.out) hc1).mono ?_; rintro e w3 ⟨rfl, hb3⟩; rw [Hv.out]; have hq6 := (blk_cell (blk_below Hb1'.out hb3) 0).trans rfl; have hq7 := (blk_cell (blk_below Hb1'.out hb3) 1).trans rfl; have HB3 := Lib.hid (below_then HB2.out HB2.out.size hb3); have Hb3 := Lib.hid (blk_below Hb1'.out hb3); have Hbr := Lib.hid (blk_below Hb2.out hb3); clear hb3 Hb1' Hb2 hq2 hq3) | (go_at_call 44; refine (disk_isPart.calls _ _ l0 _ _ l1 a l2.length _ _ (Kd.C_below h0 HB3.out) hc0 (Kd.C_below h1 HB3.out) hc1 (isPart_f l0 l1 a l2.length (by unfold maxLen; omega))).mono ?_; rintro e w4 ⟨rfl, hb4⟩; rw [Hp.out]; clear hq6 hq7; have hq6 := (blk_cell (blk_below Hb3.out hb4) 0).trans rfl; have hq7 := (blk_cell (blk_below Hb3.out hb4) 1).trans rfl; have HB4 := Lib.hid (below_then HB3.out HB3.out.size hb4); have Hbr4 := Lib.hid (blk_below Hbr.out hb4); have Hb4 := Lib.hid (blk_below Hb3.out hb4); clear hb4 Hbr Hb3) | (go_at_call 45; refine (clone_calls A0 c0 l0 w4 (Kd.C_below h0 HB4.out) hc0 (by omega)).mono ?_; rintro e w5 ⟨v5, rfl, hr5, hb5⟩; obtain ⟨A5, cap5, rfl⟩ := Kd.R_slice hr5; clear hq6 hq7; have Hbr5 := Lib.hid (blk_below Hbr4.out hb5); have Hb5 := Lib.hid (blk_below Hb4.out hb5); have HB5 := Lib.hid (below_then HB4.out HB4.out.size hb5); have HR5 := Lib.hid (Kd.R_lower hr5 HB4.out.size); clear hb5 Hbr4 Hb4 hr5) | ((with_reducible refine gate_dst (N := 8) rfl ?_); (refine box_event ?hg (N := 8) ?hd (cs := #[.slice none 0 0, .slice none 0 0]) (t := 25) ?hr ?_); (case hd => rfl); (case hg => rfl); (case hr => first | (go_simp; done) | (go_simp; rfl)); intro g8 hg8 w6 hb6 hB6; have hf0 := blk_frozen hb6 0; have hf1 := blk_frozen hb6 1; have hf2 := (blk_cell hb6 0).trans rfl; have hf3 := (blk_cell hb6 1).trans rfl; have Hg8 : Hid (w.heap.size ≤ g8) := (Lib.hid (by rw [hg8]; exact HB5.out.size)); have Hne8 : Hid (g ≠ g8) := (Lib.hid (by have := blk_lt Hb5.out; omega)); have Hne28 : Hid (g2 ≠ g8) := (Lib.hid (by have := blk_lt Hbr5.out; omega)); have Hb6 := Lib.hid hb6; have Hb61 := Lib.hid (blk_below Hb5.out hB6); have Hb62 := Lib.hid (blk_below Hbr5.out hB6); have HB6 := Lib.hid (below_then HB5.out HB5.out.size hB6); have HR6 := Lib.hid (Kd.R_below HR5.out hB6); clear hb6 hB6 hg8 Hb5 Hbr5) | ((with_reducible refine gate_store (t := 25) (p := 8) rfl ?_); refine store_event (w1 := (w6.setCell ⟨g8, 0, none⟩ (.slice A5 l0.length cap5)).setCell ⟨g8, 1, none⟩ (.slice none 0 0)) rfl (v := .tmp 31) rfl rfl ?hrun ?_; (case hrun => first | (go_simp; done) | (go_simp; rfl)); intro w7 hw7; have Hb7 : Hid (w7.heap[g8]? = some (.cells #[.slice A5 l0.length cap5, .slice none 0 0] 25 (0, 0))) := (Lib.hid (by rw [hw7]; exact two_cells Hb6.out _ _)); have Hb71 : Hid (w7.heap[g]? = some (.cells #[.slice A0 l0.length c0, .slice A1 l1.length c1] 25 (0, 0))) := (Lib.hid (by rw [hw7]; exact blk_far (blk_far Hb61.out Hne8.out _) Hne8.out _)); have Hb72 : Hid (w7.heap[g2]? = some (.cells #[.slice none 0 0, .slice none 0 0] 25 (0, 0))) := (Lib.hid (by rw [hw7]; exact blk_far (blk_far Hb62.out Hne28.out _) Hne28.out _)); have HB7 : Hid (Below w.heap.size w w7) := (Lib.hid (by rw [hw7]; exact (HB6.out.setCell (p := ⟨g8, 0, none⟩) Hg8.out _).setCell (p := ⟨g8, 1, none⟩) Hg8.out _)); have HR7 : Hid (Kd.R (Kd.int .u8) 5 w7 w.heap.size (fun _ => True) (.slice A5 l0.length cap5) l0) := (Lib.hid (by rw [hw7]; exact Kd.R_set (Kd.R_set HR6.out Hb6.out (by decide) 0 _) (blk_put Hb6.out 0 _ rfl) (by decide) 1 _)); have hq6 := (blk_cell Hb71.out 0).trans rfl; have hq7 := (blk_cell Hb71.out 1).trans rfl; clear hw7 hf0 hf1 hf2 hf3 Hb6 Hb61 Hb62 HR6) | ((with_reducible refine gate_dst (N := 45) rfl ?_); refine wpList_append_grows (P := Try.prog) _ rfl (.tmp 40) (.tmp 44) 23 rfl 45 i45 _ 2 32 hu23 hi45 hz45 hs45 hy45 rfl (by decide) A1 l1.length l1.length inner rfl ?hnn Hinl.out ?hcc ⟨w7.heap.size, 0, none⟩ 1 1 [.int .i64 a, .slice A2 l2.length c2] rfl rfl ?hnw ?h1c (by omega) (by unfold maxLen; omega) (by omega) ?_; (case hnn => intro h; have := Hnone.out h; subst this; exact ⟨rfl, rfl⟩); (case hcc => intro b hb j u hu; exact (pw_cell_below (below_alloc HB7.out _) (Hcell.out b hb j u hu))); (case hnw => exact news_cells w7 [.int .i64 a, .slice A2 l2.length c2] 45); (case h1c => simp [Value.oneCell']); intro v8 w8 hown8 hg8w; obtain ⟨g9, cap9, rfl⟩ := own_succ hown8; have Hown8 := Lib.hid (own_weaken hown8 (Nat.zero_le _)); have Hb8 := Lib.hid (blk_grown (blk_alloc Hb7.out _) hg8w (by simp)); have Hb82 := Lib.hid (blk_grown (blk_alloc Hb72.out _) hg8w (by simp)); have HB8 := Lib.hid (pw_below_grown (below_alloc HB7.out _) none (below_size (below_alloc HB7.out _)) hg8w (by intro k hk; cases hk)); have HR8 := Lib.hid (Kd.R_grown (Kd.R_alloc HR7.out _) hg8w (by intro k hk; simp)); clear hown8 hg8w hq6 hq7) )
  obtain ⟨L, hL⟩ : ∃ L, L = l1 ++ [(⟨a, l2⟩ : S45)] := ⟨_, rfl⟩
  have hLl : L.length = l1.length + 1 := by rw [hL]; simp
  have hReps : Reps (k45.K w) 2 L (inner ++ [.int .i64 a, .slice A2 l2.length c2]) := by
    rw [hL]
    exact Reps.snoc Hin.out (k45_mk w ⟨a, l2⟩ hc2 h2) rfl
  rw [← hLl] at Hown8 ⊢
  have HReps := Lib.hid hReps
  have HL := Lib.hid hL
  clear hReps hL hcut
  have hL64 : L.length ≤ 64 := by omega
  have hLx : ∀ x ∈ L, x.f1.length ≤ 65536 := by
    intro x hx
    rw [HL.out] at hx
    rcases List.mem_append.1 hx with h | h
    · have := Hl.out.2.2 x h
      omega
    · rw [List.mem_singleton.1 h]
      exact hl2
  have HLx := Lib.hid hLx
  clear hLx
  obtain ⟨V5, hV5⟩ : ∃ V5 : Value, V5 = .slice A5 l0.length cap5 := ⟨_, rfl⟩
  have HV5 := Lib.hid hV5
  rw [← hV5] at HR8 Hb8
  have hVblk : ∀ k, V5.ownBlock = some k → k < w8.heap.size := Kd.R_lt HR8.out
  have HVblk := Lib.hid hVblk
  clear hV5 hVblk
  have hg9 : g9 < w8.heap.size ∧ g9 ≠ g8 := by
    obtain ⟨cells, hc⟩ := own_typed Hown8.out g9 (by simp [Value.ownBlock])
    exact ⟨blk_lt hc, blk_ne hc Hb8.out (by decide)⟩
  have Hg9 := Lib.hid hg9
  clear hg9
  go_loopg [47] L.length (fun k v47 wr => ∃ (i : Nat) (u : Value), i ≤ L.length ∧ k = L.length - i ∧ v47 = .int .i64 i ∧ Hid (Kd.S k45 45 wr w8.heap.size (fun k_ => some k_ ≠ V5.ownBlock) u (L.take i)) ∧ Hid (Kd.R (Kd.int .u8) 5 wr w.heap.size (fun _ => True) V5 l0)
     ∧ Hid (wr.heap[g8]? = some (.cells #[V5, u] 25 (0, 0))) ∧ Hid (wr.heap[g2]? = some (.cells #[.slice none 0 0, .slice none 0 0] 25 (0, 0))) ∧ Hid (wr.ownsRow 0 45 2 (.slice (some ⟨g9, 0, none⟩) L.length cap9) L.length (inner ++ [.int .i64 a, .slice A2 l2.length c2])) ∧ Hid (Below w.heap.size w wr) ∧ w8.heap.size ≤ wr.heap.size)
  case atStart => exact ⟨0, .slice none 0 0, by omega, by omega, rfl, Lib.hid (Kd.S_nil _ _ _ _ _), HR8, Hb8, Hb82, Hown8, HB8, Nat.le_refl _⟩
  case round =>
    obtain ⟨i, u, hi, rfl, rfl, HS, HRr, Hb8r, Hb2r, Hownr, HBr, hszr⟩ := hrel
    by_cases hlt : i < L.length
    · obtain ⟨A3, c3, q0, q1, q2, q3⟩ := at45 Hownr.out HReps.out i hlt
      obtain ⟨xi, hxi⟩ : ∃ xi, xi = L[i] := ⟨_, rfl⟩
      have hxm : xi ∈ L := by rw [hxi]; exact List.getElem_mem _
      have hxv := HLx.out xi hxm
      rw [← hxi] at q0 q1 q2 q3
      have Hxi := Lib.hid hxi
      clear hxi hxm
      obtain ⟨f0, f1⟩ := xi
      dsimp only at q0 q1 q2 q3 hxv
      go_wp2_with (fail)
      obtain ⟨wb, hwb⟩ : ∃ wb, wb = wr.alloc (.cells #[.int .i64 f0, .slice A3 f1.length c3] 45) := ⟨_, rfl⟩
      rw [← hwb]
      have hbb : Below wr.heap.size wr wb := by rw [hwb]; exact below_alloc (Below.refl _ _) _
      obtain ⟨b10, hb10⟩ : ∃ b10, b10 = wr.heap.size := ⟨_, rfl⟩
      have hblk : wb.heap[b10]? = some (.cells #[.int .i64 f0, .slice A3 f1.length c3] 45 (0, 0)) := by rw [hwb, hb10]; exact blk_new _ _
      have hszb : w8.heap.size ≤ wb.heap.size := Nat.le_trans hszr hbb.size
      have hb10s : w8.heap.size ≤ b10 := by rw [hb10]; exact hszr
      rw [← hb10]
      have Sb := Lib.hid (Kd.S_below HS.out hbb)
      have Rb := Lib.hid (Kd.R_below HRr.out hbb)
      have B8b := Lib.hid (blk_below Hb8r.out hbb)
      have B2b := Lib.hid (blk_below Hb2r.out hbb)
      have Ownb := Lib.hid (pw_own_below Hownr.out hbb)
      have HBb := Lib.hid (below_then HBr.out HBr.out.size hbb)
      have Hblk := Lib.hid hblk
      have k1 : wb.cell? ⟨g8, 1, none⟩ = some u := (blk_cell B8b.out 1).trans rfl
      have k2 : wb.cell? ⟨b10, 0, none⟩ = some (.int .i64 f0) := (blk_cell Hblk.out 0).trans rfl
      have k3 : wb.cell? ⟨b10, 1, none⟩ = some (.slice A3 f1.length c3) := (blk_cell Hblk.out 1).trans rfl
      have hne8 : g8 ≠ b10 := by rw [hb10]; exact Nat.ne_of_lt (blk_lt Hb8r.out)
      have Hne8b := Lib.hid hne8
      have hgl : i < 64 := by omega
      have hg8l : g8 < w8.heap.size := blk_lt Hb8.out
      have Hg8l := Lib.hid hg8l
      have Hsb := Lib.hid hszb
      clear hwb hbb hblk hb10 hszb q0 q1 hne8 HS HRr Hb8r Hb2r Hownr HBr hszr hg8l
      refine start_ (n := 12) (S := fun w' => w'.cell? ⟨g8, 1, none⟩ = some u ∧ w'.cell? ⟨b10, 0, none⟩ = some (.int .i64 f0) ∧ w'.cell? ⟨b10, 1, none⟩ = some (.slice A3 f1.length c3)) (ds := [9, 11]) #[false, false, false, false, false, false, false, false, false, false, false, false] (by kernel_rfl) rfl rfl ⟨k1, k2, k3⟩ ?_
      intro hHeld
      refine pure_ (i := 0) (N := some 51) (v := ?_) (a' := ?_) #[true, false, false, false, false, false, false, false, false, false, false, false] rfl rfl (by kernel_rfl) (fun _ _ _ h => h) (Or.inl ⟨by rfl, ?_⟩) ?_ ?_
      rotate_left
      · intro w'
        go_simp
        try (with_reducible rfl)
      rotate_left
      · simp only [Act.put, List.setIfInBounds_toArray, List.set_cons_zero, List.set_cons_succ]
        rfl
      refine pure_ (i := 2) (N := some 53) (v := ?_) (a' := ?_) #[true, false, true, false, false, false, false, false, false, false, false, false] rfl rfl (by kernel_rfl) (fun _ _ _ h => h) (Or.inl ⟨by rfl, ?_⟩) ?_ ?_
      rotate_left
      · intro w'
        go_simp
        try (with_reducible rfl)
      rotate_left
      · simp only [Act.put, List.setIfInBounds_toArray, List.set_cons_zero, List.set_cons_succ]
        rfl
      refine pure_ (i := 4) (N := some 55) (v := ?_) (a' := ?_) #[true, false, true, false, true, false, false, false, false, false, false, false] rfl rfl (by kernel_rfl) (fun _ _ _ h => h) (Or.inl ⟨by rfl, ?_⟩) ?_ ?_
      rotate_left
      · intro w'
        go_simp
        try (with_reducible rfl)
      rotate_left
      · simp only [Act.put, List.setIfInBounds_toArray, List.set_cons_zero, List.set_cons_succ]
        rfl
      refine take_ (i := 1) (N := some 52) (v := ?_) (a' := ?_) #[true, true, true, false, true, false, false, false, false, false, false, false] rfl rfl (by kernel_rfl) (fun _ _ _ h => h) (Or.inl ⟨by rfl, ?_⟩) hHeld ?_ ?_
      rotate_left
      · rintro w' ⟨s0, s1, s2⟩
        go_simp
        with_reducible rfl
      rotate_left
      · simp only [Act.put, List.setIfInBounds_toArray, List.set_cons_zero, List.set_cons_succ]
        rfl
      refine take_ (i := 3) (N := some 54) (v := ?_) (a' := ?_) #[true, true, true, true, true, false, false, false, false, false, false, false] rfl rfl (by kernel_rfl) (fun _ _ _ h => h) (Or.inl ⟨by rfl, ?_⟩) hHeld ?_ ?_
      rotate_left
      · rintro w' ⟨s0, s1, s2⟩
        go_simp
        with_reducible rfl
      rotate_left
      · simp only [Act.put, List.setIfInBounds_toArray, List.set_cons_zero, List.set_cons_succ]
        rfl
      refine take_ (i := 5) (N := some 56) (v := ?_) (a' := ?_) #[true, true, true, true, true, true, false, false, false, false, false, false] rfl rfl (by kernel_rfl) (fun _ _ _ h => h) (Or.inl ⟨by rfl, ?_⟩) hHeld ?_ ?_
      rotate_left
      · rintro w' ⟨s0, s1, s2⟩
        go_simp
        with_reducible rfl
      rotate_left
      · simp only [Act.put, List.setIfInBounds_toArray, List.set_cons_zero, List.set_cons_succ]
        rfl
      refine one_ (i := 6) (N := some 57) #[true, true, true, true, true, true, true, false, false, false, false, false] rfl rfl (by kernel_rfl) (by decide) (fun K hK => ?_)
      refine goes_ Try.func45 (by kernel_rfl) rfl #[.slice A3 f1.length c3] (by rfl) rfl rfl (by (try simp only [List.map_toArray, List.map_cons, List.map_nil]); first | done | rfl) ?_
      refine (clone_calls A3 c3 f1 _ (Kd.C_drew (Kd.C_below q3 HBb.out)) q2 (by omega)).mono ?_
      rintro e w10 ⟨v10, rfl, hr10, hbx⟩
      obtain ⟨A10, cap10, rfl⟩ := Kd.R_slice hr10
      have hbw : Below wb.heap.size wb w10 := below_then (below_drew (Below.refl _ _)) (Nat.le_refl _) hbx
      have k4 := pw_cell_below hbw k1
      have k5 := pw_cell_below hbw k2
      have k6 := pw_cell_below hbw k3
      have S10 := Lib.hid (Kd.S_mono (Kd.S_below (Kd.S_bound Sb.out) hbw) (ok' := fun k => (some k ≠ V5.ownBlock) ∧ ¬ (wb.heap.size ≤ k)) (fun k hk => ⟨hk.1, Nat.not_le_of_lt hk.2.2.1⟩))
      have Slt := Lib.hid (Kd.S_lt Sb.out)
      have R10 := Lib.hid (Kd.R_below Rb.out hbw)
      have B810 := Lib.hid (blk_below B8b.out hbw)
      have B210 := Lib.hid (blk_below B2b.out hbw)
      have Own10 := Lib.hid (pw_own_below Ownb.out hbw)
      have HB10 := Lib.hid (below_then HBb.out HBb.out.size hbw)
      have Hv10 := Lib.hid (Kd.R_lower (Kd.R_mono (Kd.R_bound hr10) (ok' := fun k => wb.heap.size ≤ k) (fun k hk => hk.2.1)) Hsb.out)
      have Hsz10 := Lib.hid (Nat.le_trans Hsb.out hbw.size)
      have Hszb10 := Lib.hid hbw.size
      clear hr10 hbx hbw
      refine ⟨_, rfl, ?_⟩
      refine hK.out _ _ ⟨k4, k5, k6⟩ (fun hHeld => ?_)
      clear hK K
      refine norm_ (a' := ?_) ?_ ?_
      rotate_left
      · show Act.put _ (some 57) _ = _
        simp only [Act.put, List.setIfInBounds_toArray, List.set_cons_zero, List.set_cons_succ]
        rfl
      refine pure_ (i := 7) (N := some 58) (v := ?_) (a' := ?_) #[true, true, true, true, true, true, true, true, false, false, false, false] rfl rfl (by kernel_rfl) (fun _ _ _ h => h) (Or.inl ⟨by rfl, ?_⟩) ?_ ?_
      rotate_left
      · intro w'
        go_simp
        try (with_reducible rfl)
      rotate_left
      · simp only [Act.put, List.setIfInBounds_toArray, List.set_cons_zero, List.set_cons_succ]
        rfl
      refine one_ (i := 8) (N := some 59) #[true, true, true, true, true, true, true, true, true, false, false, false] rfl rfl (by kernel_rfl) (by decide) (fun K hK => ?_)
      refine value_ (w1 := ?_) (v := ?_) (by rfl) rfl ?_ ?_
      rotate_left 2
      · go_simp
        constructor
        · rfl
        · rfl
      refine hK.out _ _ ⟨pw_cell_below (below_alloc (Below.refl _ _) _) k4, pw_cell_below (below_alloc (Below.refl _ _) _) k5, pw_cell_below (below_alloc (Below.refl _ _) _) k6⟩ (fun hHeld => ?_)
      clear hK K
      refine norm_ (a' := ?_) ?_ ?_
      rotate_left
      · show Act.put _ (some 59) _ = _
        simp only [Act.put, List.setIfInBounds_toArray, List.set_cons_zero, List.set_cons_succ]
        rfl
      refine last_ (i := 9) (N := some 60) #[true, true, true, true, true, true, true, true, true, true, false, false] rfl rfl (by kernel_rfl) (by decide) (fun K hK => ?_)
      refine Kd.S_append_step k45 (w0 := w10) (W := w10) w8.heap.size (by rfl) (.tmp 52) (.tmp 59) 23 45 (.agg #[.int .i64 0, .slice none 0 0]) 32 (by rfl) hu23 info45 rfl (by decide) (by decide) u (L.take i) ⟨f0, f1⟩ [.int .i64 f0, .slice A10 f1.length cap10] (fun k_ => some k_ ≠ V5.ownBlock) (fun k_ => wb.heap.size ≤ k_) (by rfl) (by rfl) (k45_mkM w10 _ _ ⟨f0, f1⟩ Hv10.out) ?hok ?hfr S10.out (Below.refl _ _) Hsz10.out ?hlen ?_
      case hok => exact fun k hk => ⟨fun he => by have := HVblk.out k he.symm; have := Hsb.out; omega, fun he => by have := Slt.out k he.symm; omega⟩
      case hfr => exact fun k hk he => by have := HVblk.out k he.symm; have := Hsz10.out; omega
      case hlen => simp; omega
      intro u1 w11 hs11 hb11 hg11 hat11
      obtain ⟨A11, n11, cap11, rfl⟩ := S_any hs11
      have Hna := Lib.hid (Kd.S_ne S10.out B810.out (by decide))
      have B811 := Lib.hid (blk_grown B810.out hg11 Hna.out)
      have B211 := Lib.hid (blk_grown B210.out hg11 (Kd.S_ne S10.out B210.out (by decide)))
      have hz0 := (blk_cell B811.out 0).trans rfl
      have hz1 := (blk_cell B811.out 1).trans rfl
      have hf1 := blk_frozen B811.out 1
      have S11 := Lib.hid hs11
      have R11 := Lib.hid (Kd.R_grown (Kd.R_tight rfl R10.out) hg11 (fun k hk he => by have := (Kd.S_R S10.out).1 k he.symm; exact this.1 hk))
      have Own11 := Lib.hid (own_move Own10.out (fun k hk => hg11.block k (by have := Hg9.out.1; have := Hsz10.out; simp [Value.ownBlock] at hk; omega) (fun he => by have := Kd.S_base S10.out k he.symm; have := Hg9.out.1; simp [Value.ownBlock] at hk; omega)))
      have HB11 := Lib.hid (pw_below_grown HB10.out _ HB10.out.size hg11 (fun k hk => by have := Kd.S_base S10.out k hk; have := HB8.out.size; omega))
      have Hsz11 := Lib.hid (Nat.le_trans Hsz10.out hg11.size)
      clear hs11 hb11 hg11 hat11
      refine hK.out _ _ ?_
      clear hK K
      refine norm_ (a' := ?_) ?_ ?_
      rotate_left
      · show Act.put _ (some 60) _ = _
        simp only [Act.put, List.setIfInBounds_toArray, List.set_cons_zero, List.set_cons_succ]
        rfl
      refine pure_ (i := 10) (N := some 61) (v := ?_) (a' := ?_) #[true, true, true, true, true, true, true, true, true, true, true, false] rfl rfl (by kernel_rfl) (fun _ _ _ h => h) (Or.inl ⟨by rfl, ?_⟩) ?_ ?_
      rotate_left
      · intro w'
        go_simp
        try (with_reducible rfl)
      rotate_left
      · simp only [Act.put, List.setIfInBounds_toArray, List.set_cons_zero, List.set_cons_succ]
        rfl
      refine last_ (i := 11) (N := none) #[true, true, true, true, true, true, true, true, true, true, true, true] rfl rfl (by kernel_rfl) (by decide) (fun K hK => ?_)
      refine skip_ (w1 := ?_) (by rfl) rfl ?_ ?_
      rotate_left
      · go_simp
        rfl
      refine hK.out _ _ ?_
      clear hK K
      refine done_ (by kernel_rfl) ?_
      clear k1 k2 k3 k4 k5 k6 hz0 hz1 hf1
      go_wp2
      go_roundg (L.length - (i + 1))
      case measure => omega
      case rel =>
        have ht : L.take (i + 1) = L.take i ++ [(⟨f0, f1⟩ : S45)] := by rw [List.take_succ_eq_append_getElem hlt, ← Hxi.out]
        refine ⟨i + 1, .slice A11 n11 cap11, by omega, rfl, by go_num, Lib.hid ?_, Lib.hid ?_, Lib.hid ?_, Lib.hid ?_, Lib.hid ?_, Lib.hid ?_, ?_⟩
        · rw [ht]; exact Kd.S_set S11.out B811.out (by decide) 1 _
        · exact Kd.R_mono (Kd.R_set R11.out B811.out (by decide) 1 _) (fun _ _ => trivial)
        · exact blk_put B811.out 1 _ rfl
        · exact blk_far B211.out Hne28.out _
        · exact own_move Own11.out (fun k hk => Below.heap_setCell _ _ _ k (by have := Hg9.out.2; simp [Value.ownBlock] at hk; show k ≠ g8; omega))
        · exact HB11.out.setCell (p := ⟨g8, 1, none⟩) Hg8.out _
        · exact Nat.le_trans Hsz11.out (by simp)
    · obtain rfl : i = L.length := by omega
      obtain ⟨A12, n12, cap12, rfl⟩ := S_any HS.out
      have eV := HV5.out
      subst eV
      have j1 := (blk_cell Hb8r.out 0).trans rfl
      have j2 := (blk_cell Hb8r.out 1).trans rfl
      have j3 := (blk_cell Hb2r.out 0).trans rfl
      have j4 := (blk_cell Hb2r.out 1).trans rfl
      have j5 := blk_frozen Hb2r.out 0
      have j6 := blk_frozen Hb2r.out 1
      go_wp2
      obtain ⟨w9, hw9⟩ : ∃ w9, w9 = ((wr.setCell ⟨g2, 0, none⟩ (.slice A5 l0.length cap5)).setCell ⟨g2, 1, none⟩ (.slice A12 n12 cap12)) := ⟨_, rfl⟩
      rw [← hw9]
      have hr2 := two_cells Hb2r.out (.slice A5 l0.length cap5) (.slice A12 n12 cap12)
      rw [← hw9] at hr2
      have m1 : w9.cell? ⟨g2, 0, none⟩ = some (.slice A5 l0.length cap5) := (blk_cell hr2 0).trans rfl
      have m2 : w9.cell? ⟨g2, 1, none⟩ = some (.slice A12 n12 cap12) := (blk_cell hr2 1).trans rfl
      refine bodyPost_ret (v := .tuple #[.agg #[.slice A5 l0.length cap5, .slice A12 n12 cap12], .int .i64 0]) (by simp [results, Try.results21, go_sem, m1, m2]) rfl ⟨_, _, rfl, ?_, ?_, ?_⟩
      · rw [hw9]
        exact Kd.R_set (Kd.R_set HRr.out Hb2r.out (by decide) 0 _) (blk_put Hb2r.out 0 _ rfl) (by decide) 1 _
      · have hS := HS.out
        rw [List.take_length, HL.out] at hS
        rw [hw9]
        exact Kd.S_set (Kd.S_set (Kd.S_lower hS HB8.out.size) Hb2r.out (by decide) 0 _) (blk_put Hb2r.out 0 _ rfl) (by decide) 1 _
      · rw [hw9]
        exact (HBr.out.setCell (p := ⟨g2, 0, none⟩) Hgs.out _).setCell (p := ⟨g2, 1, none⟩) Hgs.out _
end Go.Proofs.Ytfpdmlhknddffaa.Dk
