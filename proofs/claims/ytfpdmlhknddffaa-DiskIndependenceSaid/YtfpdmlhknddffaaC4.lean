/- Walks and laws of package disk: part of the proofs of the Disk statements. -/
import Derived.Test.YtfpdmlhknddffaaC3
import Derived.Test.YtfpdmlhknddffaaD9
namespace Go.Proofs.Ytfpdmlhknddffaa.Dk
open Go.RowKit Go.Proofs.YtfpdmlhknddffaaW.PrintWords Go.Proofs.YtfpdmlhknddffaaW.PrintLast Go.Proofs.YtfpdmlhknddffaaW.PrintMore
set_option linter.unusedVariables false

/-- a whole slice appended to an own row, one step of a region that draws its order -/
theorem own_row_step {P : Program} {ops : Array Oper} {o : Oper} {a : Act} {K : Act → World → Prop} {Q : Exit → Act → World → Prop} (W : World) (base : Nat) (hw : Region.wanted o (yielded ops a.tmps) = true) (s x : Operand) (t e : TypeId) (z : Value) (size bytes : Nat)
    (ho : o.op = .call { callee := .builtin .append, args := #[s, x], argTypes := #[t, t] })
    (ht : P.underlying t = some (.slice e)) (hinfo : (P.info? e).map (fun i => (i.zero, i.size, i.bytes)) = some (some z, size, bytes)) (hz : z.cells.size = size) (hs0 : 0 < size)
    (v : Value) (n : Nat) (xs : List Value) (ad : Addr) (m c : Nat) (news : List Value) (hs : a.eval s = v) (hx : a.eval x = .slice (some ad) m c) (hnl : news.length = m * size) (hnews : ∀ j u, news[j]? = some u → W.cell? (ad.add j) = some u) (h1 : ∀ u ∈ news, u.oneCell' = true)
    (HO : W.ownsRow base e size v n xs) (hbase : base ≤ W.heap.size) (h63 : n + m ≤ maxLen) (hl : (n + m) * bytes ≤ 140737488355328)
    (h : ∀ v1 w1, w1.ownsRow base e size v1 (n + m) (xs ++ news) → W.grownBy w1 v.ownBlock → K (a.put o.dst v1) w1) :
    if Region.wanted o (yielded ops a.tmps) = true then Oper.wp P o a W K Q else K (a.put o.dst undef) W := by
  obtain ⟨i0, hi, hzz⟩ := Option.map_eq_some_iff.1 hinfo
  simp only [Prod.mk.injEq] at hzz
  obtain ⟨hz0, hz1, hz2⟩ := hzz
  rw [if_pos hw]
  obtain ⟨v1, w1, hr, hown, hg, _, hat⟩ := run_append_own_at (P := P) W base t o.type e i0 z size bytes ht hi hz0 hz1 hz2 hz hs0 v n xs HO ad m c news hnl hnews h1 h63 hl hbase
  unfold Oper.wp execOp
  simp only [ho, resolve, invoke, builtin, Sem.run_bind, Sem.run_pure, Result.andThen_ok, List.map_toArray, List.map_cons, List.map_nil, hs, hx, hr]
  exact h v1 w1 hown hg

/-- an empty slice that was just made owns its row -/
theorem own_empty (W : World) (base : Nat) (e : TypeId) (size : Nat) (hb : base ≤ W.heap.size) : (W.alloc (.cells #[] e)).ownsRow base e size (.slice (some ⟨W.heap.size, 0, none⟩) 0 0) 0 [] := by
  refine ⟨by simp, .inr ⟨W.heap.size, 0, #[], rfl, hb, blk_new _ _, Nat.le_refl _, by simp [maxLen], by simp, by simp⟩⟩

theorem own_pos {W : World} {base : Nat} {e : TypeId} {size n : Nat} {v : Value} {xs : List Value} (h : W.ownsRow base e size v n xs) (hn : 0 < n) : ∃ g cap cur, v = .slice (some ⟨g, 0, none⟩) n cap ∧ base ≤ g ∧ W.heap[g]? = some (.cells cur e (0, 0)) ∧ n ≤ cap ∧ n * size ≤ cur.size ∧ cur.toList.take (n * size) = xs := by
  rcases h.2 with ⟨_, h3⟩ | ⟨g', cap', cur, h3, h4, h5, h6, h7, h8, h9⟩
  · omega
  · refine ⟨g', cap', cur, h3, h4, h5, h6, ?_, h9⟩
    rw [h8]
    exact Nat.mul_le_mul_right _ h6

/-- two neighbours of a row of writes changed -/
theorem sw_row {w w0 w1 : World} {g : Nat} {cur : Array Value} {xs : List S45} {inner : List Value} {i : Nat} {Ax Ay : Option Addr} {cx cy : Nat}
    (hb : w0.heap[g]? = some (.cells cur 45 (0, 0))) (hc : xs.length * 2 ≤ cur.size) (ht : cur.toList.take (xs.length * 2) = inner) (hr : Reps (k45.K w) 2 xs inner) (hi : i + 1 < xs.length) (hmax : xs.length ≤ 9223372036854775807)
    (hx0 : (xs.getD i z45).f1.length ≤ cx) (hx1 : Kd.C (Kd.int .u8) w Ax (xs.getD i z45).f1.length (xs.getD i z45).f1) (hy0 : (xs.getD (i + 1) z45).f1.length ≤ cy) (hy1 : Kd.C (Kd.int .u8) w Ay (xs.getD (i + 1) z45).f1.length (xs.getD (i + 1) z45).f1)
    (hw1 : w1 = ((((w0.setCell ⟨g, i * 2, none⟩ (.int .i64 (xs.getD (i + 1) z45).f0)).setCell ⟨g, i * 2 + 1, none⟩ (.slice Ay (xs.getD (i + 1) z45).f1.length cy)).setCell ⟨g, (i + 1) * 2, none⟩ (.int .i64 (xs.getD i z45).f0)).setCell ⟨g, (i + 1) * 2 + 1, none⟩ (.slice Ax (xs.getD i z45).f1.length cx)))
    (hbel : Below w.heap.size w w1) : Kd.C k45 w1 (some ⟨g, 0, none⟩) xs.length (sw xs i z45) := by
  have hb1 : w1.heap[g]? = some (.cells ((((cur.setIfInBounds (i * 2) (.int .i64 (xs.getD (i + 1) z45).f0)).setIfInBounds (i * 2 + 1) (.slice Ay (xs.getD (i + 1) z45).f1.length cy)).setIfInBounds ((i + 1) * 2) (.int .i64 (xs.getD i z45).f0)).setIfInBounds ((i + 1) * 2 + 1) (.slice Ax (xs.getD i z45).f1.length cx)) 45 (0, 0)) := by
    rw [hw1]
    exact blk_set (blk_set (blk_set (blk_set hb _ _) _ _) _ _) _ _
  refine ⟨sw_length _ _ _, hmax, fun _ => ⟨⟨g, 0, none⟩, rfl, fun j p hj => ?_⟩⟩
  have hjl : j < xs.length := by
    have := (List.getElem?_eq_some_iff.1 hj).1
    rwa [sw_length] at this
  have hp : p = (sw xs i z45).getD j z45 := by rw [List.getD_eq_getElem?_getD, hj]; rfl
  rw [sw_get _ _ _ hi] at hp
  have hcell : ∀ q, w1.cell? ((⟨g, 0, none⟩ : Addr).add q) = ((((cur.setIfInBounds (i * 2) (.int .i64 (xs.getD (i + 1) z45).f0)).setIfInBounds (i * 2 + 1) (.slice Ay (xs.getD (i + 1) z45).f1.length cy)).setIfInBounds ((i + 1) * 2) (.int .i64 (xs.getD i z45).f0)).setIfInBounds ((i + 1) * 2 + 1) (.slice Ax (xs.getD i z45).f1.length cx))[q]? := by
    intro q
    rw [add_at, Nat.zero_add]
    exact blk_cell hb1 q
  by_cases h1 : j = i
  · subst h1
    rw [if_pos rfl] at hp
    subst hp
    refine ⟨[.int .i64 (xs.getD (j + 1) z45).f0, .slice Ay (xs.getD (j + 1) z45).f1.length cy], rfl, k45.K_below hbel (k45_mk w _ hy0 hy1), fun q u hu => ?_⟩
    match q, hu with
    | 0, hu =>
      show w1.cell? ((⟨g, 0, none⟩ : Addr).add (j * 2 + 0)) = some u
      rw [hcell]
      simp only [Array.getElem?_setIfInBounds, Array.size_setIfInBounds]
      rw [if_neg (by omega), if_neg (by omega), if_neg (by omega), if_pos (by first | trivial | omega), if_pos (by first | trivial | omega)]
      simpa using hu
    | 1, hu =>
      show w1.cell? ((⟨g, 0, none⟩ : Addr).add (j * 2 + 1)) = some u
      rw [hcell]
      simp only [Array.getElem?_setIfInBounds, Array.size_setIfInBounds]
      rw [if_neg (by omega), if_neg (by omega), if_pos (by first | trivial | omega), if_pos (by first | trivial | omega)]
      simpa using hu
    | q + 2, hu => simp at hu
  · rw [if_neg h1] at hp
    by_cases h2 : j = i + 1
    · subst h2
      rw [if_pos rfl] at hp
      subst hp
      refine ⟨[.int .i64 (xs.getD i z45).f0, .slice Ax (xs.getD i z45).f1.length cx], rfl, k45.K_below hbel (k45_mk w _ hx0 hx1), fun q u hu => ?_⟩
      match q, hu with
      | 0, hu =>
        show w1.cell? ((⟨g, 0, none⟩ : Addr).add ((i + 1) * 2 + 0)) = some u
        rw [hcell]
        simp only [Array.getElem?_setIfInBounds, Array.size_setIfInBounds]
        rw [if_neg (by omega), if_pos (by first | trivial | omega), if_pos (by first | trivial | omega)]
        simpa using hu
      | 1, hu =>
        show w1.cell? ((⟨g, 0, none⟩ : Addr).add ((i + 1) * 2 + 1)) = some u
        rw [hcell]
        simp only [Array.getElem?_setIfInBounds, Array.size_setIfInBounds]
        rw [if_pos (by first | trivial | omega), if_pos (by first | trivial | omega)]
        simpa using hu
      | q + 2, hu => simp at hu
    · rw [if_neg h2] at hp
      have hK := hr.2 j _ (List.getElem?_eq_getElem hjl)
      have e : xs[j] = p := by rw [hp]; simp [List.getD_eq_getElem?_getD, hjl]
      rw [e] at hK
      have hln : ((inner.drop (j * 2)).take 2).length = 2 := by
        rw [List.length_take, List.length_drop, hr.1]; omega
      refine ⟨_, hln, k45.K_below hbel hK, fun q u hu => ?_⟩
      have hq : q < 2 := by
        have := (List.getElem?_eq_some_iff.1 hu).1
        rwa [hln] at this
      show w1.cell? ((⟨g, 0, none⟩ : Addr).add (j * 2 + q)) = some u
      rw [hcell]
      simp only [Array.getElem?_setIfInBounds, Array.size_setIfInBounds]
      rw [if_neg (by omega), if_neg (by omega), if_neg (by omega), if_neg (by omega)]
      rw [List.getElem?_take_of_lt hq, List.getElem?_drop, ← ht, List.getElem?_take_of_lt (by omega)] at hu
      simpa using hu

theorem own_form {W : World} {base : Nat} {e : TypeId} {size n : Nat} {v : Value} {xs : List Value} (h : W.ownsRow base e size v n xs) (hn : 0 < n) : ∃ g cap, v = .slice (some ⟨g, 0, none⟩) n cap := by
  obtain ⟨g, cap, _, e, _⟩ := own_pos h hn
  exact ⟨g, cap, e⟩
theorem reps_ones {w : World} {xs : List S45} {inner : List Value} (h : Reps (k45.K w) 2 xs inner) : ∀ u ∈ inner, u.oneCell' = true := by
  intro u hu
  obtain ⟨q, hq, rfl⟩ := List.getElem_of_mem hu
  have hl := h.1
  have hj : q / 2 < xs.length := by omega
  have hK := h.2 (q / 2) _ (List.getElem?_eq_getElem hj)
  refine k45.K_one hK _ ?_
  have e : ((inner.drop (q / 2 * 2)).take 2)[q % 2]? = some inner[q] := by
    rw [List.getElem?_take_of_lt (by omega), List.getElem?_drop, show q / 2 * 2 + q % 2 = q by omega, List.getElem?_eq_getElem hq]
  exact List.mem_of_getElem? e

theorem kept_at {k : IntKind} {w : World} {A : Option Addr} {xs : List Int} (h : Kd.C (Kd.int k) w A xs.length xs) (hn : 0 < xs.length) : ∃ ad, A = some ad ∧ ∀ i, i < xs.length → w.cell? (ad.add i) = some (.int k (xs.getD i 0)) := by
  obtain ⟨ad, e, hc⟩ := h.2.2 hn
  refine ⟨ad, e, fun i hi => ?_⟩
  obtain ⟨c, hl, hK, hcell⟩ := hc i _ (List.getElem?_eq_getElem hi)
  have hK2 : c = [.int k xs[i]] := hK
  subst hK2
  have h0 : w.cell? (ad.add (i * 1 + 0)) = some (.int k xs[i]) := hcell 0 _ rfl
  rw [Nat.mul_one, Nat.add_zero] at h0
  rw [h0]
  simp [List.getD_eq_getElem?_getD, hi]

theorem same_self {A0 A1 A2 A3 : Option Addr} {c0 c1 c2 c3 : Nat} (X : List Int) (w : World) (h0 : Kd.C (Kd.int .u8) w A0 X.length X) (k0 : X.length ≤ c0) (h1 : Kd.C k45 w A1 0 []) (h2 : Kd.C (Kd.int .u8) w A2 X.length X) (k2 : X.length ≤ c2) (h3 : Kd.C k45 w A3 0 []) :
    Calls Try.prog 19 #[.agg #[.slice A0 X.length c0, .slice A1 0 c1], .agg #[.slice A2 X.length c2, .slice A3 0 c3]] w fun e w' => e = .returned (.bool true) ∧ Below w.heap.size w w' := by
  obtain ⟨k, hk⟩ := (same_ev X X [] [] (C_max h0) ⟨by simp, fun x hx => by simp at hx⟩).rounds
  rw [decide_eq_true ⟨rfl, rfl⟩] at hk
  exact wageofficeref42_Same.calls k A0 c0 X A1 c1 [] A2 c2 X A3 c3 [] true w h0 k0 h1 (Nat.zero_le _) h2 k2 h3 (Nat.zero_le _) hk

theorem crash_res {A0 A1 A2 : Option Addr} {c0 c1 c2 n1 n2 : Nat} (l0 : List Int) (l1 : List S45) (l2 X : List Int) (w : World) (e1 : l1.length = n1) (e2 : l2.length = n2) (eX : crashL l0 l1 l2 = X)
    (h0 : Kd.C (Kd.int .u8) w A0 l0.length l0) (k0 : l0.length ≤ c0) (h1 : Kd.C k45 w A1 n1 l1) (k1 : n1 ≤ c1) (h2 : Kd.C (Kd.int .i64) w A2 n2 l2) (k2 : n2 ≤ c2) :
    Calls Try.prog 28 #[.agg #[.slice A0 l0.length c0, .slice A1 n1 c1], .slice A2 n2 c2] w fun e w' => ∃ A c A' c', e = .returned (.agg #[.slice A X.length c, .slice A' 0 c']) ∧ X.length ≤ c ∧ Kd.C (Kd.int .u8) w' A X.length X ∧ Kd.C k45 w' A' 0 [] ∧ Below w.heap.size w w' := by
  subst e1; subst e2; subst eX
  refine (disk_Crash.calls A0 c0 l0 A1 c1 l1 A2 c2 l2 (crashL l0 l1 l2) [] w h0 k0 h1 k1 h2 k2 rfl).mono ?_
  rintro e w' ⟨v0, v1, rfl, hr, hs, hb⟩
  obtain ⟨A, c, rfl⟩ := Kd.R_slice hr
  obtain ⟨A', c', rfl⟩ := Kd.S_slice hs
  exact ⟨A, c, A', c', rfl, (Kd.R_reads' hr).2.1, (Kd.R_reads' hr).2.2, (Kd.R_reads' (Kd.S_R hs)).2.2, hb⟩

theorem sync_res {A0 A1 : Option Addr} {c0 c1 n1 : Nat} (l0 : List Int) (l1 : List S45) (X : List Int) (w : World) (e1 : l1.length = n1) (eX : syncL l0 l1 = X)
    (h0 : Kd.C (Kd.int .u8) w A0 l0.length l0) (k0 : l0.length ≤ c0) (h1 : Kd.C k45 w A1 n1 l1) (k1 : n1 ≤ c1) :
    Calls Try.prog 26 #[.agg #[.slice A0 l0.length c0, .slice A1 n1 c1]] w fun e w' => ∃ A c A' c', e = .returned (.agg #[.slice A X.length c, .slice A' 0 c']) ∧ X.length ≤ c ∧ Kd.C (Kd.int .u8) w' A X.length X ∧ Kd.C k45 w' A' 0 [] ∧ Below w.heap.size w w' := by
  subst e1; subst eX
  refine (disk_Sync.calls A0 c0 l0 A1 c1 l1 (syncL l0 l1) [] w h0 k0 h1 k1 rfl).mono ?_
  rintro e w' ⟨v0, v1, rfl, hr, hs, hb⟩
  obtain ⟨A, c, rfl⟩ := Kd.R_slice hr
  obtain ⟨A', c', rfl⟩ := Kd.S_slice hs
  exact ⟨A, c, A', c', rfl, (Kd.R_reads' hr).2.1, (Kd.R_reads' hr).2.2, (Kd.R_reads' (Kd.S_R hs)).2.2, hb⟩

/-- an own row of numbers, two neighbours changed -/
theorem R_sw {e base g cap : Nat} {ok : Nat → Prop} {W : World} {xs : List Int} {i : Nat} {a b : Int} (h : Kd.R (Kd.int .i64) e W base ok (.slice (some ⟨g, 0, none⟩) xs.length cap) xs) (ha : a = xs.getD i 0) (hb : b = xs.getD (i + 1) 0) :
    Kd.C (Kd.int .i64) ((W.setCell ⟨g, i, none⟩ (.int .i64 b)).setCell ⟨g, i + 1, none⟩ (.int .i64 a)) (some ⟨g, 0, none⟩) xs.length (sw xs i 0) := by
  have h1 := Kd.R_putn (enc := Value.int .i64) (h1 := fun _ => rfl) h (i : Int) b
  have h2 := Kd.R_putn (enc := Value.int .i64) (h1 := fun _ => rfl) h1 ((i + 1 : Nat) : Int) a
  simp only [Int.toNat_natCast] at h2
  have h3 := Kd.R_reads' h2
  have e1 : (xs.set i b).set (i + 1) a = sw xs i 0 := by rw [ha, hb]; rfl
  rw [e1] at h3
  have h4 := h3.2.2
  rw [sw_length] at h4
  exact h4

/-- three boxes of the call's own stand, below B -/
def St (w W : World) (B g1 g2 g3 : Nat) (c1 c2 c3 : Array Value) : Prop := W.heap[g1]? = some (.cells c1 25 (0, 0)) ∧ W.heap[g2]? = some (.cells c2 45 (0, 0)) ∧ W.heap[g3]? = some (.cells c3 45 (0, 0)) ∧ Below w.heap.size w W ∧ B ≤ W.heap.size ∧ g1 < B ∧ g2 < B ∧ g3 < B ∧ w.heap.size ≤ B
section
variable {w W W1 : World} {B g1 g2 g3 : Nat} {c1 c2 c3 : Array Value}
theorem St.below (h : St w W B g1 g2 g3 c1 c2 c3) (hb : Below W.heap.size W W1) : St w W1 B g1 g2 g3 c1 c2 c3 := by
  obtain ⟨h1, h2, h3, h4, h5, h6⟩ := h
  exact ⟨blk_below h1 hb, blk_below h2 hb, blk_below h3 hb, below_then h4 h4.size hb, Nat.le_trans h5 hb.size, h6⟩
theorem St.alloc (h : St w W B g1 g2 g3 c1 c2 c3) (o : Obj) : St w (W.alloc o) B g1 g2 g3 c1 c2 c3 := h.below (below_alloc (Below.refl _ _) o)
theorem St.grown (h : St w W B g1 g2 g3 c1 c2 c3) {row : Option Nat} (hg : W.grownBy W1 row) (hr : ∀ k, row = some k → B ≤ k) : St w W1 B g1 g2 g3 c1 c2 c3 := by
  obtain ⟨h1, h2, h3, h4, h5, h6, h7, h8, h9⟩ := h
  have hne : ∀ g, g < B → some g ≠ row := fun g hg he => by have := hr g he.symm; omega
  exact ⟨blk_grown h1 hg (hne _ h6), blk_grown h2 hg (hne _ h7), blk_grown h3 hg (hne _ h8), pw_below_grown h4 row h4.size hg (fun k hk => Nat.le_trans h9 (hr k hk)), Nat.le_trans h5 hg.size, h6, h7, h8, h9⟩
theorem St.set (h : St w W B g1 g2 g3 c1 c2 c3) (p : Addr) (hp : B ≤ p.block) (u : Value) : St w (W.setCell p u) B g1 g2 g3 c1 c2 c3 := by
  obtain ⟨h1, h2, h3, h4, h5, h6, h7, h8, h9⟩ := h
  exact ⟨blk_far h1 (by omega) u, blk_far h2 (by omega) u, blk_far h3 (by omega) u, h4.setCell (by omega) u, by simpa using h5, h6, h7, h8, h9⟩
end
end Go.Proofs.Ytfpdmlhknddffaa.Dk
