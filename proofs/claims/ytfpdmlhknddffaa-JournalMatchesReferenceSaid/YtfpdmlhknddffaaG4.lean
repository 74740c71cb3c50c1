/- Contracts of functions, and plain laws, that the statement's proof uses; printed and joined by programs of this session. -/
import Derived.Test.YtfpdmlhknddffaaG3
import Derived.RangeFuncNested
import Derived.RangeFuncBound
import Derived.RangeFuncCalls
import Derived.RangeFuncLeaves
import Derived.RangeFuncFrom
import Derived.Shelf.Abstract
import Derived.Shelf.RegionOpen
import Derived.WalkKit
import Derived.OwnWalkIn
import Derived.TacticsInMore
import Derived.LoopNIn
import Derived.LoopIn
import Derived.Laws.BitsLemmas
import Derived.Maps.OwnIn
import Derived.Maps.AppendAt
section
namespace Go.Proofs.Ytfpdmlhknddffaa.Dk
open Go.RowKit Go.Proofs.YtfpdmlhknddffaaW.PrintWords Go.Proofs.YtfpdmlhknddffaaW.PrintLast Go.Proofs.YtfpdmlhknddffaaW.PrintMore
attribute [local go_sem] field25 field25b max2_int min2_int max_two min_two max_three min_three max_four min_four
set_option linter.unusedVariables false
set_option linter.unusedSimpArgs false
mutual
def wageofficelaw43_same.j0:Nat→Bool→List Int→List (S45)→List Int→List (S45)→Option (Bool)
 | 0,_,_,_,_,_=>none
 | k + 1,x20,x293000,x293001,x294000,x294001=>if x20=true then (some false) else (wageofficelaw43_same.l0 k (x293001.length:Int) 0 x293000 x293001 x294000 x294001)
def wageofficelaw43_same.l0:Nat→Int→Int→List Int→List (S45)→List Int→List (S45)→Option (Bool)
 | 0,_,_,_,_,_,_=>none
 | k + 1,x23,x24,x293000,x293001,x294000,x294001=>if x24 < x23 then (if 0 ≤ x24 then (if x24 < (x293001.length:Int) then (if x24 < (x294001.length:Int) then (if ((rd_T45 x293001 x24).f0)=((rd_T45 x294001 x24).f0) then ((wageofficeref43_Same.f k ((rd_T45 x293001 x24).f1) ((rd_T45 x294001 x24).f1)).bind fun t299=>(if t299=true then (wageofficelaw43_same.l0 k x23 (wrap64 (x24 + 1)) x293000 x293001 x294000 x294001) else (some false))) else (some false)) else (none)) else (none)) else (none)) else (some true)
end
def wageofficelaw43_same.f (k:Nat) (l0_0:List Int) (l0_1:List (S45)) (l1_0:List Int) (l1_1:List (S45)):Option (Bool):=(wageofficeref43_Same.f k l0_0 l1_0).bind fun t294=>(if t294=true then (wageofficelaw43_same.j0 k ((l0_1.length:Int) != (l1_1.length:Int)) l0_0 l0_1 l1_0 l1_1) else (wageofficelaw43_same.j0 k true l0_0 l0_1 l1_0 l1_1))
set_option maxHeartbeats 8000000 in
set_option maxRecDepth 100000 in
theorem wageofficelaw43_same.calls (k:Nat) (A0_0:Option Addr) (c0_0:Nat) (l0_0:List Int) (A0_1:Option Addr) (c0_1:Nat) (l0_1:List (S45)) (A1_0:Option Addr) (c1_0:Nat) (l1_0:List Int) (A1_1:Option Addr) (c1_1:Nat) (l1_1:List (S45)) (r:Bool) (w:World) (hr0_0:Kd.C (Kd.int .u8) w A0_0 l0_0.length l0_0) (hc0_0:l0_0.length ≤ c0_0) (hr0_1:Kd.C k45 w A0_1 l0_1.length l0_1) (hc0_1:l0_1.length ≤ c0_1) (hr1_0:Kd.C (Kd.int .u8) w A1_0 l1_0.length l1_0) (hc1_0:l1_0.length ≤ c1_0) (hr1_1:Kd.C k45 w A1_1 l1_1.length l1_1) (hc1_1:l1_1.length ≤ c1_1) (h:wageofficelaw43_same.f k l0_0 l0_1 l1_0 l1_1=some r) :
 Calls Try.prog 38 #[.agg #[.slice A0_0 l0_0.length c0_0,.slice A0_1 l0_1.length c0_1],.agg #[.slice A1_0 l1_0.length c1_0,.slice A1_1 l1_1.length c1_1]] w fun e w'=>e=.returned (.bool r)∧Below w.heap.size w w':=by
 have hu25:=Try.underlying25
 have HR0_0:=Aside0.mk hr0_0
 have HC0_0:=Aside0.mk hc0_0
 clear hr0_0 hc0_0
 have HR0_1:=Aside0.mk hr0_1
 have HC0_1:=Aside0.mk hc0_1
 clear hr0_1 hc0_1
 have HR1_0:=Aside0.mk hr1_0
 have HC1_0:=Aside0.mk hc1_0
 clear hr1_0 hc1_0
 have HR1_1:=Aside0.mk hr1_1
 have HC1_1:=Aside0.mk hc1_1
 clear hr1_1 hc1_1
 have HB:=Aside0.mk (Below.refl w.heap.size w)
 have H:((wageofficeref43_Same.f k l0_0 l1_0).bind fun t294=>(if t294=true then (wageofficelaw43_same.j0 k ((l0_1.length:Int) != (l1_1.length:Int)) l0_0 l0_1 l1_0 l1_1) else (wageofficelaw43_same.j0 k true l0_0 l0_1 l1_0 l1_1)))=some r:=h
 clear h
 have HC3:=Aside0.mk H
 clear H
 go_enter Try.func38,Try.ntmps38
 go_upto_region 1 with (first|((with_reducible refine gate_dst (N:=2) rfl ?_);(try (refine gate_guard (by rfl) ?_;dsimp only));refine box_event ?hg (N:=2) ?hd (cs:=#[.slice A0_0 l0_0.length c0_0,.slice A0_1 l0_1.length c0_1]) (t:=25) ?hr ?_;(case hd=>rfl);(case hg=>rfl);(case hr=>first|(go_simp;done)|(go_simp;rfl));intro gb292 hg w4 hbox hb;have n0_:=Aside0.mk (below_step (by repeat (first|(with_reducible first|exact HB.out|apply below_alloc|apply pw_below_drewN|apply below_drew1)|exact HB.out)) hb);have n1_:=Aside0.mk (hbox);have n2_:=Aside0.mk ((by rw [hg];exact (below_size (by repeat (first|(with_reducible first|exact HB.out|apply below_alloc|apply pw_below_drewN|apply below_drew1)|exact HB.out))):w.heap.size ≤ gb292));have n3_:=Aside0.mk ((by rw [hg];exact (below_size (by repeat (first|(with_reducible first|exact HB.out|apply below_alloc|apply pw_below_drewN|apply below_drew1)|exact HB.out))):w.heap.size ≤ gb292));clear HB;have HB:=n0_;have BK292:=n1_;have GW292:=n2_;have GE292:=n3_;clear n0_ n1_ n2_ n3_;clear hb hbox hg)|((with_reducible refine gate_dst (N:=3) rfl ?_);(try (refine gate_guard (by rfl) ?_;dsimp only));refine box_event ?hg (N:=3) ?hd (cs:=#[.slice A1_0 l1_0.length c1_0,.slice A1_1 l1_1.length c1_1]) (t:=25) ?hr ?_;(case hd=>rfl);(case hg=>rfl);(case hr=>first|(go_simp;done)|(go_simp;rfl));intro gb293 hg w5 hbox hb;have n0_:=Aside0.mk (blk_below (g:=gb292) (o:=.cells #[.slice A0_0 l0_0.length c0_0,.slice A0_1 l0_1.length c0_1] 25 (0,0)) (by (with_reducible repeat (first|refine blk_drewN ?_ _|refine blk_drew ?_|refine blk_alloc ?_ _));exact BK292.out) hb);have n1_:=Aside0.mk (below_step (by repeat (first|(with_reducible first|exact HB.out|apply below_alloc|apply pw_below_drewN|apply below_drew1|refine below_set ?_ GE292.out)|exact HB.out)) hb);have n2_:=Aside0.mk (hbox);have n3_:=Aside0.mk ((by rw [hg];exact (below_size (by repeat (first|(with_reducible first|exact HB.out|apply below_alloc|apply pw_below_drewN|apply below_drew1|refine below_set ?_ GE292.out)|exact HB.out))):w.heap.size ≤ gb293));have n4_:=Aside0.mk ((by rw [hg];exact (below_size (by repeat (first|(with_reducible first|exact HB.out|apply below_alloc|apply pw_below_drewN|apply below_drew1|refine below_set ?_ GE292.out)|exact HB.out))):w.heap.size ≤ gb293));have n5_:=Aside0.mk ((by rw [hg];exact Nat.ne_of_lt (blk_lt (g:=gb292) (o:=.cells #[.slice A0_0 l0_0.length c0_0,.slice A0_1 l0_1.length c0_1] 25 (0,0)) (by (with_reducible repeat (first|refine blk_drewN ?_ _|refine blk_drew ?_|refine blk_alloc ?_ _));exact BK292.out)):gb292 ≠ gb293));have n6_:=Aside0.mk ((by rw [hg];exact Nat.ne_of_gt (blk_lt (g:=gb292) (o:=.cells #[.slice A0_0 l0_0.length c0_0,.slice A0_1 l0_1.length c0_1] 25 (0,0)) (by (with_reducible repeat (first|refine blk_drewN ?_ _|refine blk_drew ?_|refine blk_alloc ?_ _));exact BK292.out)):gb293 ≠ gb292));clear BK292;clear HB;have BK292:=n0_;have HB:=n1_;have BK293:=n2_;have GW293:=n3_;have GE293:=n4_;have NB292_293:=n5_;have NB293_292:=n6_;clear n0_ n1_ n2_ n3_ n4_ n5_ n6_;clear hb hbox hg))
 repeat (go_quiet (first|((with_reducible refine gate_dst (N:=2) rfl ?_);(try (refine gate_guard (by rfl) ?_;dsimp only));refine box_event ?hg (N:=2) ?hd (cs:=#[.slice A0_0 l0_0.length c0_0,.slice A0_1 l0_1.length c0_1]) (t:=25) ?hr ?_;(case hd=>rfl);(case hg=>rfl);(case hr=>first|(go_simp;done)|(go_simp;rfl));intro gb292 hg w4 hbox hb;have n0_:=Aside0.mk (below_step (by repeat (first|(with_reducible first|exact HB.out|apply below_alloc|apply pw_below_drewN|apply below_drew1)|exact HB.out)) hb);have n1_:=Aside0.mk (hbox);have n2_:=Aside0.mk ((by rw [hg];exact (below_size (by repeat (first|(with_reducible first|exact HB.out|apply below_alloc|apply pw_below_drewN|apply below_drew1)|exact HB.out))):w.heap.size ≤ gb292));have n3_:=Aside0.mk ((by rw [hg];exact (below_size (by repeat (first|(with_reducible first|exact HB.out|apply below_alloc|apply pw_below_drewN|apply below_drew1)|exact HB.out))):w.heap.size ≤ gb292));clear HB;have HB:=n0_;have BK292:=n1_;have GW292:=n2_;have GE292:=n3_;clear n0_ n1_ n2_ n3_;clear hb hbox hg)|((with_reducible refine gate_dst (N:=3) rfl ?_);(try (refine gate_guard (by rfl) ?_;dsimp only));refine box_event ?hg (N:=3) ?hd (cs:=#[.slice A1_0 l1_0.length c1_0,.slice A1_1 l1_1.length c1_1]) (t:=25) ?hr ?_;(case hd=>rfl);(case hg=>rfl);(case hr=>first|(go_simp;done)|(go_simp;rfl));intro gb293 hg w5 hbox hb;have n0_:=Aside0.mk (blk_below (g:=gb292) (o:=.cells #[.slice A0_0 l0_0.length c0_0,.slice A0_1 l0_1.length c0_1] 25 (0,0)) (by (with_reducible repeat (first|refine blk_drewN ?_ _|refine blk_drew ?_|refine blk_alloc ?_ _));exact BK292.out) hb);have n1_:=Aside0.mk (below_step (by repeat (first|(with_reducible first|exact HB.out|apply below_alloc|apply pw_below_drewN|apply below_drew1|refine below_set ?_ GE292.out)|exact HB.out)) hb);have n2_:=Aside0.mk (hbox);have n3_:=Aside0.mk ((by rw [hg];exact (below_size (by repeat (first|(with_reducible first|exact HB.out|apply below_alloc|apply pw_below_drewN|apply below_drew1|refine below_set ?_ GE292.out)|exact HB.out))):w.heap.size ≤ gb293));have n4_:=Aside0.mk ((by rw [hg];exact (below_size (by repeat (first|(with_reducible first|exact HB.out|apply below_alloc|apply pw_below_drewN|apply below_drew1|refine below_set ?_ GE292.out)|exact HB.out))):w.heap.size ≤ gb293));have n5_:=Aside0.mk ((by rw [hg];exact Nat.ne_of_lt (blk_lt (g:=gb292) (o:=.cells #[.slice A0_0 l0_0.length c0_0,.slice A0_1 l0_1.length c0_1] 25 (0,0)) (by (with_reducible repeat (first|refine blk_drewN ?_ _|refine blk_drew ?_|refine blk_alloc ?_ _));exact BK292.out)):gb292 ≠ gb293));have n6_:=Aside0.mk ((by rw [hg];exact Nat.ne_of_gt (blk_lt (g:=gb292) (o:=.cells #[.slice A0_0 l0_0.length c0_0,.slice A0_1 l0_1.length c0_1] 25 (0,0)) (by (with_reducible repeat (first|refine blk_drewN ?_ _|refine blk_drew ?_|refine blk_alloc ?_ _));exact BK292.out)):gb293 ≠ gb292));clear BK292;clear HB;have BK292:=n0_;have HB:=n1_;have BK293:=n2_;have GW293:=n3_;have GE293:=n4_;have NB292_293:=n5_;have NB293_292:=n6_;clear n0_ n1_ n2_ n3_ n4_ n5_ n6_;clear hb hbox hg));go_upto_region 1 with (first|((with_reducible refine gate_dst (N:=2) rfl ?_);(try (refine gate_guard (by rfl) ?_;dsimp only));refine box_event ?hg (N:=2) ?hd (cs:=#[.slice A0_0 l0_0.length c0_0,.slice A0_1 l0_1.length c0_1]) (t:=25) ?hr ?_;(case hd=>rfl);(case hg=>rfl);(case hr=>first|(go_simp;done)|(go_simp;rfl));intro gb292 hg w4 hbox hb;have n0_:=Aside0.mk (below_step (by repeat (first|(with_reducible first|exact HB.out|apply below_alloc|apply pw_below_drewN|apply below_drew1)|exact HB.out)) hb);have n1_:=Aside0.mk (hbox);have n2_:=Aside0.mk ((by rw [hg];exact (below_size (by repeat (first|(with_reducible first|exact HB.out|apply below_alloc|apply pw_below_drewN|apply below_drew1)|exact HB.out))):w.heap.size ≤ gb292));have n3_:=Aside0.mk ((by rw [hg];exact (below_size (by repeat (first|(with_reducible first|exact HB.out|apply below_alloc|apply pw_below_drewN|apply below_drew1)|exact HB.out))):w.heap.size ≤ gb292));clear HB;have HB:=n0_;have BK292:=n1_;have GW292:=n2_;have GE292:=n3_;clear n0_ n1_ n2_ n3_;clear hb hbox hg)|((with_reducible refine gate_dst (N:=3) rfl ?_);(try (refine gate_guard (by rfl) ?_;dsimp only));refine box_event ?hg (N:=3) ?hd (cs:=#[.slice A1_0 l1_0.length c1_0,.slice A1_1 l1_1.length c1_1]) (t:=25) ?hr ?_;(case hd=>rfl);(case hg=>rfl);(case hr=>first|(go_simp;done)|(go_simp;rfl));intro gb293 hg w5 hbox hb;have n0_:=Aside0.mk (blk_below (g:=gb292) (o:=.cells #[.slice A0_0 l0_0.length c0_0,.slice A0_1 l0_1.length c0_1] 25 (0,0)) (by (with_reducible repeat (first|refine blk_drewN ?_ _|refine blk_drew ?_|refine blk_alloc ?_ _));exact BK292.out) hb);have n1_:=Aside0.mk (below_step (by repeat (first|(with_reducible first|exact HB.out|apply below_alloc|apply pw_below_drewN|apply below_drew1|refine below_set ?_ GE292.out)|exact HB.out)) hb);have n2_:=Aside0.mk (hbox);have n3_:=Aside0.mk ((by rw [hg];exact (below_size (by repeat (first|(with_reducible first|exact HB.out|apply below_alloc|apply pw_below_drewN|apply below_drew1|refine below_set ?_ GE292.out)|exact HB.out))):w.heap.size ≤ gb293));have n4_:=Aside0.mk ((by rw [hg];exact (below_size (by repeat (first|(with_reducible first|exact HB.out|apply below_alloc|apply pw_below_drewN|apply below_drew1|refine below_set ?_ GE292.out)|exact HB.out))):w.heap.size ≤ gb293));have n5_:=Aside0.mk ((by rw [hg];exact Nat.ne_of_lt (blk_lt (g:=gb292) (o:=.cells #[.slice A0_0 l0_0.length c0_0,.slice A0_1 l0_1.length c0_1] 25 (0,0)) (by (with_reducible repeat (first|refine blk_drewN ?_ _|refine blk_drew ?_|refine blk_alloc ?_ _));exact BK292.out)):gb292 ≠ gb293));have n6_:=Aside0.mk ((by rw [hg];exact Nat.ne_of_gt (blk_lt (g:=gb292) (o:=.cells #[.slice A0_0 l0_0.length c0_0,.slice A0_1 l0_1.length c0_1] 25 (0,0)) (by (with_reducible repeat (first|refine blk_drewN ?_ _|refine blk_drew ?_|refine blk_alloc ?_ _));exact BK292.out)):gb293 ≠ gb292));clear BK292;clear HB;have BK292:=n0_;have HB:=n1_;have BK293:=n2_;have GW293:=n3_;have GE293:=n4_;have NB292_293:=n5_;have NB293_292:=n6_;clear n0_ n1_ n2_ n3_ n4_ n5_ n6_;clear hb hbox hg)))
 (try simp only [Act.put,List.setIfInBounds_toArray,List.set_cons_zero,List.set_cons_succ])
 go_cut [20] (fun v20 wc=>∃ (kq:Nat) (x20_2:Bool),v20=.bool x20_2∧Aside0 (wageofficelaw43_same.j0 kq x20_2 l0_0 l0_1 l1_0 l1_1=some r)∧Aside0 (kq ≤ k)∧Aside0 (wc.heap[gb292]? = some (.cells #[(.slice A0_0 l0_0.length c0_0),(.slice A0_1 l0_1.length c0_1)] 25 (0,0)))∧Aside0 (wc.heap[gb293]? = some (.cells #[(.slice A1_0 l1_0.length c1_0),(.slice A1_1 l1_1.length c1_1)] 25 (0,0)))∧Aside0 (Below w.heap.size w wc))
 case first =>
  have H:=HC3.out
  clear HC3
  replace H:=Option.bind_eq_some_iff.mp H
  obtain ⟨t294,A60,H⟩:=H
  replace H:(if t294=true then (wageofficelaw43_same.j0 k ((l0_1.length:Int) != (l1_1.length:Int)) l0_0 l0_1 l1_0 l1_1) else (wageofficelaw43_same.j0 k true l0_0 l0_1 l1_0 l1_1))=some r:=H
  have A6:=Aside0.mk A60
  clear A60
  by_cases c7:t294=true
  · subst c7
    have H1:(wageofficelaw43_same.j0 k ((l0_1.length:Int) != (l1_1.length:Int)) l0_0 l0_1 l1_0 l1_1)=some r:=by rw [if_pos rfl] at H;exact H
    clear H
    have H:=H1
    clear H1
    have H':=Aside0.mk H
    clear H
    have hnb8:=NB292_293.out
    have hnc8:=NB293_292.out
    have hcz9_0:w5.cell? ⟨gb292,0,none⟩=some (.slice A0_0 l0_0.length c0_0):=(blk_cell BK292.out 0).trans rfl
    have hcz9_1:w5.cell? ⟨gb292,1,none⟩=some (.slice A0_1 l0_1.length c0_1):=(blk_cell BK292.out 1).trans rfl
    have hfz9_0:=blk_frozen BK292.out 0
    have hfz9_1:=blk_frozen BK292.out 1
    have hcz10_0:w5.cell? ⟨gb293,0,none⟩=some (.slice A1_0 l1_0.length c1_0):=(blk_cell BK293.out 0).trans rfl
    have hcz10_1:w5.cell? ⟨gb293,1,none⟩=some (.slice A1_1 l1_1.length c1_1):=(blk_cell BK293.out 1).trans rfl
    have hfz10_0:=blk_frozen BK293.out 0
    have hfz10_1:=blk_frozen BK293.out 1
    go_wp2_with (first|(go_at_call 41;(with_reducible refine (wageofficeref43_Same.calls k _ _ l0_0 _ _ l1_0 true _ ?side1 ?side2 ?side3 ?side4 A6.out).mono ?_);(case side1=>repeat (first|exact (Kd.C_below HR0_0.out HB.out)|(with_reducible refine Kd.C_alloc ?_ _)|(with_reducible refine Kd.C_drewN ?_ _)|(with_reducible refine Kd.C_drew ?_)));(case side2=>exact HC0_0.out);(case side3=>repeat (first|exact (Kd.C_below HR1_0.out HB.out)|(with_reducible refine Kd.C_alloc ?_ _)|(with_reducible refine Kd.C_drewN ?_ _)|(with_reducible refine Kd.C_drew ?_)));(case side4=>exact HC1_0.out);rintro e w' ⟨rfl,⟨nd,rfl⟩⟩;(try first|exact ⟨rfl,_,World.drewN_drewN _ _ _⟩|exact ⟨rfl,_,Eq.trans (World.drewN_drewN _ _ _) (congrArg (World.drewN _) (Nat.add_assoc _ _ _))⟩)))
    repeat (go_quiet (first|(go_at_call 41;(with_reducible refine (wageofficeref43_Same.calls k _ _ l0_0 _ _ l1_0 true _ ?side1 ?side2 ?side3 ?side4 A6.out).mono ?_);(case side1=>repeat (first|exact (Kd.C_below HR0_0.out HB.out)|(with_reducible refine Kd.C_alloc ?_ _)|(with_reducible refine Kd.C_drewN ?_ _)|(with_reducible refine Kd.C_drew ?_)));(case side2=>exact HC0_0.out);(case side3=>repeat (first|exact (Kd.C_below HR1_0.out HB.out)|(with_reducible refine Kd.C_alloc ?_ _)|(with_reducible refine Kd.C_drewN ?_ _)|(with_reducible refine Kd.C_drew ?_)));(case side4=>exact HC1_0.out);rintro e w' ⟨rfl,⟨nd,rfl⟩⟩;(try first|exact ⟨rfl,_,World.drewN_drewN _ _ _⟩|exact ⟨rfl,_,Eq.trans (World.drewN_drewN _ _ _) (congrArg (World.drewN _) (Nat.add_assoc _ _ _))⟩)));try go_wp2_with (first|(go_at_call 41;(with_reducible refine (wageofficeref43_Same.calls k _ _ l0_0 _ _ l1_0 true _ ?side1 ?side2 ?side3 ?side4 A6.out).mono ?_);(case side1=>repeat (first|exact (Kd.C_below HR0_0.out HB.out)|(with_reducible refine Kd.C_alloc ?_ _)|(with_reducible refine Kd.C_drewN ?_ _)|(with_reducible refine Kd.C_drew ?_)));(case side2=>exact HC0_0.out);(case side3=>repeat (first|exact (Kd.C_below HR1_0.out HB.out)|(with_reducible refine Kd.C_alloc ?_ _)|(with_reducible refine Kd.C_drewN ?_ _)|(with_reducible refine Kd.C_drew ?_)));(case side4=>exact HC1_0.out);rintro e w' ⟨rfl,⟨nd,rfl⟩⟩;(try first|exact ⟨rfl,_,World.drewN_drewN _ _ _⟩|exact ⟨rfl,_,Eq.trans (World.drewN_drewN _ _ _) (congrArg (World.drewN _) (Nat.add_assoc _ _ _))⟩))))
    go_meet
    case rel=>exact ⟨_,(((l0_1.length:Int) != (l1_1.length:Int))),(by first|rfl|(simp;done)|(simp [*];done)),H',⟨by first|omega|exact Nat.le_refl _⟩,⟨by (with_reducible repeat (first|refine blk_drewN ?_ _|refine blk_drew ?_|refine blk_alloc ?_ _));exact BK292.out⟩,⟨by (with_reducible repeat (first|refine blk_drewN ?_ _|refine blk_drew ?_|refine blk_alloc ?_ _));exact BK293.out⟩,⟨by repeat (first|(with_reducible first|exact HB.out|apply below_alloc|apply pw_below_drewN|apply below_drew1|refine below_set ?_ GE292.out|refine below_set ?_ GE293.out)|exact HB.out)⟩⟩
  · replace c7:=Bool.eq_false_iff.mpr c7
    subst c7
    have H1:(wageofficelaw43_same.j0 k true l0_0 l0_1 l1_0 l1_1)=some r:=by rw [if_neg (show ¬ (false=true) by decide)] at H;exact H
    clear H
    have H:=H1
    clear H1
    have H':=Aside0.mk H
    clear H
    have hnb11:=NB292_293.out
    have hnc11:=NB293_292.out
    have hcz12_0:w5.cell? ⟨gb292,0,none⟩=some (.slice A0_0 l0_0.length c0_0):=(blk_cell BK292.out 0).trans rfl
    have hcz12_1:w5.cell? ⟨gb292,1,none⟩=some (.slice A0_1 l0_1.length c0_1):=(blk_cell BK292.out 1).trans rfl
    have hfz12_0:=blk_frozen BK292.out 0
    have hfz12_1:=blk_frozen BK292.out 1
    have hcz13_0:w5.cell? ⟨gb293,0,none⟩=some (.slice A1_0 l1_0.length c1_0):=(blk_cell BK293.out 0).trans rfl
    have hcz13_1:w5.cell? ⟨gb293,1,none⟩=some (.slice A1_1 l1_1.length c1_1):=(blk_cell BK293.out 1).trans rfl
    have hfz13_0:=blk_frozen BK293.out 0
    have hfz13_1:=blk_frozen BK293.out 1
    go_wp2_with (first|(go_at_call 41;(with_reducible refine (wageofficeref43_Same.calls k _ _ l0_0 _ _ l1_0 false _ ?side1 ?side2 ?side3 ?side4 A6.out).mono ?_);(case side1=>repeat (first|exact (Kd.C_below HR0_0.out HB.out)|(with_reducible refine Kd.C_alloc ?_ _)|(with_reducible refine Kd.C_drewN ?_ _)|(with_reducible refine Kd.C_drew ?_)));(case side2=>exact HC0_0.out);(case side3=>repeat (first|exact (Kd.C_below HR1_0.out HB.out)|(with_reducible refine Kd.C_alloc ?_ _)|(with_reducible refine Kd.C_drewN ?_ _)|(with_reducible refine Kd.C_drew ?_)));(case side4=>exact HC1_0.out);rintro e w' ⟨rfl,⟨nd,rfl⟩⟩;(try first|exact ⟨rfl,_,World.drewN_drewN _ _ _⟩|exact ⟨rfl,_,Eq.trans (World.drewN_drewN _ _ _) (congrArg (World.drewN _) (Nat.add_assoc _ _ _))⟩)))
    repeat (go_quiet (first|(go_at_call 41;(with_reducible refine (wageofficeref43_Same.calls k _ _ l0_0 _ _ l1_0 false _ ?side1 ?side2 ?side3 ?side4 A6.out).mono ?_);(case side1=>repeat (first|exact (Kd.C_below HR0_0.out HB.out)|(with_reducible refine Kd.C_alloc ?_ _)|(with_reducible refine Kd.C_drewN ?_ _)|(with_reducible refine Kd.C_drew ?_)));(case side2=>exact HC0_0.out);(case side3=>repeat (first|exact (Kd.C_below HR1_0.out HB.out)|(with_reducible refine Kd.C_alloc ?_ _)|(with_reducible refine Kd.C_drewN ?_ _)|(with_reducible refine Kd.C_drew ?_)));(case side4=>exact HC1_0.out);rintro e w' ⟨rfl,⟨nd,rfl⟩⟩;(try first|exact ⟨rfl,_,World.drewN_drewN _ _ _⟩|exact ⟨rfl,_,Eq.trans (World.drewN_drewN _ _ _) (congrArg (World.drewN _) (Nat.add_assoc _ _ _))⟩)));try go_wp2_with (first|(go_at_call 41;(with_reducible refine (wageofficeref43_Same.calls k _ _ l0_0 _ _ l1_0 false _ ?side1 ?side2 ?side3 ?side4 A6.out).mono ?_);(case side1=>repeat (first|exact (Kd.C_below HR0_0.out HB.out)|(with_reducible refine Kd.C_alloc ?_ _)|(with_reducible refine Kd.C_drewN ?_ _)|(with_reducible refine Kd.C_drew ?_)));(case side2=>exact HC0_0.out);(case side3=>repeat (first|exact (Kd.C_below HR1_0.out HB.out)|(with_reducible refine Kd.C_alloc ?_ _)|(with_reducible refine Kd.C_drewN ?_ _)|(with_reducible refine Kd.C_drew ?_)));(case side4=>exact HC1_0.out);rintro e w' ⟨rfl,⟨nd,rfl⟩⟩;(try first|exact ⟨rfl,_,World.drewN_drewN _ _ _⟩|exact ⟨rfl,_,Eq.trans (World.drewN_drewN _ _ _) (congrArg (World.drewN _) (Nat.add_assoc _ _ _))⟩))))
    go_meet
    case rel=>exact ⟨_,(true),(by first|rfl|(simp;done)|(simp [*];done)),H',⟨by first|omega|exact Nat.le_refl _⟩,⟨by (with_reducible repeat (first|refine blk_drewN ?_ _|refine blk_drew ?_|refine blk_alloc ?_ _));exact BK292.out⟩,⟨by (with_reducible repeat (first|refine blk_drewN ?_ _|refine blk_drew ?_|refine blk_alloc ?_ _));exact BK293.out⟩,⟨by repeat (first|(with_reducible first|exact HB.out|apply below_alloc|apply pw_below_drewN|apply below_drew1|refine below_set ?_ GE292.out|refine below_set ?_ GE293.out)|exact HB.out)⟩⟩
 case rest =>
  clear HC3
  try clear c1
  try clear p2
  try clear c3
  try clear c7
  try clear c8
  try clear c11
  try clear hcz10_0
  try clear hcz10_1
  try clear hcz12_0
  try clear hcz12_1
  try clear hcz13_0
  try clear hcz13_1
  try clear hcz9_0
  try clear hcz9_1
  try clear hfz10_0
  try clear hfz10_1
  try clear hfz12_0
  try clear hfz12_1
  try clear hfz13_0
  try clear hfz13_1
  try clear hfz9_0
  try clear hfz9_1
  obtain ⟨kq,x20_2,rfl,HA,HJ2,BK292,BK293,HB⟩:=hcut
  cases kq with
  | zero=>exact absurd HA.out (by simp [wageofficelaw43_same.j0])
  | succ kj2 =>
   have H:=HA.out
   clear HA
   simp only [wageofficelaw43_same.j0] at H
   by_cases c14:x20_2=true
   · subst c14
     have H1:(some false)=some r:=by rw [if_pos rfl] at H;exact H
     clear H
     have H:=H1
     clear H1
     obtain rfl:=Option.some.inj H
     go_wp2
     repeat (go_quiet (fail);try go_wp2)
     go_ret
     exact ⟨by first|rfl|(simp [errW_none,errW_some] <;> rfl)|(simp [*,errW_none,errW_some] <;> rfl),by repeat (first|(with_reducible first|exact HB.out|apply below_alloc|apply pw_below_drewN|apply below_drew1|refine below_set ?_ GE292.out|refine below_set ?_ GE293.out)|exact HB.out)⟩
   · replace c14:=Bool.eq_false_iff.mpr c14
     subst c14
     have H1:(wageofficelaw43_same.l0 kj2 (l0_1.length:Int) 0 l0_0 l0_1 l1_0 l1_1)=some r:=by rw [if_neg (show ¬ (false=true) by decide)] at H;exact H
     clear H
     have H:=H1
     clear H1
     have H':=Aside0.mk H
     clear H
     have hnb15:=NB292_293.out
     have hnc15:=NB293_292.out
     have hcz16_0:wc.cell? ⟨gb292,0,none⟩=some (.slice A0_0 l0_0.length c0_0):=(blk_cell BK292.out 0).trans rfl
     have hcz16_1:wc.cell? ⟨gb292,1,none⟩=some (.slice A0_1 l0_1.length c0_1):=(blk_cell BK292.out 1).trans rfl
     have hfz16_0:=blk_frozen BK292.out 0
     have hfz16_1:=blk_frozen BK292.out 1
     go_wp2
     repeat (go_quiet (fail);try go_wp2)
     go_loopg [24] kj2 (fun kq v24 w'=>∃ (x24_2:Int),v24=.int .i64 x24_2∧Aside0 (wageofficelaw43_same.l0 kq (l0_1.length:Int) x24_2 l0_0 l0_1 l1_0 l1_1=some r)∧Aside0 (kq ≤ kj2)∧Aside0 (w'.heap[gb292]? = some (.cells #[(.slice A0_0 l0_0.length c0_0),(.slice A0_1 l0_1.length c0_1)] 25 (0,0)))∧Aside0 (w'.heap[gb293]? = some (.cells #[(.slice A1_0 l1_0.length c1_0),(.slice A1_1 l1_1.length c1_1)] 25 (0,0)))∧Aside0 (Below w.heap.size w w'))
     case atStart=>exact ⟨(0),(by first|rfl|(simp;done)|(simp [*];done)),H',⟨Nat.le_refl _⟩,⟨by (with_reducible repeat (first|refine blk_drewN ?_ _|refine blk_drew ?_|refine blk_alloc ?_ _));exact BK292.out⟩,⟨by (with_reducible repeat (first|refine blk_drewN ?_ _|refine blk_drew ?_|refine blk_alloc ?_ _));exact BK293.out⟩,⟨by repeat (first|(with_reducible first|exact HB.out|apply below_alloc|apply pw_below_drewN|apply below_drew1|refine below_set ?_ GE292.out|refine below_set ?_ GE293.out)|exact HB.out)⟩⟩
     case round =>
      clear H'
      try clear c1
      try clear p2
      try clear c3
      try clear c7
      try clear c8
      try clear c11
      try clear c14
      try clear c15
      try clear hcz10_0
      try clear hcz10_1
      try clear hcz12_0
      try clear hcz12_1
      try clear hcz13_0
      try clear hcz13_1
      try clear hcz16_0
      try clear hcz16_1
      try clear hcz9_0
      try clear hcz9_1
      try clear hfz10_0
      try clear hfz10_1
      try clear hfz12_0
      try clear hfz12_1
      try clear hfz13_0
      try clear hfz13_1
      try clear hfz16_0
      try clear hfz16_1
      try clear hfz9_0
      try clear hfz9_1
      try clear p2
      obtain ⟨x24_2,rfl,HA,HK2,BK292,BK293,HB⟩:=hrel
      cases gk with
      | zero=>exact absurd HA.out (by simp [wageofficelaw43_same.l0])
      | succ k2 =>
       have H:=HA.out
       clear HA
       simp only [wageofficelaw43_same.l0] at H
       by_cases c17:x24_2 < (l0_1.length:Int)
       · rw [if_pos c17] at H
         have c17b0:decide (x24_2 < (l0_1.length:Int))=true:=decide_eq_true c17
         clear c17
         by_cases c18:0 ≤ x24_2
         · rw [if_pos c18] at H
           have c18b0:decide (0 ≤ x24_2)=true:=decide_eq_true c18
           clear c18
           by_cases c19:x24_2 < (l0_1.length:Int)
           · rw [if_pos c19] at H
             have c19b0:decide (x24_2 < (l0_1.length:Int))=true:=decide_eq_true c19
             clear c19
             by_cases c20:x24_2 < (l1_1.length:Int)
             · rw [if_pos c20] at H
               have c20b0:decide (x24_2 < (l1_1.length:Int))=true:=decide_eq_true c20
               clear c20
               by_cases c21:((rd_T45 l0_1 x24_2).f0)=((rd_T45 l1_1 x24_2).f0)
               · rw [if_pos c21] at H
                 have c21b0:(((rd_T45 l0_1 x24_2).f0) == ((rd_T45 l1_1 x24_2).f0))=true:=beq_iff_eq.mpr c21
                 have c21b1:(((rd_T45 l0_1 x24_2).f0) != ((rd_T45 l1_1 x24_2).f0))=false:=bne_eq_false_iff_eq.mpr c21
                 clear c21
                 replace H:=Option.bind_eq_some_iff.mp H
                 obtain ⟨t299,A220,H⟩:=H
                 replace H:(if t299=true then (wageofficelaw43_same.l0 k2 (l0_1.length:Int) (wrap64 (x24_2 + 1)) l0_0 l0_1 l1_0 l1_1) else (some false))=some r:=H
                 have A22:=Aside0.mk A220
                 clear A220
                 by_cases c23:t299=true
                 · subst c23
                   have H1:(wageofficelaw43_same.l0 k2 (l0_1.length:Int) (wrap64 (x24_2 + 1)) l0_0 l0_1 l1_0 l1_1)=some r:=by rw [if_pos rfl] at H;exact H
                   clear H
                   have H:=H1
                   clear H1
                   have H':=Aside0.mk H
                   clear H
                   have hnb24:=NB292_293.out
                   have hnc24:=NB293_292.out
                   have hcz25_0:wr.cell? ⟨gb292,0,none⟩=some (.slice A0_0 l0_0.length c0_0):=(blk_cell BK292.out 0).trans rfl
                   have hcz25_1:wr.cell? ⟨gb292,1,none⟩=some (.slice A0_1 l0_1.length c0_1):=(blk_cell BK292.out 1).trans rfl
                   have hfz25_0:=blk_frozen BK292.out 0
                   have hfz25_1:=blk_frozen BK292.out 1
                   have p295:0 ≤ (x24_2:Int):=of_decide_eq_true (by first|(with_reducible assumption)|assumption)
                   have q295:x24_2 < (l0_1.length:Int):=of_decide_eq_true (by first|(with_reducible assumption)|assumption)
                   obtain ⟨ad295,A295_1,c295_1,e295,hx295_0,hx295_1,hl295_1,hi295_1⟩:=at_T45 HR0_1.out x24_2 p295 q295
                   cases e295
                   replace hx295_0:=(HB.out.cell (World.block_lt_of_cell? w _ hx295_0)).trans hx295_0
                   replace hx295_1:=(HB.out.cell (World.block_lt_of_cell? w _ hx295_1)).trans hx295_1
                   have HR295_1:=Aside0.mk hi295_1
                   have HC295_1:=Aside0.mk hl295_1
                   clear hi295_1 hl295_1
                   replace p295:=eq_true p295
                   replace q295:=eq_true q295
                   have hcz26_0:wr.cell? ⟨gb293,0,none⟩=some (.slice A1_0 l1_0.length c1_0):=(blk_cell BK293.out 0).trans rfl
                   have hcz26_1:wr.cell? ⟨gb293,1,none⟩=some (.slice A1_1 l1_1.length c1_1):=(blk_cell BK293.out 1).trans rfl
                   have hfz26_0:=blk_frozen BK293.out 0
                   have hfz26_1:=blk_frozen BK293.out 1
                   have p296:0 ≤ (x24_2:Int):=of_decide_eq_true (by first|(with_reducible assumption)|assumption)
                   have q296:x24_2 < (l1_1.length:Int):=of_decide_eq_true (by first|(with_reducible assumption)|assumption)
                   obtain ⟨ad296,A296_1,c296_1,e296,hx296_0,hx296_1,hl296_1,hi296_1⟩:=at_T45 HR1_1.out x24_2 p296 q296
                   cases e296
                   replace hx296_0:=(HB.out.cell (World.block_lt_of_cell? w _ hx296_0)).trans hx296_0
                   replace hx296_1:=(HB.out.cell (World.block_lt_of_cell? w _ hx296_1)).trans hx296_1
                   have HR296_1:=Aside0.mk hi296_1
                   have HC296_1:=Aside0.mk hl296_1
                   clear hi296_1 hl296_1
                   replace p296:=eq_true p296
                   replace q296:=eq_true q296
                   have p297:0 ≤ (x24_2:Int):=of_decide_eq_true (by first|(with_reducible assumption)|assumption)
                   have q297:x24_2 < (l0_1.length:Int):=of_decide_eq_true (by first|(with_reducible assumption)|assumption)
                   obtain ⟨ad297,A297_1,c297_1,e297,hx297_0,hx297_1,hl297_1,hi297_1⟩:=at_T45 HR0_1.out x24_2 p297 q297
                   obtain rfl:ad295=ad297:=(by injection e297)
                   replace hx297_0:=(HB.out.cell (World.block_lt_of_cell? w _ hx297_0)).trans hx297_0
                   replace hx297_1:=(HB.out.cell (World.block_lt_of_cell? w _ hx297_1)).trans hx297_1
                   have HR297_1:=Aside0.mk hi297_1
                   have HC297_1:=Aside0.mk hl297_1
                   clear hi297_1 hl297_1
                   replace p297:=eq_true p297
                   replace q297:=eq_true q297
                   have ea_:=Option.some.inj (hx295_1.symm.trans hx297_1)
                   injection ea_ with ea_ en_ ec_
                   subst ea_
                   subst ec_
                   clear en_
                   have p298:0 ≤ (x24_2:Int):=of_decide_eq_true (by first|(with_reducible assumption)|assumption)
                   have q298:x24_2 < (l1_1.length:Int):=of_decide_eq_true (by first|(with_reducible assumption)|assumption)
                   obtain ⟨ad298,A298_1,c298_1,e298,hx298_0,hx298_1,hl298_1,hi298_1⟩:=at_T45 HR1_1.out x24_2 p298 q298
                   obtain rfl:ad296=ad298:=(by injection e298)
                   replace hx298_0:=(HB.out.cell (World.block_lt_of_cell? w _ hx298_0)).trans hx298_0
                   replace hx298_1:=(HB.out.cell (World.block_lt_of_cell? w _ hx298_1)).trans hx298_1
                   have HR298_1:=Aside0.mk hi298_1
                   have HC298_1:=Aside0.mk hl298_1
                   clear hi298_1 hl298_1
                   replace p298:=eq_true p298
                   replace q298:=eq_true q298
                   have ea_:=Option.some.inj (hx296_1.symm.trans hx298_1)
                   injection ea_ with ea_ en_ ec_
                   subst ea_
                   subst ec_
                   clear en_
                   go_wp2_with (first|(go_at_call 41;(with_reducible refine (wageofficeref43_Same.calls k2 _ _ ((rd_T45 l0_1 x24_2).f1) _ _ ((rd_T45 l1_1 x24_2).f1) true _ ?side1 ?side2 ?side3 ?side4 A22.out).mono ?_);(case side1=>repeat (first|exact (Kd.C_below HR297_1.out HB.out)|(with_reducible refine Kd.C_alloc ?_ _)|(with_reducible refine Kd.C_drewN ?_ _)|(with_reducible refine Kd.C_drew ?_)));(case side2=>exact HC297_1.out);(case side3=>repeat (first|exact (Kd.C_below HR298_1.out HB.out)|(with_reducible refine Kd.C_alloc ?_ _)|(with_reducible refine Kd.C_drewN ?_ _)|(with_reducible refine Kd.C_drew ?_)));(case side4=>exact HC298_1.out);rintro e w' ⟨rfl,⟨nd,rfl⟩⟩;(try first|exact ⟨rfl,_,World.drewN_drewN _ _ _⟩|exact ⟨rfl,_,Eq.trans (World.drewN_drewN _ _ _) (congrArg (World.drewN _) (Nat.add_assoc _ _ _))⟩)))
                   repeat (go_quiet (first|(go_at_call 41;(with_reducible refine (wageofficeref43_Same.calls k2 _ _ ((rd_T45 l0_1 x24_2).f1) _ _ ((rd_T45 l1_1 x24_2).f1) true _ ?side1 ?side2 ?side3 ?side4 A22.out).mono ?_);(case side1=>repeat (first|exact (Kd.C_below HR297_1.out HB.out)|(with_reducible refine Kd.C_alloc ?_ _)|(with_reducible refine Kd.C_drewN ?_ _)|(with_reducible refine Kd.C_drew ?_)));(case side2=>exact HC297_1.out);(case side3=>repeat (first|exact (Kd.C_below HR298_1.out HB.out)|(with_reducible refine Kd.C_alloc ?_ _)|(with_reducible refine Kd.C_drewN ?_ _)|(with_reducible refine Kd.C_drew ?_)));(case side4=>exact HC298_1.out);rintro e w' ⟨rfl,⟨nd,rfl⟩⟩;(try first|exact ⟨rfl,_,World.drewN_drewN _ _ _⟩|exact ⟨rfl,_,Eq.trans (World.drewN_drewN _ _ _) (congrArg (World.drewN _) (Nat.add_assoc _ _ _))⟩)));try go_wp2_with (first|(go_at_call 41;(with_reducible refine (wageofficeref43_Same.calls k2 _ _ ((rd_T45 l0_1 x24_2).f1) _ _ ((rd_T45 l1_1 x24_2).f1) true _ ?side1 ?side2 ?side3 ?side4 A22.out).mono ?_);(case side1=>repeat (first|exact (Kd.C_below HR297_1.out HB.out)|(with_reducible refine Kd.C_alloc ?_ _)|(with_reducible refine Kd.C_drewN ?_ _)|(with_reducible refine Kd.C_drew ?_)));(case side2=>exact HC297_1.out);(case side3=>repeat (first|exact (Kd.C_below HR298_1.out HB.out)|(with_reducible refine Kd.C_alloc ?_ _)|(with_reducible refine Kd.C_drewN ?_ _)|(with_reducible refine Kd.C_drew ?_)));(case side4=>exact HC298_1.out);rintro e w' ⟨rfl,⟨nd,rfl⟩⟩;(try first|exact ⟨rfl,_,World.drewN_drewN _ _ _⟩|exact ⟨rfl,_,Eq.trans (World.drewN_drewN _ _ _) (congrArg (World.drewN _) (Nat.add_assoc _ _ _))⟩))))
                   go_roundg k2
                   case measure=>have:=HJ2.out;have:=HK2.out;omega
                   case rel=>exact ⟨(wrap64 (x24_2 + 1)),(by first|rfl|(simp;done)|(simp [*];done)),H',⟨by have:=HJ2.out;have:=HK2.out;omega⟩,⟨by (with_reducible repeat (first|refine blk_drewN ?_ _|refine blk_drew ?_|refine blk_alloc ?_ _));exact BK292.out⟩,⟨by (with_reducible repeat (first|refine blk_drewN ?_ _|refine blk_drew ?_|refine blk_alloc ?_ _));exact BK293.out⟩,⟨by repeat (first|(with_reducible first|exact HB.out|apply below_alloc|apply pw_below_drewN|apply below_drew1|refine below_set ?_ GE292.out|refine below_set ?_ GE293.out)|exact HB.out)⟩⟩
                 · replace c23:=Bool.eq_false_iff.mpr c23
                   subst c23
                   have H1:(some false)=some r:=by rw [if_neg (show ¬ (false=true) by decide)] at H;exact H
                   clear H
                   have H:=H1
                   clear H1
                   obtain rfl:=Option.some.inj H
                   have hnb27:=NB292_293.out
                   have hnc27:=NB293_292.out
                   have hcz28_0:wr.cell? ⟨gb292,0,none⟩=some (.slice A0_0 l0_0.length c0_0):=(blk_cell BK292.out 0).trans rfl
                   have hcz28_1:wr.cell? ⟨gb292,1,none⟩=some (.slice A0_1 l0_1.length c0_1):=(blk_cell BK292.out 1).trans rfl
                   have hfz28_0:=blk_frozen BK292.out 0
                   have hfz28_1:=blk_frozen BK292.out 1
                   have p295:0 ≤ (x24_2:Int):=of_decide_eq_true (by first|(with_reducible assumption)|assumption)
                   have q295:x24_2 < (l0_1.length:Int):=of_decide_eq_true (by first|(with_reducible assumption)|assumption)
                   obtain ⟨ad295,A295_1,c295_1,e295,hx295_0,hx295_1,hl295_1,hi295_1⟩:=at_T45 HR0_1.out x24_2 p295 q295
                   cases e295
                   replace hx295_0:=(HB.out.cell (World.block_lt_of_cell? w _ hx295_0)).trans hx295_0
                   replace hx295_1:=(HB.out.cell (World.block_lt_of_cell? w _ hx295_1)).trans hx295_1
                   have HR295_1:=Aside0.mk hi295_1
                   have HC295_1:=Aside0.mk hl295_1
                   clear hi295_1 hl295_1
                   replace p295:=eq_true p295
                   replace q295:=eq_true q295
                   have hcz29_0:wr.cell? ⟨gb293,0,none⟩=some (.slice A1_0 l1_0.length c1_0):=(blk_cell BK293.out 0).trans rfl
                   have hcz29_1:wr.cell? ⟨gb293,1,none⟩=some (.slice A1_1 l1_1.length c1_1):=(blk_cell BK293.out 1).trans rfl
                   have hfz29_0:=blk_frozen BK293.out 0
                   have hfz29_1:=blk_frozen BK293.out 1
                   have p296:0 ≤ (x24_2:Int):=of_decide_eq_true (by first|(with_reducible assumption)|assumption)
                   have q296:x24_2 < (l1_1.length:Int):=of_decide_eq_true (by first|(with_reducible assumption)|assumption)
                   obtain ⟨ad296,A296_1,c296_1,e296,hx296_0,hx296_1,hl296_1,hi296_1⟩:=at_T45 HR1_1.out x24_2 p296 q296
                   cases e296
                   replace hx296_0:=(HB.out.cell (World.block_lt_of_cell? w _ hx296_0)).trans hx296_0
                   replace hx296_1:=(HB.out.cell (World.block_lt_of_cell? w _ hx296_1)).trans hx296_1
                   have HR296_1:=Aside0.mk hi296_1
                   have HC296_1:=Aside0.mk hl296_1
                   clear hi296_1 hl296_1
                   replace p296:=eq_true p296
                   replace q296:=eq_true q296
                   have p297:0 ≤ (x24_2:Int):=of_decide_eq_true (by first|(with_reducible assumption)|assumption)
                   have q297:x24_2 < (l0_1.length:Int):=of_decide_eq_true (by first|(with_reducible assumption)|assumption)
                   obtain ⟨ad297,A297_1,c297_1,e297,hx297_0,hx297_1,hl297_1,hi297_1⟩:=at_T45 HR0_1.out x24_2 p297 q297
                   obtain rfl:ad295=ad297:=(by injection e297)
                   replace hx297_0:=(HB.out.cell (World.block_lt_of_cell? w _ hx297_0)).trans hx297_0
                   replace hx297_1:=(HB.out.cell (World.block_lt_of_cell? w _ hx297_1)).trans hx297_1
                   have HR297_1:=Aside0.mk hi297_1
                   have HC297_1:=Aside0.mk hl297_1
                   clear hi297_1 hl297_1
                   replace p297:=eq_true p297
                   replace q297:=eq_true q297
                   have ea_:=Option.some.inj (hx295_1.symm.trans hx297_1)
                   injection ea_ with ea_ en_ ec_
                   subst ea_
                   subst ec_
                   clear en_
                   have p298:0 ≤ (x24_2:Int):=of_decide_eq_true (by first|(with_reducible assumption)|assumption)
                   have q298:x24_2 < (l1_1.length:Int):=of_decide_eq_true (by first|(with_reducible assumption)|assumption)
                   obtain ⟨ad298,A298_1,c298_1,e298,hx298_0,hx298_1,hl298_1,hi298_1⟩:=at_T45 HR1_1.out x24_2 p298 q298
                   obtain rfl:ad296=ad298:=(by injection e298)
                   replace hx298_0:=(HB.out.cell (World.block_lt_of_cell? w _ hx298_0)).trans hx298_0
                   replace hx298_1:=(HB.out.cell (World.block_lt_of_cell? w _ hx298_1)).trans hx298_1
                   have HR298_1:=Aside0.mk hi298_1
                   have HC298_1:=Aside0.mk hl298_1
                   clear hi298_1 hl298_1
                   replace p298:=eq_true p298
                   replace q298:=eq_true q298
                   have ea_:=Option.some.inj (hx296_1.symm.trans hx298_1)
                   injection ea_ with ea_ en_ ec_
                   subst ea_
                   subst ec_
                   clear en_
                   go_wp2_with (first|(go_at_call 41;(with_reducible refine (wageofficeref43_Same.calls k2 _ _ ((rd_T45 l0_1 x24_2).f1) _ _ ((rd_T45 l1_1 x24_2).f1) false _ ?side1 ?side2 ?side3 ?side4 A22.out).mono ?_);(case side1=>repeat (first|exact (Kd.C_below HR297_1.out HB.out)|(with_reducible refine Kd.C_alloc ?_ _)|(with_reducible refine Kd.C_drewN ?_ _)|(with_reducible refine Kd.C_drew ?_)));(case side2=>exact HC297_1.out);(case side3=>repeat (first|exact (Kd.C_below HR298_1.out HB.out)|(with_reducible refine Kd.C_alloc ?_ _)|(with_reducible refine Kd.C_drewN ?_ _)|(with_reducible refine Kd.C_drew ?_)));(case side4=>exact HC298_1.out);rintro e w' ⟨rfl,⟨nd,rfl⟩⟩;(try first|exact ⟨rfl,_,World.drewN_drewN _ _ _⟩|exact ⟨rfl,_,Eq.trans (World.drewN_drewN _ _ _) (congrArg (World.drewN _) (Nat.add_assoc _ _ _))⟩)))
                   repeat (go_quiet (first|(go_at_call 41;(with_reducible refine (wageofficeref43_Same.calls k2 _ _ ((rd_T45 l0_1 x24_2).f1) _ _ ((rd_T45 l1_1 x24_2).f1) false _ ?side1 ?side2 ?side3 ?side4 A22.out).mono ?_);(case side1=>repeat (first|exact (Kd.C_below HR297_1.out HB.out)|(with_reducible refine Kd.C_alloc ?_ _)|(with_reducible refine Kd.C_drewN ?_ _)|(with_reducible refine Kd.C_drew ?_)));(case side2=>exact HC297_1.out);(case side3=>repeat (first|exact (Kd.C_below HR298_1.out HB.out)|(with_reducible refine Kd.C_alloc ?_ _)|(with_reducible refine Kd.C_drewN ?_ _)|(with_reducible refine Kd.C_drew ?_)));(case side4=>exact HC298_1.out);rintro e w' ⟨rfl,⟨nd,rfl⟩⟩;(try first|exact ⟨rfl,_,World.drewN_drewN _ _ _⟩|exact ⟨rfl,_,Eq.trans (World.drewN_drewN _ _ _) (congrArg (World.drewN _) (Nat.add_assoc _ _ _))⟩)));try go_wp2_with (first|(go_at_call 41;(with_reducible refine (wageofficeref43_Same.calls k2 _ _ ((rd_T45 l0_1 x24_2).f1) _ _ ((rd_T45 l1_1 x24_2).f1) false _ ?side1 ?side2 ?side3 ?side4 A22.out).mono ?_);(case side1=>repeat (first|exact (Kd.C_below HR297_1.out HB.out)|(with_reducible refine Kd.C_alloc ?_ _)|(with_reducible refine Kd.C_drewN ?_ _)|(with_reducible refine Kd.C_drew ?_)));(case side2=>exact HC297_1.out);(case side3=>repeat (first|exact (Kd.C_below HR298_1.out HB.out)|(with_reducible refine Kd.C_alloc ?_ _)|(with_reducible refine Kd.C_drewN ?_ _)|(with_reducible refine Kd.C_drew ?_)));(case side4=>exact HC298_1.out);rintro e w' ⟨rfl,⟨nd,rfl⟩⟩;(try first|exact ⟨rfl,_,World.drewN_drewN _ _ _⟩|exact ⟨rfl,_,Eq.trans (World.drewN_drewN _ _ _) (congrArg (World.drewN _) (Nat.add_assoc _ _ _))⟩))))
                   go_ret
                   exact ⟨by first|rfl|(simp [errW_none,errW_some] <;> rfl)|(simp [*,errW_none,errW_some] <;> rfl),by repeat (first|(with_reducible first|exact HB.out|apply below_alloc|apply pw_below_drewN|apply below_drew1|refine below_set ?_ GE292.out|refine below_set ?_ GE293.out)|exact HB.out)⟩
               · rw [if_neg c21] at H
                 have c21b0:(((rd_T45 l0_1 x24_2).f0) == ((rd_T45 l1_1 x24_2).f0))=false:=beq_eq_false_iff_ne.mpr c21
                 have c21b1:(((rd_T45 l0_1 x24_2).f0) != ((rd_T45 l1_1 x24_2).f0))=true:=bne_iff_ne.mpr c21
                 obtain rfl:=Option.some.inj H
                 have hnb30:=NB292_293.out
                 have hnc30:=NB293_292.out
                 have hcz31_0:wr.cell? ⟨gb292,0,none⟩=some (.slice A0_0 l0_0.length c0_0):=(blk_cell BK292.out 0).trans rfl
                 have hcz31_1:wr.cell? ⟨gb292,1,none⟩=some (.slice A0_1 l0_1.length c0_1):=(blk_cell BK292.out 1).trans rfl
                 have hfz31_0:=blk_frozen BK292.out 0
                 have hfz31_1:=blk_frozen BK292.out 1
                 have p295:0 ≤ (x24_2:Int):=of_decide_eq_true (by first|(with_reducible assumption)|assumption)
                 have q295:x24_2 < (l0_1.length:Int):=of_decide_eq_true (by first|(with_reducible assumption)|assumption)
                 obtain ⟨ad295,A295_1,c295_1,e295,hx295_0,hx295_1,hl295_1,hi295_1⟩:=at_T45 HR0_1.out x24_2 p295 q295
                 cases e295
                 replace hx295_0:=(HB.out.cell (World.block_lt_of_cell? w _ hx295_0)).trans hx295_0
                 replace hx295_1:=(HB.out.cell (World.block_lt_of_cell? w _ hx295_1)).trans hx295_1
                 have HR295_1:=Aside0.mk hi295_1
                 have HC295_1:=Aside0.mk hl295_1
                 clear hi295_1 hl295_1
                 replace p295:=eq_true p295
                 replace q295:=eq_true q295
                 have hcz32_0:wr.cell? ⟨gb293,0,none⟩=some (.slice A1_0 l1_0.length c1_0):=(blk_cell BK293.out 0).trans rfl
                 have hcz32_1:wr.cell? ⟨gb293,1,none⟩=some (.slice A1_1 l1_1.length c1_1):=(blk_cell BK293.out 1).trans rfl
                 have hfz32_0:=blk_frozen BK293.out 0
                 have hfz32_1:=blk_frozen BK293.out 1
                 have p296:0 ≤ (x24_2:Int):=of_decide_eq_true (by first|(with_reducible assumption)|assumption)
                 have q296:x24_2 < (l1_1.length:Int):=of_decide_eq_true (by first|(with_reducible assumption)|assumption)
                 obtain ⟨ad296,A296_1,c296_1,e296,hx296_0,hx296_1,hl296_1,hi296_1⟩:=at_T45 HR1_1.out x24_2 p296 q296
                 cases e296
                 replace hx296_0:=(HB.out.cell (World.block_lt_of_cell? w _ hx296_0)).trans hx296_0
                 replace hx296_1:=(HB.out.cell (World.block_lt_of_cell? w _ hx296_1)).trans hx296_1
                 have HR296_1:=Aside0.mk hi296_1
                 have HC296_1:=Aside0.mk hl296_1
                 clear hi296_1 hl296_1
                 replace p296:=eq_true p296
                 replace q296:=eq_true q296
                 go_wp2
                 repeat (go_quiet (fail);try go_wp2)
                 go_ret
                 exact ⟨by first|rfl|(simp [errW_none,errW_some] <;> rfl)|(simp [*,errW_none,errW_some] <;> rfl),by repeat (first|(with_reducible first|exact HB.out|apply below_alloc|apply pw_below_drewN|apply below_drew1|refine below_set ?_ GE292.out|refine below_set ?_ GE293.out)|exact HB.out)⟩
             · rw [if_neg c20] at H
               exact absurd H (by simp)
           · rw [if_neg c19] at H
             exact absurd H (by simp)
         · rw [if_neg c18] at H
           exact absurd H (by simp)
       · rw [if_neg c17] at H
         have c17b0:decide (x24_2 < (l0_1.length:Int))=false:=decide_eq_false c17
         clear c17
         obtain rfl:=Option.some.inj H
         go_wp2
         repeat (go_quiet (fail);try go_wp2)
         go_ret
         exact ⟨by first|rfl|(simp [errW_none,errW_some] <;> rfl)|(simp [*,errW_none,errW_some] <;> rfl),by repeat (first|(with_reducible first|exact HB.out|apply below_alloc|apply pw_below_drewN|apply below_drew1|refine below_set ?_ GE292.out|refine below_set ?_ GE293.out)|exact HB.out)⟩
def wageofficeref43_SameAll.l0:Nat→List (List Int)→List (List Int)→Int→Option (Bool)
 | 0,_,_,_=>none
 | k + 1,x0,x1,x5=>if x5 < (x0.length:Int) then (if 0 ≤ x5 then (if x5 < (x1.length:Int) then ((wageofficeref43_Same.f k (rd_L2 x0 x5) (rd_L2 x1 x5)).bind fun t302=>(if t302=true then (wageofficeref43_SameAll.l0 k x0 x1 (wrap64 (x5 + 1))) else (some false))) else (none)) else (none)) else (some true)
def wageofficeref43_SameAll.f (k:Nat) (l0:List (List Int)) (l1:List (List Int)):Option (Bool):=if (l0.length:Int)=(l1.length:Int) then (wageofficeref43_SameAll.l0 k l0 l1 0) else (some false)
set_option maxHeartbeats 8000000 in
set_option maxRecDepth 100000 in
theorem wageofficeref43_SameAll.calls (k:Nat) (A0:Option Addr) (c0:Nat) (l0:List (List Int)) (A1:Option Addr) (c1:Nat) (l1:List (List Int)) (r:Bool) (w:World) (hr0:Kd.C (Kd.slice 5 (Kd.int .u8)) w A0 l0.length l0) (hc0:l0.length ≤ c0) (hr1:Kd.C (Kd.slice 5 (Kd.int .u8)) w A1 l1.length l1) (hc1:l1.length ≤ c1) (h:wageofficeref43_SameAll.f k l0 l1=some r) :
 Calls Try.prog 39 #[.slice A0 l0.length c0,.slice A1 l1.length c1] w fun e w'=>e=.returned (.bool r)∧Drawn0 w w':=by
 have HR0:=Aside0.mk hr0
 have HC0:=Aside0.mk hc0
 clear hr0 hc0
 have HR1:=Aside0.mk hr1
 have HC1:=Aside0.mk hc1
 clear hr1 hc1
 have H:(if (l0.length:Int)=(l1.length:Int) then (wageofficeref43_SameAll.l0 k l0 l1 0) else (some false))=some r:=h
 clear h
 by_cases c3:(l0.length:Int)=(l1.length:Int)
 · rw [if_pos c3] at H
   have c3b0:((l0.length:Int) == (l1.length:Int))=true:=beq_iff_eq.mpr c3
   have c3b1:((l0.length:Int) != (l1.length:Int))=false:=bne_eq_false_iff_eq.mpr c3
   have c3b2:(l0.length == l1.length)=true:=by first|simpa using c3|(simp at c3 ⊢;omega)
   clear c3
   have H':=Aside0.mk H
   clear H
   go_enter Try.func39,Try.ntmps39
   go_wp2
   repeat (go_quiet (fail);try go_wp2)
   go_loopg [5] k (fun kq v5 w'=>∃ (x5_1:Int),v5=.int .i64 x5_1∧Aside0 (wageofficeref43_SameAll.l0 kq l0 l1 x5_1=some r)∧Aside0 (kq ≤ k)∧Drawn0 w w')
   case atStart=>exact ⟨(0),(by first|rfl|(simp;done)|(simp [*];done)),H',⟨Nat.le_refl _⟩,by repeat (first|exact Drawn0.refl _|apply Drawn0.step)⟩
   case round =>
    clear H'
    try clear c1
    try clear p2
    try clear c3
    try clear c3b0
    try clear c3b1
    try clear c3b2
    obtain ⟨x5_1,rfl,HA,HK1,⟨m1,rfl⟩⟩:=hrel
    cases gk with
    | zero=>exact absurd HA.out (by simp [wageofficeref43_SameAll.l0])
    | succ k1 =>
     have H:=HA.out
     clear HA
     simp only [wageofficeref43_SameAll.l0] at H
     by_cases c4:x5_1 < (l0.length:Int)
     · rw [if_pos c4] at H
       have c4b0:decide (x5_1 < (l0.length:Int))=true:=decide_eq_true c4
       clear c4
       by_cases c5:0 ≤ x5_1
       · rw [if_pos c5] at H
         have c5b0:decide (0 ≤ x5_1)=true:=decide_eq_true c5
         clear c5
         by_cases c6:x5_1 < (l1.length:Int)
         · rw [if_pos c6] at H
           have c6b0:decide (x5_1 < (l1.length:Int))=true:=decide_eq_true c6
           clear c6
           replace H:=Option.bind_eq_some_iff.mp H
           obtain ⟨t302,A70,H⟩:=H
           replace H:(if t302=true then (wageofficeref43_SameAll.l0 k1 l0 l1 (wrap64 (x5_1 + 1))) else (some false))=some r:=H
           have A7:=Aside0.mk A70
           clear A70
           by_cases c8:t302=true
           · subst c8
             have H1:(wageofficeref43_SameAll.l0 k1 l0 l1 (wrap64 (x5_1 + 1)))=some r:=by rw [if_pos rfl] at H;exact H
             clear H
             have H:=H1
             clear H1
             have H':=Aside0.mk H
             clear H
             have p300:0 ≤ (x5_1:Int):=of_decide_eq_true (by first|(with_reducible assumption)|assumption)
             have q300:x5_1 < (l0.length:Int):=of_decide_eq_true (by first|(with_reducible assumption)|assumption)
             obtain ⟨ad300,A300_0,c300_0,e300,hx300_0,hl300_0,hi300_0⟩:=at_L2 HR0.out x5_1 p300 q300
             cases e300
             have HR300_0:=Aside0.mk hi300_0
             have HC300_0:=Aside0.mk hl300_0
             clear hi300_0 hl300_0
             replace p300:=eq_true p300
             replace q300:=eq_true q300
             have p301:0 ≤ (x5_1:Int):=of_decide_eq_true (by first|(with_reducible assumption)|assumption)
             have q301:x5_1 < (l1.length:Int):=of_decide_eq_true (by first|(with_reducible assumption)|assumption)
             obtain ⟨ad301,A301_0,c301_0,e301,hx301_0,hl301_0,hi301_0⟩:=at_L2 HR1.out x5_1 p301 q301
             cases e301
             have HR301_0:=Aside0.mk hi301_0
             have HC301_0:=Aside0.mk hl301_0
             clear hi301_0 hl301_0
             replace p301:=eq_true p301
             replace q301:=eq_true q301
             go_wp2_with (first|(go_at_call 41;(with_reducible refine (wageofficeref43_Same.calls k1 _ _ (rd_L2 l0 x5_1) _ _ (rd_L2 l1 x5_1) true _ ?side1 ?side2 ?side3 ?side4 A7.out).mono ?_);(case side1=>repeat (first|exact HR300_0.out|(with_reducible refine Kd.C_alloc ?_ _)|(with_reducible refine Kd.C_drewN ?_ _)|(with_reducible refine Kd.C_drew ?_)));(case side2=>exact HC300_0.out);(case side3=>repeat (first|exact HR301_0.out|(with_reducible refine Kd.C_alloc ?_ _)|(with_reducible refine Kd.C_drewN ?_ _)|(with_reducible refine Kd.C_drew ?_)));(case side4=>exact HC301_0.out);rintro e w' ⟨rfl,⟨nd,rfl⟩⟩;(try first|exact ⟨rfl,_,World.drewN_drewN _ _ _⟩|exact ⟨rfl,_,Eq.trans (World.drewN_drewN _ _ _) (congrArg (World.drewN _) (Nat.add_assoc _ _ _))⟩)))
             repeat (go_quiet (first|(go_at_call 41;(with_reducible refine (wageofficeref43_Same.calls k1 _ _ (rd_L2 l0 x5_1) _ _ (rd_L2 l1 x5_1) true _ ?side1 ?side2 ?side3 ?side4 A7.out).mono ?_);(case side1=>repeat (first|exact HR300_0.out|(with_reducible refine Kd.C_alloc ?_ _)|(with_reducible refine Kd.C_drewN ?_ _)|(with_reducible refine Kd.C_drew ?_)));(case side2=>exact HC300_0.out);(case side3=>repeat (first|exact HR301_0.out|(with_reducible refine Kd.C_alloc ?_ _)|(with_reducible refine Kd.C_drewN ?_ _)|(with_reducible refine Kd.C_drew ?_)));(case side4=>exact HC301_0.out);rintro e w' ⟨rfl,⟨nd,rfl⟩⟩;(try first|exact ⟨rfl,_,World.drewN_drewN _ _ _⟩|exact ⟨rfl,_,Eq.trans (World.drewN_drewN _ _ _) (congrArg (World.drewN _) (Nat.add_assoc _ _ _))⟩)));try go_wp2_with (first|(go_at_call 41;(with_reducible refine (wageofficeref43_Same.calls k1 _ _ (rd_L2 l0 x5_1) _ _ (rd_L2 l1 x5_1) true _ ?side1 ?side2 ?side3 ?side4 A7.out).mono ?_);(case side1=>repeat (first|exact HR300_0.out|(with_reducible refine Kd.C_alloc ?_ _)|(with_reducible refine Kd.C_drewN ?_ _)|(with_reducible refine Kd.C_drew ?_)));(case side2=>exact HC300_0.out);(case side3=>repeat (first|exact HR301_0.out|(with_reducible refine Kd.C_alloc ?_ _)|(with_reducible refine Kd.C_drewN ?_ _)|(with_reducible refine Kd.C_drew ?_)));(case side4=>exact HC301_0.out);rintro e w' ⟨rfl,⟨nd,rfl⟩⟩;(try first|exact ⟨rfl,_,World.drewN_drewN _ _ _⟩|exact ⟨rfl,_,Eq.trans (World.drewN_drewN _ _ _) (congrArg (World.drewN _) (Nat.add_assoc _ _ _))⟩))))
             go_roundg k1
             case measure=>have:=HK1.out;omega
             case rel=>exact ⟨(wrap64 (x5_1 + 1)),(by first|rfl|(simp;done)|(simp [*];done)),H',⟨by have:=HK1.out;omega⟩,by repeat (first|exact Drawn0.refl _|apply Drawn0.step)⟩
           · replace c8:=Bool.eq_false_iff.mpr c8
             subst c8
             have H1:(some false)=some r:=by rw [if_neg (show ¬ (false=true) by decide)] at H;exact H
             clear H
             have H:=H1
             clear H1
             obtain rfl:=Option.some.inj H
             have p300:0 ≤ (x5_1:Int):=of_decide_eq_true (by first|(with_reducible assumption)|assumption)
             have q300:x5_1 < (l0.length:Int):=of_decide_eq_true (by first|(with_reducible assumption)|assumption)
             obtain ⟨ad300,A300_0,c300_0,e300,hx300_0,hl300_0,hi300_0⟩:=at_L2 HR0.out x5_1 p300 q300
             cases e300
             have HR300_0:=Aside0.mk hi300_0
             have HC300_0:=Aside0.mk hl300_0
             clear hi300_0 hl300_0
             replace p300:=eq_true p300
             replace q300:=eq_true q300
             have p301:0 ≤ (x5_1:Int):=of_decide_eq_true (by first|(with_reducible assumption)|assumption)
             have q301:x5_1 < (l1.length:Int):=of_decide_eq_true (by first|(with_reducible assumption)|assumption)
             obtain ⟨ad301,A301_0,c301_0,e301,hx301_0,hl301_0,hi301_0⟩:=at_L2 HR1.out x5_1 p301 q301
             cases e301
             have HR301_0:=Aside0.mk hi301_0
             have HC301_0:=Aside0.mk hl301_0
             clear hi301_0 hl301_0
             replace p301:=eq_true p301
             replace q301:=eq_true q301
             go_wp2_with (first|(go_at_call 41;(with_reducible refine (wageofficeref43_Same.calls k1 _ _ (rd_L2 l0 x5_1) _ _ (rd_L2 l1 x5_1) false _ ?side1 ?side2 ?side3 ?side4 A7.out).mono ?_);(case side1=>repeat (first|exact HR300_0.out|(with_reducible refine Kd.C_alloc ?_ _)|(with_reducible refine Kd.C_drewN ?_ _)|(with_reducible refine Kd.C_drew ?_)));(case side2=>exact HC300_0.out);(case side3=>repeat (first|exact HR301_0.out|(with_reducible refine Kd.C_alloc ?_ _)|(with_reducible refine Kd.C_drewN ?_ _)|(with_reducible refine Kd.C_drew ?_)));(case side4=>exact HC301_0.out);rintro e w' ⟨rfl,⟨nd,rfl⟩⟩;(try first|exact ⟨rfl,_,World.drewN_drewN _ _ _⟩|exact ⟨rfl,_,Eq.trans (World.drewN_drewN _ _ _) (congrArg (World.drewN _) (Nat.add_assoc _ _ _))⟩)))
             repeat (go_quiet (first|(go_at_call 41;(with_reducible refine (wageofficeref43_Same.calls k1 _ _ (rd_L2 l0 x5_1) _ _ (rd_L2 l1 x5_1) false _ ?side1 ?side2 ?side3 ?side4 A7.out).mono ?_);(case side1=>repeat (first|exact HR300_0.out|(with_reducible refine Kd.C_alloc ?_ _)|(with_reducible refine Kd.C_drewN ?_ _)|(with_reducible refine Kd.C_drew ?_)));(case side2=>exact HC300_0.out);(case side3=>repeat (first|exact HR301_0.out|(with_reducible refine Kd.C_alloc ?_ _)|(with_reducible refine Kd.C_drewN ?_ _)|(with_reducible refine Kd.C_drew ?_)));(case side4=>exact HC301_0.out);rintro e w' ⟨rfl,⟨nd,rfl⟩⟩;(try first|exact ⟨rfl,_,World.drewN_drewN _ _ _⟩|exact ⟨rfl,_,Eq.trans (World.drewN_drewN _ _ _) (congrArg (World.drewN _) (Nat.add_assoc _ _ _))⟩)));try go_wp2_with (first|(go_at_call 41;(with_reducible refine (wageofficeref43_Same.calls k1 _ _ (rd_L2 l0 x5_1) _ _ (rd_L2 l1 x5_1) false _ ?side1 ?side2 ?side3 ?side4 A7.out).mono ?_);(case side1=>repeat (first|exact HR300_0.out|(with_reducible refine Kd.C_alloc ?_ _)|(with_reducible refine Kd.C_drewN ?_ _)|(with_reducible refine Kd.C_drew ?_)));(case side2=>exact HC300_0.out);(case side3=>repeat (first|exact HR301_0.out|(with_reducible refine Kd.C_alloc ?_ _)|(with_reducible refine Kd.C_drewN ?_ _)|(with_reducible refine Kd.C_drew ?_)));(case side4=>exact HC301_0.out);rintro e w' ⟨rfl,⟨nd,rfl⟩⟩;(try first|exact ⟨rfl,_,World.drewN_drewN _ _ _⟩|exact ⟨rfl,_,Eq.trans (World.drewN_drewN _ _ _) (congrArg (World.drewN _) (Nat.add_assoc _ _ _))⟩))))
             go_ret
             exact ⟨by first|rfl|(simp;done)|(simp [*];done),by repeat (first|exact Drawn0.refl _|apply Drawn0.step)⟩
         · rw [if_neg c6] at H
           exact absurd H (by simp)
       · rw [if_neg c5] at H
         exact absurd H (by simp)
     · rw [if_neg c4] at H
       have c4b0:decide (x5_1 < (l0.length:Int))=false:=decide_eq_false c4
       clear c4
       obtain rfl:=Option.some.inj H
       go_wp2
       repeat (go_quiet (fail);try go_wp2)
       go_ret
       exact ⟨by first|rfl|(simp;done)|(simp [*];done),by repeat (first|exact Drawn0.refl _|apply Drawn0.step)⟩
 · rw [if_neg c3] at H
   have c3b0:((l0.length:Int) == (l1.length:Int))=false:=beq_eq_false_iff_ne.mpr c3
   have c3b1:((l0.length:Int) != (l1.length:Int))=true:=bne_iff_ne.mpr c3
   have c3b2:(l0.length == l1.length)=false:=by first|simpa using c3|(simp at c3 ⊢;omega)
   obtain rfl:=Option.some.inj H
   go_enter Try.func39,Try.ntmps39
   go_wp2
   repeat (go_quiet (fail);try go_wp2)
   go_ret
   exact ⟨by first|rfl|(simp;done)|(simp [*];done),by repeat (first|exact Drawn0.refl _|apply Drawn0.step)⟩
end Go.Proofs.Ytfpdmlhknddffaa.Dk
end
section
namespace Go.Proofs.Ytfpdmlhknddffaa.Dk
open Go.RowKit Go.Proofs.YtfpdmlhknddffaaW.PrintWords Go.Proofs.YtfpdmlhknddffaaW.PrintLast Go.Proofs.YtfpdmlhknddffaaW.PrintMore
attribute [local go_sem] field25 field25b max2_int min2_int max_two min_two max_three min_three max_four min_four
set_option linter.unusedVariables false
set_option linter.unusedSimpArgs false
end Go.Proofs.Ytfpdmlhknddffaa.Dk
end
section
namespace Go.Proofs.Ytfpdmlhknddffaa.Dk
open Go.RowKit Go.Proofs.YtfpdmlhknddffaaW.PrintWords Go.Proofs.YtfpdmlhknddffaaW.PrintLast Go.Proofs.YtfpdmlhknddffaaW.PrintMore
set_option linter.unusedVariables false
theorem applyN_app (f:Nat→Int) (l1 m:List S45) (l0:List Int):∀ n,n ≤ l1.length→applyN f (l1 ++ m) l0 n=applyN f l1 l0 n:=by
 intro n
 induction n with
 | zero=>intro _;rfl
 | succ n ih =>
  intro h
  have e:(l1 ++ m).getD n z45=l1.getD n z45:=by simp only [List.getD_eq_getElem?_getD];rw [List.getElem?_append_left (by omega)]
  simp only [applyN]
  rw [ih (by omega),e]
theorem sync_len (l0:List Int) (l1:List S45) (hv:validB l0 l1=true):(syncL l0 l1).length=l0.length:=by
 unfold syncL applyL
 rw [if_pos hv]
 exact applyN_length _ _ _ hv _ (Nat.le_refl _)
theorem keptN_all (n:Nat):keptN (n:Int) n=n:=by unfold keptN;omega
theorem valid_snoc (l0:List Int) (l1:List S45) (a:Int) (l2:List Int) (hv:validB l0 l1=true) (hp:isPartB l0.length a l2.length=true) (h64:l1.length ≠ 64):validB l0 (l1 ++ [⟨a,l2⟩])=true:=by
 obtain ⟨h1,h2,h3⟩:=(validB_iff _ _).1 hv
 obtain ⟨p1,p2,p3,p4⟩:=(isPartB_iff _ _ _).1 hp
 refine (validB_iff _ _).2 ⟨h1,by simp;omega,fun x hx => ?_⟩
 rcases List.mem_append.1 hx with hx|hx
 · exact h3 x hx
 · simp at hx
   subst hx
   exact ⟨p1,by show a + (l2.length:Int) ≤ l0.length;omega⟩
theorem sync_snoc (l0:List Int) (l1:List S45) (a:Int) (l2:List Int) (hv:validB l0 l1=true) (hv2:validB l0 (l1 ++ [⟨a,l2⟩])=true):syncL l0 (l1 ++ [⟨a,l2⟩])=splice (syncL l0 l1) a.toNat l2:=by
 unfold syncL applyL
 rw [if_pos hv,if_pos hv2]
 have e:(l1 ++ [(⟨a,l2⟩:S45)]).length=l1.length + 1:=by simp
 rw [e]
 simp only [applyN]
 rw [applyN_app _ _ _ _ _ (Nat.le_refl _)]
 have e2:(l1 ++ [(⟨a,l2⟩:S45)]).getD l1.length z45=⟨a,l2⟩:=by simp [List.getD_eq_getElem?_getD]
 have e3:wholeK (l1 ++ [(⟨a,l2⟩:S45)]) l1.length=(l2.length:Int):=by unfold wholeK;rw [e2]
 rw [e2,e3]
 show splice _ a.toNat (l2.take (keptN (l2.length:Int) l2.length))=_
 rw [keptN_all,List.take_length]
 congr 1
 refine applyN_congr _ _ _ _ _ (fun i hi => ?_)
 unfold wholeK
 simp only [List.getD_eq_getElem?_getD]
 rw [List.getElem?_append_left hi]
theorem part_whole (n:Nat):isPartB (n:Int) 0 (n:Int)=true:=(isPartB_iff _ _ _).2 (by omega)
end Go.Proofs.Ytfpdmlhknddffaa.Dk
end
section
namespace Go.Proofs.Ytfpdmlhknddffaa.Dk
open Go.RowKit Go.Proofs.YtfpdmlhknddffaaW.PrintWords Go.Proofs.YtfpdmlhknddffaaW.PrintLast Go.Proofs.YtfpdmlhknddffaaW.PrintMore
set_option linter.unusedVariables false
end Go.Proofs.Ytfpdmlhknddffaa.Dk
end
section
namespace Go.Proofs.Ytfpdmlhknddffaa.Dk
open Go.RowKit Go.Proofs.YtfpdmlhknddffaaW.PrintWords Go.Proofs.YtfpdmlhknddffaaW.PrintLast Go.Proofs.YtfpdmlhknddffaaW.PrintMore
set_option linter.unusedVariables false
def apart (x y:S45):Prop:=y.f0 + (y.f1.length:Int) ≤ x.f0∨x.f0 + (x.f1.length:Int) ≤ y.f0
end Go.Proofs.Ytfpdmlhknddffaa.Dk
end
section
namespace Go.Proofs.Ytfpdmlhknddffaa.Dk
open Go.RowKit Go.Proofs.YtfpdmlhknddffaaW.PrintWords Go.Proofs.YtfpdmlhknddffaaW.PrintLast Go.Proofs.YtfpdmlhknddffaaW.PrintMore
set_option linter.unusedVariables false
theorem kept_at {k:IntKind} {w:World} {A:Option Addr} {xs:List Int} (h:Kd.C (Kd.int k) w A xs.length xs) (hn:0 < xs.length):∃ ad,A=some ad∧∀ i,i < xs.length→w.cell? (ad.add i)=some (.int k (xs.getD i 0)):=by
 obtain ⟨ad,e,hc⟩:=h.2.2 hn
 refine ⟨ad,e,fun i hi => ?_⟩
 obtain ⟨c,hl,hK,hcell⟩:=hc i _ (List.getElem?_eq_getElem hi)
 have hK2:c=[.int k xs[i]]:=hK
 subst hK2
 have h0:w.cell? (ad.add (i * 1 + 0))=some (.int k xs[i]):=hcell 0 _ rfl
 rw [Nat.mul_one,Nat.add_zero] at h0
 rw [h0]
 simp [List.getD_eq_getElem?_getD,hi]
def St (w W:World) (B g1 g2 g3:Nat) (c1 c2 c3:Array Value):Prop:=W.heap[g1]? = some (.cells c1 25 (0,0))∧W.heap[g2]? = some (.cells c2 45 (0,0))∧W.heap[g3]? = some (.cells c3 45 (0,0))∧Below w.heap.size w W∧B ≤ W.heap.size∧g1 < B∧g2 < B∧g3 < B∧w.heap.size ≤ B
section
variable {w W W1:World} {B g1 g2 g3:Nat} {c1 c2 c3:Array Value}
theorem St.below (h:St w W B g1 g2 g3 c1 c2 c3) (hb:Below W.heap.size W W1):St w W1 B g1 g2 g3 c1 c2 c3:=by
 obtain ⟨h1,h2,h3,h4,h5,h6⟩:=h
 exact ⟨blk_below h1 hb,blk_below h2 hb,blk_below h3 hb,below_then h4 h4.size hb,Nat.le_trans h5 hb.size,h6⟩
theorem St.alloc (h:St w W B g1 g2 g3 c1 c2 c3) (o:Obj):St w (W.alloc o) B g1 g2 g3 c1 c2 c3:=h.below (below_alloc (Below.refl _ _) o)
theorem St.grown (h:St w W B g1 g2 g3 c1 c2 c3) {row:Option Nat} (hg:W.grownBy W1 row) (hr:∀ k,row=some k→B ≤ k):St w W1 B g1 g2 g3 c1 c2 c3:=by
 obtain ⟨h1,h2,h3,h4,h5,h6,h7,h8,h9⟩:=h
 have hne:∀ g,g < B→some g ≠ row:=fun g hg he=>by have:=hr g he.symm;omega
 exact ⟨blk_grown h1 hg (hne _ h6),blk_grown h2 hg (hne _ h7),blk_grown h3 hg (hne _ h8),pw_below_grown h4 row h4.size hg (fun k hk=>Nat.le_trans h9 (hr k hk)),Nat.le_trans h5 hg.size,h6,h7,h8,h9⟩
theorem St.set (h:St w W B g1 g2 g3 c1 c2 c3) (p:Addr) (hp:B ≤ p.block) (u:Value):St w (W.setCell p u) B g1 g2 g3 c1 c2 c3:=by
 obtain ⟨h1,h2,h3,h4,h5,h6,h7,h8,h9⟩:=h
 exact ⟨blk_far h1 (by omega) u,blk_far h2 (by omega) u,blk_far h3 (by omega) u,h4.setCell (by omega) u,by simpa using h5,h6,h7,h8,h9⟩
end
end Go.Proofs.Ytfpdmlhknddffaa.Dk
end
section
namespace Go.Proofs.Ytfpdmlhknddffaa.Dk
open Go.RowKit Go.Proofs.YtfpdmlhknddffaaW.PrintWords Go.Proofs.YtfpdmlhknddffaaW.PrintLast Go.Proofs.YtfpdmlhknddffaaW.PrintMore
set_option linter.unusedVariables false
theorem range_told {α:Type} {F:Fence} {n:Nat} {P:Program} {g:Operand} {ps:Array Tmp} {assign body:Code} {Q:Exit→Act→World→Prop} {a:Act} {w:World}
 (hro:F.round=none) (h1:1 ≤ n) {gf:Nat} {lb:Array Value} (hg:a.eval g=.func (.func gf) #[] lb) (hFg:F.fn gf) (eg:∀ args w,(callFunc gf args).run P w=.ok (.enter gf args) w)
 {encs:α→Array Value} {N:Nat} {C:Nat→α→World→Prop} {Kp:World→World→Prop} {S:List α→Prop}
 (hseq:∀ (l:Nat) (J:List α→Nat→World→Prop) (W:World),Below w.heap.size w W→w.heap.size ≤ l→(∀ s m A B,J s m A→A.grownBy B none→J s m B) →
  (∀ pre m x W1,J pre m W1→C m x W1→pre.length < N→YieldAt F (n - 1 - 1) P l (encs x) W1 fun e W'=>e=.returned (.bool true)∧J (pre ++ [x]) W'.heap.size W'∧Kp W1 W')→(∃ m,m ≤ W.heap.size∧J [] m W) →
  CallsIn F (n - 1) P gf (#[.func (.yield l) #[] #[]] ++ lb) W fun e W'=>(∃ v,e=.returned v)∧∃ xs m,S xs∧J xs m W')
 (hKt:∀ {A B D:World},Kp A B→Kp B D→Kp A D) (hKb:∀ (W:World) (l:Nat) (o o':Obj),w.heap.size ≤ l→W.heap[l]? = some o→o.isCells=false→o.isWalk=false→Kp W (W.putObj l o')) (hps:∀ x,(encs x).size=ps.size)
 (hC:OwnFrom w.heap.size (fun (s:Nat × α) W=>C s.1 s.2 W)) (I:List α→Nat→World→Prop) (hI:OwnFrom w.heap.size (fun (s:List α × Nat) W=>I s.1 s.2 W)) (h0:I [] w.heap.size w) (a₁:α→Act)
 (hassign:∀ (l:Nat) (x:α) (W:World) (K:Act→World→Prop),K (a₁ x) W →
  assign.wpIn (F.inRound l) (n - 1 - 1) P (Exit.then K (fun _ _ _=>False)) { tmps:=(ps.zip (encs x)).foldl (fun t (p,v)=>t.setIfInBounds p v) a.tmps,defers:=[] } W)
 (hbody:∀ (l:Nat) (pre:List α) (m:Nat) (x:α) (W:World),I pre m W→C m x W→pre.length < N→body.wpIn (F.inRound l) (n - 1 - 1) P (ownPostK Kp (fun xs W'=>I xs W'.heap.size W') (fun _ _ _=>False) (pre ++ [x]) W) (a₁ x) W)
 (hdone:∀ (D:Nat) (xs:List α) (m:Nat) (W:World),w.heap.size ≤ D→S xs→I xs m W→W.heap[D]? = some (.deferred (some []))→Q .normal { a with defers:={ target:=.collected D,args:=#[] } :: a.defers } W) :
 (Code.rangeFunc g ps assign body).wpIn F n P Q a w:=by
 refine wpIn_rangeFunc fun fn hfn => ?_
 rw [hro]
 let rec_:LoopState→Option Code→Loop:=fun st pe=>{ state:=st,pending:=pe,fn,tmps:=a.tmps,params:=ps,assign,body,defers:=w.heap.size }
 obtain ⟨rec,hrec⟩:∃ rec:LoopState→Option Code→Loop,rec=rec_:=⟨_,rfl⟩
 let D:=w.heap.size
 obtain ⟨W1,hW1⟩:∃ W1,(w.alloc (.deferred (some []))).alloc (.loop (rec .ready none))=W1:=⟨_,rfl⟩
 have hIp:∀ {pre m A} (l:Nat) (o o':Obj),I pre m A→w.heap.size ≤ l→A.heap[l]? = some o→o.isCells=false→I pre m (A.putObj l o'):=fun {pre m A} l o o' h h1 h2 h3=>hI.putObj (s:=(pre,m)) o' h h1 h2 h3
 have hIa:∀ {pre m A} (o:Obj),I pre m A→I pre m (A.alloc o):=fun {pre m A} o h=>hI.alloc (s:=(pre,m)) o h
 have rdy:W1.heap[D + 1]? = some (.loop (rec .ready none)):=by
  have z:=World.alloc_heap_new (w.alloc (.deferred (some []))) (.loop (rec .ready none))
  rw [World.size_alloc] at z
  rw [← hW1]
  exact z
 have dfr:W1.heap[D]? = some (.deferred (some [])):=by
  rw [← hW1]
  exact (Below.heap_alloc _ _ _ (by simp [D])).trans (World.alloc_heap_new w _)
 have blw:Below w.heap.size w W1:=by
  rw [← hW1]
  exact ((Below.refl _ w).alloc (Nat.le_refl _) _).alloc (by simp) _
 have hI1:I [] w.heap.size W1:=by rw [← hW1];exact hIa _ (hIa _ h0)
 refine ⟨D + 1,[{ target:=.collected D,args:=#[] }],W1,{ target:=.fn (.func gf) lb,args:=#[.func (.yield (D + 1)) #[] #[]] },W1,gf,#[.func (.yield (D + 1)) #[] #[]] ++ lb,W1,?_,?_,?_,?_,fun _=>h1,?_⟩
 · rw [← hW1,hrec];exact run_enterLoop_outer _ _ _ _ _
 · simp only [resolve,hg]
   simp [go_sem]
 · intro f' hf';simp [Target.leads] at hf';subst hf';exact hFg
 · simp [invoke,go_sem,eg]
 · refine (hseq (D + 1) (fun pre m W=>I pre m W∧W.heap[D + 1]? = some (.loop (rec .ready none))∧W.heap[D]? = some (.deferred (some []))) W1 blw (by simp [D])
    (fun s m A B hs hgr=>⟨hI (s,m) A B none hs.1 hgr (fun r e=>by cases e),blk_grown hs.2.1 hgr (by simp),blk_grown hs.2.2 hgr (by simp)⟩) ?_ ⟨w.heap.size,blw.size,hI1,rdy,dfr⟩).mono ?_
   · rintro pre m x W ⟨hi,hl,hk⟩ hc hN
     have hlt:D + 1 < W.heap.size:=blk_lt hl
     have hy:=run_yield (P:=P) (args:=encs x) hl (by rw [hrec];exact hps x)
     rw [hrec] at hy
     refine ⟨fn,_,assign,body,hy,roundIn_of_wpIn hfn (hassign _ x W _ ⟨_,run_beginRound hl (by rw [hrec]),?_⟩)⟩
     obtain ⟨busy,hbusy⟩:∃ b:Obj,b=.loop { rec .ready none with state:=.busy }:=⟨_,rfl⟩
     have b1:(W.putObj (D + 1) busy).heap[D + 1]? = some busy:=World.putObj_heap_same hlt
     have b2:(W.putObj (D + 1) busy).heap[D]? = some (.deferred (some [])):=(World.putObj_heap_other (by omega)).trans hk
     have kp1:Kp W (W.putObj (D + 1) busy):=hKb _ _ _ _ (by simp [D]) hl rfl rfl
     rw [hbusy] at b1 b2 kp1
     refine wpIn_mono (hbody _ pre m x _ (hIp _ _ _ hi (by simp [D]) hl rfl) (hC.putObj (s:=(m,x)) _ hc (by simp [D]) hl rfl) hN) ?_
     rintro e a3 W3 hp
     cases e with
     | normal =>
      obtain ⟨ko,kp3,hi3⟩:=hp
      have e1:=ko.same _ _ b1 rfl
      have er:=run_endRound (P:=P) none e1
      rw [hrec] at er e1
      refine ⟨_,_,er,rfl,⟨?_,?_,?_⟩,hKt (hKt kp1 kp3) (hKb _ _ _ _ (by simp [D]) e1 rfl rfl)⟩
      · rw [show (W3.putObj (D + 1) _).heap.size=W3.heap.size by simp [World.putObj]]
        exact hIp _ _ _ hi3 (by simp [D]) e1 rfl
      · rw [hrec];exact World.putObj_heap_same (blk_lt e1)
      · exact (World.putObj_heap_other (by omega)).trans (ko.same _ _ b2 rfl)
     | ret=>exact hp.2.elim
     | exit id=>exact hp.2.elim
     | goto t=>exact hp.2.elim
     | panic ch=>exact hp.elim
     | outgrown=>exact hp.elim
   · rintro e W2 ⟨⟨v,rfl⟩,xs,m,hs,hi,hl,hk⟩
     have en:=run_endLoop (P:=P) hl (by rw [hrec];simp [rec_])
     rw [hrec] at en hl
     exact ⟨none,_,en,hdone _ xs m _ (Nat.le_refl _) hs (hIp _ _ _ hi (by simp [D]) hl rfl) ((World.putObj_heap_other (by omega)).trans hk)⟩
end Go.Proofs.Ytfpdmlhknddffaa.Dk
end
section
namespace Go.Proofs.Ytfpdmlhknddffaa.Dk
open Go.RowKit Go.Proofs.YtfpdmlhknddffaaW.PrintWords Go.Proofs.YtfpdmlhknddffaaW.PrintLast Go.Proofs.YtfpdmlhknddffaaW.PrintMore
attribute [local go_sem] field25 field25b max2_int min2_int max_two min_two max_three min_three max_four min_four
set_option linter.unusedVariables false
set_option linter.unusedSimpArgs false
def wageofficeref43_Code.l0:Nat→List Int→Int→List Int→Int→Option (List Int)
 | 0,_,_,_,_=>none
 | k + 1,x0,x7,x8,x9=>if x9 ≥ 0 then (if 0 ≤ (IntKind.u64.wrap (x9)) then (if x8.length < 140737488355328 then (wageofficeref43_Code.l0 k x0 x7 (x8 ++ [(shr .u64 x7 (IntKind.u64.wrap (x9))) % 256]) (wrap64 (x9 - 8))) else (none)) else (none)) else (if x8.length + x0.length < 140737488355328 then (some (x8 ++ x0)) else (none))
def wageofficeref43_Code.f (k:Nat) (l0:List Int) (a1:Int):Option (List Int):=(some (([((l0.length:Int) / 256) % 256,((l0.length:Int)) % 256,(a1 / 256) % 256,(a1) % 256]:List Int):List Int)).bind fun y183=>(if (strOfNums y183).size + (strOfNums l0).size ≤ 9223372036854775807 then ((wageofficeref23_Sum.f k ((strOfNums y183) ++ (strOfNums l0))).bind fun t186=>(if ([]:List Int).length < 140737488355328 then ((some (([]:List Int) ++ [82]:List Int)).bind fun y187=>(if y187.length + y183.length < 140737488355328 then (wageofficeref43_Code.l0 k l0 t186 (y187 ++ y183) 56) else (none))) else (none))) else (none))
set_option maxHeartbeats 8000000 in
set_option maxRecDepth 100000 in
theorem wageofficeref43_Code.calls (k:Nat) (A0:Option Addr) (c0:Nat) (l0:List Int) (a1:Int) (r:List Int) (w:World) (hr0:Kd.C (Kd.int .u8) w A0 l0.length l0) (hc0:l0.length ≤ c0) (h:wageofficeref43_Code.f k l0 a1=some r) :
 Calls Try.prog 56 #[.slice A0 l0.length c0,.int .i64 a1] w fun e w'=>∃ v0_:Value,e=.returned (v0_)∧Kd.R (Kd.int .u8) 5 w' w.heap.size (fun _=>True) v0_ r∧Below w.heap.size w w':=by
 have HR0:=Aside0.mk hr0
 have HC0:=Aside0.mk hc0
 clear hr0 hc0
 have HB:=Aside0.mk (Below.refl w.heap.size w)
 have H:((some (([((l0.length:Int) / 256) % 256,((l0.length:Int)) % 256,(a1 / 256) % 256,(a1) % 256]:List Int):List Int)).bind fun y183=>(if (strOfNums y183).size + (strOfNums l0).size ≤ 9223372036854775807 then ((wageofficeref23_Sum.f k ((strOfNums y183) ++ (strOfNums l0))).bind fun t186=>(if ([]:List Int).length < 140737488355328 then ((some (([]:List Int) ++ [82]:List Int)).bind fun y187=>(if y187.length + y183.length < 140737488355328 then (wageofficeref43_Code.l0 k l0 t186 (y187 ++ y183) 56) else (none))) else (none))) else (none)))=some r:=h
 clear h
 obtain ⟨y183,hy183⟩:∃ y_:List Int,y_=(([((l0.length:Int) / 256) % 256,((l0.length:Int)) % 256,(a1 / 256) % 256,(a1) % 256]:List Int)):=⟨_,rfl⟩
 replace H:(if (strOfNums y183).size + (strOfNums l0).size ≤ 9223372036854775807 then ((wageofficeref23_Sum.f k ((strOfNums y183) ++ (strOfNums l0))).bind fun t186=>(if ([]:List Int).length < 140737488355328 then ((some (([]:List Int) ++ [82]:List Int)).bind fun y187=>(if y187.length + y183.length < 140737488355328 then (wageofficeref43_Code.l0 k l0 t186 (y187 ++ y183) 56) else (none))) else (none))) else (none))=some r:=by first|(rw [hy183];with_reducible exact H)|(have H2_:=(Option.bind_some _ _).symm.trans H;rw [hy183];with_reducible exact H2_)|(have H2_:=(Option.bind_some _ _).symm.trans H;with_reducible exact H2_)|with_reducible exact H|(rw [hy183];exact H)|exact H
 have Ny183:=Aside0.mk hy183
 clear hy183
 by_cases c3:(strOfNums y183).size + (strOfNums l0).size ≤ 9223372036854775807
 · rw [if_pos c3] at H
   have c3b0:=eq_true c3
   have c3b1:decide ((strOfNums y183).size + (strOfNums l0).size ≤ 9223372036854775807)=true:=decide_eq_true c3
   try have c3b2:(9223372036854775807 < (strOfNums y183).size + (strOfNums l0).size)=False:=eq_false (Nat.not_lt.2 c3)
   replace H:=Option.bind_eq_some_iff.mp H
   obtain ⟨t186,A40,H⟩:=H
   replace H:(if ([]:List Int).length < 140737488355328 then ((some (([]:List Int) ++ [82]:List Int)).bind fun y187=>(if y187.length + y183.length < 140737488355328 then (wageofficeref43_Code.l0 k l0 t186 (y187 ++ y183) 56) else (none))) else (none))=some r:=H
   have A4:=Aside0.mk A40
   clear A40
   by_cases c5:([]:List Int).length < 140737488355328
   · rw [if_pos c5] at H
     have LMc5:=Aside0.mk c5
     clear c5
     obtain ⟨y187,hy187⟩:∃ y_:List Int,y_=(([]:List Int) ++ [82]):=⟨_,rfl⟩
     replace H:(if y187.length + y183.length < 140737488355328 then (wageofficeref43_Code.l0 k l0 t186 (y187 ++ y183) 56) else (none))=some r:=by first|(rw [hy187];with_reducible exact H)|(have H2_:=(Option.bind_some _ _).symm.trans H;rw [hy187];with_reducible exact H2_)|(have H2_:=(Option.bind_some _ _).symm.trans H;with_reducible exact H2_)|with_reducible exact H|(rw [hy187];exact H)|exact H
     have Ny187:=Aside0.mk hy187
     clear hy187
     by_cases c6:y187.length + y183.length < 140737488355328
     · rw [if_pos c6] at H
       have LMc6:=Aside0.mk c6
       clear c6
       obtain ⟨y190,hy190⟩:∃ y_:List Int,y_=(y187 ++ y183):=⟨_,rfl⟩
       replace H:(wageofficeref43_Code.l0 k l0 t186 y190 56)=some r:=by first|(rw [hy190];with_reducible exact H)|(have H2_:=(Option.bind_some _ _).symm.trans H;rw [hy190];with_reducible exact H2_)|(have H2_:=(Option.bind_some _ _).symm.trans H;with_reducible exact H2_)|with_reducible exact H|(rw [hy190];exact H)|exact H
       have Ny190:=Aside0.mk hy190
       clear hy190
       have H':=Aside0.mk H
       clear H
       go_enter Try.func56,Try.ntmps56
       go_wp2_with (first|((with_reducible refine gate_dst (N:=22) rfl ?_);refine Kd.R_lit (Kd.int .u8) _ 5 ?hg (N:=22) ?hd (xs:=([((l0.length:Int) / 256) % 256,((l0.length:Int)) % 256,(a1 / 256) % 256,(a1) % 256]:List Int)) (inner:=[.int .u8 (((l0.length:Int) / 256) % 256),.int .u8 (((l0.length:Int)) % 256),.int .u8 ((a1 / 256) % 256),.int .u8 ((a1) % 256)]) (ok:=fun _=>True) (okp:=fun _=>True) ?hr ?hp (fun _ hk=>hk) trivial (Below.refl _ _) (Nat.le_refl _) (by simp) ?_;(case hd=>rfl);(case hg=>rfl);(case hr=>first|(go_simp;done)|(go_simp;rfl));(case hp=>exact (Reps.one (show Kd.M (Kd.int .u8) _ _ _ (((l0.length:Int) / 256) % 256) [.int .u8 (((l0.length:Int) / 256) % 256)] from rfl) (Reps.one (show Kd.M (Kd.int .u8) _ _ _ (((l0.length:Int)) % 256) [.int .u8 (((l0.length:Int)) % 256)] from rfl) (Reps.one (show Kd.M (Kd.int .u8) _ _ _ ((a1 / 256) % 256) [.int .u8 ((a1 / 256) % 256)] from rfl) (Reps.one (show Kd.M (Kd.int .u8) _ _ _ ((a1) % 256) [.int .u8 ((a1) % 256)] from rfl) (Reps.none _ _))))));intro v184 w7 ho8 hb hg_ hnew_;clear hg_ hnew_;(first|rw [← Ny183.out] at ho8|(simp only [Int.reduceToNat] at ho8;rw [← Ny183.out] at ho8));have n0_:=Aside0.mk (Kd.R_lower ho8 (below_size (by repeat (first|(with_reducible first|exact HB.out|apply below_alloc|apply pw_below_drewN|apply below_drew1)|exact HB.out))));have n1_:=Aside0.mk (below_step (by repeat (first|(with_reducible first|exact HB.out|apply below_alloc|apply pw_below_drewN|apply below_drew1)|exact HB.out)) hb);clear HB;have HO185:=n0_;have HB:=n1_;clear n0_ n1_;clear hb ho8;have hcv9:=own_string (P:=Try.prog) Try.underlying22 Try.underlying5 Try.underlying9 (Kd.own_of_R HO185.out);have hcv10:=Kd.C_string (P:=Try.prog) (A:=A0) (c:=c0) Try.underlying22 Try.underlying5 Try.underlying9 (Kd.C_below HR0.out HB.out))|((with_reducible refine gate_callee (f:=64) rfl ?_);refine goesL_ (some 28) rfl rfl Try.func64 (by kernel_rfl) rfl #[.string ((strOfNums y183) ++ (strOfNums l0))] rfl (by (try simp only [List.map_toArray,List.map_cons,List.map_nil]);first|done|rfl|(simp only [List.length_drop,List.length_take];rfl)) ?_;(with_reducible refine (wageofficeref23_Sum.calls k ((strOfNums y183) ++ (strOfNums l0)) t186 _ A4.out).mono ?_);rintro e w' ⟨rfl,⟨nd,rfl⟩⟩;refine ⟨_,rfl,?_⟩)|((with_reducible refine gate_builtin (b:=.append) (xs:=#[.tmp 29,.tmp 30]) rfl ?_);at_builtin;refine Kd.R_append (Kd.int .u8) (w0:=w) w.heap.size rfl (.tmp 29) (.tmp 30) 22 5 (.int .u8 0) 1 rfl Try.underlying22 info5 rfl (by decide) (by omega) (.slice none 0 0) ([]:List Int) 82 [.int .u8 82] (fun k_=>some k_ ≠ (v184:Value).ownBlock) (fun _=>False) rfl rfl ?aP (fun _ hk=>hk.elim) ?aF ?aO ?aB ?aS ?aL ?_;(case aP=>exact rfl);(case aB=>exact (by repeat (first|(with_reducible first|exact HB.out|apply below_alloc|apply pw_below_drewN|apply below_drew1)|exact HB.out)));(case aF=>exact (fun k_ hk=>Kd.fresh' (Kd.R_lt (by (with_reducible repeat (first|apply Kd.R_alloc|apply Kd.R_drewN|apply Kd.R_drew));exact HO185.out)) k_ hk));(case aO=>exact ((Kd.R_nil _ _ _ _ (fun k_=>some k_ ≠ (v184:Value).ownBlock))));(case aS=>exact (below_size (by repeat (first|(with_reducible first|exact HB.out|apply below_alloc|apply pw_below_drewN|apply below_drew1)|exact HB.out))));(case aL=>have:=LMc5.out;omega);intro v188 w11 ho hb hg hat;rw [← Ny187.out] at ho;have n0_:=Aside0.mk (Kd.R_after (Kd.R_apart_nil (by (with_reducible repeat (first|apply Kd.R_alloc|apply Kd.R_drewN|apply Kd.R_drew));exact HO185.out)) hg hat);have n1_:=Aside0.mk (hb);have n2_:=Aside0.mk (ho);clear HO185;clear HB;have HO185:=n0_;have HB:=n1_;have HO189:=n2_;clear n0_ n1_ n2_;clear ho hb hg hat;obtain ⟨Ao13,co13,eo13⟩:=Kd.R_slice HO185.out;subst eo13)|((with_reducible refine gate_builtin (b:=.append) (xs:=#[.tmp 31,.tmp 32]) rfl ?_);at_builtin;refine Kd.R_append_rows (Kd.int .u8) (w0:=w) w.heap.size rfl (.tmp 31) (.tmp 32) 22 5 (.int .u8 0) 1 rfl Try.underlying22 info5 rfl (by decide) (by omega) v188 y187 y183 _ _ _ (fun k_=>some k_ ≠ (.slice Ao13 y183.length co13:Value).ownBlock) (fun _=>False) rfl rfl ?aO ?aR (fun _ _ h=>h) (fun _ h=>h.elim) ?aF ?aB ?aS ?aL ?_;(case aR=>repeat (first|exact (Kd.R_reads' HO185.out).2.2|(with_reducible refine Kd.C_alloc ?_ _)|(with_reducible refine Kd.C_drewN ?_ _)|(with_reducible refine Kd.C_drew ?_)));(case aB=>exact (by repeat (first|(with_reducible first|exact HB.out|apply below_alloc|apply pw_below_drewN|apply below_drew1)|exact HB.out)));(case aF=>exact (fun k_ hk=>Kd.fresh' (Kd.R_lt (by (with_reducible repeat (first|apply Kd.R_alloc|apply Kd.R_drewN|apply Kd.R_drew));exact HO185.out)) k_ hk));(case aO=>exact (by (with_reducible repeat (first|apply Kd.R_alloc|apply Kd.R_drewN|apply Kd.R_drew));exact HO189.out));(case aS=>exact (below_size (by repeat (first|(with_reducible first|exact HB.out|apply below_alloc|apply pw_below_drewN|apply below_drew1)|exact HB.out))));(case aL=>have:=LMc6.out;omega);intro v191 w12 ho hb hg hat;rw [← Ny190.out] at ho;have n0_:=Aside0.mk (Kd.R_after (ok:=(fun _=>True)) (by (with_reducible repeat (first|apply Kd.R_alloc|apply Kd.R_drewN|apply Kd.R_drew));exact HO185.out) hg hat);have n1_:=Aside0.mk (hb);have n2_:=Aside0.mk (ho);clear HO185;clear HB;clear HO189;have HO185:=n0_;have HB:=n1_;have HO192:=n2_;clear n0_ n1_ n2_;clear ho hb hg hat))
       go_loopg [8,9] k (fun kq v8 v9 w'=>∃ (x8_1:List Int) (x9_1:Int),v9=.int .i64 x9_1∧Aside0 (wageofficeref43_Code.l0 kq l0 t186 x8_1 x9_1=some r)∧Aside0 (kq ≤ k)∧Aside0 (Kd.R (Kd.int .u8) 5 w' w.heap.size (fun _=>True) v8 x8_1)∧Aside0 (Below w.heap.size w w'))
       case atStart=>exact ⟨(y190),(56),(by first|rfl|(simp;done)|(simp [*];done)),H',⟨Nat.le_refl _⟩,⟨by (with_reducible repeat (first|apply Kd.R_alloc|apply Kd.R_drewN|apply Kd.R_drew));exact Kd.R_mono HO192.out (fun _ hk=>trivial)⟩,⟨by repeat (first|(with_reducible first|exact HB.out|apply below_alloc|apply pw_below_drewN|apply below_drew1)|exact HB.out)⟩⟩
       case round =>
        clear H'
        try clear hcv1
        try clear p2
        try clear c3
        try clear c3b0
        try clear c3b1
        try clear c3b2
        try clear c5
        try clear c6
        try clear hcv9
        try clear hcv10
        obtain ⟨x8_1,x9_1,rfl,HA,HK1,HO_8,HB⟩:=hrel
        cases gk with
        | zero=>exact absurd HA.out (by simp [wageofficeref43_Code.l0])
        | succ k1 =>
         have H:=HA.out
         clear HA
         simp only [wageofficeref43_Code.l0] at H
         by_cases c14:x9_1 ≥ 0
         · rw [if_pos c14] at H
           have c14b0:decide (0 ≤ x9_1)=true:=decide_eq_true c14
           clear c14
           obtain ⟨ji15,hji15⟩:∃ j_:Int,(IntKind.u64.wrap (x9_1))=j_:=⟨_,rfl⟩
           replace H:(if 0 ≤ (ji15) then (if x8_1.length < 140737488355328 then (wageofficeref43_Code.l0 k1 l0 t186 (x8_1 ++ [(shr .u64 t186 (ji15)) % 256]) (wrap64 (x9_1 - 8))) else (none)) else (none))=some r:=by first|(rw [hji15] at H;exact H)|(simp only [hji15] at H ⊢;exact H)
           by_cases c16:0 ≤ (ji15)
           · rw [if_pos c16] at H
             have c16b0:=eq_true c16
             have c16b1:decide (0 ≤ (ji15))=true:=decide_eq_true c16
             clear c16
             obtain ⟨ji17,hji17⟩:∃ j_:Int,(shr .u64 t186 (ji15))=j_:=⟨_,rfl⟩
             replace H:(if x8_1.length < 140737488355328 then (wageofficeref43_Code.l0 k1 l0 t186 (x8_1 ++ [(ji17) % 256]) (wrap64 (x9_1 - 8))) else (none))=some r:=by first|(rw [hji17] at H;exact H)|(simp only [hji17] at H ⊢;exact H)
             have hji17_:(t186 / 2 ^ min (ji15).toNat 64)=ji17:=hji17
             have hji17z:(ji15) ≤ 64→(t186 / 2 ^ (ji15).toNat)=ji17:=shr_small hji17
             by_cases c18:x8_1.length < 140737488355328
             · rw [if_pos c18] at H
               have LMc18:=Aside0.mk c18
               clear c18
               obtain ⟨y193,hy193⟩:∃ y_:List Int,y_=(x8_1 ++ [(ji17) % 256]):=⟨_,rfl⟩
               replace H:(wageofficeref43_Code.l0 k1 l0 t186 y193 (wrap64 (x9_1 - 8)))=some r:=by first|(rw [hy193];with_reducible exact H)|(have H2_:=(Option.bind_some _ _).symm.trans H;rw [hy193];with_reducible exact H2_)|(have H2_:=(Option.bind_some _ _).symm.trans H;with_reducible exact H2_)|with_reducible exact H|(rw [hy193];exact H)|exact H
               have Ny193:=Aside0.mk hy193
               clear hy193
               have H':=Aside0.mk H
               clear H
               go_wp2_with (first|((with_reducible refine gate_builtin (b:=.append) (xs:=#[.tmp 38,.tmp 44]) rfl ?_);at_builtin;refine Kd.R_append (Kd.int .u8) (w0:=w) w.heap.size rfl (.tmp 38) (.tmp 44) 22 5 (.int .u8 0) 1 rfl Try.underlying22 info5 rfl (by decide) (by omega) u8 x8_1 ((ji17) % 256) [.int .u8 ((ji17) % 256)] (fun _=>True) (fun _=>False) rfl rfl ?aP (fun _ hk=>hk.elim) ?aF ?aO ?aB ?aS ?aL ?_;(case aP=>exact rfl);(case aB=>exact (by repeat (first|(with_reducible first|exact HB.out|apply below_alloc|apply pw_below_drewN|apply below_drew1)|exact HB.out)));(case aF=>exact (fun _ _=>trivial));(case aO=>exact (by (with_reducible repeat (first|apply Kd.R_alloc|apply Kd.R_drewN|apply Kd.R_drew));exact HO_8.out));(case aS=>exact (below_size (by repeat (first|(with_reducible first|exact HB.out|apply below_alloc|apply pw_below_drewN|apply below_drew1)|exact HB.out))));(case aL=>have:=LMc18.out;omega);intro v194 w19 ho hb hg hat;rw [← Ny193.out] at ho;have n0_:=Aside0.mk (hb);have n1_:=Aside0.mk (ho);clear HB;clear HO_8;have HB:=n0_;have HO195:=n1_;clear n0_ n1_;clear ho hb hg hat))
               go_roundg k1
               case measure=>have:=HK1.out;omega
               case rel=>exact ⟨(y193),(wrap64 (x9_1 - 8)),(by first|rfl|(simp;done)|(simp [*];done)),H',⟨by have:=HK1.out;omega⟩,⟨by (with_reducible repeat (first|apply Kd.R_alloc|apply Kd.R_drewN|apply Kd.R_drew));exact HO195.out⟩,⟨by repeat (first|(with_reducible first|exact HB.out|apply below_alloc|apply pw_below_drewN|apply below_drew1)|exact HB.out)⟩⟩
             · rw [if_neg c18] at H
               exact absurd H (by simp)
           · rw [if_neg c16] at H
             exact absurd H (by simp)
         · rw [if_neg c14] at H
           have c14b0:decide (0 ≤ x9_1)=false:=decide_eq_false c14
           clear c14
           by_cases c20:x8_1.length + l0.length < 140737488355328
           · rw [if_pos c20] at H
             have LMc20:=Aside0.mk c20
             clear c20
             obtain ⟨y196,hy196⟩:∃ y_:List Int,y_=(x8_1 ++ l0):=⟨_,rfl⟩
             replace H:(some y196)=some r:=by first|(rw [hy196];with_reducible exact H)|(have H2_:=(Option.bind_some _ _).symm.trans H;rw [hy196];with_reducible exact H2_)|(have H2_:=(Option.bind_some _ _).symm.trans H;with_reducible exact H2_)|with_reducible exact H|(rw [hy196];exact H)|exact H
             have Ny196:=Aside0.mk hy196
             clear hy196
             obtain rfl:=Option.some.inj H
             go_wp2_with (first|((with_reducible refine gate_builtin (b:=.append) (xs:=#[.tmp 46,.tmp 47]) rfl ?_);at_builtin;refine Kd.R_append_rows (Kd.int .u8) (w0:=w) w.heap.size rfl (.tmp 46) (.tmp 47) 22 5 (.int .u8 0) 1 rfl Try.underlying22 info5 rfl (by decide) (by omega) u8 x8_1 l0 _ _ _ (fun _=>True) (fun _=>False) rfl rfl ?aO ?aR (fun _ _ h=>h) (fun _ h=>h.elim) ?aF ?aB ?aS ?aL ?_;(case aR=>repeat (first|exact (Kd.C_below HR0.out HB.out)|(with_reducible refine Kd.C_alloc ?_ _)|(with_reducible refine Kd.C_drewN ?_ _)|(with_reducible refine Kd.C_drew ?_)));(case aB=>exact (by repeat (first|(with_reducible first|exact HB.out|apply below_alloc|apply pw_below_drewN|apply below_drew1)|exact HB.out)));(case aF=>exact (fun _ _=>trivial));(case aO=>exact (by (with_reducible repeat (first|apply Kd.R_alloc|apply Kd.R_drewN|apply Kd.R_drew));exact HO_8.out));(case aS=>exact (below_size (by repeat (first|(with_reducible first|exact HB.out|apply below_alloc|apply pw_below_drewN|apply below_drew1)|exact HB.out))));(case aL=>have:=LMc20.out;omega);intro v197 w21 ho hb hg hat;rw [← Ny196.out] at ho;have n0_:=Aside0.mk (hb);have n1_:=Aside0.mk (ho);clear HB;clear HO_8;have HB:=n0_;have HO198:=n1_;clear n0_ n1_;clear ho hb hg hat))
             go_ret
             exact ⟨_,by first|rfl|(simp [errW_none,errW_some] <;> rfl)|(simp [*,errW_none,errW_some] <;> rfl),by (with_reducible repeat (first|apply Kd.R_alloc|apply Kd.R_drewN|apply Kd.R_drew));exact HO198.out,by repeat (first|(with_reducible first|exact HB.out|apply below_alloc|apply pw_below_drewN|apply below_drew1)|exact HB.out)⟩
           · rw [if_neg c20] at H
             exact absurd H (by simp)
     · rw [if_neg c6] at H
       exact absurd H (by simp)
   · rw [if_neg c5] at H
     exact absurd H (by simp)
 · rw [if_neg c3] at H
   exact absurd H (by simp)
mutual
def wageofficeref43_record.j0:Nat→List Int→Int→Int→Bool→Option (List Int × Bool)
 | 0,_,_,_,_=>none
 | k + 1,x0,x1,x2,x21=>if x21=true then (some (([]:List Int),false)) else (if 0 ≤ (wrap64 (x1 + 1)) then (if (wrap64 (x1 + 1)) < (x0.length:Int) then (if 0 ≤ (wrap64 (x1 + 2)) then (if (wrap64 (x1 + 2)) < (x0.length:Int) then (if (wrap64 ((wrap64 ((wrap64 (rd x0 (wrap64 (x1 + 1)))) * 256)) + (wrap64 (rd x0 (wrap64 (x1 + 2)))))) < 1 then (wageofficeref43_record.j1 k x0 x1 x2 (wrap64 ((wrap64 ((wrap64 (rd x0 (wrap64 (x1 + 1)))) * 256)) + (wrap64 (rd x0 (wrap64 (x1 + 2)))))) true) else (if (wrap64 ((wrap64 ((wrap64 (rd x0 (wrap64 (x1 + 1)))) * 256)) + (wrap64 (rd x0 (wrap64 (x1 + 2)))))) > 4096 then (wageofficeref43_record.j1 k x0 x1 x2 (wrap64 ((wrap64 ((wrap64 (rd x0 (wrap64 (x1 + 1)))) * 256)) + (wrap64 (rd x0 (wrap64 (x1 + 2)))))) true) else (wageofficeref43_record.j1 k x0 x1 x2 (wrap64 ((wrap64 ((wrap64 (rd x0 (wrap64 (x1 + 1)))) * 256)) + (wrap64 (rd x0 (wrap64 (x1 + 2)))))) (decide ((wrap64 ((x0.length:Int) - x1)) < (wrap64 (13 + (wrap64 ((wrap64 ((wrap64 (rd x0 (wrap64 (x1 + 1)))) * 256)) + (wrap64 (rd x0 (wrap64 (x1 + 2))))))))))))) else (none)) else (none)) else (none)) else (none))
def wageofficeref43_record.j1:Nat→List Int→Int→Int→Int→Bool→Option (List Int × Bool)
 | 0,_,_,_,_,_=>none
 | k + 1,x0,x1,x2,x8,x50=>if x50=true then (some (([]:List Int),false)) else (if 0 ≤ (wrap64 (x1 + 13)) then (if (wrap64 (x1 + 13)) ≤ (wrap64 ((wrap64 (x1 + 13)) + x8)) then (if (wrap64 ((wrap64 (x1 + 13)) + x8)) ≤ (x0.length:Int) then (if ([]:List Int).length + ((x0.take ((wrap64 ((wrap64 (x1 + 13)) + x8)):Int).toNat).drop ((wrap64 (x1 + 13)):Int).toNat).length < 140737488355328 then ((some (([]:List Int) ++ ((x0.take ((wrap64 ((wrap64 (x1 + 13)) + x8)):Int).toNat).drop ((wrap64 (x1 + 13)):Int).toNat):List Int)).bind fun y203=>((wageofficeref43_Code.f k y203 x2).bind fun t206=>(if 0 ≤ x1 then (if x1 ≤ (wrap64 ((wrap64 (x1 + 13)) + x8)) then ((wageofficeref43_Same.f k t206 ((x0.take ((wrap64 ((wrap64 (x1 + 13)) + x8)):Int).toNat).drop (x1:Int).toNat)).bind fun t210=>(some (y203,t210))) else (none)) else (none)))) else (none)) else (none)) else (none)) else (none))
end
def wageofficeref43_record.f (k:Nat) (l0:List Int) (a1:Int) (a2:Int):Option (List Int × Bool):=if (wrap64 ((l0.length:Int) - a1)) < 14 then (wageofficeref43_record.j0 k l0 a1 a2 true) else (if 0 ≤ a1 then (if a1 < (l0.length:Int) then (wageofficeref43_record.j0 k l0 a1 a2 ((rd l0 a1) != 82)) else (none)) else (none))
def wageofficeref43_record.T3:Bool × List (List Nat × List Nat):=(true,[([],[]),([],[]),([1],[1]),([0,2],[0,2]),([3],[3]),([4],[4]),([5],[5]),([],[]),([],[]),([8],[8]),([7,9],[7,9]),([10],[10]),([11],[11]),([6,12],[6,12]),([13,0,1,2,3,4,5,6,7,8,9,10,11,12,13],[13])])
def wageofficeref43_record.B3:List Nat:=[0,0,2,7,15,31,63,0,0,256,896,1920,3968,8191,16383]
theorem wageofficeref43_record.tab3:rtab .any (opsOf Try.f55 3)=wageofficeref43_record.T3:=by kernel_rfl
theorem wageofficeref43_record.bits3:waitsOk wageofficeref43_record.T3.2 wageofficeref43_record.B3=true:=by kernel_rfl
def wageofficeref43_record.T8:Bool × List (List Nat × List Nat):=(true,[([],[]),([],[]),([],[]),([1,2],[1,2]),([],[]),([],[]),([],[]),([6],[6]),([],[]),([7,8],[7,8]),([4,5,9],[4,5,9]),([3,10,3],[3,10]),([0,11,0],[0]),([11,12,0,1,2,3,4,5,6,7,8,9,10,11,12],[11])])
def wageofficeref43_record.B8:List Nat:=[0,0,0,6,0,0,0,64,0,448,1008,2046,4095,8191]
theorem wageofficeref43_record.tab8:rtab .any (opsOf Try.f55 8)=wageofficeref43_record.T8:=by kernel_rfl
theorem wageofficeref43_record.bits8:waitsOk wageofficeref43_record.T8.2 wageofficeref43_record.B8=true:=by kernel_rfl
set_option maxHeartbeats 8000000 in
set_option maxRecDepth 100000 in
theorem wageofficeref43_record.calls (k:Nat) (A0:Option Addr) (c0:Nat) (l0:List Int) (a1:Int) (a2:Int) (r1:List Int) (r2:Bool) (w:World) (hr0:Kd.C (Kd.int .u8) w A0 l0.length l0) (hc0:l0.length ≤ c0) (h:wageofficeref43_record.f k l0 a1 a2=some (r1,r2)) :
 Calls Try.prog 55 #[.slice A0 l0.length c0,.int .i64 a1,.int .i64 a2] w fun e w'=>∃ v0_:Value,e=.returned (.tuple #[v0_,.bool r2])∧Kd.R (Kd.int .u8) 5 w' w.heap.size (fun _=>True) v0_ r1∧Below w.heap.size w w':=by
 have HR0:=Aside0.mk hr0
 have HC0:=Aside0.mk hc0
 clear hr0 hc0
 have HB:=Aside0.mk (Below.refl w.heap.size w)
 have H:(if (wrap64 ((l0.length:Int) - a1)) < 14 then (wageofficeref43_record.j0 k l0 a1 a2 true) else (if 0 ≤ a1 then (if a1 < (l0.length:Int) then (wageofficeref43_record.j0 k l0 a1 a2 ((rd l0 a1) != 82)) else (none)) else (none)))=some (r1,r2):=h
 clear h
 have HC4:=Aside0.mk H
 clear H
 go_enter Try.func55,Try.ntmps55
 go_upto_region 1 with (fail)
 go_cut [21] (fun v21 wc=>∃ (kq:Nat) (x21_3:Bool),v21=.bool x21_3∧Aside0 (wageofficeref43_record.j0 kq l0 a1 a2 x21_3=some (r1,r2))∧Aside0 (kq ≤ k)∧Aside0 (Below w.heap.size w wc))
 case first =>
  have H:=HC4.out
  clear HC4
  by_cases c5:(wrap64 ((l0.length:Int) - a1)) < 14
  · rw [if_pos c5] at H
    have c5b0:decide ((wrap64 ((l0.length:Int) - a1)) < 14)=true:=decide_eq_true c5
    clear c5
    (first|rw [c5b0]|(simp only [i64_w,i32_w];rw [c5b0])|skip)
    have H':=Aside0.mk H
    clear H
    go_wp2
    go_meet
    case rel=>exact ⟨_,(true),(by first|rfl|(simp;done)|(simp [*];done)),H',⟨by first|omega|exact Nat.le_refl _⟩,⟨by repeat (first|(with_reducible first|exact HB.out|apply below_alloc|apply pw_below_drewN|apply below_drew1)|exact HB.out)⟩⟩
  · rw [if_neg c5] at H
    have c5b0:decide ((wrap64 ((l0.length:Int) - a1)) < 14)=false:=decide_eq_false c5
    clear c5
    (first|rw [c5b0]|(simp only [i64_w,i32_w];rw [c5b0])|skip)
    by_cases c6:0 ≤ a1
    · rw [if_pos c6] at H
      have c6b0:decide (0 ≤ a1)=true:=decide_eq_true c6
      clear c6
      by_cases c7:a1 < (l0.length:Int)
      · rw [if_pos c7] at H
        have c7b0:decide (a1 < (l0.length:Int))=true:=decide_eq_true c7
        clear c7
        have H':=Aside0.mk H
        clear H
        have p199:0 ≤ (a1:Int):=of_decide_eq_true (by first|(with_reducible assumption)|assumption)
        have q199:a1 < (l0.length:Int):=of_decide_eq_true (by first|(with_reducible assumption)|assumption)
        obtain ⟨ad199,e199,hx199_0⟩:=Kd.at_int HR0.out a1 p199 q199
        cases e199
        replace hx199_0:=(HB.out.cell (World.block_lt_of_cell? w _ hx199_0)).trans hx199_0
        replace p199:=eq_true p199
        replace q199:=eq_true q199
        go_wp2
        go_meet
        case rel=>exact ⟨_,(((rd l0 a1) != 82)),(by first|rfl|(simp;done)|(simp [*];done)),H',⟨by first|omega|exact Nat.le_refl _⟩,⟨by repeat (first|(with_reducible first|exact HB.out|apply below_alloc|apply pw_below_drewN|apply below_drew1)|exact HB.out)⟩⟩
      · rw [if_neg c7] at H
        exact absurd H (by simp)
    · rw [if_neg c6] at H
      exact absurd H (by simp)
 case rest =>
  clear HC4
  try clear p1
  try clear q1
  try clear hx1
  try clear p2
  try clear c5
  try clear c5b0
  try clear c6
  try clear c6b0
  try clear p6
  try clear c7
  try clear c7b0
  try clear hx199_0
  try clear p199
  try clear q199
  obtain ⟨kq,x21_3,rfl,HA,HJ3,HB⟩:=hcut
  cases kq with
  | zero=>exact absurd HA.out (by simp [wageofficeref43_record.j0])
  | succ kj3 =>
   have H:=HA.out
   clear HA
   simp only [wageofficeref43_record.j0] at H
   by_cases c8:x21_3=true
   · subst c8
     have H1:(some (([]:List Int),false))=some (r1,r2):=by rw [if_pos rfl] at H;exact H
     clear H
     have H:=H1
     clear H1
     simp only [Option.some.injEq,Prod.mk.injEq] at H
     obtain ⟨rfl,rfl⟩:=H
     go_wp2
     go_ret2
     exact ⟨_,by first|rfl|(simp [errW_none,errW_some] <;> rfl)|(simp [*,errW_none,errW_some] <;> rfl),by first|exact Kd.R_nil _ _ _ _ _|exact Kd.N_nil _ _ _ _ _|exact Kd.V_nil _ _ _ _ _|exact Kd.Q_nil _ _ _ _ _|exact Kd.S_nil _ _ _ _ _,by repeat (first|(with_reducible first|exact HB.out|apply below_alloc|apply pw_below_drewN|apply below_drew1)|exact HB.out)⟩
   · replace c8:=Bool.eq_false_iff.mpr c8
     subst c8
     have H1:(if 0 ≤ (wrap64 (a1 + 1)) then (if (wrap64 (a1 + 1)) < (l0.length:Int) then (if 0 ≤ (wrap64 (a1 + 2)) then (if (wrap64 (a1 + 2)) < (l0.length:Int) then (if (wrap64 ((wrap64 ((wrap64 (rd l0 (wrap64 (a1 + 1)))) * 256)) + (wrap64 (rd l0 (wrap64 (a1 + 2)))))) < 1 then (wageofficeref43_record.j1 kj3 l0 a1 a2 (wrap64 ((wrap64 ((wrap64 (rd l0 (wrap64 (a1 + 1)))) * 256)) + (wrap64 (rd l0 (wrap64 (a1 + 2)))))) true) else (if (wrap64 ((wrap64 ((wrap64 (rd l0 (wrap64 (a1 + 1)))) * 256)) + (wrap64 (rd l0 (wrap64 (a1 + 2)))))) > 4096 then (wageofficeref43_record.j1 kj3 l0 a1 a2 (wrap64 ((wrap64 ((wrap64 (rd l0 (wrap64 (a1 + 1)))) * 256)) + (wrap64 (rd l0 (wrap64 (a1 + 2)))))) true) else (wageofficeref43_record.j1 kj3 l0 a1 a2 (wrap64 ((wrap64 ((wrap64 (rd l0 (wrap64 (a1 + 1)))) * 256)) + (wrap64 (rd l0 (wrap64 (a1 + 2)))))) (decide ((wrap64 ((l0.length:Int) - a1)) < (wrap64 (13 + (wrap64 ((wrap64 ((wrap64 (rd l0 (wrap64 (a1 + 1)))) * 256)) + (wrap64 (rd l0 (wrap64 (a1 + 2))))))))))))) else (none)) else (none)) else (none)) else (none))=some (r1,r2):=by rw [if_neg (show ¬ (false=true) by decide)] at H;exact H
     clear H
     have H:=H1
     clear H1
     obtain ⟨ji9,hji9⟩:∃ j_:Int,(wrap64 (a1 + 1))=j_:=⟨_,rfl⟩
     replace H:(if 0 ≤ (ji9) then (if (ji9) < (l0.length:Int) then (if 0 ≤ (wrap64 (a1 + 2)) then (if (wrap64 (a1 + 2)) < (l0.length:Int) then (if (wrap64 ((wrap64 ((wrap64 (rd l0 (ji9))) * 256)) + (wrap64 (rd l0 (wrap64 (a1 + 2)))))) < 1 then (wageofficeref43_record.j1 kj3 l0 a1 a2 (wrap64 ((wrap64 ((wrap64 (rd l0 (ji9))) * 256)) + (wrap64 (rd l0 (wrap64 (a1 + 2)))))) true) else (if (wrap64 ((wrap64 ((wrap64 (rd l0 (ji9))) * 256)) + (wrap64 (rd l0 (wrap64 (a1 + 2)))))) > 4096 then (wageofficeref43_record.j1 kj3 l0 a1 a2 (wrap64 ((wrap64 ((wrap64 (rd l0 (ji9))) * 256)) + (wrap64 (rd l0 (wrap64 (a1 + 2)))))) true) else (wageofficeref43_record.j1 kj3 l0 a1 a2 (wrap64 ((wrap64 ((wrap64 (rd l0 (ji9))) * 256)) + (wrap64 (rd l0 (wrap64 (a1 + 2)))))) (decide ((wrap64 ((l0.length:Int) - a1)) < (wrap64 (13 + (wrap64 ((wrap64 ((wrap64 (rd l0 (ji9))) * 256)) + (wrap64 (rd l0 (wrap64 (a1 + 2))))))))))))) else (none)) else (none)) else (none)) else (none))=some (r1,r2):=by first|(rw [hji9] at H;exact H)|(simp only [hji9] at H ⊢;exact H)
     have hji9w:(IntKind.i64.wrap (a1 + 1))=ji9:=(i64_w _).trans hji9
     by_cases c10:0 ≤ (ji9)
     · rw [if_pos c10] at H
       have c10b0:decide (0 ≤ (ji9))=true:=decide_eq_true c10
       clear c10
       by_cases c11:(ji9) < (l0.length:Int)
       · rw [if_pos c11] at H
         have c11b0:decide ((ji9) < (l0.length:Int))=true:=decide_eq_true c11
         clear c11
         obtain ⟨ji12,hji12⟩:∃ j_:Int,(wrap64 (a1 + 2))=j_:=⟨_,rfl⟩
         replace H:(if 0 ≤ (ji12) then (if (ji12) < (l0.length:Int) then (if (wrap64 ((wrap64 ((wrap64 (rd l0 (ji9))) * 256)) + (wrap64 (rd l0 (ji12))))) < 1 then (wageofficeref43_record.j1 kj3 l0 a1 a2 (wrap64 ((wrap64 ((wrap64 (rd l0 (ji9))) * 256)) + (wrap64 (rd l0 (ji12))))) true) else (if (wrap64 ((wrap64 ((wrap64 (rd l0 (ji9))) * 256)) + (wrap64 (rd l0 (ji12))))) > 4096 then (wageofficeref43_record.j1 kj3 l0 a1 a2 (wrap64 ((wrap64 ((wrap64 (rd l0 (ji9))) * 256)) + (wrap64 (rd l0 (ji12))))) true) else (wageofficeref43_record.j1 kj3 l0 a1 a2 (wrap64 ((wrap64 ((wrap64 (rd l0 (ji9))) * 256)) + (wrap64 (rd l0 (ji12))))) (decide ((wrap64 ((l0.length:Int) - a1)) < (wrap64 (13 + (wrap64 ((wrap64 ((wrap64 (rd l0 (ji9))) * 256)) + (wrap64 (rd l0 (ji12)))))))))))) else (none)) else (none))=some (r1,r2):=by first|(rw [hji12] at H;exact H)|(simp only [hji12] at H ⊢;exact H)
         have hji12w:(IntKind.i64.wrap (a1 + 2))=ji12:=(i64_w _).trans hji12
         by_cases c13:0 ≤ (ji12)
         · rw [if_pos c13] at H
           have c13b0:decide (0 ≤ (ji12))=true:=decide_eq_true c13
           clear c13
           by_cases c14:(ji12) < (l0.length:Int)
           · rw [if_pos c14] at H
             have c14b0:decide ((ji12) < (l0.length:Int))=true:=decide_eq_true c14
             clear c14
             have HC15:=Aside0.mk H
             clear H
             try go_wp2
             have n0_:=Aside0.mk (below_drew1 HB.out)
             clear HB
             have HB:=n0_
             clear n0_
             have p200:0 ≤ ((ji9):Int):=of_decide_eq_true (by first|(with_reducible assumption)|assumption)
             have q200:(ji9) < (l0.length:Int):=of_decide_eq_true (by first|(with_reducible assumption)|assumption)
             obtain ⟨ad200,e200,hx200_0⟩:=Kd.at_int HR0.out (ji9) p200 q200
             have hw200_0:=hx200_0
             cases e200
             replace hx200_0:=(HB.out.cell (World.block_lt_of_cell? w _ hx200_0)).trans hx200_0
             replace p200:=eq_true p200
             replace q200:=eq_true q200
             have p201:0 ≤ ((ji12):Int):=of_decide_eq_true (by first|(with_reducible assumption)|assumption)
             have q201:(ji12) < (l0.length:Int):=of_decide_eq_true (by first|(with_reducible assumption)|assumption)
             obtain ⟨ad201,e201,hx201_0⟩:=Kd.at_int HR0.out (ji12) p201 q201
             have hw201_0:=hx201_0
             obtain rfl:ad200=ad201:=(by injection e201)
             replace hx201_0:=(HB.out.cell (World.block_lt_of_cell? w _ hx201_0)).trans hx201_0
             replace p201:=eq_true p201
             replace q201:=eq_true q201
             refine start_ (n:=15) (S:=fun w'=>w'.cell? (ad200.add ((ji9)).toNat)=some (.int .u8 (rd l0 (ji9)))∧w'.cell? (ad200.add ((ji12)).toNat)=some (.int .u8 (rd l0 (ji12)))) (ds:=[]) #[false,false,false,false,false,false,false,false,false,false,false,false,false,false,false] (by kernel_rfl) rfl rfl ⟨((HB.out.cell (World.block_lt_of_cell? w _ hw200_0)).trans hw200_0),((HB.out.cell (World.block_lt_of_cell? w _ hw201_0)).trans hw201_0)⟩ (fun hHeld => ?_);refine with_tabW wageofficeref43_record.tab3 wageofficeref43_record.bits3 (fun HT_ HW_ => ?_)
             generalize wc.drew=w16 at HB hx200_0 hx201_0 hHeld ⊢
             refine pure_ (i:=0) (N:=some 22) (v:=?_) (a':=?_) #[true,false,false,false,false,false,false,false,false,false,false,false,false,false,false] rfl rfl (any_of HT_.out (by kernel_rfl)) (fun _ _ _ h=>h) (Or.inl ⟨by rfl,?_⟩) ?_ ?_
             rotate_left
             · intro w'
               go_simp
               with_reducible rfl
             rotate_left
             · simp only [Act.put,List.setIfInBounds_toArray,List.set_cons_zero,List.set_cons_succ,i64_w,i32_w]
               rfl
             refine pure_ (i:=1) (N:=some 23) (v:=?_) (a':=?_) #[true,true,false,false,false,false,false,false,false,false,false,false,false,false,false] rfl rfl (any_of HT_.out (by kernel_rfl)) (fun _ _ _ h=>h) (Or.inl ⟨by rfl,?_⟩) ?_ ?_
             rotate_left
             · intro w'
               go_simp
               with_reducible rfl
             rotate_left
             · simp only [Act.put,List.setIfInBounds_toArray,List.set_cons_zero,List.set_cons_succ,i64_w,i32_w]
               rfl
             refine pure_ (i:=2) (N:=some 24) (v:=?_) (a':=?_) #[true,true,true,false,false,false,false,false,false,false,false,false,false,false,false] rfl rfl (any_of HT_.out (by kernel_rfl)) (fun _ _ _ h=>h) (Or.inl ⟨by rfl,?_⟩) ?_ ?_
             rotate_left
             · intro w'
               go_simp
               with_reducible rfl
             rotate_left
             · simp only [Act.put,List.setIfInBounds_toArray,List.set_cons_zero,List.set_cons_succ,i64_w,i32_w]
               rfl
             refine pure_ (i:=3) (N:=some 25) (v:=?_) (a':=?_) #[true,true,true,true,false,false,false,false,false,false,false,false,false,false,false] rfl rfl (any_of HT_.out (by kernel_rfl)) (fun _ _ _ h=>h) (Or.inl ⟨by rfl,?_⟩) ?_ ?_
             rotate_left
             · intro w'
               go_simp
               with_reducible rfl
             rotate_left
             · simp only [Act.put,List.setIfInBounds_toArray,List.set_cons_zero,List.set_cons_succ,i64_w,i32_w]
               rfl
             refine pure_ (i:=7) (N:=some 29) (v:=?_) (a':=?_) #[true,true,true,true,false,false,false,true,false,false,false,false,false,false,false] rfl rfl (any_of HT_.out (by kernel_rfl)) (fun _ _ _ h=>h) (Or.inl ⟨by rfl,?_⟩) ?_ ?_
             rotate_left
             · intro w'
               go_simp
               with_reducible rfl
             rotate_left
             · simp only [Act.put,List.setIfInBounds_toArray,List.set_cons_zero,List.set_cons_succ,i64_w,i32_w]
               rfl
             refine pure_ (i:=8) (N:=some 30) (v:=?_) (a':=?_) #[true,true,true,true,false,false,false,true,true,false,false,false,false,false,false] rfl rfl (any_of HT_.out (by kernel_rfl)) (fun _ _ _ h=>h) (Or.inl ⟨by rfl,?_⟩) ?_ ?_
             rotate_left
             · intro w'
               go_simp
               with_reducible rfl
             rotate_left
             · simp only [Act.put,List.setIfInBounds_toArray,List.set_cons_zero,List.set_cons_succ,i64_w,i32_w]
               rfl
             refine pure_ (i:=9) (N:=some 31) (v:=?_) (a':=?_) #[true,true,true,true,false,false,false,true,true,true,false,false,false,false,false] rfl rfl (any_of HT_.out (by kernel_rfl)) (fun _ _ _ h=>h) (Or.inl ⟨by rfl,?_⟩) ?_ ?_
             rotate_left
             · intro w'
               go_simp
               with_reducible rfl
             rotate_left
             · simp only [Act.put,List.setIfInBounds_toArray,List.set_cons_zero,List.set_cons_succ,i64_w,i32_w]
               rfl
             refine pure_ (i:=10) (N:=some 32) (v:=?_) (a':=?_) #[true,true,true,true,false,false,false,true,true,true,true,false,false,false,false] rfl rfl (any_of HT_.out (by kernel_rfl)) (fun _ _ _ h=>h) (Or.inl ⟨by rfl,?_⟩) ?_ ?_
             rotate_left
             · intro w'
               go_simp
               with_reducible rfl
             rotate_left
             · simp only [Act.put,List.setIfInBounds_toArray,List.set_cons_zero,List.set_cons_succ,i64_w,i32_w]
               rfl
             refine take_ (i:=4) (N:=some 26) (v:=?_) (a':=?_) #[true,true,true,true,true,false,false,true,true,true,true,false,false,false,false] rfl rfl (take_ofW HT_.out HW_.out (by kernel_rfl)) (fun _ _ _ h=>h) (Or.inl ⟨by rfl,?_⟩) hHeld ?_ ?_
             rotate_left
             · rintro w' ⟨s0,s1⟩
               go_simp
               with_reducible rfl
             rotate_left
             · simp only [Act.put,List.setIfInBounds_toArray,List.set_cons_zero,List.set_cons_succ,i64_w,i32_w]
               rfl
             refine pure_ (i:=5) (N:=some 27) (v:=?_) (a':=?_) #[true,true,true,true,true,true,false,true,true,true,true,false,false,false,false] rfl rfl (any_of HT_.out (by kernel_rfl)) (fun _ _ _ h=>h) (Or.inl ⟨by rfl,?_⟩) ?_ ?_
             rotate_left
             · intro w'
               go_simp
               with_reducible rfl
             rotate_left
             · simp only [Act.put,List.setIfInBounds_toArray,List.set_cons_zero,List.set_cons_succ,i64_w,i32_w]
               rfl
             refine pure_ (i:=6) (N:=some 28) (v:=?_) (a':=?_) #[true,true,true,true,true,true,true,true,true,true,true,false,false,false,false] rfl rfl (any_of HT_.out (by kernel_rfl)) (fun _ _ _ h=>h) (Or.inl ⟨by rfl,?_⟩) ?_ ?_
             rotate_left
             · intro w'
               go_simp
               with_reducible rfl
             rotate_left
             · simp only [Act.put,List.setIfInBounds_toArray,List.set_cons_zero,List.set_cons_succ,i64_w,i32_w]
               rfl
             refine take_ (i:=11) (N:=some 33) (v:=?_) (a':=?_) #[true,true,true,true,true,true,true,true,true,true,true,true,false,false,false] rfl rfl (take_ofW HT_.out HW_.out (by kernel_rfl)) (fun _ _ _ h=>h) (Or.inl ⟨by rfl,?_⟩) hHeld ?_ ?_
             rotate_left
             · rintro w' ⟨s0,s1⟩
               go_simp
               with_reducible rfl
             rotate_left
             · simp only [Act.put,List.setIfInBounds_toArray,List.set_cons_zero,List.set_cons_succ,i64_w,i32_w]
               rfl
             refine pure_ (i:=12) (N:=some 34) (v:=?_) (a':=?_) #[true,true,true,true,true,true,true,true,true,true,true,true,true,false,false] rfl rfl (any_of HT_.out (by kernel_rfl)) (fun _ _ _ h=>h) (Or.inl ⟨by rfl,?_⟩) ?_ ?_
             rotate_left
             · intro w'
               go_simp
               with_reducible rfl
             rotate_left
             · simp only [Act.put,List.setIfInBounds_toArray,List.set_cons_zero,List.set_cons_succ,i64_w,i32_w]
               rfl
             refine pure_ (i:=13) (N:=some 35) (v:=?_) (a':=?_) #[true,true,true,true,true,true,true,true,true,true,true,true,true,true,false] rfl rfl (any_of HT_.out (by kernel_rfl)) (fun _ _ _ h=>h) (Or.inl ⟨by rfl,?_⟩) ?_ ?_
             rotate_left
             · intro w'
               go_simp
               with_reducible rfl
             rotate_left
             · simp only [Act.put,List.setIfInBounds_toArray,List.set_cons_zero,List.set_cons_succ,i64_w,i32_w]
               rfl
             refine pure_ (i:=14) (N:=some 8) (v:=?_) (a':=?_) #[true,true,true,true,true,true,true,true,true,true,true,true,true,true,true] rfl rfl (any_of HT_.out (by kernel_rfl)) (fun _ _ _ h=>h) (Or.inl ⟨by rfl,?_⟩) ?_ ?_
             rotate_left
             · intro w'
               go_simp
               with_reducible rfl
             rotate_left
             · simp only [Act.put,List.setIfInBounds_toArray,List.set_cons_zero,List.set_cons_succ,i64_w,i32_w]
               rfl
             refine done_ (done_of HT_.out (by kernel_rfl)) ?_
             go_upto_region 4 with (fail)
             go_cut [50] (fun v50 wc=>∃ (kq:Nat) (x50_14:Bool),v50=.bool x50_14∧Aside0 (wageofficeref43_record.j1 kq l0 a1 a2 (wrap64 ((wrap64 ((wrap64 (rd l0 (ji9))) * 256)) + (wrap64 (rd l0 (ji12))))) x50_14=some (r1,r2))∧Aside0 (kq ≤ kj3)∧Aside0 (Below w.heap.size w wc))
             case first =>
              have H:=HC15.out
              clear HC15
              by_cases c17:(wrap64 ((wrap64 ((wrap64 (rd l0 (ji9))) * 256)) + (wrap64 (rd l0 (ji12))))) < 1
              · rw [if_pos c17] at H
                have c17b0:decide ((wrap64 ((wrap64 ((wrap64 (rd l0 (ji9))) * 256)) + (wrap64 (rd l0 (ji12))))) < 1)=true:=decide_eq_true c17
                clear c17
                (first|rw [c17b0]|(simp only [i64_w,i32_w];rw [c17b0])|skip)
                have H':=Aside0.mk H
                clear H
                go_wp2
                go_meet
                case rel=>exact ⟨_,(true),(by first|rfl|(simp;done)|(simp [*];done)),H',⟨by have:=HJ3.out;first|omega|exact Nat.le_refl _⟩,⟨by repeat (first|(with_reducible first|exact HB.out|apply below_alloc|apply pw_below_drewN|apply below_drew1)|exact HB.out)⟩⟩
              · rw [if_neg c17] at H
                have c17b0:decide ((wrap64 ((wrap64 ((wrap64 (rd l0 (ji9))) * 256)) + (wrap64 (rd l0 (ji12))))) < 1)=false:=decide_eq_false c17
                clear c17
                (first|rw [c17b0]|(simp only [i64_w,i32_w];rw [c17b0])|skip)
                by_cases c18:(wrap64 ((wrap64 ((wrap64 (rd l0 (ji9))) * 256)) + (wrap64 (rd l0 (ji12))))) > 4096
                · rw [if_pos c18] at H
                  have c18b0:decide (4096 < (wrap64 ((wrap64 ((wrap64 (rd l0 (ji9))) * 256)) + (wrap64 (rd l0 (ji12))))))=true:=decide_eq_true c18
                  clear c18
                  have H':=Aside0.mk H
                  clear H
                  go_wp2
                  go_meet
                  case rel=>exact ⟨_,(true),(by first|rfl|(simp;done)|(simp [*];done)),H',⟨by have:=HJ3.out;first|omega|exact Nat.le_refl _⟩,⟨by repeat (first|(with_reducible first|exact HB.out|apply below_alloc|apply pw_below_drewN|apply below_drew1)|exact HB.out)⟩⟩
                · rw [if_neg c18] at H
                  have c18b0:decide (4096 < (wrap64 ((wrap64 ((wrap64 (rd l0 (ji9))) * 256)) + (wrap64 (rd l0 (ji12))))))=false:=decide_eq_false c18
                  clear c18
                  have H':=Aside0.mk H
                  clear H
                  go_wp2
                  go_meet
                  case rel=>exact ⟨_,(decide ((wrap64 ((l0.length:Int) - a1)) < (wrap64 (13 + (wrap64 ((wrap64 ((wrap64 (rd l0 (ji9))) * 256)) + (wrap64 (rd l0 (ji12))))))))),(by first|rfl|(simp;done)|(simp only [← hji9,← hji12] <;> (first|rfl|simp))|(simp [*];done)),H',⟨by have:=HJ3.out;first|omega|exact Nat.le_refl _⟩,⟨by repeat (first|(with_reducible first|exact HB.out|apply below_alloc|apply pw_below_drewN|apply below_drew1)|exact HB.out)⟩⟩
             case rest =>
              clear HC15
              try clear c1
              try clear p1
              try clear q1
              try clear hx1
              try clear p2
              try clear q2
              try clear hx2
              try clear c5
              try clear c5b0
              try clear c6
              try clear c6b0
              try clear p6
              try clear c7
              try clear c7b0
              try clear c8
              try clear c10
              try clear c10b0
              try clear c11
              try clear c11b0
              try clear c13
              try clear c13b0
              try clear c14
              try clear c14b0
              try clear c17
              try clear c17b0
              try clear c18
              try clear c18b0
              try clear hx199_0
              try clear hx200_0
              try clear hx201_0
              try clear p1
              try clear p199
              try clear p2
              try clear p200
              try clear p201
              try clear p6
              try clear q1
              try clear q199
              try clear q200
              try clear q201
              obtain ⟨kq,x50_14,rfl,HA,HJ14,HB⟩:=hcut
              cases kq with
              | zero=>exact absurd HA.out (by simp [wageofficeref43_record.j1])
              | succ kj14 =>
               have H:=HA.out
               clear HA
               simp only [wageofficeref43_record.j1] at H
               by_cases c19:x50_14=true
               · subst c19
                 have H1:(some (([]:List Int),false))=some (r1,r2):=by rw [if_pos rfl] at H;exact H
                 clear H
                 have H:=H1
                 clear H1
                 simp only [Option.some.injEq,Prod.mk.injEq] at H
                 obtain ⟨rfl,rfl⟩:=H
                 go_wp2
                 go_ret2
                 exact ⟨_,by first|rfl|(simp [errW_none,errW_some] <;> rfl)|(simp only [← hji9,← hji12];first|rfl|(simp [errW_none,errW_some] <;> rfl))|(simp [*,errW_none,errW_some] <;> rfl),by first|exact Kd.R_nil _ _ _ _ _|exact Kd.N_nil _ _ _ _ _|exact Kd.V_nil _ _ _ _ _|exact Kd.Q_nil _ _ _ _ _|exact Kd.S_nil _ _ _ _ _,by repeat (first|(with_reducible first|exact HB.out|apply below_alloc|apply pw_below_drewN|apply below_drew1)|exact HB.out)⟩
               · replace c19:=Bool.eq_false_iff.mpr c19
                 subst c19
                 have H1:(if 0 ≤ (wrap64 (a1 + 13)) then (if (wrap64 (a1 + 13)) ≤ (wrap64 ((wrap64 (a1 + 13)) + (wrap64 ((wrap64 ((wrap64 (rd l0 (ji9))) * 256)) + (wrap64 (rd l0 (ji12))))))) then (if (wrap64 ((wrap64 (a1 + 13)) + (wrap64 ((wrap64 ((wrap64 (rd l0 (ji9))) * 256)) + (wrap64 (rd l0 (ji12))))))) ≤ (l0.length:Int) then (if ([]:List Int).length + ((l0.take ((wrap64 ((wrap64 (a1 + 13)) + (wrap64 ((wrap64 ((wrap64 (rd l0 (ji9))) * 256)) + (wrap64 (rd l0 (ji12))))))):Int).toNat).drop ((wrap64 (a1 + 13)):Int).toNat).length < 140737488355328 then ((some (([]:List Int) ++ ((l0.take ((wrap64 ((wrap64 (a1 + 13)) + (wrap64 ((wrap64 ((wrap64 (rd l0 (ji9))) * 256)) + (wrap64 (rd l0 (ji12))))))):Int).toNat).drop ((wrap64 (a1 + 13)):Int).toNat):List Int)).bind fun y203=>((wageofficeref43_Code.f kj14 y203 a2).bind fun t206=>(if 0 ≤ a1 then (if a1 ≤ (wrap64 ((wrap64 (a1 + 13)) + (wrap64 ((wrap64 ((wrap64 (rd l0 (ji9))) * 256)) + (wrap64 (rd l0 (ji12))))))) then ((wageofficeref43_Same.f kj14 t206 ((l0.take ((wrap64 ((wrap64 (a1 + 13)) + (wrap64 ((wrap64 ((wrap64 (rd l0 (ji9))) * 256)) + (wrap64 (rd l0 (ji12))))))):Int).toNat).drop (a1:Int).toNat)).bind fun t210=>(some (y203,t210))) else (none)) else (none)))) else (none)) else (none)) else (none)) else (none))=some (r1,r2):=by rw [if_neg (show ¬ (false=true) by decide)] at H;exact H
                 clear H
                 have H:=H1
                 clear H1
                 obtain ⟨ji20,hji20⟩:∃ j_:Int,(wrap64 (a1 + 13))=j_:=⟨_,rfl⟩
                 replace H:(if 0 ≤ (ji20) then (if (ji20) ≤ (wrap64 ((ji20) + (wrap64 ((wrap64 ((wrap64 (rd l0 (ji9))) * 256)) + (wrap64 (rd l0 (ji12))))))) then (if (wrap64 ((ji20) + (wrap64 ((wrap64 ((wrap64 (rd l0 (ji9))) * 256)) + (wrap64 (rd l0 (ji12))))))) ≤ (l0.length:Int) then (if ([]:List Int).length + ((l0.take ((wrap64 ((ji20) + (wrap64 ((wrap64 ((wrap64 (rd l0 (ji9))) * 256)) + (wrap64 (rd l0 (ji12))))))):Int).toNat).drop ((ji20):Int).toNat).length < 140737488355328 then ((some (([]:List Int) ++ ((l0.take ((wrap64 ((ji20) + (wrap64 ((wrap64 ((wrap64 (rd l0 (ji9))) * 256)) + (wrap64 (rd l0 (ji12))))))):Int).toNat).drop ((ji20):Int).toNat):List Int)).bind fun y203=>((wageofficeref43_Code.f kj14 y203 a2).bind fun t206=>(if 0 ≤ a1 then (if a1 ≤ (wrap64 ((ji20) + (wrap64 ((wrap64 ((wrap64 (rd l0 (ji9))) * 256)) + (wrap64 (rd l0 (ji12))))))) then ((wageofficeref43_Same.f kj14 t206 ((l0.take ((wrap64 ((ji20) + (wrap64 ((wrap64 ((wrap64 (rd l0 (ji9))) * 256)) + (wrap64 (rd l0 (ji12))))))):Int).toNat).drop (a1:Int).toNat)).bind fun t210=>(some (y203,t210))) else (none)) else (none)))) else (none)) else (none)) else (none)) else (none))=some (r1,r2):=by first|(rw [hji20] at H;exact H)|(simp only [hji20] at H ⊢;exact H)
                 have hji20w:(IntKind.i64.wrap (a1 + 13))=ji20:=(i64_w _).trans hji20
                 by_cases c21:0 ≤ (ji20)
                 · rw [if_pos c21] at H
                   have c21b0:=eq_true c21
                   have c21b1:decide (0 ≤ (ji20))=true:=decide_eq_true c21
                   clear c21
                   by_cases c22:(ji20) ≤ (wrap64 ((ji20) + (wrap64 ((wrap64 ((wrap64 (rd l0 (ji9))) * 256)) + (wrap64 (rd l0 (ji12)))))))
                   · rw [if_pos c22] at H
                     have c22b0:=eq_true c22
                     have c22b1:decide ((ji20) ≤ (wrap64 ((ji20) + (wrap64 ((wrap64 ((wrap64 (rd l0 (ji9))) * 256)) + (wrap64 (rd l0 (ji12))))))))=true:=decide_eq_true c22
                     by_cases c23:(wrap64 ((ji20) + (wrap64 ((wrap64 ((wrap64 (rd l0 (ji9))) * 256)) + (wrap64 (rd l0 (ji12))))))) ≤ (l0.length:Int)
                     · rw [if_pos c23] at H
                       have c23b0:=eq_true c23
                       have c23b1:decide ((wrap64 ((ji20) + (wrap64 ((wrap64 ((wrap64 (rd l0 (ji9))) * 256)) + (wrap64 (rd l0 (ji12))))))) ≤ (l0.length:Int))=true:=decide_eq_true c23
                       by_cases c24:([]:List Int).length + ((l0.take ((wrap64 ((ji20) + (wrap64 ((wrap64 ((wrap64 (rd l0 (ji9))) * 256)) + (wrap64 (rd l0 (ji12))))))):Int).toNat).drop ((ji20):Int).toNat).length < 140737488355328
                       · rw [if_pos c24] at H
                         have LMc24:=Aside0.mk c24
                         clear c24
                         obtain ⟨y203,hy203⟩:∃ y_:List Int,y_=(([]:List Int) ++ ((l0.take ((wrap64 ((ji20) + (wrap64 ((wrap64 ((wrap64 (rd l0 (ji9))) * 256)) + (wrap64 (rd l0 (ji12))))))):Int).toNat).drop ((ji20):Int).toNat)):=⟨_,rfl⟩
                         replace H:((wageofficeref43_Code.f kj14 y203 a2).bind fun t206=>(if 0 ≤ a1 then (if a1 ≤ (wrap64 ((ji20) + (wrap64 ((wrap64 ((wrap64 (rd l0 (ji9))) * 256)) + (wrap64 (rd l0 (ji12))))))) then ((wageofficeref43_Same.f kj14 t206 ((l0.take ((wrap64 ((ji20) + (wrap64 ((wrap64 ((wrap64 (rd l0 (ji9))) * 256)) + (wrap64 (rd l0 (ji12))))))):Int).toNat).drop (a1:Int).toNat)).bind fun t210=>(some (y203,t210))) else (none)) else (none)))=some (r1,r2):=by first|(rw [hy203];with_reducible exact H)|(have H2_:=(Option.bind_some _ _).symm.trans H;rw [hy203];with_reducible exact H2_)|(have H2_:=(Option.bind_some _ _).symm.trans H;with_reducible exact H2_)|with_reducible exact H|(rw [hy203];exact H)|exact H
                         have Ny203:=Aside0.mk hy203
                         clear hy203
                         replace H:=Option.bind_eq_some_iff.mp H
                         obtain ⟨t206,A250,H⟩:=H
                         replace H:(if 0 ≤ a1 then (if a1 ≤ (wrap64 ((ji20) + (wrap64 ((wrap64 ((wrap64 (rd l0 (ji9))) * 256)) + (wrap64 (rd l0 (ji12))))))) then ((wageofficeref43_Same.f kj14 t206 ((l0.take ((wrap64 ((ji20) + (wrap64 ((wrap64 ((wrap64 (rd l0 (ji9))) * 256)) + (wrap64 (rd l0 (ji12))))))):Int).toNat).drop (a1:Int).toNat)).bind fun t210=>(some (y203,t210))) else (none)) else (none))=some (r1,r2):=H
                         have A25:=Aside0.mk A250
                         clear A250
                         by_cases c26:0 ≤ a1
                         · rw [if_pos c26] at H
                           have c26b0:=eq_true c26
                           have c26b1:decide (0 ≤ a1)=true:=decide_eq_true c26
                           clear c26
                           by_cases c27:a1 ≤ (wrap64 ((ji20) + (wrap64 ((wrap64 ((wrap64 (rd l0 (ji9))) * 256)) + (wrap64 (rd l0 (ji12)))))))
                           · rw [if_pos c27] at H
                             have c27b0:=eq_true c27
                             have c27b1:decide (a1 ≤ (wrap64 ((ji20) + (wrap64 ((wrap64 ((wrap64 (rd l0 (ji9))) * 256)) + (wrap64 (rd l0 (ji12))))))))=true:=decide_eq_true c27
                             have c28b0:=eq_true (of_decide_eq_true (by first|(with_reducible assumption)|assumption):(wrap64 ((ji20) + (wrap64 ((wrap64 ((wrap64 (rd l0 (ji9))) * 256)) + (wrap64 (rd l0 (ji12))))))) ≤ (l0.length:Int))
                             replace H:=Option.bind_eq_some_iff.mp H
                             obtain ⟨t210,A290,H⟩:=H
                             replace H:(some (y203,t210))=some (r1,r2):=H
                             have A29:=Aside0.mk A290
                             clear A290
                             simp only [Option.some.injEq,Prod.mk.injEq] at H
                             obtain ⟨rfl,rfl⟩:=H
                             obtain ⟨i030,hi030,_,hsz30,_⟩:=info_parts info5
                             obtain ⟨A30,hcut30,hA30,hC30⟩:=print_mid_of (P:=Try.prog) (Value.int .u8) 0 22 5 .i64 .i64 Try.underlying22 hi030 hsz30 (some ad200) c0 l0 (ji20) (wrap64 ((ji20) + (wrap64 ((wrap64 ((wrap64 (rd l0 (ji9))) * 256)) + (wrap64 (rd l0 (ji12))))))) (of_decide_eq_true (by first|(with_reducible assumption)|assumption)) (by first|omega|exact of_decide_eq_true (by first|(with_reducible assumption)|assumption)) (of_decide_eq_true (by first|(with_reducible assumption)|assumption)) HC0.out
                             have HR202:=Aside0.mk (Kd.C_of_reads (h1:=fun _=>rfl) (hA30 _ (Kd.reads_of_C HR0.out)))
                             have HC202:=Aside0.mk hC30
                             clear hA30 hC30 hi030 hsz30
                             try go_wp2_with (first|((with_reducible refine gate_builtin (b:=.append) (xs:=#[.tmp 51,.tmp 59]) rfl ?_);(try (refine gate_guard (by rfl) ?_;dsimp only));at_builtin;refine Kd.R_append_rows (Kd.int .u8) (w0:=w) w.heap.size rfl (.tmp 51) (.tmp 59) 22 5 (.int .u8 0) 1 rfl Try.underlying22 info5 rfl (by decide) (by omega) (.slice none 0 0) ([]:List Int) ((l0.take ((wrap64 ((ji20) + (wrap64 ((wrap64 ((wrap64 (rd l0 (ji9))) * 256)) + (wrap64 (rd l0 (ji12))))))):Int).toNat).drop ((ji20):Int).toNat) _ _ _ (fun _=>True) (fun _=>False) rfl rfl ?aO ?aR (fun _ _ h=>h) (fun _ h=>h.elim) ?aF ?aB ?aS ?aL ?_;(case aR=>first|(rw [← show ((l0.take ((wrap64 ((ji20) + (wrap64 ((wrap64 ((wrap64 (rd l0 (ji9))) * 256)) + (wrap64 (rd l0 (ji12))))))):Int).toNat).drop ((ji20):Int).toNat).length=((wrap64 ((ji20) + (wrap64 ((wrap64 ((wrap64 (rd l0 (ji9))) * 256)) + (wrap64 (rd l0 (ji12))))))).toNat - (ji20).toNat) from (by rw [List.length_drop,List.length_take];have h_:((wrap64 ((ji20) + (wrap64 ((wrap64 ((wrap64 (rd l0 (ji9))) * 256)) + (wrap64 (rd l0 (ji12))))))):Int) ≤ (l0.length:Int):=of_decide_eq_true (by first|(with_reducible assumption)|assumption);omega)];repeat (first|exact (Kd.C_below HR202.out HB.out)|(with_reducible refine Kd.C_alloc ?_ _)|(with_reducible refine Kd.C_drewN ?_ _)|(with_reducible refine Kd.C_drew ?_)))|(repeat (first|exact (Kd.C_below HR202.out HB.out)|(with_reducible refine Kd.C_alloc ?_ _)|(with_reducible refine Kd.C_drewN ?_ _)|(with_reducible refine Kd.C_drew ?_))));(case aB=>exact (by repeat (first|(with_reducible first|exact HB.out|apply below_alloc|apply pw_below_drewN|apply below_drew1)|exact HB.out)));(case aF=>exact (fun _ _=>trivial));(case aO=>exact ((Kd.R_nil _ _ _ _ (fun _=>True))));(case aS=>exact (below_size (by repeat (first|(with_reducible first|exact HB.out|apply below_alloc|apply pw_below_drewN|apply below_drew1)|exact HB.out))));(case aL=>have:=LMc24.out;have hlx_:=(show ((l0.take ((wrap64 ((ji20) + (wrap64 ((wrap64 ((wrap64 (rd l0 (ji9))) * 256)) + (wrap64 (rd l0 (ji12))))))):Int).toNat).drop ((ji20):Int).toNat).length=((wrap64 ((ji20) + (wrap64 ((wrap64 ((wrap64 (rd l0 (ji9))) * 256)) + (wrap64 (rd l0 (ji12))))))).toNat - (ji20).toNat) from (by rw [List.length_drop,List.length_take];have h_:((wrap64 ((ji20) + (wrap64 ((wrap64 ((wrap64 (rd l0 (ji9))) * 256)) + (wrap64 (rd l0 (ji12))))))):Int) ≤ (l0.length:Int):=of_decide_eq_true (by first|(with_reducible assumption)|assumption);omega));omega);intro v204 w31 ho hb hg hat;rw [← Ny203.out] at ho;have n0_:=Aside0.mk (hb);have n1_:=Aside0.mk (ho);clear HB;have HB:=n0_;have HO205:=n1_;clear n0_ n1_;clear ho hb hg hat))
                             have n0_:=Aside0.mk (Kd.R_drew HO205.out)
                             have n1_:=Aside0.mk (below_drew1 HB.out)
                             clear HO205
                             clear HB
                             have HO205:=n0_
                             have HB:=n1_
                             clear n0_ n1_
                             obtain ⟨i033,hi033,_,hsz33,_⟩:=info_parts info5
                             obtain ⟨A33,hcut33,hA33,hC33⟩:=print_mid_of (P:=Try.prog) (Value.int .u8) 0 22 5 .i64 .i64 Try.underlying22 hi033 hsz33 (some ad200) c0 l0 a1 (wrap64 ((ji20) + (wrap64 ((wrap64 ((wrap64 (rd l0 (ji9))) * 256)) + (wrap64 (rd l0 (ji12))))))) (of_decide_eq_true (by first|(with_reducible assumption)|assumption)) (by first|omega|exact of_decide_eq_true (by first|(with_reducible assumption)|assumption)) (of_decide_eq_true (by first|(with_reducible assumption)|assumption)) HC0.out
                             have HR209:=Aside0.mk (Kd.C_of_reads (h1:=fun _=>rfl) (hA33 _ (Kd.reads_of_C HR0.out)))
                             have HC209:=Aside0.mk hC33
                             clear hA33 hC33 hi033 hsz33
                             obtain ⟨Ao34,co34,eo34⟩:=Kd.R_slice HO205.out
                             (first|subst eo34|(injection eo34 with f1_ f2_ f3_;have f4_:=f1_.symm;have f5_:=f3_.symm;clear f1_ f2_ f3_;subst f4_;subst f5_))
                             refine start_ (n:=14) (S:=fun w'=>True) (ds:=[]) #[false,false,false,false,false,false,false,false,false,false,false,false,false,false] (by kernel_rfl) rfl rfl trivial (fun hHeld => ?_);refine with_tabW wageofficeref43_record.tab8 wageofficeref43_record.bits8 (fun HT_ HW_ => ?_)
                             generalize w31.drew=w32 at HO205 HB HR209 hHeld ⊢
                             refine pure_ (i:=0) (N:=some 61) (v:=?_) (a':=?_) #[true,false,false,false,false,false,false,false,false,false,false,false,false,false] rfl rfl (any_of HT_.out (by kernel_rfl)) (fun _ _ _ h=>h) (Or.inl ⟨by rfl,?_⟩) ?_ ?_
                             rotate_left
                             · intro w'
                               go_simp
                               with_reducible rfl
                             rotate_left
                             · simp only [Act.put,List.setIfInBounds_toArray,List.set_cons_zero,List.set_cons_succ,i64_w,i32_w]
                               rfl
                             refine pure_ (i:=1) (N:=some 62) (v:=?_) (a':=?_) #[true,true,false,false,false,false,false,false,false,false,false,false,false,false] rfl rfl (any_of HT_.out (by kernel_rfl)) (fun _ _ _ h=>h) (Or.inl ⟨by rfl,?_⟩) ?_ ?_
                             rotate_left
                             · intro w'
                               go_simp
                               with_reducible rfl
                             rotate_left
                             · simp only [Act.put,List.setIfInBounds_toArray,List.set_cons_zero,List.set_cons_succ,i64_w,i32_w]
                               rfl
                             refine pure_ (i:=2) (N:=some 63) (v:=?_) (a':=?_) #[true,true,true,false,false,false,false,false,false,false,false,false,false,false] rfl rfl (any_of HT_.out (by kernel_rfl)) (fun _ _ _ h=>h) (Or.inl ⟨by rfl,?_⟩) ?_ ?_
                             rotate_left
                             · intro w'
                               go_simp
                               with_reducible rfl
                             rotate_left
                             · simp only [Act.put,List.setIfInBounds_toArray,List.set_cons_zero,List.set_cons_succ,i64_w,i32_w]
                               rfl
                             refine pure_ (i:=4) (N:=some 65) (v:=?_) (a':=?_) #[true,true,true,false,true,false,false,false,false,false,false,false,false,false] rfl rfl (any_of HT_.out (by kernel_rfl)) (fun _ _ _ h=>h) (Or.inl ⟨by rfl,?_⟩) ?_ ?_
                             rotate_left
                             · intro w'
                               go_simp
                               with_reducible rfl
                             rotate_left
                             · simp only [Act.put,List.setIfInBounds_toArray,List.set_cons_zero,List.set_cons_succ,i64_w,i32_w]
                               rfl
                             refine pure_ (i:=5) (N:=some 66) (v:=?_) (a':=?_) #[true,true,true,false,true,true,false,false,false,false,false,false,false,false] rfl rfl (any_of HT_.out (by kernel_rfl)) (fun _ _ _ h=>h) (Or.inl ⟨by rfl,?_⟩) ?_ ?_
                             rotate_left
                             · intro w'
                               go_simp
                               with_reducible rfl
                             rotate_left
                             · simp only [Act.put,List.setIfInBounds_toArray,List.set_cons_zero,List.set_cons_succ,i64_w,i32_w]
                               rfl
                             refine pure_ (i:=6) (N:=some 67) (v:=?_) (a':=?_) #[true,true,true,false,true,true,true,false,false,false,false,false,false,false] rfl rfl (any_of HT_.out (by kernel_rfl)) (fun _ _ _ h=>h) (Or.inl ⟨by rfl,?_⟩) ?_ ?_
                             rotate_left
                             · intro w'
                               go_simp
                               with_reducible rfl
                             rotate_left
                             · simp only [Act.put,List.setIfInBounds_toArray,List.set_cons_zero,List.set_cons_succ,i64_w,i32_w]
                               rfl
                             refine pure_ (i:=7) (N:=some 68) (v:=?_) (a':=?_) #[true,true,true,false,true,true,true,true,false,false,false,false,false,false] rfl rfl (any_of HT_.out (by kernel_rfl)) (fun _ _ _ h=>h) (Or.inl ⟨by rfl,?_⟩) ?_ ?_
                             rotate_left
                             · intro w'
                               go_simp
                               with_reducible rfl
                             rotate_left
                             · simp only [Act.put,List.setIfInBounds_toArray,List.set_cons_zero,List.set_cons_succ,i64_w,i32_w]
                               rfl
                             refine pure_ (i:=8) (N:=some 69) (v:=?_) (a':=?_) #[true,true,true,false,true,true,true,true,true,false,false,false,false,false] rfl rfl (any_of HT_.out (by kernel_rfl)) (fun _ _ _ h=>h) (Or.inl ⟨by rfl,?_⟩) ?_ ?_
                             rotate_left
                             · intro w'
                               go_simp
                               with_reducible rfl
                             rotate_left
                             · simp only [Act.put,List.setIfInBounds_toArray,List.set_cons_zero,List.set_cons_succ,i64_w,i32_w]
                               rfl
                             refine pure_ (i:=9) (N:=some 70) (v:=?_) (a':=?_) #[true,true,true,false,true,true,true,true,true,true,false,false,false,false] rfl rfl (any_of HT_.out (by kernel_rfl)) (fun _ _ _ h=>h) (Or.inl ⟨by rfl,?_⟩) ?_ ?_
                             rotate_left
                             · intro w'
                               go_simp
                               with_reducible rfl
                             rotate_left
                             · simp only [Act.put,List.setIfInBounds_toArray,List.set_cons_zero,List.set_cons_succ,i64_w,i32_w]
                               rfl
                             refine pure_ (i:=10) (N:=some 71) (v:=?_) (a':=?_) #[true,true,true,false,true,true,true,true,true,true,true,false,false,false] rfl rfl (any_of HT_.out (by kernel_rfl)) (fun _ _ _ h=>h) (Or.inl ⟨by rfl,?_⟩) ?_ ?_
                             rotate_left
                             · intro w'
                               go_simp
                               with_reducible rfl
                             rotate_left
                             · simp only [Act.put,List.setIfInBounds_toArray,List.set_cons_zero,List.set_cons_succ,i64_w,i32_w]
                               rfl
                             refine one_ (i:=3) (N:=some 64) #[true,true,true,true,true,true,true,true,true,true,true,false,false,false] rfl rfl (one_of HT_.out (by kernel_rfl)) (by decide) (fun K hK => ?_)
                             refine goes_ Try.func56 (by kernel_rfl) rfl #[.slice Ao34 y203.length co34,.int .i64 a2] (by rfl) rfl rfl (by (try simp only [List.map_toArray,List.map_cons,List.map_nil]);first|done|rfl|(simp only [List.length_drop,List.length_take];rfl)) ?_
                             with_reducible refine (wageofficeref43_Code.calls kj14 _ _ y203 a2 t206 _ ?side1 ?side2 A25.out).mono ?_
                             (case side1=>repeat (first|exact (Kd.R_reads' HO205.out).2.2|(with_reducible refine Kd.C_alloc ?_ _)|(with_reducible refine Kd.C_drewN ?_ _)|(with_reducible refine Kd.C_drew ?_)))
                             (case side2=>exact (Kd.R_reads' HO205.out).2.1)
                             rintro e w35 ⟨v207,rfl,ho0,hb⟩
                             refine ⟨_,rfl,?_⟩
                             have n0_:=Aside0.mk (Kd.R_elder' (by (with_reducible repeat (first|apply Kd.R_alloc|apply Kd.R_drewN|apply Kd.R_drew));exact HO205.out) (Kd.R_base ho0) hb)
                             have n1_:=Aside0.mk (Kd.R_lower (Kd.R_new' ho0 (Kd.R_lt (by (with_reducible repeat (first|apply Kd.R_alloc|apply Kd.R_drewN|apply Kd.R_drew));exact HO205.out))) (below_size (by repeat (first|(with_reducible first|exact HB.out|apply below_alloc|apply pw_below_drewN|apply below_drew1)|exact HB.out))))
                             have n2_:=Aside0.mk (below_step (by repeat (first|(with_reducible first|exact HB.out|apply below_alloc|apply pw_below_drewN|apply below_drew1)|exact HB.out)) hb)
                             clear HO205
                             clear HB
                             have HO205:=n0_
                             have HO208:=n1_
                             have HB:=n2_
                             clear n0_ n1_ n2_
                             (try clear hb)
                             (try clear hb2)
                             (try clear hk)
                             (try clear hi)
                             (try clear ho0)
                             obtain ⟨Ao36,co36,eo36⟩:=Kd.R_slice HO208.out
                             (first|subst eo36|(injection eo36 with f1_ f2_ f3_;have f4_:=f1_.symm;have f5_:=f3_.symm;clear f1_ f2_ f3_;subst f4_;subst f5_))
                             refine hK.out _ _ trivial (fun hHeld => ?_)
                             clear hK K
                             refine norm_ (a':=?_) ?_ ?_
                             rotate_left
                             · show Act.put _ (some 64) _=_
                               simp only [Act.put,List.setIfInBounds_toArray,List.set_cons_zero,List.set_cons_succ,i64_w,i32_w]
                               rfl
                             refine one_ (i:=11) (N:=some 72) #[true,true,true,true,true,true,true,true,true,true,true,true,false,false] rfl rfl (one_of HT_.out (by kernel_rfl)) (by decide) (fun K hK => ?_)
                             refine goes_ Try.func41 (by kernel_rfl) rfl #[.slice Ao36 t206.length co36,.slice A33 ((l0.take ((wrap64 ((ji20) + (wrap64 ((wrap64 ((wrap64 (rd l0 (ji9))) * 256)) + (wrap64 (rd l0 (ji12))))))):Int).toNat).drop (a1:Int).toNat).length (c0 - a1.toNat)] (by rfl) rfl rfl (by (try simp only [List.map_toArray,List.map_cons,List.map_nil]);first|done|(rw [show ((l0.take ((wrap64 ((ji20) + (wrap64 ((wrap64 ((wrap64 (rd l0 (ji9))) * 256)) + (wrap64 (rd l0 (ji12))))))):Int).toNat).drop (a1:Int).toNat).length=((wrap64 ((ji20) + (wrap64 ((wrap64 ((wrap64 (rd l0 (ji9))) * 256)) + (wrap64 (rd l0 (ji12))))))).toNat - a1.toNat) from (by rw [List.length_drop,List.length_take];have h_:((wrap64 ((ji20) + (wrap64 ((wrap64 ((wrap64 (rd l0 (ji9))) * 256)) + (wrap64 (rd l0 (ji12))))))):Int) ≤ (l0.length:Int):=of_decide_eq_true (by first|(with_reducible assumption)|assumption);omega)] <;> rfl)|(simp only [hji12,hji20,hji9];rfl)|rfl|(simp only [List.length_drop,List.length_take];rfl)) ?_
                             with_reducible refine (wageofficeref43_Same.calls kj14 _ _ t206 _ _ ((l0.take ((wrap64 ((ji20) + (wrap64 ((wrap64 ((wrap64 (rd l0 (ji9))) * 256)) + (wrap64 (rd l0 (ji12))))))):Int).toNat).drop (a1:Int).toNat) t210 _ ?side1 ?side2 ?side3 ?side4 A29.out).mono ?_
                             (case side1=>repeat (first|exact (Kd.R_reads' HO208.out).2.2|(with_reducible refine Kd.C_alloc ?_ _)|(with_reducible refine Kd.C_drewN ?_ _)|(with_reducible refine Kd.C_drew ?_)))
                             (case side2=>exact (Kd.R_reads' HO208.out).2.1)
                             (case side3=>repeat (first|exact (Kd.C_below HR209.out HB.out)|(with_reducible refine Kd.C_alloc ?_ _)|(with_reducible refine Kd.C_drewN ?_ _)|(with_reducible refine Kd.C_drew ?_)))
                             (case side4=>exact HC209.out)
                             rintro e w' ⟨rfl,⟨nd,rfl⟩⟩
                             refine ⟨_,rfl,?_⟩
                             refine hK.out _ _ trivial (fun hHeld => ?_)
                             clear hK K
                             refine norm_ (a':=?_) ?_ ?_
                             rotate_left
                             · show Act.put _ (some 72) _=_
                               simp only [Act.put,List.setIfInBounds_toArray,List.set_cons_zero,List.set_cons_succ,i64_w,i32_w]
                               rfl
                             refine pure_ (i:=12) (N:=some 6) (v:=?_) (a':=?_) #[true,true,true,true,true,true,true,true,true,true,true,true,true,false] rfl rfl (any_of HT_.out (by kernel_rfl)) (fun _ _ _ h=>h) (Or.inl ⟨by rfl,?_⟩) ?_ ?_
                             rotate_left
                             · intro w'
                               go_simp
                               with_reducible rfl
                             rotate_left
                             · simp only [Act.put,List.setIfInBounds_toArray,List.set_cons_zero,List.set_cons_succ,i64_w,i32_w]
                               rfl
                             refine pure_ (i:=13) (N:=some 7) (v:=?_) (a':=?_) #[true,true,true,true,true,true,true,true,true,true,true,true,true,true] rfl rfl (any_of HT_.out (by kernel_rfl)) (fun _ _ _ h=>h) (Or.inl ⟨by rfl,?_⟩) ?_ ?_
                             rotate_left
                             · intro w'
                               go_simp
                               with_reducible rfl
                             rotate_left
                             · simp only [Act.put,List.setIfInBounds_toArray,List.set_cons_zero,List.set_cons_succ,i64_w,i32_w]
                               rfl
                             refine done_ (done_of HT_.out (by kernel_rfl)) ?_
                             try go_wp2
                             go_ret2
                             exact ⟨_,by first|rfl|(simp [errW_none,errW_some] <;> rfl)|(simp only [← hji9,← hji12,← hji20];first|rfl|(simp [errW_none,errW_some] <;> rfl))|(simp [*,errW_none,errW_some] <;> rfl),by (with_reducible repeat (first|apply Kd.R_alloc|apply Kd.R_drewN|apply Kd.R_drew));exact Kd.R_mono HO205.out (fun _ hk=>trivial),by repeat (first|(with_reducible first|exact HB.out|apply below_alloc|apply pw_below_drewN|apply below_drew1)|exact HB.out)⟩
                           · rw [if_neg c27] at H
                             exact absurd H (by simp)
                         · rw [if_neg c26] at H
                           exact absurd H (by simp)
                       · rw [if_neg c24] at H
                         exact absurd H (by simp)
                     · rw [if_neg c23] at H
                       exact absurd H (by simp)
                   · rw [if_neg c22] at H
                     exact absurd H (by simp)
                 · rw [if_neg c21] at H
                   exact absurd H (by simp)
           · rw [if_neg c14] at H
             exact absurd H (by simp)
         · rw [if_neg c13] at H
           exact absurd H (by simp)
       · rw [if_neg c11] at H
         exact absurd H (by simp)
     · rw [if_neg c10] at H
       exact absurd H (by simp)
end Go.Proofs.Ytfpdmlhknddffaa.Dk
end
section
namespace Go.Proofs.Ytfpdmlhknddffaa.Dk
open Go.RowKit Go.Proofs.YtfpdmlhknddffaaW.PrintWords Go.Proofs.YtfpdmlhknddffaaW.PrintLast Go.Proofs.YtfpdmlhknddffaaW.PrintMore
set_option linter.unusedVariables false
set_option linter.unusedSimpArgs false
theorem equal_calls (A0:Option Addr) (c0:Nat) (l0:List Int) (A1:Option Addr) (c1:Nat) (l1:List Int) (w:World) (h0:Kd.C (Kd.int .u8) w A0 l0.length l0) (h1:Kd.C (Kd.int .u8) w A1 l1.length l1) :
 Calls Try.prog 63 #[.slice A0 l0.length c0,.slice A1 l1.length c1] w fun e w'=>e=.returned (.bool ((strOfNums l0).toList == (strOfNums l1).toList))∧Below w.heap.size w w':=by
 have hu9:=Try.underlying9
 have hcv0:=Kd.C_string (P:=Try.prog) (A:=A0) (c:=c0) Try.underlying22 Try.underlying5 Try.underlying9 h0
 have hcv1:=Kd.C_string (P:=Try.prog) (A:=A1) (c:=c1) Try.underlying22 Try.underlying5 Try.underlying9 h1
 clear h0 h1
 go_enter Try.func63,Try.ntmps63
 go_wp2
 go_ret
 exact ⟨rfl,Below.refl _ _⟩
end Go.Proofs.Ytfpdmlhknddffaa.Dk
end
section
namespace Go.Proofs.Ytfpdmlhknddffaa.Dk
open Go.RowKit Go.Proofs.YtfpdmlhknddffaaW.PrintWords Go.Proofs.YtfpdmlhknddffaaW.PrintLast Go.Proofs.YtfpdmlhknddffaaW.PrintMore
set_option linter.unusedVariables false
def numL (size:Nat) (n:Int):List Int:=(List.range size).map fun j=>shr .u64 n (8 * ((size - 1 - j:Nat):Int)) % 256
theorem numL_length (size:Nat) (n:Int):(numL size n).length=size:=by simp [numL]
theorem numL_take (size:Nat) (n:Int) (j:Nat) (h:j < size):(numL size n).take (j + 1)=(numL size n).take j ++ [shr .u64 n (8 * ((size - 1 - j:Nat):Int)) % 256]:=by
 have hg:(numL size n)[j]? = some (shr .u64 n (8 * ((size - 1 - j:Nat):Int)) % 256):=by
  unfold numL
  rw [List.getElem?_map,List.getElem?_range h]
  rfl
 rw [List.take_add_one,hg]
 rfl
theorem number_inner (out:List Int) (size:Nat) (n:Int) (l:List Int) (i:Nat) (hs:size ≤ 8) (ho:out.length + 8 < 140737488355328) (ln:Int) {R:List Int}
 (hnext:Ev (fun k=>journal_number.l0 k (out ++ numL size n) (size:Int) l ln (wrap64 ((i:Int) + 1))) R) :
 Ev (fun k=>journal_number.l1 k out (size:Int) n (wrap64 ((size:Int) - 1)) l ln (i:Int)) R:=by
 have key:=ev_down (n:=size) (g:=fun j k=>journal_number.l1 k (out ++ (numL size n).take j) (size:Int) n ((size:Int) - 1 - (j:Int)) l ln (i:Int)) (r:=fun _=>R)
  (by
   rw [List.take_of_length_le (by rw [numL_length];exact Nat.le_refl _)]
   refine Ev.step (f:=fun k=>journal_number.l0 k (out ++ numL size n) (size:Int) l ln (wrap64 ((i:Int) + 1))) (fun k => ?_) hnext
   simp only [journal_number.l1]
   rw [if_neg (by omega)])
  (by
   intro j hj ih
   have hw:wrap64 (8 * ((size:Int) - 1 - (j:Int)))=8 * ((size - 1 - j:Nat):Int):=by unfold wrap64;omega
   have hw2:wrap64 ((size:Int) - 1 - (j:Int) - 1)=(size:Int) - 1 - ((j + 1:Nat):Int):=by unfold wrap64;omega
   refine Ev.step (f:=fun k=>journal_number.l1 k (out ++ (numL size n).take (j + 1)) (size:Int) n ((size:Int) - 1 - ((j + 1:Nat):Int)) l ln (i:Int)) (fun k => ?_) ih
   simp only [journal_number.l1]
   rw [if_pos (by omega),hw,if_pos (by omega),if_pos (by rw [List.length_append,List.length_take];omega),hw2,numL_take size n j hj,List.append_assoc])
 have h0:=key 0 (by omega)
 have e1:wrap64 ((size:Int) - 1)=(size:Int) - 1 - ((0:Nat):Int):=by unfold wrap64;omega
 rw [e1]
 simpa using h0
theorem number_ev (size:Nat) (hs:size ≤ 8) (l:List Int) (hl:l.length ≤ 100) (out:List Int) (ho:out.length + 8 * l.length + 8 < 140737488355328):Ev (fun k=>journal_number.f k out (size:Int) l) (out ++ l.flatMap (numL size)):=by
 have hfl:∀ m,m ≤ l.length→((l.take m).flatMap (numL size)).length ≤ 8 * m:=by
  intro m
  induction m with
  | zero=>intro _;simp
  | succ m ih =>
   intro hm
   rw [List.take_succ_eq_append_getElem (by omega),List.flatMap_append,List.length_append]
   have:=ih (by omega)
   simp only [List.flatMap_cons,List.flatMap_nil,List.append_nil,numL_length]
   omega
 have key:=ev_down (n:=l.length) (g:=fun i k=>journal_number.l0 k (out ++ (l.take i).flatMap (numL size)) (size:Int) l (l.length:Int) (i:Int)) (r:=fun _=>out ++ l.flatMap (numL size))
  (by
   rw [List.take_length]
   refine Ev.step (f:=fun _=>some (out ++ l.flatMap (numL size))) (fun k => ?_) (Ev.now _)
   simp only [journal_number.l0]
   rw [if_neg (by omega)])
  (by
   intro i hi ih
   have h8:=hfl i (by omega)
   refine Ev.step (f:=fun k=>journal_number.l1 k (out ++ (l.take i).flatMap (numL size)) (size:Int) (rd l (i:Int)) (wrap64 ((size:Int) - 1)) l (l.length:Int) (i:Int)) (fun k => ?_) ?_
   · simp only [journal_number.l0]
     rw [if_pos (by omega),if_pos (by omega),if_pos (by omega)]
   · refine number_inner _ size _ l i hs (by rw [List.length_append];omega) _ ?_
     have e:wrap64 ((i:Int) + 1)=((i + 1:Nat):Int):=wrap_succ (n:=l.length) hi (by omega)
     rw [e,rd_nat hi]
     have e2:(out ++ (l.take i).flatMap (numL size)) ++ numL size l[i]=out ++ (l.take (i + 1)).flatMap (numL size):=by
      rw [List.take_succ_eq_append_getElem hi,List.flatMap_append,List.append_assoc]
      simp
     rw [e2]
     exact ih)
 have h0:=key 0 (by omega)
 simpa [journal_number.f] using h0
def headL (r:List Int) (k:Int):List Int:=numL 2 (IntKind.u64.wrap (r.length:Int)) ++ numL 2 (IntKind.u64.wrap (Go.bits .and .i64 k 65535))
def encL (r:List Int) (k:Int):List Int:=[82] ++ headL r k ++ numL 8 (sumS (strOfNums (headL r k) ++ strOfNums r)) ++ r
theorem headL_length (r:List Int) (k:Int):(headL r k).length=4:=by simp [headL,numL_length]
theorem encL_length (r:List Int) (k:Int):(encL r k).length=13 + r.length:=by simp [encL,headL_length,numL_length];omega
theorem encode_ev (r:List Int) (k0:Int) (hr:r.length ≤ 1000000000):Ev (fun k=>journal_encode.f k r k0) (encL r k0):=by
 have hs1:(strOfNums (headL r k0) ++ strOfNums r).size=4 + r.length:=by
  rw [ByteArray.size_append,strOfNums_size,strOfNums_size,headL_length]
 unfold journal_encode.f
 refine Ev.bind (a:=headL r k0) (ev_eq (number_ev 2 (by decide) _ (by simp) [] (by simp)) (by simp [headL])) ?_
 have e1:(strOfNums (headL r k0)).size + (strOfNums r).size ≤ 9223372036854775807:=by rw [strOfNums_size,strOfNums_size,headL_length];omega
 have e2:digest_Sum.f (strOfNums (headL r k0) ++ strOfNums r)=some (sumS (strOfNums (headL r k0) ++ strOfNums r)):=by
  unfold digest_Sum.f
  rw [if_pos (by omega)]
 refine Ev.congr (f:=fun k=>(journal_number.f k ([82] ++ headL r k0) 8 [sumS (strOfNums (headL r k0) ++ strOfNums r)]).bind fun t=>if t.length + r.length < 140737488355328 then some (t ++ r) else none) (fun k => ?_) ?_
 · rw [if_pos e1,e2]
   simp only [Option.bind_some]
   rw [if_pos (by simp [headL_length])]
 · refine Ev.bind (f:=fun k t=>if t.length + r.length < 140737488355328 then some (t ++ r) else none) (number_ev 8 (by decide) [sumS (strOfNums (headL r k0) ++ strOfNums r)] (by simp) ([82] ++ headL r k0) (by simp [headL_length])) ?_
   refine Ev.congr (f:=fun _=>some (encL r k0)) (fun k => ?_) (Ev.now _)
   rw [if_pos (by simp [headL_length,numL_length];omega)]
   simp [encL]
end Go.Proofs.Ytfpdmlhknddffaa.Dk
end
section
namespace Go.Proofs.Ytfpdmlhknddffaa.Dk
open Go.RowKit Go.Proofs.YtfpdmlhknddffaaW.PrintWords Go.Proofs.YtfpdmlhknddffaaW.PrintLast Go.Proofs.YtfpdmlhknddffaaW.PrintMore
set_option linter.unusedVariables false
theorem wraps_i64 (n:Int) (h₀:0 ≤ n) (h₁:n < 2 ^ 63):IntKind.i64.wrap n=n:=by rw [IntKind.wrap_i64];omega
theorem i64_or8 {x y:Int} (hx₀:0 ≤ x) (hx:x % 256=0) (hx₁:x < 9223372036854775808) (h₀:0 ≤ y) (h₁:y < 256):bits .or .i64 x y=x + y :=
 bits_join .i64 63 (by decide) wraps_i64 8 x y hx₀ hx hx₁ h₀ h₁ (by omega)
def numAt (b:List Int) (at_:Nat):Int:=bits .or .i64 (IntKind.i64.wrap (IntKind.i64.wrap (b.getD (at_ + 1) 0) * 256)) (IntKind.i64.wrap (b.getD (at_ + 2) 0))
theorem numAt_eq {b:List Int} {at_:Nat} (h1:0 ≤ b.getD (at_ + 1) 0∧b.getD (at_ + 1) 0 ≤ 255) (h2:0 ≤ b.getD (at_ + 2) 0∧b.getD (at_ + 2) 0 ≤ 255):numAt b at_=256 * b.getD (at_ + 1) 0 + b.getD (at_ + 2) 0:=by
 obtain ⟨x,hx⟩:∃ x,x=b.getD (at_ + 1) 0:=⟨_,rfl⟩
 obtain ⟨y,hy⟩:∃ y,y=b.getD (at_ + 2) 0:=⟨_,rfl⟩
 unfold numAt
 rw [← hx] at h1 ⊢
 rw [← hy] at h2 ⊢
 rw [wraps_i64 x h1.1 (by omega),wraps_i64 (x * 256) (by omega) (by omega),wraps_i64 y h2.1 (by omega),i64_or8 (by omega) (by omega) (by omega) h2.1 (by omega)]
 omega
theorem cut_seg {A:Option Addr} {c:Nat} {b:List Int} {w:World} (h:Kd.C (Kd.int .u8) w A b.length b) (hc:b.length ≤ c) (lo hi:Nat) (loI hiI:Int) (e0:loI=lo) (e1:hiI=hi) (h1:lo ≤ hi) (h2:hi ≤ b.length) :
 ∃ dp,(∀ W:World,(Instr.slice 22 (.slice A b.length c) (some (.int .i64 loI)) (some (.int .i64 hiI)) none).run Try.prog W=.ok (.slice dp ((b.take hi).drop lo).length (c - lo)) W)∧Kd.C (Kd.int .u8) w dp ((b.take hi).drop lo).length ((b.take hi).drop lo)∧((b.take hi).drop lo).length ≤ c - lo:=by
 subst e0;subst e1
 obtain ⟨i5,hi5,hz5,hs5,hy5⟩:=info_parts info5
 have hl:((b.take hi).drop lo).length=hi - lo:=by rw [List.length_drop,List.length_take];omega
 have hcut:=cut_mid (P:=Try.prog) 22 5 .i64 .i64 Try.underlying22 hi5 1 hs5 A b.length c (lo:Int) (hi:Int) (by omega) (by omega) (by omega) hc
 have hmid:=Kd.C_mid (lo:=lo) (hi:=hi) (c:=c) h h1 h2 hc
 simp only [Int.toNat_natCast] at hcut
 rw [← hl] at hcut
 exact ⟨_,hcut,hmid,by rw [hl];omega⟩
end Go.Proofs.Ytfpdmlhknddffaa.Dk
end
section
namespace Go.Proofs.Ytfpdmlhknddffaa.Dk
open Go.RowKit Go.Proofs.YtfpdmlhknddffaaW.PrintWords Go.Proofs.YtfpdmlhknddffaaW.PrintLast Go.Proofs.YtfpdmlhknddffaaW.PrintMore
set_option linter.unusedVariables false
set_option linter.unusedSimpArgs false
def recEq (b:List Int) (k at_ n:Nat):Bool:=(strOfNums (encL ((b.take (at_ + 13 + n)).drop (at_ + 13)) (k:Int))).toList == (strOfNums ((b.take (at_ + 13 + n)).drop at_)).toList
def recAt (b:List Int) (k at_:Nat):Option (List Int × Nat) :=
 if at_ + 13 < b.length∧0 < (numAt b at_).toNat∧(numAt b at_).toNat ≤ 4096∧at_ + 13 + (numAt b at_).toNat ≤ b.length∧recEq b k at_ (numAt b at_).toNat=true
 then some ((b.take (at_ + 13 + (numAt b at_).toNat)).drop (at_ + 13),at_ + 13 + (numAt b at_).toNat) else none
def IsRecs (b:List Int):Nat→Nat→List (List Int × Nat)→Prop
 | k,at_,[]=>recAt b k at_=none
 | k,at_,x :: L=>recAt b k at_=some x∧IsRecs b (k + 1) x.2 L
def recsF:Nat→List Int→Nat→Nat→List (List Int × Nat)
 | 0,_,_,_=>[]
 | f + 1,b,k,at_=>match recAt b k at_ with
  | none=>[]
  | some x=>x :: recsF f b (k + 1) x.2
def recs (b:List Int):List (List Int × Nat):=recsF (b.length + 1) b 0 0
theorem recAt_lt {b:List Int} {k at_:Nat} {x:List Int × Nat} (h:recAt b k at_=some x):at_ + 14 ≤ x.2∧x.2 ≤ b.length∧x.1.length=x.2 - (at_ + 13)∧x.1.length ≤ 4096:=by
 unfold recAt at h
 split at h
 · injection h with h
   subst h
   simp
   omega
 · cases h
theorem isRecs_recsF (b:List Int):∀ (f k at_:Nat),b.length < at_ + f→IsRecs b k at_ (recsF f b k at_):=by
 intro f
 induction f with
 | zero =>
  intro k at_ h
  show recAt b k at_=none
  unfold recAt
  rw [if_neg (by omega)]
 | succ f ih =>
  intro k at_ h
  unfold recsF
  cases hr:recAt b k at_ with
  | none=>exact hr
  | some x=>exact ⟨hr,ih _ _ (by have:=recAt_lt hr;omega)⟩
theorem isRecs_uniq (b:List Int):∀ (L M:List (List Int × Nat)) (k at_:Nat),IsRecs b k at_ L→IsRecs b k at_ M→L=M:=by
 intro L
 induction L with
 | nil =>
  intro M k at_ h1 h2
  cases M with
  | nil=>rfl
  | cons y M=>have h1':recAt b k at_=none:=h1;rw [h2.1] at h1';cases h1'
 | cons x L ih =>
  intro M k at_ h1 h2
  cases M with
  | nil=>have h2':recAt b k at_=none:=h2;rw [h1.1] at h2';cases h2'
  | cons y M =>
   have e:=h1.1.symm.trans h2.1
   injection e with e
   subst e
   rw [ih M _ _ h1.2 h2.2]
theorem isRecs_recs (b:List Int):IsRecs b 0 0 (recs b):=isRecs_recsF b _ 0 0 (by omega)
abbrev RecV:=Value × List Int × Nat
def recEncs (x:RecV):Array Value:=#[x.1,.int .i64 (x.2.2:Int)]
def RecC (base:Nat) (m:Nat) (x:RecV) (W:World):Prop:=Kd.R (Kd.int .u8) 5 W base (fun _=>True) x.1 x.2.1∧(∀ k,x.1.ownBlock=some k→m ≤ k)∧x.2.1.length ≤ 4096
def RecKp (n0 Bx:Nat) (W W':World):Prop:=Below n0 W W'∧W'.heap[Bx]? = W.heap[Bx]?
def RecS (b:List Int) (xs:List RecV):Prop:=xs.map (·.2)=recs b
theorem grown_of_below {W W':World} (h:Below W.heap.size W W'):W.grownBy W' none:=⟨h.os,h.tape,h.output,h.size,fun k hk _=>h.block k hk⟩
theorem C_under {k:IntKind} {w w1:World} {n0:Nat} {A:Option Addr} {n:Nat} {xs:List Int} (h:Kd.C (Kd.int k) w A n xs) (hb:Below n0 w w1) (hA:∀ ad,A=some ad→ad.block < n0):Kd.C (Kd.int k) w1 A n xs:=by
 refine ⟨h.1,h.2.1,fun hp => ?_⟩
 obtain ⟨ad,e,hc⟩:=h.2.2 hp
 refine ⟨ad,e,fun j p hj => ?_⟩
 obtain ⟨c,hc1,hc2,hc3⟩:=hc j p hj
 refine ⟨c,hc1,hc2,fun i u hu => ?_⟩
 have hl:(ad.add (j * (Kd.int k).sz + i)).block < n0:=by
  have:(ad.add (j * (Kd.int k).sz + i)).block=ad.block:=by unfold Addr.add;split <;> rfl
  rw [this];exact hA ad e
 exact (hb.cell hl).trans (hc3 i u hu)
theorem own_all {W:World} {base:Nat} {e:TypeId} {size n:Nat} {v:Value} {xs:List Value} (h:W.ownsRow base e size v n xs) (hn:0 < n):∃ g cap cur,v=.slice (some ⟨g,0,none⟩) n cap∧base ≤ g∧W.heap[g]? = some (.cells (cur:List Value).toArray e (0,0))∧n ≤ cap∧cap ≤ maxLen∧cur.length=cap * size:=by
 rcases h.2 with ⟨_,h3⟩|⟨g',cap',cur,h3,h4,h5,h6,h7,h8,h9⟩
 · omega
 · exact ⟨g',cap',cur.toList,h3,h4,by simpa using h5,h6,h7,by simpa using h8⟩
theorem R_filled {W:World} {base g cap:Nat} {cur:List Value} {xs:List Int} (hg:W.heap[g]? = some (.cells (splice cur 0 (xs.map (Value.int .u8))).toArray 5 (0,0))) (hb:base ≤ g) (h1:xs.length ≤ cap) (h2:cap ≤ maxLen) (h3:cur.length=cap * 1) :
 Kd.R (Kd.int .u8) 5 W base (fun _=>True) (.slice (some ⟨g,0,none⟩) xs.length cap) xs:=by
 refine Kd.R_of_own (enc:=Value.int .u8) ⟨by simp [encs],.inr ⟨g,cap,_,rfl,hb,hg,h1,h2,?_,?_⟩⟩ (fun _ _=>trivial)
 · simp [splice]
   omega
 · simp [splice,encs]
theorem roundIn_any {P:Program} {m n l:Nat} {f:FuncId} {tmps:Array Value} {assign body:Code} {w:World} {R:Ending→World→Prop} (h:RoundIn Fence.wide m P l f tmps assign body w R):RoundIn Fence.wide n P l f tmps assign body w R:=⟨h.1,fun c cs _=>h.2 c cs (room_wide _)⟩
end Go.Proofs.Ytfpdmlhknddffaa.Dk
end
section
namespace Go.Proofs.Ytfpdmlhknddffaa.Dk
open Go.RowKit Go.Proofs.YtfpdmlhknddffaaW.PrintWords Go.Proofs.YtfpdmlhknddffaaW.PrintLast Go.Proofs.YtfpdmlhknddffaaW.PrintMore
set_option linter.unusedVariables false
set_option linter.unusedSimpArgs false
theorem byte_at {b:List Int} (h:∀ x ∈ b,0 ≤ x∧x ≤ 255) (i:Nat):0 ≤ b.getD i 0∧b.getD i 0 ≤ 255:=by
 rw [List.getD_eq_getElem?_getD]
 cases hi:b[i]? with
 | none=>simp
 | some x=>exact h x (List.mem_of_getElem? hi)
theorem add_add2 (ad:Addr) (i j:Nat):(ad.add i).add j=ad.add (i + j):=by
 unfold Addr.add
 by_cases h:i=0
 · subst h;simp
 · simp [h,Nat.add_assoc]
theorem cell_below {w w':World} {p:Addr} {v:Value} (hb:Below w.heap.size w w') (h:w.cell? p=some v):w'.cell? p=some v:=(hb.cell (World.block_lt_of_cell? w p h)).trans h
theorem recAt_none_of {b:List Int} {kk at_ n:Nat} (hn:numAt b at_=(n:Int)) (h:n=0∨4096 < n∨b.length < at_ + 13 + n∨recEq b kk at_ n=false):recAt b kk at_=none:=by
 unfold recAt
 rw [hn,Int.toNat_natCast]
 rw [if_neg]
 rintro ⟨_,h2,h3,h4,h5⟩
 rcases h with h|h|h|h
 · omega
 · omega
 · omega
 · rw [h] at h5;cases h5
theorem recAt_some_of {b:List Int} {kk at_ n:Nat} (hn:numAt b at_=(n:Int)) (h1:at_ + 13 < b.length) (h2:0 < n) (h3:n ≤ 4096) (h4:at_ + 13 + n ≤ b.length) (h5:recEq b kk at_ n=true):recAt b kk at_=some ((b.take (at_ + 13 + n)).drop (at_ + 13),at_ + 13 + n):=by
 unfold recAt
 rw [hn,Int.toNat_natCast]
 rw [if_pos ⟨h1,h2,h3,h4,h5⟩]
set_option maxHeartbeats 4000000 in
theorem find_walk (l Bx n0 base dd:Nat) (A:Option Addr) (c:Nat) (b:List Int) (J:List RecV→Nat→World→Prop) (W:World) (hB:W.heap[Bx]? = some (.cells #[.slice A b.length c] 22 (0,0))) (hb:Kd.C (Kd.int .u8) W A b.length b) (hbc:b.length ≤ c) (hbl:b.length ≤ 65536) (hrg:∀ x ∈ b,0 ≤ x∧x ≤ 255)
 (hA:∀ ad,A=some ad→ad.block < n0) (hbase:base ≤ W.heap.size) (hJ:∀ s m A B,J s m A→A.grownBy B none→J s m B)
 (hY:∀ pre m x W1,J pre m W1→RecC base m x W1→pre.length < b.length→YieldAt Fence.wide dd Try.prog l (recEncs x) W1 fun e W'=>e=.returned (.bool true)∧J (pre ++ [x]) W'.heap.size W'∧RecKp n0 Bx W1 W')
 (h0:∃ m,m ≤ W.heap.size∧J [] m W) :
 Calls Try.prog 62 #[.func (.yield l) #[] #[],.pointer (some ⟨Bx,0,none⟩)] W fun e W'=>(∃ v,e=.returned v)∧∃ xs m,RecS b xs∧J xs m W':=by
 have hu22:=Try.underlying22
 have Hrg:=Lib.hid hrg
 have HY:=Lib.hid hY
 have HA:=Lib.hid hA
 have Hb:=Lib.hid hb
 have HB:=Lib.hid hB
 have Hbase:=Lib.hid hbase
 obtain ⟨m0,hm0,hJ0⟩:=h0
 have HJ0:=Lib.hid hJ0
 have Hm0:=Lib.hid hm0
 clear hrg hY hA hb hB hbase hJ0 hm0
 go_enter Try.func62,Try.ntmps62
 go_wp2
 go_loopg [3,4] b.length (fun k v3 v4 wr=>∃ (at_ kk:Nat) (xs:List RecV) (m:Nat),at_ ≤ b.length∧k=b.length - at_∧v3=.int .i64 at_∧v4=.int .i64 kk∧Hid (wr.heap[Bx]? = some (.cells #[.slice A b.length c] 22 (0,0)))∧Hid (Kd.C (Kd.int .u8) wr A b.length b)
  ∧ Hid (∀ L,IsRecs b kk at_ L→IsRecs b 0 0 (xs.map (·.2) ++ L))∧Hid (J xs m wr)∧Hid (m ≤ wr.heap.size)∧Hid (base ≤ wr.heap.size)∧Hid (xs.length=kk)∧kk ≤ at_)
 case atStart=>exact ⟨0,0,[],m0,by omega,by omega,rfl,rfl,HB,Hb,Lib.hid (fun L h=>h),Lib.hid (hJ _ _ _ _ HJ0.out (grown_of_below (by repeat (first|exact Below.refl _ _|apply below_drew)))),Hm0,Hbase,Lib.hid rfl,by omega⟩
 case round =>
  obtain ⟨at_,kk,xs,m,hat,rfl,rfl,rfl,HBx,HC,HE,HJ,Hm,Hbs,Hxs,hka⟩:=hrel
  have k0:=(blk_cell HBx.out 0).trans rfl
  by_cases hlt:at_ + 13 < b.length
  · have e1:wrap64 ((b.length:Int) - (at_:Int))=(b.length:Int) - (at_:Int):=by unfold wrap64;omega
    have e2:decide ((b.length:Int) - (at_:Int) > 13)=true:=decide_eq_true (by omega)
    obtain ⟨ad,ead,hbc'⟩:=kept_at HC.out (by omega)
    cases ead
    have c1:=hbc' (at_ + 1) (by omega)
    have c2:=hbc' (at_ + 2) (by omega)
    rw [show ad.add (at_ + 1)=⟨ad.block,ad.off + (at_ + 1),none⟩ by simp [Addr.add]] at c1
    have c2':wr.cell? (ad.add ((at_:Int) + 2).toNat)=some (.int .u8 (b.getD (at_ + 2) 0)):=by rw [show ((at_:Int) + 2).toNat=at_ + 2 by omega];exact c2
    have C1:=Lib.hid c1
    have C2:=Lib.hid c2'
    have h1:wrap64 ((at_:Int) + 1)=(at_:Int) + 1:=by unfold wrap64;omega
    have h2:wrap64 ((at_:Int) + 2)=(at_:Int) + 2:=by unfold wrap64;omega
    have h1':=(i64_w _).trans h1
    have h2':=(i64_w _).trans h2
    have h3:(0 ≤ (at_:Int) + 1)=True:=eq_true (by omega)
    have h4:((at_:Int) + 1 < (b.length:Int))=True:=eq_true (by omega)
    have h5:(0 ≤ (at_:Int) + 2)=True:=eq_true (by omega)
    have h6:((at_:Int) + 2 < (b.length:Int))=True:=eq_true (by omega)
    clear hbc' c1 c2 c2'
    go_wp2_with (fail)
    have HBd:=Lib.hid (blk_drew HBx.out)
    refine start_ (n:=15) (S:=fun w'=>w'.cell? ⟨Bx,0,none⟩=some (.slice (some ad) b.length c)∧w'.cell? ⟨ad.block,ad.off + (at_ + 1),none⟩=some (.int .u8 (b.getD (at_ + 1) 0))∧w'.cell? (ad.add ((at_:Int) + 2).toNat)=some (.int .u8 (b.getD (at_ + 2) 0))) (ds:=[]) #[false,false,false,false,false,false,false,false,false,false,false,false,false,false,false] (by kernel_rfl) rfl rfl ⟨(blk_cell HBd.out 0).trans rfl,C1.out,C2.out⟩ ?_
    intro hHeld
    refine pure_ (i:=1) (N:=some 16) (v:=?_) (a':=?_) #[false,true,false,false,false,false,false,false,false,false,false,false,false,false,false] rfl rfl (by kernel_rfl) (fun _ _ _ h=>h) (Or.inl ⟨by rfl,?_⟩) ?_ ?_
    rotate_left
    · intro w'
      go_simp
      try (with_reducible rfl)
    rotate_left
    · simp only [Act.put,List.setIfInBounds_toArray,List.set_cons_zero,List.set_cons_succ]
      rfl
    refine pure_ (i:=2) (N:=some 17) (v:=?_) (a':=?_) #[false,true,true,false,false,false,false,false,false,false,false,false,false,false,false] rfl rfl (by kernel_rfl) (fun _ _ _ h=>h) (Or.inl ⟨by rfl,?_⟩) ?_ ?_
    rotate_left
    · intro w'
      go_simp
      try (with_reducible rfl)
    rotate_left
    · simp only [Act.put,List.setIfInBounds_toArray,List.set_cons_zero,List.set_cons_succ]
      rfl
    refine pure_ (i:=8) (N:=some 23) (v:=?_) (a':=?_) #[false,true,true,false,false,false,false,false,true,false,false,false,false,false,false] rfl rfl (by kernel_rfl) (fun _ _ _ h=>h) (Or.inl ⟨by rfl,?_⟩) ?_ ?_
    rotate_left
    · intro w'
      go_simp
      try (with_reducible rfl)
    rotate_left
    · simp only [Act.put,List.setIfInBounds_toArray,List.set_cons_zero,List.set_cons_succ]
      rfl
    refine pure_ (i:=9) (N:=some 24) (v:=?_) (a':=?_) #[false,true,true,false,false,false,false,false,true,true,false,false,false,false,false] rfl rfl (by kernel_rfl) (fun _ _ _ h=>h) (Or.inl ⟨by rfl,?_⟩) ?_ ?_
    rotate_left
    · intro w'
      go_simp
      try (with_reducible rfl)
    rotate_left
    · simp only [Act.put,List.setIfInBounds_toArray,List.set_cons_zero,List.set_cons_succ]
      rfl
    refine take_ (i:=0) (N:=some 15) (v:=?_) (a':=?_) #[true,true,true,false,false,false,false,false,true,true,false,false,false,false,false] rfl rfl (by kernel_rfl) (fun _ _ _ h=>h) (Or.inl ⟨by rfl,?_⟩) hHeld ?_ ?_
    rotate_left
    · rintro w' ⟨s0,s1,s2⟩
      go_simp
      with_reducible rfl
    rotate_left
    · simp only [Act.put,List.setIfInBounds_toArray,List.set_cons_zero,List.set_cons_succ]
      rfl
    refine pure_ (i:=3) (N:=some 18) (v:=?_) (a':=?_) #[true,true,true,true,false,false,false,false,true,true,false,false,false,false,false] rfl rfl (by kernel_rfl) (fun _ _ _ h=>h) (Or.inl ⟨by rfl,?_⟩) ?_ ?_
    rotate_left
    · intro w'
      go_simp
      try (with_reducible rfl)
    rotate_left
    · simp only [Act.put,List.setIfInBounds_toArray,List.set_cons_zero,List.set_cons_succ]
      rfl
    refine take_ (i:=4) (N:=some 19) (v:=?_) (a':=?_) #[true,true,true,true,true,false,false,false,true,true,false,false,false,false,false] rfl rfl (by kernel_rfl) (fun _ _ _ h=>h) (Or.inl ⟨by rfl,?_⟩) hHeld ?_ ?_
    rotate_left
    · rintro w' ⟨s0,s1,s2⟩
      go_simp
      with_reducible rfl
    rotate_left
    · simp only [Act.put,List.setIfInBounds_toArray,List.set_cons_zero,List.set_cons_succ]
      rfl
    refine pure_ (i:=5) (N:=some 20) (v:=?_) (a':=?_) #[true,true,true,true,true,true,false,false,true,true,false,false,false,false,false] rfl rfl (by kernel_rfl) (fun _ _ _ h=>h) (Or.inl ⟨by rfl,?_⟩) ?_ ?_
    rotate_left
    · intro w'
      go_simp
      try (with_reducible rfl)
    rotate_left
    · simp only [Act.put,List.setIfInBounds_toArray,List.set_cons_zero,List.set_cons_succ]
      rfl
    refine pure_ (i:=6) (N:=some 21) (v:=?_) (a':=?_) #[true,true,true,true,true,true,true,false,true,true,false,false,false,false,false] rfl rfl (by kernel_rfl) (fun _ _ _ h=>h) (Or.inl ⟨by rfl,?_⟩) ?_ ?_
    rotate_left
    · intro w'
      go_simp
      try (with_reducible rfl)
    rotate_left
    · simp only [Act.put,List.setIfInBounds_toArray,List.set_cons_zero,List.set_cons_succ]
      rfl
    refine take_ (i:=7) (N:=some 22) (v:=?_) (a':=?_) #[true,true,true,true,true,true,true,true,true,true,false,false,false,false,false] rfl rfl (by kernel_rfl) (fun _ _ _ h=>h) (Or.inl ⟨by rfl,?_⟩) hHeld ?_ ?_
    rotate_left
    · rintro w' ⟨s0,s1,s2⟩
      go_simp
      with_reducible rfl
    rotate_left
    · simp only [Act.put,List.setIfInBounds_toArray,List.set_cons_zero,List.set_cons_succ]
      rfl
    refine pure_ (i:=10) (N:=some 25) (v:=?_) (a':=?_) #[true,true,true,true,true,true,true,true,true,true,true,false,false,false,false] rfl rfl (by kernel_rfl) (fun _ _ _ h=>h) (Or.inl ⟨by rfl,?_⟩) ?_ ?_
    rotate_left
    · intro w'
      go_simp
      try (with_reducible rfl)
    rotate_left
    · simp only [Act.put,List.setIfInBounds_toArray,List.set_cons_zero,List.set_cons_succ]
      rfl
    refine take_ (i:=11) (N:=some 26) (v:=?_) (a':=?_) #[true,true,true,true,true,true,true,true,true,true,true,true,false,false,false] rfl rfl (by kernel_rfl) (fun _ _ _ h=>h) (Or.inl ⟨by rfl,?_⟩) hHeld ?_ ?_
    rotate_left
    · rintro w' ⟨s0,s1,s2⟩
      go_simp
      with_reducible rfl
    rotate_left
    · simp only [Act.put,List.setIfInBounds_toArray,List.set_cons_zero,List.set_cons_succ]
      rfl
    refine pure_ (i:=12) (N:=some 27) (v:=?_) (a':=?_) #[true,true,true,true,true,true,true,true,true,true,true,true,true,false,false] rfl rfl (by kernel_rfl) (fun _ _ _ h=>h) (Or.inl ⟨by rfl,?_⟩) ?_ ?_
    rotate_left
    · intro w'
      go_simp
      try (with_reducible rfl)
    rotate_left
    · simp only [Act.put,List.setIfInBounds_toArray,List.set_cons_zero,List.set_cons_succ]
      rfl
    refine pure_ (i:=13) (N:=some 28) (v:=?_) (a':=?_) #[true,true,true,true,true,true,true,true,true,true,true,true,true,true,false] rfl rfl (by kernel_rfl) (fun _ _ _ h=>h) (Or.inl ⟨by rfl,?_⟩) ?_ ?_
    rotate_left
    · intro w'
      go_simp
      try (with_reducible rfl)
    rotate_left
    · simp only [Act.put,List.setIfInBounds_toArray,List.set_cons_zero,List.set_cons_succ]
      rfl
    refine pure_ (i:=14) (N:=some 5) (v:=?_) (a':=?_) #[true,true,true,true,true,true,true,true,true,true,true,true,true,true,true] rfl rfl (by kernel_rfl) (fun _ _ _ h=>h) (Or.inl ⟨by rfl,?_⟩) ?_ ?_
    rotate_left
    · intro w'
      go_simp
      try (with_reducible rfl)
    rotate_left
    · simp only [Act.put,List.setIfInBounds_toArray,List.set_cons_zero,List.set_cons_succ]
      rfl
    refine done_ (by kernel_rfl) ?_
    have r1:0 ≤ b.getD (at_ + 1) 0∧b.getD (at_ + 1) 0 ≤ 255:=byte_at Hrg.out (at_ + 1)
    have r2:0 ≤ b.getD (at_ + 2) 0∧b.getD (at_ + 2) 0 ≤ 255:=byte_at Hrg.out (at_ + 2)
    have en:=numAt_eq r1 r2
    obtain ⟨n,hn⟩:∃ n:Nat,numAt b at_=(n:Int):=⟨(numAt b at_).toNat,by omega⟩
    have hn2:n ≤ 65535:=by omega
    have hn3:bits .or .i64 (IntKind.i64.wrap (IntKind.i64.wrap (b[at_ + 1]?.getD 0) * 256)) (IntKind.i64.wrap (b[at_ + 2]?.getD 0))=(n:Int):=by rw [← hn];unfold numAt;simp only [List.getD_eq_getElem?_getD]
    rw [hn3]
    have Hn:=Lib.hid hn
    clear r1 r2 en hn hn3 h1 h2 h1' h2' h3 h4 h5 h6 k0 e1 e2 hHeld
    have m1:wrap64 ((at_:Int) + 13)=(at_:Int) + 13:=by unfold wrap64;omega
    have m2:wrap64 ((at_:Int) + 13 + (n:Int))=(at_:Int) + 13 + (n:Int):=by unfold wrap64;omega
    have m1':=(i64_w _).trans m1
    have m2':=(i64_w _).trans m2
    go_wp2_with (fail)
    have HBe:=Lib.hid (blk_drew HBd.out)
    by_cases hz:n=0
    · have z0:((n:Int) == 0)=true:=by simp [hz]
      have z1:((n:Int)=0)=True:=eq_true (by omega)
      refine start_ (n:=27) (S:=fun w'=>w'.cell? ⟨Bx,0,none⟩=some (.slice (some ad) b.length c)) (ds:=[]) #[false,false,false,false,false,false,false,false,false,false,false,false,false,false,false,false,false,false,false,false,false,false,false,false,false,false,false] (by kernel_rfl) rfl rfl (by exact (blk_cell HBe.out 0).trans rfl) ?_
      intro hHeld
      refine pure_ (i:=0) (N:=some 33) (v:=?_) (a':=?_) #[true,false,false,false,false,false,false,false,false,false,false,false,false,false,false,false,false,false,false,false,false,false,false,false,false,false,false] rfl rfl (by kernel_rfl) (fun _ _ _ h=>h) (Or.inl ⟨by rfl,?_⟩) ?_ ?_
      rotate_left
      · intro w'
        go_simp
        try (with_reducible rfl)
      rotate_left
      · simp only [Act.put,List.setIfInBounds_toArray,List.set_cons_zero,List.set_cons_succ]
        rfl
      refine pure_ (i:=1) (N:=some 34) (v:=?_) (a':=?_) #[true,true,false,false,false,false,false,false,false,false,false,false,false,false,false,false,false,false,false,false,false,false,false,false,false,false,false] rfl rfl (by kernel_rfl) (fun _ _ _ h=>h) (Or.inl ⟨by rfl,?_⟩) ?_ ?_
      rotate_left
      · intro w'
        go_simp
        try (with_reducible rfl)
      rotate_left
      · simp only [Act.put,List.setIfInBounds_toArray,List.set_cons_zero,List.set_cons_succ]
        rfl
      refine pure_ (i:=2) (N:=some 35) (v:=?_) (a':=?_) #[true,true,true,false,false,false,false,false,false,false,false,false,false,false,false,false,false,false,false,false,false,false,false,false,false,false,false] rfl rfl (by kernel_rfl) (fun _ _ _ h=>h) (Or.inl ⟨by rfl,?_⟩) ?_ ?_
      rotate_left
      · intro w'
        go_simp
        try (with_reducible rfl)
      rotate_left
      · simp only [Act.put,List.setIfInBounds_toArray,List.set_cons_zero,List.set_cons_succ]
        rfl
      refine pure_ (i:=3) (N:=some 36) (v:=undef) (a':=?_) #[true,true,true,true,false,false,false,false,false,false,false,false,false,false,false,false,false,false,false,false,false,false,false,false,false,false,false] rfl rfl (by kernel_rfl) (fun _ _ _ h=>h) (Or.inr ⟨by rfl,rfl⟩) ?_ ?_
      rotate_left
      · simp only [Act.put,List.setIfInBounds_toArray,List.set_cons_zero,List.set_cons_succ]
        rfl
      refine pure_ (i:=4) (N:=some 37) (v:=undef) (a':=?_) #[true,true,true,true,true,false,false,false,false,false,false,false,false,false,false,false,false,false,false,false,false,false,false,false,false,false,false] rfl rfl (by kernel_rfl) (fun _ _ _ h=>h) (Or.inr ⟨by rfl,rfl⟩) ?_ ?_
      rotate_left
      · simp only [Act.put,List.setIfInBounds_toArray,List.set_cons_zero,List.set_cons_succ]
        rfl
      refine pure_ (i:=5) (N:=some 38) (v:=?_) (a':=?_) #[true,true,true,true,true,true,false,false,false,false,false,false,false,false,false,false,false,false,false,false,false,false,false,false,false,false,false] rfl rfl (by kernel_rfl) (fun _ _ _ h=>h) (Or.inl ⟨by rfl,?_⟩) ?_ ?_
      rotate_left
      · intro w'
        go_simp
        try (with_reducible rfl)
      rotate_left
      · simp only [Act.put,List.setIfInBounds_toArray,List.set_cons_zero,List.set_cons_succ]
        rfl
      refine pure_ (i:=6) (N:=some 39) (v:=?_) (a':=?_) #[true,true,true,true,true,true,true,false,false,false,false,false,false,false,false,false,false,false,false,false,false,false,false,false,false,false,false] rfl rfl (by kernel_rfl) (fun _ _ _ h=>h) (Or.inl ⟨by rfl,?_⟩) ?_ ?_
      rotate_left
      · intro w'
        go_simp
        try (with_reducible rfl)
      rotate_left
      · simp only [Act.put,List.setIfInBounds_toArray,List.set_cons_zero,List.set_cons_succ]
        rfl
      refine pure_ (i:=7) (N:=some 40) (v:=undef) (a':=?_) #[true,true,true,true,true,true,true,true,false,false,false,false,false,false,false,false,false,false,false,false,false,false,false,false,false,false,false] rfl rfl (by kernel_rfl) (fun _ _ _ h=>h) (Or.inr ⟨by rfl,rfl⟩) ?_ ?_
      rotate_left
      · simp only [Act.put,List.setIfInBounds_toArray,List.set_cons_zero,List.set_cons_succ]
        rfl
      refine pure_ (i:=8) (N:=some 41) (v:=undef) (a':=?_) #[true,true,true,true,true,true,true,true,true,false,false,false,false,false,false,false,false,false,false,false,false,false,false,false,false,false,false] rfl rfl (by kernel_rfl) (fun _ _ _ h=>h) (Or.inr ⟨by rfl,rfl⟩) ?_ ?_
      rotate_left
      · simp only [Act.put,List.setIfInBounds_toArray,List.set_cons_zero,List.set_cons_succ]
        rfl
      refine pure_ (i:=9) (N:=some 42) (v:=undef) (a':=?_) #[true,true,true,true,true,true,true,true,true,true,false,false,false,false,false,false,false,false,false,false,false,false,false,false,false,false,false] rfl rfl (by kernel_rfl) (fun _ _ _ h=>h) (Or.inr ⟨by rfl,rfl⟩) ?_ ?_
      rotate_left
      · simp only [Act.put,List.setIfInBounds_toArray,List.set_cons_zero,List.set_cons_succ]
        rfl
      refine pure_ (i:=10) (N:=some 43) (v:=undef) (a':=?_) #[true,true,true,true,true,true,true,true,true,true,true,false,false,false,false,false,false,false,false,false,false,false,false,false,false,false,false] rfl rfl (by kernel_rfl) (fun _ _ _ h=>h) (Or.inr ⟨by rfl,rfl⟩) ?_ ?_
      rotate_left
      · simp only [Act.put,List.setIfInBounds_toArray,List.set_cons_zero,List.set_cons_succ]
        rfl
      refine pure_ (i:=11) (N:=some 44) (v:=?_) (a':=?_) #[true,true,true,true,true,true,true,true,true,true,true,true,false,false,false,false,false,false,false,false,false,false,false,false,false,false,false] rfl rfl (by kernel_rfl) (fun _ _ _ h=>h) (Or.inl ⟨by rfl,?_⟩) ?_ ?_
      rotate_left
      · intro w'
        go_simp
        try (with_reducible rfl)
      rotate_left
      · simp only [Act.put,List.setIfInBounds_toArray,List.set_cons_zero,List.set_cons_succ]
        rfl
      refine pure_ (i:=12) (N:=some 45) (v:=?_) (a':=?_) #[true,true,true,true,true,true,true,true,true,true,true,true,true,false,false,false,false,false,false,false,false,false,false,false,false,false,false] rfl rfl (by kernel_rfl) (fun _ _ _ h=>h) (Or.inl ⟨by rfl,?_⟩) ?_ ?_
      rotate_left
      · intro w'
        go_simp
        try (with_reducible rfl)
      rotate_left
      · simp only [Act.put,List.setIfInBounds_toArray,List.set_cons_zero,List.set_cons_succ]
        rfl
      refine pure_ (i:=13) (N:=some 46) (v:=undef) (a':=?_) #[true,true,true,true,true,true,true,true,true,true,true,true,true,true,false,false,false,false,false,false,false,false,false,false,false,false,false] rfl rfl (by kernel_rfl) (fun _ _ _ h=>h) (Or.inr ⟨by rfl,rfl⟩) ?_ ?_
      rotate_left
      · simp only [Act.put,List.setIfInBounds_toArray,List.set_cons_zero,List.set_cons_succ]
        rfl
      refine pure_ (i:=14) (N:=some 47) (v:=undef) (a':=?_) #[true,true,true,true,true,true,true,true,true,true,true,true,true,true,true,false,false,false,false,false,false,false,false,false,false,false,false] rfl rfl (by kernel_rfl) (fun _ _ _ h=>h) (Or.inr ⟨by rfl,rfl⟩) ?_ ?_
      rotate_left
      · simp only [Act.put,List.setIfInBounds_toArray,List.set_cons_zero,List.set_cons_succ]
        rfl
      refine pure_ (i:=15) (N:=some 48) (v:=undef) (a':=?_) #[true,true,true,true,true,true,true,true,true,true,true,true,true,true,true,true,false,false,false,false,false,false,false,false,false,false,false] rfl rfl (by kernel_rfl) (fun _ _ _ h=>h) (Or.inr ⟨by rfl,rfl⟩) ?_ ?_
      rotate_left
      · simp only [Act.put,List.setIfInBounds_toArray,List.set_cons_zero,List.set_cons_succ]
        rfl
      refine pure_ (i:=16) (N:=some 49) (v:=undef) (a':=?_) #[true,true,true,true,true,true,true,true,true,true,true,true,true,true,true,true,true,false,false,false,false,false,false,false,false,false,false] rfl rfl (by kernel_rfl) (fun _ _ _ h=>h) (Or.inr ⟨by rfl,rfl⟩) ?_ ?_
      rotate_left
      · simp only [Act.put,List.setIfInBounds_toArray,List.set_cons_zero,List.set_cons_succ]
        rfl
      refine pure_ (i:=17) (N:=some 50) (v:=undef) (a':=?_) #[true,true,true,true,true,true,true,true,true,true,true,true,true,true,true,true,true,true,false,false,false,false,false,false,false,false,false] rfl rfl (by kernel_rfl) (fun _ _ _ h=>h) (Or.inr ⟨by rfl,rfl⟩) ?_ ?_
      rotate_left
      · simp only [Act.put,List.setIfInBounds_toArray,List.set_cons_zero,List.set_cons_succ]
        rfl
      refine pure_ (i:=18) (N:=some 51) (v:=undef) (a':=?_) #[true,true,true,true,true,true,true,true,true,true,true,true,true,true,true,true,true,true,true,false,false,false,false,false,false,false,false] rfl rfl (by kernel_rfl) (fun _ _ _ h=>h) (Or.inr ⟨by rfl,rfl⟩) ?_ ?_
      rotate_left
      · simp only [Act.put,List.setIfInBounds_toArray,List.set_cons_zero,List.set_cons_succ]
        rfl
      refine pure_ (i:=19) (N:=some 52) (v:=undef) (a':=?_) #[true,true,true,true,true,true,true,true,true,true,true,true,true,true,true,true,true,true,true,true,false,false,false,false,false,false,false] rfl rfl (by kernel_rfl) (fun _ _ _ h=>h) (Or.inr ⟨by rfl,rfl⟩) ?_ ?_
      rotate_left
      · simp only [Act.put,List.setIfInBounds_toArray,List.set_cons_zero,List.set_cons_succ]
        rfl
      refine pure_ (i:=20) (N:=some 53) (v:=undef) (a':=?_) #[true,true,true,true,true,true,true,true,true,true,true,true,true,true,true,true,true,true,true,true,true,false,false,false,false,false,false] rfl rfl (by kernel_rfl) (fun _ _ _ h=>h) (Or.inr ⟨by rfl,rfl⟩) ?_ ?_
      rotate_left
      · simp only [Act.put,List.setIfInBounds_toArray,List.set_cons_zero,List.set_cons_succ]
        rfl
      refine pure_ (i:=21) (N:=some 54) (v:=undef) (a':=?_) #[true,true,true,true,true,true,true,true,true,true,true,true,true,true,true,true,true,true,true,true,true,true,false,false,false,false,false] rfl rfl (by kernel_rfl) (fun _ _ _ h=>h) (Or.inr ⟨by rfl,rfl⟩) ?_ ?_
      rotate_left
      · simp only [Act.put,List.setIfInBounds_toArray,List.set_cons_zero,List.set_cons_succ]
        rfl
      refine pure_ (i:=22) (N:=some 55) (v:=undef) (a':=?_) #[true,true,true,true,true,true,true,true,true,true,true,true,true,true,true,true,true,true,true,true,true,true,true,false,false,false,false] rfl rfl (by kernel_rfl) (fun _ _ _ h=>h) (Or.inr ⟨by rfl,rfl⟩) ?_ ?_
      rotate_left
      · simp only [Act.put,List.setIfInBounds_toArray,List.set_cons_zero,List.set_cons_succ]
        rfl
      refine pure_ (i:=23) (N:=some 56) (v:=undef) (a':=?_) #[true,true,true,true,true,true,true,true,true,true,true,true,true,true,true,true,true,true,true,true,true,true,true,true,false,false,false] rfl rfl (by kernel_rfl) (fun _ _ _ h=>h) (Or.inr ⟨by rfl,rfl⟩) ?_ ?_
      rotate_left
      · simp only [Act.put,List.setIfInBounds_toArray,List.set_cons_zero,List.set_cons_succ]
        rfl
      refine pure_ (i:=24) (N:=some 57) (v:=undef) (a':=?_) #[true,true,true,true,true,true,true,true,true,true,true,true,true,true,true,true,true,true,true,true,true,true,true,true,true,false,false] rfl rfl (by kernel_rfl) (fun _ _ _ h=>h) (Or.inr ⟨by rfl,rfl⟩) ?_ ?_
      rotate_left
      · simp only [Act.put,List.setIfInBounds_toArray,List.set_cons_zero,List.set_cons_succ]
        rfl
      refine pure_ (i:=25) (N:=some 58) (v:=undef) (a':=?_) #[true,true,true,true,true,true,true,true,true,true,true,true,true,true,true,true,true,true,true,true,true,true,true,true,true,true,false] rfl rfl (by kernel_rfl) (fun _ _ _ h=>h) (Or.inr ⟨by rfl,rfl⟩) ?_ ?_
      rotate_left
      · simp only [Act.put,List.setIfInBounds_toArray,List.set_cons_zero,List.set_cons_succ]
        rfl
      refine pure_ (i:=26) (N:=some 59) (v:=?_) (a':=?_) #[true,true,true,true,true,true,true,true,true,true,true,true,true,true,true,true,true,true,true,true,true,true,true,true,true,true,true] rfl rfl (by kernel_rfl) (fun _ _ _ h=>h) (Or.inl ⟨by rfl,?_⟩) ?_ ?_
      rotate_left
      · intro w'
        go_simp
        try (with_reducible rfl)
      rotate_left
      · simp only [Act.put,List.setIfInBounds_toArray,List.set_cons_zero,List.set_cons_succ]
        rfl
      refine done_ (by kernel_rfl) ?_
      go_wp2
      (refine bodyPost_ret (v:=.tuple #[]) (by simp [results,Try.results62,go_sem]) rfl ⟨⟨_,rfl⟩,xs,m,isRecs_uniq _ _ _ _ _ (by have hE:=HE.out [] (recAt_none_of Hn.out (.inl (by omega)));rw [List.append_nil] at hE;exact hE) (isRecs_recs b),hJ _ _ _ _ HJ.out (grown_of_below (by repeat (first|exact Below.refl _ _|apply below_drew)))⟩)
    · have z0:((n:Int) == 0)=false:=by rw [beq_eq_false_iff_ne];omega
      have z1:((n:Int)=0)=False:=eq_false (by omega)
      have z1':(n=0)=False:=eq_false hz
      by_cases hz2:4096 < n
      · have z2:decide ((n:Int) > 4096)=true:=decide_eq_true (by omega)
        have z3:((n:Int) > 4096)=True:=eq_true (by omega)
        have z4:(4096 < (n:Int))=True:=eq_true (by omega)
        have z5:(4096 < n)=True:=eq_true hz2
        refine start_ (n:=27) (S:=fun w'=>w'.cell? ⟨Bx,0,none⟩=some (.slice (some ad) b.length c)) (ds:=[]) #[false,false,false,false,false,false,false,false,false,false,false,false,false,false,false,false,false,false,false,false,false,false,false,false,false,false,false] (by kernel_rfl) rfl rfl (by exact (blk_cell HBe.out 0).trans rfl) ?_
        intro hHeld
        refine pure_ (i:=0) (N:=some 33) (v:=?_) (a':=?_) #[true,false,false,false,false,false,false,false,false,false,false,false,false,false,false,false,false,false,false,false,false,false,false,false,false,false,false] rfl rfl (by kernel_rfl) (fun _ _ _ h=>h) (Or.inl ⟨by rfl,?_⟩) ?_ ?_
        rotate_left
        · intro w'
          go_simp
          try (with_reducible rfl)
        rotate_left
        · simp only [Act.put,List.setIfInBounds_toArray,List.set_cons_zero,List.set_cons_succ]
          rfl
        refine pure_ (i:=1) (N:=some 34) (v:=?_) (a':=?_) #[true,true,false,false,false,false,false,false,false,false,false,false,false,false,false,false,false,false,false,false,false,false,false,false,false,false,false] rfl rfl (by kernel_rfl) (fun _ _ _ h=>h) (Or.inl ⟨by rfl,?_⟩) ?_ ?_
        rotate_left
        · intro w'
          go_simp
          try (with_reducible rfl)
        rotate_left
        · simp only [Act.put,List.setIfInBounds_toArray,List.set_cons_zero,List.set_cons_succ]
          rfl
        refine pure_ (i:=2) (N:=some 35) (v:=?_) (a':=?_) #[true,true,true,false,false,false,false,false,false,false,false,false,false,false,false,false,false,false,false,false,false,false,false,false,false,false,false] rfl rfl (by kernel_rfl) (fun _ _ _ h=>h) (Or.inl ⟨by rfl,?_⟩) ?_ ?_
        rotate_left
        · intro w'
          go_simp
          try (with_reducible rfl)
        rotate_left
        · simp only [Act.put,List.setIfInBounds_toArray,List.set_cons_zero,List.set_cons_succ]
          rfl
        refine pure_ (i:=3) (N:=some 36) (v:=?_) (a':=?_) #[true,true,true,true,false,false,false,false,false,false,false,false,false,false,false,false,false,false,false,false,false,false,false,false,false,false,false] rfl rfl (by kernel_rfl) (fun _ _ _ h=>h) (Or.inl ⟨by rfl,?_⟩) ?_ ?_
        rotate_left
        · intro w'
          go_simp
          try (with_reducible rfl)
        rotate_left
        · simp only [Act.put,List.setIfInBounds_toArray,List.set_cons_zero,List.set_cons_succ]
          rfl
        refine pure_ (i:=4) (N:=some 37) (v:=?_) (a':=?_) #[true,true,true,true,true,false,false,false,false,false,false,false,false,false,false,false,false,false,false,false,false,false,false,false,false,false,false] rfl rfl (by kernel_rfl) (fun _ _ _ h=>h) (Or.inl ⟨by rfl,?_⟩) ?_ ?_
        rotate_left
        · intro w'
          go_simp
          try (with_reducible rfl)
        rotate_left
        · simp only [Act.put,List.setIfInBounds_toArray,List.set_cons_zero,List.set_cons_succ]
          rfl
        refine pure_ (i:=5) (N:=some 38) (v:=?_) (a':=?_) #[true,true,true,true,true,true,false,false,false,false,false,false,false,false,false,false,false,false,false,false,false,false,false,false,false,false,false] rfl rfl (by kernel_rfl) (fun _ _ _ h=>h) (Or.inl ⟨by rfl,?_⟩) ?_ ?_
        rotate_left
        · intro w'
          go_simp
          try (with_reducible rfl)
        rotate_left
        · simp only [Act.put,List.setIfInBounds_toArray,List.set_cons_zero,List.set_cons_succ]
          rfl
        refine pure_ (i:=6) (N:=some 39) (v:=?_) (a':=?_) #[true,true,true,true,true,true,true,false,false,false,false,false,false,false,false,false,false,false,false,false,false,false,false,false,false,false,false] rfl rfl (by kernel_rfl) (fun _ _ _ h=>h) (Or.inl ⟨by rfl,?_⟩) ?_ ?_
        rotate_left
        · intro w'
          go_simp
          try (with_reducible rfl)
        rotate_left
        · simp only [Act.put,List.setIfInBounds_toArray,List.set_cons_zero,List.set_cons_succ]
          rfl
        refine pure_ (i:=7) (N:=some 40) (v:=undef) (a':=?_) #[true,true,true,true,true,true,true,true,false,false,false,false,false,false,false,false,false,false,false,false,false,false,false,false,false,false,false] rfl rfl (by kernel_rfl) (fun _ _ _ h=>h) (Or.inr ⟨by rfl,rfl⟩) ?_ ?_
        rotate_left
        · simp only [Act.put,List.setIfInBounds_toArray,List.set_cons_zero,List.set_cons_succ]
          rfl
        refine pure_ (i:=8) (N:=some 41) (v:=undef) (a':=?_) #[true,true,true,true,true,true,true,true,true,false,false,false,false,false,false,false,false,false,false,false,false,false,false,false,false,false,false] rfl rfl (by kernel_rfl) (fun _ _ _ h=>h) (Or.inr ⟨by rfl,rfl⟩) ?_ ?_
        rotate_left
        · simp only [Act.put,List.setIfInBounds_toArray,List.set_cons_zero,List.set_cons_succ]
          rfl
        refine pure_ (i:=9) (N:=some 42) (v:=undef) (a':=?_) #[true,true,true,true,true,true,true,true,true,true,false,false,false,false,false,false,false,false,false,false,false,false,false,false,false,false,false] rfl rfl (by kernel_rfl) (fun _ _ _ h=>h) (Or.inr ⟨by rfl,rfl⟩) ?_ ?_
        rotate_left
        · simp only [Act.put,List.setIfInBounds_toArray,List.set_cons_zero,List.set_cons_succ]
          rfl
        refine pure_ (i:=10) (N:=some 43) (v:=undef) (a':=?_) #[true,true,true,true,true,true,true,true,true,true,true,false,false,false,false,false,false,false,false,false,false,false,false,false,false,false,false] rfl rfl (by kernel_rfl) (fun _ _ _ h=>h) (Or.inr ⟨by rfl,rfl⟩) ?_ ?_
        rotate_left
        · simp only [Act.put,List.setIfInBounds_toArray,List.set_cons_zero,List.set_cons_succ]
          rfl
        refine pure_ (i:=11) (N:=some 44) (v:=?_) (a':=?_) #[true,true,true,true,true,true,true,true,true,true,true,true,false,false,false,false,false,false,false,false,false,false,false,false,false,false,false] rfl rfl (by kernel_rfl) (fun _ _ _ h=>h) (Or.inl ⟨by rfl,?_⟩) ?_ ?_
        rotate_left
        · intro w'
          go_simp
          try (with_reducible rfl)
        rotate_left
        · simp only [Act.put,List.setIfInBounds_toArray,List.set_cons_zero,List.set_cons_succ]
          rfl
        refine pure_ (i:=12) (N:=some 45) (v:=?_) (a':=?_) #[true,true,true,true,true,true,true,true,true,true,true,true,true,false,false,false,false,false,false,false,false,false,false,false,false,false,false] rfl rfl (by kernel_rfl) (fun _ _ _ h=>h) (Or.inl ⟨by rfl,?_⟩) ?_ ?_
        rotate_left
        · intro w'
          go_simp
          try (with_reducible rfl)
        rotate_left
        · simp only [Act.put,List.setIfInBounds_toArray,List.set_cons_zero,List.set_cons_succ]
          rfl
        refine pure_ (i:=13) (N:=some 46) (v:=undef) (a':=?_) #[true,true,true,true,true,true,true,true,true,true,true,true,true,true,false,false,false,false,false,false,false,false,false,false,false,false,false] rfl rfl (by kernel_rfl) (fun _ _ _ h=>h) (Or.inr ⟨by rfl,rfl⟩) ?_ ?_
        rotate_left
        · simp only [Act.put,List.setIfInBounds_toArray,List.set_cons_zero,List.set_cons_succ]
          rfl
        refine pure_ (i:=14) (N:=some 47) (v:=undef) (a':=?_) #[true,true,true,true,true,true,true,true,true,true,true,true,true,true,true,false,false,false,false,false,false,false,false,false,false,false,false] rfl rfl (by kernel_rfl) (fun _ _ _ h=>h) (Or.inr ⟨by rfl,rfl⟩) ?_ ?_
        rotate_left
        · simp only [Act.put,List.setIfInBounds_toArray,List.set_cons_zero,List.set_cons_succ]
          rfl
        refine pure_ (i:=15) (N:=some 48) (v:=undef) (a':=?_) #[true,true,true,true,true,true,true,true,true,true,true,true,true,true,true,true,false,false,false,false,false,false,false,false,false,false,false] rfl rfl (by kernel_rfl) (fun _ _ _ h=>h) (Or.inr ⟨by rfl,rfl⟩) ?_ ?_
        rotate_left
        · simp only [Act.put,List.setIfInBounds_toArray,List.set_cons_zero,List.set_cons_succ]
          rfl
        refine pure_ (i:=16) (N:=some 49) (v:=undef) (a':=?_) #[true,true,true,true,true,true,true,true,true,true,true,true,true,true,true,true,true,false,false,false,false,false,false,false,false,false,false] rfl rfl (by kernel_rfl) (fun _ _ _ h=>h) (Or.inr ⟨by rfl,rfl⟩) ?_ ?_
        rotate_left
        · simp only [Act.put,List.setIfInBounds_toArray,List.set_cons_zero,List.set_cons_succ]
          rfl
        refine pure_ (i:=17) (N:=some 50) (v:=undef) (a':=?_) #[true,true,true,true,true,true,true,true,true,true,true,true,true,true,true,true,true,true,false,false,false,false,false,false,false,false,false] rfl rfl (by kernel_rfl) (fun _ _ _ h=>h) (Or.inr ⟨by rfl,rfl⟩) ?_ ?_
        rotate_left
        · simp only [Act.put,List.setIfInBounds_toArray,List.set_cons_zero,List.set_cons_succ]
          rfl
        refine pure_ (i:=18) (N:=some 51) (v:=undef) (a':=?_) #[true,true,true,true,true,true,true,true,true,true,true,true,true,true,true,true,true,true,true,false,false,false,false,false,false,false,false] rfl rfl (by kernel_rfl) (fun _ _ _ h=>h) (Or.inr ⟨by rfl,rfl⟩) ?_ ?_
        rotate_left
        · simp only [Act.put,List.setIfInBounds_toArray,List.set_cons_zero,List.set_cons_succ]
          rfl
        refine pure_ (i:=19) (N:=some 52) (v:=undef) (a':=?_) #[true,true,true,true,true,true,true,true,true,true,true,true,true,true,true,true,true,true,true,true,false,false,false,false,false,false,false] rfl rfl (by kernel_rfl) (fun _ _ _ h=>h) (Or.inr ⟨by rfl,rfl⟩) ?_ ?_
        rotate_left
        · simp only [Act.put,List.setIfInBounds_toArray,List.set_cons_zero,List.set_cons_succ]
          rfl
        refine pure_ (i:=20) (N:=some 53) (v:=undef) (a':=?_) #[true,true,true,true,true,true,true,true,true,true,true,true,true,true,true,true,true,true,true,true,true,false,false,false,false,false,false] rfl rfl (by kernel_rfl) (fun _ _ _ h=>h) (Or.inr ⟨by rfl,rfl⟩) ?_ ?_
        rotate_left
        · simp only [Act.put,List.setIfInBounds_toArray,List.set_cons_zero,List.set_cons_succ]
          rfl
        refine pure_ (i:=21) (N:=some 54) (v:=undef) (a':=?_) #[true,true,true,true,true,true,true,true,true,true,true,true,true,true,true,true,true,true,true,true,true,true,false,false,false,false,false] rfl rfl (by kernel_rfl) (fun _ _ _ h=>h) (Or.inr ⟨by rfl,rfl⟩) ?_ ?_
        rotate_left
        · simp only [Act.put,List.setIfInBounds_toArray,List.set_cons_zero,List.set_cons_succ]
          rfl
        refine pure_ (i:=22) (N:=some 55) (v:=undef) (a':=?_) #[true,true,true,true,true,true,true,true,true,true,true,true,true,true,true,true,true,true,true,true,true,true,true,false,false,false,false] rfl rfl (by kernel_rfl) (fun _ _ _ h=>h) (Or.inr ⟨by rfl,rfl⟩) ?_ ?_
        rotate_left
        · simp only [Act.put,List.setIfInBounds_toArray,List.set_cons_zero,List.set_cons_succ]
          rfl
        refine pure_ (i:=23) (N:=some 56) (v:=undef) (a':=?_) #[true,true,true,true,true,true,true,true,true,true,true,true,true,true,true,true,true,true,true,true,true,true,true,true,false,false,false] rfl rfl (by kernel_rfl) (fun _ _ _ h=>h) (Or.inr ⟨by rfl,rfl⟩) ?_ ?_
        rotate_left
        · simp only [Act.put,List.setIfInBounds_toArray,List.set_cons_zero,List.set_cons_succ]
          rfl
        refine pure_ (i:=24) (N:=some 57) (v:=undef) (a':=?_) #[true,true,true,true,true,true,true,true,true,true,true,true,true,true,true,true,true,true,true,true,true,true,true,true,true,false,false] rfl rfl (by kernel_rfl) (fun _ _ _ h=>h) (Or.inr ⟨by rfl,rfl⟩) ?_ ?_
        rotate_left
        · simp only [Act.put,List.setIfInBounds_toArray,List.set_cons_zero,List.set_cons_succ]
          rfl
        refine pure_ (i:=25) (N:=some 58) (v:=undef) (a':=?_) #[true,true,true,true,true,true,true,true,true,true,true,true,true,true,true,true,true,true,true,true,true,true,true,true,true,true,false] rfl rfl (by kernel_rfl) (fun _ _ _ h=>h) (Or.inr ⟨by rfl,rfl⟩) ?_ ?_
        rotate_left
        · simp only [Act.put,List.setIfInBounds_toArray,List.set_cons_zero,List.set_cons_succ]
          rfl
        refine pure_ (i:=26) (N:=some 59) (v:=?_) (a':=?_) #[true,true,true,true,true,true,true,true,true,true,true,true,true,true,true,true,true,true,true,true,true,true,true,true,true,true,true] rfl rfl (by kernel_rfl) (fun _ _ _ h=>h) (Or.inl ⟨by rfl,?_⟩) ?_ ?_
        rotate_left
        · intro w'
          go_simp
          try (with_reducible rfl)
        rotate_left
        · simp only [Act.put,List.setIfInBounds_toArray,List.set_cons_zero,List.set_cons_succ]
          rfl
        refine done_ (by kernel_rfl) ?_
        go_wp2
        (refine bodyPost_ret (v:=.tuple #[]) (by simp [results,Try.results62,go_sem]) rfl ⟨⟨_,rfl⟩,xs,m,isRecs_uniq _ _ _ _ _ (by have hE:=HE.out [] (recAt_none_of Hn.out (.inr (.inl (by omega))));rw [List.append_nil] at hE;exact hE) (isRecs_recs b),hJ _ _ _ _ HJ.out (grown_of_below (by repeat (first|exact Below.refl _ _|apply below_drew)))⟩)
      · have z3:((n:Int) > 4096)=False:=eq_false (by omega)
        have z4:(4096 < (n:Int))=False:=eq_false (by omega)
        have z5:(4096 < n)=False:=eq_false hz2
        by_cases hz6:b.length < at_ + 13 + n
        · have z6:((at_:Int) + 13 + (n:Int) > (b.length:Int))=True:=eq_true (by omega)
          have z7:((b.length:Int) < (at_:Int) + 13 + (n:Int))=True:=eq_true (by omega)
          refine start_ (n:=27) (S:=fun w'=>w'.cell? ⟨Bx,0,none⟩=some (.slice (some ad) b.length c)) (ds:=[]) #[false,false,false,false,false,false,false,false,false,false,false,false,false,false,false,false,false,false,false,false,false,false,false,false,false,false,false] (by kernel_rfl) rfl rfl (by exact (blk_cell HBe.out 0).trans rfl) ?_
          intro hHeld
          refine pure_ (i:=0) (N:=some 33) (v:=?_) (a':=?_) #[true,false,false,false,false,false,false,false,false,false,false,false,false,false,false,false,false,false,false,false,false,false,false,false,false,false,false] rfl rfl (by kernel_rfl) (fun _ _ _ h=>h) (Or.inl ⟨by rfl,?_⟩) ?_ ?_
          rotate_left
          · intro w'
            go_simp
            try (with_reducible rfl)
          rotate_left
          · simp only [Act.put,List.setIfInBounds_toArray,List.set_cons_zero,List.set_cons_succ]
            rfl
          refine pure_ (i:=1) (N:=some 34) (v:=?_) (a':=?_) #[true,true,false,false,false,false,false,false,false,false,false,false,false,false,false,false,false,false,false,false,false,false,false,false,false,false,false] rfl rfl (by kernel_rfl) (fun _ _ _ h=>h) (Or.inl ⟨by rfl,?_⟩) ?_ ?_
          rotate_left
          · intro w'
            go_simp
            try (with_reducible rfl)
          rotate_left
          · simp only [Act.put,List.setIfInBounds_toArray,List.set_cons_zero,List.set_cons_succ]
            rfl
          refine pure_ (i:=2) (N:=some 35) (v:=?_) (a':=?_) #[true,true,true,false,false,false,false,false,false,false,false,false,false,false,false,false,false,false,false,false,false,false,false,false,false,false,false] rfl rfl (by kernel_rfl) (fun _ _ _ h=>h) (Or.inl ⟨by rfl,?_⟩) ?_ ?_
          rotate_left
          · intro w'
            go_simp
            try (with_reducible rfl)
          rotate_left
          · simp only [Act.put,List.setIfInBounds_toArray,List.set_cons_zero,List.set_cons_succ]
            rfl
          refine pure_ (i:=3) (N:=some 36) (v:=?_) (a':=?_) #[true,true,true,true,false,false,false,false,false,false,false,false,false,false,false,false,false,false,false,false,false,false,false,false,false,false,false] rfl rfl (by kernel_rfl) (fun _ _ _ h=>h) (Or.inl ⟨by rfl,?_⟩) ?_ ?_
          rotate_left
          · intro w'
            go_simp
            try (with_reducible rfl)
          rotate_left
          · simp only [Act.put,List.setIfInBounds_toArray,List.set_cons_zero,List.set_cons_succ]
            rfl
          refine pure_ (i:=4) (N:=some 37) (v:=?_) (a':=?_) #[true,true,true,true,true,false,false,false,false,false,false,false,false,false,false,false,false,false,false,false,false,false,false,false,false,false,false] rfl rfl (by kernel_rfl) (fun _ _ _ h=>h) (Or.inl ⟨by rfl,?_⟩) ?_ ?_
          rotate_left
          · intro w'
            go_simp
            try (with_reducible rfl)
          rotate_left
          · simp only [Act.put,List.setIfInBounds_toArray,List.set_cons_zero,List.set_cons_succ]
            rfl
          refine pure_ (i:=5) (N:=some 38) (v:=?_) (a':=?_) #[true,true,true,true,true,true,false,false,false,false,false,false,false,false,false,false,false,false,false,false,false,false,false,false,false,false,false] rfl rfl (by kernel_rfl) (fun _ _ _ h=>h) (Or.inl ⟨by rfl,?_⟩) ?_ ?_
          rotate_left
          · intro w'
            go_simp
            try (with_reducible rfl)
          rotate_left
          · simp only [Act.put,List.setIfInBounds_toArray,List.set_cons_zero,List.set_cons_succ]
            rfl
          refine pure_ (i:=6) (N:=some 39) (v:=?_) (a':=?_) #[true,true,true,true,true,true,true,false,false,false,false,false,false,false,false,false,false,false,false,false,false,false,false,false,false,false,false] rfl rfl (by kernel_rfl) (fun _ _ _ h=>h) (Or.inl ⟨by rfl,?_⟩) ?_ ?_
          rotate_left
          · intro w'
            go_simp
            try (with_reducible rfl)
          rotate_left
          · simp only [Act.put,List.setIfInBounds_toArray,List.set_cons_zero,List.set_cons_succ]
            rfl
          refine pure_ (i:=7) (N:=some 40) (v:=?_) (a':=?_) #[true,true,true,true,true,true,true,true,false,false,false,false,false,false,false,false,false,false,false,false,false,false,false,false,false,false,false] rfl rfl (by kernel_rfl) (fun _ _ _ h=>h) (Or.inl ⟨by rfl,?_⟩) ?_ ?_
          rotate_left
          · intro w'
            go_simp
            try (with_reducible rfl)
          rotate_left
          · simp only [Act.put,List.setIfInBounds_toArray,List.set_cons_zero,List.set_cons_succ]
            rfl
          refine take_ (i:=8) (N:=some 41) (v:=?_) (a':=?_) #[true,true,true,true,true,true,true,true,true,false,false,false,false,false,false,false,false,false,false,false,false,false,false,false,false,false,false] rfl rfl (by kernel_rfl) (fun _ _ _ h=>h) (Or.inl ⟨by rfl,?_⟩) hHeld ?_ ?_
          rotate_left
          · intro w' s0
            go_simp
            with_reducible rfl
          rotate_left
          · simp only [Act.put,List.setIfInBounds_toArray,List.set_cons_zero,List.set_cons_succ]
            rfl
          refine pure_ (i:=9) (N:=some 42) (v:=?_) (a':=?_) #[true,true,true,true,true,true,true,true,true,true,false,false,false,false,false,false,false,false,false,false,false,false,false,false,false,false,false] rfl rfl (by kernel_rfl) (fun _ _ _ h=>h) (Or.inl ⟨by rfl,?_⟩) ?_ ?_
          rotate_left
          · intro w'
            go_simp
            try (with_reducible rfl)
          rotate_left
          · simp only [Act.put,List.setIfInBounds_toArray,List.set_cons_zero,List.set_cons_succ]
            rfl
          refine pure_ (i:=10) (N:=some 43) (v:=?_) (a':=?_) #[true,true,true,true,true,true,true,true,true,true,true,false,false,false,false,false,false,false,false,false,false,false,false,false,false,false,false] rfl rfl (by kernel_rfl) (fun _ _ _ h=>h) (Or.inl ⟨by rfl,?_⟩) ?_ ?_
          rotate_left
          · intro w'
            go_simp
            try (with_reducible rfl)
          rotate_left
          · simp only [Act.put,List.setIfInBounds_toArray,List.set_cons_zero,List.set_cons_succ]
            rfl
          refine pure_ (i:=11) (N:=some 44) (v:=?_) (a':=?_) #[true,true,true,true,true,true,true,true,true,true,true,true,false,false,false,false,false,false,false,false,false,false,false,false,false,false,false] rfl rfl (by kernel_rfl) (fun _ _ _ h=>h) (Or.inl ⟨by rfl,?_⟩) ?_ ?_
          rotate_left
          · intro w'
            go_simp
            try (with_reducible rfl)
          rotate_left
          · simp only [Act.put,List.setIfInBounds_toArray,List.set_cons_zero,List.set_cons_succ]
            rfl
          refine pure_ (i:=12) (N:=some 45) (v:=?_) (a':=?_) #[true,true,true,true,true,true,true,true,true,true,true,true,true,false,false,false,false,false,false,false,false,false,false,false,false,false,false] rfl rfl (by kernel_rfl) (fun _ _ _ h=>h) (Or.inl ⟨by rfl,?_⟩) ?_ ?_
          rotate_left
          · intro w'
            go_simp
            try (with_reducible rfl)
          rotate_left
          · simp only [Act.put,List.setIfInBounds_toArray,List.set_cons_zero,List.set_cons_succ]
            rfl
          refine pure_ (i:=13) (N:=some 46) (v:=undef) (a':=?_) #[true,true,true,true,true,true,true,true,true,true,true,true,true,true,false,false,false,false,false,false,false,false,false,false,false,false,false] rfl rfl (by kernel_rfl) (fun _ _ _ h=>h) (Or.inr ⟨by rfl,rfl⟩) ?_ ?_
          rotate_left
          · simp only [Act.put,List.setIfInBounds_toArray,List.set_cons_zero,List.set_cons_succ]
            rfl
          refine pure_ (i:=14) (N:=some 47) (v:=undef) (a':=?_) #[true,true,true,true,true,true,true,true,true,true,true,true,true,true,true,false,false,false,false,false,false,false,false,false,false,false,false] rfl rfl (by kernel_rfl) (fun _ _ _ h=>h) (Or.inr ⟨by rfl,rfl⟩) ?_ ?_
          rotate_left
          · simp only [Act.put,List.setIfInBounds_toArray,List.set_cons_zero,List.set_cons_succ]
            rfl
          refine pure_ (i:=15) (N:=some 48) (v:=undef) (a':=?_) #[true,true,true,true,true,true,true,true,true,true,true,true,true,true,true,true,false,false,false,false,false,false,false,false,false,false,false] rfl rfl (by kernel_rfl) (fun _ _ _ h=>h) (Or.inr ⟨by rfl,rfl⟩) ?_ ?_
          rotate_left
          · simp only [Act.put,List.setIfInBounds_toArray,List.set_cons_zero,List.set_cons_succ]
            rfl
          refine pure_ (i:=16) (N:=some 49) (v:=undef) (a':=?_) #[true,true,true,true,true,true,true,true,true,true,true,true,true,true,true,true,true,false,false,false,false,false,false,false,false,false,false] rfl rfl (by kernel_rfl) (fun _ _ _ h=>h) (Or.inr ⟨by rfl,rfl⟩) ?_ ?_
          rotate_left
          · simp only [Act.put,List.setIfInBounds_toArray,List.set_cons_zero,List.set_cons_succ]
            rfl
          refine pure_ (i:=17) (N:=some 50) (v:=undef) (a':=?_) #[true,true,true,true,true,true,true,true,true,true,true,true,true,true,true,true,true,true,false,false,false,false,false,false,false,false,false] rfl rfl (by kernel_rfl) (fun _ _ _ h=>h) (Or.inr ⟨by rfl,rfl⟩) ?_ ?_
          rotate_left
          · simp only [Act.put,List.setIfInBounds_toArray,List.set_cons_zero,List.set_cons_succ]
            rfl
          refine pure_ (i:=18) (N:=some 51) (v:=undef) (a':=?_) #[true,true,true,true,true,true,true,true,true,true,true,true,true,true,true,true,true,true,true,false,false,false,false,false,false,false,false] rfl rfl (by kernel_rfl) (fun _ _ _ h=>h) (Or.inr ⟨by rfl,rfl⟩) ?_ ?_
          rotate_left
          · simp only [Act.put,List.setIfInBounds_toArray,List.set_cons_zero,List.set_cons_succ]
            rfl
          refine pure_ (i:=19) (N:=some 52) (v:=undef) (a':=?_) #[true,true,true,true,true,true,true,true,true,true,true,true,true,true,true,true,true,true,true,true,false,false,false,false,false,false,false] rfl rfl (by kernel_rfl) (fun _ _ _ h=>h) (Or.inr ⟨by rfl,rfl⟩) ?_ ?_
          rotate_left
          · simp only [Act.put,List.setIfInBounds_toArray,List.set_cons_zero,List.set_cons_succ]
            rfl
          refine pure_ (i:=20) (N:=some 53) (v:=undef) (a':=?_) #[true,true,true,true,true,true,true,true,true,true,true,true,true,true,true,true,true,true,true,true,true,false,false,false,false,false,false] rfl rfl (by kernel_rfl) (fun _ _ _ h=>h) (Or.inr ⟨by rfl,rfl⟩) ?_ ?_
          rotate_left
          · simp only [Act.put,List.setIfInBounds_toArray,List.set_cons_zero,List.set_cons_succ]
            rfl
          refine pure_ (i:=21) (N:=some 54) (v:=undef) (a':=?_) #[true,true,true,true,true,true,true,true,true,true,true,true,true,true,true,true,true,true,true,true,true,true,false,false,false,false,false] rfl rfl (by kernel_rfl) (fun _ _ _ h=>h) (Or.inr ⟨by rfl,rfl⟩) ?_ ?_
          rotate_left
          · simp only [Act.put,List.setIfInBounds_toArray,List.set_cons_zero,List.set_cons_succ]
            rfl
          refine pure_ (i:=22) (N:=some 55) (v:=undef) (a':=?_) #[true,true,true,true,true,true,true,true,true,true,true,true,true,true,true,true,true,true,true,true,true,true,true,false,false,false,false] rfl rfl (by kernel_rfl) (fun _ _ _ h=>h) (Or.inr ⟨by rfl,rfl⟩) ?_ ?_
          rotate_left
          · simp only [Act.put,List.setIfInBounds_toArray,List.set_cons_zero,List.set_cons_succ]
            rfl
          refine pure_ (i:=23) (N:=some 56) (v:=undef) (a':=?_) #[true,true,true,true,true,true,true,true,true,true,true,true,true,true,true,true,true,true,true,true,true,true,true,true,false,false,false] rfl rfl (by kernel_rfl) (fun _ _ _ h=>h) (Or.inr ⟨by rfl,rfl⟩) ?_ ?_
          rotate_left
          · simp only [Act.put,List.setIfInBounds_toArray,List.set_cons_zero,List.set_cons_succ]
            rfl
          refine pure_ (i:=24) (N:=some 57) (v:=undef) (a':=?_) #[true,true,true,true,true,true,true,true,true,true,true,true,true,true,true,true,true,true,true,true,true,true,true,true,true,false,false] rfl rfl (by kernel_rfl) (fun _ _ _ h=>h) (Or.inr ⟨by rfl,rfl⟩) ?_ ?_
          rotate_left
          · simp only [Act.put,List.setIfInBounds_toArray,List.set_cons_zero,List.set_cons_succ]
            rfl
          refine pure_ (i:=25) (N:=some 58) (v:=undef) (a':=?_) #[true,true,true,true,true,true,true,true,true,true,true,true,true,true,true,true,true,true,true,true,true,true,true,true,true,true,false] rfl rfl (by kernel_rfl) (fun _ _ _ h=>h) (Or.inr ⟨by rfl,rfl⟩) ?_ ?_
          rotate_left
          · simp only [Act.put,List.setIfInBounds_toArray,List.set_cons_zero,List.set_cons_succ]
            rfl
          refine pure_ (i:=26) (N:=some 59) (v:=?_) (a':=?_) #[true,true,true,true,true,true,true,true,true,true,true,true,true,true,true,true,true,true,true,true,true,true,true,true,true,true,true] rfl rfl (by kernel_rfl) (fun _ _ _ h=>h) (Or.inl ⟨by rfl,?_⟩) ?_ ?_
          rotate_left
          · intro w'
            go_simp
            try (with_reducible rfl)
          rotate_left
          · simp only [Act.put,List.setIfInBounds_toArray,List.set_cons_zero,List.set_cons_succ]
            rfl
          refine done_ (by kernel_rfl) ?_
          go_wp2
          (refine bodyPost_ret (v:=.tuple #[]) (by simp [results,Try.results62,go_sem]) rfl ⟨⟨_,rfl⟩,xs,m,isRecs_uniq _ _ _ _ _ (by have hE:=HE.out [] (recAt_none_of Hn.out (.inr (.inr (.inl (by omega)))));rw [List.append_nil] at hE;exact hE) (isRecs_recs b),hJ _ _ _ _ HJ.out (grown_of_below (by repeat (first|exact Below.refl _ _|apply below_drew)))⟩)
        · have z6:((at_:Int) + 13 + (n:Int) > (b.length:Int))=False:=eq_false (by omega)
          have z7:((b.length:Int) < (at_:Int) + 13 + (n:Int))=False:=eq_false (by omega)
          obtain ⟨d1,hcut1,hC1,hle1⟩:=cut_seg HC.out hbc (at_ + 13) (at_ + 13 + n) ((at_:Int) + 13) ((at_:Int) + 13 + (n:Int)) (by omega) (by omega) (by omega) (by omega)
          obtain ⟨d2,hcut2,hC2,hle2⟩:=cut_seg HC.out hbc at_ (at_ + 13 + n) (at_:Int) ((at_:Int) + 13 + (n:Int)) (by omega) (by omega) (by omega) (by omega)
          obtain ⟨R,hR⟩:∃ R,R=(b.take (at_ + 13 + n)).drop (at_ + 13):=⟨_,rfl⟩
          obtain ⟨G,hG⟩:∃ G,G=(b.take (at_ + 13 + n)).drop at_:=⟨_,rfl⟩
          rw [← hR] at hcut1 hC1 hle1
          rw [← hG] at hcut2 hC2 hle2
          have hRl:R.length=n:=by rw [hR,List.length_drop,List.length_take];omega
          obtain ⟨ke,hke⟩:=(encode_ev R (kk:Int) (by omega)).rounds
          have HR:=Lib.hid hR
          have HG:=Lib.hid hG
          have HCa:=Lib.hid hC1
          have HCb:=Lib.hid hC2
          have HRl:=Lib.hid hRl
          clear hR hG hC1 hC2 hRl
          refine start_ (n:=27) (S:=fun w'=>w'.cell? ⟨Bx,0,none⟩=some (.slice (some ad) b.length c)) (ds:=[]) #[false,false,false,false,false,false,false,false,false,false,false,false,false,false,false,false,false,false,false,false,false,false,false,false,false,false,false] (by kernel_rfl) rfl rfl (by exact (blk_cell HBe.out 0).trans rfl) ?_
          intro hHeld
          refine pure_ (i:=0) (N:=some 33) (v:=?_) (a':=?_) #[true,false,false,false,false,false,false,false,false,false,false,false,false,false,false,false,false,false,false,false,false,false,false,false,false,false,false] rfl rfl (by kernel_rfl) (fun _ _ _ h=>h) (Or.inl ⟨by rfl,?_⟩) ?_ ?_
          rotate_left
          · intro w'
            go_simp
            try (with_reducible rfl)
          rotate_left
          · simp only [Act.put,List.setIfInBounds_toArray,List.set_cons_zero,List.set_cons_succ]
            rfl
          refine pure_ (i:=1) (N:=some 34) (v:=?_) (a':=?_) #[true,true,false,false,false,false,false,false,false,false,false,false,false,false,false,false,false,false,false,false,false,false,false,false,false,false,false] rfl rfl (by kernel_rfl) (fun _ _ _ h=>h) (Or.inl ⟨by rfl,?_⟩) ?_ ?_
          rotate_left
          · intro w'
            go_simp
            try (with_reducible rfl)
          rotate_left
          · simp only [Act.put,List.setIfInBounds_toArray,List.set_cons_zero,List.set_cons_succ]
            rfl
          refine pure_ (i:=2) (N:=some 35) (v:=?_) (a':=?_) #[true,true,true,false,false,false,false,false,false,false,false,false,false,false,false,false,false,false,false,false,false,false,false,false,false,false,false] rfl rfl (by kernel_rfl) (fun _ _ _ h=>h) (Or.inl ⟨by rfl,?_⟩) ?_ ?_
          rotate_left
          · intro w'
            go_simp
            try (with_reducible rfl)
          rotate_left
          · simp only [Act.put,List.setIfInBounds_toArray,List.set_cons_zero,List.set_cons_succ]
            rfl
          refine pure_ (i:=3) (N:=some 36) (v:=?_) (a':=?_) #[true,true,true,true,false,false,false,false,false,false,false,false,false,false,false,false,false,false,false,false,false,false,false,false,false,false,false] rfl rfl (by kernel_rfl) (fun _ _ _ h=>h) (Or.inl ⟨by rfl,?_⟩) ?_ ?_
          rotate_left
          · intro w'
            go_simp
            try (with_reducible rfl)
          rotate_left
          · simp only [Act.put,List.setIfInBounds_toArray,List.set_cons_zero,List.set_cons_succ]
            rfl
          refine pure_ (i:=4) (N:=some 37) (v:=?_) (a':=?_) #[true,true,true,true,true,false,false,false,false,false,false,false,false,false,false,false,false,false,false,false,false,false,false,false,false,false,false] rfl rfl (by kernel_rfl) (fun _ _ _ h=>h) (Or.inl ⟨by rfl,?_⟩) ?_ ?_
          rotate_left
          · intro w'
            go_simp
            try (with_reducible rfl)
          rotate_left
          · simp only [Act.put,List.setIfInBounds_toArray,List.set_cons_zero,List.set_cons_succ]
            rfl
          refine pure_ (i:=5) (N:=some 38) (v:=?_) (a':=?_) #[true,true,true,true,true,true,false,false,false,false,false,false,false,false,false,false,false,false,false,false,false,false,false,false,false,false,false] rfl rfl (by kernel_rfl) (fun _ _ _ h=>h) (Or.inl ⟨by rfl,?_⟩) ?_ ?_
          rotate_left
          · intro w'
            go_simp
            try (with_reducible rfl)
          rotate_left
          · simp only [Act.put,List.setIfInBounds_toArray,List.set_cons_zero,List.set_cons_succ]
            rfl
          refine pure_ (i:=6) (N:=some 39) (v:=?_) (a':=?_) #[true,true,true,true,true,true,true,false,false,false,false,false,false,false,false,false,false,false,false,false,false,false,false,false,false,false,false] rfl rfl (by kernel_rfl) (fun _ _ _ h=>h) (Or.inl ⟨by rfl,?_⟩) ?_ ?_
          rotate_left
          · intro w'
            go_simp
            try (with_reducible rfl)
          rotate_left
          · simp only [Act.put,List.setIfInBounds_toArray,List.set_cons_zero,List.set_cons_succ]
            rfl
          refine pure_ (i:=7) (N:=some 40) (v:=?_) (a':=?_) #[true,true,true,true,true,true,true,true,false,false,false,false,false,false,false,false,false,false,false,false,false,false,false,false,false,false,false] rfl rfl (by kernel_rfl) (fun _ _ _ h=>h) (Or.inl ⟨by rfl,?_⟩) ?_ ?_
          rotate_left
          · intro w'
            go_simp
            try (with_reducible rfl)
          rotate_left
          · simp only [Act.put,List.setIfInBounds_toArray,List.set_cons_zero,List.set_cons_succ]
            rfl
          refine take_ (i:=8) (N:=some 41) (v:=?_) (a':=?_) #[true,true,true,true,true,true,true,true,true,false,false,false,false,false,false,false,false,false,false,false,false,false,false,false,false,false,false] rfl rfl (by kernel_rfl) (fun _ _ _ h=>h) (Or.inl ⟨by rfl,?_⟩) hHeld ?_ ?_
          rotate_left
          · intro w' s0
            go_simp
            with_reducible rfl
          rotate_left
          · simp only [Act.put,List.setIfInBounds_toArray,List.set_cons_zero,List.set_cons_succ]
            rfl
          refine pure_ (i:=9) (N:=some 42) (v:=?_) (a':=?_) #[true,true,true,true,true,true,true,true,true,true,false,false,false,false,false,false,false,false,false,false,false,false,false,false,false,false,false] rfl rfl (by kernel_rfl) (fun _ _ _ h=>h) (Or.inl ⟨by rfl,?_⟩) ?_ ?_
          rotate_left
          · intro w'
            go_simp
            try (with_reducible rfl)
          rotate_left
          · simp only [Act.put,List.setIfInBounds_toArray,List.set_cons_zero,List.set_cons_succ]
            rfl
          refine pure_ (i:=10) (N:=some 43) (v:=?_) (a':=?_) #[true,true,true,true,true,true,true,true,true,true,true,false,false,false,false,false,false,false,false,false,false,false,false,false,false,false,false] rfl rfl (by kernel_rfl) (fun _ _ _ h=>h) (Or.inl ⟨by rfl,?_⟩) ?_ ?_
          rotate_left
          · intro w'
            go_simp
            try (with_reducible rfl)
          rotate_left
          · simp only [Act.put,List.setIfInBounds_toArray,List.set_cons_zero,List.set_cons_succ]
            rfl
          refine pure_ (i:=11) (N:=some 44) (v:=?_) (a':=?_) #[true,true,true,true,true,true,true,true,true,true,true,true,false,false,false,false,false,false,false,false,false,false,false,false,false,false,false] rfl rfl (by kernel_rfl) (fun _ _ _ h=>h) (Or.inl ⟨by rfl,?_⟩) ?_ ?_
          rotate_left
          · intro w'
            go_simp
            try (with_reducible rfl)
          rotate_left
          · simp only [Act.put,List.setIfInBounds_toArray,List.set_cons_zero,List.set_cons_succ]
            rfl
          refine pure_ (i:=12) (N:=some 45) (v:=?_) (a':=?_) #[true,true,true,true,true,true,true,true,true,true,true,true,true,false,false,false,false,false,false,false,false,false,false,false,false,false,false] rfl rfl (by kernel_rfl) (fun _ _ _ h=>h) (Or.inl ⟨by rfl,?_⟩) ?_ ?_
          rotate_left
          · intro w'
            go_simp
            try (with_reducible rfl)
          rotate_left
          · simp only [Act.put,List.setIfInBounds_toArray,List.set_cons_zero,List.set_cons_succ]
            rfl
          refine pure_ (i:=14) (N:=some 47) (v:=?_) (a':=?_) #[true,true,true,true,true,true,true,true,true,true,true,true,true,false,true,false,false,false,false,false,false,false,false,false,false,false,false] rfl rfl (by kernel_rfl) (fun _ _ _ h=>h) (Or.inl ⟨by rfl,?_⟩) ?_ ?_
          rotate_left
          · intro w'
            go_simp
            try (with_reducible rfl)
          rotate_left
          · simp only [Act.put,List.setIfInBounds_toArray,List.set_cons_zero,List.set_cons_succ]
            rfl
          refine pure_ (i:=15) (N:=some 48) (v:=?_) (a':=?_) #[true,true,true,true,true,true,true,true,true,true,true,true,true,false,true,true,false,false,false,false,false,false,false,false,false,false,false] rfl rfl (by kernel_rfl) (fun _ _ _ h=>h) (Or.inl ⟨by rfl,?_⟩) ?_ ?_
          rotate_left
          · intro w'
            go_simp
            try (with_reducible rfl)
          rotate_left
          · simp only [Act.put,List.setIfInBounds_toArray,List.set_cons_zero,List.set_cons_succ]
            rfl
          refine pure_ (i:=16) (N:=some 49) (v:=?_) (a':=?_) #[true,true,true,true,true,true,true,true,true,true,true,true,true,false,true,true,true,false,false,false,false,false,false,false,false,false,false] rfl rfl (by kernel_rfl) (fun _ _ _ h=>h) (Or.inl ⟨by rfl,?_⟩) ?_ ?_
          rotate_left
          · intro w'
            go_simp
            try (with_reducible rfl)
          rotate_left
          · simp only [Act.put,List.setIfInBounds_toArray,List.set_cons_zero,List.set_cons_succ]
            rfl
          refine pure_ (i:=18) (N:=some 51) (v:=?_) (a':=?_) #[true,true,true,true,true,true,true,true,true,true,true,true,true,false,true,true,true,false,true,false,false,false,false,false,false,false,false] rfl rfl (by kernel_rfl) (fun _ _ _ h=>h) (Or.inl ⟨by rfl,?_⟩) ?_ ?_
          rotate_left
          · intro w'
            go_simp
            try (with_reducible rfl)
          rotate_left
          · simp only [Act.put,List.setIfInBounds_toArray,List.set_cons_zero,List.set_cons_succ]
            rfl
          refine pure_ (i:=21) (N:=some 54) (v:=?_) (a':=?_) #[true,true,true,true,true,true,true,true,true,true,true,true,true,false,true,true,true,false,true,false,false,true,false,false,false,false,false] rfl rfl (by kernel_rfl) (fun _ _ _ h=>h) (Or.inl ⟨by rfl,?_⟩) ?_ ?_
          rotate_left
          · intro w'
            go_simp
            try (with_reducible rfl)
          rotate_left
          · simp only [Act.put,List.setIfInBounds_toArray,List.set_cons_zero,List.set_cons_succ]
            rfl
          refine pure_ (i:=22) (N:=some 55) (v:=?_) (a':=?_) #[true,true,true,true,true,true,true,true,true,true,true,true,true,false,true,true,true,false,true,false,false,true,true,false,false,false,false] rfl rfl (by kernel_rfl) (fun _ _ _ h=>h) (Or.inl ⟨by rfl,?_⟩) ?_ ?_
          rotate_left
          · intro w'
            go_simp
            try (with_reducible rfl)
          rotate_left
          · simp only [Act.put,List.setIfInBounds_toArray,List.set_cons_zero,List.set_cons_succ]
            rfl
          refine take_ (i:=13) (N:=some 46) (v:=?_) (a':=?_) #[true,true,true,true,true,true,true,true,true,true,true,true,true,true,true,true,true,false,true,false,false,true,true,false,false,false,false] rfl rfl (by kernel_rfl) (fun _ _ _ h=>h) (Or.inl ⟨by rfl,?_⟩) hHeld ?_ ?_
          rotate_left
          · intro w' s0
            go_simp
            with_reducible rfl
          rotate_left
          · simp only [Act.put,List.setIfInBounds_toArray,List.set_cons_zero,List.set_cons_succ]
            rfl
          refine pure_ (i:=17) (N:=some 50) (v:=?_) (a':=?_) #[true,true,true,true,true,true,true,true,true,true,true,true,true,true,true,true,true,true,true,false,false,true,true,false,false,false,false] rfl rfl (by kernel_rfl) (fun _ _ _ h=>h) (Or.inl ⟨by rfl,?_⟩) ?_ ?_
          rotate_left
          · intro w'
            go_simp
            try (with_reducible rfl)
          rotate_left
          · simp only [Act.put,List.setIfInBounds_toArray,List.set_cons_zero,List.set_cons_succ]
            rfl
          refine take_ (i:=20) (N:=some 53) (v:=?_) (a':=?_) #[true,true,true,true,true,true,true,true,true,true,true,true,true,true,true,true,true,true,true,false,true,true,true,false,false,false,false] rfl rfl (by kernel_rfl) (fun _ _ _ h=>h) (Or.inl ⟨by rfl,?_⟩) hHeld ?_ ?_
          rotate_left
          · intro w' s0
            go_simp
            with_reducible rfl
          rotate_left
          · simp only [Act.put,List.setIfInBounds_toArray,List.set_cons_zero,List.set_cons_succ]
            rfl
          refine pure_ (i:=23) (N:=some 56) (v:=?_) (a':=?_) #[true,true,true,true,true,true,true,true,true,true,true,true,true,true,true,true,true,true,true,false,true,true,true,true,false,false,false] rfl rfl (by kernel_rfl) (fun _ _ _ h=>h) (Or.inl ⟨by rfl,?_⟩) ?_ ?_
          rotate_left
          · intro w'
            go_simp
            try (with_reducible rfl)
          rotate_left
          · simp only [Act.put,List.setIfInBounds_toArray,List.set_cons_zero,List.set_cons_succ]
            rfl
          refine one_ (i:=19) (N:=some 52) #[true,true,true,true,true,true,true,true,true,true,true,true,true,true,true,true,true,true,true,true,true,true,true,true,false,false,false] rfl rfl (by kernel_rfl) (by decide) (fun K hK => ?_)
          refine goes_ Try.func51 (by kernel_rfl) rfl #[.slice d1 R.length (c - (at_ + 13)),.int .i64 (kk:Int)] (by rfl) rfl rfl (by (try simp only [List.map_toArray,List.map_cons,List.map_nil]);first|done|rfl) ?_
          refine (journal_encode.calls ke d1 (c - (at_ + 13)) R (kk:Int) (encL R (kk:Int)) _ (Kd.C_below HCa.out (below_drew (below_drew (Below.refl _ _)))) hle1 hke).mono ?_
          rintro e w50 ⟨v50,rfl,hr50,hb50⟩
          obtain ⟨A50,c50,rfl⟩:=Kd.R_slice hr50
          have D50:=Lib.hid (show Below wr.heap.size wr w50 from below_then (below_drew (below_drew (Below.refl _ _))) (Nat.le_refl _) hb50)
          have C50:=Lib.hid (Kd.R_reads' hr50).2.2
          clear hr50 hb50
          refine ⟨_,rfl,?_⟩
          refine hK.out _ _ (by exact (blk_cell (blk_below HBx.out D50.out) 0).trans rfl) (fun hHeld => ?_)
          clear hK K
          refine norm_ (a':=?_) ?_ ?_
          rotate_left
          · show Act.put _ (some 52) _=_
            simp only [Act.put,List.setIfInBounds_toArray,List.set_cons_zero,List.set_cons_succ]
            rfl
          refine one_ (i:=24) (N:=some 57) #[true,true,true,true,true,true,true,true,true,true,true,true,true,true,true,true,true,true,true,true,true,true,true,true,true,false,false] rfl rfl (by kernel_rfl) (by decide) (fun K hK => ?_)
          refine goes_ Try.func63 (by kernel_rfl) rfl #[.slice A50 (encL R (kk:Int)).length c50,.slice d2 G.length (c - at_)] (by rfl) rfl rfl (by (try simp only [List.map_toArray,List.map_cons,List.map_nil]);first|done|rfl) ?_
          refine (equal_calls A50 c50 (encL R (kk:Int)) d2 (c - at_) G _ C50.out (Kd.C_below HCb.out D50.out)).mono ?_
          rintro e w51 ⟨rfl,hb51⟩
          have D51:=Lib.hid (below_then D50.out D50.out.size hb51)
          clear hb51
          refine ⟨_,rfl,?_⟩
          refine hK.out _ _ (by exact (blk_cell (blk_below HBx.out D51.out) 0).trans rfl) (fun hHeld => ?_)
          clear hK K
          refine norm_ (a':=?_) ?_ ?_
          rotate_left
          · show Act.put _ (some 57) _=_
            simp only [Act.put,List.setIfInBounds_toArray,List.set_cons_zero,List.set_cons_succ]
            rfl
          refine pure_ (i:=25) (N:=some 58) (v:=?_) (a':=?_) #[true,true,true,true,true,true,true,true,true,true,true,true,true,true,true,true,true,true,true,true,true,true,true,true,true,true,false] rfl rfl (by kernel_rfl) (fun _ _ _ h=>h) (Or.inl ⟨by rfl,?_⟩) ?_ ?_
          rotate_left
          · intro w'
            go_simp
            try (with_reducible rfl)
          rotate_left
          · simp only [Act.put,List.setIfInBounds_toArray,List.set_cons_zero,List.set_cons_succ]
            rfl
          refine pure_ (i:=26) (N:=some 59) (v:=?_) (a':=?_) #[true,true,true,true,true,true,true,true,true,true,true,true,true,true,true,true,true,true,true,true,true,true,true,true,true,true,true] rfl rfl (by kernel_rfl) (fun _ _ _ h=>h) (Or.inl ⟨by rfl,?_⟩) ?_ ?_
          rotate_left
          · intro w'
            go_simp
            try (with_reducible rfl)
          rotate_left
          · simp only [Act.put,List.setIfInBounds_toArray,List.set_cons_zero,List.set_cons_succ]
            rfl
          refine done_ (by kernel_rfl) ?_
          have heq0:recEq b kk at_ n=((strOfNums (encL R (kk:Int))).toList == (strOfNums G).toList):=by rw [HR.out,HG.out];rfl
          rw [← heq0]
          cases heq:recEq b kk at_ n
          · have Heq:=Lib.hid heq
            clear heq0 heq
            go_wp2
            (refine bodyPost_ret (v:=.tuple #[]) (by simp [results,Try.results62,go_sem]) rfl ⟨⟨_,rfl⟩,xs,m,isRecs_uniq _ _ _ _ _ (by have hE:=HE.out [] (recAt_none_of Hn.out (.inr (.inr (.inr Heq.out))));rw [List.append_nil] at hE;exact hE) (isRecs_recs b),hJ _ _ _ _ HJ.out (grown_of_below D51.out)⟩)
          · have Heq:=Lib.hid heq
            have Hsome:=Lib.hid (recAt_some_of Hn.out hlt (by omega) (by omega) (by omega) heq)
            clear heq0 heq
            have q1:wrap64 ((at_:Int) + 13)=(at_:Int) + 13:=m1
            obtain ⟨i5',hi5',hz5',hs5',hy5'⟩:=info_parts info5
            go_upto_region 10 with (first|((with_reducible refine gate_dst (N:=61) rfl ?_);refine Kd.R_make (Kd.int .u8) (w0:=w51) w51.heap.size 5 rfl (N:=61) rfl 22 (.tmp 60) (.tmp 60) rfl (n:Int) rfl rfl hu22 (.int .u8 0) 1 info5 rfl (by decide) (by decide) (0:Int) (ok:=fun _=>True) (okp:=fun _=>False) rfl (fun _ h=>h.elim) trivial (by omega) (by simp;omega) (Below.refl _ _) (Nat.le_refl _) ?_;intro v61 w61 hr61 hb61 _ _;obtain ⟨g61,c61,cur61,rfl,hg61,hcur61,hcap61,hmx61,hsz61⟩:=own_all (Kd.own_of_R hr61) (by simp;omega);have Hg61:=Lib.hid hg61;have Hcur61:=Lib.hid hcur61;have Hsz61:=Lib.hid hsz61;have Hmx61:=Lib.hid hmx61;have Hcap61:=Lib.hid hcap61;clear hg61 hcur61 hcap61 hmx61 hsz61;have HB61:=Lib.hid hb61;have kbx:=(blk_cell (blk_below HBx.out (below_then D51.out D51.out.size hb61)) 0).trans rfl;clear hr61 hb61)|((with_reducible refine gate_dst (N:=67) rfl ?_);refine wpList_copy_splice rfl (.tmp 62) (.tmp 66) 22 22 rfl 5 hu22 (by rw [hi5'];simp [hs5']) (some ⟨g61,0,none⟩) (some (ad.add (at_ + 13))) _ c61 (b.length - (at_ + 13)) (c - (at_ + 13)) rfl rfl g61 0 cur61 5 Hcur61.out (R.map (Value.int .u8)) ?hn ?hp ?hfit ?h1 w51.heap.size w51 HB61.out Hg61.out ?rest;(case hn=>(simp only [List.length_map];rw [HRl.out];simp only [Nat.min_def];split <;> omega));(case hp=>(intro _;refine ⟨rfl,_,rfl,?_⟩;intro j v hj;rw [List.getElem?_map] at hj;obtain ⟨z,hz,rfl⟩:=Option.map_eq_some_iff.1 hj;have hjl:=(List.getElem?_eq_some_iff.1 hz).1;have hRl2:=HRl.out;obtain ⟨ad',ea,hcl⟩:=kept_at HC.out (by omega);injection ea with ea;subst ea;have hc2:=hcl (at_ + 13 + j) (by omega);have hbz:b.getD (at_ + 13 + j) 0=z:=(by rw [HR.out] at hz;rw [List.getElem?_drop,List.getElem?_take_of_lt (by omega)] at hz;rw [List.getD_eq_getElem?_getD,hz];rfl);rw [hbz] at hc2;rw [show (ad.add (at_ + 13)).add j=ad.add (at_ + 13 + j) from add_add2 _ _ _];exact (cell_below (below_then D51.out D51.out.size HB61.out) hc2)));(case hfit=>(have h1:=Hsz61.out;have h2:=Hcap61.out;simp at h1 h2 ⊢;have:=HRl.out;omega));(case h1=>(intro v hv;simp at hv;obtain ⟨_,_,rfl⟩:=hv;rfl));intro w67 H67 hb67;have HB67:=Lib.hid hb67;clear hb67) )
            have hn0:0 < n:=by omega
            have hE67:Below wr.heap.size wr w67:=below_then D51.out D51.out.size HB67.out
            have hR67:Kd.R (Kd.int .u8) 5 w67 base (fun _=>True) (.slice (some ⟨g61,0,none⟩) R.length c61) R:=R_filled H67.out (Nat.le_trans Hbs.out (Nat.le_trans D51.out.size Hg61.out)) (by have h2:=Hcap61.out;simp at h2;have:=HRl.out;omega) Hmx61.out Hsz61.out
            rw [HRl.out] at hR67
            obtain ⟨fn,tmps,assign,body,hy,hRd⟩:=HY.out xs m (.slice (some ⟨g61,0,none⟩) n c61,R,at_ + 13 + n) w67 (hJ _ _ _ _ HJ.out (grown_of_below hE67)) ⟨hR67,fun k hk=>(by simp [Value.ownBlock] at hk;subst hk;exact Nat.le_trans Hm.out (Nat.le_trans D51.out.size Hg61.out)),(by show R.length ≤ 4096;rw [HRl.out];omega)⟩ (by rw [Hxs.out];omega)
            have HE67:=Lib.hid hE67
            have HRd:=Lib.hid hRd
            dsimp only [recEncs] at hy
            rw [show ((at_ + 13 + n:Nat):Int)=(at_:Int) + 13 + (n:Int) by omega] at hy
            clear hE67 hRd hR67 kbx
            refine (wpIn_wide (n:=1)).1 ?_
            gi_wp2
            refine (roundIn_any HRd.out).mono ?_
            rintro e W2 ⟨rfl,hJ2,hK2⟩
            have HJ2:=Lib.hid hJ2
            have HK2:=Lib.hid hK2
            have HBx2:Hid (W2.heap[Bx]? = some (.cells #[.slice (some ad) b.length c] 22 (0,0))):=Lib.hid (hK2.2.trans (blk_below HBx.out HE67.out))
            have HC2:Hid (Kd.C (Kd.int .u8) W2 (some ad) b.length b):=Lib.hid (C_under (Kd.C_below HC.out HE67.out) hK2.1 HA.out)
            have Hbs2:Hid (base ≤ W2.heap.size):=Lib.hid (Nat.le_trans Hbs.out (Nat.le_trans HE67.out.size hK2.1.size))
            have Hxs2:Hid ((xs ++ [((.slice (some ⟨g61,0,none⟩) n c61,R,at_ + 13 + n):RecV)]).length=kk + 1):=Lib.hid (by rw [List.length_append,Hxs.out];rfl)
            have HE2:Hid (∀ L,IsRecs b (kk + 1) (at_ + 13 + n) L→IsRecs b 0 0 ((xs ++ [((.slice (some ⟨g61,0,none⟩) n c61,R,at_ + 13 + n):RecV)]).map (·.2) ++ L)):=Lib.hid (by
             intro L hL
             rw [List.map_append,List.append_assoc]
             refine HE.out _ ⟨?_,hL⟩
             rw [HR.out]
             exact Hsome.out)
            clear hJ2 hK2
            gi_wp2
            go_wp2
            go_roundg (b.length - (at_ + 13 + n))
            case measure=>omega
            case rel=>exact ⟨at_ + 13 + n,kk + 1,_,W2.heap.size,by omega,rfl,by go_num,by go_num,HBx2,HC2,HE2,HJ2,Lib.hid (Nat.le_refl _),Hbs2,Hxs2,by omega⟩
  · have e1:wrap64 ((b.length:Int) - (at_:Int))=(b.length:Int) - (at_:Int):=by unfold wrap64;omega
    have e2:decide ((b.length:Int) - (at_:Int) > 13)=false:=decide_eq_false (by omega)
    go_wp2
    (refine bodyPost_end (v:=.tuple #[]) (by simp [results,Try.results62,go_sem]) rfl ⟨⟨_,rfl⟩,xs,m,isRecs_uniq _ _ _ _ _ (by have hE:=HE.out [] (by unfold IsRecs recAt;rw [if_neg (by omega)]);rw [List.append_nil] at hE;exact hE) (isRecs_recs b),hJ _ _ _ _ HJ.out (grown_of_below (by repeat (first|exact Below.refl _ _|apply below_drew)))⟩)
end Go.Proofs.Ytfpdmlhknddffaa.Dk
end
section
namespace Go.Proofs.Ytfpdmlhknddffaa.Dk
open Go.RowKit Go.Proofs.YtfpdmlhknddffaaW.PrintWords Go.Proofs.YtfpdmlhknddffaaW.PrintLast Go.Proofs.YtfpdmlhknddffaaW.PrintMore
set_option linter.unusedVariables false
set_option linter.unusedSimpArgs false
theorem find_calls (A:Option Addr) (n c:Nat) (w:World):Calls Try.prog 53 #[.slice A n c] w fun e w'=>∃ g,e=.returned (.func (.func 62) #[] #[.pointer (some ⟨g,0,none⟩)])∧w'.heap[g]? = some (.cells #[.slice A n c] 22 (0,0))∧w.heap.size ≤ g∧Below w.heap.size w w':=by
 have hu22:=Try.underlying22
 go_enter Try.func53,Try.ntmps53
 go_wp2_with (first|((with_reducible refine gate_dst (N:=1) rfl ?_);(refine box_event ?hg (N:=1) ?hd (cs:=#[.slice A n c]) (t:=22) ?hr ?_);(case hd=>rfl);(case hg=>rfl);(case hr=>first|(go_simp;done)|(go_simp;rfl));intro g hg w1 hb1 hB1;have Hg:=Lib.hid hg;have HB1:=Lib.hid hB1;have Hb1:=Lib.hid hb1;clear hb1 hB1 hg) )
 go_ret
 exact ⟨g,rfl,Hb1.out,by rw [Hg.out];exact Nat.le_refl _,HB1.out⟩
theorem S_append_in {F:Fence} {nF:Nat} {P:Program} {ops:Array Oper} {rest:List Oper} {o:Oper} {a:Act} {Q:Exit→Act→World→Prop} {α:Type} (d:Kd α) {w0 W:World} (base:Nat) (hgd:o.guard=none) (s x:Operand) (t e:TypeId) (z:Value) (bytes:Nat)
 (ho:o.op=.call { callee:=.builtin .append,args:=#[s,x],argTypes:=#[t,t] })
 (ht:P.underlying t=some (.slice e)) (hinfo:(P.info? e).map (fun i=>(i.zero,i.size,i.bytes))=some (some z,d.sz,bytes)) (hz:z.cells.size=d.sz) (hs0:0 < d.sz) (hb0:0 < bytes)
 (v:Value) (xs:List α) (p:α) (cs:List Value) (ok okp:Nat→Prop) (hs:a.eval s=v) (hx:a.eval x=.slice (some ⟨W.heap.size,0,none⟩) 1 1) (hp:d.M W base okp p cs) (hokp:∀ k,okp k→ok k∧some k ≠ v.ownBlock) (hfresh:∀ k,W.heap.size ≤ k→ok k)
 (HO:Kd.S d e W base (fun k=>ok k∧¬ okp k) v xs) (HB:Below base w0 W) (hbase:base ≤ W.heap.size) (hl:(xs.length + 1) * bytes ≤ 140737488355328)
 (h:∀ v1 w1,Kd.S d e w1 base ok v1 (xs ++ [p])→Below base w0 w1→W.grownBy w1 v.ownBlock→(v1.ownBlock=v.ownBlock∨∃ b,v1.ownBlock=some b∧W.heap.size ≤ b)→wpListIn F nF P ops Q rest (a.put o.dst v1) w1) :
 wpListIn F nF P ops Q (o :: rest) a (W.alloc (.cells cs.toArray e)):=by
 obtain ⟨f,hf,hR⟩:=Kd.S_tag HO xs.length okp (fun _ hk h2=>h2.2 hk)
 obtain ⟨h0,inner,hown,hr⟩:=Kd.R_mono hR (ok':=ok) (fun _ hk=>hk.1)
 obtain ⟨i0,hi,hzz⟩:=Option.map_eq_some_iff.1 hinfo
 simp only [Prod.mk.injEq] at hzz
 obtain ⟨hz0,hz1,hz2⟩:=hzz
 have hcs:=d.K_len (d.K_of_M hp)
 have hlen:xs.zipIdx.length + 1 ≤ 140737488355328:=by rw [List.length_zipIdx];exact Nat.le_trans (Nat.le_mul_of_pos_right _ hb0) hl
 have hp':(Kd.tag f d).M W base okp (p,xs.length) cs:=d.M_mono (fun k hk=>⟨hk,hf k hk⟩) hp
 refine wpListIn_append_own_at (w:=W.alloc (.cells cs.toArray e)) hgd s x t ho base e i0 z d.sz bytes ht hi hz0 hz1 hz2 hz hs0 v xs.zipIdx.length inner hs (hown.alloc _) ⟨W.heap.size,0,none⟩ 1 1 cs hx (by rw [hcs];simp)
  (by simpa using World.news_of_block (cs:=cs.toArray) (t:=e) (fr:=(0,0)) (heap_alloc_new W (.cells cs.toArray e))) (d.K_one (d.K_of_M hp)) (by simp only [maxLen];omega) (by rw [List.length_zipIdx];exact hl) (by simp;omega) ?_
 intro v1 w1 hown1 hg1 _ hat1
 have hg2:W.grownBy w1 v.ownBlock:=⟨hg1.os,hg1.tape,hg1.output,by have:=hg1.size;simp at this;omega,fun k hk hne=>(hg1.block k (by simp;omega) hne).trans (Below.heap_alloc W _ k hk)⟩
 have hat2:v1.ownBlock=v.ownBlock∨∃ b,v1.ownBlock=some b∧W.heap.size ≤ b:=by
  rcases hat1 with h1|h1
  · exact .inl h1
  · exact .inr ⟨_,h1,by simp⟩
 have hr1:=Kd.R_appended (d:=Kd.tag f d) h0 hr hp' hokp hfresh hown1 hg2 hat2
 rw [← Kd.zip_snoc] at hr1
 exact h v1 w1 ⟨f,hr1⟩ (HB.grown hg2 hbase (own_base hown)) hg2 hat2
def retOnly (Q:Exit→Act→World→Prop):Exit→Act→World→Prop
 | .ret,a,w=>Q .ret a w
 | _,_,_=>False
theorem wp_retOnly {P:Program} {c:Code} {Q:Exit→Act→World→Prop} {a:Act} {w:World} (h:c.wp P (retOnly Q) a w):c.wp P Q a w:=Code.wp_mono (fun e a w q=>by cases e <;> first|exact q|exact q.elim) h
def endOf (L:List (List Int × Nat)):Int:=((L.getLast?.map (·.2)).getD 0:Nat)
def okBytes (b:List Int):Bool:=decide (b.length ≤ 65536) && b.all fun x=>decide (0 ≤ x) && decide (x ≤ 255)
def journal_Records.f (l0_0:List Int) (l0_1:List S45):Option (List (List Int) × Int) :=
 if readOk l0_0 l0_1 0 (l0_0.length:Int)=true then (if okBytes (readL l0_0 l0_1 0 (l0_0.length:Int))=true then some ((recs (readL l0_0 l0_1 0 (l0_0.length:Int))).map (·.1),endOf (recs (readL l0_0 l0_1 0 (l0_0.length:Int)))) else none) else some ([],0)
theorem Records_err (A0_0:Option Addr) (c0_0:Nat) (l0_0:List Int) (A0_1:Option Addr) (c0_1:Nat) (l0_1:List (S45)) (w:World) (hr0_0:Kd.C (Kd.int .u8) w A0_0 l0_0.length l0_0) (hc0_0:l0_0.length ≤ c0_0) (hr0_1:Kd.C k45 w A0_1 l0_1.length l0_1) (hc0_1:l0_1.length ≤ c0_1) (h:readOk l0_0 l0_1 0 (l0_0.length:Int)=false) :
 Calls Try.prog 36 #[.agg #[.slice A0_0 l0_0.length c0_0,.slice A0_1 l0_1.length c0_1]] w fun e w'=>e=.returned (.tuple #[.slice none 0 0,.int .i64 0])∧Below w.heap.size w w':=by
 have hu25:=Try.underlying25
 have hread:∀ W,Below w.heap.size w W→Calls Try.prog 23 #[.agg #[.slice A0_0 l0_0.length c0_0,.slice A0_1 l0_1.length c0_1],.int .i64 0,.int .i64 (l0_0.length:Int)] W fun e w'=>∃ v0_:Value,e=.returned (.tuple #[v0_,.int .i64 1])∧Below W.heap.size W w':=by
  intro W hW
  refine (disk_Read.calls A0_0 c0_0 l0_0 A0_1 c0_1 l0_1 0 (l0_0.length:Int) _ _ W (Kd.C_below hr0_0 hW) hc0_0 (Kd.C_below hr0_1 hW) hc0_1 rfl).mono ?_
  rintro e w' ⟨v,rfl,_,hb⟩
  exact ⟨v,by rw [h];rfl,hb⟩
 have Hread:=Lib.hid hread
 clear hread hr0_0 hr0_1 h
 go_enter Try.func36,Try.ntmps36
 go_wp2_with (first|((with_reducible refine gate_dst (N:=1) rfl ?_);(refine box_event ?hg (N:=1) ?hd (cs:=#[.slice A0_0 l0_0.length c0_0,.slice A0_1 l0_1.length c0_1]) (t:=25) ?hr ?_);(case hd=>rfl);(case hg=>rfl);(case hr=>first|(go_simp;done)|(go_simp;rfl));intro g hg w1 hb1 hB1;have HB1:=Lib.hid hB1;have Hb1:=Lib.hid hb1;have k0:=(blk_cell hb1 0).trans rfl;have k1:=(blk_cell hb1 1).trans rfl;clear hb1 hB1 hg)|(go_at_call 23;refine (Hread.out w1 HB1.out).mono ?_;rintro e w2 ⟨v2,rfl,hB2⟩;have HB2:=Lib.hid (below_then HB1.out HB1.out.size hB2);clear hB2) )
 go_ret2
 exact ⟨rfl,HB2.out⟩
end Go.Proofs.Ytfpdmlhknddffaa.Dk
end
section
namespace Go.Proofs.Ytfpdmlhknddffaa.Dk
open Go.RowKit Go.Proofs.YtfpdmlhknddffaaW.PrintWords Go.Proofs.YtfpdmlhknddffaaW.PrintLast Go.Proofs.YtfpdmlhknddffaaW.PrintMore
set_option linter.unusedVariables false
set_option linter.unusedSimpArgs false
attribute [local go_sem] Oper.semAt_some
set_option maxHeartbeats 4000000 in
theorem Records_ok (A0_0:Option Addr) (c0_0:Nat) (l0_0:List Int) (A0_1:Option Addr) (c0_1:Nat) (l0_1:List (S45)) (w:World) (hr0_0:Kd.C (Kd.int .u8) w A0_0 l0_0.length l0_0) (hc0_0:l0_0.length ≤ c0_0) (hr0_1:Kd.C k45 w A0_1 l0_1.length l0_1) (hc0_1:l0_1.length ≤ c0_1) (h:readOk l0_0 l0_1 0 (l0_0.length:Int)=true)
 (b:List Int) (hbe:b=readL l0_0 l0_1 0 (l0_0.length:Int)) (hbl:b.length ≤ 65536) (hrg:∀ x ∈ b,0 ≤ x∧x ≤ 255) :
 Calls Try.prog 36 #[.agg #[.slice A0_0 l0_0.length c0_0,.slice A0_1 l0_1.length c0_1]] w fun e w'=>∃ v0_:Value,e=.returned (.tuple #[v0_,.int .i64 (endOf (recs b))])∧Kd.S (Kd.slice 5 (Kd.int .u8)) 22 w' w.heap.size (fun _=>True) v0_ ((recs b).map (·.1))∧Below w.heap.size w w':=by
 have hu25:=Try.underlying25
 have hu49:=Try.underlying49
 have hread:∀ W,Below w.heap.size w W→Calls Try.prog 23 #[.agg #[.slice A0_0 l0_0.length c0_0,.slice A0_1 l0_1.length c0_1],.int .i64 0,.int .i64 (l0_0.length:Int)] W fun e w'=>∃ v0_:Value,e=.returned (.tuple #[v0_,.int .i64 0])∧Kd.R (Kd.int .u8) 5 w' W.heap.size (fun _=>True) v0_ b∧Below W.heap.size W w':=by
  intro W hW
  refine (disk_Read.calls A0_0 c0_0 l0_0 A0_1 c0_1 l0_1 0 (l0_0.length:Int) _ _ W (Kd.C_below hr0_0 hW) hc0_0 (Kd.C_below hr0_1 hW) hc0_1 rfl).mono ?_
  rintro e w' ⟨v,rfl,hr,hb⟩
  exact ⟨v,by rw [h];rfl,by rw [hbe];exact hr,hb⟩
 have Hread:=Lib.hid hread
 have Hrg:=Lib.hid hrg
 clear hread hr0_0 hr0_1 h hbe hrg
 refine (callsIn_wide (n:=5)).1 (callsIn_of_wp_marks Try.func36 rfl trivial ?_)
 refine wpIn_wide.2 ?_
 simp only [Try.ntmps36,List.size_toArray,List.length_cons,List.length_nil,Nat.reduceAdd,Nat.reduceSub,Array.replicate_succ,Array.replicate_zero,List.push_toArray,List.append_toArray,List.nil_append,List.cons_append]
 go_wp2_with (first|((with_reducible refine gate_dst (N:=1) rfl ?_);(refine box_event ?hg (N:=1) ?hd (cs:=#[.slice A0_0 l0_0.length c0_0,.slice A0_1 l0_1.length c0_1]) (t:=25) ?hr ?_);(case hd=>rfl);(case hg=>rfl);(case hr=>first|(go_simp;done)|(go_simp;rfl));intro g hg w1 hb1 hB1;have HB1:=Lib.hid hB1;have Hb1:=Lib.hid hb1;have k0:=(blk_cell hb1 0).trans rfl;have k1:=(blk_cell hb1 1).trans rfl;clear hb1 hB1 hg)|(go_at_call 23;refine (Hread.out w1 HB1.out).mono ?_;rintro e w2 ⟨v2,rfl,hr2,hB2⟩;obtain ⟨A,c,rfl⟩:=Kd.R_slice hr2;have HR2:=Lib.hid hr2;have HB2:=Lib.hid (below_then HB1.out HB1.out.size hB2);have HW2:=Lib.hid (Nat.le_trans HB1.out.size hB2.size);clear hr2 hB2)|((with_reducible refine gate_dst (N:=6) rfl ?_);(refine box_event ?hg (N:=6) ?hd (cs:=#[.slice none 0 0]) (t:=49) ?hr ?_);(case hd=>rfl);(case hg=>rfl);(case hr=>first|(go_simp;done)|(go_simp;rfl));intro g6 hg6 w3 hb3 hB3;have Hg6:=Lib.hid hg6;have HB3:=Lib.hid hB3;have Hb3:=Lib.hid hb3;have k6:=(blk_cell hb3 0).trans rfl;clear hb3 hB3 hg6)|((with_reducible refine gate_dst (N:=7) rfl ?_);(refine box_event ?hg (N:=7) ?hd (cs:=#[.int .i64 0]) (t:=3) ?hr ?_);(case hd=>rfl);(case hg=>rfl);(case hr=>first|(go_simp;done)|(go_simp;rfl));intro g7 hg7 w4 hb4 hB4;have Hg7:=Lib.hid hg7;have HB4:=Lib.hid hB4;have Hb4:=Lib.hid hb4;have k7:=(blk_cell hb4 0).trans rfl;have kf7:=blk_frozen hb4 0;clear hb4 hB4 hg7)|(go_at_call 53;refine (find_calls _ _ _ _).mono ?_;rintro e w6 ⟨g8,rfl,hb6,hg8,hB6⟩;have Hg8:=Lib.hid hg8;have HB6:=Lib.hid hB6;have Hb6:=Lib.hid hb6;clear hb6 hB6 hg8) )
 obtain ⟨w5,hw5⟩:∃ w5,w5=w4.setCell ⟨g7,0,none⟩ (.int .i64 0):=⟨_,rfl⟩
 rw [← hw5] at Hg8 HB6
 have hA:∀ ad,A=some ad→ad.block < w2.heap.size:=by
  rintro ad rfl
  obtain ⟨inner,ho⟩:=Kd.R_own HR2.out
  exact own_lt ho ad.block rfl
 have hC2:Kd.C (Kd.int .u8) w2 A b.length b:=(Kd.R_reads' HR2.out).2.2
 have hbc:b.length ≤ c:=(Kd.R_reads' HR2.out).2.1
 have h36:Below w2.heap.size w2 w5:=by
  rw [hw5]
  exact (below_then HB3.out HB3.out.size HB4.out).setCell (by rw [Hg7.out];exact HB3.out.size) _
 have h26:Below w2.heap.size w2 w6:=below_then h36 h36.size HB6.out
 have h06:Below w.heap.size w w6:=below_then HB2.out HW2.out h26
 have hg6:g6 < w5.heap.size:=by have:=blk_lt Hb3.out;have h1:=HB4.out.size;rw [hw5];simp;omega
 have hg7:g7 < w5.heap.size:=by have:=blk_lt Hb4.out;rw [hw5];simp;omega
 have hg67:g6 ≠ g7:=by have:=blk_lt Hb3.out;have:=Hg7.out;omega
 have hb6:w6.heap[g6]? = some (.cells #[.slice none 0 0] 49 (0,0)):=by
  refine (HB6.out.block g6 hg6).trans ?_
  rw [hw5]
  exact (Below.heap_setCell _ _ _ _ hg67).trans (blk_below Hb3.out HB4.out)
 have hb7:w6.heap[g7]? = some (.cells #[.int .i64 0] 3 (0,0)):=by
  refine (HB6.out.block g7 hg7).trans ?_
  rw [hw5]
  exact blk_put Hb4.out 0 _ rfl
 have hg8:g8 < w6.heap.size:=blk_lt Hb6.out
 have hg86:g6 ≠ g8∧g7 ≠ g8:=by have:=Hg8.out;omega
 have hs56:=HB6.out.size
 have hs26:=h26.size
 have hge6:w2.heap.size ≤ g6:=by rw [Hg6.out];exact Nat.le_refl _
 have hge7:w2.heap.size ≤ g7:=by rw [Hg7.out];exact HB3.out.size
 clear k0 k1 k6 k7 kf7
 refine (wpIn_wide (n:=5)).1 ?_
 refine range_told (F:=Fence.wide) (n:=5) (gf:=62) (lb:=#[.pointer (some ⟨g8,0,none⟩)]) rfl (by decide) rfl trivial (enters_of Try.func62 (by kernel_rfl) rfl) (encs:=recEncs) (N:=b.length) (C:=RecC w6.heap.size) (Kp:=RecKp w2.heap.size g8) (S:=RecS b)
  ?seq ?kt ?kb ?ps ?hC (fun pre m W=>∃ v,W.heap[g6]? = some (.cells #[v] 49 (0,0))∧W.heap[g7]? = some (.cells #[.int .i64 (endOf (pre.map (·.2)))] 3 (0,0))∧Kd.S (Kd.slice 5 (Kd.int .u8)) 22 W w6.heap.size (fun k=>k < m) v (pre.map (·.2.1))∧Below w.heap.size w W∧w6.heap.size ≤ W.heap.size)
  ?hI ?h0 (fun x=>{ tmps:=#[.agg #[.slice A0_0 l0_0.length c0_0,.slice A0_1 l0_1.length c0_1],.pointer (some ⟨g,0,none⟩),.slice none 0 0,.int .i64 0,.slice A b.length c,.int .i64 0,.pointer (some ⟨g6,0,none⟩),.pointer (some ⟨g7,0,none⟩),x.1,.int .i64 (x.2.2:Int),.tuple #[.slice A b.length c,.int .i64 0],.agg #[.slice A0_0 l0_0.length c0_0,.slice A0_1 l0_1.length c0_1],.pointer (some ⟨g,0,none⟩),.slice A0_0 l0_0.length c0_0,.int .i64 l0_0.length,.tuple #[.slice A b.length c,.int .i64 0],.slice A b.length c,.int .i64 0,.int .i64 0,.bool false,.slice A b.length c,.func (.func 62) #[] #[.pointer (some ⟨g8,0,none⟩)],x.1,.int .i64 (x.2.2:Int),undef,undef,undef,undef,undef,undef,undef],defers:=[] }) ?assign ?body ?done
 case seq =>
  intro l J W hW hl hJ hY h0
  refine callsIn_wide.2 (find_walk l g8 w2.heap.size w6.heap.size 3 A c b J W ?_ ?_ hbc hbl Hrg.out hA hW.size hJ hY h0)
  · exact blk_below Hb6.out hW
  · exact Kd.C_below hC2 (below_then h26 hs26 hW)
 case kt=>rintro X Y Z ⟨h1,h2⟩ ⟨h3,h4⟩;exact ⟨h1.trans h3,h4.trans h2⟩
 case kb =>
  intro W l o o' hl ho h1 h2
  exact ⟨belowK_b (w:=w6) hs26 W l o o' hl ho h1 h2,World.putObj_heap_other (by omega)⟩
 case ps=>intro x;rfl
 case hC =>
  rintro ⟨m,x⟩ W W' row ⟨h1,h2,h3⟩ hg hr
  refine ⟨Kd.R_mono (Kd.R_grown (Kd.R_bound h1) hg ?_) (fun _ hk=>hk.1),h2,h3⟩
  rintro k ⟨_,_,_,q,_,cells,hc⟩ e
  obtain ⟨_,o,ho,hn⟩:=hr k e.symm
  rw [hc] at ho
  injection ho with ho
  subst ho
  cases hn
 case hI =>
  rintro ⟨pre,m⟩ W W' row ⟨v,h6,h7,hS,hB,hz⟩ hg hr
  have hne:∀ k,k < w6.heap.size→some k ≠ row:=fun k hk e=>by have:=(hr k e.symm).1;omega
  refine ⟨v,blk_grown h6 hg (hne _ (by omega)),blk_grown h7 hg (hne _ (by omega)),Kd.S_mono (Kd.S_grown (Kd.S_bound hS) hg ?_) (fun _ hk=>hk.1),hB.grown hg hB.size (fun k e=>by have:=(hr k e).1;have:=h06.size;omega),Nat.le_trans hz hg.size⟩
  rintro k ⟨_,_,_,q,_,cells,hc⟩ e
  obtain ⟨_,o,ho,hn⟩:=hr k e.symm
  rw [hc] at ho
  injection ho with ho
  subst ho
  cases hn
 case h0=>exact ⟨_,hb6,hb7,Kd.S_nil _ _ _ _ _,h06,Nat.le_refl _⟩
 case assign =>
  rintro l ⟨x1,x2,x3⟩ W K hK
  dsimp only [recEncs]
  gi_wp2
  exact hK
 case body =>
  rintro l pre m ⟨x1,x2,x3⟩ W ⟨v,h6,h7,hS,hB,hz⟩ ⟨hR,hm,hl⟩ hN
  have hR:Kd.R (Kd.int .u8) 5 W w6.heap.size (fun _=>True) x1 x2:=hR
  obtain ⟨Ax,cx,rfl⟩:=Kd.R_slice hR
  obtain ⟨Av,cv,rfl⟩:=Kd.S_slice hS
  rw [List.length_map] at h6 hS
  have hk6:=(blk_cell h6 0).trans rfl
  have hf6:=blk_frozen h6 0
  have H6:=Lib.hid h6
  have H7:=Lib.hid h7
  have HS:=Lib.hid hS
  have HB':=Lib.hid hB
  have HR:=Lib.hid hR
  have Hm:=Lib.hid hm
  have Hz:=Lib.hid hz
  clear h6 h7 hS hB hR hm hz hb6 hb7
  gi_wp2_with (first|(gi_at_builtin;refine S_append_in (Kd.slice 5 (Kd.int .u8)) (w0:=W) (W:=W) w6.heap.size rfl (.tmp 24) (.tmp 26) 49 22 (.slice none 0 0) 24 rfl hu49 info22 rfl (by decide) (by decide) (.slice Av pre.length cv) (pre.map (·.2.1)) x2 [.slice Ax x2.length cx] (fun _=>True) (fun k=>some k=(Value.slice Ax x2.length cx).ownBlock) rfl rfl ⟨.slice Ax x2.length cx,rfl,Kd.R_tight rfl HR.out⟩ ?hokp (fun _ _=>trivial) ?HO (Below.refl _ _) Hz.out (by rw [List.length_map];omega) ?_;(case hokp=>(intro k hk;refine ⟨trivial,fun e => ?_⟩;have h1:=(Kd.S_R HS.out).1 k e.symm;have h2:=Hm.out k hk.symm;omega));(case HO=>(refine Kd.S_mono HS.out ?_;intro k hk;refine ⟨trivial,fun e => ?_⟩;have h2:=Hm.out k e.symm;omega));intro v1 w1 hS1 hb1 hg1 hat1;obtain ⟨Av1,cv1,rfl⟩:=Kd.S_slice hS1;have hvo:∀ k,(Value.slice Av pre.length cv).ownBlock=some k→w6.heap.size ≤ k:=(Kd.S_base HS.out);have hne:∀ k,k < w6.heap.size→some k ≠ (Value.slice Av pre.length cv).ownBlock:=(fun k hk e=>(by have:=hvo k e.symm;omega));have h6b:=blk_grown H6.out hg1 (hne g6 (by omega));have h7b:=blk_grown H7.out hg1 (hne g7 (by omega));have ck6:=(blk_cell h6b 0).trans rfl;have cf6:=blk_frozen h6b 0;have ck7:∀ u,(w1.setCell ⟨g6,0,none⟩ u).cell? ⟨g7,0,none⟩=some (.int .i64 (endOf (pre.map (·.2)))):=(fun u=>(blk_cell (show (w1.setCell ⟨g6,0,none⟩ u).heap[g7]? = _ from (Below.heap_setCell _ _ _ _ hg67.symm).trans h7b) 0).trans rfl);have cf7:∀ u,(w1.setCell ⟨g6,0,none⟩ u).frozen? ⟨g7,0,none⟩=false:=(fun u=>blk_frozen (show (w1.setCell ⟨g6,0,none⟩ u).heap[g7]? = _ from (Below.heap_setCell _ _ _ _ hg67.symm).trans h7b) 0);have HS1:=Lib.hid hS1;have Hg1:=Lib.hid hg1;have H6b:=Lib.hid h6b;have H7b:=Lib.hid h7b;have Hvo:=Lib.hid hvo;clear hS1 hb1 hg1 hat1 h6b h7b hne hvo hk6 hf6) )
  obtain ⟨wa,hwa⟩:∃ wa,wa=w1.setCell ⟨g6,0,none⟩ (.slice Av1 (pre.length + 1) cv1):=⟨_,rfl⟩
  rw [← hwa]
  have hlen:(pre.map (·.2.1) ++ [x2]).length=pre.length + 1:=by simp
  have hsz1:W.heap.size ≤ w1.heap.size:=Hg1.out.size
  have hbW:Below w6.heap.size W w1:=(Below.refl _ _).grown Hg1.out Hz.out Hvo.out
  have hbF:Below w2.heap.size W (wa.setCell ⟨g7,0,none⟩ (.int .i64 (x3:Int))):=by
   rw [hwa]
   exact ((hbW.mono hs26).setCell hge6 _).setCell hge7 _
  have hS1:=HS1.out
  rw [hlen] at hS1
  have hne6:∀ k,w6.heap.size ≤ k→k ≠ g6∧k ≠ g7:=fun k hk=>⟨by omega,by omega⟩
  have hS2:=Kd.S_bound hS1
  have hSa:=Kd.S_far (p:=⟨g6,0,none⟩) hS2 (fun k hk=>(hne6 k hk.2.1).1) (.slice Av1 (pre.length + 1) cv1)
  rw [← hwa] at hSa
  have hSb:=Kd.S_far (p:=⟨g7,0,none⟩) hSa (fun k hk=>(hne6 k hk.2.1).2) (.int .i64 (x3:Int))
  have hszF:(wa.setCell ⟨g7,0,none⟩ (.int .i64 (x3:Int))).heap.size=w1.heap.size:=by rw [hwa];simp
  refine ⟨?_,⟨hbF,?_⟩,.slice Av1 (pre.length + 1) cv1,?_,?_,?_,HB'.out.trans (hbF.mono HW2.out),?_⟩
  · rw [hwa]
    refine ((KeepsOthers.of_grownBy Hg1.out ?_).trans (KeepsOthers.setCell _ _ _)).trans (KeepsOthers.setCell _ _ _)
    intro j o e ho
    obtain ⟨inner,hown⟩:=Kd.R_own (Kd.S_R HS.out)
    obtain ⟨cells,hc⟩:=own_typed hown j e
    rw [hc] at ho
    injection ho with ho
    subst ho
    rfl
  · refine (Below.heap_setCell _ _ _ _ (Ne.symm hg86.2)).trans ?_
    rw [hwa]
    exact (Below.heap_setCell _ _ _ _ (Ne.symm hg86.1)).trans (hbW.block g8 hg8)
  · exact (Below.heap_setCell _ _ _ _ hg67).trans (by rw [hwa];exact blk_put H6b.out 0 _ rfl)
  · have h7c:wa.heap[g7]? = some (.cells #[.int .i64 (endOf (pre.map (·.2)))] 3 (0,0)):=by rw [hwa];exact (Below.heap_setCell _ _ _ _ hg67.symm).trans H7b.out
    have:=blk_put h7c 0 (.int .i64 (x3:Int)) rfl
    rw [this,List.map_append]
    simp [endOf]
  · rw [List.map_append]
    exact Kd.S_mono hSb (fun k hk=>by rw [hszF];exact hk.2.2.1)
  · rw [hszF];have:=Hz.out;omega
 case done =>
  rintro D xs m W hD hS ⟨v,h6,h7,hS2,hB,hz⟩ hK
  obtain ⟨Av,cv,rfl⟩:=Kd.S_slice hS2
  rw [List.length_map] at h6 hS2
  have hk6:=(blk_cell h6 0).trans rfl
  have hk7:=(blk_cell h7 0).trans rfl
  have HS:=Lib.hid hS
  have H7:=Lib.hid h7
  have H6:=Lib.hid h6
  have HS2:=Lib.hid hS2
  have HBb:=Lib.hid hB
  have Hz:=Lib.hid hz
  have HK:=Lib.hid hK
  have HD:=Lib.hid hD
  clear hS h6 h7 hS2 hB hz hK hD
  gi_wp2
  refine wp_retOnly ?_
  go_wp2_with (fail)
  have H6d:=Lib.hid (blk_drew H6.out)
  have H7d:=Lib.hid (blk_drew H7.out)
  clear hk6 hk7
  refine start_ (n:=4) (S:=fun w'=>w'.cell? ⟨g6,0,none⟩=some (.slice Av xs.length cv)∧w'.cell? ⟨g7,0,none⟩=some (.int .i64 (endOf (xs.map (·.2))))) (ds:=[]) #[false,false,false,false] (by kernel_rfl) rfl rfl ⟨(blk_cell H6d.out 0).trans rfl,(blk_cell H7d.out 0).trans rfl⟩ ?_
  intro hHeld
  refine take_ (i:=0) (N:=some 29) (v:=?_) (a':=?_) #[true,false,false,false] rfl rfl (by kernel_rfl) (fun _ _ _ h=>h) (Or.inl ⟨by rfl,?_⟩) hHeld ?_ ?_
  rotate_left
  · rintro w' ⟨s0,s1⟩
    go_simp
    with_reducible rfl
  rotate_left
  · simp only [Act.put,List.setIfInBounds_toArray,List.set_cons_zero,List.set_cons_succ]
    rfl
  refine pure_ (i:=2) (N:=some 2) (v:=?_) (a':=?_) #[true,false,true,false] rfl rfl (by kernel_rfl) (fun _ _ _ h=>h) (Or.inl ⟨by rfl,?_⟩) ?_ ?_
  rotate_left
  · intro w'
    go_simp
    try (with_reducible rfl)
  rotate_left
  · simp only [Act.put,List.setIfInBounds_toArray,List.set_cons_zero,List.set_cons_succ]
    rfl
  refine take_ (i:=1) (N:=some 30) (v:=?_) (a':=?_) #[true,true,true,false] rfl rfl (by kernel_rfl) (fun _ _ _ h=>h) (Or.inl ⟨by rfl,?_⟩) hHeld ?_ ?_
  rotate_left
  · rintro w' ⟨s0,s1⟩
    go_simp
    with_reducible rfl
  rotate_left
  · simp only [Act.put,List.setIfInBounds_toArray,List.set_cons_zero,List.set_cons_succ]
    rfl
  refine pure_ (i:=3) (N:=some 3) (v:=?_) (a':=?_) #[true,true,true,true] rfl rfl (by kernel_rfl) (fun _ _ _ h=>h) (Or.inl ⟨by rfl,?_⟩) ?_ ?_
  rotate_left
  · intro w'
    go_simp
    try (with_reducible rfl)
  rotate_left
  · simp only [Act.put,List.setIfInBounds_toArray,List.set_cons_zero,List.set_cons_succ]
    rfl
  refine done_ (by kernel_rfl) ?_
  go_wp2
  have hKd:W.drew.heap[D]? = some (.deferred (some [])):=HK.out
  have hz:=Hz.out
  have hD:=HD.out
  have hne:∀ k,w6.heap.size ≤ k→k < W.drew.heap.size→(∃ cells q,W.drew.heap[k]? = some (.cells cells q (0,0)))→some k ≠ some D:=by
   rintro k _ _ ⟨cells,q,hc⟩ e
   injection e with e
   subst e
   rw [hKd] at hc
   cases hc
  have hSd:=Kd.S_grown (Kd.S_bound (Kd.S_drew HS2.out)) (grownBy_putObj' W.drew D (.deferred none)) (fun k hk=>hne k hk.2.1 hk.2.2.1 (by obtain ⟨_,_,_,q,_,cells,hc⟩:=hk;exact ⟨cells,q,hc⟩))
  refine ⟨by simp,.inl ⟨_,_,rfl,run_takeDeferred hKd,?_⟩⟩
  refine ⟨.tuple #[.slice Av xs.length cv,.int .i64 (endOf (xs.map (·.2)))],by simp [results,Try.results36,go_sem],?_⟩
  refine ⟨_,by rw [HS.out],?_,(below_drew HBb.out).trans (belowK_b (w:=w6) h06.size W.drew D _ _ hD hKd rfl rfl)⟩
  rw [← HS.out,List.map_map]
  exact Kd.S_lower (Kd.S_mono hSd (fun _ _=>trivial)) h06.size
end Go.Proofs.Ytfpdmlhknddffaa.Dk
end
section
namespace Go.Proofs.Ytfpdmlhknddffaa.Dk
open Go.RowKit Go.Proofs.YtfpdmlhknddffaaW.PrintWords Go.Proofs.YtfpdmlhknddffaaW.PrintLast Go.Proofs.YtfpdmlhknddffaaW.PrintMore
set_option linter.unusedVariables false
theorem journal_Records.calls (A0_0:Option Addr) (c0_0:Nat) (l0_0:List Int) (A0_1:Option Addr) (c0_1:Nat) (l0_1:List (S45)) (r1:List (List Int)) (r2:Int) (w:World) (hr0_0:Kd.C (Kd.int .u8) w A0_0 l0_0.length l0_0) (hc0_0:l0_0.length ≤ c0_0) (hr0_1:Kd.C k45 w A0_1 l0_1.length l0_1) (hc0_1:l0_1.length ≤ c0_1) (h:journal_Records.f l0_0 l0_1=some (r1,r2)) :
 Calls Try.prog 36 #[.agg #[.slice A0_0 l0_0.length c0_0,.slice A0_1 l0_1.length c0_1]] w fun e w'=>∃ v0_:Value,e=.returned (.tuple #[v0_,.int .i64 r2])∧Kd.S (Kd.slice 5 (Kd.int .u8)) 22 w' w.heap.size (fun _=>True) v0_ r1∧Below w.heap.size w w':=by
 unfold journal_Records.f at h
 cases hv:readOk l0_0 l0_1 0 (l0_0.length:Int)
 · rw [hv] at h
   injection h with h
   obtain ⟨rfl,rfl⟩:=h
   refine (Records_err _ _ l0_0 _ _ l0_1 w hr0_0 hc0_0 hr0_1 hc0_1 hv).mono ?_
   rintro e w' ⟨rfl,hb⟩
   exact ⟨_,rfl,Kd.S_nil _ _ _ _ _,hb⟩
 · rw [hv,if_pos rfl] at h
   cases ho:okBytes (readL l0_0 l0_1 0 (l0_0.length:Int))
   · rw [ho] at h
     cases h
   · rw [ho,if_pos rfl] at h
     injection h with h
     obtain ⟨rfl,rfl⟩:=h
     unfold okBytes at ho
     rw [Bool.and_eq_true,List.all_eq_true] at ho
     exact Records_ok _ _ l0_0 _ _ l0_1 w hr0_0 hc0_0 hr0_1 hc0_1 hv _ rfl (of_decide_eq_true ho.1) (fun x hx=>by have:=ho.2 x hx;simp at this;exact this)
end Go.Proofs.Ytfpdmlhknddffaa.Dk
end
