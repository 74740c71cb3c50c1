/- Contracts of functions, and plain laws, that the statement's proof uses; printed and joined by programs of this session. -/
import Derived.Test.YtfpdmlhknddffaaG2
import Derived.Test.YtfpdmlhknddffaaRows
import Derived.ProofKit
import Derived.WalkKit
import Derived.OpenShut
import Derived.ChangeOld
import Derived.ChangeSlices
import Derived.Below
import Derived.SizedLaws
import Derived.Carry
import Derived.Deep.SlicePairs
import Derived.Lib.SmallJoins
import Derived.Test.YtfpdmlhknddffaaProg
import Derived.Deep.Draws
import Derived.Deep.AppendLies
import Derived.Maps.AppendAt
import Derived.OwnWalk
import Derived.Laws.BytesArg
import Derived.Laws.MakeOwn
import Derived.Laws.OwnMore
import Derived.Deep.OwnRows
import Derived.Tactics
import Derived.Lib.ConvBytes
import Derived.Laws.Slices
import Derived.KernelRfl
import Derived.RowKit3
import Derived.Deep.LoopGhost
import Derived.Deep.QuietTactic
import Derived.BigQuiet
import Derived.WideLaws
import Derived.Deep.DeepCutAuto
import Derived.Deep.CutBlock
import Derived.Deep.RegionHeld3
import Derived.Laws.Rows
import Derived.Lib.AppendStr
import Derived.ArgAppend
import Derived.Laws.IdiomCopy
import Derived.OrdersHeld
import Derived.Laws.BitsLemmas
import Derived.RowKit
section
namespace Go.Proofs.Ytfpdmlhknddffaa.Dk
open Go.RowKit Go.Proofs.YtfpdmlhknddffaaW.PrintWords Go.Proofs.YtfpdmlhknddffaaW.PrintLast Go.Proofs.YtfpdmlhknddffaaW.PrintMore
attribute [local go_sem] max2_int min2_int max_two min_two max_three min_three max_four min_four
set_option linter.unusedVariables false
set_option linter.unusedSimpArgs false
mutual
def wageofficeref42_Crash.l0:Nat→List Int→Int→List Int→List (S45)→List Int→Option (List Int × (List (S45)))
 | 0,_,_,_,_,_=>none
 | k + 1,x1,x6,x170000,x170001,x176000=>if x6 < (x170001.length:Int) then (wageofficeref42_Crash.j1 k x1 x6 (decide (x6 < (x1.length:Int))) x170000 x170001 x176000) else (wageofficeref42_Crash.j1 k x1 x6 false x170000 x170001 x176000)
def wageofficeref42_Crash.j1:Nat→List Int→Int→Bool→List Int→List (S45)→List Int→Option (List Int × (List (S45)))
 | 0,_,_,_,_,_,_=>none
 | k + 1,x1,x6,x27,x170000,x170001,x176000=>if x27=true then (if 0 ≤ x6 then (if x6 < (x170001.length:Int) then (wageofficeref42_Crash.l1 k x1 x6 0 x170000 x170001 x176000 ((rd_T45 x170001 x6).f0) ((rd_T45 x170001 x6).f1)) else (none)) else (none)) else (some (x176000,([]:List (S45))))
def wageofficeref42_Crash.l1:Nat→List Int→Int→Int→List Int→List (S45)→List Int→Int→List Int→Option (List Int × (List (S45)))
 | 0,_,_,_,_,_,_,_,_=>none
 | k + 1,x1,x6,x8,x170000,x170001,x176000,x178000,x178001=>if x8 < (x178001.length:Int) then (if 0 ≤ x6 then (if x6 < (x1.length:Int) then (if x8 < (rd x1 x6) then (if 0 ≤ x8 then (if 0 ≤ (wrap64 (x178000 + x8)) then (if (wrap64 (x178000 + x8)) < (x176000.length:Int) then (wageofficeref42_Crash.l1 k x1 x6 (wrap64 (x8 + 1)) x170000 x170001 (x176000.set ((wrap64 (x178000 + x8)):Int).toNat (rd x178001 x8)) x178000 x178001) else (none)) else (none)) else (none)) else (wageofficeref42_Crash.l0 k x1 (wrap64 (x6 + 1)) x170000 x170001 x176000)) else (none)) else (none)) else (wageofficeref42_Crash.l0 k x1 (wrap64 (x6 + 1)) x170000 x170001 x176000)
end
def wageofficeref42_Crash.f (k:Nat) (l0_0:List Int) (l0_1:List (S45)) (l1:List Int):Option (List Int × (List (S45))):=(wageofficeref42_Valid.f k l0_0 l0_1).bind fun t171=>(if t171=true then ((wageofficeref42_Copy.f k l0_0).bind fun t172=>(wageofficeref42_Crash.l0 k l1 0 l0_0 l0_1 t172)) else (some (([]:List Int),([]:List (S45)))))
def wageofficeref42_Crash.T11:Bool × List (List Nat × List Nat):=(true,[([],[]),([0],[0]),([],[]),([2],[2]),([],[]),([3,4],[3,4]),([],[]),([6],[6]),([],[]),([7,8],[7,8]),([9],[9]),([1,5,0,1,2,3,4,5,6,7,8,9,10],[1,5]),([11,10,0,1,2,3,4,5,6,7,8,9,10],[10,11])])
def wageofficeref42_Crash.B11:List Nat:=[0,1,0,4,0,28,0,64,0,448,960,2047,4095]
theorem wageofficeref42_Crash.tab11:rtab .any (opsOf Try.f29 11)=wageofficeref42_Crash.T11:=by kernel_rfl
theorem wageofficeref42_Crash.bits11:waitsOk wageofficeref42_Crash.T11.2 wageofficeref42_Crash.B11=true:=by kernel_rfl
set_option maxHeartbeats 8000000 in
set_option maxRecDepth 100000 in
theorem wageofficeref42_Crash.calls (k:Nat) (A0_0:Option Addr) (c0_0:Nat) (l0_0:List Int) (A0_1:Option Addr) (c0_1:Nat) (l0_1:List (S45)) (A1:Option Addr) (c1:Nat) (l1:List Int) (r1:List Int) (r2:List (S45)) (w:World) (hr0_0:Kd.C (Kd.int .u8) w A0_0 l0_0.length l0_0) (hc0_0:l0_0.length ≤ c0_0) (hr0_1:Kd.C k45 w A0_1 l0_1.length l0_1) (hc0_1:l0_1.length ≤ c0_1) (hr1:Kd.C (Kd.int .i64) w A1 l1.length l1) (hc1:l1.length ≤ c1) (h:wageofficeref42_Crash.f k l0_0 l0_1 l1=some (r1,r2)) :
 Calls Try.prog 29 #[.agg #[.slice A0_0 l0_0.length c0_0,.slice A0_1 l0_1.length c0_1],.slice A1 l1.length c1] w fun e w'=>∃ v0_ v1_:Value,e=.returned (.agg #[v0_,v1_])∧Kd.R (Kd.int .u8) 5 w' w.heap.size (fun _=>True) v0_ r1∧Kd.S k45 45 w' w.heap.size (fun k_=>some k_ ≠ (v0_:Value).ownBlock) v1_ r2∧Below w.heap.size w w':=by
 have hu25:=Try.underlying25
 have hu45:=Try.underlying45
 have HR0_0:=Aside0.mk hr0_0
 have HC0_0:=Aside0.mk hc0_0
 clear hr0_0 hc0_0
 have HR0_1:=Aside0.mk hr0_1
 have HC0_1:=Aside0.mk hc0_1
 clear hr0_1 hc0_1
 have HR1:=Aside0.mk hr1
 have HC1:=Aside0.mk hc1
 clear hr1 hc1
 have HB:=Aside0.mk (Below.refl w.heap.size w)
 have H:((wageofficeref42_Valid.f k l0_0 l0_1).bind fun t171=>(if t171=true then ((wageofficeref42_Copy.f k l0_0).bind fun t172=>(wageofficeref42_Crash.l0 k l1 0 l0_0 l0_1 t172)) else (some (([]:List Int),([]:List (S45))))))=some (r1,r2):=h
 clear h
 replace H:=Option.bind_eq_some_iff.mp H
 obtain ⟨t171,A30,H⟩:=H
 replace H:(if t171=true then ((wageofficeref42_Copy.f k l0_0).bind fun t172=>(wageofficeref42_Crash.l0 k l1 0 l0_0 l0_1 t172)) else (some (([]:List Int),([]:List (S45)))))=some (r1,r2):=H
 have A3:=Aside0.mk A30
 clear A30
 by_cases c4:t171=true
 · subst c4
   have H1:((wageofficeref42_Copy.f k l0_0).bind fun t172=>(wageofficeref42_Crash.l0 k l1 0 l0_0 l0_1 t172))=some (r1,r2):=by rw [if_pos rfl] at H;exact H
   clear H
   have H:=H1
   clear H1
   replace H:=Option.bind_eq_some_iff.mp H
   obtain ⟨t172,A50,H⟩:=H
   replace H:(wageofficeref42_Crash.l0 k l1 0 l0_0 l0_1 t172)=some (r1,r2):=H
   have A5:=Aside0.mk A50
   clear A50
   have H':=Aside0.mk H
   clear H
   go_enter Try.func29,Try.ntmps29
   go_wp2_with (first|((with_reducible refine gate_dst (N:=2) rfl ?_);(try (refine gate_guard (by rfl) ?_;dsimp only));refine box_event ?hg (N:=2) ?hd (cs:=#[.slice A0_0 l0_0.length c0_0,.slice A0_1 l0_1.length c0_1]) (t:=25) ?hr ?_;(case hd=>rfl);(case hg=>rfl);(case hr=>first|(go_simp;done)|(go_simp;rfl));intro gb169 hg w6 hbox hb;have n0_:=Aside0.mk (below_step (by repeat (first|(with_reducible first|exact HB.out|apply below_alloc|apply pw_below_drewN|apply below_drew1)|exact HB.out)) hb);have n1_:=Aside0.mk (hbox);have n2_:=Aside0.mk ((by rw [hg];exact (below_size (by repeat (first|(with_reducible first|exact HB.out|apply below_alloc|apply pw_below_drewN|apply below_drew1)|exact HB.out))):w.heap.size ≤ gb169));have n3_:=Aside0.mk ((by rw [hg];exact (below_size (by repeat (first|(with_reducible first|exact HB.out|apply below_alloc|apply pw_below_drewN|apply below_drew1)|exact HB.out))):w.heap.size ≤ gb169));clear HB;have HB:=n0_;have BK169:=n1_;have GW169:=n2_;have GE169:=n3_;clear n0_ n1_ n2_ n3_;clear hb hbox hg)|((with_reducible refine gate_dst (N:=4) rfl ?_);(try (refine gate_guard (by rfl) ?_;dsimp only));refine box_event ?hg (N:=4) ?hd (cs:=#[.slice none 0 0,.slice none 0 0]) (t:=25) ?hr ?_;(case hd=>rfl);(case hg=>rfl);(case hr=>first|(go_simp;done)|(go_simp;rfl));intro gb170 hg w7 hbox hb;have n0_:=Aside0.mk (blk_below (g:=gb169) (o:=.cells #[.slice A0_0 l0_0.length c0_0,.slice A0_1 l0_1.length c0_1] 25 (0,0)) (by (with_reducible repeat (first|refine blk_drewN ?_ _|refine blk_drew ?_|refine blk_alloc ?_ _));exact BK169.out) hb);have n1_:=Aside0.mk (below_step (by repeat (first|(with_reducible first|exact HB.out|apply below_alloc|apply pw_below_drewN|apply below_drew1|refine below_set ?_ GE169.out)|exact HB.out)) hb);have n2_:=Aside0.mk (hbox);have n3_:=Aside0.mk ((by rw [hg];exact (below_size (by repeat (first|(with_reducible first|exact HB.out|apply below_alloc|apply pw_below_drewN|apply below_drew1|refine below_set ?_ GE169.out)|exact HB.out))):w.heap.size ≤ gb170));have n4_:=Aside0.mk ((by rw [hg];exact (below_size (by repeat (first|(with_reducible first|exact HB.out|apply below_alloc|apply pw_below_drewN|apply below_drew1|refine below_set ?_ GE169.out)|exact HB.out))):w.heap.size ≤ gb170));have n5_:=Aside0.mk ((by rw [hg];exact Nat.ne_of_lt (blk_lt (g:=gb169) (o:=.cells #[.slice A0_0 l0_0.length c0_0,.slice A0_1 l0_1.length c0_1] 25 (0,0)) (by (with_reducible repeat (first|refine blk_drewN ?_ _|refine blk_drew ?_|refine blk_alloc ?_ _));exact BK169.out)):gb169 ≠ gb170));have n6_:=Aside0.mk ((by rw [hg];exact Nat.ne_of_gt (blk_lt (g:=gb169) (o:=.cells #[.slice A0_0 l0_0.length c0_0,.slice A0_1 l0_1.length c0_1] 25 (0,0)) (by (with_reducible repeat (first|refine blk_drewN ?_ _|refine blk_drew ?_|refine blk_alloc ?_ _));exact BK169.out)):gb170 ≠ gb169));clear BK169;clear HB;have BK169:=n0_;have HB:=n1_;have BK170:=n2_;have GW170:=n3_;have GE170:=n4_;have NB169_170:=n5_;have NB170_169:=n6_;clear n0_ n1_ n2_ n3_ n4_ n5_ n6_;clear hb hbox hg;have hnb8:=NB169_170.out;have hnc8:=NB170_169.out;have hcz9_0:w7.cell? ⟨gb169,0,none⟩=some (.slice A0_0 l0_0.length c0_0):=(blk_cell BK169.out 0).trans rfl;have hcz9_1:w7.cell? ⟨gb169,1,none⟩=some (.slice A0_1 l0_1.length c0_1):=(blk_cell BK169.out 1).trans rfl;have hfz9_0:=blk_frozen BK169.out 0;have hfz9_1:=blk_frozen BK169.out 1)|((with_reducible refine gate_callee (f:=31) rfl ?_);refine goesL_ (some 10) rfl rfl Try.func31 (by kernel_rfl) rfl #[.agg #[.slice A0_0 l0_0.length c0_0,.slice A0_1 l0_1.length c0_1]] rfl (by (try simp only [List.map_toArray,List.map_cons,List.map_nil]);first|done|rfl|(simp only [List.length_drop,List.length_take];rfl)) ?_;(with_reducible refine (wageofficeref42_Valid.calls k _ _ l0_0 _ _ l0_1 true _ ?side1 ?side2 ?side3 ?side4 A3.out).mono ?_);(case side1=>repeat (first|exact (Kd.C_below HR0_0.out HB.out)|(with_reducible refine Kd.C_alloc ?_ _)|(with_reducible refine Kd.C_drewN ?_ _)|(with_reducible refine Kd.C_drew ?_)));(case side2=>exact HC0_0.out);(case side3=>repeat (first|exact (Kd.C_below HR0_1.out HB.out)|(with_reducible refine Kd.C_alloc ?_ _)|(with_reducible refine Kd.C_drewN ?_ _)|(with_reducible refine Kd.C_drew ?_)));(case side4=>exact HC0_1.out);rintro e w10 ⟨rfl,hb⟩;refine ⟨_,rfl,?_⟩;have n0_:=Aside0.mk (blk_below (g:=gb169) (o:=.cells #[.slice A0_0 l0_0.length c0_0,.slice A0_1 l0_1.length c0_1] 25 (0,0)) (by (with_reducible repeat (first|refine blk_drewN ?_ _|refine blk_drew ?_|refine blk_alloc ?_ _));exact BK169.out) hb);have n1_:=Aside0.mk (blk_below (g:=gb170) (o:=.cells #[.slice none 0 0,.slice none 0 0] 25 (0,0)) (by (with_reducible repeat (first|refine blk_drewN ?_ _|refine blk_drew ?_|refine blk_alloc ?_ _));exact BK170.out) hb);have n2_:=Aside0.mk (below_step (by repeat (first|(with_reducible first|exact HB.out|apply below_alloc|apply pw_below_drewN|apply below_drew1|refine below_set ?_ GE169.out|refine below_set ?_ GE170.out)|exact HB.out)) hb);clear BK169;clear BK170;clear HB;have BK169:=n0_;have BK170:=n1_;have HB:=n2_;clear n0_ n1_ n2_;(try clear hb);(try clear hb2);(try clear hk);(try clear hi);have hcz11_0:w10.cell? ⟨gb169,0,none⟩=some (.slice A0_0 l0_0.length c0_0):=(blk_cell BK169.out 0).trans rfl;have hcz11_1:w10.cell? ⟨gb169,1,none⟩=some (.slice A0_1 l0_1.length c0_1):=(blk_cell BK169.out 1).trans rfl;have hfz11_0:=blk_frozen BK169.out 0;have hfz11_1:=blk_frozen BK169.out 1)|((with_reducible refine gate_callee (f:=46) rfl ?_);refine goesL_ (some 15) rfl rfl Try.func46 (by kernel_rfl) rfl #[.slice A0_0 l0_0.length c0_0] rfl (by (try simp only [List.map_toArray,List.map_cons,List.map_nil]);first|done|rfl|(simp only [List.length_drop,List.length_take];rfl)) ?_;(with_reducible refine (wageofficeref42_Copy.calls k _ _ l0_0 t172 _ ?side1 ?side2 A5.out).mono ?_);(case side1=>repeat (first|exact (Kd.C_below HR0_0.out HB.out)|(with_reducible refine Kd.C_alloc ?_ _)|(with_reducible refine Kd.C_drewN ?_ _)|(with_reducible refine Kd.C_drew ?_)));(case side2=>exact HC0_0.out);rintro e w12 ⟨v173,rfl,ho0,hb⟩;refine ⟨_,rfl,?_⟩;have n0_:=Aside0.mk (Kd.R_lower ho0 (below_size (by repeat (first|(with_reducible first|exact HB.out|apply below_alloc|apply pw_below_drewN|apply below_drew1|refine below_set ?_ GE169.out|refine below_set ?_ GE170.out)|exact HB.out))));have n1_:=Aside0.mk (blk_below (g:=gb169) (o:=.cells #[.slice A0_0 l0_0.length c0_0,.slice A0_1 l0_1.length c0_1] 25 (0,0)) (by (with_reducible repeat (first|refine blk_drewN ?_ _|refine blk_drew ?_|refine blk_alloc ?_ _));exact BK169.out) hb);have n2_:=Aside0.mk (blk_below (g:=gb170) (o:=.cells #[.slice none 0 0,.slice none 0 0] 25 (0,0)) (by (with_reducible repeat (first|refine blk_drewN ?_ _|refine blk_drew ?_|refine blk_alloc ?_ _));exact BK170.out) hb);have n3_:=Aside0.mk (below_step (by repeat (first|(with_reducible first|exact HB.out|apply below_alloc|apply pw_below_drewN|apply below_drew1|refine below_set ?_ GE169.out|refine below_set ?_ GE170.out)|exact HB.out)) hb);clear BK169;clear BK170;clear HB;have HO174:=n0_;have BK169:=n1_;have BK170:=n2_;have HB:=n3_;clear n0_ n1_ n2_ n3_;(try clear hb);(try clear hb2);(try clear hk);(try clear hi);(try clear ho0);obtain ⟨Ao13,co13,eo13⟩:=Kd.R_slice HO174.out;subst eo13)|((with_reducible refine gate_dst (N:=5) rfl ?_);(try (refine gate_guard (by rfl) ?_;dsimp only));refine box_event ?hg (N:=5) ?hd (cs:=#[.slice none 0 0,.slice none 0 0]) (t:=25) ?hr ?_;(case hd=>rfl);(case hg=>rfl);(case hr=>first|(go_simp;done)|(go_simp;rfl));intro gb175 hg w14 hbox hb;have n0_:=Aside0.mk (Kd.R_below (by (with_reducible repeat (first|apply Kd.R_alloc|apply Kd.R_drewN|apply Kd.R_drew));exact HO174.out) hb);have n1_:=Aside0.mk (blk_below (g:=gb169) (o:=.cells #[.slice A0_0 l0_0.length c0_0,.slice A0_1 l0_1.length c0_1] 25 (0,0)) (by (with_reducible repeat (first|refine blk_drewN ?_ _|refine blk_drew ?_|refine blk_alloc ?_ _));exact BK169.out) hb);have n2_:=Aside0.mk (blk_below (g:=gb170) (o:=.cells #[.slice none 0 0,.slice none 0 0] 25 (0,0)) (by (with_reducible repeat (first|refine blk_drewN ?_ _|refine blk_drew ?_|refine blk_alloc ?_ _));exact BK170.out) hb);have n3_:=Aside0.mk (below_step (by repeat (first|(with_reducible first|exact HB.out|apply below_alloc|apply pw_below_drewN|apply below_drew1|refine below_set ?_ GE169.out|refine below_set ?_ GE170.out)|exact HB.out)) hb);have n4_:=Aside0.mk (hbox);have n5_:=Aside0.mk ((by rw [hg];exact (below_size (by repeat (first|(with_reducible first|exact HB.out|apply below_alloc|apply pw_below_drewN|apply below_drew1|refine below_set ?_ GE169.out|refine below_set ?_ GE170.out)|exact HB.out))):w.heap.size ≤ gb175));have n6_:=Aside0.mk ((by rw [hg];exact (below_size (by repeat (first|(with_reducible first|exact HB.out|apply below_alloc|apply pw_below_drewN|apply below_drew1|refine below_set ?_ GE169.out|refine below_set ?_ GE170.out)|exact HB.out))):w.heap.size ≤ gb175));have n7_:=Aside0.mk ((by rw [hg];exact Nat.ne_of_lt (blk_lt (g:=gb169) (o:=.cells #[.slice A0_0 l0_0.length c0_0,.slice A0_1 l0_1.length c0_1] 25 (0,0)) (by (with_reducible repeat (first|refine blk_drewN ?_ _|refine blk_drew ?_|refine blk_alloc ?_ _));exact BK169.out)):gb169 ≠ gb175));have n8_:=Aside0.mk ((by rw [hg];exact Nat.ne_of_gt (blk_lt (g:=gb169) (o:=.cells #[.slice A0_0 l0_0.length c0_0,.slice A0_1 l0_1.length c0_1] 25 (0,0)) (by (with_reducible repeat (first|refine blk_drewN ?_ _|refine blk_drew ?_|refine blk_alloc ?_ _));exact BK169.out)):gb175 ≠ gb169));have n9_:=Aside0.mk ((by rw [hg];exact Nat.ne_of_lt (blk_lt (g:=gb170) (o:=.cells #[.slice none 0 0,.slice none 0 0] 25 (0,0)) (by (with_reducible repeat (first|refine blk_drewN ?_ _|refine blk_drew ?_|refine blk_alloc ?_ _));exact BK170.out)):gb170 ≠ gb175));have n10_:=Aside0.mk ((by rw [hg];exact Nat.ne_of_gt (blk_lt (g:=gb170) (o:=.cells #[.slice none 0 0,.slice none 0 0] 25 (0,0)) (by (with_reducible repeat (first|refine blk_drewN ?_ _|refine blk_drew ?_|refine blk_alloc ?_ _));exact BK170.out)):gb175 ≠ gb170));clear HO174;clear BK169;clear BK170;clear HB;have HO174:=n0_;have BK169:=n1_;have BK170:=n2_;have HB:=n3_;have BK175:=n4_;have GW175:=n5_;have GE175:=n6_;have NB169_175:=n7_;have NB175_169:=n8_;have NB170_175:=n9_;have NB175_170:=n10_;clear n0_ n1_ n2_ n3_ n4_ n5_ n6_ n7_ n8_ n9_ n10_;clear hb hbox hg;have hnb15:=NB175_169.out;have hnc15:=NB169_175.out;have hnb16:=NB175_170.out;have hnc16:=NB170_175.out;have hcz17_0:w14.cell? ⟨gb175,0,none⟩=some (.slice none 0 0):=(blk_cell BK175.out 0).trans rfl;have hcz17_1:w14.cell? ⟨gb175,1,none⟩=some (.slice none 0 0):=(blk_cell BK175.out 1).trans rfl;have hfz17_0:=blk_frozen BK175.out 0;have hfz17_1:=blk_frozen BK175.out 1))
   go_loopg [6] k (fun kq v6 w'=>∃ (x6_1:Int) (x176000_1:List Int) (u176000:Value),v6=.int .i64 x6_1∧Aside0 (wageofficeref42_Crash.l0 kq l1 x6_1 l0_0 l0_1 x176000_1=some (r1,r2))∧Aside0 (kq ≤ k)∧Aside0 (Kd.R (Kd.int .u8) 5 w' w.heap.size (fun _=>True) u176000 x176000_1)∧Aside0 (w'.heap[gb169]? = some (.cells #[(.slice A0_0 l0_0.length c0_0),(.slice A0_1 l0_1.length c0_1)] 25 (0,0)))∧Aside0 (w'.heap[gb170]? = some (.cells #[(.slice none 0 0),(.slice none 0 0)] 25 (0,0)))∧Aside0 (w'.heap[gb175]? = some (.cells #[u176000,(.slice none 0 0)] 25 (0,0)))∧Aside0 (Below w.heap.size w w'))
   case atStart=>exact ⟨(0),(t172),(.slice Ao13 t172.length co13),(by first|rfl|(simp;done)|(simp [*];done)),H',⟨Nat.le_refl _⟩,⟨by (with_reducible repeat (first|apply Kd.R_alloc|apply Kd.R_drewN|apply Kd.R_drew));exact Kd.R_mono (Kd.R_far (p:=⟨gb175,1,none⟩) (Kd.R_far (p:=⟨gb175,0,none⟩) (Kd.R_types HO174.out BK175.out (by decide)) (fun _ hk=>hk.2) (.slice Ao13 t172.length co13)) (fun _ hk=>hk.2) (.slice none 0 0)) (fun _ hk=>trivial)⟩,⟨by (with_reducible repeat (first|refine blk_drewN ?_ _|refine blk_drew ?_|refine blk_alloc ?_ _));refine blk_far ?_ NB169_175.out _;(with_reducible repeat (first|refine blk_drewN ?_ _|refine blk_drew ?_|refine blk_alloc ?_ _));refine blk_far ?_ NB169_175.out _;(with_reducible repeat (first|refine blk_drewN ?_ _|refine blk_drew ?_|refine blk_alloc ?_ _));exact BK169.out⟩,⟨by (with_reducible repeat (first|refine blk_drewN ?_ _|refine blk_drew ?_|refine blk_alloc ?_ _));refine blk_far ?_ NB170_175.out _;(with_reducible repeat (first|refine blk_drewN ?_ _|refine blk_drew ?_|refine blk_alloc ?_ _));refine blk_far ?_ NB170_175.out _;(with_reducible repeat (first|refine blk_drewN ?_ _|refine blk_drew ?_|refine blk_alloc ?_ _));exact BK170.out⟩,⟨by (with_reducible repeat (first|refine blk_drewN ?_ _|refine blk_drew ?_|refine blk_alloc ?_ _));refine blk_put (cs:=#[.slice Ao13 t172.length co13,.slice none 0 0]) ?_ 1 _ rfl;(with_reducible repeat (first|refine blk_drewN ?_ _|refine blk_drew ?_|refine blk_alloc ?_ _));refine blk_put (cs:=#[.slice none 0 0,.slice none 0 0]) ?_ 0 _ rfl;(with_reducible repeat (first|refine blk_drewN ?_ _|refine blk_drew ?_|refine blk_alloc ?_ _));exact BK175.out⟩,⟨by repeat (first|(with_reducible first|exact HB.out|apply below_alloc|apply pw_below_drewN|apply below_drew1|refine below_set ?_ GE169.out|refine below_set ?_ GE170.out|refine below_set ?_ GE175.out)|exact HB.out)⟩⟩
   case round =>
    clear H'
    try clear c1
    try clear c2
    try clear p2
    try clear c3
    try clear c4
    try clear c8
    try clear c15
    try clear c16
    try clear hcz11_0
    try clear hcz11_1
    try clear hcz17_0
    try clear hcz17_1
    try clear hcz9_0
    try clear hcz9_1
    try clear hfz11_0
    try clear hfz11_1
    try clear hfz17_0
    try clear hfz17_1
    try clear hfz9_0
    try clear hfz9_1
    obtain ⟨x6_1,x176000_1,u176000,rfl,HA,HK1,HO_176000,BK169,BK170,BK175,HB⟩:=hrel
    cases gk with
    | zero=>exact absurd HA.out (by simp [wageofficeref42_Crash.l0])
    | succ k1 =>
     have H:=HA.out
     clear HA
     simp only [wageofficeref42_Crash.l0] at H
     have HC18:=Aside0.mk H
     clear H
     go_upto_region 5 with (fail)
     go_cut [27] (fun v27 wc=>∃ (kq:Nat) (x27_17:Bool),v27=.bool x27_17∧Aside0 (wageofficeref42_Crash.j1 kq l1 x6_1 x27_17 l0_0 l0_1 x176000_1=some (r1,r2))∧Aside0 (kq ≤ k1)∧Aside0 (Kd.R (Kd.int .u8) 5 wc w.heap.size (fun _=>True) u176000 x176000_1)∧Aside0 (wc.heap[gb169]? = some (.cells #[(.slice A0_0 l0_0.length c0_0),(.slice A0_1 l0_1.length c0_1)] 25 (0,0)))∧Aside0 (wc.heap[gb170]? = some (.cells #[(.slice none 0 0),(.slice none 0 0)] 25 (0,0)))∧Aside0 (wc.heap[gb175]? = some (.cells #[u176000,(.slice none 0 0)] 25 (0,0)))∧Aside0 (Below w.heap.size w wc))
     case first =>
      have H:=HC18.out
      clear HC18
      by_cases c19:x6_1 < (l0_1.length:Int)
      · rw [if_pos c19] at H
        have c19b0:decide (x6_1 < (l0_1.length:Int))=true:=decide_eq_true c19
        clear c19
        (first|rw [c19b0]|(simp only [i64_w,i32_w];rw [c19b0])|skip)
        have H':=Aside0.mk H
        clear H
        have hnb20:=NB169_170.out
        have hnc20:=NB170_169.out
        have hnb21:=NB169_175.out
        have hnc21:=NB175_169.out
        have hcz22_0:wr.cell? ⟨gb169,0,none⟩=some (.slice A0_0 l0_0.length c0_0):=(blk_cell BK169.out 0).trans rfl
        have hcz22_1:wr.cell? ⟨gb169,1,none⟩=some (.slice A0_1 l0_1.length c0_1):=(blk_cell BK169.out 1).trans rfl
        have hfz22_0:=blk_frozen BK169.out 0
        have hfz22_1:=blk_frozen BK169.out 1
        go_wp2
        go_meet
        case rel=>exact ⟨_,(decide (x6_1 < (l1.length:Int))),(by first|rfl|(simp;done)|(simp [*];done)),H',⟨by have:=HK1.out;first|omega|exact Nat.le_refl _⟩,⟨by (with_reducible repeat (first|apply Kd.R_alloc|apply Kd.R_drewN|apply Kd.R_drew));exact HO_176000.out⟩,⟨by (with_reducible repeat (first|refine blk_drewN ?_ _|refine blk_drew ?_|refine blk_alloc ?_ _));exact BK169.out⟩,⟨by (with_reducible repeat (first|refine blk_drewN ?_ _|refine blk_drew ?_|refine blk_alloc ?_ _));exact BK170.out⟩,⟨by (with_reducible repeat (first|refine blk_drewN ?_ _|refine blk_drew ?_|refine blk_alloc ?_ _));exact BK175.out⟩,⟨by repeat (first|(with_reducible first|exact HB.out|apply below_alloc|apply pw_below_drewN|apply below_drew1|refine below_set ?_ GE169.out|refine below_set ?_ GE170.out|refine below_set ?_ GE175.out)|exact HB.out)⟩⟩
      · rw [if_neg c19] at H
        have c19b0:decide (x6_1 < (l0_1.length:Int))=false:=decide_eq_false c19
        clear c19
        (first|rw [c19b0]|(simp only [i64_w,i32_w];rw [c19b0])|skip)
        have H':=Aside0.mk H
        clear H
        have hnb23:=NB169_170.out
        have hnc23:=NB170_169.out
        have hnb24:=NB169_175.out
        have hnc24:=NB175_169.out
        have hcz25_0:wr.cell? ⟨gb169,0,none⟩=some (.slice A0_0 l0_0.length c0_0):=(blk_cell BK169.out 0).trans rfl
        have hcz25_1:wr.cell? ⟨gb169,1,none⟩=some (.slice A0_1 l0_1.length c0_1):=(blk_cell BK169.out 1).trans rfl
        have hfz25_0:=blk_frozen BK169.out 0
        have hfz25_1:=blk_frozen BK169.out 1
        go_wp2
        go_meet
        case rel=>exact ⟨_,(false),(by first|rfl|(simp;done)|(simp [*];done)),H',⟨by have:=HK1.out;first|omega|exact Nat.le_refl _⟩,⟨by (with_reducible repeat (first|apply Kd.R_alloc|apply Kd.R_drewN|apply Kd.R_drew));exact HO_176000.out⟩,⟨by (with_reducible repeat (first|refine blk_drewN ?_ _|refine blk_drew ?_|refine blk_alloc ?_ _));exact BK169.out⟩,⟨by (with_reducible repeat (first|refine blk_drewN ?_ _|refine blk_drew ?_|refine blk_alloc ?_ _));exact BK170.out⟩,⟨by (with_reducible repeat (first|refine blk_drewN ?_ _|refine blk_drew ?_|refine blk_alloc ?_ _));exact BK175.out⟩,⟨by repeat (first|(with_reducible first|exact HB.out|apply below_alloc|apply pw_below_drewN|apply below_drew1|refine below_set ?_ GE169.out|refine below_set ?_ GE170.out|refine below_set ?_ GE175.out)|exact HB.out)⟩⟩
     case rest =>
      clear HC18
      try clear c1
      try clear c2
      try clear p2
      try clear c3
      try clear c4
      try clear c8
      try clear c15
      try clear c16
      try clear c19
      try clear c19b0
      try clear c20
      try clear c21
      try clear c23
      try clear c24
      try clear hcz11_0
      try clear hcz11_1
      try clear hcz17_0
      try clear hcz17_1
      try clear hcz22_0
      try clear hcz22_1
      try clear hcz25_0
      try clear hcz25_1
      try clear hcz9_0
      try clear hcz9_1
      try clear hfz11_0
      try clear hfz11_1
      try clear hfz17_0
      try clear hfz17_1
      try clear hfz22_0
      try clear hfz22_1
      try clear hfz25_0
      try clear hfz25_1
      try clear hfz9_0
      try clear hfz9_1
      try clear p2
      obtain ⟨kq,x27_17,rfl,HA,HJ17,HO_176000,BK169,BK170,BK175,HB⟩:=hcut
      cases kq with
      | zero=>exact absurd HA.out (by simp [wageofficeref42_Crash.j1])
      | succ kj17 =>
       have H:=HA.out
       clear HA
       simp only [wageofficeref42_Crash.j1] at H
       by_cases c26:x27_17=true
       · subst c26
         have H1:(if 0 ≤ x6_1 then (if x6_1 < (l0_1.length:Int) then (wageofficeref42_Crash.l1 kj17 l1 x6_1 0 l0_0 l0_1 x176000_1 ((rd_T45 l0_1 x6_1).f0) ((rd_T45 l0_1 x6_1).f1)) else (none)) else (none))=some (r1,r2):=by rw [if_pos rfl] at H;exact H
         clear H
         have H:=H1
         clear H1
         by_cases c27:0 ≤ x6_1
         · rw [if_pos c27] at H
           have c27b0:decide (0 ≤ x6_1)=true:=decide_eq_true c27
           clear c27
           by_cases c28:x6_1 < (l0_1.length:Int)
           · rw [if_pos c28] at H
             have c28b0:decide (x6_1 < (l0_1.length:Int))=true:=decide_eq_true c28
             clear c28
             have H':=Aside0.mk H
             clear H
             have hnb29:=NB169_170.out
             have hnc29:=NB170_169.out
             have hnb30:=NB169_175.out
             have hnc30:=NB175_169.out
             have hcz31_0:wc.cell? ⟨gb169,0,none⟩=some (.slice A0_0 l0_0.length c0_0):=(blk_cell BK169.out 0).trans rfl
             have hcz31_1:wc.cell? ⟨gb169,1,none⟩=some (.slice A0_1 l0_1.length c0_1):=(blk_cell BK169.out 1).trans rfl
             have hfz31_0:=blk_frozen BK169.out 0
             have hfz31_1:=blk_frozen BK169.out 1
             have p176:0 ≤ (x6_1:Int):=of_decide_eq_true (by first|(with_reducible assumption)|assumption)
             have q176:x6_1 < (l0_1.length:Int):=of_decide_eq_true (by first|(with_reducible assumption)|assumption)
             obtain ⟨ad176,A176_1,c176_1,e176,hx176_0,hx176_1,hl176_1,hi176_1⟩:=at_T45 HR0_1.out x6_1 p176 q176
             cases e176
             replace hx176_0:=(HB.out.cell (World.block_lt_of_cell? w _ hx176_0)).trans hx176_0
             replace hx176_1:=(HB.out.cell (World.block_lt_of_cell? w _ hx176_1)).trans hx176_1
             have HR176_1:=Aside0.mk hi176_1
             have HC176_1:=Aside0.mk hl176_1
             clear hi176_1 hl176_1
             replace p176:=eq_true p176
             replace q176:=eq_true q176
             go_wp2_with (first|((with_reducible refine gate_dst (N:=7) rfl ?_);(try (refine gate_guard (by rfl) ?_;dsimp only));refine box_event ?hg (N:=7) ?hd (cs:=#[.int .i64 0,.slice none 0 0]) (t:=45) ?hr ?_;(case hd=>rfl);(case hg=>rfl);(case hr=>first|(go_simp;done)|(go_simp;rfl));intro gb177 hg w32 hbox hb;have n0_:=Aside0.mk (Kd.R_below (by (with_reducible repeat (first|apply Kd.R_alloc|apply Kd.R_drewN|apply Kd.R_drew));exact HO_176000.out) hb);have n1_:=Aside0.mk (blk_below (g:=gb169) (o:=.cells #[.slice A0_0 l0_0.length c0_0,.slice (some ad176) l0_1.length c0_1] 25 (0,0)) (by (with_reducible repeat (first|refine blk_drewN ?_ _|refine blk_drew ?_|refine blk_alloc ?_ _));exact BK169.out) hb);have n2_:=Aside0.mk (blk_below (g:=gb170) (o:=.cells #[.slice none 0 0,.slice none 0 0] 25 (0,0)) (by (with_reducible repeat (first|refine blk_drewN ?_ _|refine blk_drew ?_|refine blk_alloc ?_ _));exact BK170.out) hb);have n3_:=Aside0.mk (blk_below (g:=gb175) (o:=.cells #[u176000,.slice none 0 0] 25 (0,0)) (by (with_reducible repeat (first|refine blk_drewN ?_ _|refine blk_drew ?_|refine blk_alloc ?_ _));exact BK175.out) hb);have n4_:=Aside0.mk (below_step (by repeat (first|(with_reducible first|exact HB.out|apply below_alloc|apply pw_below_drewN|apply below_drew1|refine below_set ?_ GE169.out|refine below_set ?_ GE170.out|refine below_set ?_ GE175.out)|exact HB.out)) hb);have n5_:=Aside0.mk (hbox);have n6_:=Aside0.mk ((by rw [hg];exact (below_size (by repeat (first|(with_reducible first|exact HB.out|apply below_alloc|apply pw_below_drewN|apply below_drew1|refine below_set ?_ GE169.out|refine below_set ?_ GE170.out|refine below_set ?_ GE175.out)|exact HB.out))):w.heap.size ≤ gb177));have n7_:=Aside0.mk ((by rw [hg];exact (below_size (by repeat (first|(with_reducible first|exact HB.out|apply below_alloc|apply pw_below_drewN|apply below_drew1|refine below_set ?_ GE169.out|refine below_set ?_ GE170.out|refine below_set ?_ GE175.out)|exact HB.out))):w.heap.size ≤ gb177));have n8_:=Aside0.mk ((by rw [hg];exact Nat.ne_of_lt (blk_lt (g:=gb169) (o:=.cells #[.slice A0_0 l0_0.length c0_0,.slice (some ad176) l0_1.length c0_1] 25 (0,0)) (by (with_reducible repeat (first|refine blk_drewN ?_ _|refine blk_drew ?_|refine blk_alloc ?_ _));exact BK169.out)):gb169 ≠ gb177));have n9_:=Aside0.mk ((by rw [hg];exact Nat.ne_of_gt (blk_lt (g:=gb169) (o:=.cells #[.slice A0_0 l0_0.length c0_0,.slice (some ad176) l0_1.length c0_1] 25 (0,0)) (by (with_reducible repeat (first|refine blk_drewN ?_ _|refine blk_drew ?_|refine blk_alloc ?_ _));exact BK169.out)):gb177 ≠ gb169));have n10_:=Aside0.mk ((by rw [hg];exact Nat.ne_of_lt (blk_lt (g:=gb170) (o:=.cells #[.slice none 0 0,.slice none 0 0] 25 (0,0)) (by (with_reducible repeat (first|refine blk_drewN ?_ _|refine blk_drew ?_|refine blk_alloc ?_ _));exact BK170.out)):gb170 ≠ gb177));have n11_:=Aside0.mk ((by rw [hg];exact Nat.ne_of_gt (blk_lt (g:=gb170) (o:=.cells #[.slice none 0 0,.slice none 0 0] 25 (0,0)) (by (with_reducible repeat (first|refine blk_drewN ?_ _|refine blk_drew ?_|refine blk_alloc ?_ _));exact BK170.out)):gb177 ≠ gb170));have n12_:=Aside0.mk ((by rw [hg];exact Nat.ne_of_lt (blk_lt (g:=gb175) (o:=.cells #[u176000,.slice none 0 0] 25 (0,0)) (by (with_reducible repeat (first|refine blk_drewN ?_ _|refine blk_drew ?_|refine blk_alloc ?_ _));exact BK175.out)):gb175 ≠ gb177));have n13_:=Aside0.mk ((by rw [hg];exact Nat.ne_of_gt (blk_lt (g:=gb175) (o:=.cells #[u176000,.slice none 0 0] 25 (0,0)) (by (with_reducible repeat (first|refine blk_drewN ?_ _|refine blk_drew ?_|refine blk_alloc ?_ _));exact BK175.out)):gb177 ≠ gb175));clear HO_176000;clear BK169;clear BK170;clear BK175;clear HB;have HO_176000:=n0_;have BK169:=n1_;have BK170:=n2_;have BK175:=n3_;have HB:=n4_;have BK177:=n5_;have GW177:=n6_;have GE177:=n7_;have NB169_177:=n8_;have NB177_169:=n9_;have NB170_177:=n10_;have NB177_170:=n11_;have NB175_177:=n12_;have NB177_175:=n13_;clear n0_ n1_ n2_ n3_ n4_ n5_ n6_ n7_ n8_ n9_ n10_ n11_ n12_ n13_;clear hb hbox hg;have hnb33:=NB177_169.out;have hnc33:=NB169_177.out;have hnb34:=NB177_170.out;have hnc34:=NB170_177.out;have hnb35:=NB177_175.out;have hnc35:=NB175_177.out;have hcz36_0:w32.cell? ⟨gb177,0,none⟩=some (.int .i64 0):=(blk_cell BK177.out 0).trans rfl;have hcz36_1:w32.cell? ⟨gb177,1,none⟩=some (.slice none 0 0):=(blk_cell BK177.out 1).trans rfl;have hfz36_0:=blk_frozen BK177.out 0;have hfz36_1:=blk_frozen BK177.out 1))
             go_loopg [8] kj17 (fun kq v8 w'=>∃ (x8_3:Int) (x176000_3:List Int) (u176000:Value),v8=.int .i64 x8_3∧Aside0 (wageofficeref42_Crash.l1 kq l1 x6_1 x8_3 l0_0 l0_1 x176000_3 ((rd_T45 l0_1 x6_1).f0) ((rd_T45 l0_1 x6_1).f1)=some (r1,r2))∧Aside0 (kq ≤ kj17)∧Aside0 (Kd.R (Kd.int .u8) 5 w' w.heap.size (fun _=>True) u176000 x176000_3)∧Aside0 (w'.heap[gb169]? = some (.cells #[(.slice A0_0 l0_0.length c0_0),(.slice (some ad176) l0_1.length c0_1)] 25 (0,0)))∧Aside0 (w'.heap[gb170]? = some (.cells #[(.slice none 0 0),(.slice none 0 0)] 25 (0,0)))∧Aside0 (w'.heap[gb175]? = some (.cells #[u176000,(.slice none 0 0)] 25 (0,0)))∧Aside0 (w'.heap[gb177]? = some (.cells #[.int .i64 ((rd_T45 l0_1 x6_1).f0),(.slice A176_1 ((rd_T45 l0_1 x6_1).f1).length c176_1)] 45 (0,0)))∧Aside0 (Below w.heap.size w w'))
             case atStart=>exact ⟨(0),(x176000_1),(u176000),(by first|rfl|(simp;done)|(simp [*];done)),H',⟨Nat.le_refl _⟩,⟨by (with_reducible repeat (first|apply Kd.R_alloc|apply Kd.R_drewN|apply Kd.R_drew));exact Kd.R_mono (Kd.R_far (p:=⟨gb177,1,none⟩) (Kd.R_far (p:=⟨gb177,0,none⟩) (Kd.R_types HO_176000.out BK177.out (by decide)) (fun _ hk=>hk.2) (.int .i64 ((rd_T45 l0_1 x6_1).f0))) (fun _ hk=>hk.2) (.slice A176_1 ((rd_T45 l0_1 x6_1).f1).length c176_1)) (fun _ hk=>trivial)⟩,⟨by (with_reducible repeat (first|refine blk_drewN ?_ _|refine blk_drew ?_|refine blk_alloc ?_ _));refine blk_far ?_ NB169_177.out _;(with_reducible repeat (first|refine blk_drewN ?_ _|refine blk_drew ?_|refine blk_alloc ?_ _));refine blk_far ?_ NB169_177.out _;(with_reducible repeat (first|refine blk_drewN ?_ _|refine blk_drew ?_|refine blk_alloc ?_ _));exact BK169.out⟩,⟨by (with_reducible repeat (first|refine blk_drewN ?_ _|refine blk_drew ?_|refine blk_alloc ?_ _));refine blk_far ?_ NB170_177.out _;(with_reducible repeat (first|refine blk_drewN ?_ _|refine blk_drew ?_|refine blk_alloc ?_ _));refine blk_far ?_ NB170_177.out _;(with_reducible repeat (first|refine blk_drewN ?_ _|refine blk_drew ?_|refine blk_alloc ?_ _));exact BK170.out⟩,⟨by (with_reducible repeat (first|refine blk_drewN ?_ _|refine blk_drew ?_|refine blk_alloc ?_ _));refine blk_far ?_ NB175_177.out _;(with_reducible repeat (first|refine blk_drewN ?_ _|refine blk_drew ?_|refine blk_alloc ?_ _));refine blk_far ?_ NB175_177.out _;(with_reducible repeat (first|refine blk_drewN ?_ _|refine blk_drew ?_|refine blk_alloc ?_ _));exact BK175.out⟩,⟨by (with_reducible repeat (first|refine blk_drewN ?_ _|refine blk_drew ?_|refine blk_alloc ?_ _));refine blk_put (cs:=#[.int .i64 ((rd_T45 l0_1 x6_1).f0),.slice none 0 0]) ?_ 1 _ rfl;(with_reducible repeat (first|refine blk_drewN ?_ _|refine blk_drew ?_|refine blk_alloc ?_ _));refine blk_put (cs:=#[.int .i64 0,.slice none 0 0]) ?_ 0 _ rfl;(with_reducible repeat (first|refine blk_drewN ?_ _|refine blk_drew ?_|refine blk_alloc ?_ _));exact BK177.out⟩,⟨by repeat (first|(with_reducible first|exact HB.out|apply below_alloc|apply pw_below_drewN|apply below_drew1|refine below_set ?_ GE169.out|refine below_set ?_ GE170.out|refine below_set ?_ GE175.out|refine below_set ?_ GE177.out)|exact HB.out)⟩⟩
             case round =>
              clear H'
              try clear c1
              try clear p1
              try clear q1
              try clear hx1
              try clear c2
              try clear p2
              try clear c3
              try clear c4
              try clear c8
              try clear c15
              try clear c16
              try clear c17
              try clear p17
              try clear q17
              try clear hx17
              try clear c19
              try clear c19b0
              try clear c20
              try clear c21
              try clear c23
              try clear c24
              try clear c26
              try clear c27
              try clear c27b0
              try clear c28
              try clear c28b0
              try clear c29
              try clear c30
              try clear c31
              try clear c33
              try clear c34
              try clear c35
              try clear hcz11_0
              try clear hcz11_1
              try clear hcz17_0
              try clear hcz17_1
              try clear hcz22_0
              try clear hcz22_1
              try clear hcz25_0
              try clear hcz25_1
              try clear hcz31_0
              try clear hcz31_1
              try clear hcz36_0
              try clear hcz36_1
              try clear hcz9_0
              try clear hcz9_1
              try clear hfz11_0
              try clear hfz11_1
              try clear hfz17_0
              try clear hfz17_1
              try clear hfz22_0
              try clear hfz22_1
              try clear hfz25_0
              try clear hfz25_1
              try clear hfz31_0
              try clear hfz31_1
              try clear hfz36_0
              try clear hfz36_1
              try clear hfz9_0
              try clear hfz9_1
              try clear hx176_0
              try clear hx176_1
              try clear p176
              try clear p2
              try clear q176
              obtain ⟨x8_3,x176000_3,u176000,rfl,HA,HK3,HO_176000,BK169,BK170,BK175,BK177,HB⟩:=hrel
              cases gk with
              | zero=>exact absurd HA.out (by simp [wageofficeref42_Crash.l1])
              | succ k3 =>
               have H:=HA.out
               clear HA
               simp only [wageofficeref42_Crash.l1] at H
               by_cases c37:x8_3 < (((rd_T45 l0_1 x6_1).f1).length:Int)
               · rw [if_pos c37] at H
                 have c37b0:decide (x8_3 < (((rd_T45 l0_1 x6_1).f1).length:Int))=true:=decide_eq_true c37
                 clear c37
                 by_cases c38:0 ≤ x6_1
                 · rw [if_pos c38] at H
                   have c38b0:decide (0 ≤ x6_1)=true:=decide_eq_true c38
                   clear c38
                   by_cases c39:x6_1 < (l1.length:Int)
                   · rw [if_pos c39] at H
                     have c39b0:decide (x6_1 < (l1.length:Int))=true:=decide_eq_true c39
                     clear c39
                     by_cases c40:x8_3 < (rd l1 x6_1)
                     · rw [if_pos c40] at H
                       have c40b0:decide (x8_3 < (rd l1 x6_1))=true:=decide_eq_true c40
                       clear c40
                       by_cases c41:0 ≤ x8_3
                       · rw [if_pos c41] at H
                         have c41b0:decide (0 ≤ x8_3)=true:=decide_eq_true c41
                         clear c41
                         obtain ⟨ji42,hji42⟩:∃ j_:Int,(wrap64 (((rd_T45 l0_1 x6_1).f0) + x8_3))=j_:=⟨_,rfl⟩
                         replace H:(if 0 ≤ (ji42) then (if (ji42) < (x176000_3.length:Int) then (wageofficeref42_Crash.l1 k3 l1 x6_1 (wrap64 (x8_3 + 1)) l0_0 l0_1 (x176000_3.set ((ji42):Int).toNat (rd ((rd_T45 l0_1 x6_1).f1) x8_3)) ((rd_T45 l0_1 x6_1).f0) ((rd_T45 l0_1 x6_1).f1)) else (none)) else (none))=some (r1,r2):=by first|(rw [hji42] at H;exact H)|(simp only [hji42] at H ⊢;exact H)
                         have hji42w:(IntKind.i64.wrap (((rd_T45 l0_1 x6_1).f0) + x8_3))=ji42:=(i64_w _).trans hji42
                         by_cases c43:0 ≤ (ji42)
                         · rw [if_pos c43] at H
                           have c43b0:decide (0 ≤ (ji42))=true:=decide_eq_true c43
                           clear c43
                           by_cases c44:(ji42) < (x176000_3.length:Int)
                           · rw [if_pos c44] at H
                             have c44b0:decide ((ji42) < (x176000_3.length:Int))=true:=decide_eq_true c44
                             clear c44
                             obtain ⟨y180,hy180⟩:∃ y_:List Int,y_=(x176000_3.set ((ji42):Int).toNat (rd ((rd_T45 l0_1 x6_1).f1) x8_3)):=⟨_,rfl⟩
                             replace H:(wageofficeref42_Crash.l1 k3 l1 x6_1 (wrap64 (x8_3 + 1)) l0_0 l0_1 y180 ((rd_T45 l0_1 x6_1).f0) ((rd_T45 l0_1 x6_1).f1))=some (r1,r2):=by first|(rw [hy180];with_reducible exact H)|(have H2_:=(Option.bind_some _ _).symm.trans H;rw [hy180];with_reducible exact H2_)|(have H2_:=(Option.bind_some _ _).symm.trans H;with_reducible exact H2_)|with_reducible exact H|(rw [hy180];exact H)|exact H
                             have Ny180:=Aside0.mk hy180
                             clear hy180
                             have H':=Aside0.mk H
                             clear H
                             have hnb46:=NB177_169.out
                             have hnc46:=NB169_177.out
                             have hnb47:=NB177_170.out
                             have hnc47:=NB170_177.out
                             have hnb48:=NB177_175.out
                             have hnc48:=NB175_177.out
                             have hcz49_0:wr.cell? ⟨gb177,0,none⟩=some (.int .i64 ((rd_T45 l0_1 x6_1).f0)):=(blk_cell BK177.out 0).trans rfl
                             have hcz49_1:wr.cell? ⟨gb177,1,none⟩=some (.slice A176_1 ((rd_T45 l0_1 x6_1).f1).length c176_1):=(blk_cell BK177.out 1).trans rfl
                             have hfz49_0:=blk_frozen BK177.out 0
                             have hfz49_1:=blk_frozen BK177.out 1
                             have p178:0 ≤ (x6_1:Int):=of_decide_eq_true (by first|(with_reducible assumption)|assumption)
                             have q178:x6_1 < (l1.length:Int):=of_decide_eq_true (by first|(with_reducible assumption)|assumption)
                             obtain ⟨ad178,e178,hx178_0⟩:=Kd.at_int HR1.out x6_1 p178 q178
                             cases e178
                             replace hx178_0:=(HB.out.cell (World.block_lt_of_cell? w _ hx178_0)).trans hx178_0
                             replace p178:=eq_true p178
                             replace q178:=eq_true q178
                             try go_wp2
                             have n0_:=Aside0.mk (Kd.R_drew HO_176000.out)
                             have n1_:=Aside0.mk (blk_drew BK169.out)
                             have n2_:=Aside0.mk (blk_drew BK170.out)
                             have n3_:=Aside0.mk (blk_drew BK175.out)
                             have n4_:=Aside0.mk (blk_drew BK177.out)
                             have n5_:=Aside0.mk (below_drew1 HB.out)
                             clear HO_176000
                             clear BK169
                             clear BK170
                             clear BK175
                             clear BK177
                             clear HB
                             have HO_176000:=n0_
                             have BK169:=n1_
                             have BK170:=n2_
                             have BK175:=n3_
                             have BK177:=n4_
                             have HB:=n5_
                             clear n0_ n1_ n2_ n3_ n4_ n5_
                             have p179:0 ≤ (x8_3:Int):=of_decide_eq_true (by first|(with_reducible assumption)|assumption)
                             have q179:x8_3 < (((rd_T45 l0_1 x6_1).f1).length:Int):=of_decide_eq_true (by first|(with_reducible assumption)|assumption)
                             obtain ⟨ad179,e179,hx179_0⟩:=Kd.at_int HR176_1.out x8_3 p179 q179
                             have hw179_0:=hx179_0
                             cases e179
                             replace hx179_0:=(HB.out.cell (World.block_lt_of_cell? w _ hx179_0)).trans hx179_0
                             replace p179:=eq_true p179
                             replace q179:=eq_true q179
                             have p45:0 ≤ ((ji42):Int):=of_decide_eq_true (by first|(with_reducible assumption)|assumption)
                             have q45:((ji42):Int) < ((x176000_3.length:Int):Int):=of_decide_eq_true (by first|(with_reducible assumption)|assumption)
                             obtain ⟨go45,co45,eo45,gb45,gl45,cl45,HG45⟩:=Kd.R_form HO_176000.out (by omega)
                             (first|cases eo45|(injection eo45 with ea_ en_ ec_;(first|subst ea_|(injection ea_ with ea_;subst ea_));subst ec_;clear en_))
                             have GB45:=Aside0.mk gb45
                             have GG45:=Aside0.mk HG45
                             clear gb45 gl45 HG45
                             obtain ⟨hx45_0,hf45_0⟩:=Kd.R_celln 0 HO_176000.out ((ji42):Int) p45 q45
                             replace p45:=eq_true p45
                             replace q45:=eq_true q45
                             have HP51:=Kd.R_putn HO_176000.out ((ji42):Int) (rd ((rd_T45 l0_1 x6_1).f1) x8_3)
                             rw [← Ny180.out] at HP51
                             have HQ51:=Aside0.mk HP51
                             clear HP51
                             refine start_ (n:=13) (S:=fun w'=>w'.cell? ⟨gb175,0,none⟩=some (.slice (some ⟨go45,0,none⟩) x176000_3.length co45)∧w'.cell? ⟨gb175,1,none⟩=some (.slice none 0 0)∧w'.cell? ⟨gb177,0,none⟩=some (.int .i64 ((rd_T45 l0_1 x6_1).f0))∧w'.cell? ⟨gb177,1,none⟩=some (.slice (some ad179) ((rd_T45 l0_1 x6_1).f1).length c176_1)∧w'.cell? (ad179.add (x8_3).toNat)=some (.int .u8 (rd ((rd_T45 l0_1 x6_1).f1) x8_3))) (ds:=[12]) #[false,false,false,false,false,false,false,false,false,false,false,false,false] (by kernel_rfl) rfl rfl ⟨(blk_cell BK175.out 0).trans rfl,(blk_cell BK175.out 1).trans rfl,(blk_cell BK177.out 0).trans rfl,(blk_cell BK177.out 1).trans rfl,((HB.out.cell (World.block_lt_of_cell? w _ hw179_0)).trans hw179_0)⟩ (fun hHeld => ?_);refine with_tabW wageofficeref42_Crash.tab11 wageofficeref42_Crash.bits11 (fun HT_ HW_ => ?_)
                             generalize wr.drew=w50 at HO_176000 BK169 BK170 BK175 BK177 HB GG45 HQ51 hf45_0 hx179_0 hx45_0 hHeld ⊢
                             refine pure_ (i:=0) (N:=some 50) (v:=?_) (a':=?_) #[true,false,false,false,false,false,false,false,false,false,false,false,false] rfl rfl (any_of HT_.out (by kernel_rfl)) (fun _ _ _ h=>h) (Or.inl ⟨by rfl,?_⟩) ?_ ?_
                             rotate_left
                             · intro w'
                               go_simp
                               with_reducible rfl
                             rotate_left
                             · simp only [Act.put,List.setIfInBounds_toArray,List.set_cons_zero,List.set_cons_succ,i64_w,i32_w]
                               rfl
                             refine pure_ (i:=2) (N:=some 52) (v:=?_) (a':=?_) #[true,false,true,false,false,false,false,false,false,false,false,false,false] rfl rfl (any_of HT_.out (by kernel_rfl)) (fun _ _ _ h=>h) (Or.inl ⟨by rfl,?_⟩) ?_ ?_
                             rotate_left
                             · intro w'
                               go_simp
                               with_reducible rfl
                             rotate_left
                             · simp only [Act.put,List.setIfInBounds_toArray,List.set_cons_zero,List.set_cons_succ,i64_w,i32_w]
                               rfl
                             refine pure_ (i:=4) (N:=some 54) (v:=?_) (a':=?_) #[true,false,true,false,true,false,false,false,false,false,false,false,false] rfl rfl (any_of HT_.out (by kernel_rfl)) (fun _ _ _ h=>h) (Or.inl ⟨by rfl,?_⟩) ?_ ?_
                             rotate_left
                             · intro w'
                               go_simp
                               with_reducible rfl
                             rotate_left
                             · simp only [Act.put,List.setIfInBounds_toArray,List.set_cons_zero,List.set_cons_succ,i64_w,i32_w]
                               rfl
                             refine pure_ (i:=6) (N:=some 56) (v:=?_) (a':=?_) #[true,false,true,false,true,false,true,false,false,false,false,false,false] rfl rfl (any_of HT_.out (by kernel_rfl)) (fun _ _ _ h=>h) (Or.inl ⟨by rfl,?_⟩) ?_ ?_
                             rotate_left
                             · intro w'
                               go_simp
                               with_reducible rfl
                             rotate_left
                             · simp only [Act.put,List.setIfInBounds_toArray,List.set_cons_zero,List.set_cons_succ,i64_w,i32_w]
                               rfl
                             refine pure_ (i:=8) (N:=some 58) (v:=?_) (a':=?_) #[true,false,true,false,true,false,true,false,true,false,false,false,false] rfl rfl (any_of HT_.out (by kernel_rfl)) (fun _ _ _ h=>h) (Or.inl ⟨by rfl,?_⟩) ?_ ?_
                             rotate_left
                             · intro w'
                               go_simp
                               with_reducible rfl
                             rotate_left
                             · simp only [Act.put,List.setIfInBounds_toArray,List.set_cons_zero,List.set_cons_succ,i64_w,i32_w]
                               rfl
                             refine take_ (i:=1) (N:=some 51) (v:=?_) (a':=?_) #[true,true,true,false,true,false,true,false,true,false,false,false,false] rfl rfl (take_ofW HT_.out HW_.out (by kernel_rfl)) (fun _ _ _ h=>h) (Or.inl ⟨by rfl,?_⟩) hHeld ?_ ?_
                             rotate_left
                             · rintro w' ⟨s0,s1,s2,s3,s4⟩
                               go_simp
                               with_reducible rfl
                             rotate_left
                             · simp only [Act.put,List.setIfInBounds_toArray,List.set_cons_zero,List.set_cons_succ,i64_w,i32_w]
                               rfl
                             refine take_ (i:=3) (N:=some 53) (v:=?_) (a':=?_) #[true,true,true,true,true,false,true,false,true,false,false,false,false] rfl rfl (take_ofW HT_.out HW_.out (by kernel_rfl)) (fun _ _ _ h=>h) (Or.inl ⟨by rfl,?_⟩) hHeld ?_ ?_
                             rotate_left
                             · rintro w' ⟨s0,s1,s2,s3,s4⟩
                               go_simp
                               with_reducible rfl
                             rotate_left
                             · simp only [Act.put,List.setIfInBounds_toArray,List.set_cons_zero,List.set_cons_succ,i64_w,i32_w]
                               rfl
                             refine pure_ (i:=5) (N:=some 55) (v:=?_) (a':=?_) #[true,true,true,true,true,true,true,false,true,false,false,false,false] rfl rfl (any_of HT_.out (by kernel_rfl)) (fun _ _ _ h=>h) (Or.inl ⟨by rfl,?_⟩) ?_ ?_
                             rotate_left
                             · intro w'
                               go_simp
                               with_reducible rfl
                             rotate_left
                             · simp only [Act.put,List.setIfInBounds_toArray,List.set_cons_zero,List.set_cons_succ,i64_w,i32_w]
                               rfl
                             refine take_ (i:=7) (N:=some 57) (v:=?_) (a':=?_) #[true,true,true,true,true,true,true,true,true,false,false,false,false] rfl rfl (take_ofW HT_.out HW_.out (by kernel_rfl)) (fun _ _ _ h=>h) (Or.inl ⟨by rfl,?_⟩) hHeld ?_ ?_
                             rotate_left
                             · rintro w' ⟨s0,s1,s2,s3,s4⟩
                               go_simp
                               with_reducible rfl
                             rotate_left
                             · simp only [Act.put,List.setIfInBounds_toArray,List.set_cons_zero,List.set_cons_succ,i64_w,i32_w]
                               rfl
                             refine pure_ (i:=9) (N:=some 59) (v:=?_) (a':=?_) #[true,true,true,true,true,true,true,true,true,true,false,false,false] rfl rfl (any_of HT_.out (by kernel_rfl)) (fun _ _ _ h=>h) (Or.inl ⟨by rfl,?_⟩) ?_ ?_
                             rotate_left
                             · intro w'
                               go_simp
                               with_reducible rfl
                             rotate_left
                             · simp only [Act.put,List.setIfInBounds_toArray,List.set_cons_zero,List.set_cons_succ,i64_w,i32_w]
                               rfl
                             refine take_ (i:=10) (N:=some 60) (v:=?_) (a':=?_) #[true,true,true,true,true,true,true,true,true,true,true,false,false] rfl rfl (take_ofW HT_.out HW_.out (by kernel_rfl)) (fun _ _ _ h=>h) (Or.inl ⟨by rfl,?_⟩) hHeld ?_ ?_
                             rotate_left
                             · rintro w' ⟨s0,s1,s2,s3,s4⟩
                               go_simp
                               with_reducible rfl
                             rotate_left
                             · simp only [Act.put,List.setIfInBounds_toArray,List.set_cons_zero,List.set_cons_succ,i64_w,i32_w]
                               rfl
                             refine pure_ (i:=11) (N:=some 61) (v:=?_) (a':=?_) #[true,true,true,true,true,true,true,true,true,true,true,true,false] rfl rfl (any_of HT_.out (by kernel_rfl)) (fun _ _ _ h=>h) (Or.inl ⟨by rfl,?_⟩) ?_ ?_
                             rotate_left
                             · intro w'
                               go_simp
                               with_reducible rfl
                             rotate_left
                             · simp only [Act.put,List.setIfInBounds_toArray,List.set_cons_zero,List.set_cons_succ,i64_w,i32_w]
                               rfl
                             refine last_ (i:=12) (N:=none) #[true,true,true,true,true,true,true,true,true,true,true,true,true] rfl rfl (one_of HT_.out (by kernel_rfl)) (by decide) (fun K hK => ?_)
                             refine skip_ (w1:=?_) (by rfl) rfl ?_ ?_
                             rotate_left
                             · go_simp
                               rfl
                             refine hK.out _ _ ?_
                             clear hK K
                             refine done_ (done_of HT_.out (by kernel_rfl)) ?_
                             try go_wp2
                             go_roundg k3
                             case measure=>have:=HK1.out;have:=HJ17.out;have:=HK3.out;omega
                             case rel=>exact ⟨(wrap64 (x8_3 + 1)),(y180),(.slice (some ⟨go45,0,none⟩) x176000_3.length co45),(by first|rfl|(simp;done)|(simp [*];done)),H',⟨by have:=HK1.out;have:=HJ17.out;have:=HK3.out;omega⟩,⟨by (with_reducible repeat (first|apply Kd.R_alloc|apply Kd.R_drewN|apply Kd.R_drew));exact HQ51.out⟩,⟨by (with_reducible repeat (first|refine blk_drewN ?_ _|refine blk_drew ?_|refine blk_alloc ?_ _));refine blk_far ?_ (by have h_:=Kd.R_ne HO_176000.out BK169.out (by decide);intro e_;exact h_ (by rw [e_];rfl)) _;(with_reducible repeat (first|refine blk_drewN ?_ _|refine blk_drew ?_|refine blk_alloc ?_ _));exact BK169.out⟩,⟨by (with_reducible repeat (first|refine blk_drewN ?_ _|refine blk_drew ?_|refine blk_alloc ?_ _));refine blk_far ?_ (by have h_:=Kd.R_ne HO_176000.out BK170.out (by decide);intro e_;exact h_ (by rw [e_];rfl)) _;(with_reducible repeat (first|refine blk_drewN ?_ _|refine blk_drew ?_|refine blk_alloc ?_ _));exact BK170.out⟩,⟨by (with_reducible repeat (first|refine blk_drewN ?_ _|refine blk_drew ?_|refine blk_alloc ?_ _));refine blk_far ?_ (by have h_:=Kd.R_ne HO_176000.out BK175.out (by decide);intro e_;exact h_ (by rw [e_];rfl)) _;(with_reducible repeat (first|refine blk_drewN ?_ _|refine blk_drew ?_|refine blk_alloc ?_ _));exact BK175.out⟩,⟨by (with_reducible repeat (first|refine blk_drewN ?_ _|refine blk_drew ?_|refine blk_alloc ?_ _));refine blk_far ?_ (by have h_:=Kd.R_ne HO_176000.out BK177.out (by decide);intro e_;exact h_ (by rw [e_];rfl)) _;(with_reducible repeat (first|refine blk_drewN ?_ _|refine blk_drew ?_|refine blk_alloc ?_ _));exact BK177.out⟩,⟨by repeat (first|(with_reducible first|exact HB.out|apply below_alloc|apply pw_below_drewN|apply below_drew1|refine below_set ?_ GB45.out|refine below_set ?_ GE169.out|refine below_set ?_ GE170.out|refine below_set ?_ GE175.out|refine below_set ?_ GE177.out)|exact HB.out)⟩⟩
                           · rw [if_neg c44] at H
                             exact absurd H (by simp)
                         · rw [if_neg c43] at H
                           exact absurd H (by simp)
                       · rw [if_neg c41] at H
                         exact absurd H (by simp)
                     · rw [if_neg c40] at H
                       have c40b0:decide (x8_3 < (rd l1 x6_1))=false:=decide_eq_false c40
                       clear c40
                       have H':=Aside0.mk H
                       clear H
                       have hnb52:=NB177_169.out
                       have hnc52:=NB169_177.out
                       have hnb53:=NB177_170.out
                       have hnc53:=NB170_177.out
                       have hnb54:=NB177_175.out
                       have hnc54:=NB175_177.out
                       have hcz55_0:wr.cell? ⟨gb177,0,none⟩=some (.int .i64 ((rd_T45 l0_1 x6_1).f0)):=(blk_cell BK177.out 0).trans rfl
                       have hcz55_1:wr.cell? ⟨gb177,1,none⟩=some (.slice A176_1 ((rd_T45 l0_1 x6_1).f1).length c176_1):=(blk_cell BK177.out 1).trans rfl
                       have hfz55_0:=blk_frozen BK177.out 0
                       have hfz55_1:=blk_frozen BK177.out 1
                       have p178:0 ≤ (x6_1:Int):=of_decide_eq_true (by first|(with_reducible assumption)|assumption)
                       have q178:x6_1 < (l1.length:Int):=of_decide_eq_true (by first|(with_reducible assumption)|assumption)
                       obtain ⟨ad178,e178,hx178_0⟩:=Kd.at_int HR1.out x6_1 p178 q178
                       cases e178
                       replace hx178_0:=(HB.out.cell (World.block_lt_of_cell? w _ hx178_0)).trans hx178_0
                       replace p178:=eq_true p178
                       replace q178:=eq_true q178
                       go_wp2
                       go_roundg k3
                       case measure=>have:=HK1.out;have:=HJ17.out;have:=HK3.out;omega
                       case rel=>exact ⟨(wrap64 (x6_1 + 1)),(x176000_3),(u176000),(by first|rfl|(simp;done)|(simp [*];done)),H',⟨by have:=HK1.out;have:=HJ17.out;have:=HK3.out;omega⟩,⟨by (with_reducible repeat (first|apply Kd.R_alloc|apply Kd.R_drewN|apply Kd.R_drew));exact HO_176000.out⟩,⟨by (with_reducible repeat (first|refine blk_drewN ?_ _|refine blk_drew ?_|refine blk_alloc ?_ _));exact BK169.out⟩,⟨by (with_reducible repeat (first|refine blk_drewN ?_ _|refine blk_drew ?_|refine blk_alloc ?_ _));exact BK170.out⟩,⟨by (with_reducible repeat (first|refine blk_drewN ?_ _|refine blk_drew ?_|refine blk_alloc ?_ _));exact BK175.out⟩,⟨by repeat (first|(with_reducible first|exact HB.out|apply below_alloc|apply pw_below_drewN|apply below_drew1|refine below_set ?_ GE169.out|refine below_set ?_ GE170.out|refine below_set ?_ GE175.out|refine below_set ?_ GE177.out)|exact HB.out)⟩⟩
                   · rw [if_neg c39] at H
                     exact absurd H (by simp)
                 · rw [if_neg c38] at H
                   exact absurd H (by simp)
               · rw [if_neg c37] at H
                 have c37b0:decide (x8_3 < (((rd_T45 l0_1 x6_1).f1).length:Int))=false:=decide_eq_false c37
                 clear c37
                 have H':=Aside0.mk H
                 clear H
                 have hnb56:=NB177_169.out
                 have hnc56:=NB169_177.out
                 have hnb57:=NB177_170.out
                 have hnc57:=NB170_177.out
                 have hnb58:=NB177_175.out
                 have hnc58:=NB175_177.out
                 have hcz59_0:wr.cell? ⟨gb177,0,none⟩=some (.int .i64 ((rd_T45 l0_1 x6_1).f0)):=(blk_cell BK177.out 0).trans rfl
                 have hcz59_1:wr.cell? ⟨gb177,1,none⟩=some (.slice A176_1 ((rd_T45 l0_1 x6_1).f1).length c176_1):=(blk_cell BK177.out 1).trans rfl
                 have hfz59_0:=blk_frozen BK177.out 0
                 have hfz59_1:=blk_frozen BK177.out 1
                 go_wp2
                 go_roundg k3
                 case measure=>have:=HK1.out;have:=HJ17.out;have:=HK3.out;omega
                 case rel=>exact ⟨(wrap64 (x6_1 + 1)),(x176000_3),(u176000),(by first|rfl|(simp;done)|(simp [*];done)),H',⟨by have:=HK1.out;have:=HJ17.out;have:=HK3.out;omega⟩,⟨by (with_reducible repeat (first|apply Kd.R_alloc|apply Kd.R_drewN|apply Kd.R_drew));exact HO_176000.out⟩,⟨by (with_reducible repeat (first|refine blk_drewN ?_ _|refine blk_drew ?_|refine blk_alloc ?_ _));exact BK169.out⟩,⟨by (with_reducible repeat (first|refine blk_drewN ?_ _|refine blk_drew ?_|refine blk_alloc ?_ _));exact BK170.out⟩,⟨by (with_reducible repeat (first|refine blk_drewN ?_ _|refine blk_drew ?_|refine blk_alloc ?_ _));exact BK175.out⟩,⟨by repeat (first|(with_reducible first|exact HB.out|apply below_alloc|apply pw_below_drewN|apply below_drew1|refine below_set ?_ GE169.out|refine below_set ?_ GE170.out|refine below_set ?_ GE175.out|refine below_set ?_ GE177.out)|exact HB.out)⟩⟩
           · rw [if_neg c28] at H
             exact absurd H (by simp)
         · rw [if_neg c27] at H
           exact absurd H (by simp)
       · replace c26:=Bool.eq_false_iff.mpr c26
         subst c26
         have H1:(some (x176000_1,([]:List (S45))))=some (r1,r2):=by rw [if_neg (show ¬ (false=true) by decide)] at H;exact H
         clear H
         have H:=H1
         clear H1
         simp only [Option.some.injEq,Prod.mk.injEq] at H
         obtain ⟨rfl,rfl⟩:=H
         have hnb60:=NB175_169.out
         have hnc60:=NB169_175.out
         have hnb61:=NB175_170.out
         have hnc61:=NB170_175.out
         have hcz62_0:wc.cell? ⟨gb175,0,none⟩=some (u176000):=(blk_cell BK175.out 0).trans rfl
         have hcz62_1:wc.cell? ⟨gb175,1,none⟩=some (.slice none 0 0):=(blk_cell BK175.out 1).trans rfl
         have hfz62_0:=blk_frozen BK175.out 0
         have hfz62_1:=blk_frozen BK175.out 1
         obtain ⟨Ao63,co63,eo63⟩:=Kd.R_slice HO_176000.out
         subst eo63
         have hnb64:=NB170_169.out
         have hnc64:=NB169_170.out
         have hcz65_0:wc.cell? ⟨gb170,0,none⟩=some (.slice none 0 0):=(blk_cell BK170.out 0).trans rfl
         have hcz65_1:wc.cell? ⟨gb170,1,none⟩=some (.slice none 0 0):=(blk_cell BK170.out 1).trans rfl
         have hfz65_0:=blk_frozen BK170.out 0
         have hfz65_1:=blk_frozen BK170.out 1
         go_wp2
         refine bodyPost_ret (results_cell_row rfl _ _ gb170 25 #[.slice Ao63 x176000_1.length co63,.slice none 0 0] (0,0) _ rfl (by (with_reducible repeat (first|refine blk_drewN ?_ _|refine blk_drew ?_|refine blk_alloc ?_ _));refine blk_put (cs:=#[.slice Ao63 x176000_1.length co63,.slice none 0 0]) ?_ 1 _ rfl;(with_reducible repeat (first|refine blk_drewN ?_ _|refine blk_drew ?_|refine blk_alloc ?_ _));refine blk_put (cs:=#[.slice none 0 0,.slice none 0 0]) ?_ 0 _ rfl;(with_reducible repeat (first|refine blk_drewN ?_ _|refine blk_drew ?_|refine blk_alloc ?_ _));exact BK170.out) Try.underlying25 rfl (by kernel_rfl)) rfl ?_
         exact ⟨_,_,by first|rfl|(simp [errW_none,errW_some] <;> rfl)|(simp [*,errW_none,errW_some] <;> rfl),by (with_reducible repeat (first|apply Kd.R_alloc|apply Kd.R_drewN|apply Kd.R_drew));exact Kd.R_mono (Kd.R_far (p:=⟨gb170,1,none⟩) (Kd.R_far (p:=⟨gb170,0,none⟩) (Kd.R_types HO_176000.out BK170.out (by decide)) (fun _ hk=>hk.2) (.slice Ao63 x176000_1.length co63)) (fun _ hk=>hk.2) (.slice none 0 0)) (fun _ hk=>trivial),by first|exact Kd.S_nil _ _ _ _ _|exact Kd.N_nil _ _ _ _ _|exact Kd.V_nil _ _ _ _ _|exact Kd.Q_nil _ _ _ _ _|exact Kd.R_nil _ _ _ _ _,by repeat (first|(with_reducible first|exact HB.out|apply below_alloc|apply pw_below_drewN|apply below_drew1|refine below_set ?_ GE169.out|refine below_set ?_ GE170.out|refine below_set ?_ GE175.out)|exact HB.out)⟩
 · replace c4:=Bool.eq_false_iff.mpr c4
   subst c4
   have H1:(some (([]:List Int),([]:List (S45))))=some (r1,r2):=by rw [if_neg (show ¬ (false=true) by decide)] at H;exact H
   clear H
   have H:=H1
   clear H1
   simp only [Option.some.injEq,Prod.mk.injEq] at H
   obtain ⟨rfl,rfl⟩:=H
   go_enter Try.func29,Try.ntmps29
   go_wp2_with (first|((with_reducible refine gate_dst (N:=2) rfl ?_);(try (refine gate_guard (by rfl) ?_;dsimp only));refine box_event ?hg (N:=2) ?hd (cs:=#[.slice A0_0 l0_0.length c0_0,.slice A0_1 l0_1.length c0_1]) (t:=25) ?hr ?_;(case hd=>rfl);(case hg=>rfl);(case hr=>first|(go_simp;done)|(go_simp;rfl));intro gb169 hg w66 hbox hb;have n0_:=Aside0.mk (below_step (by repeat (first|(with_reducible first|exact HB.out|apply below_alloc|apply pw_below_drewN|apply below_drew1)|exact HB.out)) hb);have n1_:=Aside0.mk (hbox);have n2_:=Aside0.mk ((by rw [hg];exact (below_size (by repeat (first|(with_reducible first|exact HB.out|apply below_alloc|apply pw_below_drewN|apply below_drew1)|exact HB.out))):w.heap.size ≤ gb169));have n3_:=Aside0.mk ((by rw [hg];exact (below_size (by repeat (first|(with_reducible first|exact HB.out|apply below_alloc|apply pw_below_drewN|apply below_drew1)|exact HB.out))):w.heap.size ≤ gb169));clear HB;have HB:=n0_;have BK169:=n1_;have GW169:=n2_;have GE169:=n3_;clear n0_ n1_ n2_ n3_;clear hb hbox hg)|((with_reducible refine gate_dst (N:=4) rfl ?_);(try (refine gate_guard (by rfl) ?_;dsimp only));refine box_event ?hg (N:=4) ?hd (cs:=#[.slice none 0 0,.slice none 0 0]) (t:=25) ?hr ?_;(case hd=>rfl);(case hg=>rfl);(case hr=>first|(go_simp;done)|(go_simp;rfl));intro gb170 hg w67 hbox hb;have n0_:=Aside0.mk (blk_below (g:=gb169) (o:=.cells #[.slice A0_0 l0_0.length c0_0,.slice A0_1 l0_1.length c0_1] 25 (0,0)) (by (with_reducible repeat (first|refine blk_drewN ?_ _|refine blk_drew ?_|refine blk_alloc ?_ _));exact BK169.out) hb);have n1_:=Aside0.mk (below_step (by repeat (first|(with_reducible first|exact HB.out|apply below_alloc|apply pw_below_drewN|apply below_drew1|refine below_set ?_ GE169.out)|exact HB.out)) hb);have n2_:=Aside0.mk (hbox);have n3_:=Aside0.mk ((by rw [hg];exact (below_size (by repeat (first|(with_reducible first|exact HB.out|apply below_alloc|apply pw_below_drewN|apply below_drew1|refine below_set ?_ GE169.out)|exact HB.out))):w.heap.size ≤ gb170));have n4_:=Aside0.mk ((by rw [hg];exact (below_size (by repeat (first|(with_reducible first|exact HB.out|apply below_alloc|apply pw_below_drewN|apply below_drew1|refine below_set ?_ GE169.out)|exact HB.out))):w.heap.size ≤ gb170));have n5_:=Aside0.mk ((by rw [hg];exact Nat.ne_of_lt (blk_lt (g:=gb169) (o:=.cells #[.slice A0_0 l0_0.length c0_0,.slice A0_1 l0_1.length c0_1] 25 (0,0)) (by (with_reducible repeat (first|refine blk_drewN ?_ _|refine blk_drew ?_|refine blk_alloc ?_ _));exact BK169.out)):gb169 ≠ gb170));have n6_:=Aside0.mk ((by rw [hg];exact Nat.ne_of_gt (blk_lt (g:=gb169) (o:=.cells #[.slice A0_0 l0_0.length c0_0,.slice A0_1 l0_1.length c0_1] 25 (0,0)) (by (with_reducible repeat (first|refine blk_drewN ?_ _|refine blk_drew ?_|refine blk_alloc ?_ _));exact BK169.out)):gb170 ≠ gb169));clear BK169;clear HB;have BK169:=n0_;have HB:=n1_;have BK170:=n2_;have GW170:=n3_;have GE170:=n4_;have NB169_170:=n5_;have NB170_169:=n6_;clear n0_ n1_ n2_ n3_ n4_ n5_ n6_;clear hb hbox hg;have hnb68:=NB169_170.out;have hnc68:=NB170_169.out;have hcz69_0:w67.cell? ⟨gb169,0,none⟩=some (.slice A0_0 l0_0.length c0_0):=(blk_cell BK169.out 0).trans rfl;have hcz69_1:w67.cell? ⟨gb169,1,none⟩=some (.slice A0_1 l0_1.length c0_1):=(blk_cell BK169.out 1).trans rfl;have hfz69_0:=blk_frozen BK169.out 0;have hfz69_1:=blk_frozen BK169.out 1)|((with_reducible refine gate_callee (f:=31) rfl ?_);refine goesL_ (some 10) rfl rfl Try.func31 (by kernel_rfl) rfl #[.agg #[.slice A0_0 l0_0.length c0_0,.slice A0_1 l0_1.length c0_1]] rfl (by (try simp only [List.map_toArray,List.map_cons,List.map_nil]);first|done|rfl|(simp only [List.length_drop,List.length_take];rfl)) ?_;(with_reducible refine (wageofficeref42_Valid.calls k _ _ l0_0 _ _ l0_1 false _ ?side1 ?side2 ?side3 ?side4 A3.out).mono ?_);(case side1=>repeat (first|exact (Kd.C_below HR0_0.out HB.out)|(with_reducible refine Kd.C_alloc ?_ _)|(with_reducible refine Kd.C_drewN ?_ _)|(with_reducible refine Kd.C_drew ?_)));(case side2=>exact HC0_0.out);(case side3=>repeat (first|exact (Kd.C_below HR0_1.out HB.out)|(with_reducible refine Kd.C_alloc ?_ _)|(with_reducible refine Kd.C_drewN ?_ _)|(with_reducible refine Kd.C_drew ?_)));(case side4=>exact HC0_1.out);rintro e w70 ⟨rfl,hb⟩;refine ⟨_,rfl,?_⟩;have n0_:=Aside0.mk (blk_below (g:=gb169) (o:=.cells #[.slice A0_0 l0_0.length c0_0,.slice A0_1 l0_1.length c0_1] 25 (0,0)) (by (with_reducible repeat (first|refine blk_drewN ?_ _|refine blk_drew ?_|refine blk_alloc ?_ _));exact BK169.out) hb);have n1_:=Aside0.mk (blk_below (g:=gb170) (o:=.cells #[.slice none 0 0,.slice none 0 0] 25 (0,0)) (by (with_reducible repeat (first|refine blk_drewN ?_ _|refine blk_drew ?_|refine blk_alloc ?_ _));exact BK170.out) hb);have n2_:=Aside0.mk (below_step (by repeat (first|(with_reducible first|exact HB.out|apply below_alloc|apply pw_below_drewN|apply below_drew1|refine below_set ?_ GE169.out|refine below_set ?_ GE170.out)|exact HB.out)) hb);clear BK169;clear BK170;clear HB;have BK169:=n0_;have BK170:=n1_;have HB:=n2_;clear n0_ n1_ n2_;(try clear hb);(try clear hb2);(try clear hk);(try clear hi);have hcz71_0:w70.cell? ⟨gb170,0,none⟩=some (.slice none 0 0):=(blk_cell BK170.out 0).trans rfl;have hcz71_1:w70.cell? ⟨gb170,1,none⟩=some (.slice none 0 0):=(blk_cell BK170.out 1).trans rfl;have hfz71_0:=blk_frozen BK170.out 0;have hfz71_1:=blk_frozen BK170.out 1))
   refine bodyPost_ret (results_cell_row rfl _ _ gb170 25 #[.slice none 0 0,.slice none 0 0] (0,0) _ rfl (by (with_reducible repeat (first|refine blk_drewN ?_ _|refine blk_drew ?_|refine blk_alloc ?_ _));refine blk_put (cs:=#[.slice none 0 0,.slice none 0 0]) ?_ 1 _ rfl;(with_reducible repeat (first|refine blk_drewN ?_ _|refine blk_drew ?_|refine blk_alloc ?_ _));refine blk_put (cs:=#[.slice none 0 0,.slice none 0 0]) ?_ 0 _ rfl;(with_reducible repeat (first|refine blk_drewN ?_ _|refine blk_drew ?_|refine blk_alloc ?_ _));exact BK170.out) Try.underlying25 rfl (by kernel_rfl)) rfl ?_
   exact ⟨_,_,by first|rfl|(simp [errW_none,errW_some] <;> rfl)|(simp [*,errW_none,errW_some] <;> rfl),by first|exact Kd.R_nil _ _ _ _ _|exact Kd.N_nil _ _ _ _ _|exact Kd.V_nil _ _ _ _ _|exact Kd.Q_nil _ _ _ _ _|exact Kd.S_nil _ _ _ _ _,by first|exact Kd.S_nil _ _ _ _ _|exact Kd.N_nil _ _ _ _ _|exact Kd.V_nil _ _ _ _ _|exact Kd.Q_nil _ _ _ _ _|exact Kd.R_nil _ _ _ _ _,by repeat (first|(with_reducible first|exact HB.out|apply below_alloc|apply pw_below_drewN|apply below_drew1|refine below_set ?_ GE169.out|refine below_set ?_ GE170.out)|exact HB.out)⟩
def wageofficeref42_Sync.l0:Nat→List Int→Int→List Int→List (S45)→Option (List Int × (List (S45)))
 | 0,_,_,_,_=>none
 | k + 1,x3,x4,x182000,x182001=>if x4 < (x182001.length:Int) then (if x4 ≤ 64 then (if 0 ≤ x4 then (if x3.length < 17592186044416 then (wageofficeref42_Sync.l0 k (x3 ++ [(((rd_T45 x182001 x4).f1).length:Int)]) (wrap64 (x4 + 1)) x182000 x182001) else (none)) else (none)) else ((wageofficeref42_Crash.f k x182000 x182001 x3).bind fun bt187=>(some (bt187.1,bt187.2)))) else ((wageofficeref42_Crash.f k x182000 x182001 x3).bind fun bt193=>(some (bt193.1,bt193.2)))
def wageofficeref42_Sync.f (k:Nat) (l0_0:List Int) (l0_1:List (S45)):Option (List Int × (List (S45))):=wageofficeref42_Sync.l0 k ([]:List Int) 0 l0_0 l0_1
set_option maxHeartbeats 8000000 in
set_option maxRecDepth 100000 in
theorem wageofficeref42_Sync.calls (k:Nat) (A0_0:Option Addr) (c0_0:Nat) (l0_0:List Int) (A0_1:Option Addr) (c0_1:Nat) (l0_1:List (S45)) (r1:List Int) (r2:List (S45)) (w:World) (hr0_0:Kd.C (Kd.int .u8) w A0_0 l0_0.length l0_0) (hc0_0:l0_0.length ≤ c0_0) (hr0_1:Kd.C k45 w A0_1 l0_1.length l0_1) (hc0_1:l0_1.length ≤ c0_1) (h:wageofficeref42_Sync.f k l0_0 l0_1=some (r1,r2)) :
 Calls Try.prog 27 #[.agg #[.slice A0_0 l0_0.length c0_0,.slice A0_1 l0_1.length c0_1]] w fun e w'=>∃ v0_ v1_:Value,e=.returned (.agg #[v0_,v1_])∧Kd.R (Kd.int .u8) 5 w' w.heap.size (fun _=>True) v0_ r1∧Kd.S k45 45 w' w.heap.size (fun k_=>some k_ ≠ (v0_:Value).ownBlock) v1_ r2∧Below w.heap.size w w':=by
 have hu25:=Try.underlying25
 have HR0_0:=Aside0.mk hr0_0
 have HC0_0:=Aside0.mk hc0_0
 clear hr0_0 hc0_0
 have HR0_1:=Aside0.mk hr0_1
 have HC0_1:=Aside0.mk hc0_1
 clear hr0_1 hc0_1
 have HB:=Aside0.mk (Below.refl w.heap.size w)
 have H:(wageofficeref42_Sync.l0 k ([]:List Int) 0 l0_0 l0_1)=some (r1,r2):=h
 clear h
 have H':=Aside0.mk H
 clear H
 go_enter Try.func27,Try.ntmps27
 go_wp2_with (first|((with_reducible refine gate_dst (N:=1) rfl ?_);refine box_event ?hg (N:=1) ?hd (cs:=#[.slice A0_0 l0_0.length c0_0,.slice A0_1 l0_1.length c0_1]) (t:=25) ?hr ?_;(case hd=>rfl);(case hg=>rfl);(case hr=>first|(go_simp;done)|(go_simp;rfl));intro gb181 hg w2 hbox hb;have n0_:=Aside0.mk (below_step (by repeat (first|(with_reducible first|exact HB.out|apply below_alloc|apply pw_below_drewN|apply below_drew1)|exact HB.out)) hb);have n1_:=Aside0.mk (hbox);have n2_:=Aside0.mk ((by rw [hg];exact (below_size (by repeat (first|(with_reducible first|exact HB.out|apply below_alloc|apply pw_below_drewN|apply below_drew1)|exact HB.out))):w.heap.size ≤ gb181));have n3_:=Aside0.mk ((by rw [hg];exact (below_size (by repeat (first|(with_reducible first|exact HB.out|apply below_alloc|apply pw_below_drewN|apply below_drew1)|exact HB.out))):w.heap.size ≤ gb181));clear HB;have HB:=n0_;have BK181:=n1_;have GW181:=n2_;have GE181:=n3_;clear n0_ n1_ n2_ n3_;clear hb hbox hg)|((with_reducible refine gate_dst (N:=2) rfl ?_);refine box_event ?hg (N:=2) ?hd (cs:=#[.slice none 0 0,.slice none 0 0]) (t:=25) ?hr ?_;(case hd=>rfl);(case hg=>rfl);(case hr=>first|(go_simp;done)|(go_simp;rfl));intro gb182 hg w3 hbox hb;have n0_:=Aside0.mk (blk_below (g:=gb181) (o:=.cells #[.slice A0_0 l0_0.length c0_0,.slice A0_1 l0_1.length c0_1] 25 (0,0)) (by (with_reducible repeat (first|refine blk_drewN ?_ _|refine blk_drew ?_|refine blk_alloc ?_ _));exact BK181.out) hb);have n1_:=Aside0.mk (below_step (by repeat (first|(with_reducible first|exact HB.out|apply below_alloc|apply pw_below_drewN|apply below_drew1|refine below_set ?_ GE181.out)|exact HB.out)) hb);have n2_:=Aside0.mk (hbox);have n3_:=Aside0.mk ((by rw [hg];exact (below_size (by repeat (first|(with_reducible first|exact HB.out|apply below_alloc|apply pw_below_drewN|apply below_drew1|refine below_set ?_ GE181.out)|exact HB.out))):w.heap.size ≤ gb182));have n4_:=Aside0.mk ((by rw [hg];exact (below_size (by repeat (first|(with_reducible first|exact HB.out|apply below_alloc|apply pw_below_drewN|apply below_drew1|refine below_set ?_ GE181.out)|exact HB.out))):w.heap.size ≤ gb182));have n5_:=Aside0.mk ((by rw [hg];exact Nat.ne_of_lt (blk_lt (g:=gb181) (o:=.cells #[.slice A0_0 l0_0.length c0_0,.slice A0_1 l0_1.length c0_1] 25 (0,0)) (by (with_reducible repeat (first|refine blk_drewN ?_ _|refine blk_drew ?_|refine blk_alloc ?_ _));exact BK181.out)):gb181 ≠ gb182));have n6_:=Aside0.mk ((by rw [hg];exact Nat.ne_of_gt (blk_lt (g:=gb181) (o:=.cells #[.slice A0_0 l0_0.length c0_0,.slice A0_1 l0_1.length c0_1] 25 (0,0)) (by (with_reducible repeat (first|refine blk_drewN ?_ _|refine blk_drew ?_|refine blk_alloc ?_ _));exact BK181.out)):gb182 ≠ gb181));clear BK181;clear HB;have BK181:=n0_;have HB:=n1_;have BK182:=n2_;have GW182:=n3_;have GE182:=n4_;have NB181_182:=n5_;have NB182_181:=n6_;clear n0_ n1_ n2_ n3_ n4_ n5_ n6_;clear hb hbox hg))
 go_loopg [3,4] k (fun kq v3 v4 w'=>∃ (x3_1:List Int) (x4_1:Int),v4=.int .i64 x4_1∧Aside0 (wageofficeref42_Sync.l0 kq x3_1 x4_1 l0_0 l0_1=some (r1,r2))∧Aside0 (kq ≤ k)∧Aside0 (Kd.R (Kd.int .i64) 3 w' w.heap.size (fun _=>True) v3 x3_1)∧Aside0 (w'.heap[gb181]? = some (.cells #[(.slice A0_0 l0_0.length c0_0),(.slice A0_1 l0_1.length c0_1)] 25 (0,0)))∧Aside0 (w'.heap[gb182]? = some (.cells #[(.slice none 0 0),(.slice none 0 0)] 25 (0,0)))∧Aside0 (Below w.heap.size w w'))
 case atStart=>exact ⟨(([]:List Int)),(0),(by first|rfl|(simp;done)|(simp [*];done)),H',⟨Nat.le_refl _⟩,⟨by first|exact Kd.R_nil _ _ _ _ _|exact Kd.N_nil _ _ _ _ _|exact Kd.V_nil _ _ _ _ _|exact Kd.Q_nil _ _ _ _ _|exact Kd.S_nil _ _ _ _ _⟩,⟨by (with_reducible repeat (first|refine blk_drewN ?_ _|refine blk_drew ?_|refine blk_alloc ?_ _));exact BK181.out⟩,⟨by (with_reducible repeat (first|refine blk_drewN ?_ _|refine blk_drew ?_|refine blk_alloc ?_ _));exact BK182.out⟩,⟨by repeat (first|(with_reducible first|exact HB.out|apply below_alloc|apply pw_below_drewN|apply below_drew1|refine below_set ?_ GE181.out|refine below_set ?_ GE182.out)|exact HB.out)⟩⟩
 case round =>
  clear H'
  try clear c2
  try clear p2
  obtain ⟨x3_1,x4_1,rfl,HA,HK1,HO_3,BK181,BK182,HB⟩:=hrel
  cases gk with
  | zero=>exact absurd HA.out (by simp [wageofficeref42_Sync.l0])
  | succ k1 =>
   have H:=HA.out
   clear HA
   simp only [wageofficeref42_Sync.l0] at H
   by_cases c4:x4_1 < (l0_1.length:Int)
   · rw [if_pos c4] at H
     have c4b0:decide (x4_1 < (l0_1.length:Int))=true:=decide_eq_true c4
     clear c4
     by_cases c5:x4_1 ≤ 64
     · rw [if_pos c5] at H
       have c5b0:decide (x4_1 ≤ 64)=true:=decide_eq_true c5
       clear c5
       by_cases c6:0 ≤ x4_1
       · rw [if_pos c6] at H
         have c6b0:decide (0 ≤ x4_1)=true:=decide_eq_true c6
         clear c6
         by_cases c7:x3_1.length < 17592186044416
         · rw [if_pos c7] at H
           have LMc7:=Aside0.mk c7
           clear c7
           obtain ⟨y184,hy184⟩:∃ y_:List Int,y_=(x3_1 ++ [(((rd_T45 l0_1 x4_1).f1).length:Int)]):=⟨_,rfl⟩
           replace H:(wageofficeref42_Sync.l0 k1 y184 (wrap64 (x4_1 + 1)) l0_0 l0_1)=some (r1,r2):=by first|(rw [hy184];with_reducible exact H)|(have H2_:=(Option.bind_some _ _).symm.trans H;rw [hy184];with_reducible exact H2_)|(have H2_:=(Option.bind_some _ _).symm.trans H;with_reducible exact H2_)|with_reducible exact H|(rw [hy184];exact H)|exact H
           have Ny184:=Aside0.mk hy184
           clear hy184
           have H':=Aside0.mk H
           clear H
           have hnb8:=NB181_182.out
           have hnc8:=NB182_181.out
           have hcz9_0:wr.cell? ⟨gb181,0,none⟩=some (.slice A0_0 l0_0.length c0_0):=(blk_cell BK181.out 0).trans rfl
           have hcz9_1:wr.cell? ⟨gb181,1,none⟩=some (.slice A0_1 l0_1.length c0_1):=(blk_cell BK181.out 1).trans rfl
           have hfz9_0:=blk_frozen BK181.out 0
           have hfz9_1:=blk_frozen BK181.out 1
           have p183:0 ≤ (x4_1:Int):=of_decide_eq_true (by first|(with_reducible assumption)|assumption)
           have q183:x4_1 < (l0_1.length:Int):=of_decide_eq_true (by first|(with_reducible assumption)|assumption)
           obtain ⟨ad183,A183_1,c183_1,e183,hx183_0,hx183_1,hl183_1,hi183_1⟩:=at_T45 HR0_1.out x4_1 p183 q183
           cases e183
           replace hx183_0:=(HB.out.cell (World.block_lt_of_cell? w _ hx183_0)).trans hx183_0
           replace hx183_1:=(HB.out.cell (World.block_lt_of_cell? w _ hx183_1)).trans hx183_1
           have HR183_1:=Aside0.mk hi183_1
           have HC183_1:=Aside0.mk hl183_1
           clear hi183_1 hl183_1
           replace p183:=eq_true p183
           replace q183:=eq_true q183
           go_wp2_with (first|((with_reducible refine gate_builtin (b:=.append) (xs:=#[.tmp 16,.tmp 24]) rfl ?_);at_builtin;refine Kd.R_append (Kd.int .i64) (w0:=w) w.heap.size rfl (.tmp 16) (.tmp 24) 26 3 (.int .i64 0) 8 rfl Try.underlying26 info3 rfl (by decide) (by omega) u3 x3_1 (((rd_T45 l0_1 x4_1).f1).length:Int) [.int .i64 (((rd_T45 l0_1 x4_1).f1).length:Int)] (fun _=>True) (fun _=>False) rfl rfl ?aP (fun _ hk=>hk.elim) ?aF ?aO ?aB ?aS ?aL ?_;(case aP=>exact rfl);(case aB=>exact (by repeat (first|(with_reducible first|exact HB.out|apply below_alloc|apply pw_below_drewN|apply below_drew1|refine below_set ?_ GE181.out|refine below_set ?_ GE182.out)|exact HB.out)));(case aF=>exact (fun _ _=>trivial));(case aO=>exact (by (with_reducible repeat (first|apply Kd.R_alloc|apply Kd.R_drewN|apply Kd.R_drew));exact HO_3.out));(case aS=>exact (below_size (by repeat (first|(with_reducible first|exact HB.out|apply below_alloc|apply pw_below_drewN|apply below_drew1|refine below_set ?_ GE181.out|refine below_set ?_ GE182.out)|exact HB.out))));(case aL=>have:=LMc7.out;omega);intro v185 w10 ho hb hg hat;rw [← Ny184.out] at ho;have n0_:=Aside0.mk (blk_grown (g:=gb181) (o:=.cells #[.slice A0_0 l0_0.length c0_0,.slice (some ad183) l0_1.length c0_1] 25 (0,0)) (by (with_reducible repeat (first|refine blk_drewN ?_ _|refine blk_drew ?_|refine blk_alloc ?_ _));exact BK181.out) hg (Kd.R_ne HO_3.out BK181.out (by decide)));have n1_:=Aside0.mk (blk_grown (g:=gb182) (o:=.cells #[.slice none 0 0,.slice none 0 0] 25 (0,0)) (by (with_reducible repeat (first|refine blk_drewN ?_ _|refine blk_drew ?_|refine blk_alloc ?_ _));exact BK182.out) hg (Kd.R_ne HO_3.out BK182.out (by decide)));have n2_:=Aside0.mk (hb);have n3_:=Aside0.mk (ho);clear BK181;clear BK182;clear HB;clear HO_3;have BK181:=n0_;have BK182:=n1_;have HB:=n2_;have HO186:=n3_;clear n0_ n1_ n2_ n3_;clear ho hb hg hat))
           go_roundg k1
           case measure=>have:=HK1.out;omega
           case rel=>exact ⟨(y184),(wrap64 (x4_1 + 1)),(by first|rfl|(simp;done)|(simp [*];done)),H',⟨by have:=HK1.out;omega⟩,⟨by (with_reducible repeat (first|apply Kd.R_alloc|apply Kd.R_drewN|apply Kd.R_drew));exact HO186.out⟩,⟨by (with_reducible repeat (first|refine blk_drewN ?_ _|refine blk_drew ?_|refine blk_alloc ?_ _));exact BK181.out⟩,⟨by (with_reducible repeat (first|refine blk_drewN ?_ _|refine blk_drew ?_|refine blk_alloc ?_ _));exact BK182.out⟩,⟨by repeat (first|(with_reducible first|exact HB.out|apply below_alloc|apply pw_below_drewN|apply below_drew1|refine below_set ?_ GE181.out|refine below_set ?_ GE182.out)|exact HB.out)⟩⟩
         · rw [if_neg c7] at H
           exact absurd H (by simp)
       · rw [if_neg c6] at H
         exact absurd H (by simp)
     · rw [if_neg c5] at H
       have c5b0:decide (x4_1 ≤ 64)=false:=decide_eq_false c5
       clear c5
       replace H:=Option.bind_eq_some_iff.mp H
       obtain ⟨⟨t187,t190⟩,A110,H⟩:=H
       replace H:(some (t187,t190))=some (r1,r2):=H
       have A11:=Aside0.mk A110
       clear A110
       simp only [Option.some.injEq,Prod.mk.injEq] at H
       obtain ⟨rfl,rfl⟩:=H
       have hnb12:=NB181_182.out
       have hnc12:=NB182_181.out
       have hcz13_0:wr.cell? ⟨gb181,0,none⟩=some (.slice A0_0 l0_0.length c0_0):=(blk_cell BK181.out 0).trans rfl
       have hcz13_1:wr.cell? ⟨gb181,1,none⟩=some (.slice A0_1 l0_1.length c0_1):=(blk_cell BK181.out 1).trans rfl
       have hfz13_0:=blk_frozen BK181.out 0
       have hfz13_1:=blk_frozen BK181.out 1
       obtain ⟨Ao14,co14,eo14⟩:=Kd.R_slice HO_3.out
       subst eo14
       go_wp2_with (first|((with_reducible refine gate_callee (f:=29) rfl ?_);refine goesL_ (some 28) rfl rfl Try.func29 (by kernel_rfl) rfl #[.agg #[.slice A0_0 l0_0.length c0_0,.slice A0_1 l0_1.length c0_1],.slice Ao14 x3_1.length co14] rfl (by (try simp only [List.map_toArray,List.map_cons,List.map_nil]);first|done|rfl|(simp only [List.length_drop,List.length_take];rfl)) ?_;(with_reducible refine (wageofficeref42_Crash.calls k1 _ _ l0_0 _ _ l0_1 _ _ x3_1 t187 t190 _ ?side1 ?side2 ?side3 ?side4 ?side5 ?side6 A11.out).mono ?_);(case side1=>repeat (first|exact (Kd.C_below HR0_0.out HB.out)|(with_reducible refine Kd.C_alloc ?_ _)|(with_reducible refine Kd.C_drewN ?_ _)|(with_reducible refine Kd.C_drew ?_)));(case side2=>exact HC0_0.out);(case side3=>repeat (first|exact (Kd.C_below HR0_1.out HB.out)|(with_reducible refine Kd.C_alloc ?_ _)|(with_reducible refine Kd.C_drewN ?_ _)|(with_reducible refine Kd.C_drew ?_)));(case side4=>exact HC0_1.out);(case side5=>repeat (first|exact (Kd.R_reads' HO_3.out).2.2|(with_reducible refine Kd.C_alloc ?_ _)|(with_reducible refine Kd.C_drewN ?_ _)|(with_reducible refine Kd.C_drew ?_)));(case side6=>exact (Kd.R_reads' HO_3.out).2.1);rintro e w15 ⟨v188,v191,rfl,ho0,ho1,hb⟩;refine ⟨_,rfl,?_⟩;have n0_:=Aside0.mk (Kd.R_below (by (with_reducible repeat (first|apply Kd.R_alloc|apply Kd.R_drewN|apply Kd.R_drew));exact HO_3.out) hb);have n1_:=Aside0.mk (Kd.R_lower ho0 (below_size (by repeat (first|(with_reducible first|exact HB.out|apply below_alloc|apply pw_below_drewN|apply below_drew1|refine below_set ?_ GE181.out|refine below_set ?_ GE182.out)|exact HB.out))));have n2_:=Aside0.mk (Kd.S_lower ho1 (below_size (by repeat (first|(with_reducible first|exact HB.out|apply below_alloc|apply pw_below_drewN|apply below_drew1|refine below_set ?_ GE181.out|refine below_set ?_ GE182.out)|exact HB.out))));have n3_:=Aside0.mk (blk_below (g:=gb181) (o:=.cells #[.slice A0_0 l0_0.length c0_0,.slice A0_1 l0_1.length c0_1] 25 (0,0)) (by (with_reducible repeat (first|refine blk_drewN ?_ _|refine blk_drew ?_|refine blk_alloc ?_ _));exact BK181.out) hb);have n4_:=Aside0.mk (blk_below (g:=gb182) (o:=.cells #[.slice none 0 0,.slice none 0 0] 25 (0,0)) (by (with_reducible repeat (first|refine blk_drewN ?_ _|refine blk_drew ?_|refine blk_alloc ?_ _));exact BK182.out) hb);have n5_:=Aside0.mk (below_step (by repeat (first|(with_reducible first|exact HB.out|apply below_alloc|apply pw_below_drewN|apply below_drew1|refine below_set ?_ GE181.out|refine below_set ?_ GE182.out)|exact HB.out)) hb);clear HO_3;clear BK181;clear BK182;clear HB;have HO_3:=n0_;have HO189:=n1_;have HO192:=n2_;have BK181:=n3_;have BK182:=n4_;have HB:=n5_;clear n0_ n1_ n2_ n3_ n4_ n5_;(try clear hb);(try clear hb2);(try clear hk);(try clear hi);(try clear ho0);(try clear ho1);obtain ⟨Ao16,co16,eo16⟩:=Kd.R_slice HO189.out;subst eo16;have hcz17_0:w15.cell? ⟨gb182,0,none⟩=some (.slice none 0 0):=(blk_cell BK182.out 0).trans rfl;have hcz17_1:w15.cell? ⟨gb182,1,none⟩=some (.slice none 0 0):=(blk_cell BK182.out 1).trans rfl;have hfz17_0:=blk_frozen BK182.out 0;have hfz17_1:=blk_frozen BK182.out 1;obtain ⟨Ao18,co18,eo18⟩:=Kd.S_slice HO192.out;subst eo18))
       refine bodyPost_ret (results_cell_row rfl _ _ gb182 25 #[.slice Ao16 t187.length co16,.slice Ao18 t190.length co18] (0,0) _ rfl (by (with_reducible repeat (first|refine blk_drewN ?_ _|refine blk_drew ?_|refine blk_alloc ?_ _));refine blk_put (cs:=#[.slice Ao16 t187.length co16,.slice none 0 0]) ?_ 1 _ rfl;(with_reducible repeat (first|refine blk_drewN ?_ _|refine blk_drew ?_|refine blk_alloc ?_ _));refine blk_put (cs:=#[.slice none 0 0,.slice none 0 0]) ?_ 0 _ rfl;(with_reducible repeat (first|refine blk_drewN ?_ _|refine blk_drew ?_|refine blk_alloc ?_ _));exact BK182.out) Try.underlying25 rfl (by kernel_rfl)) rfl ?_
       exact ⟨_,_,by first|rfl|(simp [errW_none,errW_some] <;> rfl)|(simp [*,errW_none,errW_some] <;> rfl),by (with_reducible repeat (first|apply Kd.R_alloc|apply Kd.R_drewN|apply Kd.R_drew));exact Kd.R_mono (Kd.R_far (p:=⟨gb182,1,none⟩) (Kd.R_far (p:=⟨gb182,0,none⟩) (Kd.R_types HO189.out BK182.out (by decide)) (fun _ hk=>hk.2) (.slice Ao16 t187.length co16)) (fun _ hk=>hk.2) (.slice Ao18 t190.length co18)) (fun _ hk=>trivial),by (with_reducible repeat (first|apply Kd.S_alloc|apply Kd.S_drewN|apply Kd.S_drew));exact Kd.S_mono (Kd.S_far (p:=⟨gb182,1,none⟩) (Kd.S_far (p:=⟨gb182,0,none⟩) (Kd.S_types HO192.out BK182.out (by decide)) (fun _ hk=>hk.2) (.slice Ao16 t187.length co16)) (fun _ hk=>hk.2) (.slice Ao18 t190.length co18)) (fun _ hk=>hk.1),by repeat (first|(with_reducible first|exact HB.out|apply below_alloc|apply pw_below_drewN|apply below_drew1|refine below_set ?_ GE181.out|refine below_set ?_ GE182.out)|exact HB.out)⟩
   · rw [if_neg c4] at H
     have c4b0:decide (x4_1 < (l0_1.length:Int))=false:=decide_eq_false c4
     clear c4
     replace H:=Option.bind_eq_some_iff.mp H
     obtain ⟨⟨t193,t196⟩,A190,H⟩:=H
     replace H:(some (t193,t196))=some (r1,r2):=H
     have A19:=Aside0.mk A190
     clear A190
     simp only [Option.some.injEq,Prod.mk.injEq] at H
     obtain ⟨rfl,rfl⟩:=H
     have hnb20:=NB181_182.out
     have hnc20:=NB182_181.out
     have hcz21_0:wr.cell? ⟨gb181,0,none⟩=some (.slice A0_0 l0_0.length c0_0):=(blk_cell BK181.out 0).trans rfl
     have hcz21_1:wr.cell? ⟨gb181,1,none⟩=some (.slice A0_1 l0_1.length c0_1):=(blk_cell BK181.out 1).trans rfl
     have hfz21_0:=blk_frozen BK181.out 0
     have hfz21_1:=blk_frozen BK181.out 1
     obtain ⟨Ao22,co22,eo22⟩:=Kd.R_slice HO_3.out
     subst eo22
     go_wp2_with (first|((with_reducible refine gate_callee (f:=29) rfl ?_);refine goesL_ (some 28) rfl rfl Try.func29 (by kernel_rfl) rfl #[.agg #[.slice A0_0 l0_0.length c0_0,.slice A0_1 l0_1.length c0_1],.slice Ao22 x3_1.length co22] rfl (by (try simp only [List.map_toArray,List.map_cons,List.map_nil]);first|done|rfl|(simp only [List.length_drop,List.length_take];rfl)) ?_;(with_reducible refine (wageofficeref42_Crash.calls k1 _ _ l0_0 _ _ l0_1 _ _ x3_1 t193 t196 _ ?side1 ?side2 ?side3 ?side4 ?side5 ?side6 A19.out).mono ?_);(case side1=>repeat (first|exact (Kd.C_below HR0_0.out HB.out)|(with_reducible refine Kd.C_alloc ?_ _)|(with_reducible refine Kd.C_drewN ?_ _)|(with_reducible refine Kd.C_drew ?_)));(case side2=>exact HC0_0.out);(case side3=>repeat (first|exact (Kd.C_below HR0_1.out HB.out)|(with_reducible refine Kd.C_alloc ?_ _)|(with_reducible refine Kd.C_drewN ?_ _)|(with_reducible refine Kd.C_drew ?_)));(case side4=>exact HC0_1.out);(case side5=>repeat (first|exact (Kd.R_reads' HO_3.out).2.2|(with_reducible refine Kd.C_alloc ?_ _)|(with_reducible refine Kd.C_drewN ?_ _)|(with_reducible refine Kd.C_drew ?_)));(case side6=>exact (Kd.R_reads' HO_3.out).2.1);rintro e w23 ⟨v194,v197,rfl,ho0,ho1,hb⟩;refine ⟨_,rfl,?_⟩;have n0_:=Aside0.mk (Kd.R_below (by (with_reducible repeat (first|apply Kd.R_alloc|apply Kd.R_drewN|apply Kd.R_drew));exact HO_3.out) hb);have n1_:=Aside0.mk (Kd.R_lower ho0 (below_size (by repeat (first|(with_reducible first|exact HB.out|apply below_alloc|apply pw_below_drewN|apply below_drew1|refine below_set ?_ GE181.out|refine below_set ?_ GE182.out)|exact HB.out))));have n2_:=Aside0.mk (Kd.S_lower ho1 (below_size (by repeat (first|(with_reducible first|exact HB.out|apply below_alloc|apply pw_below_drewN|apply below_drew1|refine below_set ?_ GE181.out|refine below_set ?_ GE182.out)|exact HB.out))));have n3_:=Aside0.mk (blk_below (g:=gb181) (o:=.cells #[.slice A0_0 l0_0.length c0_0,.slice A0_1 l0_1.length c0_1] 25 (0,0)) (by (with_reducible repeat (first|refine blk_drewN ?_ _|refine blk_drew ?_|refine blk_alloc ?_ _));exact BK181.out) hb);have n4_:=Aside0.mk (blk_below (g:=gb182) (o:=.cells #[.slice none 0 0,.slice none 0 0] 25 (0,0)) (by (with_reducible repeat (first|refine blk_drewN ?_ _|refine blk_drew ?_|refine blk_alloc ?_ _));exact BK182.out) hb);have n5_:=Aside0.mk (below_step (by repeat (first|(with_reducible first|exact HB.out|apply below_alloc|apply pw_below_drewN|apply below_drew1|refine below_set ?_ GE181.out|refine below_set ?_ GE182.out)|exact HB.out)) hb);clear HO_3;clear BK181;clear BK182;clear HB;have HO_3:=n0_;have HO195:=n1_;have HO198:=n2_;have BK181:=n3_;have BK182:=n4_;have HB:=n5_;clear n0_ n1_ n2_ n3_ n4_ n5_;(try clear hb);(try clear hb2);(try clear hk);(try clear hi);(try clear ho0);(try clear ho1);obtain ⟨Ao24,co24,eo24⟩:=Kd.R_slice HO195.out;subst eo24;have hcz25_0:w23.cell? ⟨gb182,0,none⟩=some (.slice none 0 0):=(blk_cell BK182.out 0).trans rfl;have hcz25_1:w23.cell? ⟨gb182,1,none⟩=some (.slice none 0 0):=(blk_cell BK182.out 1).trans rfl;have hfz25_0:=blk_frozen BK182.out 0;have hfz25_1:=blk_frozen BK182.out 1;obtain ⟨Ao26,co26,eo26⟩:=Kd.S_slice HO198.out;subst eo26))
     refine bodyPost_ret (results_cell_row rfl _ _ gb182 25 #[.slice Ao24 t193.length co24,.slice Ao26 t196.length co26] (0,0) _ rfl (by (with_reducible repeat (first|refine blk_drewN ?_ _|refine blk_drew ?_|refine blk_alloc ?_ _));refine blk_put (cs:=#[.slice Ao24 t193.length co24,.slice none 0 0]) ?_ 1 _ rfl;(with_reducible repeat (first|refine blk_drewN ?_ _|refine blk_drew ?_|refine blk_alloc ?_ _));refine blk_put (cs:=#[.slice none 0 0,.slice none 0 0]) ?_ 0 _ rfl;(with_reducible repeat (first|refine blk_drewN ?_ _|refine blk_drew ?_|refine blk_alloc ?_ _));exact BK182.out) Try.underlying25 rfl (by kernel_rfl)) rfl ?_
     exact ⟨_,_,by first|rfl|(simp [errW_none,errW_some] <;> rfl)|(simp [*,errW_none,errW_some] <;> rfl),by (with_reducible repeat (first|apply Kd.R_alloc|apply Kd.R_drewN|apply Kd.R_drew));exact Kd.R_mono (Kd.R_far (p:=⟨gb182,1,none⟩) (Kd.R_far (p:=⟨gb182,0,none⟩) (Kd.R_types HO195.out BK182.out (by decide)) (fun _ hk=>hk.2) (.slice Ao24 t193.length co24)) (fun _ hk=>hk.2) (.slice Ao26 t196.length co26)) (fun _ hk=>trivial),by (with_reducible repeat (first|apply Kd.S_alloc|apply Kd.S_drewN|apply Kd.S_drew));exact Kd.S_mono (Kd.S_far (p:=⟨gb182,1,none⟩) (Kd.S_far (p:=⟨gb182,0,none⟩) (Kd.S_types HO198.out BK182.out (by decide)) (fun _ hk=>hk.2) (.slice Ao24 t193.length co24)) (fun _ hk=>hk.2) (.slice Ao26 t196.length co26)) (fun _ hk=>hk.1),by repeat (first|(with_reducible first|exact HB.out|apply below_alloc|apply pw_below_drewN|apply below_drew1|refine below_set ?_ GE181.out|refine below_set ?_ GE182.out)|exact HB.out)⟩
end Go.Proofs.Ytfpdmlhknddffaa.Dk
end
section
namespace Go.Proofs.Ytfpdmlhknddffaa.Dk
open Go.RowKit Go.Proofs.YtfpdmlhknddffaaW.PrintWords Go.Proofs.YtfpdmlhknddffaaW.PrintLast Go.Proofs.YtfpdmlhknddffaaW.PrintMore
set_option linter.unusedVariables false
set_option linter.unusedSimpArgs false
theorem wrap_succ {i n:Nat} (h:i < n) (hn:n ≤ 9223372036854775807):wrap64 ((i:Int) + 1)=((i + 1:Nat):Int):=by
 unfold wrap64;omega
theorem wrap_id {x:Int} (h : -9223372036854775808 ≤ x) (h2:x ≤ 9223372036854775807):wrap64 x=x:=by
 unfold wrap64;omega
theorem rd_nat {xs:List Int} {i:Nat} (h:i < xs.length):rd xs (i:Int)=xs[i]:=by
 unfold rd;simp [List.getD,h]
theorem rd45_nat {xs:List S45} {i:Nat} (h:i < xs.length):rd_T45 xs (i:Int)=xs[i]:=by
 unfold rd_T45;simp [List.getD,h]
theorem ev_eq {α:Type} {g:Nat→Option α} {r r':α} (h:Ev g r) (e:r=r'):Ev g r':=e ▸ h
theorem ev_down {α:Type} {n:Nat} {g:Nat→Nat→Option α} {r:Nat→α} (hn:Ev (g n) (r n)) (hs:∀ i,i < n→Ev (g (i + 1)) (r (i + 1))→Ev (g i) (r i)):∀ i,i ≤ n→Ev (g i) (r i):=by
 have key:∀ d i,i + d=n→Ev (g i) (r i):=by
  intro d
  induction d with
  | zero =>
   intro i h
   obtain rfl:i=n:=by omega
   exact hn
  | succ d ih=>intro i h;exact hs i (by omega) (ih (i + 1) (by omega))
 intro i hi
 exact key (n - i) i (by omega)
theorem copy_ev (a:List Int) (ha:a.length < 140737488355328):Ev (fun k=>wageofficeref42_Copy.f k a) a:=by
 have key:=ev_down (n:=a.length) (g:=fun i k=>wageofficeref42_Copy.l0 k a (a.take i) (i:Int)) (r:=fun i=>a)
  (by
   refine Ev.step (f:=fun _=>some a) (fun k => ?_) (Ev.now a)
   simp only [wageofficeref42_Copy.l0]
   rw [if_neg (by omega),List.take_length])
  (by
   intro i hi ih
   refine Ev.step (f:=fun k=>wageofficeref42_Copy.l0 k a (a.take (i + 1)) ((i + 1:Nat):Int)) (fun k => ?_) ih
   simp only [wageofficeref42_Copy.l0]
   rw [if_pos (by omega),if_pos (by omega),if_pos (by rw [List.length_take];omega),rd_nat hi,wrap_succ hi (by omega),← List.take_succ_eq_append_getElem hi])
  0 (by omega)
 exact key
def Fit (l1:List S45):Prop:=l1.length ≤ 9223372036854775807∧∀ x ∈ l1,x.f1.length ≤ 9223372036854775807
theorem validB_false_of {l0:List Int} {l1:List S45} (h:¬ (l0.length ≤ 65536∧l1.length ≤ 64∧∀ x ∈ l1,0 ≤ x.f0∧x.f0 + x.f1.length ≤ l0.length)):validB l0 l1=false:=by
 cases hv:validB l0 l1
 · rfl
 · exact absurd ((validB_iff l0 l1).1 hv) h
theorem valid_ev (l0:List Int) (l1:List S45) (hf:Fit l1):Ev (fun k=>wageofficeref42_Valid.f k l0 l1) (validB l0 l1):=by
 by_cases h1:l0.length > 65536
 · rw [validB_false_of (fun h=>by omega)]
   refine Ev.congr (f:=fun k=>wageofficeref42_Valid.j0 k true l0 l1) (fun k => ?_) (Ev.step (f:=fun _=>some false) (fun k => ?_) (Ev.now false))
   · unfold wageofficeref42_Valid.f
     rw [if_pos (by omega)]
   · simp only [wageofficeref42_Valid.j0]
     rw [if_pos trivial]
 · by_cases h2:l1.length > 64
   · rw [validB_false_of (fun h=>by omega)]
     refine Ev.congr (f:=fun k=>wageofficeref42_Valid.j0 k true l0 l1) (fun k => ?_) (Ev.step (f:=fun _=>some false) (fun k => ?_) (Ev.now false))
     · unfold wageofficeref42_Valid.f
       rw [if_neg (by omega),decide_eq_true (by omega)]
     · simp only [wageofficeref42_Valid.j0]
       rw [if_pos trivial]
   · have key:=ev_down (n:=l1.length) (g:=fun i k=>wageofficeref42_Valid.l0 k (i:Int) l0 l1) (r:=fun i=>(l1.drop i).all fun x=>decide (0 ≤ x.f0∧x.f0 + x.f1.length ≤ l0.length))
      (by
       refine Ev.step (f:=fun _=>some true) (fun k => ?_) (ev_eq (Ev.now true) (by simp))
       simp only [wageofficeref42_Valid.l0]
       rw [if_neg (by omega)])
      (by
       intro i hi ih
       have hfi:=hf.2 l1[i] (List.getElem_mem _)
       have hd:l1.drop i=l1[i] :: l1.drop (i + 1):=List.drop_eq_getElem_cons hi
       have hw:wrap64 ((l0.length:Int) - (l1[i].f1.length:Int))=(l0.length:Int) - (l1[i].f1.length:Int):=wrap_id (by omega) (by omega)
       by_cases e1:l1[i].f0 < 0
       · refine Ev.step (f:=fun _=>some false) (fun k => ?_) (ev_eq (Ev.now false) ?_)
         · simp only [wageofficeref42_Valid.l0]
           rw [if_pos (by omega),if_pos (by omega),rd45_nat hi,if_pos e1]
         · rw [hd,List.all_cons,decide_eq_false (by omega)];rfl
       · by_cases e2:l1[i].f0 > (l0.length:Int) - (l1[i].f1.length:Int)
         · refine Ev.step (f:=fun _=>some false) (fun k => ?_) (ev_eq (Ev.now false) ?_)
           · simp only [wageofficeref42_Valid.l0]
             rw [if_pos (by omega),if_pos (by omega),rd45_nat hi,if_neg e1,hw,if_pos e2]
           · rw [hd,List.all_cons,decide_eq_false (by omega)];rfl
         · refine Ev.step (f:=fun k=>wageofficeref42_Valid.l0 k ((i + 1:Nat):Int) l0 l1) (fun k => ?_) (ev_eq ih ?_)
           · simp only [wageofficeref42_Valid.l0]
             rw [if_pos (by omega),if_pos (by omega),rd45_nat hi,if_neg e1,hw,if_neg e2,wrap_succ hi (by omega)]
           · rw [hd,List.all_cons,decide_eq_true (by omega),Bool.true_and])
      0 (by omega)
     refine Ev.congr (f:=fun k=>wageofficeref42_Valid.j0 k false l0 l1) (fun k => ?_) (Ev.step (f:=fun k=>wageofficeref42_Valid.l0 k 0 l0 l1) (fun k => ?_) (ev_eq key ?_))
     · unfold wageofficeref42_Valid.f
       rw [if_neg (by omega),decide_eq_false (by omega)]
     · simp only [wageofficeref42_Valid.j0]
       rw [if_neg (by simp)]
     · rw [Bool.eq_iff_iff,validB_iff]
       simp only [List.drop_zero,List.all_eq_true,decide_eq_true_eq]
       constructor
       · intro h;exact ⟨by omega,by omega,h⟩
       · intro h;exact h.2.2
theorem s45_iff (a b:S45):(a.f0=b.f0∧a.f1=b.f1)↔a=b:=by
 cases a;cases b;simp
instance s45_dec:DecidableEq S45:=fun a b=>decidable_of_iff _ (s45_iff a b)
def Fine (l0:List Int) (l1:List S45):Prop:=l0.length < 140737488355328∧l1.length < 4398046511104∧∀ x ∈ l1,x.f1.length < 140737488355328
theorem fine_fit {l0:List Int} {l1:List S45} (h:Fine l0 l1):Fit l1:=⟨by have:=h.2.1;omega,fun x hx=>by have:=h.2.2 x hx;omega⟩
theorem write_loop (l0:List Int) (l1:List S45) (a:Int) (l2:List Int) (h:Fine l0 l1) (h2:l2.length < 140737488355328):Ev (fun k=>wageofficeref42_Write.l0 k a l2 0 l0 l1 l0 []) (l0,l1 ++ [⟨a,l2⟩],0):=by
 have key:=ev_down (n:=l1.length) (g:=fun i k=>wageofficeref42_Write.l0 k a l2 (i:Int) l0 l1 l0 (l1.take i)) (r:=fun i=>(l0,l1 ++ [(⟨a,l2⟩:S45)],(0:Int)))
  (by
   refine Ev.step (f:=fun k=>(wageofficeref42_Copy.f k l2).bind fun t=>if (l1.take l1.length).length < 4398046511104 then some (l0,l1.take l1.length ++ [(⟨a,t⟩:S45)],(0:Int)) else none) (fun k => ?_) (ev_eq (Ev.bind (f:=fun k t=>if (l1.take l1.length).length < 4398046511104 then some (l0,l1.take l1.length ++ [(⟨a,t⟩:S45)],(0:Int)) else none) (copy_ev l2 h2) (Ev.congr (fun k => ?_) (Ev.now (l0,l1.take l1.length ++ [(⟨a,l2⟩:S45)],(0:Int))))) ?_)
   · simp only [wageofficeref42_Write.l0]
     rw [if_neg (by omega)]
   · rw [if_pos (by rw [List.take_length];exact h.2.1)]
   · rw [List.take_length])
  (by
   intro i hi ih
   refine Ev.step (f:=fun k=>(wageofficeref42_Copy.f k l1[i].f1).bind fun t=>if (l1.take i).length < 4398046511104 then wageofficeref42_Write.l0 k a l2 ((i + 1:Nat):Int) l0 l1 l0 (l1.take i ++ [(⟨l1[i].f0,t⟩:S45)]) else none) (fun k => ?_) (ev_eq (Ev.bind (f:=fun k t=>if (l1.take i).length < 4398046511104 then wageofficeref42_Write.l0 k a l2 ((i + 1:Nat):Int) l0 l1 l0 (l1.take i ++ [(⟨l1[i].f0,t⟩:S45)]) else none) (copy_ev l1[i].f1 (h.2.2 _ (List.getElem_mem _))) (Ev.congr (fun k => ?_) ih)) rfl)
   · simp only [wageofficeref42_Write.l0]
     rw [if_pos (by omega),if_pos (by omega),rd45_nat hi,wrap_succ hi (by have:=h.2.1;omega)]
   · rw [if_pos (by rw [List.length_take];have:=h.2.1;omega),show l1.take i ++ [(⟨l1[i].f0,l1[i].f1⟩:S45)]=l1.take (i + 1) from (List.take_succ_eq_append_getElem hi).symm])
  0 (by omega)
 exact key
theorem write_ev (l0:List Int) (l1:List S45) (a:Int) (l2:List Int) (h:Fine l0 l1) (h2:l2.length < 140737488355328):Ev (fun k=>wageofficeref42_Write.f k l0 l1 a l2) (writeF l0 l1 a l2):=by
 unfold wageofficeref42_Write.f writeF
 refine Ev.bind (f:=fun k t=>if t=true then if a < 0 then wageofficeref42_Write.j0 k a l2 true l0 l1 else wageofficeref42_Write.j0 k a l2 (decide (a > wrap64 ((l0.length:Int) - (l2.length:Int)))) l0 l1 else wageofficeref42_Write.j0 k a l2 true l0 l1) (valid_ev l0 l1 (fine_fit h)) ?_
 have hbad:Ev (fun k=>wageofficeref42_Write.j0 k a l2 true l0 l1) (([],[],1):List Int × List S45 × Int):=by
  refine Ev.step (f:=fun _=>some (([],[],1):List Int × List S45 × Int)) (fun k => ?_) (Ev.now _)
  simp only [wageofficeref42_Write.j0]
  rw [if_pos trivial]
 cases hv:validB l0 l1
 · exact Ev.congr (fun k=>by rw [if_neg (by simp)]) hbad
 · by_cases ha:a < 0
   · have:isPartB l0.length a l2.length=false:=by
      cases hp:isPartB l0.length a l2.length
      · rfl
      · have:=(isPartB_iff _ _ _).1 hp;omega
     rw [this]
     exact Ev.congr (fun k=>by rw [if_pos rfl,if_pos ha]) hbad
   · have hw:wrap64 ((l0.length:Int) - (l2.length:Int))=(l0.length:Int) - (l2.length:Int):=wrap_id (by omega) (by have:=h.1;omega)
     by_cases hb:a > (l0.length:Int) - (l2.length:Int)
     · have:isPartB l0.length a l2.length=false:=by
        cases hp:isPartB l0.length a l2.length
        · rfl
        · have:=(isPartB_iff _ _ _).1 hp;omega
       rw [this]
       exact Ev.congr (fun k=>by rw [if_pos rfl,if_neg ha,hw,decide_eq_true hb]) hbad
     · have hp:isPartB l0.length a l2.length=true:=(isPartB_iff _ _ _).2 (by omega)
       rw [hp,Bool.and_self,if_pos rfl]
       refine Ev.congr (f:=fun k=>wageofficeref42_Write.j0 k a l2 false l0 l1) (fun k=>by rw [if_pos rfl,if_neg ha,hw,decide_eq_false hb]) ?_
       by_cases h64:l1.length=64
       · refine Ev.step (f:=fun _=>some (([],[],2):List Int × List S45 × Int)) (fun k => ?_) (ev_eq (Ev.now _) (by rw [if_pos h64]))
         simp only [wageofficeref42_Write.j0]
         rw [if_neg (by simp),if_pos (by omega)]
       · refine Ev.step (f:=fun k=>(wageofficeref42_Copy.f k l0).bind fun t=>wageofficeref42_Write.l0 k a l2 0 l0 l1 t []) (fun k => ?_) (ev_eq (Ev.bind (f:=fun k t=>wageofficeref42_Write.l0 k a l2 0 l0 l1 t []) (copy_ev l0 h.1) (write_loop l0 l1 a l2 h h2)) (by rw [if_neg h64]))
         simp only [wageofficeref42_Write.j0]
         rw [if_neg (by simp),if_neg (by omega)]
end Go.Proofs.Ytfpdmlhknddffaa.Dk
end
section
namespace Go.Proofs.Ytfpdmlhknddffaa.Dk
open Go.RowKit Go.Proofs.YtfpdmlhknddffaaW.PrintWords Go.Proofs.YtfpdmlhknddffaaW.PrintLast Go.Proofs.YtfpdmlhknddffaaW.PrintMore
set_option linter.unusedVariables false
set_option linter.unusedSimpArgs false
theorem splice_nil {α:Type} (L:List α) (off:Nat):splice L off []=L:=by
 unfold splice;simp
theorem splice_get {α:Type} (L:List α) (off:Nat) (cs:List α) (h:off + cs.length ≤ L.length) (i:Nat):(splice L off cs)[i]? = if i < off then L[i]? else if i < off + cs.length then cs[i - off]? else L[i]?:=by
 unfold splice
 rw [List.getElem?_append,List.length_take,Nat.min_eq_left (by omega)]
 by_cases h1:i < off
 · rw [if_pos h1,if_pos h1,List.getElem?_take_of_lt h1]
 · rw [if_neg h1,if_neg h1,List.getElem?_append]
   by_cases h2:i < off + cs.length
   · rw [if_pos (by omega),if_pos h2]
   · rw [if_neg (by omega),if_neg h2,List.getElem?_drop]
     congr 1
     omega
theorem splice_set (L:List Int) (off:Nat) (d:List Int) (j:Nat) (hj:j < d.length) (h:off + d.length ≤ L.length):(splice L off (d.take j)).set (off + j) d[j]=splice L off (d.take (j + 1)):=by
 apply List.ext_getElem?
 intro i
 have hl:(d.take j).length=j:=by rw [List.length_take];omega
 have hl2:(d.take (j + 1)).length=j + 1:=by rw [List.length_take];omega
 rw [List.getElem?_set,splice_length _ _ _ (by omega),splice_get _ _ _ (by omega),splice_get _ _ _ (by omega),hl,hl2]
 by_cases e:off + j=i
 · subst e
   rw [if_pos rfl,if_pos (by omega),if_neg (by omega),if_pos (by omega),show off + j - off=j by omega,List.getElem?_take_of_lt (by omega),List.getElem?_eq_getElem hj]
 · rw [if_neg e]
   by_cases h1:i < off
   · rw [if_pos h1,if_pos h1]
   · rw [if_neg h1,if_neg h1]
     by_cases h2:i < off + j
     · rw [if_pos h2,if_pos (by omega),List.getElem?_take_of_lt (by omega),List.getElem?_take_of_lt (by omega)]
     · rw [if_neg h2,if_neg (by omega)]
theorem keptN_spec (k:Int) (n j:Nat):(j < keptN k n→j < n∧(j:Int) < k)∧(¬ j < keptN k n→¬ (j < n)∨¬ ((j:Int) < k)):=by
 unfold keptN
 constructor <;> intro h <;> omega
theorem applyN_stay (ks:List Int) (l1:List S45) (l0:List Int):∀ d,applyN (keptK ks) l1 l0 (ks.length + d)=applyN (keptK ks) l1 l0 ks.length:=by
 intro d
 induction d with
 | zero=>rfl
 | succ d ih =>
  show splice (applyN (keptK ks) l1 l0 (ks.length + d)) _ (List.take (keptN (keptK ks (ks.length + d)) _) _)=_
  have hk:keptK ks (ks.length + d)=0:=by unfold keptK;simp [List.getD]
  rw [hk,show ∀ n,keptN 0 n=0 from fun n=>by unfold keptN;omega,List.take_zero,splice_nil,ih]
theorem crash_ev (l0:List Int) (l1:List S45) (ks:List Int) (hf:Fit l1) (h0:l0.length < 140737488355328) (hks:ks.length ≤ 9223372036854775807):Ev (fun k=>wageofficeref42_Crash.f k l0 l1 ks) (crashL l0 l1 ks,[]):=by
 unfold wageofficeref42_Crash.f crashL
 refine Ev.bind (f:=fun k t=>if t=true then (wageofficeref42_Copy.f k l0).bind fun t172=>wageofficeref42_Crash.l0 k ks 0 l0 l1 t172 else some (([]:List Int),([]:List S45))) (valid_ev l0 l1 hf) ?_
 cases hv:validB l0 l1
 · exact Ev.congr (f:=fun _=>some (([]:List Int),([]:List S45))) (fun k=>by rw [if_neg (by simp)]) (ev_eq (Ev.now _) (by simp))
 · have Hv:=(validB_iff l0 l1).1 hv
   refine Ev.congr (f:=fun k=>(wageofficeref42_Copy.f k l0).bind fun t172=>wageofficeref42_Crash.l0 k ks 0 l0 l1 t172) (fun k=>by rw [if_pos rfl]) ?_
   refine Ev.bind (f:=fun k t=>wageofficeref42_Crash.l0 k ks 0 l0 l1 t) (copy_ev l0 h0) ?_
   rw [if_pos rfl]
   have hlen:=applyN_length (keptK ks) l0 l1 hv
   have key:=ev_down (n:=min l1.length ks.length) (g:=fun i k=>wageofficeref42_Crash.l0 k ks (i:Int) l0 l1 (applyN (keptK ks) l1 l0 i)) (r:=fun _=>(applyL (keptK ks) l1 l0,([]:List S45)))
    (by
     have hfin:applyN (keptK ks) l1 l0 (min l1.length ks.length)=applyL (keptK ks) l1 l0:=by
      unfold applyL
      rcases Nat.le_total l1.length ks.length with h|h
      · rw [Nat.min_eq_left h]
      · rw [Nat.min_eq_right h]
        have:=applyN_stay ks l1 l0 (l1.length - ks.length)
        rw [show ks.length + (l1.length - ks.length)=l1.length by omega] at this
        exact this.symm
     rw [hfin]
     by_cases e:min l1.length ks.length < l1.length
     · refine Ev.step (f:=fun k=>wageofficeref42_Crash.j1 k ks ((min l1.length ks.length:Nat):Int) false l0 l1 (applyL (keptK ks) l1 l0)) (fun k => ?_) (Ev.step (f:=fun _=>some (applyL (keptK ks) l1 l0,([]:List S45))) (fun k => ?_) (Ev.now _))
       · simp only [wageofficeref42_Crash.l0]
         rw [if_pos (by omega),decide_eq_false (by omega)]
       · simp only [wageofficeref42_Crash.j1]
         rw [if_neg (by simp)]
     · refine Ev.step (f:=fun k=>wageofficeref42_Crash.j1 k ks ((min l1.length ks.length:Nat):Int) false l0 l1 (applyL (keptK ks) l1 l0)) (fun k => ?_) (Ev.step (f:=fun _=>some (applyL (keptK ks) l1 l0,([]:List S45))) (fun k => ?_) (Ev.now _))
       · simp only [wageofficeref42_Crash.l0]
         rw [if_neg (by omega)]
       · simp only [wageofficeref42_Crash.j1]
         rw [if_neg (by simp)])
    (by
     intro i hi ih
     have hi1:i < l1.length:=by omega
     have hi2:i < ks.length:=by omega
     have hx:=Hv.2.2 l1[i] (List.getElem_mem _)
     have hlo:=hlen i (by omega)
     obtain ⟨out,hout⟩:∃ out,out=applyN (keptK ks) l1 l0 i:=⟨_,rfl⟩
     have hgd:l1.getD i z45=l1[i]:=by simp [List.getD,hi1]
     have hkd:keptK ks i=ks[i]:=by unfold keptK;simp [List.getD,hi2]
     have hnext:applyN (keptK ks) l1 l0 (i + 1)=splice out l1[i].f0.toNat (l1[i].f1.take (keptN ks[i] l1[i].f1.length)):=by
      show splice (applyN (keptK ks) l1 l0 i) (l1.getD i z45).f0.toNat ((l1.getD i z45).f1.take (keptN (keptK ks i) (l1.getD i z45).f1.length))=_
      rw [hgd,hkd,← hout]
     rw [hnext] at ih
     rw [← hout] at hlo ⊢
     have hkn:=keptN_le ks[i] l1[i].f1.length
     have inner:=ev_down (n:=keptN ks[i] l1[i].f1.length) (g:=fun j k=>wageofficeref42_Crash.l1 k ks (i:Int) (j:Int) l0 l1 (splice out l1[i].f0.toNat (l1[i].f1.take j)) l1[i].f0 l1[i].f1) (r:=fun _=>(applyL (keptK ks) l1 l0,([]:List S45)))
      (by
       refine Ev.step (f:=fun k=>wageofficeref42_Crash.l0 k ks ((i + 1:Nat):Int) l0 l1 (splice out l1[i].f0.toNat (l1[i].f1.take (keptN ks[i] l1[i].f1.length)))) (fun k => ?_) ih
       simp only [wageofficeref42_Crash.l1]
       rcases (keptN_spec ks[i] l1[i].f1.length (keptN ks[i] l1[i].f1.length)).2 (Nat.lt_irrefl _) with e|e
       · rw [if_neg (by omega),wrap_succ hi2 hks]
       · by_cases e2:((keptN ks[i] l1[i].f1.length:Nat):Int) < (l1[i].f1.length:Int)
         · rw [if_pos e2,if_pos (by omega),if_pos (by omega),rd_nat hi2,if_neg e,wrap_succ hi2 hks]
         · rw [if_neg e2,wrap_succ hi2 hks])
      (by
       intro j hj ihj
       obtain ⟨hj1,hj2⟩:=(keptN_spec ks[i] l1[i].f1.length j).1 hj
       have hw:wrap64 (l1[i].f0 + (j:Int))=l1[i].f0 + j:=wrap_id (by omega) (by omega)
       have hsl:(splice out l1[i].f0.toNat (l1[i].f1.take j)).length=out.length:=splice_length _ _ _ (by rw [List.length_take];omega)
       refine Ev.step (f:=fun k=>wageofficeref42_Crash.l1 k ks (i:Int) ((j + 1:Nat):Int) l0 l1 (splice out l1[i].f0.toNat (l1[i].f1.take (j + 1))) l1[i].f0 l1[i].f1) (fun k => ?_) ihj
       simp only [wageofficeref42_Crash.l1]
       rw [if_pos (by omega),if_pos (by omega),if_pos (by omega),rd_nat hi2,if_pos hj2,if_pos (by omega),hw,if_pos (by omega),if_pos (by rw [hsl];omega),rd_nat hj1,wrap_succ hj1 (hf.2 _ (List.getElem_mem _))]
       rw [show (l1[i].f0 + (j:Int)).toNat=l1[i].f0.toNat + j by omega,splice_set _ _ _ _ hj1 (by omega)])
      0 (by omega)
     rw [List.take_zero,splice_nil] at inner
     refine Ev.step (f:=fun k=>wageofficeref42_Crash.j1 k ks (i:Int) true l0 l1 out) (fun k => ?_) (Ev.step (f:=fun k=>wageofficeref42_Crash.l1 k ks (i:Int) 0 l0 l1 out l1[i].f0 l1[i].f1) (fun k => ?_) inner)
     · simp only [wageofficeref42_Crash.l0]
       rw [if_pos (by omega),decide_eq_true (by omega)]
     · simp only [wageofficeref42_Crash.j1]
       rw [if_pos trivial,if_pos (by omega),if_pos (by omega),rd45_nat hi1])
    0 (by omega)
   exact key
theorem applyN_congr (f g:Nat→Int) (l1:List S45) (l0:List Int):∀ n,(∀ i,i < n→f i=g i)→applyN f l1 l0 n=applyN g l1 l0 n:=by
 intro n
 induction n with
 | zero=>intro _;rfl
 | succ n ih =>
  intro h
  show splice (applyN f l1 l0 n) _ (List.take (keptN (f n) _) _)=splice (applyN g l1 l0 n) _ (List.take (keptN (g n) _) _)
  rw [ih (fun i hi=>h i (by omega)),h n (by omega)]
def lens (l1:List S45):List Int:=l1.map fun x=>(x.f1.length:Int)
theorem crash_lens (l0:List Int) (l1:List S45):crashL l0 l1 (lens l1)=syncL l0 l1:=by
 unfold crashL syncL applyL
 split
 · refine applyN_congr _ _ _ _ _ (fun i hi => ?_)
   unfold keptK wholeK lens
   simp [List.getD,hi]
 · rfl
theorem sync_ev (l0:List Int) (l1:List S45) (hf:Fit l1) (h0:l0.length < 140737488355328):Ev (fun k=>wageofficeref42_Sync.f k l0 l1) (syncL l0 l1,[]):=by
 have hbad:64 < l1.length→validB l0 l1=false:=fun h=>validB_false_of (fun h2=>by omega)
 have hend:∀ ks:List Int,ks=(lens l1).take (min l1.length 65)→Ev (fun k=>(wageofficeref42_Crash.f k l0 l1 ks).bind fun bt=>some (bt.1,bt.2)) (syncL l0 l1,[]):=by
  intro ks hks
  have hks2:ks.length ≤ 65:=by rw [hks,List.length_take];omega
  refine ev_eq (Ev.bind (f:=fun k bt=>some (bt.1,bt.2)) (crash_ev l0 l1 ks hf h0 (by omega)) (Ev.now _)) ?_
  by_cases h:64 < l1.length
  · unfold crashL syncL
    rw [hbad h]
    simp
  · have e:ks=lens l1:=by
     rw [hks,Nat.min_eq_left (by omega),List.take_of_length_le (by unfold lens;simp)]
    rw [e,crash_lens]
 have key:=ev_down (n:=min l1.length 65) (g:=fun i k=>wageofficeref42_Sync.l0 k ((lens l1).take i) (i:Int) l0 l1) (r:=fun _=>(syncL l0 l1,([]:List S45)))
  (by
   refine Ev.step (f:=fun k=>(wageofficeref42_Crash.f k l0 l1 ((lens l1).take (min l1.length 65))).bind fun bt=>some (bt.1,bt.2)) (fun k => ?_) (hend _ rfl)
   simp only [wageofficeref42_Sync.l0]
   by_cases h:l1.length ≤ 65
   · rw [if_neg (by omega)]
   · rw [if_pos (by omega),if_neg (by omega)])
  (by
   intro i hi ih
   have hi1:i < l1.length:=by omega
   have hl:i < (lens l1).length:=by unfold lens;simpa using hi1
   refine Ev.step (f:=fun k=>wageofficeref42_Sync.l0 k ((lens l1).take (i + 1)) ((i + 1:Nat):Int) l0 l1) (fun k => ?_) ih
   simp only [wageofficeref42_Sync.l0]
   rw [if_pos (by omega),if_pos (by omega),if_pos (by omega),if_pos (by rw [List.length_take];omega),rd45_nat hi1,wrap_succ hi1 hf.1,List.take_succ_eq_append_getElem hl,show (lens l1)[i]=(l1[i].f1.length:Int) from (by simp [lens])])
  0 (by omega)
 exact key
def wageofficeref42_Read.f (l0_0:List Int) (l0_1:List (S45)) (a1 a2:Int):Option (List Int × Int):=some (readL l0_0 l0_1 a1 a2,if readOk l0_0 l0_1 a1 a2=true then 0 else 1)
end Go.Proofs.Ytfpdmlhknddffaa.Dk
end
section
namespace Go.Proofs.Ytfpdmlhknddffaa.Dk
open Go.RowKit Go.Proofs.YtfpdmlhknddffaaW.PrintWords Go.Proofs.YtfpdmlhknddffaaW.PrintLast Go.Proofs.YtfpdmlhknddffaaW.PrintMore
set_option linter.unusedVariables false
set_option linter.unusedSimpArgs false
theorem fit_of {w:World} {A1:Option Addr} {l1:List S45} (h1:Kd.C k45 w A1 l1.length l1):Fit l1:=by
 refine ⟨C_max h1,fun x hx => ?_⟩
 obtain ⟨i,hi,rfl⟩:=List.getElem_of_mem hx
 obtain ⟨_,_,_,_,_,_,_,q3⟩:=C_get45 h1 i hi hi
 exact C_max q3
set_option maxHeartbeats 800000 in
theorem refRead_no (A0:Option Addr) (c0:Nat) (l0:List Int) (A1:Option Addr) (c1:Nat) (l1:List S45) (a c:Int) (w:World)
 (h0:Kd.C (Kd.int .u8) w A0 l0.length l0) (hc0:l0.length ≤ c0) (h1:Kd.C k45 w A1 l1.length l1) (hc1:l1.length ≤ c1) (hr:readOk l0 l1 a c=false) :
  Calls Try.prog 24 #[.agg #[.slice A0 l0.length c0,.slice A1 l1.length c1],.int .i64 a,.int .i64 c] w fun e w'=>e=.returned (.tuple #[.slice none 0 0,.int .i64 1])∧Below w.heap.size w w':=by
 have hu25:=Try.underlying25
 obtain ⟨kv,hkv⟩:=(valid_ev l0 l1 (fit_of h1)).rounds
 have Hkv:=Lib.hid hkv
 have hm0:=C_max h0
 clear hkv
 unfold readOk at hr
 cases hv:validB l0 l1
 · have Hv:=Lib.hid hv
   clear hr hv
   go_enter Try.func24,Try.ntmps24
   go_wp2_with (first|((with_reducible refine gate_dst (N:=3) rfl ?_);(refine box_event ?hg (N:=3) ?hd (cs:=#[.slice A0 l0.length c0,.slice A1 l1.length c1]) (t:=25) ?hr ?_);(case hd=>rfl);(case hg=>rfl);(case hr=>first|(go_simp;done)|(go_simp;rfl));intro g hg w1 hb1 hB1;have hq0:=(blk_cell hb1 0).trans rfl;have hq1:=(blk_cell hb1 1).trans rfl;have HB1:=Lib.hid hB1;have Hb1:=Lib.hid hb1;clear hB1 hb1 hg)|(go_at_call 31;refine (wageofficeref42_Valid.calls kv _ _ l0 _ _ l1 _ _ (Kd.C_below h0 HB1.out) hc0 (Kd.C_below h1 HB1.out) hc1 Hkv.out).mono ?_;rintro e w3 ⟨rfl,hb3⟩;rw [Hv.out];have HB3:=Lib.hid (below_then HB1.out HB1.out.size hb3);clear hb3 Hb1 hq0 hq1) )
   go_ret2
   exact ⟨rfl,HB3.out⟩
 · rw [hv,Bool.true_and] at hr
   have hn:¬ (0 ≤ a∧0 ≤ c∧a ≤ l0.length∧c ≤ l0.length - a):=fun h=>by rw [(isPartB_iff _ _ _).2 h] at hr;cases hr
   have Hv:=Lib.hid hv
   have hl:=((validB_iff l0 l1).1 hv).1
   clear hr hv
   by_cases e1:a < 0
   · clear hn
     go_enter Try.func24,Try.ntmps24
     go_wp2_with (first|((with_reducible refine gate_dst (N:=3) rfl ?_);(refine box_event ?hg (N:=3) ?hd (cs:=#[.slice A0 l0.length c0,.slice A1 l1.length c1]) (t:=25) ?hr ?_);(case hd=>rfl);(case hg=>rfl);(case hr=>first|(go_simp;done)|(go_simp;rfl));intro g hg w1 hb1 hB1;have hq0:=(blk_cell hb1 0).trans rfl;have hq1:=(blk_cell hb1 1).trans rfl;have HB1:=Lib.hid hB1;have Hb1:=Lib.hid hb1;clear hB1 hb1 hg)|(go_at_call 31;refine (wageofficeref42_Valid.calls kv _ _ l0 _ _ l1 _ _ (Kd.C_below h0 HB1.out) hc0 (Kd.C_below h1 HB1.out) hc1 Hkv.out).mono ?_;rintro e w3 ⟨rfl,hb3⟩;rw [Hv.out];have HB3:=Lib.hid (below_then HB1.out HB1.out.size hb3);clear hb3 Hb1 hq0 hq1) )
     go_ret2
     exact ⟨rfl,HB3.out⟩
   · by_cases e2:c < 0
     · clear hn
       go_enter Try.func24,Try.ntmps24
       go_wp2_with (first|((with_reducible refine gate_dst (N:=3) rfl ?_);(refine box_event ?hg (N:=3) ?hd (cs:=#[.slice A0 l0.length c0,.slice A1 l1.length c1]) (t:=25) ?hr ?_);(case hd=>rfl);(case hg=>rfl);(case hr=>first|(go_simp;done)|(go_simp;rfl));intro g hg w1 hb1 hB1;have hq0:=(blk_cell hb1 0).trans rfl;have hq1:=(blk_cell hb1 1).trans rfl;have HB1:=Lib.hid hB1;have Hb1:=Lib.hid hb1;clear hB1 hb1 hg)|(go_at_call 31;refine (wageofficeref42_Valid.calls kv _ _ l0 _ _ l1 _ _ (Kd.C_below h0 HB1.out) hc0 (Kd.C_below h1 HB1.out) hc1 Hkv.out).mono ?_;rintro e w3 ⟨rfl,hb3⟩;rw [Hv.out];have HB3:=Lib.hid (below_then HB1.out HB1.out.size hb3);clear hb3 Hb1 hq0 hq1) )
       go_ret2
       exact ⟨rfl,HB3.out⟩
     · by_cases e3:a > (l0.length:Int)
       all_goals
        have e0:0 ≤ a:=by omega
        have e00:0 ≤ c:=by omega
       · clear hn
         go_enter Try.func24,Try.ntmps24
         go_wp2_with (first|((with_reducible refine gate_dst (N:=3) rfl ?_);(refine box_event ?hg (N:=3) ?hd (cs:=#[.slice A0 l0.length c0,.slice A1 l1.length c1]) (t:=25) ?hr ?_);(case hd=>rfl);(case hg=>rfl);(case hr=>first|(go_simp;done)|(go_simp;rfl));intro g hg w1 hb1 hB1;have HB1:=Lib.hid hB1;have Hb1:=Lib.hid hb1;have hq0:=(blk_cell hb1 0).trans rfl;have hq1:=(blk_cell hb1 1).trans rfl;clear hB1 hb1 hg)|(go_at_call 31;refine (wageofficeref42_Valid.calls kv _ _ l0 _ _ l1 _ _ (Kd.C_below h0 HB1.out) hc0 (Kd.C_below h1 HB1.out) hc1 Hkv.out).mono ?_;rintro e w3 ⟨rfl,hb3⟩;rw [Hv.out];clear hq0 hq1;have hq0:=(blk_cell (blk_below Hb1.out hb3) 0).trans rfl;have HB3:=Lib.hid (below_then HB1.out HB1.out.size hb3);clear hb3 Hb1) )
         go_ret2
         exact ⟨rfl,HB3.out⟩
       · have e4:c > (l0.length:Int) - a:=by omega
         have e5:a ≤ (l0.length:Int):=by omega
         clear hn
         go_enter Try.func24,Try.ntmps24
         go_wp2_with (first|((with_reducible refine gate_dst (N:=3) rfl ?_);(refine box_event ?hg (N:=3) ?hd (cs:=#[.slice A0 l0.length c0,.slice A1 l1.length c1]) (t:=25) ?hr ?_);(case hd=>rfl);(case hg=>rfl);(case hr=>first|(go_simp;done)|(go_simp;rfl));intro g hg w1 hb1 hB1;have HB1:=Lib.hid hB1;have Hb1:=Lib.hid hb1;have hq0:=(blk_cell hb1 0).trans rfl;have hq1:=(blk_cell hb1 1).trans rfl;clear hB1 hb1 hg)|(go_at_call 31;refine (wageofficeref42_Valid.calls kv _ _ l0 _ _ l1 _ _ (Kd.C_below h0 HB1.out) hc0 (Kd.C_below h1 HB1.out) hc1 Hkv.out).mono ?_;rintro e w3 ⟨rfl,hb3⟩;rw [Hv.out];clear hq0 hq1;have hq0:=(blk_cell (blk_below Hb1.out hb3) 0).trans rfl;have HB3:=Lib.hid (below_then HB1.out HB1.out.size hb3);clear hb3 Hb1) )
         go_ret2
         exact ⟨rfl,HB3.out⟩
theorem field25 (u v:Value) (W:World):(Instr.field 25 (.agg #[u,v]) 0).run Try.prog W=.ok u W:=by
 have hu25:=Try.underlying25
 have hu22:=Try.underlying22
 simp [Instr.field,run_underlying hu25,run_underlying hu22,part,isAgg,asAgg,Result.andThen]
theorem field25b (u v:Value) (W:World):(Instr.field 25 (.agg #[u,v]) 1).run Try.prog W=.ok v W:=by
 have hu25:=Try.underlying25
 have hu23:=Try.underlying23
 simp [Instr.field,run_underlying hu25,run_underlying hu23,part,isAgg,asAgg,Result.andThen]
set_option maxHeartbeats 800000 in
theorem refRead_yes (A0:Option Addr) (c0:Nat) (l0:List Int) (A1:Option Addr) (c1:Nat) (l1:List S45) (a c:Int) (w:World)
 (h0:Kd.C (Kd.int .u8) w A0 l0.length l0) (hc0:l0.length ≤ c0) (h1:Kd.C k45 w A1 l1.length l1) (hc1:l1.length ≤ c1) (hr:readOk l0 l1 a c=true) :
  Calls Try.prog 24 #[.agg #[.slice A0 l0.length c0,.slice A1 l1.length c1],.int .i64 a,.int .i64 c] w fun e w'=>∃ v,e=.returned (.tuple #[v,.int .i64 0])∧Kd.Q (Kd.int .u8) 5 w' w.heap.size (fun _=>True) v (((syncL l0 l1).take (a + c).toNat).drop a.toNat)∧Below w.heap.size w w':=by
 have hu25:=Try.underlying25
 have hu22:=Try.underlying22
 obtain ⟨i5,hi5,_,hs5,_⟩:=info_parts info5
 obtain ⟨kv,hkv⟩:=(valid_ev l0 l1 (fit_of h1)).rounds
 have Hkv:=Lib.hid hkv
 clear hkv
 unfold readOk at hr
 rw [Bool.and_eq_true] at hr
 have hl:=((validB_iff l0 l1).1 hr.1).1
 obtain ⟨ks,hks⟩:=(sync_ev l0 l1 (fit_of h1) (by omega)).rounds
 have Hks:=Lib.hid hks
 clear hks
 obtain ⟨e0,e00,e1,e2⟩:=(isPartB_iff _ _ _).1 hr.2
 have hwr:IntKind.i64.wrap (a + c)=a + c:=IntWalk.i64_in _ (by omega)
 have hlen:(syncL l0 l1).length=l0.length:=by
  unfold syncL
  rw [if_pos hr.1]
  exact applyN_length _ l0 l1 hr.1 l1.length (Nat.le_refl _)
 have hac:0 ≤ a + c:=by omega
 have hac2:a ≤ a + c:=by omega
 have Hv:=Lib.hid hr.1
 have Hlen:=Lib.hid hlen
 have hfd:=field25
 clear hr hlen
 go_enter Try.func24,Try.ntmps24
 go_wp2_with (first|((with_reducible refine gate_dst (N:=3) rfl ?_);(refine box_event ?hg (N:=3) ?hd (cs:=#[.slice A0 l0.length c0,.slice A1 l1.length c1]) (t:=25) ?hr ?_);(case hd=>rfl);(case hg=>rfl);(case hr=>first|(go_simp;done)|(go_simp;rfl));intro g hg w1 hb1 hB1;have HB1:=Lib.hid hB1;have Hb1:=Lib.hid hb1;have hq0:=(blk_cell hb1 0).trans rfl;have hq1:=(blk_cell hb1 1).trans rfl;clear hB1 hb1 hg)|(go_at_call 31;refine (wageofficeref42_Valid.calls kv _ _ l0 _ _ l1 _ _ (Kd.C_below h0 HB1.out) hc0 (Kd.C_below h1 HB1.out) hc1 Hkv.out).mono ?_;rintro e w3 ⟨rfl,hb3⟩;rw [Hv.out];clear hq0 hq1;have hq0:=(blk_cell (blk_below Hb1.out hb3) 0).trans rfl;have hq1:=(blk_cell (blk_below Hb1.out hb3) 1).trans rfl;have HB3:=Lib.hid (below_then HB1.out HB1.out.size hb3);clear hb3 Hb1)|(go_at_call 27;refine (wageofficeref42_Sync.calls ks _ _ l0 _ _ l1 _ _ _ (Kd.C_below h0 HB3.out) hc0 (Kd.C_below h1 HB3.out) hc1 Hks.out).mono ?_;rintro e w4 ⟨v0,v1,rfl,hr4,hs4,hb4⟩;obtain ⟨A5,cap5,rfl⟩:=Kd.R_slice hr4;obtain ⟨A6,n6,cap6,rfl⟩:=S_any hs4;have hn5:=(Kd.R_reads' hr4).2.1;have hcut:=cut_mid (P:=Try.prog) 22 5 .i64 .i64 hu22 hi5 1 hs5 A5 (syncL l0 l1).length cap5 a (a + c) e0 hac2 (by rw [Hlen.out];omega) hn5;obtain ⟨dp,hdp⟩:∃ dp,dp=(if cap5=a.toNat then A5 else A5.map (·.add (a.toNat * 1))):=⟨_,rfl⟩;rw [← hdp] at hcut;have HQ:Hid (Kd.Q (Kd.int .u8) 5 w4 w3.heap.size (fun _=>True) (.slice dp ((a + c).toNat - a.toNat) (cap5 - a.toNat)) (((syncL l0 l1).take (a + c).toNat).drop a.toNat)):=(Lib.hid (by rw [hdp];exact Kd.Q_drop (Kd.Q_take (Kd.Q_of_R hr4) (by rw [Hlen.out];omega)) (by rw [List.length_take,Hlen.out];omega)));have HB4:=Lib.hid (below_then HB3.out HB3.out.size hb4);have HL4:=Lib.hid (HB3.out.size);clear hb4 hr4 hs4 hn5 hdp) )
 go_ret2
 exact ⟨_,rfl,Kd.Q_lower HQ.out HL4.out,HB4.out⟩
theorem wageofficeref42_Read.calls (A0_0:Option Addr) (c0_0:Nat) (l0_0:List Int) (A0_1:Option Addr) (c0_1:Nat) (l0_1:List (S45)) (a1:Int) (a2:Int) (r1:List Int) (r2:Int) (w:World) (hr0_0:Kd.C (Kd.int .u8) w A0_0 l0_0.length l0_0) (hc0_0:l0_0.length ≤ c0_0) (hr0_1:Kd.C k45 w A0_1 l0_1.length l0_1) (hc0_1:l0_1.length ≤ c0_1) (h:wageofficeref42_Read.f l0_0 l0_1 a1 a2=some (r1,r2)) :
 Calls Try.prog 24 #[.agg #[.slice A0_0 l0_0.length c0_0,.slice A0_1 l0_1.length c0_1],.int .i64 a1,.int .i64 a2] w fun e w'=>∃ v0_:Value,e=.returned (.tuple #[v0_,.int .i64 r2])∧Kd.Q (Kd.int .u8) 5 w' w.heap.size (fun _=>True) v0_ r1∧Below w.heap.size w w':=by
 unfold wageofficeref42_Read.f at h
 injection h with h
 obtain ⟨rfl,rfl⟩:=h
 cases hr:readOk l0_0 l0_1 a1 a2
 · refine (refRead_no _ _ l0_0 _ _ l0_1 a1 a2 w hr0_0 hc0_0 hr0_1 hc0_1 hr).mono ?_
   rintro e w' ⟨rfl,hb⟩
   refine ⟨_,rfl,?_,hb⟩
   unfold readL
   rw [hr,if_neg (by simp)]
   exact Kd.Q_nil _ _ _ _ _
 · refine (refRead_yes _ _ l0_0 _ _ l0_1 a1 a2 w hr0_0 hc0_0 hr0_1 hc0_1 hr).mono ?_
   rintro e w' ⟨v,rfl,hq,hb⟩
   refine ⟨_,rfl,?_,hb⟩
   unfold readL
   unfold readOk at hr
   rw [Bool.and_eq_true] at hr
   unfold syncL at hq
   rw [if_pos hr.1] at hq
   unfold readOk
   rw [hr.1,hr.2,Bool.and_self,if_pos rfl]
   exact hq
end Go.Proofs.Ytfpdmlhknddffaa.Dk
end
section
namespace Go.Proofs.Ytfpdmlhknddffaa.Dk
open Go.RowKit Go.Proofs.YtfpdmlhknddffaaW.PrintWords Go.Proofs.YtfpdmlhknddffaaW.PrintLast Go.Proofs.YtfpdmlhknddffaaW.PrintMore
open Go.ChangeShapes Go.WideShapes Go.ChangeAt Go.Joins Go.Deep
set_option linter.unusedVariables false
theorem laidOut : laidOutB Try.prog = true := by kernel_rfl
theorem open_row {k : IntKind} {w : World} {H : Type} {enc : TypeId × Value → H} {base : Nat} {spare : Nat → Bool} {held : Bool} {t e : TypeId} {fuel : Nat} {cs : List Value} {x : DataW H × List MemPlace}
 (ht : Try.prog.underlying t = some (.slice e)) (he : Try.prog.underlying e = some (.int k)) (hc : Try.prog.cellsOf e = 1) (h : DataW.trod enc Try.prog w base spare held fuel t cs = some x) :
 ∃ (A : Option Addr) (c : Nat) (l : List Int), cs = [.slice A l.length c] ∧ l.length ≤ c ∧ Kd.C (Kd.int k) w A l.length l ∧ ∀ n ∈ l, (Lit.int k n).wf = true := by
 rcases open_ints ht he hc h with ⟨rfl, _⟩ | ⟨a, len, cap, zs, rfl, _, hl, hm, hz, _, hcell, hwz⟩
 · exact ⟨none, 0, [], rfl, Nat.le_refl _, Kd.C_nil _ _, fun n hn => by simp at hn⟩
 · have hle : len ≤ zs.length := by rw [hz]; split <;> omega
   have hlen : (zs.take len).length = len := by rw [List.length_take]; omega
   have hmax : cap ≤ 9223372036854775807 := hm
   have hr : ReadsInt w k (some a) len (zs.take len) := ⟨hlen, by omega, fun _ => ⟨a, rfl, fun j hj => by
    rw [hcell j (by omega)]
    simp [List.getD, hj]⟩⟩
   refine ⟨some a, cap, zs.take len, by rw [hlen], by omega, ?_, fun n hn => hwz n (List.mem_of_mem_take hn)⟩
   rw [hlen]
   exact Kd.C_of_reads (d := (0 : Int)) (h1 := fun _ => rfl) hr
theorem open_slice_v {r : Reach} {k : IntKind} {w : World} {H : Type} {enc : TypeId × Value → H} {base b0 : Nat} {spare : Nat → Bool} {held : Bool} {t e : TypeId} {v : Value} {d : DataW H} {p : List MemPlace}
 (ht : Try.prog.underlying t = some (.slice e)) (he : Try.prog.underlying e = some (.int k)) (hc : Try.prog.cellsOf e = 1) (hv : Value.okWide Try.prog w r b0 t v) (h : DataW.Trod enc Try.prog w base spare held t v d p) :
 ∃ (A : Option Addr) (c : Nat) (l : List Int), v = .slice A l.length c ∧ Kd.C (Kd.int k) w A l.length l ∧ l.length ≤ c ∧ ∀ n ∈ l, (Lit.int k n).wf = true := by
 obtain ⟨a, len, cap, rfl⟩ := okWide_slice ht hv
 obtain ⟨fuel, hf⟩ := h
 obtain ⟨A, c, l, e, hl, hC, hw⟩ := open_row ht he hc hf
 simp [Value.cells] at e
 obtain ⟨rfl, rfl, rfl⟩ := e
 exact ⟨_, _, l, rfl, hC, hl, hw⟩
end Go.Proofs.Ytfpdmlhknddffaa.Dk
end
section
namespace Go.Proofs.Ytfpdmlhknddffaa.Dk
open Go.RowKit Go.Proofs.YtfpdmlhknddffaaW.PrintWords Go.Proofs.YtfpdmlhknddffaaW.PrintLast Go.Proofs.YtfpdmlhknddffaaW.PrintMore
open Go.ChangeShapes Go.WideShapes Go.ChangeAt Go.Joins Go.Deep
set_option linter.unusedVariables false
theorem open_row2 {w : World} {H : Type} {enc : TypeId × Value → H} {base : Nat} {spare : Nat → Bool} {held : Bool} {fuel : Nat} {cs : List Value} {x : DataW H × List MemPlace}
 (h : DataW.trod enc Try.prog w base spare held fuel 22 cs = some x) :
 ∃ (A : Option Addr) (c : Nat) (l : List Int), cs = [.slice A l.length c] ∧ l.length ≤ c ∧ Kd.C (Kd.int .u8) w A l.length l ∧ (∀ n ∈ l, (Lit.int .u8 n).wf = true) ∧ ∀ R, (∀ m ∈ x.1.weights Try.prog 22, m ≤ R) → l.length ≤ R := by
 rcases open_ints (k := .u8) (e := 5) Try.underlying22 (by kernel_rfl) (by kernel_rfl) h with ⟨rfl, rfl⟩ | ⟨a, len, cap, zs, rfl, _, hl, hm, hz, rfl, hcell, hwz⟩
 · exact ⟨none, 0, [], rfl, Nat.le_refl _, Kd.C_nil _ _, fun n hn => by simp at hn, fun _ _ => Nat.zero_le _⟩
 · have hle : len ≤ zs.length := by rw [hz]; split <;> omega
   have hlen : (zs.take len).length = len := by rw [List.length_take]; omega
   have hmax : cap ≤ 9223372036854775807 := hm
   have hr : ReadsInt w .u8 (some a) len (zs.take len) := ⟨hlen, by omega, fun _ => ⟨a, rfl, fun j hj => by
    rw [hcell j (by omega)]
    simp [List.getD, hj]⟩⟩
   refine ⟨some a, cap, zs.take len, by rw [hlen], by omega, ?_, fun n hn => hwz n (List.mem_of_mem_take hn), fun R hR => ?_⟩
   · rw [hlen]
     exact Kd.C_of_reads (d := (0 : Int)) (h1 := fun _ => rfl) hr
   · have hb : Try.prog.bytesOf 5 = 1 := by kernel_rfl
     have hu := Try.underlying22
     have := hR (((lits (H := H) .u8 (zs.take len)).length + (lits (H := H) .u8 (zs.drop len)).length) * Try.prog.bytesOf 5) (by simp [DataW.weights, hu])
     rw [hb] at this
     simp [lits] at this
     rw [hlen]
     omega
theorem weightsAll_mem {H : Type} {P : Program} {e : TypeId} {d : DataW H} : ∀ {l : List (DataW H)}, d ∈ l → ∀ m ∈ d.weights P e, m ∈ DataW.weightsAll P e l := by
 intro l
 induction l with
 | nil => intro h; simp at h
 | cons y l ih =>
  intro h m hm
  simp only [DataW.weightsAll, List.mem_append]
  rcases List.mem_cons.1 h with rfl | h
  · exact .inl hm
  · exact .inr (ih h m hm)
theorem open_writes2 {w : World} {H : Type} {enc : TypeId × Value → H} {base : Nat} {spare : Nat → Bool} {held : Bool} {fuel : Nat} {cs : List Value} {x : DataW H × List MemPlace}
 (h : DataW.trod enc Try.prog w base spare held fuel 23 cs = some x) :
 ∃ (A : Option Addr) (c : Nat) (l : List S45), cs = [.slice A l.length c] ∧ l.length ≤ c ∧ Kd.C k45 w A l.length l ∧ (∀ y ∈ l, (Lit.int .i64 y.f0).wf = true) ∧ (∀ y ∈ l, ∀ n ∈ y.f1, (Lit.int .u8 n).wf = true) ∧ ∀ R, (∀ m ∈ x.1.weights Try.prog 23, m ≤ R) → ∀ y ∈ l, y.f1.length ≤ R := by
 rcases open_slice_pairs Try.underlying23 Try.underlying45 (by kernel_rfl) rfl rfl (by kernel_rfl) (by kernel_rfl) h with ⟨rfl, _⟩ | ⟨a, len, cap, m, n, V0, V1, D0, D1, P0, P1, rfl, _, hl, hm, hmm, rfl, hcell⟩
 · exact ⟨none, 0, [], rfl, Nat.le_refl _, Kd.C_nil _ _, fun n hn => by simp at hn, fun n hn => by simp at hn, fun R _ n hn => by simp at hn⟩
 · have hle : len ≤ m := by rw [hmm]; split <;> omega
   have H : ∀ i, i < len → ∃ (y : S45) (A1 : Option Addr) (c1 : Nat), w.cell? (a.add (i * 2)) = some (.int .i64 y.f0) ∧ w.cell? (a.add (i * 2 + 1)) = some (.slice A1 y.f1.length c1) ∧ y.f1.length ≤ c1 ∧ Kd.C (Kd.int .u8) w A1 y.f1.length y.f1 ∧ (Lit.int .i64 y.f0).wf = true ∧ (∀ n ∈ y.f1, (Lit.int .u8 n).wf = true) ∧ ∀ R, (∀ m ∈ (D1 i).weights Try.prog 22, m ≤ R) → y.f1.length ≤ R := by
    intro i hi
    obtain ⟨h0, h1, t0, t1⟩ := hcell i (by omega)
    obtain ⟨n0, e0, _, wf0⟩ := DataW.trod_int (k := .i64) (by kernel_rfl) t0
    obtain ⟨A1, c1, l1, e1, hc1, hC1, hw1, hR1⟩ := open_row2 t1
    simp at e0 e1
    exact ⟨⟨n0, l1⟩, A1, c1, by rw [h0, e0], by rw [h1, e1], hc1, hC1, wf0, hw1, hR1⟩
   let F : Nat → S45 := fun i => if hi : i < len then Classical.choose (H i hi) else z45
   have HF : ∀ i, i < len → ∃ (A1 : Option Addr) (c1 : Nat), w.cell? (a.add (i * 2)) = some (.int .i64 (F i).f0) ∧ w.cell? (a.add (i * 2 + 1)) = some (.slice A1 (F i).f1.length c1) ∧ (F i).f1.length ≤ c1 ∧ Kd.C (Kd.int .u8) w A1 (F i).f1.length (F i).f1 ∧ (Lit.int .i64 (F i).f0).wf = true ∧ (∀ n ∈ (F i).f1, (Lit.int .u8 n).wf = true) ∧ ∀ R, (∀ m ∈ (D1 i).weights Try.prog 22, m ≤ R) → (F i).f1.length ≤ R := by
    intro i hi
    have e : F i = Classical.choose (H i hi) := dif_pos hi
    rw [e]
    exact Classical.choose_spec (H i hi)
   have hlen : ((List.range len).map F).length = len := by simp
   have hmax : cap ≤ 9223372036854775807 := hm
   refine ⟨some a, cap, (List.range len).map F, by rw [hlen], by omega, ?_, ?_, ?_, ?_⟩
   · rw [hlen]
     refine ⟨hlen, by omega, fun _ => ⟨a, rfl, fun j p hj => ?_⟩⟩
     have hj2 : j < len := by
      have := (List.getElem?_eq_some_iff.1 hj).1
      rw [hlen] at this
      exact this
     obtain rfl : F j = p := by simpa [hj2] using hj
     obtain ⟨A1, c1, q0, q1, q2, q3, _⟩ := HF j hj2
     refine ⟨[.int .i64 (F j).f0, .slice A1 (F j).f1.length c1], rfl, k45_mk w (F j) q2 q3, fun i u hu => ?_⟩
     match i, hu with
     | 0, hu => simp at hu; subst hu; exact q0
     | 1, hu => simp at hu; subst hu; exact q1
     | i + 2, hu => simp at hu
   · intro y hy
     obtain ⟨i, hi, rfl⟩ := List.mem_map.1 hy
     exact (HF i (List.mem_range.1 hi)).choose_spec.choose_spec.2.2.2.2.1
   · intro y hy
     obtain ⟨i, hi, rfl⟩ := List.mem_map.1 hy
     exact (HF i (List.mem_range.1 hi)).choose_spec.choose_spec.2.2.2.2.2.1
   · intro R hR y hy
     obtain ⟨i, hi, rfl⟩ := List.mem_map.1 hy
     refine (HF i (List.mem_range.1 hi)).choose_spec.choose_spec.2.2.2.2.2.2 R (fun q hq => hR q ?_)
     have hu := Try.underlying23
     have hu45 := Try.underlying45
     simp only [DataW.weights, hu, List.mem_cons, List.mem_append]
     refine .inr (.inl (weightsAll_mem (d := .agg [D0 i, D1 i]) (List.mem_map.2 ⟨i, hi, rfl⟩) q ?_))
     simp only [DataW.weights, hu45]
     simp [DataW.weightsEach, hq]
theorem u8_of {n : Int} (h : (Lit.int .u8 n).wf = true) : 0 ≤ n ∧ n ≤ 255 := bounds_u8 h
theorem open_disk2 {r : Reach} {w : World} {H : Type} {enc : TypeId × Value → H} {base b0 : Nat} {spare : Nat → Bool} {held : Bool} {v : Value} {d : DataW H} {p : List MemPlace}
 (hv : Value.okWide Try.prog w r b0 25 v) (h : DataW.Trod enc Try.prog w base spare held 25 v d p) (hz : ∀ m ∈ d.weights Try.prog 25, m ≤ reachBytes) :
 ∃ (A0 A1 : Option Addr) (c0 c1 : Nat) (l0 : List Int) (l1 : List S45), v = .agg #[.slice A0 l0.length c0, .slice A1 l1.length c1] ∧ Kd.C (Kd.int .u8) w A0 l0.length l0 ∧ l0.length ≤ c0 ∧ Kd.C k45 w A1 l1.length l1 ∧ l1.length ≤ c1 ∧ l0.length ≤ 140737488355328 ∧ (∀ x ∈ l1, x.f1.length ≤ 140737488355328) ∧ (∀ x ∈ l0, 0 ≤ x ∧ x ≤ 255) ∧ ∀ y ∈ l1, ∀ x ∈ y.f1, 0 ≤ x ∧ x ≤ 255 := by
 obtain ⟨v0, v1, y0, y1, n, rfl, rfl, _, t0, t1⟩ := open_agg2 Try.underlying25 (by kernel_rfl) (by kernel_rfl) hv h
 obtain ⟨A0, c0, l0, e0, h0, C0, w0, z0⟩ := open_row2 t0
 obtain ⟨A1, c1, l1, e1, h1, C1, _, w1, z1⟩ := open_writes2 t1
 simp at e0 e1
 subst e0 e1
 have hr : reachBytes ≤ 140737488355328 := by decide
 have hu := Try.underlying25
 have hz0 : ∀ m ∈ y0.1.weights Try.prog 22, m ≤ reachBytes := fun m hm => hz m (by simp [DataW.weights, hu, DataW.weightsEach, hm])
 have hz1 : ∀ m ∈ y1.1.weights Try.prog 23, m ≤ reachBytes := fun m hm => hz m (by simp [DataW.weights, hu, DataW.weightsEach, hm])
 exact ⟨A0, A1, c0, c1, l0, l1, rfl, C0, h0, C1, h1, Nat.le_trans (z0 _ hz0) hr, fun x hx => Nat.le_trans (z1 _ hz1 x hx) hr, fun x hx => u8_of (w0 x hx), fun y hy x hx => u8_of (w1 y hy x hx)⟩
end Go.Proofs.Ytfpdmlhknddffaa.Dk
end
section
namespace Go.Proofs.Ytfpdmlhknddffaa.Dk
open Go.RowKit Go.Proofs.YtfpdmlhknddffaaW.PrintWords Go.Proofs.YtfpdmlhknddffaaW.PrintLast Go.Proofs.YtfpdmlhknddffaaW.PrintMore
attribute [local go_sem] field25 field25b
set_option linter.unusedVariables false
set_option linter.unusedSimpArgs false
def Dsk (w:World) (base gd:Nat) (S:List Int) (P:List S45):Prop :=
 ∃ A c A' c',w.heap[gd]? = some (.cells #[.slice A S.length c,.slice A' P.length c'] 25 (0,0))∧Kd.R (Kd.int .u8) 5 w base (fun _=>True) (.slice A S.length c) S∧Kd.S k45 45 w base (fun _=>True) (.slice A' P.length c') P
theorem Dsk.below {w w1:World} {base gd:Nat} {S:List Int} {P:List S45} (h:Dsk w base gd S P) (hb:Below w.heap.size w w1):Dsk w1 base gd S P:=by
 obtain ⟨A,c,A',c',h1,h2,h3⟩:=h
 exact ⟨A,c,A',c',blk_below h1 hb,Kd.R_below h2 hb,Kd.S_below h3 hb⟩
theorem Dsk.put {w1:World} {base base' gd:Nat} {x y:Value} {S:List Int} {P:List S45} {v0 v1:Value} (hg:w1.heap[gd]? = some (.cells #[x,y] 25 (0,0)))
 (hr:Kd.R (Kd.int .u8) 5 w1 base' (fun _=>True) v0 S) (hs:Kd.S k45 45 w1 base' (fun k=>some k ≠ v0.ownBlock) v1 P) (hb:base ≤ base') :
 ∃ A c A' c',v0=.slice A S.length c∧v1=.slice A' P.length c'∧Dsk ((w1.setCell ⟨gd,0,none⟩ v0).setCell ⟨gd,1,none⟩ v1) base gd S P:=by
 obtain ⟨A,c,rfl⟩:=Kd.R_slice hr
 obtain ⟨A',c',rfl⟩:=Kd.S_slice hs
 refine ⟨A,c,A',c',rfl,rfl,A,c,A',c',two_cells hg _ _,?_,?_⟩
 · exact Kd.R_lower (Kd.R_set (Kd.R_set hr hg (by decide) 0 _) (blk_put hg 0 _ rfl) (by decide) 1 _) hb
 · exact Kd.S_lower (Kd.S_mono (Kd.S_set (Kd.S_set hs hg (by decide) 0 _) (blk_put hg 0 _ rfl) (by decide) 1 _) (fun _ _=>trivial)) hb
end Go.Proofs.Ytfpdmlhknddffaa.Dk
end
section
namespace Go.Proofs.Ytfpdmlhknddffaa.Dk
open Go.RowKit Go.Proofs.YtfpdmlhknddffaaW.PrintWords Go.Proofs.YtfpdmlhknddffaaW.PrintLast Go.Proofs.YtfpdmlhknddffaaW.PrintMore
end Go.Proofs.Ytfpdmlhknddffaa.Dk
end
section
namespace Go.Proofs.Ytfpdmlhknddffaa.Dk
open Go.RowKit Go.Proofs.YtfpdmlhknddffaaW.PrintWords Go.Proofs.YtfpdmlhknddffaaW.PrintLast Go.Proofs.YtfpdmlhknddffaaW.PrintMore
attribute [local go_sem] max2_int min2_int max_two min_two max_three min_three max_four min_four
set_option linter.unusedVariables false
set_option linter.unusedSimpArgs false
theorem k45_openF {W:World} {ok:Nat→Prop} {x:S45} {cs:List Value} (h:Kd.FK k45 W ok x cs):∃ A1 c1,cs=[.int .i64 x.f0,.slice A1 x.f1.length c1]∧x.f1.length ≤ c1∧Kd.F (Kd.int .u8) W ok A1 x.f1.length x.f1:=by
 obtain ⟨A1,c1,rfl,l1,_⟩:=k45_open (Kd.FK_now h)
 exact ⟨A1,c1,rfl,l1,(fun W' hW=>by obtain ⟨A1_,c1_,he,l1_,g1_⟩:=k45_open (h W' hW);injection (Option.some.inj (show some (Value.slice A1 x.f1.length c1)=some (Value.slice A1_ x.f1.length c1_) from congrArg (fun l=>l[1]?) he)) with ha_ _ _;rw [ha_];exact g1_)⟩
theorem k45_mkF (W:World) (ok:Nat→Prop) (x:S45) {A1:Option Addr} {c1:Nat} (l1:x.f1.length ≤ c1) (g1:Kd.F (Kd.int .u8) W ok A1 x.f1.length x.f1):Kd.FK k45 W ok x [.int .i64 x.f0,.slice A1 x.f1.length c1]:=fun W2 hW=>k45_mk W2 x l1 (g1 W2 hW)
structure S25 where
 f0:(List Int)
 f1:(List S45)
end Go.Proofs.Ytfpdmlhknddffaa.Dk
end
section
namespace Go.Proofs.Ytfpdmlhknddffaa.Dk
open Go.RowKit Go.Proofs.YtfpdmlhknddffaaW.PrintWords Go.Proofs.YtfpdmlhknddffaaW.PrintLast Go.Proofs.YtfpdmlhknddffaaW.PrintMore
set_option linter.unusedVariables false
set_option linter.unusedSimpArgs false
def stepS (x b:Int):Int:=bits .xor .u64 (IntKind.u64.wrap (bits .xor .u64 x (IntKind.u64.wrap b) * 1099511628211)) (shr .u64 (IntKind.u64.wrap (bits .xor .u64 x (IntKind.u64.wrap b) * 1099511628211)) 32)
theorem add_calls (g:Nat) (x b:Int) (w:World) (B:Nat) (hg:w.heap[g]? = some (.cells #[.int .u64 x] 83 (0,0))) (hB:B ≤ g) :
 Calls Try.prog 66 #[.pointer (some ⟨g,0,none⟩),.int .u8 b] w fun e w'=>e=.returned (.tuple #[])∧w'.heap[g]? = some (.cells #[.int .u64 (stepS x b)] 83 (0,0))∧Below B w w':=by
 have hu83:=Try.underlying83
 have Hg:=Lib.hid hg
 have HB:=Lib.hid hB
 have k0:w.cell? ⟨g,0,none⟩=some (.int .u64 x):=(blk_cell hg 0).trans rfl
 have k1:=blk_frozen hg 0
 clear hg hB
 go_enter Try.func66,Try.ntmps66
 go_wp2_with (fail)
 clear k0 k1
 obtain ⟨y,hy⟩:∃ y,y=IntKind.u64.wrap (bits .xor .u64 x (IntKind.u64.wrap b) * 1099511628211):=⟨_,rfl⟩
 rw [← hy]
 obtain ⟨w1,hw1⟩:∃ W,W=w.setCell ⟨g,0,none⟩ (.int .u64 y):=⟨_,rfl⟩
 rw [← hw1]
 have G1:Hid (w1.heap[g]? = some (.cells #[.int .u64 y] 83 (0,0))):=Lib.hid (by rw [hw1];exact blk_put Hg.out 0 _ rfl)
 have B1:Hid (Below B w w1):=Lib.hid (by rw [hw1];exact (Below.refl B w).setCell HB.out _)
 have Hy:=Lib.hid hy
 clear hy hw1
 refine start_ (n:=10) (S:=fun w'=>w'.cell? ⟨g,0,none⟩=some (.int .u64 y)) (ds:=[9]) #[false,false,false,false,false,false,false,false,false,false] (by kernel_rfl) rfl rfl (by exact (blk_cell (blk_drew G1.out) 0).trans rfl) ?_
 intro hHeld
 refine pure_ (i:=0) (N:=some 13) (v:=?_) (a':=?_) #[true,false,false,false,false,false,false,false,false,false] rfl rfl (by kernel_rfl) (fun _ _ _ h=>h) (Or.inl ⟨by rfl,?_⟩) ?_ ?_
 rotate_left
 · intro w'
   go_simp
   try (with_reducible rfl)
 rotate_left
 · simp only [Act.put,List.setIfInBounds_toArray,List.set_cons_zero,List.set_cons_succ]
   rfl
 refine pure_ (i:=1) (N:=some 14) (v:=?_) (a':=?_) #[true,true,false,false,false,false,false,false,false,false] rfl rfl (by kernel_rfl) (fun _ _ _ h=>h) (Or.inl ⟨by rfl,?_⟩) ?_ ?_
 rotate_left
 · intro w'
   go_simp
   try (with_reducible rfl)
 rotate_left
 · simp only [Act.put,List.setIfInBounds_toArray,List.set_cons_zero,List.set_cons_succ]
   rfl
 refine pure_ (i:=3) (N:=some 16) (v:=?_) (a':=?_) #[true,true,false,true,false,false,false,false,false,false] rfl rfl (by kernel_rfl) (fun _ _ _ h=>h) (Or.inl ⟨by rfl,?_⟩) ?_ ?_
 rotate_left
 · intro w'
   go_simp
   try (with_reducible rfl)
 rotate_left
 · simp only [Act.put,List.setIfInBounds_toArray,List.set_cons_zero,List.set_cons_succ]
   rfl
 refine pure_ (i:=4) (N:=some 17) (v:=?_) (a':=?_) #[true,true,false,true,true,false,false,false,false,false] rfl rfl (by kernel_rfl) (fun _ _ _ h=>h) (Or.inl ⟨by rfl,?_⟩) ?_ ?_
 rotate_left
 · intro w'
   go_simp
   try (with_reducible rfl)
 rotate_left
 · simp only [Act.put,List.setIfInBounds_toArray,List.set_cons_zero,List.set_cons_succ]
   rfl
 refine take_ (i:=2) (N:=some 15) (v:=?_) (a':=?_) #[true,true,true,true,true,false,false,false,false,false] rfl rfl (by kernel_rfl) (fun _ _ _ h=>h) (Or.inl ⟨by rfl,?_⟩) hHeld ?_ ?_
 rotate_left
 · intro w' s0
   go_simp
   with_reducible rfl
 rotate_left
 · simp only [Act.put,List.setIfInBounds_toArray,List.set_cons_zero,List.set_cons_succ]
   rfl
 refine take_ (i:=5) (N:=some 18) (v:=?_) (a':=?_) #[true,true,true,true,true,true,false,false,false,false] rfl rfl (by kernel_rfl) (fun _ _ _ h=>h) (Or.inl ⟨by rfl,?_⟩) hHeld ?_ ?_
 rotate_left
 · intro w' s0
   go_simp
   with_reducible rfl
 rotate_left
 · simp only [Act.put,List.setIfInBounds_toArray,List.set_cons_zero,List.set_cons_succ]
   rfl
 refine pure_ (i:=6) (N:=some 19) (v:=?_) (a':=?_) #[true,true,true,true,true,true,true,false,false,false] rfl rfl (by kernel_rfl) (fun _ _ _ h=>h) (Or.inl ⟨by rfl,?_⟩) ?_ ?_
 rotate_left
 · intro w'
   go_simp
   try (with_reducible rfl)
 rotate_left
 · simp only [Act.put,List.setIfInBounds_toArray,List.set_cons_zero,List.set_cons_succ]
   rfl
 refine pure_ (i:=7) (N:=some 20) (v:=?_) (a':=?_) #[true,true,true,true,true,true,true,true,false,false] rfl rfl (by kernel_rfl) (fun _ _ _ h=>h) (Or.inl ⟨by rfl,?_⟩) ?_ ?_
 rotate_left
 · intro w'
   go_simp
   try (with_reducible rfl)
 rotate_left
 · simp only [Act.put,List.setIfInBounds_toArray,List.set_cons_zero,List.set_cons_succ]
   rfl
 refine pure_ (i:=8) (N:=some 21) (v:=?_) (a':=?_) #[true,true,true,true,true,true,true,true,true,false] rfl rfl (by kernel_rfl) (fun _ _ _ h=>h) (Or.inl ⟨by rfl,?_⟩) ?_ ?_
 rotate_left
 · intro w'
   go_simp
   try (with_reducible rfl)
 rotate_left
 · simp only [Act.put,List.setIfInBounds_toArray,List.set_cons_zero,List.set_cons_succ]
   rfl
 have G2:=Lib.hid (blk_drew G1.out)
 have B2:=Lib.hid (below_drew B1.out)
 generalize w1.drew=w2 at G2 B2 hHeld ⊢
 have k0:=(blk_cell G2.out 0).trans rfl
 have k1:=blk_frozen G2.out 0
 refine last_ (i:=9) (N:=none) #[true,true,true,true,true,true,true,true,true,true] rfl rfl (by kernel_rfl) (by decide) (fun K hK => ?_)
 refine skip_ (w1:=?_) (by rfl) rfl ?_ ?_
 rotate_left
 · go_simp
   rfl
 refine hK.out _ _ ?_
 clear hK K
 refine done_ (by kernel_rfl) ?_
 refine bodyPost_end (v:=.tuple #[]) (by simp [results,Try.results66,go_sem]) rfl ⟨rfl,?_,B2.out.setCell HB.out _⟩
 unfold stepS
 rw [← Hy.out]
 exact blk_put G2.out 0 _ rfl
def finS (x n:Int):Int :=
 let y0:=bits .xor .u64 x (IntKind.u64.wrap n)
 let y1:=bits .xor .u64 y0 (shr .u64 y0 31)
 let y2:=IntKind.u64.wrap (y1 * 13787848793156543929)
 let y3:=bits .xor .u64 y2 (shr .u64 y2 27)
 let y4:=IntKind.u64.wrap (y3 * 10723151780598845931)
 bits .xor .u64 y4 (shr .u64 y4 33)
theorem digest_calls (g:Nat) (x n:Int) (w:World) (hg:w.heap[g]? = some (.cells #[.int .u64 x] 83 (0,0))) :
 Calls Try.prog 67 #[.pointer (some ⟨g,0,none⟩),.int .i64 n] w fun e w'=>e=.returned (.int .u64 (finS x n))∧Below w.heap.size w w':=by
 have hu83:=Try.underlying83
 have hu77:=Try.underlying77
 have k0:w.cell? ⟨g,0,none⟩=some (.int .u64 x):=(blk_cell hg 0).trans rfl
 clear hg
 go_enter Try.func67,Try.ntmps67
 go_wp2
 go_ret
 exact ⟨rfl,Below.refl _ _⟩
end Go.Proofs.Ytfpdmlhknddffaa.Dk
end
section
namespace Go.Proofs.Ytfpdmlhknddffaa.Dk
open Go.RowKit Go.Proofs.YtfpdmlhknddffaaW.PrintWords Go.Proofs.YtfpdmlhknddffaaW.PrintLast Go.Proofs.YtfpdmlhknddffaaW.PrintMore
set_option linter.unusedVariables false
set_option linter.unusedSimpArgs false
theorem below_trans {B:Nat} {w w1 w2:World} (h:Below B w w1) (k:Below B w1 w2):Below B w w2:=h.trans k
def foldS (l:List Int):Int:=l.foldl stepS 2611923443488327891
def sumS (s:ByteArray):Int:=finS (foldS (bytesOf s)) (s.size:Int)
theorem sum_calls (s:ByteArray) (w:World) (hs:s.size ≤ 140737488355328):Calls Try.prog 61 #[.string s] w fun e w'=>e=.returned (.int .u64 (sumS s))∧Below w.heap.size w w':=by
 have hu83:=Try.underlying83
 have hu77:=Try.underlying77
 have hu84:=Try.underlying84
 have hlen:(bytesOf s).length=s.size:=bytesOf_length s
 have Hlen:=Lib.hid hlen
 clear hlen
 go_enter Try.func61,Try.ntmps61
 go_wp2_with (first|((with_reducible refine gate_dst (N:=3) rfl ?_);(refine box_event ?hg (N:=3) ?hd (cs:=#[.int .u64 0]) (t:=83) ?hr ?_);(case hd=>rfl);(case hg=>rfl);(case hr=>first|(go_simp;done)|(go_simp;rfl));intro g hg w1 hb1 hB1;have Hg:Hid (w.heap.size ≤ g):=(Lib.hid (by rw [hg];exact Nat.le_refl _));have HB1:=Lib.hid hB1;have Hb1:=Lib.hid hb1;have k0:=(blk_cell hb1 0).trans rfl;have k1:=blk_frozen hb1 0;clear hb1 hB1 hg) )
 clear k0 k1
 obtain ⟨w2,hw2⟩:∃ W,W=w1.setCell ⟨g,0,none⟩ (.int .u64 2611923443488327891):=⟨_,rfl⟩
 rw [← hw2]
 have Hb2:Hid (w2.heap[g]? = some (.cells #[.int .u64 2611923443488327891] 83 (0,0))):=Lib.hid (by rw [hw2];exact blk_put Hb1.out 0 _ rfl)
 have HB2:Hid (Below w.heap.size w w2):=Lib.hid (by rw [hw2];exact HB1.out.setCell Hg.out _)
 clear hw2
 go_loopg [9] s.size (fun k v9 wr=>∃ i:Nat,i ≤ s.size∧k=s.size - i∧v9=.int .i64 i∧Hid (wr.heap[g]? = some (.cells #[.int .u64 (foldS ((bytesOf s).take i))] 83 (0,0)))∧Hid (Below w.heap.size w wr))
 case atStart=>exact ⟨0,by omega,by omega,rfl,Hb2,HB2⟩
 case round =>
  obtain ⟨i,hi,rfl,rfl,Hbr,HBr⟩:=hrel
  by_cases hlt:i < s.size
  · have hbi:(bytesOf s)[i]? = some ((s[i].toNat:Nat):Int):=by
     rw [List.getElem?_eq_getElem (by rw [Hlen.out];exact hlt)]
     simp only [bytesOf,List.getElem_map]
     rfl
    have Hbi:=Lib.hid hbi
    clear hbi
    go_wp2_with (go_at_call 66;refine (add_calls g _ _ wr w.heap.size Hbr.out Hg.out).mono ?_;rintro e w3 ⟨rfl,hb3,hB3⟩;have Hb3:=Lib.hid hb3;have HB3:=Lib.hid (below_trans HBr.out hB3);clear hb3 hB3)
    go_roundg (s.size - (i + 1))
    case measure=>omega
    case rel =>
     refine ⟨i + 1,by omega,rfl,by go_num,Lib.hid ?_,HB3⟩
     have e:foldS ((bytesOf s).take (i + 1))=stepS (foldS ((bytesOf s).take i)) ((s[i].toNat:Nat):Int):=by
      unfold foldS
      rw [List.take_add_one,Hbi.out,Option.toList_some,List.foldl_append]
      rfl
     rw [e]
     exact Hb3.out
  · have hi2:i=s.size:=by omega
    subst hi2
    go_wp2_with (go_at_call 67;refine (digest_calls g _ _ wr Hbr.out).mono ?_;rintro e w3 ⟨rfl,hB3⟩;have HB3:=Lib.hid (below_then HBr.out HBr.out.size hB3);clear hB3)
    go_ret
    refine ⟨?_,HB3.out⟩
    have e:(bytesOf s).take s.size=bytesOf s:=List.take_of_length_le (Nat.le_of_eq Hlen.out)
    rw [e]
    rfl
end Go.Proofs.Ytfpdmlhknddffaa.Dk
end
section
namespace Go.Proofs.Ytfpdmlhknddffaa.Dk
open Go.RowKit Go.Proofs.YtfpdmlhknddffaaW.PrintWords Go.Proofs.YtfpdmlhknddffaaW.PrintLast Go.Proofs.YtfpdmlhknddffaaW.PrintMore
def digest_Sum.f (a0:ByteArray):Option Int:=if a0.size ≤ 140737488355328 then some (sumS a0) else none
theorem digest_Sum.calls (a0:ByteArray) (r:Int) (w:World) (h:digest_Sum.f a0=some r):Calls Try.prog 61 #[.string a0] w fun e w'=>e=.returned (.int .u64 r)∧Below w.heap.size w w':=by
 unfold digest_Sum.f at h
 by_cases hs:a0.size ≤ 140737488355328
 · rw [if_pos hs] at h
   injection h with h
   subst h
   exact sum_calls a0 w hs
 · rw [if_neg hs] at h
   exact absurd h (by simp)
end Go.Proofs.Ytfpdmlhknddffaa.Dk
end
section
namespace Go.Proofs.Ytfpdmlhknddffaa.Dk
open Go.RowKit Go.Proofs.YtfpdmlhknddffaaW.PrintWords Go.Proofs.YtfpdmlhknddffaaW.PrintLast Go.Proofs.YtfpdmlhknddffaaW.PrintMore
attribute [local go_sem] field25 field25b max2_int min2_int max_two min_two max_three min_three max_four min_four
set_option linter.unusedVariables false
set_option linter.unusedSimpArgs false
theorem info22:(Try.prog.info? 22).map (fun i=>(i.zero,i.size,i.bytes))=some (some (.slice none 0 0),1,24):=by kernel_rfl
end Go.Proofs.Ytfpdmlhknddffaa.Dk
end
section
namespace Go.Proofs.Ytfpdmlhknddffaa.Dk
open Go.RowKit Go.Proofs.YtfpdmlhknddffaaW.PrintWords Go.Proofs.YtfpdmlhknddffaaW.PrintLast Go.Proofs.YtfpdmlhknddffaaW.PrintMore
attribute [local go_sem] field25 field25b max2_int min2_int max_two min_two max_three min_three max_four min_four
set_option linter.unusedVariables false
set_option linter.unusedSimpArgs false
mutual
def journal_number.l0:Nat→List Int→Int→List Int→Int→Int→Option (List Int)
 | 0,_,_,_,_,_=>none
 | k + 1,x0,x1,x10,x11,x12=>if x12 < x11 then (if 0 ≤ x12 then (if x12 < (x10.length:Int) then (journal_number.l1 k x0 x1 (rd x10 x12) (wrap64 (x1 - 1)) x10 x11 x12) else (none)) else (none)) else (some x0)
def journal_number.l1:Nat→List Int→Int→Int→Int→List Int→Int→Int→Option (List Int)
 | 0,_,_,_,_,_,_,_=>none
 | k + 1,x0,x1,x8,x9,x10,x11,x12=>if x9 ≥ 0 then (if 0 ≤ (wrap64 (8 * x9)) then (if x0.length < 140737488355328 then (journal_number.l1 k (x0 ++ [(shr .u64 x8 (wrap64 (8 * x9))) % 256]) x1 x8 (wrap64 (x9 - 1)) x10 x11 x12) else (none)) else (none)) else (journal_number.l0 k x0 x1 x10 x11 (wrap64 (x12 + 1)))
end
def journal_number.f (k:Nat) (l0:List Int) (a1:Int) (l2:List Int):Option (List Int):=journal_number.l0 k l0 a1 l2 (l2.length:Int) 0
set_option maxHeartbeats 8000000 in
set_option maxRecDepth 100000 in
theorem journal_number.calls (k:Nat) (P0_:Nat→Prop) (u9000_:Value) (l0:List Int) (a1:Int) (A2:Option Addr) (c2:Nat) (l2:List Int) (r:List Int) (w0 w:World) (hB:Below w0.heap.size w0 w) (ho0:Kd.R (Kd.int .u8) 5 w w0.heap.size P0_ u9000_ l0) (hr2:∀ W_,Kept w W_ (fun k_=>P0_ k_)→Kd.C (Kd.int .u64) W_ A2 l2.length l2) (hc2:l2.length ≤ c2) (h:journal_number.f k l0 a1 l2=some r) :
 Calls Try.prog 60 #[u9000_,.int .i64 a1,.slice A2 l2.length c2] w fun e w'=>∃ v0_:Value,e=.returned (v0_)∧Kd.R (Kd.int .u8) 5 w' w0.heap.size (fun k_=>(P0_ k_∨w.heap.size ≤ k_)) v0_ r∧Below w0.heap.size w0 w'∧Kept w w' (fun k_=>P0_ k_):=by
 have HO0:=Aside0.mk (show Kd.R (Kd.int .u8) 5 w w0.heap.size (fun k_=>(P0_ k_∨w.heap.size ≤ k_)) u9000_ l0 from Kd.R_mono ho0 (fun k_ hk=>(.inl hk)))
 have HR2:=Aside0.mk hr2
 have HC2:=Aside0.mk hc2
 clear hr2 hc2
 have HK:=Aside0.mk (Kept.refl w (fun k_=>P0_ k_))
 have HW0:=Aside0.mk hB.size
 have HB:=Aside0.mk hB
 clear hB
 have H:(journal_number.l0 k l0 a1 l2 (l2.length:Int) 0)=some r:=h
 clear h
 have H':=Aside0.mk H
 clear H
 go_enter Try.func60,Try.ntmps60
 go_wp2
 go_loopg [0,12] k (fun kq v0 v12 w'=>∃ (x0_1:List Int) (x12_1:Int),v12=.int .i64 x12_1∧Aside0 (journal_number.l0 kq x0_1 a1 l2 (l2.length:Int) x12_1=some r)∧Aside0 (kq ≤ k)∧Aside0 (Kd.R (Kd.int .u8) 5 w' w0.heap.size (fun k_=>(P0_ k_∨w.heap.size ≤ k_)) v0 x0_1)∧Aside0 (Kept w w' (fun k_=>P0_ k_))∧Aside0 (Below w0.heap.size w0 w'))
 case atStart=>exact ⟨(l0),(0),(by first|rfl|(simp;done)|(simp [*];done)),H',⟨Nat.le_refl _⟩,⟨by (with_reducible repeat (first|apply Kd.R_alloc|apply Kd.R_drewN|apply Kd.R_drew));exact HO0.out⟩,⟨by repeat (first|(with_reducible first|exact HK.out|apply Kept.alloc|apply Kept.drewN|apply Kept.drew)|exact HK.out)⟩,⟨by repeat (first|(with_reducible first|exact HB.out|apply below_alloc|apply pw_below_drewN|apply below_drew1)|exact HB.out)⟩⟩
 case round =>
  clear H'
  try clear c2
  try clear p2
  obtain ⟨x0_1,x12_1,rfl,HA,HK1,HO_0,HK,HB⟩:=hrel
  cases gk with
  | zero=>exact absurd HA.out (by simp [journal_number.l0])
  | succ k1 =>
   have H:=HA.out
   clear HA
   simp only [journal_number.l0] at H
   by_cases c4:x12_1 < (l2.length:Int)
   · rw [if_pos c4] at H
     have c4b0:decide (x12_1 < (l2.length:Int))=true:=decide_eq_true c4
     clear c4
     by_cases c5:0 ≤ x12_1
     · rw [if_pos c5] at H
       have c5b0:decide (0 ≤ x12_1)=true:=decide_eq_true c5
       clear c5
       by_cases c6:x12_1 < (l2.length:Int)
       · rw [if_pos c6] at H
         have c6b0:decide (x12_1 < (l2.length:Int))=true:=decide_eq_true c6
         clear c6
         have H':=Aside0.mk H
         clear H
         have p107:0 ≤ (x12_1:Int):=of_decide_eq_true (by first|(with_reducible assumption)|assumption)
         have q107:x12_1 < (l2.length:Int):=of_decide_eq_true (by first|(with_reducible assumption)|assumption)
         obtain ⟨ad107,e107,hx107_0⟩:=Kd.at_int (Kd.C_kept_now HR2.out HK.out) x12_1 p107 q107
         cases e107
         replace p107:=eq_true p107
         replace q107:=eq_true q107
         go_wp2
         go_loopg [0,9] k1 (fun kq v0 v9 w'=>∃ (x0_2:List Int) (x9_2:Int),v9=.int .i64 x9_2∧Aside0 (journal_number.l1 kq x0_2 a1 (rd l2 x12_1) x9_2 l2 (l2.length:Int) x12_1=some r)∧Aside0 (kq ≤ k1)∧Aside0 (Kd.R (Kd.int .u8) 5 w' w0.heap.size (fun k_=>(P0_ k_∨w.heap.size ≤ k_)) v0 x0_2)∧Aside0 (Kept w w' (fun k_=>P0_ k_))∧Aside0 (Below w0.heap.size w0 w'))
         case atStart=>exact ⟨(x0_1),(wrap64 (a1 - 1)),(by first|rfl|(simp;done)|(simp [*];done)),H',⟨Nat.le_refl _⟩,⟨by (with_reducible repeat (first|apply Kd.R_alloc|apply Kd.R_drewN|apply Kd.R_drew));exact HO_0.out⟩,⟨by repeat (first|(with_reducible first|exact HK.out|apply Kept.alloc|apply Kept.drewN|apply Kept.drew)|exact HK.out)⟩,⟨by repeat (first|(with_reducible first|exact HB.out|apply below_alloc|apply pw_below_drewN|apply below_drew1)|exact HB.out)⟩⟩
         case round =>
          clear H'
          try clear p1
          try clear q1
          try clear hx1
          try clear c2
          try clear p2
          try clear c4
          try clear c4b0
          try clear c5
          try clear c5b0
          try clear c6
          try clear c6b0
          try clear p6
          try clear hx107_0
          try clear p107
          try clear p2
          try clear q107
          obtain ⟨x0_2,x9_2,rfl,HA,HK2,HO_0,HK,HB⟩:=hrel
          cases gk with
          | zero=>exact absurd HA.out (by simp [journal_number.l1])
          | succ k2 =>
           have H:=HA.out
           clear HA
           simp only [journal_number.l1] at H
           by_cases c7:x9_2 ≥ 0
           · rw [if_pos c7] at H
             have c7b0:decide (0 ≤ x9_2)=true:=decide_eq_true c7
             clear c7
             obtain ⟨ji8,hji8⟩:∃ j_:Int,(wrap64 (8 * x9_2))=j_:=⟨_,rfl⟩
             replace H:(if 0 ≤ (ji8) then (if x0_2.length < 140737488355328 then (journal_number.l1 k2 (x0_2 ++ [(shr .u64 (rd l2 x12_1) (ji8)) % 256]) a1 (rd l2 x12_1) (wrap64 (x9_2 - 1)) l2 (l2.length:Int) x12_1) else (none)) else (none))=some r:=by first|(rw [hji8] at H;exact H)|(simp only [hji8] at H ⊢;exact H)
             have hji8w:(IntKind.i64.wrap (8 * x9_2))=ji8:=(i64_w _).trans hji8
             by_cases c9:0 ≤ (ji8)
             · rw [if_pos c9] at H
               have c9b0:=eq_true c9
               have c9b1:decide (0 ≤ (ji8))=true:=decide_eq_true c9
               clear c9
               obtain ⟨ji10,hji10⟩:∃ j_:Int,(shr .u64 (rd l2 x12_1) (ji8))=j_:=⟨_,rfl⟩
               replace H:(if x0_2.length < 140737488355328 then (journal_number.l1 k2 (x0_2 ++ [(ji10) % 256]) a1 (rd l2 x12_1) (wrap64 (x9_2 - 1)) l2 (l2.length:Int) x12_1) else (none))=some r:=by first|(rw [hji10] at H;exact H)|(simp only [hji10] at H ⊢;exact H)
               have hji10_:((rd l2 x12_1) / 2 ^ min (ji8).toNat 64)=ji10:=hji10
               have hji10z:(ji8) ≤ 64→((rd l2 x12_1) / 2 ^ (ji8).toNat)=ji10:=shr_small hji10
               by_cases c11:x0_2.length < 140737488355328
               · rw [if_pos c11] at H
                 have LMc11:=Aside0.mk c11
                 clear c11
                 obtain ⟨y108,hy108⟩:∃ y_:List Int,y_=(x0_2 ++ [(ji10) % 256]):=⟨_,rfl⟩
                 replace H:(journal_number.l1 k2 y108 a1 (rd l2 x12_1) (wrap64 (x9_2 - 1)) l2 (l2.length:Int) x12_1)=some r:=by first|(rw [hy108];with_reducible exact H)|(have H2_:=(Option.bind_some _ _).symm.trans H;rw [hy108];with_reducible exact H2_)|(have H2_:=(Option.bind_some _ _).symm.trans H;with_reducible exact H2_)|with_reducible exact H|(rw [hy108];exact H)|exact H
                 have Ny108:=Aside0.mk hy108
                 clear hy108
                 have H':=Aside0.mk H
                 clear H
                 go_wp2_with (first|((with_reducible refine gate_builtin (b:=.append) (xs:=#[.tmp 22,.tmp 28]) rfl ?_);at_builtin;refine Kd.R_append (Kd.int .u8) (w0:=w0) w0.heap.size rfl (.tmp 22) (.tmp 28) 22 5 (.int .u8 0) 1 rfl Try.underlying22 info5 rfl (by decide) (by omega) u0 x0_2 ((ji10) % 256) [.int .u8 ((ji10) % 256)] (fun k_=>(P0_ k_∨w.heap.size ≤ k_)) (fun _=>False) rfl rfl ?aP (fun _ hk=>hk.elim) ?aF ?aO ?aB ?aS ?aL ?_;(case aP=>exact rfl);(case aB=>exact (by repeat (first|(with_reducible first|exact HB.out|apply below_alloc|apply pw_below_drewN|apply below_drew1)|exact HB.out)));(case aF=>exact (fun k_ hk=>(.inr (Nat.le_trans (by first|exact HK.out.1|exact (show Kept w _ (fun k_=>P0_ k_) from by repeat (first|(with_reducible first|exact HK.out|apply Kept.alloc|apply Kept.drewN|apply Kept.drew)|exact HK.out)).1) hk))));(case aO=>exact (by (with_reducible repeat (first|apply Kd.R_alloc|apply Kd.R_drewN|apply Kd.R_drew));exact HO_0.out));(case aS=>exact (below_size (by repeat (first|(with_reducible first|exact HB.out|apply below_alloc|apply pw_below_drewN|apply below_drew1)|exact HB.out))));(case aL=>have:=LMc11.out;omega);intro v109 w12 ho hb hg hat;rw [← Ny108.out] at ho;have n0_:=Aside0.mk (hb);have n1_:=Aside0.mk (Kept.of_grown (S:=(fun k_=>P0_ k_)) hg (by repeat (first|(with_reducible first|exact HK.out|apply Kept.alloc|apply Kept.drewN|apply Kept.drew)|exact HK.out)) (fun k_ e_=>(HO_0.out.1 k_ e_)));have n2_:=Aside0.mk (ho);clear HB;clear HK;clear HO_0;have HB:=n0_;have HK:=n1_;have HO110:=n2_;clear n0_ n1_ n2_;clear ho hb hg hat))
                 go_roundg k2
                 case measure=>have:=HK1.out;have:=HK2.out;omega
                 case rel=>exact ⟨(y108),(wrap64 (x9_2 - 1)),(by first|rfl|(simp;done)|(simp [*];done)),H',⟨by have:=HK1.out;have:=HK2.out;omega⟩,⟨by (with_reducible repeat (first|apply Kd.R_alloc|apply Kd.R_drewN|apply Kd.R_drew));exact HO110.out⟩,⟨by repeat (first|(with_reducible first|exact HK.out|apply Kept.alloc|apply Kept.drewN|apply Kept.drew)|exact HK.out)⟩,⟨by repeat (first|(with_reducible first|exact HB.out|apply below_alloc|apply pw_below_drewN|apply below_drew1)|exact HB.out)⟩⟩
               · rw [if_neg c11] at H
                 exact absurd H (by simp)
             · rw [if_neg c9] at H
               exact absurd H (by simp)
           · rw [if_neg c7] at H
             have c7b0:decide (0 ≤ x9_2)=false:=decide_eq_false c7
             clear c7
             have H':=Aside0.mk H
             clear H
             go_wp2
             go_roundg k2
             case measure=>have:=HK1.out;have:=HK2.out;omega
             case rel=>exact ⟨(x0_2),(wrap64 (x12_1 + 1)),(by first|rfl|(simp;done)|(simp [*];done)),H',⟨by have:=HK1.out;have:=HK2.out;omega⟩,⟨by (with_reducible repeat (first|apply Kd.R_alloc|apply Kd.R_drewN|apply Kd.R_drew));exact HO_0.out⟩,⟨by repeat (first|(with_reducible first|exact HK.out|apply Kept.alloc|apply Kept.drewN|apply Kept.drew)|exact HK.out)⟩,⟨by repeat (first|(with_reducible first|exact HB.out|apply below_alloc|apply pw_below_drewN|apply below_drew1)|exact HB.out)⟩⟩
       · rw [if_neg c6] at H
         exact absurd H (by simp)
     · rw [if_neg c5] at H
       exact absurd H (by simp)
   · rw [if_neg c4] at H
     have c4b0:decide (x12_1 < (l2.length:Int))=false:=decide_eq_false c4
     clear c4
     obtain rfl:=Option.some.inj H
     go_wp2
     go_ret
     exact ⟨_,by first|rfl|(simp [errW_none,errW_some] <;> rfl)|(simp [*,errW_none,errW_some] <;> rfl),by (with_reducible repeat (first|apply Kd.R_alloc|apply Kd.R_drewN|apply Kd.R_drew));exact HO_0.out,by repeat (first|(with_reducible first|exact HB.out|apply below_alloc|apply pw_below_drewN|apply below_drew1)|exact HB.out),by repeat (first|(with_reducible first|exact HK.out|apply Kept.alloc|apply Kept.drewN|apply Kept.drew)|exact HK.out)⟩
def journal_encode.f (k:Nat) (l0:List Int) (a1:Int):Option (List Int):=(journal_number.f k ([]:List Int) 2 (([IntKind.u64.wrap ((l0.length:Int)),IntKind.u64.wrap (Go.bits .and .i64 a1 65535)]:List Int))).bind fun t114=>(if (strOfNums t114).size + (strOfNums l0).size ≤ 9223372036854775807 then ((digest_Sum.f ((strOfNums t114) ++ (strOfNums l0))).bind fun t117=>((some (([82]:List Int):List Int)).bind fun y118=>(if y118.length + t114.length < 140737488355328 then ((journal_number.f k (y118 ++ t114) 8 (([t117]:List Int))).bind fun t127=>(if t127.length + l0.length < 140737488355328 then (some (t127 ++ l0)) else (none))) else (none)))) else (none))
set_option maxHeartbeats 8000000 in
set_option maxRecDepth 100000 in
theorem journal_encode.calls (k:Nat) (A0:Option Addr) (c0:Nat) (l0:List Int) (a1:Int) (r:List Int) (w:World) (hr0:Kd.C (Kd.int .u8) w A0 l0.length l0) (hc0:l0.length ≤ c0) (h:journal_encode.f k l0 a1=some r) :
 Calls Try.prog 51 #[.slice A0 l0.length c0,.int .i64 a1] w fun e w'=>∃ v0_:Value,e=.returned (v0_)∧Kd.R (Kd.int .u8) 5 w' w.heap.size (fun _=>True) v0_ r∧Below w.heap.size w w':=by
 have HR0:=Aside0.mk hr0
 have HC0:=Aside0.mk hc0
 clear hr0 hc0
 have HB:=Aside0.mk (Below.refl w.heap.size w)
 have H:((journal_number.f k ([]:List Int) 2 (([IntKind.u64.wrap ((l0.length:Int)),IntKind.u64.wrap (Go.bits .and .i64 a1 65535)]:List Int))).bind fun t114=>(if (strOfNums t114).size + (strOfNums l0).size ≤ 9223372036854775807 then ((digest_Sum.f ((strOfNums t114) ++ (strOfNums l0))).bind fun t117=>((some (([82]:List Int):List Int)).bind fun y118=>(if y118.length + t114.length < 140737488355328 then ((journal_number.f k (y118 ++ t114) 8 (([t117]:List Int))).bind fun t127=>(if t127.length + l0.length < 140737488355328 then (some (t127 ++ l0)) else (none))) else (none)))) else (none)))=some r:=h
 clear h
 obtain ⟨y111,hy111⟩:∃ y_:List Int,y_=(([IntKind.u64.wrap ((l0.length:Int)),IntKind.u64.wrap (Go.bits .and .i64 a1 65535)]:List Int)):=⟨_,rfl⟩
 replace H:((journal_number.f k ([]:List Int) 2 y111).bind fun t114=>(if (strOfNums t114).size + (strOfNums l0).size ≤ 9223372036854775807 then ((digest_Sum.f ((strOfNums t114) ++ (strOfNums l0))).bind fun t117=>((some (([82]:List Int):List Int)).bind fun y118=>(if y118.length + t114.length < 140737488355328 then ((journal_number.f k (y118 ++ t114) 8 (([t117]:List Int))).bind fun t127=>(if t127.length + l0.length < 140737488355328 then (some (t127 ++ l0)) else (none))) else (none)))) else (none)))=some r:=by first|(rw [hy111];with_reducible exact H)|(have H2_:=(Option.bind_some _ _).symm.trans H;rw [hy111];with_reducible exact H2_)|(have H2_:=(Option.bind_some _ _).symm.trans H;with_reducible exact H2_)|with_reducible exact H|(rw [hy111];exact H)|exact H
 have Ny111:=Aside0.mk hy111
 clear hy111
 replace H:=Option.bind_eq_some_iff.mp H
 obtain ⟨t114,A30,H⟩:=H
 replace H:(if (strOfNums t114).size + (strOfNums l0).size ≤ 9223372036854775807 then ((digest_Sum.f ((strOfNums t114) ++ (strOfNums l0))).bind fun t117=>((some (([82]:List Int):List Int)).bind fun y118=>(if y118.length + t114.length < 140737488355328 then ((journal_number.f k (y118 ++ t114) 8 (([t117]:List Int))).bind fun t127=>(if t127.length + l0.length < 140737488355328 then (some (t127 ++ l0)) else (none))) else (none)))) else (none))=some r:=H
 have A3:=Aside0.mk A30
 clear A30
 by_cases c4:(strOfNums t114).size + (strOfNums l0).size ≤ 9223372036854775807
 · rw [if_pos c4] at H
   have c4b0:=eq_true c4
   have c4b1:decide ((strOfNums t114).size + (strOfNums l0).size ≤ 9223372036854775807)=true:=decide_eq_true c4
   try have c4b2:(9223372036854775807 < (strOfNums t114).size + (strOfNums l0).size)=False:=eq_false (Nat.not_lt.2 c4)
   replace H:=Option.bind_eq_some_iff.mp H
   obtain ⟨t117,A50,H⟩:=H
   replace H:((some (([82]:List Int):List Int)).bind fun y118=>(if y118.length + t114.length < 140737488355328 then ((journal_number.f k (y118 ++ t114) 8 (([t117]:List Int))).bind fun t127=>(if t127.length + l0.length < 140737488355328 then (some (t127 ++ l0)) else (none))) else (none)))=some r:=H
   have A5:=Aside0.mk A50
   clear A50
   obtain ⟨y118,hy118⟩:∃ y_:List Int,y_=(([82]:List Int)):=⟨_,rfl⟩
   replace H:(if y118.length + t114.length < 140737488355328 then ((journal_number.f k (y118 ++ t114) 8 (([t117]:List Int))).bind fun t127=>(if t127.length + l0.length < 140737488355328 then (some (t127 ++ l0)) else (none))) else (none))=some r:=by first|(rw [hy118];with_reducible exact H)|(have H2_:=(Option.bind_some _ _).symm.trans H;rw [hy118];with_reducible exact H2_)|(have H2_:=(Option.bind_some _ _).symm.trans H;with_reducible exact H2_)|with_reducible exact H|(rw [hy118];exact H)|exact H
   have Ny118:=Aside0.mk hy118
   clear hy118
   by_cases c6:y118.length + t114.length < 140737488355328
   · rw [if_pos c6] at H
     have LMc6:=Aside0.mk c6
     clear c6
     obtain ⟨y121,hy121⟩:∃ y_:List Int,y_=(y118 ++ t114):=⟨_,rfl⟩
     replace H:((journal_number.f k y121 8 (([t117]:List Int))).bind fun t127=>(if t127.length + l0.length < 140737488355328 then (some (t127 ++ l0)) else (none)))=some r:=by first|(rw [hy121];with_reducible exact H)|(have H2_:=(Option.bind_some _ _).symm.trans H;rw [hy121];with_reducible exact H2_)|(have H2_:=(Option.bind_some _ _).symm.trans H;with_reducible exact H2_)|with_reducible exact H|(rw [hy121];exact H)|exact H
     have Ny121:=Aside0.mk hy121
     clear hy121
     obtain ⟨y124,hy124⟩:∃ y_:List Int,y_=(([t117]:List Int)):=⟨_,rfl⟩
     replace H:((journal_number.f k y121 8 y124).bind fun t127=>(if t127.length + l0.length < 140737488355328 then (some (t127 ++ l0)) else (none)))=some r:=by first|(rw [hy124];with_reducible exact H)|(have H2_:=(Option.bind_some _ _).symm.trans H;rw [hy124];with_reducible exact H2_)|(have H2_:=(Option.bind_some _ _).symm.trans H;with_reducible exact H2_)|with_reducible exact H|(rw [hy124];exact H)|exact H
     have Ny124:=Aside0.mk hy124
     clear hy124
     replace H:=Option.bind_eq_some_iff.mp H
     obtain ⟨t127,A70,H⟩:=H
     replace H:(if t127.length + l0.length < 140737488355328 then (some (t127 ++ l0)) else (none))=some r:=H
     have A7:=Aside0.mk A70
     clear A70
     by_cases c8:t127.length + l0.length < 140737488355328
     · rw [if_pos c8] at H
       have LMc8:=Aside0.mk c8
       clear c8
       obtain ⟨y130,hy130⟩:∃ y_:List Int,y_=(t127 ++ l0):=⟨_,rfl⟩
       replace H:(some y130)=some r:=by first|(rw [hy130];with_reducible exact H)|(have H2_:=(Option.bind_some _ _).symm.trans H;rw [hy130];with_reducible exact H2_)|(have H2_:=(Option.bind_some _ _).symm.trans H;with_reducible exact H2_)|with_reducible exact H|(rw [hy130];exact H)|exact H
       have Ny130:=Aside0.mk hy130
       clear hy130
       obtain rfl:=Option.some.inj H
       go_enter Try.func51,Try.ntmps51
       go_wp2_with (first|((with_reducible refine gate_dst (N:=14) rfl ?_);refine Kd.R_lit (Kd.int .u64) _ 76 ?hg (N:=14) ?hd (xs:=([IntKind.u64.wrap ((l0.length:Int)),IntKind.u64.wrap (Go.bits .and .i64 a1 65535)]:List Int)) (inner:=[.int .u64 (IntKind.u64.wrap ((l0.length:Int))),.int .u64 (IntKind.u64.wrap (Go.bits .and .i64 a1 65535))]) (ok:=fun _=>True) (okp:=fun _=>True) ?hr ?hp (fun _ hk=>hk) trivial (Below.refl _ _) (Nat.le_refl _) (by simp) ?_;(case hd=>rfl);(case hg=>rfl);(case hr=>first|(go_simp;done)|(go_simp;rfl));(case hp=>exact (Reps.one (show Kd.M (Kd.int .u64) _ _ _ (IntKind.u64.wrap ((l0.length:Int))) [.int .u64 (IntKind.u64.wrap ((l0.length:Int)))] from rfl) (Reps.one (show Kd.M (Kd.int .u64) _ _ _ (IntKind.u64.wrap (Go.bits .and .i64 a1 65535)) [.int .u64 (IntKind.u64.wrap (Go.bits .and .i64 a1 65535))] from rfl) (Reps.none _ _))));intro v112 w9 ho10 hb hg_ hnew_;clear hg_ hnew_;(first|rw [← Ny111.out] at ho10|(simp only [Int.reduceToNat] at ho10;rw [← Ny111.out] at ho10));have n0_:=Aside0.mk (Kd.R_lower ho10 (below_size (by repeat (first|(with_reducible first|exact HB.out|apply below_alloc|apply pw_below_drewN|apply below_drew1)|exact HB.out))));have n1_:=Aside0.mk (below_step (by repeat (first|(with_reducible first|exact HB.out|apply below_alloc|apply pw_below_drewN|apply below_drew1)|exact HB.out)) hb);clear HB;have HO113:=n0_;have HB:=n1_;clear n0_ n1_;clear hb ho10;obtain ⟨Ao11,co11,eo11⟩:=Kd.R_slice HO113.out;subst eo11)|((with_reducible refine gate_callee (f:=60) rfl ?_);refine goesL_ (some 15) rfl rfl Try.func60 (by kernel_rfl) rfl #[.slice none 0 0,.int .i64 2,.slice Ao11 y111.length co11] rfl (by (try simp only [List.map_toArray,List.map_cons,List.map_nil]);first|done|rfl|(simp only [List.length_drop,List.length_take];rfl)) ?_;(refine (journal_number.calls k (fun k_=>some k_=(.slice none 0 0:Value).ownBlock) (.slice none 0 0) ([]:List Int) 2 _ _ y111 t114 w _ ?side1 ?side2 ?side3 ?side4 A3.out).mono ?_);(case side1=>repeat (first|(with_reducible first|exact HB.out|apply below_alloc|apply pw_below_drewN|apply below_drew1)|exact HB.out));(case side2=>exact Kd.R_nil _ _ _ _ _);(case side3=>exact Kd.C_kept_own (HO113.out) (fun k_ hk_ hs_=>(fun e_=>by simp [Value.ownBlock] at e_) hs_));(case side4=>exact (Kd.R_reads' HO113.out).2.1);rintro e w12 ⟨v115,rfl,ho0,hb,hkp⟩;refine ⟨_,rfl,?_⟩;have n0_:=Aside0.mk (Kd.R_mono (ok':=fun k_=>True) (Kd.R_keptB (HO113.out) hkp (fun k_ hk_ hs_=>(fun e_=>by simp [Value.ownBlock] at e_) hs_)) (fun k_ hk_=>trivial));have n1_:=Aside0.mk (Kd.R_mono (ok':=fun k_=>True) ho0 (fun k_ hk_=>trivial));have n2_:=Aside0.mk (hb);clear HO113;clear HB;have HO113:=n0_;have HO116:=n1_;have HB:=n2_;clear n0_ n1_ n2_;(try clear hb);(try clear hkp);(try clear ho0);have hcv13:=own_string (P:=Try.prog) Try.underlying22 Try.underlying5 Try.underlying9 (Kd.own_of_R HO116.out);have hcv14:=Kd.C_string (P:=Try.prog) (A:=A0) (c:=c0) Try.underlying22 Try.underlying5 Try.underlying9 (Kd.C_below HR0.out HB.out))|((with_reducible refine gate_callee (f:=61) rfl ?_);refine goesL_ (some 21) rfl rfl Try.func61 (by kernel_rfl) rfl #[.string ((strOfNums t114) ++ (strOfNums l0))] rfl (by (try simp only [List.map_toArray,List.map_cons,List.map_nil]);first|done|rfl|(simp only [List.length_drop,List.length_take];rfl)) ?_;(with_reducible refine (digest_Sum.calls ((strOfNums t114) ++ (strOfNums l0)) t117 _ A5.out).mono ?_);rintro e w15 ⟨rfl,hb⟩;refine ⟨_,rfl,?_⟩;have n0_:=Aside0.mk (Kd.R_below (by (with_reducible repeat (first|apply Kd.R_alloc|apply Kd.R_drewN|apply Kd.R_drew));exact HO113.out) hb);have n1_:=Aside0.mk (Kd.R_below (by (with_reducible repeat (first|apply Kd.R_alloc|apply Kd.R_drewN|apply Kd.R_drew));exact HO116.out) hb);have n2_:=Aside0.mk (below_step (by repeat (first|(with_reducible first|exact HB.out|apply below_alloc|apply pw_below_drewN|apply below_drew1)|exact HB.out)) hb);clear HO113;clear HO116;clear HB;have HO113:=n0_;have HO116:=n1_;have HB:=n2_;clear n0_ n1_ n2_;(try clear hb);(try clear hb2);(try clear hk);(try clear hi))|((with_reducible refine gate_dst (N:=22) rfl ?_);refine Kd.R_lit (Kd.int .u8) _ 5 ?hg (N:=22) ?hd (xs:=([82]:List Int)) (inner:=[.int .u8 82]) (ok:=fun _=>True) (okp:=fun _=>True) ?hr ?hp (fun _ hk=>hk) trivial (Below.refl _ _) (Nat.le_refl _) (by simp) ?_;(case hd=>rfl);(case hg=>rfl);(case hr=>first|(go_simp;done)|(go_simp;rfl));(case hp=>exact (Reps.one (show Kd.M (Kd.int .u8) _ _ _ 82 [.int .u8 82] from rfl) (Reps.none _ _)));intro v119 w16 ho17 hb hg_ hnew_;clear hg_ hnew_;(first|rw [← Ny118.out] at ho17|(simp only [Int.reduceToNat] at ho17;rw [← Ny118.out] at ho17));have n0_:=Aside0.mk (Kd.R_below (by (with_reducible repeat (first|apply Kd.R_alloc|apply Kd.R_drewN|apply Kd.R_drew));exact HO113.out) hb);have n1_:=Aside0.mk (Kd.R_elder' (by (with_reducible repeat (first|apply Kd.R_alloc|apply Kd.R_drewN|apply Kd.R_drew));exact HO116.out) (Kd.R_base ho17) hb);have n2_:=Aside0.mk (Kd.R_lower (Kd.R_new' ho17 (Kd.R_lt (by (with_reducible repeat (first|apply Kd.R_alloc|apply Kd.R_drewN|apply Kd.R_drew));exact HO116.out))) (below_size (by repeat (first|(with_reducible first|exact HB.out|apply below_alloc|apply pw_below_drewN|apply below_drew1)|exact HB.out))));have n3_:=Aside0.mk (below_step (by repeat (first|(with_reducible first|exact HB.out|apply below_alloc|apply pw_below_drewN|apply below_drew1)|exact HB.out)) hb);clear HO113;clear HO116;clear HB;have HO113:=n0_;have HO116:=n1_;have HO120:=n2_;have HB:=n3_;clear n0_ n1_ n2_ n3_;clear hb ho17;obtain ⟨Ao19,co19,eo19⟩:=Kd.R_slice HO116.out;subst eo19)|((with_reducible refine gate_builtin (b:=.append) (xs:=#[.tmp 22,.tmp 23]) rfl ?_);at_builtin;refine Kd.R_append_rows (Kd.int .u8) (w0:=w) w.heap.size rfl (.tmp 22) (.tmp 23) 22 5 (.int .u8 0) 1 rfl Try.underlying22 info5 rfl (by decide) (by omega) v119 y118 t114 _ _ _ (fun k_=>some k_ ≠ (.slice Ao19 t114.length co19:Value).ownBlock) (fun _=>False) rfl rfl ?aO ?aR (fun _ _ h=>h) (fun _ h=>h.elim) ?aF ?aB ?aS ?aL ?_;(case aR=>repeat (first|exact (Kd.R_reads' HO116.out).2.2|(with_reducible refine Kd.C_alloc ?_ _)|(with_reducible refine Kd.C_drewN ?_ _)|(with_reducible refine Kd.C_drew ?_)));(case aB=>exact (by repeat (first|(with_reducible first|exact HB.out|apply below_alloc|apply pw_below_drewN|apply below_drew1)|exact HB.out)));(case aF=>exact (fun k_ hk=>Kd.fresh' (Kd.R_lt (by (with_reducible repeat (first|apply Kd.R_alloc|apply Kd.R_drewN|apply Kd.R_drew));exact HO116.out)) k_ hk));(case aO=>exact (by (with_reducible repeat (first|apply Kd.R_alloc|apply Kd.R_drewN|apply Kd.R_drew));exact Kd.R_mono HO120.out (fun _ hk=>hk.2)));(case aS=>exact (below_size (by repeat (first|(with_reducible first|exact HB.out|apply below_alloc|apply pw_below_drewN|apply below_drew1)|exact HB.out))));(case aL=>have:=LMc6.out;omega);intro v122 w18 ho hb hg hat;rw [← Ny121.out] at ho;have n0_:=Aside0.mk (Kd.R_over' (by (with_reducible repeat (first|apply Kd.R_alloc|apply Kd.R_drewN|apply Kd.R_drew));exact HO113.out) (Kd.R_typed (by (with_reducible repeat (first|apply Kd.R_alloc|apply Kd.R_drewN|apply Kd.R_drew));exact HO120.out)) (by decide) hg);have n1_:=Aside0.mk (Kd.R_after (ok:=(fun _=>True)) (by (with_reducible repeat (first|apply Kd.R_alloc|apply Kd.R_drewN|apply Kd.R_drew));exact HO116.out) hg hat);have n2_:=Aside0.mk (hb);have n3_:=Aside0.mk (ho);clear HO113;clear HO116;clear HB;clear HO120;have HO113:=n0_;have HO116:=n1_;have HB:=n2_;have HO123:=n3_;clear n0_ n1_ n2_ n3_;clear ho hb hg hat)|((with_reducible refine gate_dst (N:=26) rfl ?_);refine Kd.R_lit (Kd.int .u64) _ 76 ?hg (N:=26) ?hd (xs:=([t117]:List Int)) (inner:=[.int .u64 t117]) (ok:=fun _=>True) (okp:=fun _=>True) ?hr ?hp (fun _ hk=>hk) trivial (Below.refl _ _) (Nat.le_refl _) (by simp) ?_;(case hd=>rfl);(case hg=>rfl);(case hr=>first|(go_simp;done)|(go_simp;rfl));(case hp=>exact (Reps.one (show Kd.M (Kd.int .u64) _ _ _ t117 [.int .u64 t117] from rfl) (Reps.none _ _)));intro v125 w20 ho21 hb hg_ hnew_;clear hg_ hnew_;(first|rw [← Ny124.out] at ho21|(simp only [Int.reduceToNat] at ho21;rw [← Ny124.out] at ho21));have n0_:=Aside0.mk (Kd.R_elder' (by (with_reducible repeat (first|apply Kd.R_alloc|apply Kd.R_drewN|apply Kd.R_drew));exact HO113.out) (Kd.R_base ho21) hb);have n1_:=Aside0.mk (Kd.R_below (by (with_reducible repeat (first|apply Kd.R_alloc|apply Kd.R_drewN|apply Kd.R_drew));exact HO116.out) hb);have n2_:=Aside0.mk (Kd.R_below (by (with_reducible repeat (first|apply Kd.R_alloc|apply Kd.R_drewN|apply Kd.R_drew));exact HO123.out) hb);have n3_:=Aside0.mk (Kd.R_lower (Kd.R_new' ho21 (Kd.R_lt (by (with_reducible repeat (first|apply Kd.R_alloc|apply Kd.R_drewN|apply Kd.R_drew));exact HO113.out))) (below_size (by repeat (first|(with_reducible first|exact HB.out|apply below_alloc|apply pw_below_drewN|apply below_drew1)|exact HB.out))));have n4_:=Aside0.mk (below_step (by repeat (first|(with_reducible first|exact HB.out|apply below_alloc|apply pw_below_drewN|apply below_drew1)|exact HB.out)) hb);clear HO113;clear HO116;clear HO123;clear HB;have HO113:=n0_;have HO116:=n1_;have HO123:=n2_;have HO126:=n3_;have HB:=n4_;clear n0_ n1_ n2_ n3_ n4_;clear hb ho21;obtain ⟨Ao22,co22,eo22⟩:=Kd.R_slice HO123.out;subst eo22;obtain ⟨Ao23,co23,eo23⟩:=Kd.R_slice HO126.out;subst eo23)|((with_reducible refine gate_callee (f:=60) rfl ?_);refine goesL_ (some 27) rfl rfl Try.func60 (by kernel_rfl) rfl #[.slice Ao22 y121.length co22,.int .i64 8,.slice Ao23 y124.length co23] rfl (by (try simp only [List.map_toArray,List.map_cons,List.map_nil]);first|done|rfl|(simp only [List.length_drop,List.length_take];rfl)) ?_;(with_reducible refine (journal_number.calls k (fun k_=>some k_=(.slice Ao22 y121.length co22:Value).ownBlock) (.slice Ao22 y121.length co22) y121 8 _ _ y124 t127 w _ ?side1 ?side2 ?side3 ?side4 A7.out).mono ?_);(case side1=>repeat (first|(with_reducible first|exact HB.out|apply below_alloc|apply pw_below_drewN|apply below_drew1)|exact HB.out));(case side2=>exact Kd.R_tight rfl HO123.out);(case side3=>exact Kd.C_kept_own ((Kd.R_apart' HO126.out (Kd.R_typed HO123.out) (by decide))) (fun k_ hk_ hs_=>(hk_.2) hs_));(case side4=>exact (Kd.R_reads' HO126.out).2.1);rintro e w24 ⟨v128,rfl,ho0,hb,hkp⟩;refine ⟨_,rfl,?_⟩;have n0_:=Aside0.mk (Kd.R_mono (ok':=fun k_=>some k_ ≠ (.slice Ao23 y124.length co23:Value).ownBlock) (Kd.R_keptB ((Kd.R_apart' HO113.out (Kd.R_typed HO123.out) (by decide))) hkp (fun k_ hk_ hs_=>(hk_.2) hs_)) (fun k_ hk_=>hk_.1.1.2));have n1_:=Aside0.mk (Kd.R_mono (ok':=fun k_=>some k_ ≠ (v128:Value).ownBlock) (Kd.R_keptB (HO116.out) hkp (fun k_ hk_ hs_=>(hk_.2) hs_)) (fun k_ hk_=>fun e_=>Or.elim (ho0.1 k_ e_.symm) (fun hs_=>hk_.2.1 hs_) (fun hn_=>Nat.not_le.2 hk_.2.2 hn_)));have n2_:=Aside0.mk (Kd.R_mono (ok':=fun k_=>some k_ ≠ (.slice Ao11 y111.length co11:Value).ownBlock) (Kd.R_keptB ((Kd.R_apart' HO126.out (Kd.R_typed HO123.out) (by decide))) hkp (fun k_ hk_ hs_=>(hk_.2) hs_)) (fun k_ hk_=>hk_.1.1.2));have n3_:=Aside0.mk (Kd.R_mono (ok':=fun k_=>some k_ ≠ (.slice Ao19 t114.length co19:Value).ownBlock) ho0 (fun k_ hk_=>Or.elim hk_ (fun hs_=>fun e_=>(((HO116.out).1 k_ e_.symm).2) hs_) (fun hn_=>(Kd.fresh' (Kd.R_lt (by (with_reducible repeat (first|apply Kd.R_alloc|apply Kd.R_drewN|apply Kd.R_drew));exact HO116.out)) k_ hn_))));have n4_:=Aside0.mk (hb);clear HO113;clear HO116;clear HO126;clear HB;clear HO123;have HO113:=n0_;have HO116:=n1_;have HO126:=n2_;have HO129:=n3_;have HB:=n4_;clear n0_ n1_ n2_ n3_ n4_;(try clear hb);(try clear hkp);(try clear ho0))|((with_reducible refine gate_builtin (b:=.append) (xs:=#[.tmp 28,.tmp 29]) rfl ?_);at_builtin;refine Kd.R_append_rows (Kd.int .u8) (w0:=w) w.heap.size rfl (.tmp 28) (.tmp 29) 22 5 (.int .u8 0) 1 rfl Try.underlying22 info5 rfl (by decide) (by omega) v128 t127 l0 _ _ _ (fun k_=>some k_ ≠ (.slice Ao19 t114.length co19:Value).ownBlock) (fun _=>False) rfl rfl ?aO ?aR (fun _ _ h=>h) (fun _ h=>h.elim) ?aF ?aB ?aS ?aL ?_;(case aR=>repeat (first|exact (Kd.C_below HR0.out HB.out)|(with_reducible refine Kd.C_alloc ?_ _)|(with_reducible refine Kd.C_drewN ?_ _)|(with_reducible refine Kd.C_drew ?_)));(case aB=>exact (by repeat (first|(with_reducible first|exact HB.out|apply below_alloc|apply pw_below_drewN|apply below_drew1)|exact HB.out)));(case aF=>exact (fun k_ hk=>Kd.fresh' (Kd.R_lt (by (with_reducible repeat (first|apply Kd.R_alloc|apply Kd.R_drewN|apply Kd.R_drew));exact HO116.out)) k_ hk));(case aO=>exact (by (with_reducible repeat (first|apply Kd.R_alloc|apply Kd.R_drewN|apply Kd.R_drew));exact HO129.out));(case aS=>exact (below_size (by repeat (first|(with_reducible first|exact HB.out|apply below_alloc|apply pw_below_drewN|apply below_drew1)|exact HB.out))));(case aL=>have:=LMc8.out;omega);intro v131 w25 ho hb hg hat;rw [← Ny130.out] at ho;have n0_:=Aside0.mk (Kd.R_over' (by (with_reducible repeat (first|apply Kd.R_alloc|apply Kd.R_drewN|apply Kd.R_drew));exact HO113.out) (Kd.R_typed (by (with_reducible repeat (first|apply Kd.R_alloc|apply Kd.R_drewN|apply Kd.R_drew));exact HO129.out)) (by decide) hg);have n1_:=Aside0.mk (Kd.R_after (ok:=(fun _=>True)) (by (with_reducible repeat (first|apply Kd.R_alloc|apply Kd.R_drewN|apply Kd.R_drew));exact Kd.R_mono HO116.out (fun _ hk=>⟨trivial,hk⟩)) hg hat);have n2_:=Aside0.mk (Kd.R_over' (by (with_reducible repeat (first|apply Kd.R_alloc|apply Kd.R_drewN|apply Kd.R_drew));exact HO126.out) (Kd.R_typed (by (with_reducible repeat (first|apply Kd.R_alloc|apply Kd.R_drewN|apply Kd.R_drew));exact HO129.out)) (by decide) hg);have n3_:=Aside0.mk (hb);have n4_:=Aside0.mk (ho);clear HO113;clear HO116;clear HO126;clear HB;clear HO129;have HO113:=n0_;have HO116:=n1_;have HO126:=n2_;have HB:=n3_;have HO132:=n4_;clear n0_ n1_ n2_ n3_ n4_;clear ho hb hg hat))
       go_ret
       exact ⟨_,by first|rfl|(simp [errW_none,errW_some] <;> rfl)|(simp [*,errW_none,errW_some] <;> rfl),by (with_reducible repeat (first|apply Kd.R_alloc|apply Kd.R_drewN|apply Kd.R_drew));exact Kd.R_mono HO132.out (fun _ hk=>trivial),by repeat (first|(with_reducible first|exact HB.out|apply below_alloc|apply pw_below_drewN|apply below_drew1)|exact HB.out)⟩
     · rw [if_neg c8] at H
       exact absurd H (by simp)
   · rw [if_neg c6] at H
     exact absurd H (by simp)
 · rw [if_neg c4] at H
   exact absurd H (by simp)
def journal_put.f (l0_0:List Int) (l0_1:List (S45)) (a1:Int) (l2:List Int):Option (List Int × (List (S45)) × Int):=(disk_Sync.f l0_0 l0_1).bind fun bt135=>((disk_Write.f bt135.1 bt135.2 a1 l2).bind fun bt141=>(if bt141.2.2=0 then ((disk_Sync.f bt141.1 bt141.2.1).bind fun bt148=>(some (bt148.1,bt148.2,0))) else (some (([]:List Int),([]:List (S45)),bt141.2.2))))
set_option maxHeartbeats 8000000 in
set_option maxRecDepth 100000 in
theorem journal_put.calls (A0_0:Option Addr) (c0_0:Nat) (l0_0:List Int) (A0_1:Option Addr) (c0_1:Nat) (l0_1:List (S45)) (a1:Int) (A2:Option Addr) (c2:Nat) (l2:List Int) (r1:List Int) (r2:List (S45)) (r3:Int) (w:World) (hr0_0:Kd.C (Kd.int .u8) w A0_0 l0_0.length l0_0) (hc0_0:l0_0.length ≤ c0_0) (hr0_1:Kd.C k45 w A0_1 l0_1.length l0_1) (hc0_1:l0_1.length ≤ c0_1) (hr2:Kd.C (Kd.int .u8) w A2 l2.length l2) (hc2:l2.length ≤ c2) (h:journal_put.f l0_0 l0_1 a1 l2=some (r1,r2,r3)) :
 Calls Try.prog 52 #[.agg #[.slice A0_0 l0_0.length c0_0,.slice A0_1 l0_1.length c0_1],.int .i64 a1,.slice A2 l2.length c2] w fun e w'=>∃ v0_ v1_:Value,e=.returned (.tuple #[.agg #[v0_,v1_],.int .i64 r3])∧Kd.R (Kd.int .u8) 5 w' w.heap.size (fun _=>True) v0_ r1∧Kd.S k45 45 w' w.heap.size (fun k_=>some k_ ≠ (v0_:Value).ownBlock) v1_ r2∧Below w.heap.size w w':=by
 have hu25:=Try.underlying25
 have HR0_0:=Aside0.mk hr0_0
 have HC0_0:=Aside0.mk hc0_0
 clear hr0_0 hc0_0
 have HR0_1:=Aside0.mk hr0_1
 have HC0_1:=Aside0.mk hc0_1
 clear hr0_1 hc0_1
 have HR2:=Aside0.mk hr2
 have HC2:=Aside0.mk hc2
 clear hr2 hc2
 have HB:=Aside0.mk (Below.refl w.heap.size w)
 have H:((disk_Sync.f l0_0 l0_1).bind fun bt135=>((disk_Write.f bt135.1 bt135.2 a1 l2).bind fun bt141=>(if bt141.2.2=0 then ((disk_Sync.f bt141.1 bt141.2.1).bind fun bt148=>(some (bt148.1,bt148.2,0))) else (some (([]:List Int),([]:List (S45)),bt141.2.2)))))=some (r1,r2,r3):=h
 clear h
 replace H:=Option.bind_eq_some_iff.mp H
 obtain ⟨⟨t135,t138⟩,A40,H⟩:=H
 replace H:((disk_Write.f t135 t138 a1 l2).bind fun bt141=>(if bt141.2.2=0 then ((disk_Sync.f bt141.1 bt141.2.1).bind fun bt148=>(some (bt148.1,bt148.2,0))) else (some (([]:List Int),([]:List (S45)),bt141.2.2))))=some (r1,r2,r3):=H
 have A4:=Aside0.mk A40
 clear A40
 replace H:=Option.bind_eq_some_iff.mp H
 obtain ⟨⟨t141,t144,t147⟩,A50,H⟩:=H
 replace H:(if t147=0 then ((disk_Sync.f t141 t144).bind fun bt148=>(some (bt148.1,bt148.2,0))) else (some (([]:List Int),([]:List (S45)),t147)))=some (r1,r2,r3):=H
 have A5:=Aside0.mk A50
 clear A50
 by_cases c6:t147=0
 · rw [if_pos c6] at H
   have c6b0:(t147 == 0)=true:=beq_iff_eq.mpr c6
   have c6b1:(t147 != 0)=false:=bne_eq_false_iff_eq.mpr c6
   clear c6
   replace H:=Option.bind_eq_some_iff.mp H
   obtain ⟨⟨t148,t151⟩,A70,H⟩:=H
   replace H:(some (t148,t151,0))=some (r1,r2,r3):=H
   have A7:=Aside0.mk A70
   clear A70
   simp only [Option.some.injEq,Prod.mk.injEq] at H
   obtain ⟨rfl,rfl,rfl⟩:=H
   go_enter Try.func52,Try.ntmps52
   go_wp2_with (first|((with_reducible refine gate_dst (N:=3) rfl ?_);refine box_event ?hg (N:=3) ?hd (cs:=#[.slice A0_0 l0_0.length c0_0,.slice A0_1 l0_1.length c0_1]) (t:=25) ?hr ?_;(case hd=>rfl);(case hg=>rfl);(case hr=>first|(go_simp;done)|(go_simp;rfl));intro gb133 hg w8 hbox hb;have n0_:=Aside0.mk (below_step (by repeat (first|(with_reducible first|exact HB.out|apply below_alloc|apply pw_below_drewN|apply below_drew1)|exact HB.out)) hb);have n1_:=Aside0.mk (hbox);have n2_:=Aside0.mk ((by rw [hg];exact (below_size (by repeat (first|(with_reducible first|exact HB.out|apply below_alloc|apply pw_below_drewN|apply below_drew1)|exact HB.out))):w.heap.size ≤ gb133));have n3_:=Aside0.mk ((by rw [hg];exact (below_size (by repeat (first|(with_reducible first|exact HB.out|apply below_alloc|apply pw_below_drewN|apply below_drew1)|exact HB.out))):w.heap.size ≤ gb133));clear HB;have HB:=n0_;have BK133:=n1_;have GW133:=n2_;have GE133:=n3_;clear n0_ n1_ n2_ n3_;clear hb hbox hg)|((with_reducible refine gate_dst (N:=6) rfl ?_);refine box_event ?hg (N:=6) ?hd (cs:=#[.slice none 0 0,.slice none 0 0]) (t:=25) ?hr ?_;(case hd=>rfl);(case hg=>rfl);(case hr=>first|(go_simp;done)|(go_simp;rfl));intro gb134 hg w9 hbox hb;have n0_:=Aside0.mk (blk_below (g:=gb133) (o:=.cells #[.slice A0_0 l0_0.length c0_0,.slice A0_1 l0_1.length c0_1] 25 (0,0)) (by (with_reducible repeat (first|refine blk_drewN ?_ _|refine blk_drew ?_|refine blk_alloc ?_ _));exact BK133.out) hb);have n1_:=Aside0.mk (below_step (by repeat (first|(with_reducible first|exact HB.out|apply below_alloc|apply pw_below_drewN|apply below_drew1|refine below_set ?_ GE133.out)|exact HB.out)) hb);have n2_:=Aside0.mk (hbox);have n3_:=Aside0.mk ((by rw [hg];exact (below_size (by repeat (first|(with_reducible first|exact HB.out|apply below_alloc|apply pw_below_drewN|apply below_drew1|refine below_set ?_ GE133.out)|exact HB.out))):w.heap.size ≤ gb134));have n4_:=Aside0.mk ((by rw [hg];exact (below_size (by repeat (first|(with_reducible first|exact HB.out|apply below_alloc|apply pw_below_drewN|apply below_drew1|refine below_set ?_ GE133.out)|exact HB.out))):w.heap.size ≤ gb134));have n5_:=Aside0.mk ((by rw [hg];exact Nat.ne_of_lt (blk_lt (g:=gb133) (o:=.cells #[.slice A0_0 l0_0.length c0_0,.slice A0_1 l0_1.length c0_1] 25 (0,0)) (by (with_reducible repeat (first|refine blk_drewN ?_ _|refine blk_drew ?_|refine blk_alloc ?_ _));exact BK133.out)):gb133 ≠ gb134));have n6_:=Aside0.mk ((by rw [hg];exact Nat.ne_of_gt (blk_lt (g:=gb133) (o:=.cells #[.slice A0_0 l0_0.length c0_0,.slice A0_1 l0_1.length c0_1] 25 (0,0)) (by (with_reducible repeat (first|refine blk_drewN ?_ _|refine blk_drew ?_|refine blk_alloc ?_ _));exact BK133.out)):gb134 ≠ gb133));clear BK133;clear HB;have BK133:=n0_;have HB:=n1_;have BK134:=n2_;have GW134:=n3_;have GE134:=n4_;have NB133_134:=n5_;have NB134_133:=n6_;clear n0_ n1_ n2_ n3_ n4_ n5_ n6_;clear hb hbox hg;have hnb10:=NB133_134.out;have hnc10:=NB134_133.out;have hcz11_0:w9.cell? ⟨gb133,0,none⟩=some (.slice A0_0 l0_0.length c0_0):=(blk_cell BK133.out 0).trans rfl;have hcz11_1:w9.cell? ⟨gb133,1,none⟩=some (.slice A0_1 l0_1.length c0_1):=(blk_cell BK133.out 1).trans rfl;have hfz11_0:=blk_frozen BK133.out 0;have hfz11_1:=blk_frozen BK133.out 1)|((with_reducible refine gate_callee (f:=26) rfl ?_);refine goesL_ (some 11) rfl rfl Try.func26 (by kernel_rfl) rfl #[.agg #[.slice A0_0 l0_0.length c0_0,.slice A0_1 l0_1.length c0_1]] rfl (by (try simp only [List.map_toArray,List.map_cons,List.map_nil]);first|done|rfl|(simp only [List.length_drop,List.length_take];rfl)) ?_;(with_reducible refine (disk_Sync.calls _ _ l0_0 _ _ l0_1 t135 t138 _ ?side1 ?side2 ?side3 ?side4 A4.out).mono ?_);(case side1=>repeat (first|exact (Kd.C_below HR0_0.out HB.out)|(with_reducible refine Kd.C_alloc ?_ _)|(with_reducible refine Kd.C_drewN ?_ _)|(with_reducible refine Kd.C_drew ?_)));(case side2=>exact HC0_0.out);(case side3=>repeat (first|exact (Kd.C_below HR0_1.out HB.out)|(with_reducible refine Kd.C_alloc ?_ _)|(with_reducible refine Kd.C_drewN ?_ _)|(with_reducible refine Kd.C_drew ?_)));(case side4=>exact HC0_1.out);rintro e w12 ⟨v136,v139,rfl,ho0,ho1,hb⟩;refine ⟨_,rfl,?_⟩;have n0_:=Aside0.mk (Kd.R_lower ho0 (below_size (by repeat (first|(with_reducible first|exact HB.out|apply below_alloc|apply pw_below_drewN|apply below_drew1|refine below_set ?_ GE133.out|refine below_set ?_ GE134.out)|exact HB.out))));have n1_:=Aside0.mk (Kd.S_lower ho1 (below_size (by repeat (first|(with_reducible first|exact HB.out|apply below_alloc|apply pw_below_drewN|apply below_drew1|refine below_set ?_ GE133.out|refine below_set ?_ GE134.out)|exact HB.out))));have n2_:=Aside0.mk (blk_below (g:=gb133) (o:=.cells #[.slice A0_0 l0_0.length c0_0,.slice A0_1 l0_1.length c0_1] 25 (0,0)) (by (with_reducible repeat (first|refine blk_drewN ?_ _|refine blk_drew ?_|refine blk_alloc ?_ _));exact BK133.out) hb);have n3_:=Aside0.mk (blk_below (g:=gb134) (o:=.cells #[.slice none 0 0,.slice none 0 0] 25 (0,0)) (by (with_reducible repeat (first|refine blk_drewN ?_ _|refine blk_drew ?_|refine blk_alloc ?_ _));exact BK134.out) hb);have n4_:=Aside0.mk (below_step (by repeat (first|(with_reducible first|exact HB.out|apply below_alloc|apply pw_below_drewN|apply below_drew1|refine below_set ?_ GE133.out|refine below_set ?_ GE134.out)|exact HB.out)) hb);clear BK133;clear BK134;clear HB;have HO137:=n0_;have HO140:=n1_;have BK133:=n2_;have BK134:=n3_;have HB:=n4_;clear n0_ n1_ n2_ n3_ n4_;(try clear hb);(try clear hb2);(try clear hk);(try clear hi);(try clear ho0);(try clear ho1);obtain ⟨Ao13,co13,eo13⟩:=Kd.R_slice HO137.out;subst eo13;obtain ⟨Ao14,co14,eo14⟩:=Kd.S_slice HO140.out;subst eo14)|((with_reducible refine gate_callee (f:=21) rfl ?_);refine goesL_ (some 14) rfl rfl Try.func21 (by kernel_rfl) rfl #[.agg #[.slice Ao13 t135.length co13,.slice Ao14 t138.length co14],.int .i64 a1,.slice A2 l2.length c2] rfl (by (try simp only [List.map_toArray,List.map_cons,List.map_nil]);first|done|rfl|(simp only [List.length_drop,List.length_take];rfl)) ?_;(with_reducible refine (disk_Write.calls _ _ t135 _ _ t138 a1 _ _ l2 t141 t144 t147 _ ?side1 ?side2 ?side3 ?side4 ?side5 ?side6 A5.out).mono ?_);(case side1=>repeat (first|exact (Kd.R_reads' HO137.out).2.2|(with_reducible refine Kd.C_alloc ?_ _)|(with_reducible refine Kd.C_drewN ?_ _)|(with_reducible refine Kd.C_drew ?_)));(case side2=>exact (Kd.R_reads' HO137.out).2.1);(case side3=>repeat (first|exact (Kd.S_reads' HO140.out).2.2|(with_reducible refine Kd.C_alloc ?_ _)|(with_reducible refine Kd.C_drewN ?_ _)|(with_reducible refine Kd.C_drew ?_)));(case side4=>exact (Kd.S_reads' HO140.out).2.1);(case side5=>repeat (first|exact (Kd.C_below HR2.out HB.out)|(with_reducible refine Kd.C_alloc ?_ _)|(with_reducible refine Kd.C_drewN ?_ _)|(with_reducible refine Kd.C_drew ?_)));(case side6=>exact HC2.out);rintro e w15 ⟨v142,v145,rfl,ho0,ho1,hb⟩;refine ⟨_,rfl,?_⟩;have n0_:=Aside0.mk (Kd.R_elder' (by (with_reducible repeat (first|apply Kd.R_alloc|apply Kd.R_drewN|apply Kd.R_drew));exact HO137.out) (Kd.R_base ho0) hb);have n1_:=Aside0.mk (Kd.S_mono (Kd.S_told (Kd.S_told (Kd.S_old (by (with_reducible repeat (first|apply Kd.S_alloc|apply Kd.S_drewN|apply Kd.S_drew));exact HO140.out) hb) (Kd.R_base ho0)) (Kd.S_base ho1)) (fun _ h_=>h_.1));have n2_:=Aside0.mk (Kd.R_lower (Kd.R_new' ho0 (Kd.R_lt (by (with_reducible repeat (first|apply Kd.R_alloc|apply Kd.R_drewN|apply Kd.R_drew));exact HO137.out))) (below_size (by repeat (first|(with_reducible first|exact HB.out|apply below_alloc|apply pw_below_drewN|apply below_drew1|refine below_set ?_ GE133.out|refine below_set ?_ GE134.out)|exact HB.out))));have n3_:=Aside0.mk (Kd.S_lower (Kd.S_new' (Kd.S_new' ho1 (Kd.R_lt (by (with_reducible repeat (first|apply Kd.R_alloc|apply Kd.R_drewN|apply Kd.R_drew));exact HO137.out))) (Kd.S_lt (by (with_reducible repeat (first|apply Kd.S_alloc|apply Kd.S_drewN|apply Kd.S_drew));exact HO140.out))) (below_size (by repeat (first|(with_reducible first|exact HB.out|apply below_alloc|apply pw_below_drewN|apply below_drew1|refine below_set ?_ GE133.out|refine below_set ?_ GE134.out)|exact HB.out))));have n4_:=Aside0.mk (blk_below (g:=gb133) (o:=.cells #[.slice A0_0 l0_0.length c0_0,.slice A0_1 l0_1.length c0_1] 25 (0,0)) (by (with_reducible repeat (first|refine blk_drewN ?_ _|refine blk_drew ?_|refine blk_alloc ?_ _));exact BK133.out) hb);have n5_:=Aside0.mk (blk_below (g:=gb134) (o:=.cells #[.slice none 0 0,.slice none 0 0] 25 (0,0)) (by (with_reducible repeat (first|refine blk_drewN ?_ _|refine blk_drew ?_|refine blk_alloc ?_ _));exact BK134.out) hb);have n6_:=Aside0.mk (below_step (by repeat (first|(with_reducible first|exact HB.out|apply below_alloc|apply pw_below_drewN|apply below_drew1|refine below_set ?_ GE133.out|refine below_set ?_ GE134.out)|exact HB.out)) hb);clear HO137;clear HO140;clear BK133;clear BK134;clear HB;have HO137:=n0_;have HO140:=n1_;have HO143:=n2_;have HO146:=n3_;have BK133:=n4_;have BK134:=n5_;have HB:=n6_;clear n0_ n1_ n2_ n3_ n4_ n5_ n6_;(try clear hb);(try clear hb2);(try clear hk);(try clear hi);(try clear ho0);(try clear ho1);obtain ⟨Ao16,co16,eo16⟩:=Kd.R_slice HO143.out;subst eo16;have hcz17_0:w15.cell? ⟨gb133,0,none⟩=some (.slice A0_0 l0_0.length c0_0):=(blk_cell BK133.out 0).trans rfl;have hcz17_1:w15.cell? ⟨gb133,1,none⟩=some (.slice A0_1 l0_1.length c0_1):=(blk_cell BK133.out 1).trans rfl;have hfz17_0:=blk_frozen BK133.out 0;have hfz17_1:=blk_frozen BK133.out 1;obtain ⟨Ao18,co18,eo18⟩:=Kd.S_slice HO146.out;subst eo18)|((with_reducible refine gate_callee (f:=26) rfl ?_);refine goesL_ (some 22) rfl rfl Try.func26 (by kernel_rfl) rfl #[.agg #[.slice Ao16 t141.length co16,.slice Ao18 t144.length co18]] rfl (by (try simp only [List.map_toArray,List.map_cons,List.map_nil]);first|done|rfl|(simp only [List.length_drop,List.length_take];rfl)) ?_;(with_reducible refine (disk_Sync.calls _ _ t141 _ _ t144 t148 t151 _ ?side1 ?side2 ?side3 ?side4 A7.out).mono ?_);(case side1=>refine (Kd.R_reads' (e:=5) (base:=w.heap.size) (ok:=fun k_=>(True∧some k_ ≠ (.slice Ao13 t135.length co13:Value).ownBlock)) (n:=t141.length) (c:=co16) ?_).2.2;exact (by (with_reducible repeat (first|apply Kd.R_alloc|apply Kd.R_drewN|apply Kd.R_drew));exact (Kd.R_mono (Kd.R_far (p:=⟨gb133,1,none⟩) (Kd.R_far (p:=⟨gb133,0,none⟩) (Kd.R_types HO143.out BK133.out (by decide)) (fun _ hk=>hk.2) (.slice Ao16 t141.length co16)) (fun _ hk=>hk.2) (.slice Ao18 t144.length co18)) (fun _ h_=>h_.1))));(case side2=>exact (Kd.R_reads' HO143.out).2.1);(case side3=>refine (Kd.S_reads' (e:=45) (base:=w.heap.size) (ok:=fun k_=>((some k_ ≠ (.slice Ao16 t141.length co16:Value).ownBlock∧some k_ ≠ (.slice Ao13 t135.length co13:Value).ownBlock)∧some k_ ≠ (.slice Ao14 t138.length co14:Value).ownBlock)) (n:=t144.length) (c:=co18) ?_).2.2;exact (by (with_reducible repeat (first|apply Kd.S_alloc|apply Kd.S_drewN|apply Kd.S_drew));exact (Kd.S_mono (Kd.S_far (p:=⟨gb133,1,none⟩) (Kd.S_far (p:=⟨gb133,0,none⟩) (Kd.S_types HO146.out BK133.out (by decide)) (fun _ hk=>hk.2) (.slice Ao16 t141.length co16)) (fun _ hk=>hk.2) (.slice Ao18 t144.length co18)) (fun _ h_=>h_.1))));(case side4=>exact (Kd.S_reads' HO146.out).2.1);rintro e w19 ⟨v149,v152,rfl,ho0,ho1,hb⟩;refine ⟨_,rfl,?_⟩;have n0_:=Aside0.mk (Kd.R_elder' (by (with_reducible repeat (first|apply Kd.R_alloc|apply Kd.R_drewN|apply Kd.R_drew));exact (Kd.R_mono (Kd.R_far (p:=⟨gb133,1,none⟩) (Kd.R_far (p:=⟨gb133,0,none⟩) (Kd.R_types HO137.out BK133.out (by decide)) (fun _ hk=>hk.2) (.slice Ao16 t141.length co16)) (fun _ hk=>hk.2) (.slice Ao18 t144.length co18)) (fun _ h_=>h_.1))) (Kd.R_base ho0) hb);have n1_:=Aside0.mk (Kd.S_mono (Kd.S_told (Kd.S_told (Kd.S_old (by (with_reducible repeat (first|apply Kd.S_alloc|apply Kd.S_drewN|apply Kd.S_drew));exact (Kd.S_mono (Kd.S_far (p:=⟨gb133,1,none⟩) (Kd.S_far (p:=⟨gb133,0,none⟩) (Kd.S_types HO140.out BK133.out (by decide)) (fun _ hk=>hk.2) (.slice Ao16 t141.length co16)) (fun _ hk=>hk.2) (.slice Ao18 t144.length co18)) (fun _ h_=>h_.1))) hb) (Kd.R_base ho0)) (Kd.S_base ho1)) (fun _ h_=>h_.1));have n2_:=Aside0.mk (Kd.R_elder' (by (with_reducible repeat (first|apply Kd.R_alloc|apply Kd.R_drewN|apply Kd.R_drew));exact (Kd.R_mono (Kd.R_far (p:=⟨gb133,1,none⟩) (Kd.R_far (p:=⟨gb133,0,none⟩) (Kd.R_types HO143.out BK133.out (by decide)) (fun _ hk=>hk.2) (.slice Ao16 t141.length co16)) (fun _ hk=>hk.2) (.slice Ao18 t144.length co18)) (fun _ h_=>h_.1))) (Kd.R_base ho0) hb);have n3_:=Aside0.mk (Kd.S_mono (Kd.S_told (Kd.S_told (Kd.S_old (by (with_reducible repeat (first|apply Kd.S_alloc|apply Kd.S_drewN|apply Kd.S_drew));exact (Kd.S_mono (Kd.S_far (p:=⟨gb133,1,none⟩) (Kd.S_far (p:=⟨gb133,0,none⟩) (Kd.S_types HO146.out BK133.out (by decide)) (fun _ hk=>hk.2) (.slice Ao16 t141.length co16)) (fun _ hk=>hk.2) (.slice Ao18 t144.length co18)) (fun _ h_=>h_.1))) hb) (Kd.R_base ho0)) (Kd.S_base ho1)) (fun _ h_=>h_.1));have n4_:=Aside0.mk (Kd.R_lower (Kd.R_new' (Kd.R_new' ho0 (Kd.R_lt (by (with_reducible repeat (first|apply Kd.R_alloc|apply Kd.R_drewN|apply Kd.R_drew));exact (Kd.R_mono (Kd.R_far (p:=⟨gb133,1,none⟩) (Kd.R_far (p:=⟨gb133,0,none⟩) (Kd.R_types HO137.out BK133.out (by decide)) (fun _ hk=>hk.2) (.slice Ao16 t141.length co16)) (fun _ hk=>hk.2) (.slice Ao18 t144.length co18)) (fun _ h_=>h_.1))))) (Kd.R_lt (by (with_reducible repeat (first|apply Kd.R_alloc|apply Kd.R_drewN|apply Kd.R_drew));exact (Kd.R_mono (Kd.R_far (p:=⟨gb133,1,none⟩) (Kd.R_far (p:=⟨gb133,0,none⟩) (Kd.R_types HO143.out BK133.out (by decide)) (fun _ hk=>hk.2) (.slice Ao16 t141.length co16)) (fun _ hk=>hk.2) (.slice Ao18 t144.length co18)) (fun _ h_=>h_.1))))) (below_size (by repeat (first|(with_reducible first|exact HB.out|apply below_alloc|apply pw_below_drewN|apply below_drew1|refine below_set ?_ GE133.out|refine below_set ?_ GE134.out)|exact HB.out))));have n5_:=Aside0.mk (Kd.S_lower (Kd.S_new' (Kd.S_new' (Kd.S_new' (Kd.S_new' ho1 (Kd.R_lt (by (with_reducible repeat (first|apply Kd.R_alloc|apply Kd.R_drewN|apply Kd.R_drew));exact (Kd.R_mono (Kd.R_far (p:=⟨gb133,1,none⟩) (Kd.R_far (p:=⟨gb133,0,none⟩) (Kd.R_types HO137.out BK133.out (by decide)) (fun _ hk=>hk.2) (.slice Ao16 t141.length co16)) (fun _ hk=>hk.2) (.slice Ao18 t144.length co18)) (fun _ h_=>h_.1))))) (Kd.S_lt (by (with_reducible repeat (first|apply Kd.S_alloc|apply Kd.S_drewN|apply Kd.S_drew));exact (Kd.S_mono (Kd.S_far (p:=⟨gb133,1,none⟩) (Kd.S_far (p:=⟨gb133,0,none⟩) (Kd.S_types HO140.out BK133.out (by decide)) (fun _ hk=>hk.2) (.slice Ao16 t141.length co16)) (fun _ hk=>hk.2) (.slice Ao18 t144.length co18)) (fun _ h_=>h_.1))))) (Kd.R_lt (by (with_reducible repeat (first|apply Kd.R_alloc|apply Kd.R_drewN|apply Kd.R_drew));exact (Kd.R_mono (Kd.R_far (p:=⟨gb133,1,none⟩) (Kd.R_far (p:=⟨gb133,0,none⟩) (Kd.R_types HO143.out BK133.out (by decide)) (fun _ hk=>hk.2) (.slice Ao16 t141.length co16)) (fun _ hk=>hk.2) (.slice Ao18 t144.length co18)) (fun _ h_=>h_.1))))) (Kd.S_lt (by (with_reducible repeat (first|apply Kd.S_alloc|apply Kd.S_drewN|apply Kd.S_drew));exact (Kd.S_mono (Kd.S_far (p:=⟨gb133,1,none⟩) (Kd.S_far (p:=⟨gb133,0,none⟩) (Kd.S_types HO146.out BK133.out (by decide)) (fun _ hk=>hk.2) (.slice Ao16 t141.length co16)) (fun _ hk=>hk.2) (.slice Ao18 t144.length co18)) (fun _ h_=>h_.1))))) (below_size (by repeat (first|(with_reducible first|exact HB.out|apply below_alloc|apply pw_below_drewN|apply below_drew1|refine below_set ?_ GE133.out|refine below_set ?_ GE134.out)|exact HB.out))));have n6_:=Aside0.mk (blk_below (g:=gb133) (o:=.cells #[.slice Ao16 t141.length co16,.slice Ao18 t144.length co18] 25 (0,0)) (by (with_reducible repeat (first|refine blk_drewN ?_ _|refine blk_drew ?_|refine blk_alloc ?_ _));refine blk_put (cs:=#[.slice Ao16 t141.length co16,.slice A0_1 l0_1.length c0_1]) ?_ 1 _ rfl;(with_reducible repeat (first|refine blk_drewN ?_ _|refine blk_drew ?_|refine blk_alloc ?_ _));refine blk_put (cs:=#[.slice A0_0 l0_0.length c0_0,.slice A0_1 l0_1.length c0_1]) ?_ 0 _ rfl;(with_reducible repeat (first|refine blk_drewN ?_ _|refine blk_drew ?_|refine blk_alloc ?_ _));exact BK133.out) hb);have n7_:=Aside0.mk (blk_below (g:=gb134) (o:=.cells #[.slice none 0 0,.slice none 0 0] 25 (0,0)) (by (with_reducible repeat (first|refine blk_drewN ?_ _|refine blk_drew ?_|refine blk_alloc ?_ _));refine blk_far ?_ NB134_133.out _;(with_reducible repeat (first|refine blk_drewN ?_ _|refine blk_drew ?_|refine blk_alloc ?_ _));refine blk_far ?_ NB134_133.out _;(with_reducible repeat (first|refine blk_drewN ?_ _|refine blk_drew ?_|refine blk_alloc ?_ _));exact BK134.out) hb);have n8_:=Aside0.mk (below_step (by repeat (first|(with_reducible first|exact HB.out|apply below_alloc|apply pw_below_drewN|apply below_drew1|refine below_set ?_ GE133.out|refine below_set ?_ GE134.out)|exact HB.out)) hb);clear HO137;clear HO140;clear HO143;clear HO146;clear BK133;clear BK134;clear HB;have HO137:=n0_;have HO140:=n1_;have HO143:=n2_;have HO146:=n3_;have HO150:=n4_;have HO153:=n5_;have BK133:=n6_;have BK134:=n7_;have HB:=n8_;clear n0_ n1_ n2_ n3_ n4_ n5_ n6_ n7_ n8_;(try clear hb);(try clear hb2);(try clear hk);(try clear hi);(try clear ho0);(try clear ho1);obtain ⟨Ao20,co20,eo20⟩:=Kd.R_slice HO150.out;subst eo20;have hcz21_0:w19.cell? ⟨gb134,0,none⟩=some (.slice none 0 0):=(blk_cell BK134.out 0).trans rfl;have hcz21_1:w19.cell? ⟨gb134,1,none⟩=some (.slice none 0 0):=(blk_cell BK134.out 1).trans rfl;have hfz21_0:=blk_frozen BK134.out 0;have hfz21_1:=blk_frozen BK134.out 1;obtain ⟨Ao22,co22,eo22⟩:=Kd.S_slice HO153.out;subst eo22))
   refine bodyPost_ret (results_ct rfl _ _ gb134 25 #[.slice Ao20 t148.length co20,.slice Ao22 t151.length co22] (0,0) _ rfl (by (with_reducible repeat (first|refine blk_drewN ?_ _|refine blk_drew ?_|refine blk_alloc ?_ _));refine blk_put (cs:=#[.slice Ao20 t148.length co20,.slice none 0 0]) ?_ 1 _ rfl;(with_reducible repeat (first|refine blk_drewN ?_ _|refine blk_drew ?_|refine blk_alloc ?_ _));refine blk_put (cs:=#[.slice none 0 0,.slice none 0 0]) ?_ 0 _ rfl;(with_reducible repeat (first|refine blk_drewN ?_ _|refine blk_drew ?_|refine blk_alloc ?_ _));exact BK134.out) Try.underlying25 rfl (by kernel_rfl)) rfl ?_
   exact ⟨_,_,by first|rfl|(simp [errW_none,errW_some] <;> rfl)|(simp [*,errW_none,errW_some] <;> rfl),by (with_reducible repeat (first|apply Kd.R_alloc|apply Kd.R_drewN|apply Kd.R_drew));exact Kd.R_mono (Kd.R_far (p:=⟨gb134,1,none⟩) (Kd.R_far (p:=⟨gb134,0,none⟩) (Kd.R_types HO150.out BK134.out (by decide)) (fun _ hk=>hk.2) (.slice Ao20 t148.length co20)) (fun _ hk=>hk.2) (.slice Ao22 t151.length co22)) (fun _ hk=>trivial),by (with_reducible repeat (first|apply Kd.S_alloc|apply Kd.S_drewN|apply Kd.S_drew));exact Kd.S_mono (Kd.S_far (p:=⟨gb134,1,none⟩) (Kd.S_far (p:=⟨gb134,0,none⟩) (Kd.S_types HO153.out BK134.out (by decide)) (fun _ hk=>hk.2) (.slice Ao20 t148.length co20)) (fun _ hk=>hk.2) (.slice Ao22 t151.length co22)) (fun _ hk=>hk.1.1.1.1.1),by repeat (first|(with_reducible first|exact HB.out|apply below_alloc|apply pw_below_drewN|apply below_drew1|refine below_set ?_ GE133.out|refine below_set ?_ GE134.out)|exact HB.out)⟩
 · rw [if_neg c6] at H
   have c6b0:(t147 == 0)=false:=beq_eq_false_iff_ne.mpr c6
   have c6b1:(t147 != 0)=true:=bne_iff_ne.mpr c6
   simp only [Option.some.injEq,Prod.mk.injEq] at H
   obtain ⟨rfl,rfl,rfl⟩:=H
   go_enter Try.func52,Try.ntmps52
   go_wp2_with (first|((with_reducible refine gate_dst (N:=3) rfl ?_);refine box_event ?hg (N:=3) ?hd (cs:=#[.slice A0_0 l0_0.length c0_0,.slice A0_1 l0_1.length c0_1]) (t:=25) ?hr ?_;(case hd=>rfl);(case hg=>rfl);(case hr=>first|(go_simp;done)|(go_simp;rfl));intro gb133 hg w23 hbox hb;have n0_:=Aside0.mk (below_step (by repeat (first|(with_reducible first|exact HB.out|apply below_alloc|apply pw_below_drewN|apply below_drew1)|exact HB.out)) hb);have n1_:=Aside0.mk (hbox);have n2_:=Aside0.mk ((by rw [hg];exact (below_size (by repeat (first|(with_reducible first|exact HB.out|apply below_alloc|apply pw_below_drewN|apply below_drew1)|exact HB.out))):w.heap.size ≤ gb133));have n3_:=Aside0.mk ((by rw [hg];exact (below_size (by repeat (first|(with_reducible first|exact HB.out|apply below_alloc|apply pw_below_drewN|apply below_drew1)|exact HB.out))):w.heap.size ≤ gb133));clear HB;have HB:=n0_;have BK133:=n1_;have GW133:=n2_;have GE133:=n3_;clear n0_ n1_ n2_ n3_;clear hb hbox hg)|((with_reducible refine gate_dst (N:=6) rfl ?_);refine box_event ?hg (N:=6) ?hd (cs:=#[.slice none 0 0,.slice none 0 0]) (t:=25) ?hr ?_;(case hd=>rfl);(case hg=>rfl);(case hr=>first|(go_simp;done)|(go_simp;rfl));intro gb134 hg w24 hbox hb;have n0_:=Aside0.mk (blk_below (g:=gb133) (o:=.cells #[.slice A0_0 l0_0.length c0_0,.slice A0_1 l0_1.length c0_1] 25 (0,0)) (by (with_reducible repeat (first|refine blk_drewN ?_ _|refine blk_drew ?_|refine blk_alloc ?_ _));exact BK133.out) hb);have n1_:=Aside0.mk (below_step (by repeat (first|(with_reducible first|exact HB.out|apply below_alloc|apply pw_below_drewN|apply below_drew1|refine below_set ?_ GE133.out)|exact HB.out)) hb);have n2_:=Aside0.mk (hbox);have n3_:=Aside0.mk ((by rw [hg];exact (below_size (by repeat (first|(with_reducible first|exact HB.out|apply below_alloc|apply pw_below_drewN|apply below_drew1|refine below_set ?_ GE133.out)|exact HB.out))):w.heap.size ≤ gb134));have n4_:=Aside0.mk ((by rw [hg];exact (below_size (by repeat (first|(with_reducible first|exact HB.out|apply below_alloc|apply pw_below_drewN|apply below_drew1|refine below_set ?_ GE133.out)|exact HB.out))):w.heap.size ≤ gb134));have n5_:=Aside0.mk ((by rw [hg];exact Nat.ne_of_lt (blk_lt (g:=gb133) (o:=.cells #[.slice A0_0 l0_0.length c0_0,.slice A0_1 l0_1.length c0_1] 25 (0,0)) (by (with_reducible repeat (first|refine blk_drewN ?_ _|refine blk_drew ?_|refine blk_alloc ?_ _));exact BK133.out)):gb133 ≠ gb134));have n6_:=Aside0.mk ((by rw [hg];exact Nat.ne_of_gt (blk_lt (g:=gb133) (o:=.cells #[.slice A0_0 l0_0.length c0_0,.slice A0_1 l0_1.length c0_1] 25 (0,0)) (by (with_reducible repeat (first|refine blk_drewN ?_ _|refine blk_drew ?_|refine blk_alloc ?_ _));exact BK133.out)):gb134 ≠ gb133));clear BK133;clear HB;have BK133:=n0_;have HB:=n1_;have BK134:=n2_;have GW134:=n3_;have GE134:=n4_;have NB133_134:=n5_;have NB134_133:=n6_;clear n0_ n1_ n2_ n3_ n4_ n5_ n6_;clear hb hbox hg;have hnb25:=NB133_134.out;have hnc25:=NB134_133.out;have hcz26_0:w24.cell? ⟨gb133,0,none⟩=some (.slice A0_0 l0_0.length c0_0):=(blk_cell BK133.out 0).trans rfl;have hcz26_1:w24.cell? ⟨gb133,1,none⟩=some (.slice A0_1 l0_1.length c0_1):=(blk_cell BK133.out 1).trans rfl;have hfz26_0:=blk_frozen BK133.out 0;have hfz26_1:=blk_frozen BK133.out 1)|((with_reducible refine gate_callee (f:=26) rfl ?_);refine goesL_ (some 11) rfl rfl Try.func26 (by kernel_rfl) rfl #[.agg #[.slice A0_0 l0_0.length c0_0,.slice A0_1 l0_1.length c0_1]] rfl (by (try simp only [List.map_toArray,List.map_cons,List.map_nil]);first|done|rfl|(simp only [List.length_drop,List.length_take];rfl)) ?_;(with_reducible refine (disk_Sync.calls _ _ l0_0 _ _ l0_1 t135 t138 _ ?side1 ?side2 ?side3 ?side4 A4.out).mono ?_);(case side1=>repeat (first|exact (Kd.C_below HR0_0.out HB.out)|(with_reducible refine Kd.C_alloc ?_ _)|(with_reducible refine Kd.C_drewN ?_ _)|(with_reducible refine Kd.C_drew ?_)));(case side2=>exact HC0_0.out);(case side3=>repeat (first|exact (Kd.C_below HR0_1.out HB.out)|(with_reducible refine Kd.C_alloc ?_ _)|(with_reducible refine Kd.C_drewN ?_ _)|(with_reducible refine Kd.C_drew ?_)));(case side4=>exact HC0_1.out);rintro e w27 ⟨v136,v139,rfl,ho0,ho1,hb⟩;refine ⟨_,rfl,?_⟩;have n0_:=Aside0.mk (Kd.R_lower ho0 (below_size (by repeat (first|(with_reducible first|exact HB.out|apply below_alloc|apply pw_below_drewN|apply below_drew1|refine below_set ?_ GE133.out|refine below_set ?_ GE134.out)|exact HB.out))));have n1_:=Aside0.mk (Kd.S_lower ho1 (below_size (by repeat (first|(with_reducible first|exact HB.out|apply below_alloc|apply pw_below_drewN|apply below_drew1|refine below_set ?_ GE133.out|refine below_set ?_ GE134.out)|exact HB.out))));have n2_:=Aside0.mk (blk_below (g:=gb133) (o:=.cells #[.slice A0_0 l0_0.length c0_0,.slice A0_1 l0_1.length c0_1] 25 (0,0)) (by (with_reducible repeat (first|refine blk_drewN ?_ _|refine blk_drew ?_|refine blk_alloc ?_ _));exact BK133.out) hb);have n3_:=Aside0.mk (blk_below (g:=gb134) (o:=.cells #[.slice none 0 0,.slice none 0 0] 25 (0,0)) (by (with_reducible repeat (first|refine blk_drewN ?_ _|refine blk_drew ?_|refine blk_alloc ?_ _));exact BK134.out) hb);have n4_:=Aside0.mk (below_step (by repeat (first|(with_reducible first|exact HB.out|apply below_alloc|apply pw_below_drewN|apply below_drew1|refine below_set ?_ GE133.out|refine below_set ?_ GE134.out)|exact HB.out)) hb);clear BK133;clear BK134;clear HB;have HO137:=n0_;have HO140:=n1_;have BK133:=n2_;have BK134:=n3_;have HB:=n4_;clear n0_ n1_ n2_ n3_ n4_;(try clear hb);(try clear hb2);(try clear hk);(try clear hi);(try clear ho0);(try clear ho1);obtain ⟨Ao28,co28,eo28⟩:=Kd.R_slice HO137.out;subst eo28;obtain ⟨Ao29,co29,eo29⟩:=Kd.S_slice HO140.out;subst eo29)|((with_reducible refine gate_callee (f:=21) rfl ?_);refine goesL_ (some 14) rfl rfl Try.func21 (by kernel_rfl) rfl #[.agg #[.slice Ao28 t135.length co28,.slice Ao29 t138.length co29],.int .i64 a1,.slice A2 l2.length c2] rfl (by (try simp only [List.map_toArray,List.map_cons,List.map_nil]);first|done|rfl|(simp only [List.length_drop,List.length_take];rfl)) ?_;(with_reducible refine (disk_Write.calls _ _ t135 _ _ t138 a1 _ _ l2 t141 t144 t147 _ ?side1 ?side2 ?side3 ?side4 ?side5 ?side6 A5.out).mono ?_);(case side1=>repeat (first|exact (Kd.R_reads' HO137.out).2.2|(with_reducible refine Kd.C_alloc ?_ _)|(with_reducible refine Kd.C_drewN ?_ _)|(with_reducible refine Kd.C_drew ?_)));(case side2=>exact (Kd.R_reads' HO137.out).2.1);(case side3=>repeat (first|exact (Kd.S_reads' HO140.out).2.2|(with_reducible refine Kd.C_alloc ?_ _)|(with_reducible refine Kd.C_drewN ?_ _)|(with_reducible refine Kd.C_drew ?_)));(case side4=>exact (Kd.S_reads' HO140.out).2.1);(case side5=>repeat (first|exact (Kd.C_below HR2.out HB.out)|(with_reducible refine Kd.C_alloc ?_ _)|(with_reducible refine Kd.C_drewN ?_ _)|(with_reducible refine Kd.C_drew ?_)));(case side6=>exact HC2.out);rintro e w30 ⟨v142,v145,rfl,ho0,ho1,hb⟩;refine ⟨_,rfl,?_⟩;have n0_:=Aside0.mk (Kd.R_elder' (by (with_reducible repeat (first|apply Kd.R_alloc|apply Kd.R_drewN|apply Kd.R_drew));exact HO137.out) (Kd.R_base ho0) hb);have n1_:=Aside0.mk (Kd.S_mono (Kd.S_told (Kd.S_told (Kd.S_old (by (with_reducible repeat (first|apply Kd.S_alloc|apply Kd.S_drewN|apply Kd.S_drew));exact HO140.out) hb) (Kd.R_base ho0)) (Kd.S_base ho1)) (fun _ h_=>h_.1));have n2_:=Aside0.mk (Kd.R_lower (Kd.R_new' ho0 (Kd.R_lt (by (with_reducible repeat (first|apply Kd.R_alloc|apply Kd.R_drewN|apply Kd.R_drew));exact HO137.out))) (below_size (by repeat (first|(with_reducible first|exact HB.out|apply below_alloc|apply pw_below_drewN|apply below_drew1|refine below_set ?_ GE133.out|refine below_set ?_ GE134.out)|exact HB.out))));have n3_:=Aside0.mk (Kd.S_lower (Kd.S_new' (Kd.S_new' ho1 (Kd.R_lt (by (with_reducible repeat (first|apply Kd.R_alloc|apply Kd.R_drewN|apply Kd.R_drew));exact HO137.out))) (Kd.S_lt (by (with_reducible repeat (first|apply Kd.S_alloc|apply Kd.S_drewN|apply Kd.S_drew));exact HO140.out))) (below_size (by repeat (first|(with_reducible first|exact HB.out|apply below_alloc|apply pw_below_drewN|apply below_drew1|refine below_set ?_ GE133.out|refine below_set ?_ GE134.out)|exact HB.out))));have n4_:=Aside0.mk (blk_below (g:=gb133) (o:=.cells #[.slice A0_0 l0_0.length c0_0,.slice A0_1 l0_1.length c0_1] 25 (0,0)) (by (with_reducible repeat (first|refine blk_drewN ?_ _|refine blk_drew ?_|refine blk_alloc ?_ _));exact BK133.out) hb);have n5_:=Aside0.mk (blk_below (g:=gb134) (o:=.cells #[.slice none 0 0,.slice none 0 0] 25 (0,0)) (by (with_reducible repeat (first|refine blk_drewN ?_ _|refine blk_drew ?_|refine blk_alloc ?_ _));exact BK134.out) hb);have n6_:=Aside0.mk (below_step (by repeat (first|(with_reducible first|exact HB.out|apply below_alloc|apply pw_below_drewN|apply below_drew1|refine below_set ?_ GE133.out|refine below_set ?_ GE134.out)|exact HB.out)) hb);clear HO137;clear HO140;clear BK133;clear BK134;clear HB;have HO137:=n0_;have HO140:=n1_;have HO143:=n2_;have HO146:=n3_;have BK133:=n4_;have BK134:=n5_;have HB:=n6_;clear n0_ n1_ n2_ n3_ n4_ n5_ n6_;(try clear hb);(try clear hb2);(try clear hk);(try clear hi);(try clear ho0);(try clear ho1);obtain ⟨Ao31,co31,eo31⟩:=Kd.R_slice HO143.out;subst eo31;have hcz32_0:w30.cell? ⟨gb133,0,none⟩=some (.slice A0_0 l0_0.length c0_0):=(blk_cell BK133.out 0).trans rfl;have hcz32_1:w30.cell? ⟨gb133,1,none⟩=some (.slice A0_1 l0_1.length c0_1):=(blk_cell BK133.out 1).trans rfl;have hfz32_0:=blk_frozen BK133.out 0;have hfz32_1:=blk_frozen BK133.out 1;obtain ⟨Ao33,co33,eo33⟩:=Kd.S_slice HO146.out;subst eo33;have hcz34_0:w30.cell? ⟨gb134,0,none⟩=some (.slice none 0 0):=(blk_cell BK134.out 0).trans rfl;have hcz34_1:w30.cell? ⟨gb134,1,none⟩=some (.slice none 0 0):=(blk_cell BK134.out 1).trans rfl;have hfz34_0:=blk_frozen BK134.out 0;have hfz34_1:=blk_frozen BK134.out 1))
   refine bodyPost_ret (results_ct rfl _ _ gb134 25 #[.slice none 0 0,.slice none 0 0] (0,0) _ rfl (by (with_reducible repeat (first|refine blk_drewN ?_ _|refine blk_drew ?_|refine blk_alloc ?_ _));refine blk_put (cs:=#[.slice none 0 0,.slice none 0 0]) ?_ 1 _ rfl;(with_reducible repeat (first|refine blk_drewN ?_ _|refine blk_drew ?_|refine blk_alloc ?_ _));refine blk_put (cs:=#[.slice none 0 0,.slice none 0 0]) ?_ 0 _ rfl;(with_reducible repeat (first|refine blk_drewN ?_ _|refine blk_drew ?_|refine blk_alloc ?_ _));refine blk_far ?_ NB134_133.out _;(with_reducible repeat (first|refine blk_drewN ?_ _|refine blk_drew ?_|refine blk_alloc ?_ _));refine blk_far ?_ NB134_133.out _;(with_reducible repeat (first|refine blk_drewN ?_ _|refine blk_drew ?_|refine blk_alloc ?_ _));exact BK134.out) Try.underlying25 rfl (by kernel_rfl)) rfl ?_
   exact ⟨_,_,by first|rfl|(simp [errW_none,errW_some] <;> rfl)|(simp [*,errW_none,errW_some] <;> rfl),by first|exact Kd.R_nil _ _ _ _ _|exact Kd.N_nil _ _ _ _ _|exact Kd.V_nil _ _ _ _ _|exact Kd.Q_nil _ _ _ _ _|exact Kd.S_nil _ _ _ _ _,by first|exact Kd.S_nil _ _ _ _ _|exact Kd.N_nil _ _ _ _ _|exact Kd.V_nil _ _ _ _ _|exact Kd.Q_nil _ _ _ _ _|exact Kd.R_nil _ _ _ _ _,by repeat (first|(with_reducible first|exact HB.out|apply below_alloc|apply pw_below_drewN|apply below_drew1|refine below_set ?_ GE133.out|refine below_set ?_ GE134.out)|exact HB.out)⟩
def wageofficelaw43_small.l0:Nat→Int→List (S45)→Int→Int→List Int→List (S45)→Option (Bool)
 | 0,_,_,_,_,_,_=>none
 | k + 1,x3,x10,x11,x12,x172000,x172001=>if x12 < x11 then (if 0 ≤ x12 then (if x12 < (x10.length:Int) then (wageofficelaw43_small.l0 k (wrap64 (x3 + (((rd_T45 x10 x12).f1).length:Int))) x10 x11 (wrap64 (x12 + 1)) x172000 x172001) else (none)) else (none)) else (if x3 ≤ 8000 then (some (decide ((x172001.length:Int) ≤ 65))) else (some false))
def wageofficelaw43_small.f (k:Nat) (l0_0:List Int) (l0_1:List (S45)):Option (Bool):=wageofficelaw43_small.l0 k (l0_0.length:Int) l0_1 (l0_1.length:Int) 0 l0_0 l0_1
set_option maxHeartbeats 8000000 in
set_option maxRecDepth 100000 in
theorem wageofficelaw43_small.calls (k:Nat) (A0_0:Option Addr) (c0_0:Nat) (l0_0:List Int) (A0_1:Option Addr) (c0_1:Nat) (l0_1:List (S45)) (r:Bool) (w:World) (hr0_0:Kd.C (Kd.int .u8) w A0_0 l0_0.length l0_0) (hc0_0:l0_0.length ≤ c0_0) (hr0_1:Kd.C k45 w A0_1 l0_1.length l0_1) (hc0_1:l0_1.length ≤ c0_1) (h:wageofficelaw43_small.f k l0_0 l0_1=some r) :
 Calls Try.prog 33 #[.agg #[.slice A0_0 l0_0.length c0_0,.slice A0_1 l0_1.length c0_1]] w fun e w'=>e=.returned (.bool r)∧Below w.heap.size w w':=by
 have hu25:=Try.underlying25
 have hu45:=Try.underlying45
 have HR0_0:=Aside0.mk hr0_0
 have HC0_0:=Aside0.mk hc0_0
 clear hr0_0 hc0_0
 have HR0_1:=Aside0.mk hr0_1
 have HC0_1:=Aside0.mk hc0_1
 clear hr0_1 hc0_1
 have HB:=Aside0.mk (Below.refl w.heap.size w)
 have H:(wageofficelaw43_small.l0 k (l0_0.length:Int) l0_1 (l0_1.length:Int) 0 l0_0 l0_1)=some r:=h
 clear h
 have H':=Aside0.mk H
 clear H
 go_enter Try.func33,Try.ntmps33
 go_wp2_with (first|((with_reducible refine gate_dst (N:=1) rfl ?_);(try (refine gate_guard (by rfl) ?_;dsimp only));refine box_event ?hg (N:=1) ?hd (cs:=#[.slice A0_0 l0_0.length c0_0,.slice A0_1 l0_1.length c0_1]) (t:=25) ?hr ?_;(case hd=>rfl);(case hg=>rfl);(case hr=>first|(go_simp;done)|(go_simp;rfl));intro gb171 hg w2 hbox hb;have n0_:=Aside0.mk (below_step (by repeat (first|(with_reducible first|exact HB.out|apply below_alloc|apply pw_below_drewN|apply below_drew1)|exact HB.out)) hb);have n1_:=Aside0.mk (hbox);have n2_:=Aside0.mk ((by rw [hg];exact (below_size (by repeat (first|(with_reducible first|exact HB.out|apply below_alloc|apply pw_below_drewN|apply below_drew1)|exact HB.out))):w.heap.size ≤ gb171));have n3_:=Aside0.mk ((by rw [hg];exact (below_size (by repeat (first|(with_reducible first|exact HB.out|apply below_alloc|apply pw_below_drewN|apply below_drew1)|exact HB.out))):w.heap.size ≤ gb171));clear HB;have HB:=n0_;have BK171:=n1_;have GW171:=n2_;have GE171:=n3_;clear n0_ n1_ n2_ n3_;clear hb hbox hg;have hcz3_0:w2.cell? ⟨gb171,0,none⟩=some (.slice A0_0 l0_0.length c0_0):=(blk_cell BK171.out 0).trans rfl;have hcz3_1:w2.cell? ⟨gb171,1,none⟩=some (.slice A0_1 l0_1.length c0_1):=(blk_cell BK171.out 1).trans rfl;have hfz3_0:=blk_frozen BK171.out 0;have hfz3_1:=blk_frozen BK171.out 1))
 go_loopg [3,12] k (fun kq v3 v12 w'=>∃ (x3_1:Int) (x12_1:Int),v3=.int .i64 x3_1∧v12=.int .i64 x12_1∧Aside0 (wageofficelaw43_small.l0 kq x3_1 l0_1 (l0_1.length:Int) x12_1 l0_0 l0_1=some r)∧Aside0 (kq ≤ k)∧Aside0 (w'.heap[gb171]? = some (.cells #[(.slice A0_0 l0_0.length c0_0),(.slice A0_1 l0_1.length c0_1)] 25 (0,0)))∧Aside0 (Below w.heap.size w w'))
 case atStart=>exact ⟨((l0_0.length:Int)),(0),(by first|rfl|(simp;done)|(simp [*];done)),(by first|rfl|(simp;done)|(simp [*];done)),H',⟨Nat.le_refl _⟩,⟨by (with_reducible repeat (first|refine blk_drewN ?_ _|refine blk_drew ?_|refine blk_alloc ?_ _));exact BK171.out⟩,⟨by repeat (first|(with_reducible first|exact HB.out|apply below_alloc|apply pw_below_drewN|apply below_drew1|refine below_set ?_ GE171.out)|exact HB.out)⟩⟩
 case round =>
  clear H'
  try clear p2
  try clear c3
  try clear hcz3_0
  try clear hcz3_1
  try clear hfz3_0
  try clear hfz3_1
  obtain ⟨x3_1,x12_1,rfl,rfl,HA,HK1,BK171,HB⟩:=hrel
  cases gk with
  | zero=>exact absurd HA.out (by simp [wageofficelaw43_small.l0])
  | succ k1 =>
   have H:=HA.out
   clear HA
   simp only [wageofficelaw43_small.l0] at H
   by_cases c4:x12_1 < (l0_1.length:Int)
   · rw [if_pos c4] at H
     have c4b0:decide (x12_1 < (l0_1.length:Int))=true:=decide_eq_true c4
     clear c4
     by_cases c5:0 ≤ x12_1
     · rw [if_pos c5] at H
       have c5b0:decide (0 ≤ x12_1)=true:=decide_eq_true c5
       clear c5
       by_cases c6:x12_1 < (l0_1.length:Int)
       · rw [if_pos c6] at H
         have c6b0:decide (x12_1 < (l0_1.length:Int))=true:=decide_eq_true c6
         clear c6
         have H':=Aside0.mk H
         clear H
         have p172:0 ≤ (x12_1:Int):=of_decide_eq_true (by first|(with_reducible assumption)|assumption)
         have q172:x12_1 < (l0_1.length:Int):=of_decide_eq_true (by first|(with_reducible assumption)|assumption)
         obtain ⟨ad172,A172_1,c172_1,e172,hx172_0,hx172_1,hl172_1,hi172_1⟩:=at_T45 HR0_1.out x12_1 p172 q172
         cases e172
         replace hx172_0:=(HB.out.cell (World.block_lt_of_cell? w _ hx172_0)).trans hx172_0
         replace hx172_1:=(HB.out.cell (World.block_lt_of_cell? w _ hx172_1)).trans hx172_1
         have HR172_1:=Aside0.mk hi172_1
         have HC172_1:=Aside0.mk hl172_1
         clear hi172_1 hl172_1
         replace p172:=eq_true p172
         replace q172:=eq_true q172
         go_wp2_with (first|((with_reducible refine gate_dst (N:=5) rfl ?_);(try (refine gate_guard (by rfl) ?_;dsimp only));refine box_event ?hg (N:=5) ?hd (cs:=#[.int .i64 0,.slice none 0 0]) (t:=45) ?hr ?_;(case hd=>rfl);(case hg=>rfl);(case hr=>first|(go_simp;done)|(go_simp;rfl));intro gb173 hg w7 hbox hb;have n0_:=Aside0.mk (blk_below (g:=gb171) (o:=.cells #[.slice A0_0 l0_0.length c0_0,.slice (some ad172) l0_1.length c0_1] 25 (0,0)) (by (with_reducible repeat (first|refine blk_drewN ?_ _|refine blk_drew ?_|refine blk_alloc ?_ _));exact BK171.out) hb);have n1_:=Aside0.mk (below_step (by repeat (first|(with_reducible first|exact HB.out|apply below_alloc|apply pw_below_drewN|apply below_drew1|refine below_set ?_ GE171.out)|exact HB.out)) hb);have n2_:=Aside0.mk (hbox);have n3_:=Aside0.mk ((by rw [hg];exact (below_size (by repeat (first|(with_reducible first|exact HB.out|apply below_alloc|apply pw_below_drewN|apply below_drew1|refine below_set ?_ GE171.out)|exact HB.out))):w.heap.size ≤ gb173));have n4_:=Aside0.mk ((by rw [hg];exact (below_size (by repeat (first|(with_reducible first|exact HB.out|apply below_alloc|apply pw_below_drewN|apply below_drew1|refine below_set ?_ GE171.out)|exact HB.out))):w.heap.size ≤ gb173));have n5_:=Aside0.mk ((by rw [hg];exact Nat.ne_of_lt (blk_lt (g:=gb171) (o:=.cells #[.slice A0_0 l0_0.length c0_0,.slice (some ad172) l0_1.length c0_1] 25 (0,0)) (by (with_reducible repeat (first|refine blk_drewN ?_ _|refine blk_drew ?_|refine blk_alloc ?_ _));exact BK171.out)):gb171 ≠ gb173));have n6_:=Aside0.mk ((by rw [hg];exact Nat.ne_of_gt (blk_lt (g:=gb171) (o:=.cells #[.slice A0_0 l0_0.length c0_0,.slice (some ad172) l0_1.length c0_1] 25 (0,0)) (by (with_reducible repeat (first|refine blk_drewN ?_ _|refine blk_drew ?_|refine blk_alloc ?_ _));exact BK171.out)):gb173 ≠ gb171));clear BK171;clear HB;have BK171:=n0_;have HB:=n1_;have BK173:=n2_;have GW173:=n3_;have GE173:=n4_;have NB171_173:=n5_;have NB173_171:=n6_;clear n0_ n1_ n2_ n3_ n4_ n5_ n6_;clear hb hbox hg;have hnb8:=NB173_171.out;have hnc8:=NB171_173.out;have hcz9_0:w7.cell? ⟨gb173,0,none⟩=some (.int .i64 0):=(blk_cell BK173.out 0).trans rfl;have hcz9_1:w7.cell? ⟨gb173,1,none⟩=some (.slice none 0 0):=(blk_cell BK173.out 1).trans rfl;have hfz9_0:=blk_frozen BK173.out 0;have hfz9_1:=blk_frozen BK173.out 1))
         go_roundg k1
         case measure=>have:=HK1.out;omega
         case rel=>exact ⟨(wrap64 (x3_1 + (((rd_T45 l0_1 x12_1).f1).length:Int))),(wrap64 (x12_1 + 1)),(by first|rfl|(simp;done)|(simp [*];done)),(by first|rfl|(simp;done)|(simp [*];done)),H',⟨by have:=HK1.out;omega⟩,⟨by (with_reducible repeat (first|refine blk_drewN ?_ _|refine blk_drew ?_|refine blk_alloc ?_ _));refine blk_far ?_ NB171_173.out _;(with_reducible repeat (first|refine blk_drewN ?_ _|refine blk_drew ?_|refine blk_alloc ?_ _));refine blk_far ?_ NB171_173.out _;(with_reducible repeat (first|refine blk_drewN ?_ _|refine blk_drew ?_|refine blk_alloc ?_ _));exact BK171.out⟩,⟨by repeat (first|(with_reducible first|exact HB.out|apply below_alloc|apply pw_below_drewN|apply below_drew1|refine below_set ?_ GE171.out|refine below_set ?_ GE173.out)|exact HB.out)⟩⟩
       · rw [if_neg c6] at H
         exact absurd H (by simp)
     · rw [if_neg c5] at H
       exact absurd H (by simp)
   · rw [if_neg c4] at H
     have c4b0:decide (x12_1 < (l0_1.length:Int))=false:=decide_eq_false c4
     clear c4
     by_cases c10:x3_1 ≤ 8000
     · rw [if_pos c10] at H
       have c10b0:decide (x3_1 ≤ 8000)=true:=decide_eq_true c10
       clear c10
       obtain rfl:=Option.some.inj H
       have hcz11_0:wr.cell? ⟨gb171,0,none⟩=some (.slice A0_0 l0_0.length c0_0):=(blk_cell BK171.out 0).trans rfl
       have hcz11_1:wr.cell? ⟨gb171,1,none⟩=some (.slice A0_1 l0_1.length c0_1):=(blk_cell BK171.out 1).trans rfl
       have hfz11_0:=blk_frozen BK171.out 0
       have hfz11_1:=blk_frozen BK171.out 1
       go_wp2
       go_ret
       exact ⟨by first|rfl|(simp [errW_none,errW_some] <;> rfl)|(simp [*,errW_none,errW_some] <;> rfl),by repeat (first|(with_reducible first|exact HB.out|apply below_alloc|apply pw_below_drewN|apply below_drew1|refine below_set ?_ GE171.out)|exact HB.out)⟩
     · rw [if_neg c10] at H
       have c10b0:decide (x3_1 ≤ 8000)=false:=decide_eq_false c10
       clear c10
       obtain rfl:=Option.some.inj H
       go_wp2
       go_ret
       exact ⟨by first|rfl|(simp [errW_none,errW_some] <;> rfl)|(simp [*,errW_none,errW_some] <;> rfl),by repeat (first|(with_reducible first|exact HB.out|apply below_alloc|apply pw_below_drewN|apply below_drew1|refine below_set ?_ GE171.out)|exact HB.out)⟩
def wageofficeref43_Bytes.f (l0_0:List Int) (l0_1:List (S45)):Option (List Int):=(wageofficeref42_Read.f l0_0 l0_1 0 (l0_0.length:Int)).bind fun bt175=>(some bt175.1)
set_option maxHeartbeats 8000000 in
set_option maxRecDepth 100000 in
theorem wageofficeref43_Bytes.calls (A0_0:Option Addr) (c0_0:Nat) (l0_0:List Int) (A0_1:Option Addr) (c0_1:Nat) (l0_1:List (S45)) (r:List Int) (w:World) (hr0_0:Kd.C (Kd.int .u8) w A0_0 l0_0.length l0_0) (hc0_0:l0_0.length ≤ c0_0) (hr0_1:Kd.C k45 w A0_1 l0_1.length l0_1) (hc0_1:l0_1.length ≤ c0_1) (h:wageofficeref43_Bytes.f l0_0 l0_1=some r) :
 Calls Try.prog 54 #[.agg #[.slice A0_0 l0_0.length c0_0,.slice A0_1 l0_1.length c0_1]] w fun e w'=>∃ v0_:Value,e=.returned (v0_)∧Kd.Q (Kd.int .u8) 5 w' w.heap.size (fun _=>True) v0_ r∧Below w.heap.size w w':=by
 have hu25:=Try.underlying25
 have HR0_0:=Aside0.mk hr0_0
 have HC0_0:=Aside0.mk hc0_0
 clear hr0_0 hc0_0
 have HR0_1:=Aside0.mk hr0_1
 have HC0_1:=Aside0.mk hc0_1
 clear hr0_1 hc0_1
 have HB:=Aside0.mk (Below.refl w.heap.size w)
 have H:((wageofficeref42_Read.f l0_0 l0_1 0 (l0_0.length:Int)).bind fun bt175=>(some bt175.1))=some r:=h
 clear h
 replace H:=Option.bind_eq_some_iff.mp H
 obtain ⟨⟨t175,t178⟩,A20,H⟩:=H
 replace H:(some t175)=some r:=H
 have A2:=Aside0.mk A20
 clear A20
 obtain rfl:=Option.some.inj H
 go_enter Try.func54,Try.ntmps54
 go_wp2_with (first|((with_reducible refine gate_dst (N:=1) rfl ?_);refine box_event ?hg (N:=1) ?hd (cs:=#[.slice A0_0 l0_0.length c0_0,.slice A0_1 l0_1.length c0_1]) (t:=25) ?hr ?_;(case hd=>rfl);(case hg=>rfl);(case hr=>first|(go_simp;done)|(go_simp;rfl));intro gb174 hg w3 hbox hb;have n0_:=Aside0.mk (below_step (by repeat (first|(with_reducible first|exact HB.out|apply below_alloc|apply pw_below_drewN|apply below_drew1)|exact HB.out)) hb);have n1_:=Aside0.mk (hbox);have n2_:=Aside0.mk ((by rw [hg];exact (below_size (by repeat (first|(with_reducible first|exact HB.out|apply below_alloc|apply pw_below_drewN|apply below_drew1)|exact HB.out))):w.heap.size ≤ gb174));have n3_:=Aside0.mk ((by rw [hg];exact (below_size (by repeat (first|(with_reducible first|exact HB.out|apply below_alloc|apply pw_below_drewN|apply below_drew1)|exact HB.out))):w.heap.size ≤ gb174));clear HB;have HB:=n0_;have BK174:=n1_;have GW174:=n2_;have GE174:=n3_;clear n0_ n1_ n2_ n3_;clear hb hbox hg;have hcz4_0:w3.cell? ⟨gb174,0,none⟩=some (.slice A0_0 l0_0.length c0_0):=(blk_cell BK174.out 0).trans rfl;have hcz4_1:w3.cell? ⟨gb174,1,none⟩=some (.slice A0_1 l0_1.length c0_1):=(blk_cell BK174.out 1).trans rfl;have hfz4_0:=blk_frozen BK174.out 0;have hfz4_1:=blk_frozen BK174.out 1)|((with_reducible refine gate_callee (f:=24) rfl ?_);refine goesL_ (some 10) rfl rfl Try.func24 (by kernel_rfl) rfl #[.agg #[.slice A0_0 l0_0.length c0_0,.slice A0_1 l0_1.length c0_1],.int .i64 0,.int .i64 (l0_0.length:Int)] rfl (by (try simp only [List.map_toArray,List.map_cons,List.map_nil]);first|done|rfl|(simp only [List.length_drop,List.length_take];rfl)) ?_;(with_reducible refine (wageofficeref42_Read.calls _ _ l0_0 _ _ l0_1 0 (l0_0.length:Int) t175 t178 _ ?side1 ?side2 ?side3 ?side4 A2.out).mono ?_);(case side1=>repeat (first|exact (Kd.C_below HR0_0.out HB.out)|(with_reducible refine Kd.C_alloc ?_ _)|(with_reducible refine Kd.C_drewN ?_ _)|(with_reducible refine Kd.C_drew ?_)));(case side2=>exact HC0_0.out);(case side3=>repeat (first|exact (Kd.C_below HR0_1.out HB.out)|(with_reducible refine Kd.C_alloc ?_ _)|(with_reducible refine Kd.C_drewN ?_ _)|(with_reducible refine Kd.C_drew ?_)));(case side4=>exact HC0_1.out);rintro e w5 ⟨v176,rfl,ho0,hb⟩;refine ⟨_,rfl,?_⟩;have n0_:=Aside0.mk (Kd.Q_lower ho0 (below_size (by repeat (first|(with_reducible first|exact HB.out|apply below_alloc|apply pw_below_drewN|apply below_drew1|refine below_set ?_ GE174.out)|exact HB.out))));have n1_:=Aside0.mk (blk_below (g:=gb174) (o:=.cells #[.slice A0_0 l0_0.length c0_0,.slice A0_1 l0_1.length c0_1] 25 (0,0)) (by (with_reducible repeat (first|refine blk_drewN ?_ _|refine blk_drew ?_|refine blk_alloc ?_ _));exact BK174.out) hb);have n2_:=Aside0.mk (below_step (by repeat (first|(with_reducible first|exact HB.out|apply below_alloc|apply pw_below_drewN|apply below_drew1|refine below_set ?_ GE174.out)|exact HB.out)) hb);clear BK174;clear HB;have HO177:=n0_;have BK174:=n1_;have HB:=n2_;clear n0_ n1_ n2_;(try clear hb);(try clear hb2);(try clear hk);(try clear hi);(try clear ho0)))
 go_ret
 exact ⟨_,by first|rfl|(simp [errW_none,errW_some] <;> rfl)|(simp [*,errW_none,errW_some] <;> rfl),by (with_reducible repeat (first|apply Kd.Q_alloc|apply Kd.Q_drewN|apply Kd.Q_drew));exact HO177.out,by repeat (first|(with_reducible first|exact HB.out|apply below_alloc|apply pw_below_drewN|apply below_drew1|refine below_set ?_ GE174.out)|exact HB.out)⟩
def wageofficeref43_Same.l0:Nat→List Int→List Int→Int→Option (Bool)
 | 0,_,_,_=>none
 | k + 1,x0,x1,x5=>if x5 < (x0.length:Int) then (if 0 ≤ x5 then (if x5 < (x1.length:Int) then (if (rd x0 x5)=(rd x1 x5) then (wageofficeref43_Same.l0 k x0 x1 (wrap64 (x5 + 1))) else (some false)) else (none)) else (none)) else (some true)
def wageofficeref43_Same.f (k:Nat) (l0:List Int) (l1:List Int):Option (Bool):=if (l0.length:Int)=(l1.length:Int) then (wageofficeref43_Same.l0 k l0 l1 0) else (some false)
set_option maxHeartbeats 8000000 in
set_option maxRecDepth 100000 in
theorem wageofficeref43_Same.calls (k:Nat) (A0:Option Addr) (c0:Nat) (l0:List Int) (A1:Option Addr) (c1:Nat) (l1:List Int) (r:Bool) (w:World) (hr0:Kd.C (Kd.int .u8) w A0 l0.length l0) (hc0:l0.length ≤ c0) (hr1:Kd.C (Kd.int .u8) w A1 l1.length l1) (hc1:l1.length ≤ c1) (h:wageofficeref43_Same.f k l0 l1=some r) :
 Calls Try.prog 41 #[.slice A0 l0.length c0,.slice A1 l1.length c1] w fun e w'=>e=.returned (.bool r)∧Drawn0 w w':=by
 have HR0:=Aside0.mk hr0
 have HC0:=Aside0.mk hc0
 clear hr0 hc0
 have HR1:=Aside0.mk hr1
 have HC1:=Aside0.mk hc1
 clear hr1 hc1
 have H:(if (l0.length:Int)=(l1.length:Int) then (wageofficeref43_Same.l0 k l0 l1 0) else (some false))=some r:=h
 clear h
 by_cases c3:(l0.length:Int)=(l1.length:Int)
 · rw [if_pos c3] at H
   have c3b0:((l0.length:Int) == (l1.length:Int))=true:=beq_iff_eq.mpr c3
   have c3b1:((l0.length:Int) != (l1.length:Int))=false:=bne_eq_false_iff_eq.mpr c3
   have c3b2:(l0.length == l1.length)=true:=by first|simpa using c3|(simp at c3 ⊢;omega)
   clear c3
   have H':=Aside0.mk H
   clear H
   go_enter Try.func41,Try.ntmps41
   go_wp2
   repeat (go_quiet (fail);try go_wp2)
   go_loopg [5] k (fun kq v5 w'=>∃ (x5_1:Int),v5=.int .i64 x5_1∧Aside0 (wageofficeref43_Same.l0 kq l0 l1 x5_1=some r)∧Aside0 (kq ≤ k)∧Drawn0 w w')
   case atStart=>exact ⟨(0),(by first|rfl|(simp;done)|(simp [*];done)),H',⟨Nat.le_refl _⟩,by repeat (first|exact Drawn0.refl _|apply Drawn0.step)⟩
   case round =>
    clear H'
    try clear c1
    try clear p2
    try clear c3
    try clear c3b0
    try clear c3b1
    try clear c3b2
    obtain ⟨x5_1,rfl,HA,HK1,⟨m1,rfl⟩⟩:=hrel
    cases gk with
    | zero=>exact absurd HA.out (by simp [wageofficeref43_Same.l0])
    | succ k1 =>
     have H:=HA.out
     clear HA
     simp only [wageofficeref43_Same.l0] at H
     by_cases c4:x5_1 < (l0.length:Int)
     · rw [if_pos c4] at H
       have c4b0:decide (x5_1 < (l0.length:Int))=true:=decide_eq_true c4
       clear c4
       by_cases c5:0 ≤ x5_1
       · rw [if_pos c5] at H
         have c5b0:decide (0 ≤ x5_1)=true:=decide_eq_true c5
         clear c5
         by_cases c6:x5_1 < (l1.length:Int)
         · rw [if_pos c6] at H
           have c6b0:decide (x5_1 < (l1.length:Int))=true:=decide_eq_true c6
           clear c6
           by_cases c7:(rd l0 x5_1)=(rd l1 x5_1)
           · rw [if_pos c7] at H
             have c7b0:((rd l0 x5_1) == (rd l1 x5_1))=true:=beq_iff_eq.mpr c7
             have c7b1:((rd l0 x5_1) != (rd l1 x5_1))=false:=bne_eq_false_iff_eq.mpr c7
             clear c7
             have H':=Aside0.mk H
             clear H
             have p179:0 ≤ (x5_1:Int):=of_decide_eq_true (by first|(with_reducible assumption)|assumption)
             have q179:x5_1 < (l0.length:Int):=of_decide_eq_true (by first|(with_reducible assumption)|assumption)
             obtain ⟨ad179,e179,hx179_0⟩:=Kd.at_int HR0.out x5_1 p179 q179
             cases e179
             replace p179:=eq_true p179
             replace q179:=eq_true q179
             have p180:0 ≤ (x5_1:Int):=of_decide_eq_true (by first|(with_reducible assumption)|assumption)
             have q180:x5_1 < (l1.length:Int):=of_decide_eq_true (by first|(with_reducible assumption)|assumption)
             obtain ⟨ad180,e180,hx180_0⟩:=Kd.at_int HR1.out x5_1 p180 q180
             cases e180
             replace p180:=eq_true p180
             replace q180:=eq_true q180
             go_wp2
             repeat (go_quiet (fail);try go_wp2)
             go_roundg k1
             case measure=>have:=HK1.out;omega
             case rel=>exact ⟨(wrap64 (x5_1 + 1)),(by first|rfl|(simp;done)|(simp [*];done)),H',⟨by have:=HK1.out;omega⟩,by repeat (first|exact Drawn0.refl _|apply Drawn0.step)⟩
           · rw [if_neg c7] at H
             have c7b0:((rd l0 x5_1) == (rd l1 x5_1))=false:=beq_eq_false_iff_ne.mpr c7
             have c7b1:((rd l0 x5_1) != (rd l1 x5_1))=true:=bne_iff_ne.mpr c7
             obtain rfl:=Option.some.inj H
             have p179:0 ≤ (x5_1:Int):=of_decide_eq_true (by first|(with_reducible assumption)|assumption)
             have q179:x5_1 < (l0.length:Int):=of_decide_eq_true (by first|(with_reducible assumption)|assumption)
             obtain ⟨ad179,e179,hx179_0⟩:=Kd.at_int HR0.out x5_1 p179 q179
             cases e179
             replace p179:=eq_true p179
             replace q179:=eq_true q179
             have p180:0 ≤ (x5_1:Int):=of_decide_eq_true (by first|(with_reducible assumption)|assumption)
             have q180:x5_1 < (l1.length:Int):=of_decide_eq_true (by first|(with_reducible assumption)|assumption)
             obtain ⟨ad180,e180,hx180_0⟩:=Kd.at_int HR1.out x5_1 p180 q180
             cases e180
             replace p180:=eq_true p180
             replace q180:=eq_true q180
             go_wp2
             repeat (go_quiet (fail);try go_wp2)
             go_ret
             exact ⟨by first|rfl|(simp;done)|(simp [*];done),by repeat (first|exact Drawn0.refl _|apply Drawn0.step)⟩
         · rw [if_neg c6] at H
           exact absurd H (by simp)
       · rw [if_neg c5] at H
         exact absurd H (by simp)
     · rw [if_neg c4] at H
       have c4b0:decide (x5_1 < (l0.length:Int))=false:=decide_eq_false c4
       clear c4
       obtain rfl:=Option.some.inj H
       go_wp2
       repeat (go_quiet (fail);try go_wp2)
       go_ret
       exact ⟨by first|rfl|(simp;done)|(simp [*];done),by repeat (first|exact Drawn0.refl _|apply Drawn0.step)⟩
 · rw [if_neg c3] at H
   have c3b0:((l0.length:Int) == (l1.length:Int))=false:=beq_eq_false_iff_ne.mpr c3
   have c3b1:((l0.length:Int) != (l1.length:Int))=true:=bne_iff_ne.mpr c3
   have c3b2:(l0.length == l1.length)=false:=by first|simpa using c3|(simp at c3 ⊢;omega)
   obtain rfl:=Option.some.inj H
   go_enter Try.func41,Try.ntmps41
   go_wp2
   repeat (go_quiet (fail);try go_wp2)
   go_ret
   exact ⟨by first|rfl|(simp;done)|(simp [*];done),by repeat (first|exact Drawn0.refl _|apply Drawn0.step)⟩
def wageofficeref23_Finish.f (a0:Int) (a1:Int):Option (Int):=some (Go.bits .xor .u64 (IntKind.u64.wrap ((Go.bits .xor .u64 (IntKind.u64.wrap ((Go.bits .xor .u64 (Go.bits .xor .u64 a0 (IntKind.u64.wrap (a1))) (IntKind.u64.wrap (Int.tdiv (Go.bits .xor .u64 a0 (IntKind.u64.wrap (a1))) 2147483648))) * 13787848793156543929)) (IntKind.u64.wrap (Int.tdiv (IntKind.u64.wrap ((Go.bits .xor .u64 (Go.bits .xor .u64 a0 (IntKind.u64.wrap (a1))) (IntKind.u64.wrap (Int.tdiv (Go.bits .xor .u64 a0 (IntKind.u64.wrap (a1))) 2147483648))) * 13787848793156543929)) 134217728))) * 10723151780598845931)) (IntKind.u64.wrap (Int.tdiv (IntKind.u64.wrap ((Go.bits .xor .u64 (IntKind.u64.wrap ((Go.bits .xor .u64 (Go.bits .xor .u64 a0 (IntKind.u64.wrap (a1))) (IntKind.u64.wrap (Int.tdiv (Go.bits .xor .u64 a0 (IntKind.u64.wrap (a1))) 2147483648))) * 13787848793156543929)) (IntKind.u64.wrap (Int.tdiv (IntKind.u64.wrap ((Go.bits .xor .u64 (Go.bits .xor .u64 a0 (IntKind.u64.wrap (a1))) (IntKind.u64.wrap (Int.tdiv (Go.bits .xor .u64 a0 (IntKind.u64.wrap (a1))) 2147483648))) * 13787848793156543929)) 134217728))) * 10723151780598845931)) 8589934592)))
set_option maxHeartbeats 8000000 in
set_option maxRecDepth 100000 in
theorem wageofficeref23_Finish.calls (a0:Int) (a1:Int) (r:Int) (w:World) (h:wageofficeref23_Finish.f a0 a1=some r) :
 Calls Try.prog 68 #[.int .u64 a0,.int .i64 a1] w fun e w'=>e=.returned (.int .u64 r)∧Drawn0 w w':=by
 have H:(some (Go.bits .xor .u64 (IntKind.u64.wrap ((Go.bits .xor .u64 (IntKind.u64.wrap ((Go.bits .xor .u64 (Go.bits .xor .u64 a0 (IntKind.u64.wrap (a1))) (IntKind.u64.wrap (Int.tdiv (Go.bits .xor .u64 a0 (IntKind.u64.wrap (a1))) 2147483648))) * 13787848793156543929)) (IntKind.u64.wrap (Int.tdiv (IntKind.u64.wrap ((Go.bits .xor .u64 (Go.bits .xor .u64 a0 (IntKind.u64.wrap (a1))) (IntKind.u64.wrap (Int.tdiv (Go.bits .xor .u64 a0 (IntKind.u64.wrap (a1))) 2147483648))) * 13787848793156543929)) 134217728))) * 10723151780598845931)) (IntKind.u64.wrap (Int.tdiv (IntKind.u64.wrap ((Go.bits .xor .u64 (IntKind.u64.wrap ((Go.bits .xor .u64 (Go.bits .xor .u64 a0 (IntKind.u64.wrap (a1))) (IntKind.u64.wrap (Int.tdiv (Go.bits .xor .u64 a0 (IntKind.u64.wrap (a1))) 2147483648))) * 13787848793156543929)) (IntKind.u64.wrap (Int.tdiv (IntKind.u64.wrap ((Go.bits .xor .u64 (Go.bits .xor .u64 a0 (IntKind.u64.wrap (a1))) (IntKind.u64.wrap (Int.tdiv (Go.bits .xor .u64 a0 (IntKind.u64.wrap (a1))) 2147483648))) * 13787848793156543929)) 134217728))) * 10723151780598845931)) 8589934592))))=some r:=h
 clear h
 obtain rfl:=Option.some.inj H
 go_enter Try.func68,Try.ntmps68
 go_wp2
 go_ret
 exact ⟨by first|rfl|(simp;done)|(simp [*];done),by repeat (first|exact Drawn0.refl _|apply Drawn0.step)⟩
def wageofficeref23_State.l0:Nat→ByteArray→Int→Int→Option (Int)
 | 0,_,_,_=>none
 | k + 1,x0,x3,x4=>if x4 < (x0.size:Int) then (if 0 ≤ x4 then (wageofficeref23_State.l0 k x0 (Go.bits .xor .u64 (IntKind.u64.wrap ((Go.bits .xor .u64 x3 (IntKind.u64.wrap (bt x0 x4))) * 1099511628211)) (IntKind.u64.wrap (Int.tdiv (IntKind.u64.wrap ((Go.bits .xor .u64 x3 (IntKind.u64.wrap (bt x0 x4))) * 1099511628211)) 4294967296))) (wrap64 (x4 + 1))) else (none)) else (some x3)
def wageofficeref23_State.f (k:Nat) (a0:ByteArray):Option (Int):=wageofficeref23_State.l0 k a0 2611923443488327891 0
set_option maxHeartbeats 8000000 in
set_option maxRecDepth 100000 in
theorem wageofficeref23_State.calls (k:Nat) (a0:ByteArray) (r:Int) (w:World) (h:wageofficeref23_State.f k a0=some r) :
 Calls Try.prog 69 #[.string a0] w fun e w'=>e=.returned (.int .u64 r)∧Drawn0 w w':=by
 have H:(wageofficeref23_State.l0 k a0 2611923443488327891 0)=some r:=h
 clear h
 have H':=Aside0.mk H
 clear H
 go_enter Try.func69,Try.ntmps69
 go_wp2
 go_loopg [3,4] k (fun kq v3 v4 w'=>∃ (x3_1:Int) (x4_1:Int),v3=.int .u64 x3_1∧v4=.int .i64 x4_1∧Aside0 (wageofficeref23_State.l0 kq a0 x3_1 x4_1=some r)∧Aside0 (kq ≤ k)∧Drawn0 w w')
 case atStart=>exact ⟨(2611923443488327891),(0),(by first|rfl|(simp;done)|(simp [*];done)),(by first|rfl|(simp;done)|(simp [*];done)),H',⟨Nat.le_refl _⟩,by repeat (first|exact Drawn0.refl _|apply Drawn0.step)⟩
 case round =>
  clear H'
  obtain ⟨x3_1,x4_1,rfl,rfl,HA,HK1,⟨m1,rfl⟩⟩:=hrel
  cases gk with
  | zero=>exact absurd HA.out (by simp [wageofficeref23_State.l0])
  | succ k1 =>
   have H:=HA.out
   clear HA
   simp only [wageofficeref23_State.l0] at H
   by_cases c2:x4_1 < (a0.size:Int)
   · rw [if_pos c2] at H
     have c2b0:decide (x4_1 < (a0.size:Int))=true:=decide_eq_true c2
     clear c2
     by_cases c3:0 ≤ x4_1
     · rw [if_pos c3] at H
       have c3b0:decide (0 ≤ x4_1)=true:=decide_eq_true c3
       clear c3
       have H':=Aside0.mk H
       clear H
       have p4:0 ≤ (x4_1:Int):=of_decide_eq_true (by first|(with_reducible assumption)|assumption)
       have q4:x4_1 < (a0.size:Int):=of_decide_eq_true (by first|(with_reducible assumption)|assumption)
       have hx4:=bt_at a0 x4_1
       replace p4:=eq_true p4
       replace q4:=eq_true q4
       go_wp2
       go_roundg k1
       case measure=>have:=HK1.out;omega
       case rel=>exact ⟨(Go.bits .xor .u64 (IntKind.u64.wrap ((Go.bits .xor .u64 x3_1 (IntKind.u64.wrap (bt a0 x4_1))) * 1099511628211)) (IntKind.u64.wrap (Int.tdiv (IntKind.u64.wrap ((Go.bits .xor .u64 x3_1 (IntKind.u64.wrap (bt a0 x4_1))) * 1099511628211)) 4294967296))),(wrap64 (x4_1 + 1)),(by first|rfl|(simp;done)|(simp [*];done)),(by first|rfl|(simp;done)|(simp [*];done)),H',⟨by have:=HK1.out;omega⟩,by repeat (first|exact Drawn0.refl _|apply Drawn0.step)⟩
     · rw [if_neg c3] at H
       exact absurd H (by simp)
   · rw [if_neg c2] at H
     have c2b0:decide (x4_1 < (a0.size:Int))=false:=decide_eq_false c2
     clear c2
     obtain rfl:=Option.some.inj H
     go_wp2
     go_ret
     exact ⟨by first|rfl|(simp;done)|(simp [*];done),by repeat (first|exact Drawn0.refl _|apply Drawn0.step)⟩
def wageofficeref23_Sum.f (k:Nat) (a0:ByteArray):Option (Int):=(wageofficeref23_State.f k a0).bind fun t181=>((wageofficeref23_Finish.f t181 (a0.size:Int)).bind fun t182=>(some t182))
set_option maxHeartbeats 8000000 in
set_option maxRecDepth 100000 in
theorem wageofficeref23_Sum.calls (k:Nat) (a0:ByteArray) (r:Int) (w:World) (h:wageofficeref23_Sum.f k a0=some r) :
 Calls Try.prog 64 #[.string a0] w fun e w'=>e=.returned (.int .u64 r)∧Drawn0 w w':=by
 have H:((wageofficeref23_State.f k a0).bind fun t181=>((wageofficeref23_Finish.f t181 (a0.size:Int)).bind fun t182=>(some t182)))=some r:=h
 clear h
 replace H:=Option.bind_eq_some_iff.mp H
 obtain ⟨t181,A20,H⟩:=H
 replace H:((wageofficeref23_Finish.f t181 (a0.size:Int)).bind fun t182=>(some t182))=some r:=H
 have A2:=Aside0.mk A20
 clear A20
 replace H:=Option.bind_eq_some_iff.mp H
 obtain ⟨t182,A30,H⟩:=H
 replace H:(some t182)=some r:=H
 have A3:=Aside0.mk A30
 clear A30
 obtain rfl:=Option.some.inj H
 go_enter Try.func64,Try.ntmps64
 go_wp2_with (first|((with_reducible refine gate_callee (f:=69) rfl ?_);refine goesL_ (some 4) rfl rfl Try.func69 (by kernel_rfl) rfl #[.string a0] rfl (by (try simp only [List.map_toArray,List.map_cons,List.map_nil]);first|done|rfl|(simp only [List.length_drop,List.length_take];rfl)) ?_;(with_reducible refine (wageofficeref23_State.calls k a0 t181 _ A2.out).mono ?_);rintro e w' ⟨rfl,⟨nd,rfl⟩⟩;refine ⟨_,rfl,?_⟩)|((with_reducible refine gate_callee (f:=68) rfl ?_);refine goesL_ (some 7) rfl rfl Try.func68 (by kernel_rfl) rfl #[.int .u64 t181,.int .i64 (a0.size:Int)] rfl (by (try simp only [List.map_toArray,List.map_cons,List.map_nil]);first|done|rfl|(simp only [List.length_drop,List.length_take];rfl)) ?_;(with_reducible refine (wageofficeref23_Finish.calls t181 (a0.size:Int) t182 _ A3.out).mono ?_);rintro e w' ⟨rfl,⟨nd,rfl⟩⟩;refine ⟨_,rfl,?_⟩))
 go_ret
 exact ⟨by first|rfl|(simp;done)|(simp [*];done),by repeat (first|exact Drawn0.refl _|apply Drawn0.step)⟩
end Go.Proofs.Ytfpdmlhknddffaa.Dk
end
