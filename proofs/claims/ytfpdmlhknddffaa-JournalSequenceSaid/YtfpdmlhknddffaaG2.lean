/- Contracts of functions, and plain laws, that the statement's proof uses; printed and joined by programs of this session. -/
import Derived.Test.YtfpdmlhknddffaaG1
import Derived.Test.YtfpdmlhknddffaaProg
import Derived.Below
import Derived.Deep.Draws
import Derived.Deep.AppendLies
import Derived.Maps.AppendAt
import Derived.OwnWalk
import Derived.Laws.BytesArg
import Derived.Laws.MakeOwn
import Derived.Laws.OwnMore
import Derived.Deep.OwnRows
import Derived.Tactics
import Derived.Lib.ConvBytes
import Derived.Laws.Slices
import Derived.WalkKit
import Derived.KernelRfl
import Derived.RowKit3
import Derived.Deep.LoopGhost
import Derived.Deep.QuietTactic
import Derived.BigQuiet
import Derived.WideLaws
import Derived.Deep.DeepCutAuto
import Derived.Deep.CutBlock
import Derived.Deep.RegionHeld3
import Derived.Laws.Rows
import Derived.Lib.AppendStr
import Derived.ArgAppend
import Derived.Laws.IdiomCopy
import Derived.OrdersHeld
import Derived.Laws.BitsLemmas
import Derived.RowKit
import Derived.Outline
import Derived.Lib.Hide
import Derived.WalkSpells
import Derived.Laws.CopyOwn
import Derived.StillTailTactics
import Derived.RangeFuncNested
import Derived.RangeFuncBound
import Derived.RangeFuncCalls
import Derived.RangeFuncLeaves
import Derived.RangeFuncFrom
import Derived.Shelf.Abstract
import Derived.Shelf.RegionOpen
import Derived.OwnWalkIn
import Derived.TacticsInMore
import Derived.LoopNIn
import Derived.LoopIn
section
namespace Go.Proofs.Ytfpdmlhknddffaa.Dk
open Go.RowKit Go.Proofs.YtfpdmlhknddffaaW.PrintWords Go.Proofs.YtfpdmlhknddffaaW.PrintLast Go.Proofs.YtfpdmlhknddffaaW.PrintMore
attribute [local go_sem] max2_int min2_int max_two min_two max_three min_three max_four min_four
set_option linter.unusedVariables false
set_option linter.unusedSimpArgs false
def errW:Option Int→Value
 | none=>.nilIface
 | some c=>.iface 0 (.int .i64 c)
theorem errW_none:errW none=.nilIface:=rfl
theorem errW_some (c:Int):errW (some c)=.iface 0 (.int .i64 c):=rfl
theorem info5:(Try.prog.info? 5).map (fun i=>(i.zero,i.size,i.bytes))=some (some (.int .u8 0),1,1):=by kernel_rfl
theorem info45:(Try.prog.info? 45).map (fun i=>(i.zero,i.size,i.bytes))=some (some (.agg #[(.int .i64 0),(.slice none 0 0)]),2,32):=by kernel_rfl
def rd_L2 (xs:List (List Int)) (i:Int):(List Int):=xs.getD i.toNat ([]:List Int)
theorem at_L2 {w:World} {A:Option Addr} {n:Nat} {xs:List (List Int)} (h:Kd.C (Kd.slice 5 (Kd.int .u8)) w A n xs) (i:Int) (h0:0 ≤ i) (h1:i < n):∃ ad A0 c0,A=some ad∧w.cell? (ad.add i.toNat)=some (.slice A0 (rd_L2 xs i).length c0)∧(rd_L2 xs i).length ≤ c0∧(Kd.int .u8).C w A0 (rd_L2 xs i).length (rd_L2 xs i):=by
 obtain ⟨ad,c,e,_,hK,hc0⟩:=Kd.C_get h ([]:List Int) i h0 h1
 have hc:∀ j u,c[j]? = some u→w.cell? (ad.add (i.toNat * 1 + j))=some u:=hc0
 obtain ⟨A0,c0,rfl,l0,g0⟩:=hK
 exact ⟨ad,A0,c0,e,by have hq:=hc 0 _ rfl;rwa [Nat.mul_one,Nat.add_zero] at hq,l0,g0⟩
structure S45 where
 f0:Int
 f1:(List Int)
def z45:S45:=⟨(0:Int),([]:List Int)⟩
def k45:Kd S45:=Kd.iso (Kd.pair (Kd.int .i64) (Kd.slice 5 (Kd.int .u8))) (fun x:S45=>(x.f0,x.f1))
theorem k45_open {w:World} {x:S45} {cs:List Value} (h:k45.K w x cs):∃ A1 c1,cs=[.int .i64 x.f0,.slice A1 x.f1.length c1]∧x.f1.length ≤ c1∧(Kd.int .u8).C w A1 x.f1.length x.f1:=by
 obtain ⟨_,_,rfl,rfl,⟨A1,c1,rfl,l1,g1⟩⟩:=h
 exact ⟨A1,c1,rfl,l1,g1⟩
theorem k45_mk (w:World) (x:S45) {A1:Option Addr} {c1:Nat} (l1:x.f1.length ≤ c1) (g1:(Kd.int .u8).C w A1 x.f1.length x.f1):k45.K w x [.int .i64 x.f0,.slice A1 x.f1.length c1]:=⟨[.int .i64 x.f0],[.slice A1 x.f1.length c1],rfl,rfl,⟨A1,c1,rfl,l1,g1⟩⟩
theorem k45_mkM (w:World) (base:Nat) (ok:Nat→Prop) (x:S45) {v1:Value} (g1:(Kd.int .u8).R 5 w base ok v1 x.f1):k45.M w base ok x [.int .i64 x.f0,v1]:=⟨[.int .i64 x.f0],[v1],rfl,rfl,⟨v1,rfl,g1⟩⟩
def rd_T45 (xs:List S45) (i:Int):S45:=xs.getD i.toNat z45
theorem at_T45 {w:World} {A:Option Addr} {n:Nat} {xs:List S45} (h:Kd.C k45 w A n xs) (i:Int) (h0:0 ≤ i) (h1:i < n):∃ ad A1 c1,A=some ad∧w.cell? (ad.add (i.toNat * 2))=some (.int .i64 (rd_T45 xs i).f0)∧w.cell? ⟨(ad.add (i.toNat * 2)).block,(ad.add (i.toNat * 2)).off + 1,none⟩=some (.slice A1 (rd_T45 xs i).f1.length c1)∧(rd_T45 xs i).f1.length ≤ c1∧(Kd.int .u8).C w A1 (rd_T45 xs i).f1.length (rd_T45 xs i).f1:=by
 obtain ⟨ad,c,e,_,hK,hc0⟩:=Kd.C_get h z45 i h0 h1
 have hc:∀ j u,c[j]? = some u→w.cell? (ad.add (i.toNat * 2 + j))=some u:=hc0
 obtain ⟨A1,c1,rfl,l1,g1⟩:=k45_open hK
 exact ⟨ad,A1,c1,e,hc 0 _ rfl,by rw [← add_field _ _ 1 (by omega)];exact hc 1 _ rfl,l1,g1⟩
end Go.Proofs.Ytfpdmlhknddffaa.Dk
end
section
namespace Go.Proofs.Ytfpdmlhknddffaa.Dk
open Go.RowKit Go.Proofs.YtfpdmlhknddffaaW.PrintWords Go.Proofs.YtfpdmlhknddffaaW.PrintLast Go.Proofs.YtfpdmlhknddffaaW.PrintMore
attribute [local go_sem] max2_int min2_int max_two min_two max_three min_three max_four min_four
set_option linter.unusedVariables false
set_option linter.unusedSimpArgs false
def disk_New.f (a0:Int):Option (List Int × (List (S45)) × Int):=if a0 < 0 then (some (([]:List Int),([]:List (S45)),1)) else (if a0 > 65536 then (some (([]:List Int),([]:List (S45)),1)) else (if 0 ≤ a0 then (if (a0:Int).toNat ≤ 281474976710656 then (some ((List.replicate (a0:Int).toNat 0),([]:List (S45)),0)) else (none)) else (none)))
set_option maxHeartbeats 8000000 in
set_option maxRecDepth 100000 in
theorem disk_New.calls (a0:Int) (r1:List Int) (r2:List (S45)) (r3:Int) (w:World) (h:disk_New.f a0=some (r1,r2,r3)) :
 Calls Try.prog 17 #[.int .i64 a0] w fun e w'=>∃ v0_ v1_:Value,e=.returned (.tuple #[.agg #[v0_,v1_],.int .i64 r3])∧Kd.R (Kd.int .u8) 5 w' w.heap.size (fun _=>True) v0_ r1∧Kd.S k45 45 w' w.heap.size (fun k_=>some k_ ≠ (v0_:Value).ownBlock) v1_ r2∧Below w.heap.size w w':=by
 have hu25:=Try.underlying25
 have HB:=Aside0.mk (Below.refl w.heap.size w)
 have H:(if a0 < 0 then (some (([]:List Int),([]:List (S45)),1)) else (if a0 > 65536 then (some (([]:List Int),([]:List (S45)),1)) else (if 0 ≤ a0 then (if (a0:Int).toNat ≤ 281474976710656 then (some ((List.replicate (a0:Int).toNat 0),([]:List (S45)),0)) else (none)) else (none))))=some (r1,r2,r3):=h
 clear h
 by_cases c2:a0 < 0
 · rw [if_pos c2] at H
   have c2b0:decide (a0 < 0)=true:=decide_eq_true c2
   clear c2
   simp only [Option.some.injEq,Prod.mk.injEq] at H
   obtain ⟨rfl,rfl,rfl⟩:=H
   go_enter Try.func17,Try.ntmps17
   go_wp2_with (first|((with_reducible refine gate_dst (N:=2) rfl ?_);refine box_event ?hg (N:=2) ?hd (cs:=#[.slice none 0 0,.slice none 0 0]) (t:=25) ?hr ?_;(case hd=>rfl);(case hg=>rfl);(case hr=>first|(go_simp;done)|(go_simp;rfl));intro gb101 hg w3 hbox hb;have n0_:=Aside0.mk (below_step (by repeat (first|(with_reducible first|exact HB.out|apply below_alloc|apply pw_below_drewN|apply below_drew1)|exact HB.out)) hb);have n1_:=Aside0.mk (hbox);have n2_:=Aside0.mk ((by rw [hg];exact (below_size (by repeat (first|(with_reducible first|exact HB.out|apply below_alloc|apply pw_below_drewN|apply below_drew1)|exact HB.out))):w.heap.size ≤ gb101));have n3_:=Aside0.mk ((by rw [hg];exact (below_size (by repeat (first|(with_reducible first|exact HB.out|apply below_alloc|apply pw_below_drewN|apply below_drew1)|exact HB.out))):w.heap.size ≤ gb101));clear HB;have HB:=n0_;have BK101:=n1_;have GW101:=n2_;have GE101:=n3_;clear n0_ n1_ n2_ n3_;clear hb hbox hg;have hcz4_0:w3.cell? ⟨gb101,0,none⟩=some (.slice none 0 0):=(blk_cell BK101.out 0).trans rfl;have hcz4_1:w3.cell? ⟨gb101,1,none⟩=some (.slice none 0 0):=(blk_cell BK101.out 1).trans rfl;have hfz4_0:=blk_frozen BK101.out 0;have hfz4_1:=blk_frozen BK101.out 1))
   refine bodyPost_ret (results_ct rfl _ _ gb101 25 #[.slice none 0 0,.slice none 0 0] (0,0) _ rfl (by (with_reducible repeat (first|refine blk_drewN ?_ _|refine blk_drew ?_|refine blk_alloc ?_ _));refine blk_put (cs:=#[.slice none 0 0,.slice none 0 0]) ?_ 1 _ rfl;(with_reducible repeat (first|refine blk_drewN ?_ _|refine blk_drew ?_|refine blk_alloc ?_ _));refine blk_put (cs:=#[.slice none 0 0,.slice none 0 0]) ?_ 0 _ rfl;(with_reducible repeat (first|refine blk_drewN ?_ _|refine blk_drew ?_|refine blk_alloc ?_ _));exact BK101.out) Try.underlying25 rfl (by kernel_rfl)) rfl ?_
   exact ⟨_,_,by first|rfl|(simp [errW_none,errW_some] <;> rfl)|(simp [*,errW_none,errW_some] <;> rfl),by first|exact Kd.R_nil _ _ _ _ _|exact Kd.N_nil _ _ _ _ _|exact Kd.V_nil _ _ _ _ _|exact Kd.Q_nil _ _ _ _ _|exact Kd.S_nil _ _ _ _ _,by first|exact Kd.S_nil _ _ _ _ _|exact Kd.N_nil _ _ _ _ _|exact Kd.V_nil _ _ _ _ _|exact Kd.Q_nil _ _ _ _ _|exact Kd.R_nil _ _ _ _ _,by repeat (first|(with_reducible first|exact HB.out|apply below_alloc|apply pw_below_drewN|apply below_drew1|refine below_set ?_ GE101.out)|exact HB.out)⟩
 · rw [if_neg c2] at H
   have c2b0:decide (a0 < 0)=false:=decide_eq_false c2
   clear c2
   by_cases c5:a0 > 65536
   · rw [if_pos c5] at H
     have c5b0:decide (65536 < a0)=true:=decide_eq_true c5
     clear c5
     simp only [Option.some.injEq,Prod.mk.injEq] at H
     obtain ⟨rfl,rfl,rfl⟩:=H
     go_enter Try.func17,Try.ntmps17
     go_wp2_with (first|((with_reducible refine gate_dst (N:=2) rfl ?_);refine box_event ?hg (N:=2) ?hd (cs:=#[.slice none 0 0,.slice none 0 0]) (t:=25) ?hr ?_;(case hd=>rfl);(case hg=>rfl);(case hr=>first|(go_simp;done)|(go_simp;rfl));intro gb101 hg w6 hbox hb;have n0_:=Aside0.mk (below_step (by repeat (first|(with_reducible first|exact HB.out|apply below_alloc|apply pw_below_drewN|apply below_drew1)|exact HB.out)) hb);have n1_:=Aside0.mk (hbox);have n2_:=Aside0.mk ((by rw [hg];exact (below_size (by repeat (first|(with_reducible first|exact HB.out|apply below_alloc|apply pw_below_drewN|apply below_drew1)|exact HB.out))):w.heap.size ≤ gb101));have n3_:=Aside0.mk ((by rw [hg];exact (below_size (by repeat (first|(with_reducible first|exact HB.out|apply below_alloc|apply pw_below_drewN|apply below_drew1)|exact HB.out))):w.heap.size ≤ gb101));clear HB;have HB:=n0_;have BK101:=n1_;have GW101:=n2_;have GE101:=n3_;clear n0_ n1_ n2_ n3_;clear hb hbox hg;have hcz7_0:w6.cell? ⟨gb101,0,none⟩=some (.slice none 0 0):=(blk_cell BK101.out 0).trans rfl;have hcz7_1:w6.cell? ⟨gb101,1,none⟩=some (.slice none 0 0):=(blk_cell BK101.out 1).trans rfl;have hfz7_0:=blk_frozen BK101.out 0;have hfz7_1:=blk_frozen BK101.out 1))
     refine bodyPost_ret (results_ct rfl _ _ gb101 25 #[.slice none 0 0,.slice none 0 0] (0,0) _ rfl (by (with_reducible repeat (first|refine blk_drewN ?_ _|refine blk_drew ?_|refine blk_alloc ?_ _));refine blk_put (cs:=#[.slice none 0 0,.slice none 0 0]) ?_ 1 _ rfl;(with_reducible repeat (first|refine blk_drewN ?_ _|refine blk_drew ?_|refine blk_alloc ?_ _));refine blk_put (cs:=#[.slice none 0 0,.slice none 0 0]) ?_ 0 _ rfl;(with_reducible repeat (first|refine blk_drewN ?_ _|refine blk_drew ?_|refine blk_alloc ?_ _));exact BK101.out) Try.underlying25 rfl (by kernel_rfl)) rfl ?_
     exact ⟨_,_,by first|rfl|(simp [errW_none,errW_some] <;> rfl)|(simp [*,errW_none,errW_some] <;> rfl),by first|exact Kd.R_nil _ _ _ _ _|exact Kd.N_nil _ _ _ _ _|exact Kd.V_nil _ _ _ _ _|exact Kd.Q_nil _ _ _ _ _|exact Kd.S_nil _ _ _ _ _,by first|exact Kd.S_nil _ _ _ _ _|exact Kd.N_nil _ _ _ _ _|exact Kd.V_nil _ _ _ _ _|exact Kd.Q_nil _ _ _ _ _|exact Kd.R_nil _ _ _ _ _,by repeat (first|(with_reducible first|exact HB.out|apply below_alloc|apply pw_below_drewN|apply below_drew1|refine below_set ?_ GE101.out)|exact HB.out)⟩
   · rw [if_neg c5] at H
     have c5b0:decide (65536 < a0)=false:=decide_eq_false c5
     clear c5
     by_cases c8:0 ≤ a0
     · rw [if_pos c8] at H
       have c8b0:=eq_true c8
       have c8b1:decide (0 ≤ a0)=true:=decide_eq_true c8
       clear c8
       by_cases c9:(a0:Int).toNat ≤ 281474976710656
       · rw [if_pos c9] at H
         have c9b0:=eq_true c9
         have c9b1:decide ((a0:Int).toNat ≤ 281474976710656)=true:=decide_eq_true c9
         clear c9
         obtain ⟨y102,hy102⟩:∃ y_:List Int,y_=(List.replicate (a0:Int).toNat 0):=⟨_,rfl⟩
         replace H:(some (y102,([]:List (S45)),0))=some (r1,r2,r3):=by first|(rw [hy102];with_reducible exact H)|(have H2_:=(Option.bind_some _ _).symm.trans H;rw [hy102];with_reducible exact H2_)|(have H2_:=(Option.bind_some _ _).symm.trans H;with_reducible exact H2_)|with_reducible exact H|(rw [hy102];exact H)|exact H
         have Ny102:=Aside0.mk hy102
         clear hy102
         simp only [Option.some.injEq,Prod.mk.injEq] at H
         obtain ⟨rfl,rfl,rfl⟩:=H
         go_enter Try.func17,Try.ntmps17
         go_wp2_with (first|((with_reducible refine gate_dst (N:=2) rfl ?_);refine box_event ?hg (N:=2) ?hd (cs:=#[.slice none 0 0,.slice none 0 0]) (t:=25) ?hr ?_;(case hd=>rfl);(case hg=>rfl);(case hr=>first|(go_simp;done)|(go_simp;rfl));intro gb101 hg w10 hbox hb;have n0_:=Aside0.mk (below_step (by repeat (first|(with_reducible first|exact HB.out|apply below_alloc|apply pw_below_drewN|apply below_drew1)|exact HB.out)) hb);have n1_:=Aside0.mk (hbox);have n2_:=Aside0.mk ((by rw [hg];exact (below_size (by repeat (first|(with_reducible first|exact HB.out|apply below_alloc|apply pw_below_drewN|apply below_drew1)|exact HB.out))):w.heap.size ≤ gb101));have n3_:=Aside0.mk ((by rw [hg];exact (below_size (by repeat (first|(with_reducible first|exact HB.out|apply below_alloc|apply pw_below_drewN|apply below_drew1)|exact HB.out))):w.heap.size ≤ gb101));clear HB;have HB:=n0_;have BK101:=n1_;have GW101:=n2_;have GE101:=n3_;clear n0_ n1_ n2_ n3_;clear hb hbox hg)|((with_reducible refine gate_dst (N:=12) rfl ?_);refine Kd.R_make (Kd.int .u8) _ 5 rfl (N:=12) rfl 22 _ _ rfl a0 rfl rfl Try.underlying22 (.int .u8 0) 1 info5 rfl (by decide) (by omega) 0 (ok:=fun _=>True) (okp:=fun _=>True) rfl (fun _ hk=>hk) trivial (of_decide_eq_true (by first|(with_reducible assumption)|assumption)) (Nat.le_trans (Nat.mul_le_mul_right _ (of_decide_eq_true (by first|(with_reducible assumption)|assumption):a0.toNat ≤ 281474976710656)) (by omega)) (Below.refl _ _) (Nat.le_refl _) ?_;intro v103 w11 ho12 hb hg_ hnew_;clear hg_ hnew_;(first|rw [← Ny102.out] at ho12|(simp only [Int.reduceToNat] at ho12;rw [← Ny102.out] at ho12));have n0_:=Aside0.mk (Kd.R_lower ho12 (below_size (by repeat (first|(with_reducible first|exact HB.out|apply below_alloc|apply pw_below_drewN|apply below_drew1|refine below_set ?_ GE101.out)|exact HB.out))));have n1_:=Aside0.mk (blk_below (g:=gb101) (o:=.cells #[.slice none 0 0,.slice none 0 0] 25 (0,0)) (by (with_reducible repeat (first|refine blk_drewN ?_ _|refine blk_drew ?_|refine blk_alloc ?_ _));exact BK101.out) hb);have n2_:=Aside0.mk (below_step (by repeat (first|(with_reducible first|exact HB.out|apply below_alloc|apply pw_below_drewN|apply below_drew1|refine below_set ?_ GE101.out)|exact HB.out)) hb);clear BK101;clear HB;have HO104:=n0_;have BK101:=n1_;have HB:=n2_;clear n0_ n1_ n2_;clear hb ho12;obtain ⟨Ao13,co13,eo13⟩:=Kd.R_slice HO104.out;subst eo13;have hcz14_0:w11.cell? ⟨gb101,0,none⟩=some (.slice none 0 0):=(blk_cell BK101.out 0).trans rfl;have hcz14_1:w11.cell? ⟨gb101,1,none⟩=some (.slice none 0 0):=(blk_cell BK101.out 1).trans rfl;have hfz14_0:=blk_frozen BK101.out 0;have hfz14_1:=blk_frozen BK101.out 1))
         refine bodyPost_ret (results_ct rfl _ _ gb101 25 #[.slice Ao13 y102.length co13,.slice none 0 0] (0,0) _ rfl (by (with_reducible repeat (first|refine blk_drewN ?_ _|refine blk_drew ?_|refine blk_alloc ?_ _));refine blk_put (cs:=#[.slice Ao13 y102.length co13,.slice none 0 0]) ?_ 1 _ rfl;(with_reducible repeat (first|refine blk_drewN ?_ _|refine blk_drew ?_|refine blk_alloc ?_ _));refine blk_put (cs:=#[.slice none 0 0,.slice none 0 0]) ?_ 0 _ rfl;(with_reducible repeat (first|refine blk_drewN ?_ _|refine blk_drew ?_|refine blk_alloc ?_ _));exact BK101.out) Try.underlying25 rfl (by kernel_rfl)) rfl ?_
         exact ⟨_,_,by first|rfl|(simp [errW_none,errW_some] <;> rfl)|(simp [*,errW_none,errW_some] <;> rfl),by (with_reducible repeat (first|apply Kd.R_alloc|apply Kd.R_drewN|apply Kd.R_drew));exact Kd.R_mono (Kd.R_far (p:=⟨gb101,1,none⟩) (Kd.R_far (p:=⟨gb101,0,none⟩) (Kd.R_types HO104.out BK101.out (by decide)) (fun _ hk=>hk.2) (.slice Ao13 y102.length co13)) (fun _ hk=>hk.2) (.slice none 0 0)) (fun _ hk=>trivial),by first|exact Kd.S_nil _ _ _ _ _|exact Kd.N_nil _ _ _ _ _|exact Kd.V_nil _ _ _ _ _|exact Kd.Q_nil _ _ _ _ _|exact Kd.R_nil _ _ _ _ _,by repeat (first|(with_reducible first|exact HB.out|apply below_alloc|apply pw_below_drewN|apply below_drew1|refine below_set ?_ GE101.out)|exact HB.out)⟩
       · rw [if_neg c9] at H
         exact absurd H (by simp)
     · rw [if_neg c8] at H
       exact absurd H (by simp)
def disk_isPart.f (l0_0:List Int) (l0_1:List (S45)) (a1:Int) (a2:Int):Option (Bool):=if a1 ≥ 0 then (if a2 ≥ 0 then (if a1 ≤ (l0_0.length:Int) then (some (decide (a2 ≤ (wrap64 ((l0_0.length:Int) - a1))))) else (some false)) else (some false)) else (some false)
set_option maxHeartbeats 8000000 in
set_option maxRecDepth 100000 in
theorem disk_isPart.calls (A0_0:Option Addr) (c0_0:Nat) (l0_0:List Int) (A0_1:Option Addr) (c0_1:Nat) (l0_1:List (S45)) (a1:Int) (a2:Int) (r:Bool) (w:World) (hr0_0:Kd.C (Kd.int .u8) w A0_0 l0_0.length l0_0) (hc0_0:l0_0.length ≤ c0_0) (hr0_1:Kd.C k45 w A0_1 l0_1.length l0_1) (hc0_1:l0_1.length ≤ c0_1) (h:disk_isPart.f l0_0 l0_1 a1 a2=some r) :
 Calls Try.prog 44 #[.agg #[.slice A0_0 l0_0.length c0_0,.slice A0_1 l0_1.length c0_1],.int .i64 a1,.int .i64 a2] w fun e w'=>e=.returned (.bool r)∧Below w.heap.size w w':=by
 have hu25:=Try.underlying25
 have HR0_0:=Aside0.mk hr0_0
 have HC0_0:=Aside0.mk hc0_0
 clear hr0_0 hc0_0
 have HR0_1:=Aside0.mk hr0_1
 have HC0_1:=Aside0.mk hc0_1
 clear hr0_1 hc0_1
 have HB:=Aside0.mk (Below.refl w.heap.size w)
 have H:(if a1 ≥ 0 then (if a2 ≥ 0 then (if a1 ≤ (l0_0.length:Int) then (some (decide (a2 ≤ (wrap64 ((l0_0.length:Int) - a1))))) else (some false)) else (some false)) else (some false))=some r:=h
 clear h
 by_cases c4:a1 ≥ 0
 · rw [if_pos c4] at H
   have c4b0:decide (0 ≤ a1)=true:=decide_eq_true c4
   clear c4
   by_cases c5:a2 ≥ 0
   · rw [if_pos c5] at H
     have c5b0:decide (0 ≤ a2)=true:=decide_eq_true c5
     clear c5
     by_cases c6:a1 ≤ (l0_0.length:Int)
     · rw [if_pos c6] at H
       have c6b0:decide (a1 ≤ (l0_0.length:Int))=true:=decide_eq_true c6
       clear c6
       obtain rfl:=Option.some.inj H
       go_enter Try.func44,Try.ntmps44
       go_wp2_with (first|((with_reducible refine gate_dst (N:=3) rfl ?_);(try (refine gate_guard (by rfl) ?_;dsimp only));refine box_event ?hg (N:=3) ?hd (cs:=#[.slice A0_0 l0_0.length c0_0,.slice A0_1 l0_1.length c0_1]) (t:=25) ?hr ?_;(case hd=>rfl);(case hg=>rfl);(case hr=>first|(go_simp;done)|(go_simp;rfl));intro gb106 hg w7 hbox hb;have n0_:=Aside0.mk (below_step (by repeat (first|(with_reducible first|exact HB.out|apply below_alloc|apply pw_below_drewN|apply below_drew1)|exact HB.out)) hb);have n1_:=Aside0.mk (hbox);have n2_:=Aside0.mk ((by rw [hg];exact (below_size (by repeat (first|(with_reducible first|exact HB.out|apply below_alloc|apply pw_below_drewN|apply below_drew1)|exact HB.out))):w.heap.size ≤ gb106));have n3_:=Aside0.mk ((by rw [hg];exact (below_size (by repeat (first|(with_reducible first|exact HB.out|apply below_alloc|apply pw_below_drewN|apply below_drew1)|exact HB.out))):w.heap.size ≤ gb106));clear HB;have HB:=n0_;have BK106:=n1_;have GW106:=n2_;have GE106:=n3_;clear n0_ n1_ n2_ n3_;clear hb hbox hg;have hcz8_0:w7.cell? ⟨gb106,0,none⟩=some (.slice A0_0 l0_0.length c0_0):=(blk_cell BK106.out 0).trans rfl;have hcz8_1:w7.cell? ⟨gb106,1,none⟩=some (.slice A0_1 l0_1.length c0_1):=(blk_cell BK106.out 1).trans rfl;have hfz8_0:=blk_frozen BK106.out 0;have hfz8_1:=blk_frozen BK106.out 1))
       go_ret
       exact ⟨by first|rfl|(simp [errW_none,errW_some] <;> rfl)|(simp [*,errW_none,errW_some] <;> rfl),by repeat (first|(with_reducible first|exact HB.out|apply below_alloc|apply pw_below_drewN|apply below_drew1|refine below_set ?_ GE106.out)|exact HB.out)⟩
     · rw [if_neg c6] at H
       have c6b0:decide (a1 ≤ (l0_0.length:Int))=false:=decide_eq_false c6
       clear c6
       obtain rfl:=Option.some.inj H
       go_enter Try.func44,Try.ntmps44
       go_wp2_with (first|((with_reducible refine gate_dst (N:=3) rfl ?_);(try (refine gate_guard (by rfl) ?_;dsimp only));refine box_event ?hg (N:=3) ?hd (cs:=#[.slice A0_0 l0_0.length c0_0,.slice A0_1 l0_1.length c0_1]) (t:=25) ?hr ?_;(case hd=>rfl);(case hg=>rfl);(case hr=>first|(go_simp;done)|(go_simp;rfl));intro gb106 hg w9 hbox hb;have n0_:=Aside0.mk (below_step (by repeat (first|(with_reducible first|exact HB.out|apply below_alloc|apply pw_below_drewN|apply below_drew1)|exact HB.out)) hb);have n1_:=Aside0.mk (hbox);have n2_:=Aside0.mk ((by rw [hg];exact (below_size (by repeat (first|(with_reducible first|exact HB.out|apply below_alloc|apply pw_below_drewN|apply below_drew1)|exact HB.out))):w.heap.size ≤ gb106));have n3_:=Aside0.mk ((by rw [hg];exact (below_size (by repeat (first|(with_reducible first|exact HB.out|apply below_alloc|apply pw_below_drewN|apply below_drew1)|exact HB.out))):w.heap.size ≤ gb106));clear HB;have HB:=n0_;have BK106:=n1_;have GW106:=n2_;have GE106:=n3_;clear n0_ n1_ n2_ n3_;clear hb hbox hg;have hcz10_0:w9.cell? ⟨gb106,0,none⟩=some (.slice A0_0 l0_0.length c0_0):=(blk_cell BK106.out 0).trans rfl;have hcz10_1:w9.cell? ⟨gb106,1,none⟩=some (.slice A0_1 l0_1.length c0_1):=(blk_cell BK106.out 1).trans rfl;have hfz10_0:=blk_frozen BK106.out 0;have hfz10_1:=blk_frozen BK106.out 1))
       go_ret
       exact ⟨by first|rfl|(simp [errW_none,errW_some] <;> rfl)|(simp [*,errW_none,errW_some] <;> rfl),by repeat (first|(with_reducible first|exact HB.out|apply below_alloc|apply pw_below_drewN|apply below_drew1|refine below_set ?_ GE106.out)|exact HB.out)⟩
   · rw [if_neg c5] at H
     have c5b0:decide (0 ≤ a2)=false:=decide_eq_false c5
     clear c5
     obtain rfl:=Option.some.inj H
     go_enter Try.func44,Try.ntmps44
     go_wp2_with (first|((with_reducible refine gate_dst (N:=3) rfl ?_);(try (refine gate_guard (by rfl) ?_;dsimp only));refine box_event ?hg (N:=3) ?hd (cs:=#[.slice A0_0 l0_0.length c0_0,.slice A0_1 l0_1.length c0_1]) (t:=25) ?hr ?_;(case hd=>rfl);(case hg=>rfl);(case hr=>first|(go_simp;done)|(go_simp;rfl));intro gb106 hg w11 hbox hb;have n0_:=Aside0.mk (below_step (by repeat (first|(with_reducible first|exact HB.out|apply below_alloc|apply pw_below_drewN|apply below_drew1)|exact HB.out)) hb);have n1_:=Aside0.mk (hbox);have n2_:=Aside0.mk ((by rw [hg];exact (below_size (by repeat (first|(with_reducible first|exact HB.out|apply below_alloc|apply pw_below_drewN|apply below_drew1)|exact HB.out))):w.heap.size ≤ gb106));have n3_:=Aside0.mk ((by rw [hg];exact (below_size (by repeat (first|(with_reducible first|exact HB.out|apply below_alloc|apply pw_below_drewN|apply below_drew1)|exact HB.out))):w.heap.size ≤ gb106));clear HB;have HB:=n0_;have BK106:=n1_;have GW106:=n2_;have GE106:=n3_;clear n0_ n1_ n2_ n3_;clear hb hbox hg))
     go_ret
     exact ⟨by first|rfl|(simp [errW_none,errW_some] <;> rfl)|(simp [*,errW_none,errW_some] <;> rfl),by repeat (first|(with_reducible first|exact HB.out|apply below_alloc|apply pw_below_drewN|apply below_drew1|refine below_set ?_ GE106.out)|exact HB.out)⟩
 · rw [if_neg c4] at H
   have c4b0:decide (0 ≤ a1)=false:=decide_eq_false c4
   clear c4
   obtain rfl:=Option.some.inj H
   go_enter Try.func44,Try.ntmps44
   go_wp2_with (first|((with_reducible refine gate_dst (N:=3) rfl ?_);(try (refine gate_guard (by rfl) ?_;dsimp only));refine box_event ?hg (N:=3) ?hd (cs:=#[.slice A0_0 l0_0.length c0_0,.slice A0_1 l0_1.length c0_1]) (t:=25) ?hr ?_;(case hd=>rfl);(case hg=>rfl);(case hr=>first|(go_simp;done)|(go_simp;rfl));intro gb106 hg w12 hbox hb;have n0_:=Aside0.mk (below_step (by repeat (first|(with_reducible first|exact HB.out|apply below_alloc|apply pw_below_drewN|apply below_drew1)|exact HB.out)) hb);have n1_:=Aside0.mk (hbox);have n2_:=Aside0.mk ((by rw [hg];exact (below_size (by repeat (first|(with_reducible first|exact HB.out|apply below_alloc|apply pw_below_drewN|apply below_drew1)|exact HB.out))):w.heap.size ≤ gb106));have n3_:=Aside0.mk ((by rw [hg];exact (below_size (by repeat (first|(with_reducible first|exact HB.out|apply below_alloc|apply pw_below_drewN|apply below_drew1)|exact HB.out))):w.heap.size ≤ gb106));clear HB;have HB:=n0_;have BK106:=n1_;have GW106:=n2_;have GE106:=n3_;clear n0_ n1_ n2_ n3_;clear hb hbox hg))
   go_ret
   exact ⟨by first|rfl|(simp [errW_none,errW_some] <;> rfl)|(simp [*,errW_none,errW_some] <;> rfl),by repeat (first|(with_reducible first|exact HB.out|apply below_alloc|apply pw_below_drewN|apply below_drew1|refine below_set ?_ GE106.out)|exact HB.out)⟩
end Go.Proofs.Ytfpdmlhknddffaa.Dk
end
section
namespace Go.Proofs.Ytfpdmlhknddffaa.Dk
open Go.RowKit Go.Proofs.YtfpdmlhknddffaaW.PrintWords Go.Proofs.YtfpdmlhknddffaaW.PrintLast Go.Proofs.YtfpdmlhknddffaaW.PrintMore
set_option linter.unusedVariables false
set_option linter.unusedSimpArgs false
def isPartB (n at_ count:Int):Bool:=decide (0 ≤ at_) && decide (0 ≤ count) && decide (at_ ≤ n) && decide (count ≤ n - at_)
theorem isPart_f (l0:List Int) (l1:List S45) (a c:Int) (hl:l0.length ≤ maxLen):disk_isPart.f l0 l1 a c=some (isPartB l0.length a c):=by
 unfold disk_isPart.f isPartB maxLen at *
 unfold wrap64
 by_cases h1:a ≥ 0 <;> by_cases h2:c ≥ 0 <;> by_cases h3:a ≤ (l0.length:Int) <;> simp [h1,h2,h3]
 omega
set_option maxHeartbeats 400000 in
theorem isValid1_calls (A0:Option Addr) (c0:Nat) (l0:List Int) (A1:Option Addr) (c1:Nat) (l1:List S45) (B:Nat) (w:World) (x:S45) (cs:List Value)
 (hB:w.heap[B]? = some (.cells #[.slice A0 l0.length c0,.slice A1 l1.length c1] 25 (0,0)))
 (h0:Kd.C (Kd.int .u8) w A0 l0.length l0) (hc0:l0.length ≤ c0) (h1:Kd.C k45 w A1 l1.length l1) (hc1:l1.length ≤ c1)
 (hm:l0.length ≤ maxLen) (hx:k45.K w x cs) :
  Calls Try.prog 58 #[.agg cs.toArray,.pointer (some ⟨B,0,none⟩)] w fun e w'=>e=.returned (.bool (!isPartB l0.length x.f0 x.f1.length))∧Below w.heap.size w w':=by
 obtain ⟨A2,c2,rfl,l2,g2⟩:=k45_open hx
 have hu25:=Try.underlying25
 have hu45:=Try.underlying45
 have hp:=isPart_f l0 l1 x.f0 x.f1.length hm
 have Hp:=Lib.hid hp;clear hp
 have HB:=Lib.hid hB;clear hB
 go_enter Try.func58,Try.ntmps58
 go_wp2_with (first|((with_reducible refine gate_dst (N:=2) rfl ?_);(refine box_event ?hg (N:=2) ?hd (cs:=#[.int .i64 x.f0,.slice A2 x.f1.length c2]) (t:=45) ?hr ?_);(case hd=>rfl);(case hg=>rfl);(case hr=>first|(go_simp;done)|(go_simp;rfl));intro g hg w1 hb1 hB1;have hq0:=(blk_cell (blk_below HB.out hB1) 0).trans rfl;have hq1:=(blk_cell (blk_below HB.out hB1) 1).trans rfl;have hq2:=(blk_cell hb1 0).trans rfl;have hq3:=(blk_cell hb1 1).trans rfl;have HB1:=Lib.hid hB1;clear hB1 hg)|(go_at_call 44;refine (disk_isPart.calls _ _ l0 _ _ l1 x.f0 x.f1.length _ _ (Kd.C_below h0 HB1.out) hc0 (Kd.C_below h1 HB1.out) hc1 Hp.out).mono ?_;rintro e w2 ⟨rfl,hb2⟩) )
 go_ret
 exact ⟨rfl,below_then HB1.out HB1.out.size hb2⟩
end Go.Proofs.Ytfpdmlhknddffaa.Dk
end
section
namespace Go.Proofs.Ytfpdmlhknddffaa.Dk
open Go.RowKit Go.Proofs.YtfpdmlhknddffaaW.PrintWords Go.Proofs.YtfpdmlhknddffaaW.PrintLast Go.Proofs.YtfpdmlhknddffaaW.PrintMore
set_option linter.unusedVariables false
set_option linter.unusedSimpArgs false
theorem C_get45 {w:World} {A:Option Addr} {n:Nat} {xs:List S45} (h:Kd.C k45 w A n xs) (i:Nat) (h1:i < xs.length) (h2:i < n):∃ ad A1 c1,A=some ad∧w.cell? (ad.add (i * 2))=some (.int .i64 (xs[i]).f0)∧w.cell? (⟨(ad.add (i * 2)).block,(ad.add (i * 2)).off + 1,none⟩)=some (.slice A1 (xs[i]).f1.length c1)∧(xs[i]).f1.length ≤ c1∧(Kd.int .u8).C w A1 (xs[i]).f1.length (xs[i]).f1:=by
 have h3:=at_T45 h i (by omega) (by omega)
 have h4:rd_T45 xs i=xs[i]:=by unfold rd_T45;simp [List.getD,h1]
 rw [h4] at h3
 simpa using h3
theorem C_max {α:Type} {d:Kd α} {w:World} {A:Option Addr} {n:Nat} {xs:List α} (h:Kd.C d w A n xs):n ≤ 9223372036854775807:=h.2.1
set_option maxHeartbeats 400000 in
theorem indexFunc_calls (A1:Option Addr) (c1:Nat) (l1:List S45) (B:Nat) (w:World) (p:S45→Bool)
 (h1:Kd.C k45 w A1 l1.length l1) (hc1:l1.length ≤ c1)
 (hp:∀ (x:S45) (cs:List Value) (w1:World),Below w.heap.size w w1→k45.K w1 x cs→Calls Try.prog 58 #[.agg cs.toArray,.pointer (some ⟨B,0,none⟩)] w1 fun e w'=>e=.returned (.bool (p x))∧Below w1.heap.size w1 w') :
  Calls Try.prog 65 #[.slice A1 l1.length c1,.func (.func 58) #[] #[.pointer (some ⟨B,0,none⟩)]] w fun e w'=>∃ n:Int,e=.returned (.int .i64 n)∧(decide (0 ≤ n)=l1.any p)∧Below w.heap.size w w':=by
 have hu45:=Try.underlying45
 have hm:=C_max h1
 have Hp:=Lib.hid hp;clear hp
 go_enter Try.func65,Try.ntmps65
 go_wp2
 go_loopg [8] l1.length (fun k v8 wr=>∃ i:Nat,i ≤ l1.length∧k=l1.length - i∧v8=.int .i64 i∧Hid (∀ j (hj:j < l1.length),j < i→p l1[j]=false)∧Below w.heap.size w wr)
 case atStart=>exact ⟨0,by omega,by omega,rfl,Lib.hid (by intro j hj h;omega),Below.refl _ _⟩
 case round =>
  obtain ⟨i,hi,rfl,rfl,hall,hb⟩:=hrel
  by_cases hlt:i < l1.length
  · have g1:=Kd.C_below h1 hb
    obtain ⟨ad,A2,c2,rfl,q0,q1,q2,q3⟩:=C_get45 g1 i hlt hlt
    have hk:k45.K wr l1[i] [.int .i64 l1[i].f0,.slice A2 l1[i].f1.length c2]:=k45_mk wr l1[i] q2 q3
    have Hk:=Lib.hid hk
    clear hk
    cases hpx:p l1[i]
    all_goals
     have Hx:=Lib.hid hpx
     clear hpx
     go_wp2_with (go_at_call 58;refine (Hp.out l1[i] _ wr hb Hk.out).mono ?_;rintro e w2 ⟨rfl,hb2⟩;rw [Hx.out])
    · go_roundg (l1.length - (i + 1))
      case measure=>omega
      case rel =>
       refine ⟨i + 1,by omega,rfl,by go_num,Lib.hid ?_,below_then hb hb.size hb2⟩
       intro j hj hji
       by_cases e:j=i
       · subst e;exact Hx.out
       · exact hall.out j hj (by omega)
    · go_ret
      refine ⟨i,rfl,?_,below_then hb hb.size hb2⟩
      rw [List.any_eq_true.2 ⟨l1[i],List.getElem_mem _,Hx.out⟩]
      simp
  · go_wp2
    go_ret
    refine ⟨-1,rfl,?_,hb⟩
    have:l1.any p=false:=by
     rw [List.any_eq_false]
     intro x hx
     obtain ⟨j,hj,rfl⟩:=List.getElem_of_mem hx
     rw [hall.out j hj (by omega)]
     simp
    rw [this]
    simp
set_option maxHeartbeats 400000 in
theorem containsFunc_calls (A1:Option Addr) (c1:Nat) (l1:List S45) (B:Nat) (w:World) (p:S45→Bool)
 (h1:Kd.C k45 w A1 l1.length l1) (hc1:l1.length ≤ c1)
 (hp:∀ (x:S45) (cs:List Value) (w1:World),Below w.heap.size w w1→k45.K w1 x cs→Calls Try.prog 58 #[.agg cs.toArray,.pointer (some ⟨B,0,none⟩)] w1 fun e w'=>e=.returned (.bool (p x))∧Below w1.heap.size w1 w') :
  Calls Try.prog 57 #[.slice A1 l1.length c1,.func (.func 58) #[] #[.pointer (some ⟨B,0,none⟩)]] w fun e w'=>e=.returned (.bool (l1.any p))∧Below w.heap.size w w':=by
 have Hp:=Lib.hid hp;clear hp
 go_enter Try.func57,Try.ntmps57
 go_wp2_with (go_at_call 65;refine (indexFunc_calls _ _ l1 B _ p h1 hc1 Hp.out).mono ?_;rintro e w2 ⟨n,rfl,hn,hb2⟩;have Hn:=Lib.hid hn;clear hn)
 go_ret
 exact ⟨by rw [← Hn.out];rfl,hb2⟩
def validB (l0:List Int) (l1:List S45):Bool:=decide (l0.length ≤ 65536) && decide (l1.length ≤ 64) && !l1.any fun x => !isPartB l0.length x.f0 x.f1.length
set_option maxHeartbeats 400000 in
theorem disk_isValid_calls (A0:Option Addr) (c0:Nat) (l0:List Int) (A1:Option Addr) (c1:Nat) (l1:List S45) (w:World)
 (h0:Kd.C (Kd.int .u8) w A0 l0.length l0) (hc0:l0.length ≤ c0) (h1:Kd.C k45 w A1 l1.length l1) (hc1:l1.length ≤ c1) :
  Calls Try.prog 43 #[.agg #[.slice A0 l0.length c0,.slice A1 l1.length c1]] w fun e w'=>e=.returned (.bool (validB l0 l1))∧Below w.heap.size w w':=by
 have hu25:=Try.underlying25
 have hmf:∀ (fn:Fn) (first cap:Array Value) (w:World),(Instr.makeFunc fn first cap).run Try.prog w=.ok (.func fn first cap) w:=fun _ _ _ _=>rfl
 unfold validB
 by_cases ha:l0.length ≤ 65536
 · by_cases hb:l1.length ≤ 64
   · have e1:decide (65536 < l0.length)=false:=by simp;omega
     have e2:decide (64 < l1.length)=false:=by simp;omega
     go_enter Try.func43,Try.ntmps43
     go_wp2_with (first|((with_reducible refine gate_dst (N:=1) rfl ?_);(refine box_event ?hg (N:=1) ?hd (cs:=#[.slice A0 l0.length c0,.slice A1 l1.length c1]) (t:=25) ?hr ?_);(case hd=>rfl);(case hg=>rfl);(case hr=>first|(go_simp;done)|(go_simp;rfl));intro g hg w1 hb1 hB1;have hq0:=(blk_cell hb1 0).trans rfl;have hq1:=(blk_cell hb1 1).trans rfl;have HB1:=Lib.hid hB1;have Hb1:=Lib.hid hb1;clear hB1 hb1 hg)|(go_at_call 57;refine (containsFunc_calls A1 c1 l1 g w1 (fun x => !isPartB l0.length x.f0 x.f1.length) (Kd.C_below h1 HB1.out) hc1 (fun x cs w3 hb3 hx=>isValid1_calls A0 c0 l0 A1 c1 l1 g w3 x cs (blk_below Hb1.out hb3) (Kd.C_below (Kd.C_below h0 HB1.out) hb3) hc0 (Kd.C_below (Kd.C_below h1 HB1.out) hb3) hc1 (by unfold maxLen;omega) hx)).mono ?_;rintro e w2 ⟨rfl,hb2⟩) )
     go_ret
     exact ⟨by simp [ha,hb],below_then HB1.out HB1.out.size hb2⟩
   · have e1:decide (65536 < l0.length)=false:=by simp;omega
     have e2:decide (64 < l1.length)=true:=by simp;omega
     go_enter Try.func43,Try.ntmps43
     go_wp2_with (first|((with_reducible refine gate_dst (N:=1) rfl ?_);(refine box_event ?hg (N:=1) ?hd (cs:=#[.slice A0 l0.length c0,.slice A1 l1.length c1]) (t:=25) ?hr ?_);(case hd=>rfl);(case hg=>rfl);(case hr=>first|(go_simp;done)|(go_simp;rfl));intro g hg w1 hb1 hB1;have hq0:=(blk_cell hb1 0).trans rfl;have hq1:=(blk_cell hb1 1).trans rfl;have HB1:=Lib.hid hB1;clear hB1 hb1 hg) )
     go_ret
     exact ⟨by simp [ha,hb],HB1.out⟩
 · have e1:decide (65536 < l0.length)=true:=by simp;omega
   go_enter Try.func43,Try.ntmps43
   go_wp2_with (first|((with_reducible refine gate_dst (N:=1) rfl ?_);(refine box_event ?hg (N:=1) ?hd (cs:=#[.slice A0 l0.length c0,.slice A1 l1.length c1]) (t:=25) ?hr ?_);(case hd=>rfl);(case hg=>rfl);(case hr=>first|(go_simp;done)|(go_simp;rfl));intro g hg w1 hb1 hB1;have hq0:=(blk_cell hb1 0).trans rfl;have hq1:=(blk_cell hb1 1).trans rfl;have HB1:=Lib.hid hB1;clear hB1 hb1 hg) )
   go_ret
   exact ⟨by simp [ha],HB1.out⟩
end Go.Proofs.Ytfpdmlhknddffaa.Dk
end
section
namespace Go.Proofs.Ytfpdmlhknddffaa.Dk
open Go.RowKit Go.Proofs.YtfpdmlhknddffaaW.PrintWords Go.Proofs.YtfpdmlhknddffaaW.PrintLast Go.Proofs.YtfpdmlhknddffaaW.PrintMore
set_option linter.unusedVariables false
set_option linter.unusedSimpArgs false
theorem C_int {k:IntKind} {w:World} {A:Option Addr} {n:Nat} {l:List Int} (h0:Kd.C (Kd.int k) w A n l) (i:Nat) (hi:i < l.length):∃ ad,A=some ad∧w.cell? (ad.add i)=some (.int k l[i]):=by
 obtain ⟨ad,c,e,hc1,hK,hc⟩:=Kd.C_get h0 0 i (by omega) (by have:=h0.1;omega)
 refine ⟨ad,e,?_⟩
 cases hK
 have hq:=hc 0 _ rfl
 have e2:((i:Int)).toNat * (Kd.int k).sz + 0=i:=by show ((i:Int)).toNat * 1 + 0=i;omega
 rw [e2] at hq
 rw [hq]
 simp [List.getD,hi]
theorem R_empty {α:Type} (d:Kd α) (e base g:Nat) (w:World) (ok:Nat→Prop) (hok:ok g) (hb:base ≤ g) (h:w.heap[g]? = some (.cells #[] e (0,0))):d.R e w base ok (.slice (some ⟨g,0,none⟩) 0 0) []:=by
 refine ⟨fun k hk => ?_,[],⟨by simp,.inr ⟨g,0,#[],rfl,hb,h,Nat.le_refl _,by unfold maxLen;omega,by simp,by simp⟩⟩,Reps.none _ _⟩
 simp [Value.ownBlock] at hk
 subst hk
 exact hok
set_option maxHeartbeats 400000 in
theorem clone_calls (A0:Option Addr) (c0:Nat) (l0:List Int) (w:World) (h0:Kd.C (Kd.int .u8) w A0 l0.length l0) (hc0:l0.length ≤ c0) (hl:l0.length ≤ 140737488355328) :
 Calls Try.prog 45 #[.slice A0 l0.length c0] w fun e w'=>∃ v,e=.returned v∧Kd.R (Kd.int .u8) 5 w' w.heap.size (fun _=>True) v l0∧Below w.heap.size w w':=by
 have hu22:=Try.underlying22
 have hnil:=fun w=>Lib.run_eql_slice_nil (P:=Try.prog) w 22 5 A0 l0.length c0 0 0 hu22
 cases A0 with
 | none =>
  have hz:l0=[]:=by
   rcases Nat.eq_zero_or_pos l0.length with h|h
   · exact List.length_eq_zero_iff.1 h
   · obtain ⟨ad,he,_⟩:=h0.2.2 h
     cases he
  subst hz
  have hnil:=fun w=>Lib.run_eql_slice_nil (P:=Try.prog) w 22 5 none 0 c0 0 0 hu22
  go_enter Try.func45,Try.ntmps45
  go_wp2
  go_ret
  exact ⟨_,rfl,Kd.R_nil _ _ _ _ _,Below.refl _ _⟩
 | some ad =>
  go_enter Try.func45,Try.ntmps45
  go_wp2_with (first|((with_reducible refine gate_dst (N:=7) rfl ?_);refine Kd.R_append_row (w0:=w) (Value.int .u8) (0:Int) (h1:=fun _=>rfl) w.heap.size rfl (.tmp 5) (.tmp 6) 22 5 (.int .u8 0) 1 rfl hu22 info5 rfl (by decide) (.slice (some ⟨w.heap.size,0,none⟩) 0 0) [] l0 (some ad) l0.length c0 (fun _=>True) rfl rfl (fun _ _=>trivial) (R_empty _ _ _ _ _ _ trivial (Nat.le_refl _) (blk_new w _)) (Kd.C_alloc h0 _) (below_alloc (Below.refl _ _) _) (by simp) (by simp;omega) ?_;intro v1 w1 hr hb hg hv;have Hr:=Lib.hid hr;have Hb:=Lib.hid hb;clear hr hb hg hv) )
  go_ret
  exact ⟨_,rfl,Hr.out,Hb.out⟩
theorem whole1_calls (i:Nat) (A0:Option Addr) (n0 c0:Nat) (A1:Option Addr) (c1:Nat) (l1:List S45) (B:Nat) (w:World) (hi:i < l1.length) (hB:w.heap[B]? = some (.cells #[.slice A0 n0 c0,.slice A1 l1.length c1] 25 (0,0))) (h1:Kd.C k45 w A1 l1.length l1) :
 Calls Try.prog 59 #[.int .i64 i,.pointer (some ⟨B,0,none⟩)] w fun e w'=>e=.returned (.int .i64 l1[i].f1.length)∧w'=w:=by
 have hu25:=Try.underlying25
 have hu45:=Try.underlying45
 have hu23:=Try.underlying23
 have hm:=C_max h1
 have hq:=(blk_cell hB 1).trans rfl
 obtain ⟨ad,A2,c2,rfl,q0,q1,q2,q3⟩:=C_get45 h1 i hi hi
 go_enter Try.func59,Try.ntmps59
 go_wp2
 go_ret
 exact ⟨rfl,rfl⟩
theorem whole_calls (A0:Option Addr) (n0 c0:Nat) (A1:Option Addr) (n1 c1:Nat) (w:World) :
 Calls Try.prog 48 #[.agg #[.slice A0 n0 c0,.slice A1 n1 c1]] w fun e w'=>∃ B,e=.returned (.func (.func 59) #[] #[.pointer (some ⟨B,0,none⟩)])∧w'.heap[B]? = some (.cells #[.slice A0 n0 c0,.slice A1 n1 c1] 25 (0,0))∧w.heap.size ≤ B∧Below w.heap.size w w':=by
 have hu25:=Try.underlying25
 have hmf:∀ (fn:Fn) (first cap:Array Value) (w:World),(Instr.makeFunc fn first cap).run Try.prog w=.ok (.func fn first cap) w:=fun _ _ _ _=>rfl
 go_enter Try.func48,Try.ntmps48
 go_wp2
 go_ret
 exact ⟨_,rfl,blk_new w _,Nat.le_refl _,below_alloc (Below.refl _ _) _⟩
end Go.Proofs.Ytfpdmlhknddffaa.Dk
end
section
namespace Go.Proofs.Ytfpdmlhknddffaa.Dk
open Go.RowKit Go.Proofs.YtfpdmlhknddffaaW.PrintWords Go.Proofs.YtfpdmlhknddffaaW.PrintLast Go.Proofs.YtfpdmlhknddffaaW.PrintMore
attribute [local go_sem] max2_int min2_int max_two min_two
set_option linter.unusedVariables false
set_option linter.unusedSimpArgs false
theorem cut3 {P:Program} (t e:TypeId) {i:TypeInfo} (ht:P.underlying t=some (.slice e)) (hi:P.info? e=some i) (A:Option Addr) (n c:Nat) (h m:Int) (h0:0 ≤ h) (hm:h ≤ m) (hc:m ≤ c) :
 ∀ W:World,(Instr.slice t (.slice A n c) none (some (.int .i64 h)) (some (.int .i64 m))).run P W=.ok (.slice A h.toNat m.toNat) W:=by
 intro W
 have ha:(A.map fun x=>x.add 0)=A:=by cases A <;> simp [Addr.add]
 have hm0:0 ≤ m:=by omega
 have hmc:m.toNat=m:=by omega
 simp [Instr.slice,run_underlying ht,Instr.sliceBounds,Instr.sliceBound,asIntOf,hm0,hc,h0,hm,hmc,sizeOf,typeInfo,hi,Result.andThen]
 intro _
 exact ha
def keptN (k:Int) (n:Nat):Nat:=(min (max k 0) n).toNat
theorem keptN_le (k:Int) (n:Nat):keptN k n ≤ n:=by unfold keptN;omega
def applyN (kept:Nat→Int) (ws:List S45) (out:List Int):Nat→List Int
 | 0=>out
 | i + 1=>splice (applyN kept ws out i) (ws.getD i z45).f0.toNat ((ws.getD i z45).f1.take (keptN (kept i) (ws.getD i z45).f1.length))
def applyL (kept:Nat→Int) (ws:List S45) (out:List Int):List Int:=applyN kept ws out ws.length
theorem splice_length {α:Type} (L:List α) (off:Nat) (cs:List α) (h:off + cs.length ≤ L.length):(splice L off cs).length=L.length:=by
 unfold splice;simp;omega
theorem isPartB_iff (n a c:Int):isPartB n a c=true↔0 ≤ a∧0 ≤ c∧a ≤ n∧c ≤ n - a:=by
 unfold isPartB;simp;omega
theorem validB_iff (l0:List Int) (l1:List S45):validB l0 l1=true↔l0.length ≤ 65536∧l1.length ≤ 64∧∀ x ∈ l1,0 ≤ x.f0∧x.f0 + x.f1.length ≤ l0.length:=by
 have key:∀ x:S45,(!isPartB l0.length x.f0 x.f1.length)=false↔0 ≤ x.f0∧x.f0 + x.f1.length ≤ l0.length:=by
  intro x
  rw [Bool.not_eq_false',isPartB_iff]
  omega
 unfold validB
 rw [Bool.and_eq_true,Bool.and_eq_true,decide_eq_true_eq,decide_eq_true_eq,Bool.not_eq_true',List.any_eq_false]
 constructor
 · rintro ⟨⟨a,b⟩,c⟩
   exact ⟨a,b,fun x hx=>(key x).1 (by simpa using c x hx)⟩
 · rintro ⟨a,b,c⟩
   exact ⟨⟨a,b⟩,fun x hx=>by rw [(key x).2 (c x hx)];simp⟩
theorem applyN_length (kept:Nat→Int) (l0:List Int) (l1:List S45) (hv:validB l0 l1=true):∀ i,i ≤ l1.length→(applyN kept l1 l0 i).length=l0.length:=by
 intro i
 induction i with
 | zero=>intro _;rfl
 | succ i ih =>
  intro hi
  have h1:=ih (by omega)
  have hx:=((validB_iff l0 l1).1 hv).2.2 (l1.getD i z45) (by simp [List.getD,show i < l1.length by omega])
  show (splice _ _ _).length=_
  rw [splice_length,h1]
  rw [h1,List.length_take]
  have:=keptN_le (kept i) (l1.getD i z45).f1.length
  omega
end Go.Proofs.Ytfpdmlhknddffaa.Dk
end
section
namespace Go.Proofs.Ytfpdmlhknddffaa.Dk
open Go.RowKit Go.Proofs.YtfpdmlhknddffaaW.PrintWords Go.Proofs.YtfpdmlhknddffaaW.PrintLast Go.Proofs.YtfpdmlhknddffaaW.PrintMore
attribute [local go_sem] max2_int min2_int max_two min_two
set_option linter.unusedVariables false
set_option linter.unusedSimpArgs false
theorem R_block {k:IntKind} {e g n cap base:Nat} {ok:Nat→Prop} {w:World} {xs:List Int} (h:Kd.R (Kd.int k) e w base ok (.slice (some ⟨g,0,none⟩) n cap) xs) :
 ∃ cur:List Value,w.heap[g]? = some (.cells cur.toArray e (0,0))∧cur.length=cap∧n ≤ cap∧cap ≤ maxLen∧n=xs.length∧cur.take n=xs.map (Value.int k)∧base ≤ g:=by
 have hl:=(Kd.R_reads' h).1
 subst hl
 have ho:=Kd.own_of_R h
 obtain ⟨h1,h2⟩:=ho
 rcases h2 with ⟨h3,_⟩|⟨g',cap',cur,h3,h4,h5,h6,h7,h8,h9⟩
 · cases h3
 · injection h3 with e1 _ e3
   injection e1 with e1
   injection e1 with e1
   subst e1
   subst e3
   refine ⟨cur.toList,by simpa using h5,by simpa using h8,h6,h7,rfl,?_,h4⟩
   rw [Nat.mul_one] at h9
   rw [h9]
   rfl
theorem R_mk {k:IntKind} {e g cap base:Nat} {ok:Nat→Prop} {w:World} {xs:List Int} {cur:List Value} (hg:w.heap[g]? = some (.cells cur.toArray e (0,0))) (hc:cur.length=cap) (hn:xs.length ≤ cap) (hm:cap ≤ maxLen)
 (ht:cur.take xs.length=xs.map (Value.int k)) (hb:base ≤ g) (hok:ok g):Kd.R (Kd.int k) e w base ok (.slice (some ⟨g,0,none⟩) xs.length cap) xs:=by
 refine Kd.R_of_own ⟨by simp [encs],.inr ⟨g,cap,cur.toArray,rfl,hb,hg,hn,hm,by simp [hc],?_⟩⟩ (fun k hk => ?_)
 · simp [encs,ht]
 · simp [Value.ownBlock] at hk
   subst hk
   exact hok
theorem take_splice {α:Type} (L:List α) (off n:Nat) (cs:List α) (h:off + cs.length ≤ n) (hL:n ≤ L.length):(splice L off cs).take n=splice (L.take n) off cs:=by
 unfold splice
 have e:List.take off (List.take n L)=List.take off L:=by rw [List.take_take,Nat.min_eq_left (by omega)]
 have e2:List.drop (off + cs.length) (List.take n L)=List.take (n - (off + cs.length)) (List.drop (off + cs.length) L):=by rw [List.drop_take]
 rw [e,e2,List.take_append,List.take_append,List.length_take,Nat.min_eq_left (by omega),List.take_take,Nat.min_eq_right (by omega),List.take_of_length_le (l:=cs) (by omega)]
 rw [show n - off - cs.length=n - (off + cs.length) from by omega]
theorem region_tail {P:Program} {id:Nat} {Q:Exit→Act→World→Prop} {a:Act} {w:World} {l:List Oper} (n:Nat) (hm:P.follows .mixedOrders=true) (hB:Region.lexTailB .any l.toArray n=true)
 (h:∀ wd:World,Below w.heap.size w wd→wd.heap=w.heap→wpStill P l.toArray wd (fun a'=>wpList P l.toArray Q (l.drop n) a' wd) (l.take n) a):(Code.region id l.toArray true).wp P Q a w :=
 wp_region_still_tail n hm hB (h w.drew (below_drew (Below.refl _ _)) rfl)
theorem keptN_ite (k:Int) (n:Nat):(if (n:Int) < (if k < 0 then 0 else k) then (n:Int) else (if k < 0 then 0 else k))=((keptN k n:Nat):Int):=by
 unfold keptN
 split <;> split at * <;> omega
set_option maxHeartbeats 400000 in
theorem apply59_pos (A0:Option Addr) (c0:Nat) (l0:List Int) (A1:Option Addr) (c1:Nat) (l1:List S45) (B:Nat) (w:World) (kept:Nat→Int)
 (h0:Kd.C (Kd.int .u8) w A0 l0.length l0) (hc0:l0.length ≤ c0) (h1:Kd.C k45 w A1 l1.length l1) (hc1:l1.length ≤ c1) (hv:validB l0 l1=true) (hpos:0 < l0.length)
 (hkc:∀ (i:Nat) (w1:World),i < l1.length→Below w.heap.size w w1→Calls Try.prog 59 #[.int .i64 i,.pointer (some ⟨B,0,none⟩)] w1 fun e w'=>e=.returned (.int .i64 (kept i))∧w'=w1) :
  Calls Try.prog 47 #[.agg #[.slice A0 l0.length c0,.slice A1 l1.length c1],.func (.func 59) #[] #[.pointer (some ⟨B,0,none⟩)]] w fun e w'=>∃ v,e=.returned v∧Kd.R (Kd.int .u8) 5 w' w.heap.size (fun _=>True) v (applyL kept l1 l0)∧Below w.heap.size w w':=by
 have hu25:=Try.underlying25
 have hu45:=Try.underlying45
 have hu23:=Try.underlying23
 have hu22:=Try.underlying22
 obtain ⟨i5,hi5,_,hs5,_⟩:=info_parts info5
 have hm:=C_max h1
 have Hv:=(validB_iff l0 l1).1 hv
 have hl0:=Hv.1
 have hl1:=Hv.2.1
 have Hkc:=Lib.hid hkc;clear hkc
 go_enter Try.func47,Try.ntmps47
 go_wp2_with (first|((with_reducible refine gate_dst (N:=2) rfl ?_);(refine box_event ?hg (N:=2) ?hd (cs:=#[.slice A0 l0.length c0,.slice A1 l1.length c1]) (t:=25) ?hr ?_);(case hd=>rfl);(case hg=>rfl);(case hr=>first|(go_simp;done)|(go_simp;rfl));intro g hg w1 hb1 hB1;have hq0:=(blk_cell hb1 0).trans rfl;have hq1:=(blk_cell hb1 1).trans rfl;have HB1:=Lib.hid hB1;have Hb1:=Lib.hid hb1;clear hB1 hb1 hg)|(go_at_call 45;refine (clone_calls A0 c0 l0 w1 (Kd.C_below h0 HB1.out) hc0 (by omega)).mono ?_;rintro e w2 ⟨v,rfl,hr,hb2⟩;obtain ⟨g2,cap2,rfl,hg2b,hg2,cells2,hcells2⟩:=Kd.R_form hr hpos;have hq2:=(blk_cell (blk_below Hb1.out hb2) 0).trans rfl;have hq3:=(blk_cell (blk_below Hb1.out hb2) 1).trans rfl;have HR:=Lib.hid hr;have HB2:=Lib.hid (below_then HB1.out HB1.out.size hb2);have Hcells:=Lib.hid hcells2;clear hr hb2 hcells2) )
 obtain ⟨cur0,k1,k2,k3,k4,k5,k6,k7⟩:=R_block HR.out
 have hgw:w.heap.size ≤ g2:=Nat.le_trans HB1.out.size k7
 have K1:=Lib.hid k1
 have K6:=Lib.hid k6
 clear k1 k5 k6 hq0 hq1 hq2 hq3
 go_loopg [15] l1.length (fun k v15 wr=>∃ i:Nat,i ≤ l1.length∧k=l1.length - i∧v15=.int .i64 i∧(∃ cur:List Value,Hid (wr.heap[g2]? = some (.cells cur.toArray 5 (0,0)))∧Hid (cur.length=cap2)∧Hid (cur.take l0.length=(applyN kept l1 l0 i).map (Value.int .u8)))∧Below w.heap.size w wr)
 case atStart=>exact ⟨0,by omega,by omega,rfl,⟨cur0,K1,Lib.hid k2,K6⟩,HB2.out⟩
 case round =>
  obtain ⟨i,hi,rfl,rfl,⟨cur,C1,C2,C3⟩,hb⟩:=hrel
  by_cases hlt:i < l1.length
  · have g1:=Kd.C_below h1 hb
    obtain ⟨ad,A2,c2,rfl,q0,q1,q2,q3⟩:=C_get45 g1 i hlt hlt
    obtain ⟨xi,hxi⟩:∃ xi,xi=l1[i]:=⟨_,rfl⟩
    have hxm:xi ∈ l1:=by rw [hxi];exact List.getElem_mem _
    have hxv:=Hv.2.2 xi hxm
    rw [← hxi] at q0 q1 q2 q3
    have Hxi:=Lib.hid hxi
    clear hxi
    obtain ⟨f0,f1⟩:=xi
    dsimp only at q0 q1 q2 q3 hxv
    have hm2:=C_max q3
    have hge:g2 < wr.heap.size:=blk_lt C1.out
    go_wp2_with (fail)
    obtain ⟨wb,hwb⟩:∃ wb,wb=wr.alloc (.cells #[.int .i64 f0,.slice A2 f1.length c2] 45):=⟨_,rfl⟩
    rw [← hwb]
    have hbb:Below wr.heap.size wr wb:=by rw [hwb];exact below_alloc (Below.refl _ _) _
    have hblk:wb.heap[wr.heap.size]? = some (.cells #[.int .i64 f0,.slice A2 f1.length c2] 45 (0,0)):=by rw [hwb];exact blk_new _ _
    have hq4:wb.cell? ⟨wr.heap.size,0,none⟩=some (.int .i64 f0):=(blk_cell hblk 0).trans rfl
    have hq5:wb.cell? ⟨wr.heap.size,1,none⟩=some (.slice A2 f1.length c2):=(blk_cell hblk 1).trans rfl
    have Hbb:=Lib.hid hbb
    have Hblk:=Lib.hid hblk
    clear hwb hbb hblk q0 q1
    go_quiet ((go_at_call 59;exact Calls.quiet_of_same (Hkc.out i _ hlt (pw_below_drewN (below_then hb hb.size Hbb.out) _))))
    rw [keptN_ite (kept i) f1.length]
    have hkn:=keptN_le (kept i) f1.length
    obtain ⟨kn,hkk⟩:∃ kn,kn=keptN (kept i) f1.length:=⟨_,rfl⟩
    rw [← hkk] at hkn ⊢
    generalize (if kept i < 0 then (0:Int) else kept i)=mx
    have Hkk:=Lib.hid hkk
    clear hkk
    have hcut:=cut_from (P:=Try.prog) 22 5 .i64 hu22 hi5 1 hs5 (some ⟨g2,0,none⟩) l0.length cap2 f0 hxv.1 (by omega)
    obtain ⟨dp,hdp⟩:∃ dp,dp=(if cap2=f0.toNat then (some ⟨g2,0,none⟩:Option Addr) else (some (⟨g2,0,none⟩:Addr)).map (·.add (f0.toNat * 1))):=⟨_,rfl⟩
    rw [← hdp] at hcut
    have Hdp:=Lib.hid hdp
    clear hdp
    have hcut2:=cut3 (P:=Try.prog) 22 5 hu22 hi5 A2 f1.length c2 (kn:Int) (kn:Int) (by omega) (by omega) (by omega)
    go_wp2_with (fail)
    refine region_tail 9 (by kernel_rfl) (by kernel_rfl) ?_
    intro wd hbd hhd
    simp only [List.take_succ_cons,List.take_zero,List.drop_succ_cons,List.drop_zero]
    have hq6:wd.cell? ⟨wr.heap.size,0,none⟩=some (.int .i64 f0):=(pw_cell_below hbd (pw_cell_below (pw_below_drewN (Below.refl _ _) nq) hq4))
    have hq7:wd.cell? ⟨wr.heap.size,1,none⟩=some (.slice A2 f1.length c2):=(pw_cell_below hbd (pw_cell_below (pw_below_drewN (Below.refl _ _) nq) hq5))
    have Hbd:=Lib.hid (below_then Hbb.out Hbb.out.size (below_then (pw_below_drewN (Below.refl wb.heap.size wb) nq) (Nat.le_refl _) hbd))
    clear hq4 hq5 hbd hhd
    repeat still_step
    refine wpStill_nil ?_
    have hbw:Below w.heap.size w wd:=below_then hb hb.size Hbd.out
    have hcl:(((f1.take kn).map (Value.int .u8)).length)=kn:=by simp;omega
    have hzn:l0.length ≤ cap2:=k3
    refine wpList_copy_splice rfl (.tmp 31) (.tmp 36) 22 22 rfl 5 hu22 (by rw [hi5];simp [hs5]) dp A2 (l0.length - f0.toNat) (cap2 - f0.toNat) kn kn rfl rfl g2 f0.toNat cur 5 (blk_below C1.out Hbd.out) ((f1.take kn).map (Value.int .u8)) ?hn ?hp ?hfit ?h1 w.heap.size w hbw hgw ?rest
    case hn=>rw [hcl];show kn=min kn (l0.length - f0.toNat);omega
    case hp =>
     intro hlen
     rw [hcl] at hlen
     refine ⟨?_,?_⟩
     · rw [Hdp.out,if_neg (by omega)]
       simp [Addr.add]
       intro _;omega
     · obtain ⟨ad2,e2,_⟩:=C_int q3 0 (by omega)
       refine ⟨ad2,e2,?_⟩
       intro j v hj
       have hj2:j < kn:=by have:=(List.getElem?_eq_some_iff.1 hj).1;rw [hcl] at this;exact this
       obtain ⟨ad3,e3,hc3⟩:=C_int (Kd.C_below q3 Hbd.out) j (by omega)
       rw [e2] at e3
       injection e3 with e3
       subst e3
       rw [hc3]
       rw [List.getElem?_map,List.getElem?_take_of_lt hj2,List.getElem?_eq_getElem (by omega)] at hj
       exact hj
    case hfit=>rw [hcl,C2.out];omega
    case h1 =>
     intro v hv
     obtain ⟨z,_,rfl⟩:=List.mem_map.1 hv
     rfl
    case rest =>
     intro w6 h6 hb6
     go_wp2
     go_roundg (l1.length - (i + 1))
     case measure=>omega
     case rel =>
      refine ⟨i + 1,by omega,rfl,by go_num,⟨_,h6,Lib.hid ?_,Lib.hid ?_⟩,hb6⟩
      · rw [splice_length _ _ _ (by rw [hcl,C2.out];omega)];exact C2.out
      · have hz:l1.getD i z45=⟨f0,f1⟩:=by rw [Hxi.out];simp [List.getD,hlt]
        show _=(splice (applyN kept l1 l0 i) (l1.getD i z45).f0.toNat ((l1.getD i z45).f1.take (keptN (kept i) (l1.getD i z45).f1.length))).map _
        rw [hz,take_splice _ _ _ _ (by rw [hcl];omega) (by rw [C2.out];omega),C3.out]
        dsimp only
        rw [← Hkk.out]
        unfold splice
        simp
  · obtain rfl:i=l1.length:=by omega
    go_wp2
    go_ret
    refine ⟨_,rfl,?_,hb⟩
    have hlen:=applyN_length kept l0 l1 hv l1.length (Nat.le_refl _)
    have:=R_mk (k:=.u8) (ok:=fun _=>True) (base:=w.heap.size) (xs:=applyL kept l1 l0) C1.out C2.out (by unfold applyL;omega) k4 (by unfold applyL;rw [hlen];exact C3.out) hgw trivial
    unfold applyL at this ⊢
    rw [hlen] at this
    exact this
set_option maxHeartbeats 400000 in
theorem apply59_nil (A0:Option Addr) (c0:Nat) (A1:Option Addr) (c1:Nat) (l1:List S45) (B:Nat) (w:World) (kept:Nat→Int)
 (h0:Kd.C (Kd.int .u8) w A0 0 []) (h1:Kd.C k45 w A1 l1.length l1) (hc1:l1.length ≤ c1) (hv:validB [] l1=true)
 (hkc:∀ (i:Nat) (w1:World),i < l1.length→Below w.heap.size w w1→Calls Try.prog 59 #[.int .i64 i,.pointer (some ⟨B,0,none⟩)] w1 fun e w'=>e=.returned (.int .i64 (kept i))∧w'=w1) :
  Calls Try.prog 47 #[.agg #[.slice A0 0 c0,.slice A1 l1.length c1],.func (.func 59) #[] #[.pointer (some ⟨B,0,none⟩)]] w fun e w'=>∃ v,e=.returned v∧Kd.R (Kd.int .u8) 5 w' w.heap.size (fun _=>True) v (applyL kept l1 [])∧Below w.heap.size w w':=by
 have hu25:=Try.underlying25
 have hu45:=Try.underlying45
 have hu23:=Try.underlying23
 have hu22:=Try.underlying22
 obtain ⟨i5,hi5,_,hs5,_⟩:=info_parts info5
 have hm:=C_max h1
 have Hv:=(validB_iff [] l1).1 hv
 have hl1:=Hv.2.1
 have Hkc:=Lib.hid hkc;clear hkc
 go_enter Try.func47,Try.ntmps47
 go_wp2_with (first|((with_reducible refine gate_dst (N:=2) rfl ?_);(refine box_event ?hg (N:=2) ?hd (cs:=#[.slice A0 0 c0,.slice A1 l1.length c1]) (t:=25) ?hr ?_);(case hd=>rfl);(case hg=>rfl);(case hr=>first|(go_simp;done)|(go_simp;rfl));intro g hg w1 hb1 hB1;have hq0:=(blk_cell hb1 0).trans rfl;have hq1:=(blk_cell hb1 1).trans rfl;have HB1:=Lib.hid hB1;have Hb1:=Lib.hid hb1;clear hB1 hb1 hg)|(go_at_call 45;refine (clone_calls A0 c0 [] w1 (Kd.C_below h0 HB1.out) (by simp) (by simp)).mono ?_;rintro e w2 ⟨v,rfl,hr,hb2⟩;obtain ⟨A5,cap2,rfl⟩:=Kd.R_slice hr;have hq2:=(blk_cell (blk_below Hb1.out hb2) 0).trans rfl;have hq3:=(blk_cell (blk_below Hb1.out hb2) 1).trans rfl;have HR:=Lib.hid hr;have HB2:=Lib.hid (below_then HB1.out HB1.out.size hb2);clear hr hb2) )
 clear hq0 hq1 hq2 hq3
 go_loopg [15] l1.length (fun k v15 wr=>∃ i:Nat,i ≤ l1.length∧k=l1.length - i∧v15=.int .i64 i∧Below w2.heap.size w2 wr)
 case atStart=>exact ⟨0,by omega,by omega,rfl,Below.refl _ _⟩
 case round =>
  obtain ⟨i,hi,rfl,rfl,hb⟩:=hrel
  have hbw:=below_then HB2.out HB2.out.size hb
  by_cases hlt:i < l1.length
  · have g1:=Kd.C_below h1 hbw
    obtain ⟨ad,A2,c2,rfl,q0,q1,q2,q3⟩:=C_get45 g1 i hlt hlt
    obtain ⟨xi,hxi⟩:∃ xi,xi=l1[i]:=⟨_,rfl⟩
    have hxm:xi ∈ l1:=by rw [hxi];exact List.getElem_mem _
    have hxv:=Hv.2.2 xi hxm
    rw [← hxi] at q0 q1 q2 q3
    clear hxi hxm
    obtain ⟨f0,f1⟩:=xi
    dsimp only at q0 q1 q2 q3 hxv
    obtain rfl:f1=[]:=List.length_eq_zero_iff.1 (by simp at hxv;omega)
    obtain rfl:f0=0:=by simp at hxv;omega
    have q4:wr.cell? ⟨(ad.add (i * 2)).block,(ad.add (i * 2)).off + 1,none⟩=some (.slice A2 0 c2):=q1
    clear q1
    go_wp2_with (fail)
    obtain ⟨wb,hwb⟩:∃ wb,wb=wr.alloc (.cells #[.int .i64 0,.slice A2 0 c2] 45):=⟨_,rfl⟩
    rw [← hwb]
    have hbb:Below wr.heap.size wr wb:=by rw [hwb];exact below_alloc (Below.refl _ _) _
    have hblk:wb.heap[wr.heap.size]? = some (.cells #[.int .i64 0,.slice A2 0 c2] 45 (0,0)):=by rw [hwb];exact blk_new _ _
    have hq4:wb.cell? ⟨wr.heap.size,0,none⟩=some (.int .i64 0):=(blk_cell hblk 0).trans rfl
    have hq5:wb.cell? ⟨wr.heap.size,1,none⟩=some (.slice A2 0 c2):=(blk_cell hblk 1).trans rfl
    have Hbb:=Lib.hid hbb
    clear hwb hbb hblk q0 q4
    go_quiet ((go_at_call 59;exact Calls.quiet_of_same (Hkc.out i _ hlt (pw_below_drewN (below_then hbw hbw.size Hbb.out) _))))
    have hz:(if (0:Int) < (if kept i < 0 then 0 else kept i) then (0:Int) else (if kept i < 0 then 0 else kept i))=0:=by split <;> split at * <;> omega
    rw [hz]
    clear hz
    generalize (if kept i < 0 then (0:Int) else kept i)=mx
    have hcut:=cut_from (P:=Try.prog) 22 5 .i64 hu22 hi5 1 hs5 A5 0 cap2 0 (by omega) (by omega)
    obtain ⟨dp,hdp⟩:∃ dp,dp=(if cap2=(0:Int).toNat then A5 else A5.map (·.add ((0:Int).toNat * 1))):=⟨_,rfl⟩
    rw [← hdp] at hcut
    clear hdp
    have hcut2:=cut3 (P:=Try.prog) 22 5 hu22 hi5 A2 0 c2 0 0 (by omega) (by omega) (by omega)
    go_wp2_with (fail)
    refine region_tail 9 (by kernel_rfl) (by kernel_rfl) ?_
    intro wd hbd hhd
    simp only [List.take_succ_cons,List.take_zero,List.drop_succ_cons,List.drop_zero]
    have hq6:wd.cell? ⟨wr.heap.size,0,none⟩=some (.int .i64 0):=(pw_cell_below hbd (pw_cell_below (pw_below_drewN (Below.refl _ _) nq) hq4))
    have hq7:wd.cell? ⟨wr.heap.size,1,none⟩=some (.slice A2 0 c2):=(pw_cell_below hbd (pw_cell_below (pw_below_drewN (Below.refl _ _) nq) hq5))
    have Hbd:=Lib.hid (below_then Hbb.out Hbb.out.size (below_then (pw_below_drewN (Below.refl wb.heap.size wb) nq) (Nat.le_refl _) hbd))
    clear hq4 hq5 hbd hhd
    repeat still_step
    refine wpStill_nil ?_
    refine wpList_copy_nothing rfl (.tmp 31) (.tmp 36) 22 22 rfl 5 hu22 (by rw [hi5];simp [hs5]) dp A2 0 cap2 0 0 rfl rfl rfl ?_
    go_wp2
    go_roundg (l1.length - (i + 1))
    case measure=>omega
    case rel=>exact ⟨i + 1,by omega,rfl,by go_num,below_then hb hb.size Hbd.out⟩
  · go_wp2
    go_ret
    refine ⟨_,rfl,?_,hbw⟩
    have hlen:=applyN_length kept [] l1 hv l1.length (Nat.le_refl _)
    have e:applyL kept l1 []=[]:=List.length_eq_zero_iff.1 hlen
    rw [e]
    exact Kd.R_lower (Kd.R_below HR.out hb) HB1.out.size
theorem apply59_calls (A0:Option Addr) (c0:Nat) (l0:List Int) (A1:Option Addr) (c1:Nat) (l1:List S45) (B:Nat) (w:World) (kept:Nat→Int)
 (h0:Kd.C (Kd.int .u8) w A0 l0.length l0) (hc0:l0.length ≤ c0) (h1:Kd.C k45 w A1 l1.length l1) (hc1:l1.length ≤ c1) (hv:validB l0 l1=true)
 (hkc:∀ (i:Nat) (w1:World),i < l1.length→Below w.heap.size w w1→Calls Try.prog 59 #[.int .i64 i,.pointer (some ⟨B,0,none⟩)] w1 fun e w'=>e=.returned (.int .i64 (kept i))∧w'=w1) :
  Calls Try.prog 47 #[.agg #[.slice A0 l0.length c0,.slice A1 l1.length c1],.func (.func 59) #[] #[.pointer (some ⟨B,0,none⟩)]] w fun e w'=>∃ v,e=.returned v∧Kd.R (Kd.int .u8) 5 w' w.heap.size (fun _=>True) v (applyL kept l1 l0)∧Below w.heap.size w w':=by
 rcases Nat.eq_zero_or_pos l0.length with h|h
 · obtain rfl:=List.length_eq_zero_iff.1 h
   exact apply59_nil A0 c0 A1 c1 l1 B w kept h0 h1 hc1 hv hkc
 · exact apply59_pos A0 c0 l0 A1 c1 l1 B w kept h0 hc0 h1 hc1 hv h hkc
end Go.Proofs.Ytfpdmlhknddffaa.Dk
end
section
namespace Go.Proofs.Ytfpdmlhknddffaa.Dk
open Go.RowKit Go.Proofs.YtfpdmlhknddffaaW.PrintWords Go.Proofs.YtfpdmlhknddffaaW.PrintLast Go.Proofs.YtfpdmlhknddffaaW.PrintMore
set_option linter.unusedVariables false
set_option linter.unusedSimpArgs false
def wholeK (l1:List S45) (i:Nat):Int:=((l1.getD i z45).f1.length:Int)
def syncL (l0:List Int) (l1:List S45):List Int:=if validB l0 l1=true then applyL (wholeK l1) l1 l0 else []
theorem two_cells {w:World} {g:Nat} {t:TypeId} {a b:Value} (h:w.heap[g]? = some (.cells #[a,b] t (0,0))) (u v:Value):((w.setCell ⟨g,0,none⟩ u).setCell ⟨g,1,none⟩ v).heap[g]? = some (.cells #[u,v] t (0,0)) :=
 blk_put (blk_put h 0 u rfl) 1 v rfl
set_option maxHeartbeats 800000 in
theorem disk_Sync_calls (A0:Option Addr) (c0:Nat) (l0:List Int) (A1:Option Addr) (c1:Nat) (l1:List S45) (w:World)
 (h0:Kd.C (Kd.int .u8) w A0 l0.length l0) (hc0:l0.length ≤ c0) (h1:Kd.C k45 w A1 l1.length l1) (hc1:l1.length ≤ c1) :
  Calls Try.prog 26 #[.agg #[.slice A0 l0.length c0,.slice A1 l1.length c1]] w fun e w'=>∃ v0:Value,e=.returned (.agg #[v0,.slice none 0 0])∧Kd.R (Kd.int .u8) 5 w' w.heap.size (fun _=>True) v0 (syncL l0 l1)∧Below w.heap.size w w':=by
 have hu25:=Try.underlying25
 unfold syncL
 cases hv:validB l0 l1
 all_goals
  have Hv:=Lib.hid hv
  clear hv
  go_enter Try.func26,Try.ntmps26
  go_wp2_with (first|((with_reducible refine gate_dst (N:=1) rfl ?_);(refine box_event ?hg (N:=1) ?hd (cs:=#[.slice A0 l0.length c0,.slice A1 l1.length c1]) (t:=25) ?hr ?_);(case hd=>rfl);(case hg=>rfl);(case hr=>first|(go_simp;done)|(go_simp;rfl));intro g hg w1 hb1 hB1;have hq0:=(blk_cell hb1 0).trans rfl;have hq1:=(blk_cell hb1 1).trans rfl;have HB1:=Lib.hid hB1;have Hb1:=Lib.hid hb1;clear hB1 hb1 hg)|((with_reducible refine gate_dst (N:=2) rfl ?_);(refine box_event ?hg (N:=2) ?hd (cs:=#[.slice none 0 0,.slice none 0 0]) (t:=25) ?hr ?_);(case hd=>rfl);(case hg=>rfl);(case hr=>first|(go_simp;done)|(go_simp;rfl));intro g2 hg2 w2 hb2 hB2;have hq2:=(blk_cell (blk_below Hb1.out hB2) 0).trans rfl;have hq3:=(blk_cell (blk_below Hb1.out hB2) 1).trans rfl;have hq4:=(blk_cell hb2 0).trans rfl;have hq5:=(blk_cell hb2 1).trans rfl;have HB2:=Lib.hid (below_then HB1.out HB1.out.size hB2);have Hb2:=Lib.hid hb2;have Hb1':=Lib.hid (blk_below Hb1.out hB2);have Hgg:=Lib.hid (blk_lt Hb1.out);have Hg2:=Lib.hid hg2;clear hB2 hb2 Hb1 hq0 hq1 hg2)|(go_at_call 43;refine (disk_isValid_calls A0 c0 l0 A1 c1 l1 w2 (Kd.C_below h0 HB2.out) hc0 (Kd.C_below h1 HB2.out) hc1).mono ?_;rintro e w3 ⟨rfl,hb3⟩;rw [Hv.out];have hq6:=(blk_cell (blk_below Hb1'.out hb3) 0).trans rfl;have hq7:=(blk_cell (blk_below Hb1'.out hb3) 1).trans rfl;have hq8:=(blk_cell (blk_below Hb2.out hb3) 0).trans rfl;have hq9:=(blk_cell (blk_below Hb2.out hb3) 1).trans rfl;have hf8:=blk_frozen (blk_below Hb2.out hb3) 0;have hf9:=blk_frozen (blk_below Hb2.out hb3) 1;have HB3:=Lib.hid (below_then HB2.out HB2.out.size hb3);have Hb1'':=Lib.hid (blk_below Hb1'.out hb3);have Hb2'':=Lib.hid (blk_below Hb2.out hb3);clear hb3 Hb1' Hb2 hq2 hq3 hq4 hq5) )
 · obtain ⟨w4,hw4⟩:∃ w4,w4=((w3.setCell ⟨g2,0,none⟩ (.slice none 0 0)).setCell ⟨g2,1,none⟩ (.slice none 0 0)):=⟨_,rfl⟩
   have hr2:=two_cells Hb2''.out (.slice none 0 0) (.slice none 0 0)
   rw [← hw4] at hr2 ⊢
   have hb4:Below w.heap.size w w4:=by
    rw [hw4]
    exact (HB3.out.setCell (p:=⟨g2,0,none⟩) (by have:=HB1.out.size;rw [Hg2.out];exact this) _).setCell (p:=⟨g2,1,none⟩) (by have:=HB1.out.size;rw [Hg2.out];exact this) _
   clear hw4 hq6 hq7 hq8 hq9 hf8 hf9
   have k1:w4.cell? ⟨g2,0,none⟩=some (.slice none 0 0):=(blk_cell hr2 0).trans rfl
   have k2:w4.cell? ⟨g2,1,none⟩=some (.slice none 0 0):=(blk_cell hr2 1).trans rfl
   exact bodyPost_ret (v:=.agg #[.slice none 0 0,.slice none 0 0]) (by simp [results,Try.results26,go_sem,k1,k2]) rfl ⟨_,rfl,Kd.R_nil _ _ _ _ _,hb4⟩
 · have k6:w3.cell? ⟨g,0,none⟩=some (.slice A0 l0.length c0):=hq6
   have k7:w3.cell? ⟨g,1,none⟩=some (.slice A1 l1.length c1):=hq7
   clear hq6 hq7 hq8 hq9 hf8 hf9
   go_region_held3 (fun w'=>w'.cell? ⟨g,0,none⟩=some (.slice A0 l0.length c0)∧w'.cell? ⟨g,1,none⟩=some (.slice A1 l1.length c1))
    (first|exact ⟨k6,k7⟩|exact ⟨k8,k9⟩|exact ⟨k10,k11⟩|exact ⟨(blk_cell (blk_far (blk_far Hb1f.out hne.out _) hne.out _) 0).trans rfl,(blk_cell (blk_far (blk_far Hb1f.out hne.out _) hne.out _) 1).trans rfl⟩)
    ((first|(go_at_call 48;refine (whole_calls A0 l0.length c0 A1 l1.length c1 _).mono ?_;rintro e w4 ⟨B,rfl,hB,hBs,hb4⟩;have k8:=pw_cell_below hb4 k6;have k9:=pw_cell_below hb4 k7;have HB4:=Lib.hid (below_then HB3.out HB3.out.size (below_then (below_drew (Below.refl _ _)) (Nat.le_refl _) hb4));have HBB:=Lib.hid hB;have Hb4:=Lib.hid hb4;clear hB hb4 hBs)|(go_at_call 47;refine (apply59_calls A0 c0 l0 A1 c1 l1 B _ (wholeK l1) (Kd.C_below h0 HB4.out) hc0 (Kd.C_below h1 HB4.out) hc1 Hv.out ?hwk).mono ?_;(case hwk=>intro i w5 hi hb5;refine (whole1_calls i A0 l0.length c0 A1 c1 l1 B w5 hi (blk_below HBB.out hb5) (Kd.C_below (Kd.C_below h1 HB4.out) hb5)).mono ?_;rintro e w6 ⟨rfl,rfl⟩;exact ⟨by simp [wholeK,List.getD,hi],rfl⟩);rintro e w5 ⟨v0,rfl,hr5,hb5⟩;obtain ⟨A5,cap5,rfl⟩:=Kd.R_slice hr5;have k10:=pw_cell_below hb5 k8;have k11:=pw_cell_below hb5 k9;have Hb2f:=Lib.hid (blk_below (blk_below (blk_drew Hb2''.out) Hb4.out) hb5);have Hb1f:=Lib.hid (blk_below (blk_below (blk_drew Hb1''.out) Hb4.out) hb5);have hne:Hid (g ≠ g2):=Lib.hid (by have:=Hgg.out;have:=Hg2.out;omega);have q0:=(blk_cell Hb2f.out 0).trans rfl;have q1:=(blk_cell Hb2f.out 1).trans rfl;have q2:=blk_frozen Hb2f.out 0;have q3:=blk_frozen Hb2f.out 1;have HB5:=Lib.hid (below_then HB4.out HB4.out.size hb5);have HR5:=Lib.hid (Kd.R_lower hr5 HB4.out.size);clear hb5 hr5)))
   go_wp2
   obtain ⟨w6,hw6⟩:∃ w6,w6=((w5.setCell ⟨g2,0,none⟩ (.slice A5 (applyL (wholeK l1) l1 l0).length cap5)).setCell ⟨g2,1,none⟩ (.slice none 0 0)):=⟨_,rfl⟩
   have hr2:=two_cells Hb2f.out (.slice A5 (applyL (wholeK l1) l1 l0).length cap5) (.slice none 0 0)
   rw [← hw6] at hr2 ⊢
   have hgs:w.heap.size ≤ g2:=by have:=HB1.out.size;rw [Hg2.out];exact this
   have hb6:Below w.heap.size w w6:=by
    rw [hw6]
    exact (HB5.out.setCell (p:=⟨g2,0,none⟩) hgs _).setCell (p:=⟨g2,1,none⟩) hgs _
   have hr6:Kd.R (Kd.int .u8) 5 w6 w.heap.size (fun _=>True) (.slice A5 (applyL (wholeK l1) l1 l0).length cap5) (applyL (wholeK l1) l1 l0):=by
    rw [hw6]
    exact Kd.R_set (Kd.R_set HR5.out Hb2f.out (by decide) 0 _) (blk_put Hb2f.out 0 _ rfl) (by decide) 1 _
   have k1:w6.cell? ⟨g2,0,none⟩=some (.slice A5 (applyL (wholeK l1) l1 l0).length cap5):=(blk_cell hr2 0).trans rfl
   have k2:w6.cell? ⟨g2,1,none⟩=some (.slice none 0 0):=(blk_cell hr2 1).trans rfl
   exact bodyPost_ret (v:=.agg #[.slice A5 (applyL (wholeK l1) l1 l0).length cap5,.slice none 0 0]) (by simp [results,Try.results26,go_sem,k1,k2]) rfl ⟨_,rfl,hr6,hb6⟩
end Go.Proofs.Ytfpdmlhknddffaa.Dk
end
section
namespace Go.Proofs.Ytfpdmlhknddffaa.Dk
open Go.RowKit Go.Proofs.YtfpdmlhknddffaaW.PrintWords Go.Proofs.YtfpdmlhknddffaaW.PrintLast Go.Proofs.YtfpdmlhknddffaaW.PrintMore
set_option linter.unusedVariables false
set_option linter.unusedSimpArgs false
def readOk (l0:List Int) (l1:List S45) (a c:Int):Bool:=validB l0 l1 && isPartB l0.length a c
def readL (l0:List Int) (l1:List S45) (a c:Int):List Int:=if readOk l0 l1 a c=true then ((applyL (wholeK l1) l1 l0).take (a + c).toNat).drop a.toNat else []
set_option maxHeartbeats 800000 in
theorem disk_Read_calls (A0:Option Addr) (c0:Nat) (l0:List Int) (A1:Option Addr) (c1:Nat) (l1:List S45) (a c:Int) (w:World)
 (h0:Kd.C (Kd.int .u8) w A0 l0.length l0) (hc0:l0.length ≤ c0) (h1:Kd.C k45 w A1 l1.length l1) (hc1:l1.length ≤ c1) :
  Calls Try.prog 23 #[.agg #[.slice A0 l0.length c0,.slice A1 l1.length c1],.int .i64 a,.int .i64 c] w fun e w'=>∃ v0:Value,e=.returned (.tuple #[v0,.int .i64 (if readOk l0 l1 a c=true then 0 else 1)])∧Kd.R (Kd.int .u8) 5 w' w.heap.size (fun _=>True) v0 (readL l0 l1 a c)∧Below w.heap.size w w':=by
 have hu25:=Try.underlying25
 have hu22:=Try.underlying22
 obtain ⟨i5,hi5,_,hs5,_⟩:=info_parts info5
 unfold readL readOk
 cases hv:validB l0 l1 <;> cases hp:isPartB l0.length a c
 all_goals
  have Hv:=Lib.hid hv
  have Hp:=Lib.hid hp
  clear hv hp
  go_enter Try.func23,Try.ntmps23
  go_wp2_with (first|((with_reducible refine gate_dst (N:=3) rfl ?_);(refine box_event ?hg (N:=3) ?hd (cs:=#[.slice A0 l0.length c0,.slice A1 l1.length c1]) (t:=25) ?hr ?_);(case hd=>rfl);(case hg=>rfl);(case hr=>first|(go_simp;done)|(go_simp;rfl));intro g hg w1 hb1 hB1;have hq0:=(blk_cell hb1 0).trans rfl;have hq1:=(blk_cell hb1 1).trans rfl;have HB1:=Lib.hid hB1;have Hb1:=Lib.hid hb1;clear hB1 hb1 hg)|(go_at_call 43;refine (disk_isValid_calls A0 c0 l0 A1 c1 l1 w1 (Kd.C_below h0 HB1.out) hc0 (Kd.C_below h1 HB1.out) hc1).mono ?_;rintro e w3 ⟨rfl,hb3⟩;rw [Hv.out];have hq6:=(blk_cell (blk_below Hb1.out hb3) 0).trans rfl;have hq7:=(blk_cell (blk_below Hb1.out hb3) 1).trans rfl;have HB3:=Lib.hid (below_then HB1.out HB1.out.size hb3);have Hb3:=Lib.hid (blk_below Hb1.out hb3);clear hb3 Hb1 hq0 hq1)|(go_at_call 44;have hl:=((validB_iff l0 l1).1 Hv.out).1;refine (disk_isPart.calls _ _ l0 _ _ l1 a c _ _ (Kd.C_below h0 HB3.out) hc0 (Kd.C_below h1 HB3.out) hc1 (isPart_f l0 l1 a c (by unfold maxLen;omega))).mono ?_;rintro e w4 ⟨rfl,hb4⟩;rw [Hp.out];have hq8:=(blk_cell (blk_below Hb3.out hb4) 0).trans rfl;have hq9:=(blk_cell (blk_below Hb3.out hb4) 1).trans rfl;have HB4:=Lib.hid (below_then HB3.out HB3.out.size hb4);have Hb4:=Lib.hid (blk_below Hb3.out hb4);clear hb4 Hb3 hq6 hq7 hl) )
 · go_ret2
   exact ⟨_,rfl,Kd.R_nil _ _ _ _ _,HB3.out⟩
 · go_ret2
   exact ⟨_,rfl,Kd.R_nil _ _ _ _ _,HB3.out⟩
 · go_ret2
   exact ⟨_,rfl,Kd.R_nil _ _ _ _ _,HB4.out⟩
 · have k6:w4.cell? ⟨g,0,none⟩=some (.slice A0 l0.length c0):=hq8
   have k7:w4.cell? ⟨g,1,none⟩=some (.slice A1 l1.length c1):=hq9
   have hl:=((validB_iff l0 l1).1 Hv.out).1
   obtain ⟨ha0,hc00,ha1,hc01⟩:=(isPartB_iff _ _ _).1 Hp.out
   have hwr:IntKind.i64.wrap (a + c)=a + c:=IntWalk.i64_in _ (by omega)
   have hlen:(applyL (wholeK l1) l1 l0).length=l0.length:=applyN_length _ l0 l1 Hv.out l1.length (Nat.le_refl _)
   have Hlen:=Lib.hid hlen
   have hac:0 ≤ a + c:=by omega
   have hac2:a ≤ a + c:=by omega
   clear hq8 hq9 hlen
   go_region_held3 (fun w'=>w'.cell? ⟨g,0,none⟩=some (.slice A0 l0.length c0)∧w'.cell? ⟨g,1,none⟩=some (.slice A1 l1.length c1))
    (first|exact ⟨k6,k7⟩|exact ⟨k8,k9⟩|exact ⟨k10,k11⟩|exact ⟨k12,k13⟩)
    ((first|(go_at_call 48;refine (whole_calls A0 l0.length c0 A1 l1.length c1 _).mono ?_;rintro e w5 ⟨B,rfl,hB,hBs,hb5⟩;have k8:=pw_cell_below hb5 k6;have k9:=pw_cell_below hb5 k7;have HB5:=Lib.hid (below_then HB4.out HB4.out.size (below_then (below_drew (Below.refl _ _)) (Nat.le_refl _) hb5));have HBB:=Lib.hid hB;clear hB hb5 hBs)|(go_at_call 47;refine (apply59_calls A0 c0 l0 A1 c1 l1 B _ (wholeK l1) (Kd.C_below h0 HB5.out) hc0 (Kd.C_below h1 HB5.out) hc1 Hv.out ?hwk).mono ?_;(case hwk=>intro i w5 hi hb5;refine (whole1_calls i A0 l0.length c0 A1 c1 l1 B w5 hi (blk_below HBB.out hb5) (Kd.C_below (Kd.C_below h1 HB5.out) hb5)).mono ?_;rintro e w6 ⟨rfl,rfl⟩;exact ⟨by simp [wholeK,List.getD,hi],rfl⟩);rintro e w6 ⟨v0,rfl,hr6,hb6⟩;obtain ⟨A5,cap5,rfl⟩:=Kd.R_slice hr6;have hn5:=(Kd.R_reads' hr6).2.1;have hC:=(Kd.R_reads' hr6).2.2;have hcut:=cut_mid (P:=Try.prog) 22 5 .i64 .i64 hu22 hi5 1 hs5 A5 (applyL (wholeK l1) l1 l0).length cap5 a (a + c) ha0 hac2 (by rw [Hlen.out];omega) hn5;have hmid:=Kd.C_mid (lo:=a.toNat) (hi:=(a + c).toNat) (c:=cap5) hC (by omega) (by rw [Hlen.out];omega) hn5;obtain ⟨dp,hdp⟩:∃ dp,dp=(if cap5=a.toNat then A5 else A5.map (·.add (a.toNat * 1))):=⟨_,rfl⟩;rw [← hdp] at hcut;have hmid2:Kd.C (Kd.int .u8) w6 dp (((applyL (wholeK l1) l1 l0).take (a + c).toNat).drop a.toNat).length (((applyL (wholeK l1) l1 l0).take (a + c).toNat).drop a.toNat):=(by rw [hdp];exact hmid);have hml:(((applyL (wholeK l1) l1 l0).take (a + c).toNat).drop a.toNat).length=(a + c).toNat - a.toNat:=(by rw [List.length_drop,List.length_take,Hlen.out];omega);rw [← hml] at hcut;obtain ⟨M,hM⟩:∃ M,M=((applyL (wholeK l1) l1 l0).take (a + c).toNat).drop a.toNat:=⟨_,rfl⟩;rw [← hM] at hcut hmid2 hml;have HM:=Lib.hid hM;have k10:=pw_cell_below hb6 k8;have k11:=pw_cell_below hb6 k9;have HB6:=Lib.hid (below_then HB5.out HB5.out.size hb6);have HC6:=Lib.hid hmid2;have Hml:=Lib.hid hml;have Hn5:=Lib.hid hn5;clear hb6 hr6 hn5 hC hmid hmid2 hdp hml hM)|(go_at_call 45;refine (clone_calls dp (cap5 - a.toNat) M _ HC6.out ?hca (by rw [Hml.out];omega)).mono ?_;(case hca=>have:=Hn5.out;have:=Hlen.out;have:=Hml.out;omega);rintro e w7 ⟨v7,rfl,hr7,hb7⟩;have k12:=pw_cell_below hb7 k10;have k13:=pw_cell_below hb7 k11;have HB7:=Lib.hid (below_then HB6.out HB6.out.size hb7);have HR7:=Lib.hid (Kd.R_lower hr7 HB6.out.size);clear hb7 hr7)))
   go_wp2
   go_ret2
   exact ⟨_,rfl,by have:=HR7.out;rw [HM.out] at this;exact this,HB7.out⟩
end Go.Proofs.Ytfpdmlhknddffaa.Dk
end
section
namespace Go.Proofs.Ytfpdmlhknddffaa.Dk
open Go.RowKit Go.Proofs.YtfpdmlhknddffaaW.PrintWords Go.Proofs.YtfpdmlhknddffaaW.PrintLast Go.Proofs.YtfpdmlhknddffaaW.PrintMore
set_option linter.unusedVariables false
set_option linter.unusedSimpArgs false
def writeF (l0:List Int) (l1:List S45) (a:Int) (l2:List Int):List Int × List S45 × Int :=
 if (validB l0 l1 && isPartB l0.length a l2.length)=true then (if l1.length=64 then ([],[],2) else (l0,l1 ++ [⟨a,l2⟩],0)) else ([],[],1)
set_option maxHeartbeats 800000 in
theorem disk_Write_e1 (A0:Option Addr) (c0:Nat) (l0:List Int) (A1:Option Addr) (c1:Nat) (l1:List S45) (a:Int) (A2:Option Addr) (c2:Nat) (l2:List Int) (w:World)
 (h0:Kd.C (Kd.int .u8) w A0 l0.length l0) (hc0:l0.length ≤ c0) (h1:Kd.C k45 w A1 l1.length l1) (hc1:l1.length ≤ c1) (h2:Kd.C (Kd.int .u8) w A2 l2.length l2) (hc2:l2.length ≤ c2) (Hv:Hid (validB l0 l1=false)) :
  Calls Try.prog 21 #[.agg #[.slice A0 l0.length c0,.slice A1 l1.length c1],.int .i64 a,.slice A2 l2.length c2] w fun e w'=>e=.returned (.tuple #[.agg #[.slice none 0 0,.slice none 0 0],.int .i64 1])∧Below w.heap.size w w':=by
 have hu25:=Try.underlying25
 have hu22:=Try.underlying22
 go_enter Try.func21,Try.ntmps21
 go_wp2_with (first|((with_reducible refine gate_dst (N:=3) rfl ?_);(refine box_event ?hg (N:=3) ?hd (cs:=#[.slice A0 l0.length c0,.slice A1 l1.length c1]) (t:=25) ?hr ?_);(case hd=>rfl);(case hg=>rfl);(case hr=>first|(go_simp;done)|(go_simp;rfl));intro g hg w1 hb1 hB1;have HB1:=Lib.hid hB1;have Hb1:=Lib.hid hb1;clear hB1 hb1 hg)|((with_reducible refine gate_dst (N:=6) rfl ?_);(refine box_event ?hg (N:=6) ?hd (cs:=#[.slice none 0 0,.slice none 0 0]) (t:=25) ?hr ?_);(case hd=>rfl);(case hg=>rfl);(case hr=>first|(go_simp;done)|(go_simp;rfl));intro g2 hg2 w2 hb2 hB2;have hq2:=(blk_cell (blk_below Hb1.out hB2) 0).trans rfl;have hq3:=(blk_cell (blk_below Hb1.out hB2) 1).trans rfl;have Hgs:Hid (w.heap.size ≤ g2):=(Lib.hid (by rw [hg2];exact HB1.out.size));have HB2:=Lib.hid (below_then HB1.out HB1.out.size hB2);have Hb2:=Lib.hid hb2;have Hb1':=Lib.hid (blk_below Hb1.out hB2);clear hB2 hb2 Hb1 hg2)|(go_at_call 43;refine (disk_isValid_calls A0 c0 l0 A1 c1 l1 w2 (Kd.C_below h0 HB2.out) hc0 (Kd.C_below h1 HB2.out) hc1).mono ?_;rintro e w3 ⟨rfl,hb3⟩;rw [Hv.out];have hq6:=(blk_cell (blk_below Hb1'.out hb3) 0).trans rfl;have hq7:=(blk_cell (blk_below Hb1'.out hb3) 1).trans rfl;have hq8:=(blk_cell (blk_below Hb2.out hb3) 0).trans rfl;have hq9:=(blk_cell (blk_below Hb2.out hb3) 1).trans rfl;have hf8:=blk_frozen (blk_below Hb2.out hb3) 0;have hf9:=blk_frozen (blk_below Hb2.out hb3) 1;have HB3:=Lib.hid (below_then HB2.out HB2.out.size hb3);have Hb3:=Lib.hid (blk_below Hb1'.out hb3);have Hbr:=Lib.hid (blk_below Hb2.out hb3);clear hb3 Hb1' Hb2 hq2 hq3) )
 obtain ⟨w9,hw9⟩:∃ w9,w9=((w3.setCell ⟨g2,0,none⟩ (.slice none 0 0)).setCell ⟨g2,1,none⟩ (.slice none 0 0)):=⟨_,rfl⟩
 have hr2:=two_cells Hbr.out (.slice none 0 0) (.slice none 0 0)
 rw [← hw9] at hr2 ⊢
 have hb9:Below w.heap.size w w9:=by
  rw [hw9]
  exact (HB3.out.setCell (p:=⟨g2,0,none⟩) Hgs.out _).setCell (p:=⟨g2,1,none⟩) Hgs.out _
 clear hw9 hq6 hq7 hq8 hq9 hf8 hf9
 have k1:w9.cell? ⟨g2,0,none⟩=some (.slice none 0 0):=(blk_cell hr2 0).trans rfl
 have k2:w9.cell? ⟨g2,1,none⟩=some (.slice none 0 0):=(blk_cell hr2 1).trans rfl
 exact bodyPost_ret (v:=.tuple #[.agg #[.slice none 0 0,.slice none 0 0],.int .i64 1]) (by simp [results,Try.results21,go_sem,k1,k2]) rfl ⟨rfl,hb9⟩
set_option maxHeartbeats 800000 in
theorem disk_Write_e2 (A0:Option Addr) (c0:Nat) (l0:List Int) (A1:Option Addr) (c1:Nat) (l1:List S45) (a:Int) (A2:Option Addr) (c2:Nat) (l2:List Int) (w:World)
 (h0:Kd.C (Kd.int .u8) w A0 l0.length l0) (hc0:l0.length ≤ c0) (h1:Kd.C k45 w A1 l1.length l1) (hc1:l1.length ≤ c1) (h2:Kd.C (Kd.int .u8) w A2 l2.length l2) (hc2:l2.length ≤ c2) (Hv:Hid (validB l0 l1=true)) (Hp:Hid (isPartB l0.length a l2.length=false)) :
  Calls Try.prog 21 #[.agg #[.slice A0 l0.length c0,.slice A1 l1.length c1],.int .i64 a,.slice A2 l2.length c2] w fun e w'=>e=.returned (.tuple #[.agg #[.slice none 0 0,.slice none 0 0],.int .i64 1])∧Below w.heap.size w w':=by
 have hu25:=Try.underlying25
 have hu22:=Try.underlying22
 go_enter Try.func21,Try.ntmps21
 go_wp2_with (first|((with_reducible refine gate_dst (N:=3) rfl ?_);(refine box_event ?hg (N:=3) ?hd (cs:=#[.slice A0 l0.length c0,.slice A1 l1.length c1]) (t:=25) ?hr ?_);(case hd=>rfl);(case hg=>rfl);(case hr=>first|(go_simp;done)|(go_simp;rfl));intro g hg w1 hb1 hB1;have HB1:=Lib.hid hB1;have Hb1:=Lib.hid hb1;clear hB1 hb1 hg)|((with_reducible refine gate_dst (N:=6) rfl ?_);(refine box_event ?hg (N:=6) ?hd (cs:=#[.slice none 0 0,.slice none 0 0]) (t:=25) ?hr ?_);(case hd=>rfl);(case hg=>rfl);(case hr=>first|(go_simp;done)|(go_simp;rfl));intro g2 hg2 w2 hb2 hB2;have hq2:=(blk_cell (blk_below Hb1.out hB2) 0).trans rfl;have hq3:=(blk_cell (blk_below Hb1.out hB2) 1).trans rfl;have Hgs:Hid (w.heap.size ≤ g2):=(Lib.hid (by rw [hg2];exact HB1.out.size));have HB2:=Lib.hid (below_then HB1.out HB1.out.size hB2);have Hb2:=Lib.hid hb2;have Hb1':=Lib.hid (blk_below Hb1.out hB2);clear hB2 hb2 Hb1 hg2)|(go_at_call 43;refine (disk_isValid_calls A0 c0 l0 A1 c1 l1 w2 (Kd.C_below h0 HB2.out) hc0 (Kd.C_below h1 HB2.out) hc1).mono ?_;rintro e w3 ⟨rfl,hb3⟩;rw [Hv.out];have hq6:=(blk_cell (blk_below Hb1'.out hb3) 0).trans rfl;have hq7:=(blk_cell (blk_below Hb1'.out hb3) 1).trans rfl;have hq8:=(blk_cell (blk_below Hb2.out hb3) 0).trans rfl;have hq9:=(blk_cell (blk_below Hb2.out hb3) 1).trans rfl;have hf8:=blk_frozen (blk_below Hb2.out hb3) 0;have hf9:=blk_frozen (blk_below Hb2.out hb3) 1;have HB3:=Lib.hid (below_then HB2.out HB2.out.size hb3);have Hb3:=Lib.hid (blk_below Hb1'.out hb3);have Hbr:=Lib.hid (blk_below Hb2.out hb3);clear hb3 Hb1' Hb2 hq2 hq3)|(go_at_call 44;have hl:=((validB_iff l0 l1).1 Hv.out).1;refine (disk_isPart.calls _ _ l0 _ _ l1 a l2.length _ _ (Kd.C_below h0 HB3.out) hc0 (Kd.C_below h1 HB3.out) hc1 (isPart_f l0 l1 a l2.length (by unfold maxLen;omega))).mono ?_;rintro e w4 ⟨rfl,hb4⟩;rw [Hp.out];clear hq6 hq7 hq8 hq9 hf8 hf9;have hq6:=(blk_cell (blk_below Hb3.out hb4) 0).trans rfl;have hq7:=(blk_cell (blk_below Hb3.out hb4) 1).trans rfl;have hq8:=(blk_cell (blk_below Hbr.out hb4) 0).trans rfl;have hq9:=(blk_cell (blk_below Hbr.out hb4) 1).trans rfl;have hf8:=blk_frozen (blk_below Hbr.out hb4) 0;have hf9:=blk_frozen (blk_below Hbr.out hb4) 1;have HB4:=Lib.hid (below_then HB3.out HB3.out.size hb4);have Hbr':=Lib.hid (blk_below Hbr.out hb4);clear hb4 hl) )
 obtain ⟨w9,hw9⟩:∃ w9,w9=((w4.setCell ⟨g2,0,none⟩ (.slice none 0 0)).setCell ⟨g2,1,none⟩ (.slice none 0 0)):=⟨_,rfl⟩
 have hr2:=two_cells Hbr'.out (.slice none 0 0) (.slice none 0 0)
 rw [← hw9] at hr2 ⊢
 have hb9:Below w.heap.size w w9:=by
  rw [hw9]
  exact (HB4.out.setCell (p:=⟨g2,0,none⟩) Hgs.out _).setCell (p:=⟨g2,1,none⟩) Hgs.out _
 clear hw9 hq6 hq7 hq8 hq9 hf8 hf9
 have k1:w9.cell? ⟨g2,0,none⟩=some (.slice none 0 0):=(blk_cell hr2 0).trans rfl
 have k2:w9.cell? ⟨g2,1,none⟩=some (.slice none 0 0):=(blk_cell hr2 1).trans rfl
 exact bodyPost_ret (v:=.tuple #[.agg #[.slice none 0 0,.slice none 0 0],.int .i64 1]) (by simp [results,Try.results21,go_sem,k1,k2]) rfl ⟨rfl,hb9⟩
set_option maxHeartbeats 800000 in
theorem disk_Write_e64 (A0:Option Addr) (c0:Nat) (l0:List Int) (A1:Option Addr) (c1:Nat) (l1:List S45) (a:Int) (A2:Option Addr) (c2:Nat) (l2:List Int) (w:World)
 (h0:Kd.C (Kd.int .u8) w A0 l0.length l0) (hc0:l0.length ≤ c0) (h1:Kd.C k45 w A1 l1.length l1) (hc1:l1.length ≤ c1) (h2:Kd.C (Kd.int .u8) w A2 l2.length l2) (hc2:l2.length ≤ c2) (Hv:Hid (validB l0 l1=true)) (Hp:Hid (isPartB l0.length a l2.length=true)) (h64:l1.length=64) :
  Calls Try.prog 21 #[.agg #[.slice A0 l0.length c0,.slice A1 l1.length c1],.int .i64 a,.slice A2 l2.length c2] w fun e w'=>e=.returned (.tuple #[.agg #[.slice none 0 0,.slice none 0 0],.int .i64 2])∧Below w.heap.size w w':=by
 have hu25:=Try.underlying25
 have hu22:=Try.underlying22
 have e1:((l1.length:Int) == 64)=true:=by rw [beq_iff_eq];omega
 clear h64
 go_enter Try.func21,Try.ntmps21
 go_wp2_with (first|((with_reducible refine gate_dst (N:=3) rfl ?_);(refine box_event ?hg (N:=3) ?hd (cs:=#[.slice A0 l0.length c0,.slice A1 l1.length c1]) (t:=25) ?hr ?_);(case hd=>rfl);(case hg=>rfl);(case hr=>first|(go_simp;done)|(go_simp;rfl));intro g hg w1 hb1 hB1;have HB1:=Lib.hid hB1;have Hb1:=Lib.hid hb1;clear hB1 hb1 hg)|((with_reducible refine gate_dst (N:=6) rfl ?_);(refine box_event ?hg (N:=6) ?hd (cs:=#[.slice none 0 0,.slice none 0 0]) (t:=25) ?hr ?_);(case hd=>rfl);(case hg=>rfl);(case hr=>first|(go_simp;done)|(go_simp;rfl));intro g2 hg2 w2 hb2 hB2;have hq2:=(blk_cell (blk_below Hb1.out hB2) 0).trans rfl;have hq3:=(blk_cell (blk_below Hb1.out hB2) 1).trans rfl;have Hgs:Hid (w.heap.size ≤ g2):=(Lib.hid (by rw [hg2];exact HB1.out.size));have HB2:=Lib.hid (below_then HB1.out HB1.out.size hB2);have Hb2:=Lib.hid hb2;have Hb1':=Lib.hid (blk_below Hb1.out hB2);clear hB2 hb2 Hb1 hg2)|(go_at_call 43;refine (disk_isValid_calls A0 c0 l0 A1 c1 l1 w2 (Kd.C_below h0 HB2.out) hc0 (Kd.C_below h1 HB2.out) hc1).mono ?_;rintro e w3 ⟨rfl,hb3⟩;rw [Hv.out];have hq6:=(blk_cell (blk_below Hb1'.out hb3) 0).trans rfl;have hq7:=(blk_cell (blk_below Hb1'.out hb3) 1).trans rfl;have hq8:=(blk_cell (blk_below Hb2.out hb3) 0).trans rfl;have hq9:=(blk_cell (blk_below Hb2.out hb3) 1).trans rfl;have hf8:=blk_frozen (blk_below Hb2.out hb3) 0;have hf9:=blk_frozen (blk_below Hb2.out hb3) 1;have HB3:=Lib.hid (below_then HB2.out HB2.out.size hb3);have Hb3:=Lib.hid (blk_below Hb1'.out hb3);have Hbr:=Lib.hid (blk_below Hb2.out hb3);clear hb3 Hb1' Hb2 hq2 hq3)|(go_at_call 44;have hl:=((validB_iff l0 l1).1 Hv.out).1;refine (disk_isPart.calls _ _ l0 _ _ l1 a l2.length _ _ (Kd.C_below h0 HB3.out) hc0 (Kd.C_below h1 HB3.out) hc1 (isPart_f l0 l1 a l2.length (by unfold maxLen;omega))).mono ?_;rintro e w4 ⟨rfl,hb4⟩;rw [Hp.out];clear hq6 hq7 hq8 hq9 hf8 hf9;have hq6:=(blk_cell (blk_below Hb3.out hb4) 0).trans rfl;have hq7:=(blk_cell (blk_below Hb3.out hb4) 1).trans rfl;have hq8:=(blk_cell (blk_below Hbr.out hb4) 0).trans rfl;have hq9:=(blk_cell (blk_below Hbr.out hb4) 1).trans rfl;have hf8:=blk_frozen (blk_below Hbr.out hb4) 0;have hf9:=blk_frozen (blk_below Hbr.out hb4) 1;have HB4:=Lib.hid (below_then HB3.out HB3.out.size hb4);have Hbr':=Lib.hid (blk_below Hbr.out hb4);clear hb4 hl) )
 obtain ⟨w9,hw9⟩:∃ w9,w9=((w4.setCell ⟨g2,0,none⟩ (.slice none 0 0)).setCell ⟨g2,1,none⟩ (.slice none 0 0)):=⟨_,rfl⟩
 have hr2:=two_cells Hbr'.out (.slice none 0 0) (.slice none 0 0)
 rw [← hw9] at hr2 ⊢
 have hb9:Below w.heap.size w w9:=by
  rw [hw9]
  exact (HB4.out.setCell (p:=⟨g2,0,none⟩) Hgs.out _).setCell (p:=⟨g2,1,none⟩) Hgs.out _
 clear hw9 hq6 hq7 hq8 hq9 hf8 hf9
 have k1:w9.cell? ⟨g2,0,none⟩=some (.slice none 0 0):=(blk_cell hr2 0).trans rfl
 have k2:w9.cell? ⟨g2,1,none⟩=some (.slice none 0 0):=(blk_cell hr2 1).trans rfl
 exact bodyPost_ret (v:=.tuple #[.agg #[.slice none 0 0,.slice none 0 0],.int .i64 2]) (by simp [results,Try.results21,go_sem,k1,k2]) rfl ⟨rfl,hb9⟩
end Go.Proofs.Ytfpdmlhknddffaa.Dk
end
section
namespace Go.Proofs.Ytfpdmlhknddffaa.Dk
open Go.RowKit Go.Proofs.YtfpdmlhknddffaaW.PrintWords Go.Proofs.YtfpdmlhknddffaaW.PrintLast Go.Proofs.YtfpdmlhknddffaaW.PrintMore
set_option linter.unusedVariables false
set_option linter.unusedSimpArgs false
theorem C_inner {α:Type} {d:Kd α} {w:World} {A:Option Addr} {xs:List α} (h:d.C w A xs.length xs):∃ inner,Reps (d.K w) d.sz xs inner∧inner.length=xs.length * d.sz∧(∀ b,A=some b→∀ j u,inner[j]? = some u→w.cell? (b.add j)=some u)∧(A=none→xs=[]):=by
 cases A with
 | none =>
  have hz:xs=[]:=by
   rcases Nat.eq_zero_or_pos xs.length with h0|h0
   · exact List.length_eq_zero_iff.1 h0
   · obtain ⟨ad,he,_⟩:=h.2.2 h0
     cases he
  subst hz
  exact ⟨[],Reps.none _ _,by simp,(fun _ hb=>by cases hb),fun _=>rfl⟩
 | some ad =>
  obtain ⟨inner,hr,hc⟩:=ReadsRow.inner_ h
  exact ⟨inner,hr,hr.1,(fun b hb=>by cases hb;exact hc),(fun hb=>by cases hb)⟩
theorem at45 {w w1:World} {g cap:Nat} {xs:List S45} {inner:List Value} (hown:w.ownsRow 0 45 2 (.slice (some ⟨g,0,none⟩) xs.length cap) xs.length inner) (hr:Reps (k45.K w1) 2 xs inner) (i:Nat) (hi:i < xs.length) :
 ∃ A1 c1,w.cell? ⟨g,i * 2,none⟩=some (.int .i64 (xs[i]).f0)∧w.cell? ⟨g,i * 2 + 1,none⟩=some (.slice A1 (xs[i]).f1.length c1)∧(xs[i]).f1.length ≤ c1∧(Kd.int .u8).C w1 A1 (xs[i]).f1.length (xs[i]).f1:=by
 have hK:=hr.2 i _ (List.getElem?_eq_getElem hi)
 obtain ⟨A1,c1,e,l1,g1⟩:=k45_open hK
 obtain ⟨hl,h2⟩:=hown
 rcases h2 with ⟨h3,_⟩|⟨g',cap',cur,h3,h4,h5,h6,h7,h8,h9⟩
 · cases h3
 · injection h3 with e1 _ e3
   injection e1 with e1
   injection e1 with e1
   subst e1
   have hget:∀ j,j < 2→w.cell? ⟨g,i * 2 + j,none⟩=((inner.drop (i * 2)).take 2)[j]?:=by
    intro j hj
    rw [blk_cell h5,List.getElem?_take_of_lt hj,List.getElem?_drop,← h9,List.getElem?_take_of_lt (by omega)]
    simp
   refine ⟨A1,c1,?_,?_,l1,g1⟩
   · have:=hget 0 (by omega)
     rw [e] at this
     exact this
   · have:=hget 1 (by omega)
     rw [e] at this
     exact this
theorem S_any {α:Type} {d:Kd α} {e base:Nat} {w:World} {ok:Nat→Prop} {v:Value} {xs:List α} (h:Kd.S d e w base ok v xs):∃ A n c,v=.slice A n c:=by
 obtain ⟨A,c,e⟩:=Kd.S_slice h
 exact ⟨A,_,c,e⟩
theorem news_cells (w:World) (cs:List Value) (t:TypeId):∀ j u,cs[j]? = some u→(w.alloc (.cells cs.toArray t)).cell? ((⟨w.heap.size,0,none⟩:Addr).add j)=some u:=by
 intro j u hu
 rw [add_at,Nat.zero_add]
 refine (blk_cell (blk_new w _) j).trans ?_
 simpa using hu
theorem own_succ {W:World} {base:Nat} {e:TypeId} {size:Nat} {v:Value} {k:Nat} {xs:List Value} (h:W.ownsRow base e size v (k + 1) xs):∃ g cap,v=.slice (some ⟨g,0,none⟩) (k + 1) cap:=by
 rcases h.2 with ⟨_,h3⟩|⟨g',cap',cur,h3,_⟩
 · omega
 · exact ⟨g',cap',h3⟩
set_option maxHeartbeats 1600000 in
theorem disk_Write_ok (A0:Option Addr) (c0:Nat) (l0:List Int) (A1:Option Addr) (c1:Nat) (l1:List S45) (a:Int) (A2:Option Addr) (c2:Nat) (l2:List Int) (w:World)
 (h0:Kd.C (Kd.int .u8) w A0 l0.length l0) (hc0:l0.length ≤ c0) (h1:Kd.C k45 w A1 l1.length l1) (hc1:l1.length ≤ c1) (h2:Kd.C (Kd.int .u8) w A2 l2.length l2) (hc2:l2.length ≤ c2)
 (Hv:Hid (validB l0 l1=true)) (Hp:Hid (isPartB l0.length a l2.length=true)) (h64:l1.length ≠ 64) :
  Calls Try.prog 21 #[.agg #[.slice A0 l0.length c0,.slice A1 l1.length c1],.int .i64 a,.slice A2 l2.length c2] w fun e w'=>∃ v0 v1:Value,e=.returned (.tuple #[.agg #[v0,v1],.int .i64 0])∧Kd.R (Kd.int .u8) 5 w' w.heap.size (fun _=>True) v0 l0∧Kd.S k45 45 w' w.heap.size (fun k_=>some k_ ≠ v0.ownBlock) v1 (l1 ++ [⟨a,l2⟩])∧Below w.heap.size w w':=by
 have hu25:=Try.underlying25
 have hu22:=Try.underlying22
 have hu23:=Try.underlying23
 have hu45:=Try.underlying45
 obtain ⟨i45,hi45,hz45,hs45,hy45⟩:=info_parts info45
 have hl:=(validB_iff l0 l1).1 Hv.out
 have hp:=(isPartB_iff _ _ _).1 Hp.out
 have hl0:=hl.1
 have hl1:=hl.2.1
 have hl2:l2.length ≤ 65536:=by omega
 have e1:((l1.length:Int) == 64)=false:=by rw [beq_eq_false_iff_ne];omega
 have hl63:l1.length ≤ 63:=by omega
 have hcut:=cut3 (P:=Try.prog) 23 45 hu23 hi45 A1 l1.length c1 (l1.length:Int) (l1.length:Int) (by omega) (by omega) (by omega)
 have Hl:=Lib.hid hl
 clear h64 hl hp
 obtain ⟨inner,hin,hinl,hcell,hnone⟩:=C_inner h1
 have Hin:=Lib.hid hin
 have Hcell:=Lib.hid hcell
 have Hnone:=Lib.hid hnone
 have Hinl:=Lib.hid hinl
 clear hin hcell hnone hinl
 go_enter Try.func21,Try.ntmps21
 go_wp2_with (first|((with_reducible refine gate_dst (N:=3) rfl ?_);(refine box_event ?hg (N:=3) ?hd (cs:=#[.slice A0 l0.length c0,.slice A1 l1.length c1]) (t:=25) ?hr ?_);(case hd=>rfl);(case hg=>rfl);(case hr=>first|(go_simp;done)|(go_simp;rfl));intro g hg w1 hb1 hB1;have HB1:=Lib.hid hB1;have Hb1:=Lib.hid hb1;clear hB1 hb1 hg)|((with_reducible refine gate_dst (N:=6) rfl ?_);(refine box_event ?hg (N:=6) ?hd (cs:=#[.slice none 0 0,.slice none 0 0]) (t:=25) ?hr ?_);(case hd=>rfl);(case hg=>rfl);(case hr=>first|(go_simp;done)|(go_simp;rfl));intro g2 hg2 w2 hb2 hB2;have hq2:=(blk_cell (blk_below Hb1.out hB2) 0).trans rfl;have hq3:=(blk_cell (blk_below Hb1.out hB2) 1).trans rfl;have Hgs:Hid (w.heap.size ≤ g2):=(Lib.hid (by rw [hg2];exact HB1.out.size));have HB2:=Lib.hid (below_then HB1.out HB1.out.size hB2);have Hb2:=Lib.hid hb2;have Hb1':=Lib.hid (blk_below Hb1.out hB2);have Hne12:Hid (g ≠ g2):=(Lib.hid (by have:=blk_lt Hb1.out;omega));clear hB2 hb2 Hb1 hg2)|(go_at_call 43;refine (disk_isValid_calls A0 c0 l0 A1 c1 l1 w2 (Kd.C_below h0 HB2.out) hc0 (Kd.C_below h1 HB2.out) hc1).mono ?_;rintro e w3 ⟨rfl,hb3⟩;rw [Hv.out];have hq6:=(blk_cell (blk_below Hb1'.out hb3) 0).trans rfl;have hq7:=(blk_cell (blk_below Hb1'.out hb3) 1).trans rfl;have HB3:=Lib.hid (below_then HB2.out HB2.out.size hb3);have Hb3:=Lib.hid (blk_below Hb1'.out hb3);have Hbr:=Lib.hid (blk_below Hb2.out hb3);clear hb3 Hb1' Hb2 hq2 hq3)|(go_at_call 44;refine (disk_isPart.calls _ _ l0 _ _ l1 a l2.length _ _ (Kd.C_below h0 HB3.out) hc0 (Kd.C_below h1 HB3.out) hc1 (isPart_f l0 l1 a l2.length (by unfold maxLen;omega))).mono ?_;rintro e w4 ⟨rfl,hb4⟩;rw [Hp.out];clear hq6 hq7;have hq6:=(blk_cell (blk_below Hb3.out hb4) 0).trans rfl;have hq7:=(blk_cell (blk_below Hb3.out hb4) 1).trans rfl;have HB4:=Lib.hid (below_then HB3.out HB3.out.size hb4);have Hbr4:=Lib.hid (blk_below Hbr.out hb4);have Hb4:=Lib.hid (blk_below Hb3.out hb4);clear hb4 Hbr Hb3)|(go_at_call 45;refine (clone_calls A0 c0 l0 w4 (Kd.C_below h0 HB4.out) hc0 (by omega)).mono ?_;rintro e w5 ⟨v5,rfl,hr5,hb5⟩;obtain ⟨A5,cap5,rfl⟩:=Kd.R_slice hr5;clear hq6 hq7;have Hbr5:=Lib.hid (blk_below Hbr4.out hb5);have Hb5:=Lib.hid (blk_below Hb4.out hb5);have HB5:=Lib.hid (below_then HB4.out HB4.out.size hb5);have HR5:=Lib.hid (Kd.R_lower hr5 HB4.out.size);clear hb5 Hbr4 Hb4 hr5)|((with_reducible refine gate_dst (N:=8) rfl ?_);(refine box_event ?hg (N:=8) ?hd (cs:=#[.slice none 0 0,.slice none 0 0]) (t:=25) ?hr ?_);(case hd=>rfl);(case hg=>rfl);(case hr=>first|(go_simp;done)|(go_simp;rfl));intro g8 hg8 w6 hb6 hB6;have hf0:=blk_frozen hb6 0;have hf1:=blk_frozen hb6 1;have hf2:=(blk_cell hb6 0).trans rfl;have hf3:=(blk_cell hb6 1).trans rfl;have Hg8:Hid (w.heap.size ≤ g8):=(Lib.hid (by rw [hg8];exact HB5.out.size));have Hne8:Hid (g ≠ g8):=(Lib.hid (by have:=blk_lt Hb5.out;omega));have Hne28:Hid (g2 ≠ g8):=(Lib.hid (by have:=blk_lt Hbr5.out;omega));have Hb6:=Lib.hid hb6;have Hb61:=Lib.hid (blk_below Hb5.out hB6);have Hb62:=Lib.hid (blk_below Hbr5.out hB6);have HB6:=Lib.hid (below_then HB5.out HB5.out.size hB6);have HR6:=Lib.hid (Kd.R_below HR5.out hB6);clear hb6 hB6 hg8 Hb5 Hbr5)|((with_reducible refine gate_store (t:=25) (p:=8) rfl ?_);refine store_event (w1:=(w6.setCell ⟨g8,0,none⟩ (.slice A5 l0.length cap5)).setCell ⟨g8,1,none⟩ (.slice none 0 0)) rfl (v:=.tmp 31) rfl rfl ?hrun ?_;(case hrun=>first|(go_simp;done)|(go_simp;rfl));intro w7 hw7;have Hb7:Hid (w7.heap[g8]? = some (.cells #[.slice A5 l0.length cap5,.slice none 0 0] 25 (0,0))):=(Lib.hid (by rw [hw7];exact two_cells Hb6.out _ _));have Hb71:Hid (w7.heap[g]? = some (.cells #[.slice A0 l0.length c0,.slice A1 l1.length c1] 25 (0,0))):=(Lib.hid (by rw [hw7];exact blk_far (blk_far Hb61.out Hne8.out _) Hne8.out _));have Hb72:Hid (w7.heap[g2]? = some (.cells #[.slice none 0 0,.slice none 0 0] 25 (0,0))):=(Lib.hid (by rw [hw7];exact blk_far (blk_far Hb62.out Hne28.out _) Hne28.out _));have HB7:Hid (Below w.heap.size w w7):=(Lib.hid (by rw [hw7];exact (HB6.out.setCell (p:=⟨g8,0,none⟩) Hg8.out _).setCell (p:=⟨g8,1,none⟩) Hg8.out _));have HR7:Hid (Kd.R (Kd.int .u8) 5 w7 w.heap.size (fun _=>True) (.slice A5 l0.length cap5) l0):=(Lib.hid (by rw [hw7];exact Kd.R_set (Kd.R_set HR6.out Hb6.out (by decide) 0 _) (blk_put Hb6.out 0 _ rfl) (by decide) 1 _));have hq6:=(blk_cell Hb71.out 0).trans rfl;have hq7:=(blk_cell Hb71.out 1).trans rfl;clear hw7 hf0 hf1 hf2 hf3 Hb6 Hb61 Hb62 HR6)|((with_reducible refine gate_dst (N:=45) rfl ?_);refine wpList_append_grows (P:=Try.prog) _ rfl (.tmp 40) (.tmp 44) 23 rfl 45 i45 _ 2 32 hu23 hi45 hz45 hs45 hy45 rfl (by decide) A1 l1.length l1.length inner rfl ?hnn Hinl.out ?hcc ⟨w7.heap.size,0,none⟩ 1 1 [.int .i64 a,.slice A2 l2.length c2] rfl rfl ?hnw ?h1c (by omega) (by unfold maxLen;omega) (by omega) ?_;(case hnn=>intro h;have:=Hnone.out h;subst this;exact ⟨rfl,rfl⟩);(case hcc=>intro b hb j u hu;exact (pw_cell_below (below_alloc HB7.out _) (Hcell.out b hb j u hu)));(case hnw=>exact news_cells w7 [.int .i64 a,.slice A2 l2.length c2] 45);(case h1c=>simp [Value.oneCell']);intro v8 w8 hown8 hg8w;obtain ⟨g9,cap9,rfl⟩:=own_succ hown8;have Hown8:=Lib.hid (own_weaken hown8 (Nat.zero_le _));have Hb8:=Lib.hid (blk_grown (blk_alloc Hb7.out _) hg8w (by simp));have Hb82:=Lib.hid (blk_grown (blk_alloc Hb72.out _) hg8w (by simp));have HB8:=Lib.hid (pw_below_grown (below_alloc HB7.out _) none (below_size (below_alloc HB7.out _)) hg8w (by intro k hk;cases hk));have HR8:=Lib.hid (Kd.R_grown (Kd.R_alloc HR7.out _) hg8w (by intro k hk;simp));clear hown8 hg8w hq6 hq7) )
 obtain ⟨L,hL⟩:∃ L,L=l1 ++ [(⟨a,l2⟩:S45)]:=⟨_,rfl⟩
 have hLl:L.length=l1.length + 1:=by rw [hL];simp
 have hReps:Reps (k45.K w) 2 L (inner ++ [.int .i64 a,.slice A2 l2.length c2]):=by
  rw [hL]
  exact Reps.snoc Hin.out (k45_mk w ⟨a,l2⟩ hc2 h2) rfl
 rw [← hLl] at Hown8 ⊢
 have HReps:=Lib.hid hReps
 have HL:=Lib.hid hL
 clear hReps hL hcut
 have hL64:L.length ≤ 64:=by omega
 have hLx:∀ x ∈ L,x.f1.length ≤ 65536:=by
  intro x hx
  rw [HL.out] at hx
  rcases List.mem_append.1 hx with h|h
  · have:=Hl.out.2.2 x h
    omega
  · rw [List.mem_singleton.1 h]
    exact hl2
 have HLx:=Lib.hid hLx
 clear hLx
 obtain ⟨V5,hV5⟩:∃ V5:Value,V5=.slice A5 l0.length cap5:=⟨_,rfl⟩
 have HV5:=Lib.hid hV5
 rw [← hV5] at HR8 Hb8
 have hVblk:∀ k,V5.ownBlock=some k→k < w8.heap.size:=Kd.R_lt HR8.out
 have HVblk:=Lib.hid hVblk
 clear hV5 hVblk
 have hg9:g9 < w8.heap.size∧g9 ≠ g8:=by
  obtain ⟨cells,hc⟩:=own_typed Hown8.out g9 (by simp [Value.ownBlock])
  exact ⟨blk_lt hc,blk_ne hc Hb8.out (by decide)⟩
 have Hg9:=Lib.hid hg9
 clear hg9
 go_loopg [47] L.length (fun k v47 wr=>∃ (i:Nat) (u:Value),i ≤ L.length∧k=L.length - i∧v47=.int .i64 i∧Hid (Kd.S k45 45 wr w8.heap.size (fun k_=>some k_ ≠ V5.ownBlock) u (L.take i))∧Hid (Kd.R (Kd.int .u8) 5 wr w.heap.size (fun _=>True) V5 l0)
  ∧ Hid (wr.heap[g8]? = some (.cells #[V5,u] 25 (0,0)))∧Hid (wr.heap[g2]? = some (.cells #[.slice none 0 0,.slice none 0 0] 25 (0,0)))∧Hid (wr.ownsRow 0 45 2 (.slice (some ⟨g9,0,none⟩) L.length cap9) L.length (inner ++ [.int .i64 a,.slice A2 l2.length c2]))∧Hid (Below w.heap.size w wr)∧w8.heap.size ≤ wr.heap.size)
 case atStart=>exact ⟨0,.slice none 0 0,by omega,by omega,rfl,Lib.hid (Kd.S_nil _ _ _ _ _),HR8,Hb8,Hb82,Hown8,HB8,Nat.le_refl _⟩
 case round =>
  obtain ⟨i,u,hi,rfl,rfl,HS,HRr,Hb8r,Hb2r,Hownr,HBr,hszr⟩:=hrel
  by_cases hlt:i < L.length
  · obtain ⟨A3,c3,q0,q1,q2,q3⟩:=at45 Hownr.out HReps.out i hlt
    obtain ⟨xi,hxi⟩:∃ xi,xi=L[i]:=⟨_,rfl⟩
    have hxm:xi ∈ L:=by rw [hxi];exact List.getElem_mem _
    have hxv:=HLx.out xi hxm
    rw [← hxi] at q0 q1 q2 q3
    have Hxi:=Lib.hid hxi
    clear hxi hxm
    obtain ⟨f0,f1⟩:=xi
    dsimp only at q0 q1 q2 q3 hxv
    go_wp2_with (fail)
    obtain ⟨wb,hwb⟩:∃ wb,wb=wr.alloc (.cells #[.int .i64 f0,.slice A3 f1.length c3] 45):=⟨_,rfl⟩
    rw [← hwb]
    have hbb:Below wr.heap.size wr wb:=by rw [hwb];exact below_alloc (Below.refl _ _) _
    obtain ⟨b10,hb10⟩:∃ b10,b10=wr.heap.size:=⟨_,rfl⟩
    have hblk:wb.heap[b10]? = some (.cells #[.int .i64 f0,.slice A3 f1.length c3] 45 (0,0)):=by rw [hwb,hb10];exact blk_new _ _
    have hszb:w8.heap.size ≤ wb.heap.size:=Nat.le_trans hszr hbb.size
    have hb10s:w8.heap.size ≤ b10:=by rw [hb10];exact hszr
    rw [← hb10]
    have Sb:=Lib.hid (Kd.S_below HS.out hbb)
    have Rb:=Lib.hid (Kd.R_below HRr.out hbb)
    have B8b:=Lib.hid (blk_below Hb8r.out hbb)
    have B2b:=Lib.hid (blk_below Hb2r.out hbb)
    have Ownb:=Lib.hid (pw_own_below Hownr.out hbb)
    have HBb:=Lib.hid (below_then HBr.out HBr.out.size hbb)
    have Hblk:=Lib.hid hblk
    have k1:wb.cell? ⟨g8,1,none⟩=some u:=(blk_cell B8b.out 1).trans rfl
    have k2:wb.cell? ⟨b10,0,none⟩=some (.int .i64 f0):=(blk_cell Hblk.out 0).trans rfl
    have k3:wb.cell? ⟨b10,1,none⟩=some (.slice A3 f1.length c3):=(blk_cell Hblk.out 1).trans rfl
    have hne8:g8 ≠ b10:=by rw [hb10];exact Nat.ne_of_lt (blk_lt Hb8r.out)
    have Hne8b:=Lib.hid hne8
    have hgl:i < 64:=by omega
    have hg8l:g8 < w8.heap.size:=blk_lt Hb8.out
    have Hg8l:=Lib.hid hg8l
    have Hsb:=Lib.hid hszb
    clear hwb hbb hblk hb10 hszb q0 q1 hne8 HS HRr Hb8r Hb2r Hownr HBr hszr hg8l
    refine start_ (n:=12) (S:=fun w'=>w'.cell? ⟨g8,1,none⟩=some u∧w'.cell? ⟨b10,0,none⟩=some (.int .i64 f0)∧w'.cell? ⟨b10,1,none⟩=some (.slice A3 f1.length c3)) (ds:=[9,11]) #[false,false,false,false,false,false,false,false,false,false,false,false] (by kernel_rfl) rfl rfl ⟨k1,k2,k3⟩ ?_
    intro hHeld
    refine pure_ (i:=0) (N:=some 51) (v:=?_) (a':=?_) #[true,false,false,false,false,false,false,false,false,false,false,false] rfl rfl (by kernel_rfl) (fun _ _ _ h=>h) (Or.inl ⟨by rfl,?_⟩) ?_ ?_
    rotate_left
    · intro w'
      go_simp
      try (with_reducible rfl)
    rotate_left
    · simp only [Act.put,List.setIfInBounds_toArray,List.set_cons_zero,List.set_cons_succ]
      rfl
    refine pure_ (i:=2) (N:=some 53) (v:=?_) (a':=?_) #[true,false,true,false,false,false,false,false,false,false,false,false] rfl rfl (by kernel_rfl) (fun _ _ _ h=>h) (Or.inl ⟨by rfl,?_⟩) ?_ ?_
    rotate_left
    · intro w'
      go_simp
      try (with_reducible rfl)
    rotate_left
    · simp only [Act.put,List.setIfInBounds_toArray,List.set_cons_zero,List.set_cons_succ]
      rfl
    refine pure_ (i:=4) (N:=some 55) (v:=?_) (a':=?_) #[true,false,true,false,true,false,false,false,false,false,false,false] rfl rfl (by kernel_rfl) (fun _ _ _ h=>h) (Or.inl ⟨by rfl,?_⟩) ?_ ?_
    rotate_left
    · intro w'
      go_simp
      try (with_reducible rfl)
    rotate_left
    · simp only [Act.put,List.setIfInBounds_toArray,List.set_cons_zero,List.set_cons_succ]
      rfl
    refine take_ (i:=1) (N:=some 52) (v:=?_) (a':=?_) #[true,true,true,false,true,false,false,false,false,false,false,false] rfl rfl (by kernel_rfl) (fun _ _ _ h=>h) (Or.inl ⟨by rfl,?_⟩) hHeld ?_ ?_
    rotate_left
    · rintro w' ⟨s0,s1,s2⟩
      go_simp
      with_reducible rfl
    rotate_left
    · simp only [Act.put,List.setIfInBounds_toArray,List.set_cons_zero,List.set_cons_succ]
      rfl
    refine take_ (i:=3) (N:=some 54) (v:=?_) (a':=?_) #[true,true,true,true,true,false,false,false,false,false,false,false] rfl rfl (by kernel_rfl) (fun _ _ _ h=>h) (Or.inl ⟨by rfl,?_⟩) hHeld ?_ ?_
    rotate_left
    · rintro w' ⟨s0,s1,s2⟩
      go_simp
      with_reducible rfl
    rotate_left
    · simp only [Act.put,List.setIfInBounds_toArray,List.set_cons_zero,List.set_cons_succ]
      rfl
    refine take_ (i:=5) (N:=some 56) (v:=?_) (a':=?_) #[true,true,true,true,true,true,false,false,false,false,false,false] rfl rfl (by kernel_rfl) (fun _ _ _ h=>h) (Or.inl ⟨by rfl,?_⟩) hHeld ?_ ?_
    rotate_left
    · rintro w' ⟨s0,s1,s2⟩
      go_simp
      with_reducible rfl
    rotate_left
    · simp only [Act.put,List.setIfInBounds_toArray,List.set_cons_zero,List.set_cons_succ]
      rfl
    refine one_ (i:=6) (N:=some 57) #[true,true,true,true,true,true,true,false,false,false,false,false] rfl rfl (by kernel_rfl) (by decide) (fun K hK => ?_)
    refine goes_ Try.func45 (by kernel_rfl) rfl #[.slice A3 f1.length c3] (by rfl) rfl rfl (by (try simp only [List.map_toArray,List.map_cons,List.map_nil]);first|done|rfl) ?_
    refine (clone_calls A3 c3 f1 _ (Kd.C_drew (Kd.C_below q3 HBb.out)) q2 (by omega)).mono ?_
    rintro e w10 ⟨v10,rfl,hr10,hbx⟩
    obtain ⟨A10,cap10,rfl⟩:=Kd.R_slice hr10
    have hbw:Below wb.heap.size wb w10:=below_then (below_drew (Below.refl _ _)) (Nat.le_refl _) hbx
    have k4:=pw_cell_below hbw k1
    have k5:=pw_cell_below hbw k2
    have k6:=pw_cell_below hbw k3
    have S10:=Lib.hid (Kd.S_mono (Kd.S_below (Kd.S_bound Sb.out) hbw) (ok':=fun k=>(some k ≠ V5.ownBlock)∧¬ (wb.heap.size ≤ k)) (fun k hk=>⟨hk.1,Nat.not_le_of_lt hk.2.2.1⟩))
    have Slt:=Lib.hid (Kd.S_lt Sb.out)
    have R10:=Lib.hid (Kd.R_below Rb.out hbw)
    have B810:=Lib.hid (blk_below B8b.out hbw)
    have B210:=Lib.hid (blk_below B2b.out hbw)
    have Own10:=Lib.hid (pw_own_below Ownb.out hbw)
    have HB10:=Lib.hid (below_then HBb.out HBb.out.size hbw)
    have Hv10:=Lib.hid (Kd.R_lower (Kd.R_mono (Kd.R_bound hr10) (ok':=fun k=>wb.heap.size ≤ k) (fun k hk=>hk.2.1)) Hsb.out)
    have Hsz10:=Lib.hid (Nat.le_trans Hsb.out hbw.size)
    have Hszb10:=Lib.hid hbw.size
    clear hr10 hbx hbw
    refine ⟨_,rfl,?_⟩
    refine hK.out _ _ ⟨k4,k5,k6⟩ (fun hHeld => ?_)
    clear hK K
    refine norm_ (a':=?_) ?_ ?_
    rotate_left
    · show Act.put _ (some 57) _=_
      simp only [Act.put,List.setIfInBounds_toArray,List.set_cons_zero,List.set_cons_succ]
      rfl
    refine pure_ (i:=7) (N:=some 58) (v:=?_) (a':=?_) #[true,true,true,true,true,true,true,true,false,false,false,false] rfl rfl (by kernel_rfl) (fun _ _ _ h=>h) (Or.inl ⟨by rfl,?_⟩) ?_ ?_
    rotate_left
    · intro w'
      go_simp
      try (with_reducible rfl)
    rotate_left
    · simp only [Act.put,List.setIfInBounds_toArray,List.set_cons_zero,List.set_cons_succ]
      rfl
    refine one_ (i:=8) (N:=some 59) #[true,true,true,true,true,true,true,true,true,false,false,false] rfl rfl (by kernel_rfl) (by decide) (fun K hK => ?_)
    refine value_ (w1:=?_) (v:=?_) (by rfl) rfl ?_ ?_
    rotate_left 2
    · go_simp
      constructor
      · rfl
      · rfl
    refine hK.out _ _ ⟨pw_cell_below (below_alloc (Below.refl _ _) _) k4,pw_cell_below (below_alloc (Below.refl _ _) _) k5,pw_cell_below (below_alloc (Below.refl _ _) _) k6⟩ (fun hHeld => ?_)
    clear hK K
    refine norm_ (a':=?_) ?_ ?_
    rotate_left
    · show Act.put _ (some 59) _=_
      simp only [Act.put,List.setIfInBounds_toArray,List.set_cons_zero,List.set_cons_succ]
      rfl
    refine last_ (i:=9) (N:=some 60) #[true,true,true,true,true,true,true,true,true,true,false,false] rfl rfl (by kernel_rfl) (by decide) (fun K hK => ?_)
    refine Kd.S_append_step k45 (w0:=w10) (W:=w10) w8.heap.size (by rfl) (.tmp 52) (.tmp 59) 23 45 (.agg #[.int .i64 0,.slice none 0 0]) 32 (by rfl) hu23 info45 rfl (by decide) (by decide) u (L.take i) ⟨f0,f1⟩ [.int .i64 f0,.slice A10 f1.length cap10] (fun k_=>some k_ ≠ V5.ownBlock) (fun k_=>wb.heap.size ≤ k_) (by rfl) (by rfl) (k45_mkM w10 _ _ ⟨f0,f1⟩ Hv10.out) ?hok ?hfr S10.out (Below.refl _ _) Hsz10.out ?hlen ?_
    case hok=>exact fun k hk=>⟨fun he=>by have:=HVblk.out k he.symm;have:=Hsb.out;omega,fun he=>by have:=Slt.out k he.symm;omega⟩
    case hfr=>exact fun k hk he=>by have:=HVblk.out k he.symm;have:=Hsz10.out;omega
    case hlen=>simp;omega
    intro u1 w11 hs11 hb11 hg11 hat11
    obtain ⟨A11,n11,cap11,rfl⟩:=S_any hs11
    have Hna:=Lib.hid (Kd.S_ne S10.out B810.out (by decide))
    have B811:=Lib.hid (blk_grown B810.out hg11 Hna.out)
    have B211:=Lib.hid (blk_grown B210.out hg11 (Kd.S_ne S10.out B210.out (by decide)))
    have hz0:=(blk_cell B811.out 0).trans rfl
    have hz1:=(blk_cell B811.out 1).trans rfl
    have hf1:=blk_frozen B811.out 1
    have S11:=Lib.hid hs11
    have R11:=Lib.hid (Kd.R_grown (Kd.R_tight rfl R10.out) hg11 (fun k hk he=>by have:=(Kd.S_R S10.out).1 k he.symm;exact this.1 hk))
    have Own11:=Lib.hid (own_move Own10.out (fun k hk=>hg11.block k (by have:=Hg9.out.1;have:=Hsz10.out;simp [Value.ownBlock] at hk;omega) (fun he=>by have:=Kd.S_base S10.out k he.symm;have:=Hg9.out.1;simp [Value.ownBlock] at hk;omega)))
    have HB11:=Lib.hid (pw_below_grown HB10.out _ HB10.out.size hg11 (fun k hk=>by have:=Kd.S_base S10.out k hk;have:=HB8.out.size;omega))
    have Hsz11:=Lib.hid (Nat.le_trans Hsz10.out hg11.size)
    clear hs11 hb11 hg11 hat11
    refine hK.out _ _ ?_
    clear hK K
    refine norm_ (a':=?_) ?_ ?_
    rotate_left
    · show Act.put _ (some 60) _=_
      simp only [Act.put,List.setIfInBounds_toArray,List.set_cons_zero,List.set_cons_succ]
      rfl
    refine pure_ (i:=10) (N:=some 61) (v:=?_) (a':=?_) #[true,true,true,true,true,true,true,true,true,true,true,false] rfl rfl (by kernel_rfl) (fun _ _ _ h=>h) (Or.inl ⟨by rfl,?_⟩) ?_ ?_
    rotate_left
    · intro w'
      go_simp
      try (with_reducible rfl)
    rotate_left
    · simp only [Act.put,List.setIfInBounds_toArray,List.set_cons_zero,List.set_cons_succ]
      rfl
    refine last_ (i:=11) (N:=none) #[true,true,true,true,true,true,true,true,true,true,true,true] rfl rfl (by kernel_rfl) (by decide) (fun K hK => ?_)
    refine skip_ (w1:=?_) (by rfl) rfl ?_ ?_
    rotate_left
    · go_simp
      rfl
    refine hK.out _ _ ?_
    clear hK K
    refine done_ (by kernel_rfl) ?_
    clear k1 k2 k3 k4 k5 k6 hz0 hz1 hf1
    go_wp2
    go_roundg (L.length - (i + 1))
    case measure=>omega
    case rel =>
     have ht:L.take (i + 1)=L.take i ++ [(⟨f0,f1⟩:S45)]:=by rw [List.take_succ_eq_append_getElem hlt,← Hxi.out]
     refine ⟨i + 1,.slice A11 n11 cap11,by omega,rfl,by go_num,Lib.hid ?_,Lib.hid ?_,Lib.hid ?_,Lib.hid ?_,Lib.hid ?_,Lib.hid ?_,?_⟩
     · rw [ht];exact Kd.S_set S11.out B811.out (by decide) 1 _
     · exact Kd.R_mono (Kd.R_set R11.out B811.out (by decide) 1 _) (fun _ _=>trivial)
     · exact blk_put B811.out 1 _ rfl
     · exact blk_far B211.out Hne28.out _
     · exact own_move Own11.out (fun k hk=>Below.heap_setCell _ _ _ k (by have:=Hg9.out.2;simp [Value.ownBlock] at hk;show k ≠ g8;omega))
     · exact HB11.out.setCell (p:=⟨g8,1,none⟩) Hg8.out _
     · exact Nat.le_trans Hsz11.out (by simp)
  · obtain rfl:i=L.length:=by omega
    obtain ⟨A12,n12,cap12,rfl⟩:=S_any HS.out
    have eV:=HV5.out
    subst eV
    have j1:=(blk_cell Hb8r.out 0).trans rfl
    have j2:=(blk_cell Hb8r.out 1).trans rfl
    have j3:=(blk_cell Hb2r.out 0).trans rfl
    have j4:=(blk_cell Hb2r.out 1).trans rfl
    have j5:=blk_frozen Hb2r.out 0
    have j6:=blk_frozen Hb2r.out 1
    go_wp2
    obtain ⟨w9,hw9⟩:∃ w9,w9=((wr.setCell ⟨g2,0,none⟩ (.slice A5 l0.length cap5)).setCell ⟨g2,1,none⟩ (.slice A12 n12 cap12)):=⟨_,rfl⟩
    rw [← hw9]
    have hr2:=two_cells Hb2r.out (.slice A5 l0.length cap5) (.slice A12 n12 cap12)
    rw [← hw9] at hr2
    have m1:w9.cell? ⟨g2,0,none⟩=some (.slice A5 l0.length cap5):=(blk_cell hr2 0).trans rfl
    have m2:w9.cell? ⟨g2,1,none⟩=some (.slice A12 n12 cap12):=(blk_cell hr2 1).trans rfl
    refine bodyPost_ret (v:=.tuple #[.agg #[.slice A5 l0.length cap5,.slice A12 n12 cap12],.int .i64 0]) (by simp [results,Try.results21,go_sem,m1,m2]) rfl ⟨_,_,rfl,?_,?_,?_⟩
    · rw [hw9]
      exact Kd.R_set (Kd.R_set HRr.out Hb2r.out (by decide) 0 _) (blk_put Hb2r.out 0 _ rfl) (by decide) 1 _
    · have hS:=HS.out
      rw [List.take_length,HL.out] at hS
      rw [hw9]
      exact Kd.S_set (Kd.S_set (Kd.S_lower hS HB8.out.size) Hb2r.out (by decide) 0 _) (blk_put Hb2r.out 0 _ rfl) (by decide) 1 _
    · rw [hw9]
      exact (HBr.out.setCell (p:=⟨g2,0,none⟩) Hgs.out _).setCell (p:=⟨g2,1,none⟩) Hgs.out _
end Go.Proofs.Ytfpdmlhknddffaa.Dk
end
section
namespace Go.Proofs.Ytfpdmlhknddffaa.Dk
open Go.RowKit Go.Proofs.YtfpdmlhknddffaaW.PrintWords Go.Proofs.YtfpdmlhknddffaaW.PrintLast Go.Proofs.YtfpdmlhknddffaaW.PrintMore
set_option linter.unusedVariables false
set_option linter.unusedSimpArgs false
def disk_Write.f (l0_0:List Int) (l0_1:List (S45)) (a1:Int) (l2:List Int):Option (List Int × (List (S45)) × Int):=some (writeF l0_0 l0_1 a1 l2)
theorem disk_Write.calls (A0_0:Option Addr) (c0_0:Nat) (l0_0:List Int) (A0_1:Option Addr) (c0_1:Nat) (l0_1:List (S45)) (a1:Int) (A2:Option Addr) (c2:Nat) (l2:List Int) (r1:List Int) (r2:List (S45)) (r3:Int) (w:World) (hr0_0:Kd.C (Kd.int .u8) w A0_0 l0_0.length l0_0) (hc0_0:l0_0.length ≤ c0_0) (hr0_1:Kd.C k45 w A0_1 l0_1.length l0_1) (hc0_1:l0_1.length ≤ c0_1) (hr2:Kd.C (Kd.int .u8) w A2 l2.length l2) (hc2:l2.length ≤ c2) (h:disk_Write.f l0_0 l0_1 a1 l2=some (r1,r2,r3)) :
 Calls Try.prog 21 #[.agg #[.slice A0_0 l0_0.length c0_0,.slice A0_1 l0_1.length c0_1],.int .i64 a1,.slice A2 l2.length c2] w fun e w'=>∃ v0_ v1_:Value,e=.returned (.tuple #[.agg #[v0_,v1_],.int .i64 r3])∧Kd.R (Kd.int .u8) 5 w' w.heap.size (fun _=>True) v0_ r1∧Kd.S k45 45 w' w.heap.size (fun k_=>some k_ ≠ (v0_:Value).ownBlock) v1_ r2∧Below w.heap.size w w':=by
 unfold disk_Write.f writeF at h
 cases hv:validB l0_0 l0_1
 · rw [hv] at h
   injection h with h
   obtain ⟨rfl,rfl,rfl⟩:=h
   refine (disk_Write_e1 _ _ l0_0 _ _ l0_1 a1 _ _ l2 w hr0_0 hc0_0 hr0_1 hc0_1 hr2 hc2 (Lib.hid hv)).mono ?_
   rintro e w' ⟨rfl,hb⟩
   exact ⟨_,_,rfl,Kd.R_nil _ _ _ _ _,Kd.S_nil _ _ _ _ _,hb⟩
 · cases hp:isPartB l0_0.length a1 l2.length
   · rw [hv,hp] at h
     injection h with h
     obtain ⟨rfl,rfl,rfl⟩:=h
     refine (disk_Write_e2 _ _ l0_0 _ _ l0_1 a1 _ _ l2 w hr0_0 hc0_0 hr0_1 hc0_1 hr2 hc2 (Lib.hid hv) (Lib.hid hp)).mono ?_
     rintro e w' ⟨rfl,hb⟩
     exact ⟨_,_,rfl,Kd.R_nil _ _ _ _ _,Kd.S_nil _ _ _ _ _,hb⟩
   · by_cases h64:l0_1.length=64
     · rw [hv,hp,Bool.and_self,if_pos rfl,if_pos h64] at h
       injection h with h
       obtain ⟨rfl,rfl,rfl⟩:=h
       refine (disk_Write_e64 _ _ l0_0 _ _ l0_1 a1 _ _ l2 w hr0_0 hc0_0 hr0_1 hc0_1 hr2 hc2 (Lib.hid hv) (Lib.hid hp) h64).mono ?_
       rintro e w' ⟨rfl,hb⟩
       exact ⟨_,_,rfl,Kd.R_nil _ _ _ _ _,Kd.S_nil _ _ _ _ _,hb⟩
     · rw [hv,hp,Bool.and_self,if_pos rfl,if_neg h64] at h
       injection h with h
       obtain ⟨rfl,rfl,rfl⟩:=h
       exact disk_Write_ok _ _ l0_0 _ _ l0_1 a1 _ _ l2 w hr0_0 hc0_0 hr0_1 hc0_1 hr2 hc2 (Lib.hid hv) (Lib.hid hp) h64
def disk_Sync.f (l0_0:List Int) (l0_1:List (S45)):Option (List Int × (List (S45))):=some (syncL l0_0 l0_1,[])
theorem disk_Sync.calls (A0_0:Option Addr) (c0_0:Nat) (l0_0:List Int) (A0_1:Option Addr) (c0_1:Nat) (l0_1:List (S45)) (r1:List Int) (r2:List (S45)) (w:World) (hr0_0:Kd.C (Kd.int .u8) w A0_0 l0_0.length l0_0) (hc0_0:l0_0.length ≤ c0_0) (hr0_1:Kd.C k45 w A0_1 l0_1.length l0_1) (hc0_1:l0_1.length ≤ c0_1) (h:disk_Sync.f l0_0 l0_1=some (r1,r2)) :
 Calls Try.prog 26 #[.agg #[.slice A0_0 l0_0.length c0_0,.slice A0_1 l0_1.length c0_1]] w fun e w'=>∃ v0_ v1_:Value,e=.returned (.agg #[v0_,v1_])∧Kd.R (Kd.int .u8) 5 w' w.heap.size (fun _=>True) v0_ r1∧Kd.S k45 45 w' w.heap.size (fun k_=>some k_ ≠ (v0_:Value).ownBlock) v1_ r2∧Below w.heap.size w w':=by
 unfold disk_Sync.f at h
 injection h with h
 obtain ⟨rfl,rfl⟩:=h
 refine (disk_Sync_calls _ _ l0_0 _ _ l0_1 w hr0_0 hc0_0 hr0_1 hc0_1).mono ?_
 rintro e w' ⟨v0,rfl,hr,hb⟩
 exact ⟨_,_,rfl,hr,Kd.S_nil _ _ _ _ _,hb⟩
def disk_Read.f (l0_0:List Int) (l0_1:List (S45)) (a1 a2:Int):Option (List Int × Int):=some (readL l0_0 l0_1 a1 a2,if readOk l0_0 l0_1 a1 a2=true then 0 else 1)
theorem disk_Read.calls (A0_0:Option Addr) (c0_0:Nat) (l0_0:List Int) (A0_1:Option Addr) (c0_1:Nat) (l0_1:List (S45)) (a1:Int) (a2:Int) (r1:List Int) (r2:Int) (w:World) (hr0_0:Kd.C (Kd.int .u8) w A0_0 l0_0.length l0_0) (hc0_0:l0_0.length ≤ c0_0) (hr0_1:Kd.C k45 w A0_1 l0_1.length l0_1) (hc0_1:l0_1.length ≤ c0_1) (h:disk_Read.f l0_0 l0_1 a1 a2=some (r1,r2)) :
 Calls Try.prog 23 #[.agg #[.slice A0_0 l0_0.length c0_0,.slice A0_1 l0_1.length c0_1],.int .i64 a1,.int .i64 a2] w fun e w'=>∃ v0_:Value,e=.returned (.tuple #[v0_,.int .i64 r2])∧Kd.R (Kd.int .u8) 5 w' w.heap.size (fun _=>True) v0_ r1∧Below w.heap.size w w':=by
 unfold disk_Read.f at h
 injection h with h
 obtain ⟨rfl,rfl⟩:=h
 exact disk_Read_calls _ _ l0_0 _ _ l0_1 a1 a2 w hr0_0 hc0_0 hr0_1 hc0_1
end Go.Proofs.Ytfpdmlhknddffaa.Dk
end
section
namespace Go.Proofs.Ytfpdmlhknddffaa.Dk
open Go.RowKit Go.Proofs.YtfpdmlhknddffaaW.PrintWords Go.Proofs.YtfpdmlhknddffaaW.PrintLast Go.Proofs.YtfpdmlhknddffaaW.PrintMore
attribute [local go_sem] max2_int min2_int max_two min_two max_three min_three max_four min_four
set_option linter.unusedVariables false
set_option linter.unusedSimpArgs false
end Go.Proofs.Ytfpdmlhknddffaa.Dk
end
section
namespace Go.Proofs.Ytfpdmlhknddffaa.Dk
open Go.RowKit Go.Proofs.YtfpdmlhknddffaaW.PrintWords Go.Proofs.YtfpdmlhknddffaaW.PrintLast Go.Proofs.YtfpdmlhknddffaaW.PrintMore
attribute [local go_sem] max2_int min2_int max_two min_two max_three min_three max_four min_four
set_option linter.unusedVariables false
set_option linter.unusedSimpArgs false
end Go.Proofs.Ytfpdmlhknddffaa.Dk
end
section
namespace Go.Proofs.Ytfpdmlhknddffaa.Dk
open Go.RowKit Go.Proofs.YtfpdmlhknddffaaW.PrintWords Go.Proofs.YtfpdmlhknddffaaW.PrintLast Go.Proofs.YtfpdmlhknddffaaW.PrintMore
attribute [local go_sem] max2_int min2_int max_two min_two max_three min_three max_four min_four
set_option linter.unusedVariables false
set_option linter.unusedSimpArgs false
end Go.Proofs.Ytfpdmlhknddffaa.Dk
end
section
namespace Go.Proofs.Ytfpdmlhknddffaa.Dk
open Go.RowKit Go.Proofs.YtfpdmlhknddffaaW.PrintWords Go.Proofs.YtfpdmlhknddffaaW.PrintLast Go.Proofs.YtfpdmlhknddffaaW.PrintMore
set_option linter.unusedVariables false
set_option linter.unusedSimpArgs false
theorem wrap_succ {i n:Nat} (h:i < n) (hn:n ≤ 9223372036854775807):wrap64 ((i:Int) + 1)=((i + 1:Nat):Int):=by
 unfold wrap64;omega
theorem rd_nat {xs:List Int} {i:Nat} (h:i < xs.length):rd xs (i:Int)=xs[i]:=by
 unfold rd;simp [List.getD,h]
theorem ev_eq {α:Type} {g:Nat→Option α} {r r':α} (h:Ev g r) (e:r=r'):Ev g r':=e ▸ h
theorem ev_down {α:Type} {n:Nat} {g:Nat→Nat→Option α} {r:Nat→α} (hn:Ev (g n) (r n)) (hs:∀ i,i < n→Ev (g (i + 1)) (r (i + 1))→Ev (g i) (r i)):∀ i,i ≤ n→Ev (g i) (r i):=by
 have key:∀ d i,i + d=n→Ev (g i) (r i):=by
  intro d
  induction d with
  | zero =>
   intro i h
   obtain rfl:i=n:=by omega
   exact hn
  | succ d ih=>intro i h;exact hs i (by omega) (ih (i + 1) (by omega))
 intro i hi
 exact key (n - i) i (by omega)
theorem s45_iff (a b:S45):(a.f0=b.f0∧a.f1=b.f1)↔a=b:=by
 cases a;cases b;simp
instance s45_dec:DecidableEq S45:=fun a b=>decidable_of_iff _ (s45_iff a b)
end Go.Proofs.Ytfpdmlhknddffaa.Dk
end
section
namespace Go.Proofs.Ytfpdmlhknddffaa.Dk
open Go.RowKit Go.Proofs.YtfpdmlhknddffaaW.PrintWords Go.Proofs.YtfpdmlhknddffaaW.PrintLast Go.Proofs.YtfpdmlhknddffaaW.PrintMore
set_option linter.unusedVariables false
set_option linter.unusedSimpArgs false
theorem applyN_congr (f g:Nat→Int) (l1:List S45) (l0:List Int):∀ n,(∀ i,i < n→f i=g i)→applyN f l1 l0 n=applyN g l1 l0 n:=by
 intro n
 induction n with
 | zero=>intro _;rfl
 | succ n ih =>
  intro h
  show splice (applyN f l1 l0 n) _ (List.take (keptN (f n) _) _)=splice (applyN g l1 l0 n) _ (List.take (keptN (g n) _) _)
  rw [ih (fun i hi=>h i (by omega)),h n (by omega)]
end Go.Proofs.Ytfpdmlhknddffaa.Dk
end
section
namespace Go.Proofs.Ytfpdmlhknddffaa.Dk
open Go.RowKit Go.Proofs.YtfpdmlhknddffaaW.PrintWords Go.Proofs.YtfpdmlhknddffaaW.PrintLast Go.Proofs.YtfpdmlhknddffaaW.PrintMore
set_option linter.unusedVariables false
set_option linter.unusedSimpArgs false
theorem field25 (u v:Value) (W:World):(Instr.field 25 (.agg #[u,v]) 0).run Try.prog W=.ok u W:=by
 have hu25:=Try.underlying25
 have hu22:=Try.underlying22
 simp [Instr.field,run_underlying hu25,run_underlying hu22,part,isAgg,asAgg,Result.andThen]
theorem field25b (u v:Value) (W:World):(Instr.field 25 (.agg #[u,v]) 1).run Try.prog W=.ok v W:=by
 have hu25:=Try.underlying25
 have hu23:=Try.underlying23
 simp [Instr.field,run_underlying hu25,run_underlying hu23,part,isAgg,asAgg,Result.andThen]
end Go.Proofs.Ytfpdmlhknddffaa.Dk
end
section
namespace Go.Proofs.Ytfpdmlhknddffaa.Dk
open Go.RowKit Go.Proofs.YtfpdmlhknddffaaW.PrintWords Go.Proofs.YtfpdmlhknddffaaW.PrintLast Go.Proofs.YtfpdmlhknddffaaW.PrintMore
attribute [local go_sem] field25 field25b
set_option linter.unusedVariables false
set_option linter.unusedSimpArgs false
def Dsk (w:World) (base gd:Nat) (S:List Int) (P:List S45):Prop :=
 ∃ A c A' c',w.heap[gd]? = some (.cells #[.slice A S.length c,.slice A' P.length c'] 25 (0,0))∧Kd.R (Kd.int .u8) 5 w base (fun _=>True) (.slice A S.length c) S∧Kd.S k45 45 w base (fun _=>True) (.slice A' P.length c') P
theorem Dsk.below {w w1:World} {base gd:Nat} {S:List Int} {P:List S45} (h:Dsk w base gd S P) (hb:Below w.heap.size w w1):Dsk w1 base gd S P:=by
 obtain ⟨A,c,A',c',h1,h2,h3⟩:=h
 exact ⟨A,c,A',c',blk_below h1 hb,Kd.R_below h2 hb,Kd.S_below h3 hb⟩
theorem Dsk.put {w1:World} {base base' gd:Nat} {x y:Value} {S:List Int} {P:List S45} {v0 v1:Value} (hg:w1.heap[gd]? = some (.cells #[x,y] 25 (0,0)))
 (hr:Kd.R (Kd.int .u8) 5 w1 base' (fun _=>True) v0 S) (hs:Kd.S k45 45 w1 base' (fun k=>some k ≠ v0.ownBlock) v1 P) (hb:base ≤ base') :
 ∃ A c A' c',v0=.slice A S.length c∧v1=.slice A' P.length c'∧Dsk ((w1.setCell ⟨gd,0,none⟩ v0).setCell ⟨gd,1,none⟩ v1) base gd S P:=by
 obtain ⟨A,c,rfl⟩:=Kd.R_slice hr
 obtain ⟨A',c',rfl⟩:=Kd.S_slice hs
 refine ⟨A,c,A',c',rfl,rfl,A,c,A',c',two_cells hg _ _,?_,?_⟩
 · exact Kd.R_lower (Kd.R_set (Kd.R_set hr hg (by decide) 0 _) (blk_put hg 0 _ rfl) (by decide) 1 _) hb
 · exact Kd.S_lower (Kd.S_mono (Kd.S_set (Kd.S_set hs hg (by decide) 0 _) (blk_put hg 0 _ rfl) (by decide) 1 _) (fun _ _=>trivial)) hb
end Go.Proofs.Ytfpdmlhknddffaa.Dk
end
section
namespace Go.Proofs.Ytfpdmlhknddffaa.Dk
open Go.RowKit Go.Proofs.YtfpdmlhknddffaaW.PrintWords Go.Proofs.YtfpdmlhknddffaaW.PrintLast Go.Proofs.YtfpdmlhknddffaaW.PrintMore
end Go.Proofs.Ytfpdmlhknddffaa.Dk
end
section
namespace Go.Proofs.Ytfpdmlhknddffaa.Dk
open Go.RowKit Go.Proofs.YtfpdmlhknddffaaW.PrintWords Go.Proofs.YtfpdmlhknddffaaW.PrintLast Go.Proofs.YtfpdmlhknddffaaW.PrintMore
attribute [local go_sem] max2_int min2_int max_two min_two max_three min_three max_four min_four
set_option linter.unusedVariables false
set_option linter.unusedSimpArgs false
structure S25 where
 f0:(List Int)
 f1:(List S45)
end Go.Proofs.Ytfpdmlhknddffaa.Dk
end
section
namespace Go.Proofs.Ytfpdmlhknddffaa.Dk
open Go.RowKit Go.Proofs.YtfpdmlhknddffaaW.PrintWords Go.Proofs.YtfpdmlhknddffaaW.PrintLast Go.Proofs.YtfpdmlhknddffaaW.PrintMore
set_option linter.unusedVariables false
set_option linter.unusedSimpArgs false
def stepS (x b:Int):Int:=bits .xor .u64 (IntKind.u64.wrap (bits .xor .u64 x (IntKind.u64.wrap b) * 1099511628211)) (shr .u64 (IntKind.u64.wrap (bits .xor .u64 x (IntKind.u64.wrap b) * 1099511628211)) 32)
theorem add_calls (g:Nat) (x b:Int) (w:World) (B:Nat) (hg:w.heap[g]? = some (.cells #[.int .u64 x] 83 (0,0))) (hB:B ≤ g) :
 Calls Try.prog 66 #[.pointer (some ⟨g,0,none⟩),.int .u8 b] w fun e w'=>e=.returned (.tuple #[])∧w'.heap[g]? = some (.cells #[.int .u64 (stepS x b)] 83 (0,0))∧Below B w w':=by
 have hu83:=Try.underlying83
 have Hg:=Lib.hid hg
 have HB:=Lib.hid hB
 have k0:w.cell? ⟨g,0,none⟩=some (.int .u64 x):=(blk_cell hg 0).trans rfl
 have k1:=blk_frozen hg 0
 clear hg hB
 go_enter Try.func66,Try.ntmps66
 go_wp2_with (fail)
 clear k0 k1
 obtain ⟨y,hy⟩:∃ y,y=IntKind.u64.wrap (bits .xor .u64 x (IntKind.u64.wrap b) * 1099511628211):=⟨_,rfl⟩
 rw [← hy]
 obtain ⟨w1,hw1⟩:∃ W,W=w.setCell ⟨g,0,none⟩ (.int .u64 y):=⟨_,rfl⟩
 rw [← hw1]
 have G1:Hid (w1.heap[g]? = some (.cells #[.int .u64 y] 83 (0,0))):=Lib.hid (by rw [hw1];exact blk_put Hg.out 0 _ rfl)
 have B1:Hid (Below B w w1):=Lib.hid (by rw [hw1];exact (Below.refl B w).setCell HB.out _)
 have Hy:=Lib.hid hy
 clear hy hw1
 refine start_ (n:=10) (S:=fun w'=>w'.cell? ⟨g,0,none⟩=some (.int .u64 y)) (ds:=[9]) #[false,false,false,false,false,false,false,false,false,false] (by kernel_rfl) rfl rfl (by exact (blk_cell (blk_drew G1.out) 0).trans rfl) ?_
 intro hHeld
 refine pure_ (i:=0) (N:=some 13) (v:=?_) (a':=?_) #[true,false,false,false,false,false,false,false,false,false] rfl rfl (by kernel_rfl) (fun _ _ _ h=>h) (Or.inl ⟨by rfl,?_⟩) ?_ ?_
 rotate_left
 · intro w'
   go_simp
   try (with_reducible rfl)
 rotate_left
 · simp only [Act.put,List.setIfInBounds_toArray,List.set_cons_zero,List.set_cons_succ]
   rfl
 refine pure_ (i:=1) (N:=some 14) (v:=?_) (a':=?_) #[true,true,false,false,false,false,false,false,false,false] rfl rfl (by kernel_rfl) (fun _ _ _ h=>h) (Or.inl ⟨by rfl,?_⟩) ?_ ?_
 rotate_left
 · intro w'
   go_simp
   try (with_reducible rfl)
 rotate_left
 · simp only [Act.put,List.setIfInBounds_toArray,List.set_cons_zero,List.set_cons_succ]
   rfl
 refine pure_ (i:=3) (N:=some 16) (v:=?_) (a':=?_) #[true,true,false,true,false,false,false,false,false,false] rfl rfl (by kernel_rfl) (fun _ _ _ h=>h) (Or.inl ⟨by rfl,?_⟩) ?_ ?_
 rotate_left
 · intro w'
   go_simp
   try (with_reducible rfl)
 rotate_left
 · simp only [Act.put,List.setIfInBounds_toArray,List.set_cons_zero,List.set_cons_succ]
   rfl
 refine pure_ (i:=4) (N:=some 17) (v:=?_) (a':=?_) #[true,true,false,true,true,false,false,false,false,false] rfl rfl (by kernel_rfl) (fun _ _ _ h=>h) (Or.inl ⟨by rfl,?_⟩) ?_ ?_
 rotate_left
 · intro w'
   go_simp
   try (with_reducible rfl)
 rotate_left
 · simp only [Act.put,List.setIfInBounds_toArray,List.set_cons_zero,List.set_cons_succ]
   rfl
 refine take_ (i:=2) (N:=some 15) (v:=?_) (a':=?_) #[true,true,true,true,true,false,false,false,false,false] rfl rfl (by kernel_rfl) (fun _ _ _ h=>h) (Or.inl ⟨by rfl,?_⟩) hHeld ?_ ?_
 rotate_left
 · intro w' s0
   go_simp
   with_reducible rfl
 rotate_left
 · simp only [Act.put,List.setIfInBounds_toArray,List.set_cons_zero,List.set_cons_succ]
   rfl
 refine take_ (i:=5) (N:=some 18) (v:=?_) (a':=?_) #[true,true,true,true,true,true,false,false,false,false] rfl rfl (by kernel_rfl) (fun _ _ _ h=>h) (Or.inl ⟨by rfl,?_⟩) hHeld ?_ ?_
 rotate_left
 · intro w' s0
   go_simp
   with_reducible rfl
 rotate_left
 · simp only [Act.put,List.setIfInBounds_toArray,List.set_cons_zero,List.set_cons_succ]
   rfl
 refine pure_ (i:=6) (N:=some 19) (v:=?_) (a':=?_) #[true,true,true,true,true,true,true,false,false,false] rfl rfl (by kernel_rfl) (fun _ _ _ h=>h) (Or.inl ⟨by rfl,?_⟩) ?_ ?_
 rotate_left
 · intro w'
   go_simp
   try (with_reducible rfl)
 rotate_left
 · simp only [Act.put,List.setIfInBounds_toArray,List.set_cons_zero,List.set_cons_succ]
   rfl
 refine pure_ (i:=7) (N:=some 20) (v:=?_) (a':=?_) #[true,true,true,true,true,true,true,true,false,false] rfl rfl (by kernel_rfl) (fun _ _ _ h=>h) (Or.inl ⟨by rfl,?_⟩) ?_ ?_
 rotate_left
 · intro w'
   go_simp
   try (with_reducible rfl)
 rotate_left
 · simp only [Act.put,List.setIfInBounds_toArray,List.set_cons_zero,List.set_cons_succ]
   rfl
 refine pure_ (i:=8) (N:=some 21) (v:=?_) (a':=?_) #[true,true,true,true,true,true,true,true,true,false] rfl rfl (by kernel_rfl) (fun _ _ _ h=>h) (Or.inl ⟨by rfl,?_⟩) ?_ ?_
 rotate_left
 · intro w'
   go_simp
   try (with_reducible rfl)
 rotate_left
 · simp only [Act.put,List.setIfInBounds_toArray,List.set_cons_zero,List.set_cons_succ]
   rfl
 have G2:=Lib.hid (blk_drew G1.out)
 have B2:=Lib.hid (below_drew B1.out)
 generalize w1.drew=w2 at G2 B2 hHeld ⊢
 have k0:=(blk_cell G2.out 0).trans rfl
 have k1:=blk_frozen G2.out 0
 refine last_ (i:=9) (N:=none) #[true,true,true,true,true,true,true,true,true,true] rfl rfl (by kernel_rfl) (by decide) (fun K hK => ?_)
 refine skip_ (w1:=?_) (by rfl) rfl ?_ ?_
 rotate_left
 · go_simp
   rfl
 refine hK.out _ _ ?_
 clear hK K
 refine done_ (by kernel_rfl) ?_
 refine bodyPost_end (v:=.tuple #[]) (by simp [results,Try.results66,go_sem]) rfl ⟨rfl,?_,B2.out.setCell HB.out _⟩
 unfold stepS
 rw [← Hy.out]
 exact blk_put G2.out 0 _ rfl
def finS (x n:Int):Int :=
 let y0:=bits .xor .u64 x (IntKind.u64.wrap n)
 let y1:=bits .xor .u64 y0 (shr .u64 y0 31)
 let y2:=IntKind.u64.wrap (y1 * 13787848793156543929)
 let y3:=bits .xor .u64 y2 (shr .u64 y2 27)
 let y4:=IntKind.u64.wrap (y3 * 10723151780598845931)
 bits .xor .u64 y4 (shr .u64 y4 33)
theorem digest_calls (g:Nat) (x n:Int) (w:World) (hg:w.heap[g]? = some (.cells #[.int .u64 x] 83 (0,0))) :
 Calls Try.prog 67 #[.pointer (some ⟨g,0,none⟩),.int .i64 n] w fun e w'=>e=.returned (.int .u64 (finS x n))∧Below w.heap.size w w':=by
 have hu83:=Try.underlying83
 have hu77:=Try.underlying77
 have k0:w.cell? ⟨g,0,none⟩=some (.int .u64 x):=(blk_cell hg 0).trans rfl
 clear hg
 go_enter Try.func67,Try.ntmps67
 go_wp2
 go_ret
 exact ⟨rfl,Below.refl _ _⟩
end Go.Proofs.Ytfpdmlhknddffaa.Dk
end
section
namespace Go.Proofs.Ytfpdmlhknddffaa.Dk
open Go.RowKit Go.Proofs.YtfpdmlhknddffaaW.PrintWords Go.Proofs.YtfpdmlhknddffaaW.PrintLast Go.Proofs.YtfpdmlhknddffaaW.PrintMore
set_option linter.unusedVariables false
set_option linter.unusedSimpArgs false
theorem below_trans {B:Nat} {w w1 w2:World} (h:Below B w w1) (k:Below B w1 w2):Below B w w2:=h.trans k
def foldS (l:List Int):Int:=l.foldl stepS 2611923443488327891
def sumS (s:ByteArray):Int:=finS (foldS (bytesOf s)) (s.size:Int)
theorem sum_calls (s:ByteArray) (w:World) (hs:s.size ≤ 140737488355328):Calls Try.prog 61 #[.string s] w fun e w'=>e=.returned (.int .u64 (sumS s))∧Below w.heap.size w w':=by
 have hu83:=Try.underlying83
 have hu77:=Try.underlying77
 have hu84:=Try.underlying84
 have hlen:(bytesOf s).length=s.size:=bytesOf_length s
 have Hlen:=Lib.hid hlen
 clear hlen
 go_enter Try.func61,Try.ntmps61
 go_wp2_with (first|((with_reducible refine gate_dst (N:=3) rfl ?_);(refine box_event ?hg (N:=3) ?hd (cs:=#[.int .u64 0]) (t:=83) ?hr ?_);(case hd=>rfl);(case hg=>rfl);(case hr=>first|(go_simp;done)|(go_simp;rfl));intro g hg w1 hb1 hB1;have Hg:Hid (w.heap.size ≤ g):=(Lib.hid (by rw [hg];exact Nat.le_refl _));have HB1:=Lib.hid hB1;have Hb1:=Lib.hid hb1;have k0:=(blk_cell hb1 0).trans rfl;have k1:=blk_frozen hb1 0;clear hb1 hB1 hg) )
 clear k0 k1
 obtain ⟨w2,hw2⟩:∃ W,W=w1.setCell ⟨g,0,none⟩ (.int .u64 2611923443488327891):=⟨_,rfl⟩
 rw [← hw2]
 have Hb2:Hid (w2.heap[g]? = some (.cells #[.int .u64 2611923443488327891] 83 (0,0))):=Lib.hid (by rw [hw2];exact blk_put Hb1.out 0 _ rfl)
 have HB2:Hid (Below w.heap.size w w2):=Lib.hid (by rw [hw2];exact HB1.out.setCell Hg.out _)
 clear hw2
 go_loopg [9] s.size (fun k v9 wr=>∃ i:Nat,i ≤ s.size∧k=s.size - i∧v9=.int .i64 i∧Hid (wr.heap[g]? = some (.cells #[.int .u64 (foldS ((bytesOf s).take i))] 83 (0,0)))∧Hid (Below w.heap.size w wr))
 case atStart=>exact ⟨0,by omega,by omega,rfl,Hb2,HB2⟩
 case round =>
  obtain ⟨i,hi,rfl,rfl,Hbr,HBr⟩:=hrel
  by_cases hlt:i < s.size
  · have hbi:(bytesOf s)[i]? = some ((s[i].toNat:Nat):Int):=by
     rw [List.getElem?_eq_getElem (by rw [Hlen.out];exact hlt)]
     simp only [bytesOf,List.getElem_map]
     rfl
    have Hbi:=Lib.hid hbi
    clear hbi
    go_wp2_with (go_at_call 66;refine (add_calls g _ _ wr w.heap.size Hbr.out Hg.out).mono ?_;rintro e w3 ⟨rfl,hb3,hB3⟩;have Hb3:=Lib.hid hb3;have HB3:=Lib.hid (below_trans HBr.out hB3);clear hb3 hB3)
    go_roundg (s.size - (i + 1))
    case measure=>omega
    case rel =>
     refine ⟨i + 1,by omega,rfl,by go_num,Lib.hid ?_,HB3⟩
     have e:foldS ((bytesOf s).take (i + 1))=stepS (foldS ((bytesOf s).take i)) ((s[i].toNat:Nat):Int):=by
      unfold foldS
      rw [List.take_add_one,Hbi.out,Option.toList_some,List.foldl_append]
      rfl
     rw [e]
     exact Hb3.out
  · have hi2:i=s.size:=by omega
    subst hi2
    go_wp2_with (go_at_call 67;refine (digest_calls g _ _ wr Hbr.out).mono ?_;rintro e w3 ⟨rfl,hB3⟩;have HB3:=Lib.hid (below_then HBr.out HBr.out.size hB3);clear hB3)
    go_ret
    refine ⟨?_,HB3.out⟩
    have e:(bytesOf s).take s.size=bytesOf s:=List.take_of_length_le (Nat.le_of_eq Hlen.out)
    rw [e]
    rfl
end Go.Proofs.Ytfpdmlhknddffaa.Dk
end
section
namespace Go.Proofs.Ytfpdmlhknddffaa.Dk
open Go.RowKit Go.Proofs.YtfpdmlhknddffaaW.PrintWords Go.Proofs.YtfpdmlhknddffaaW.PrintLast Go.Proofs.YtfpdmlhknddffaaW.PrintMore
def digest_Sum.f (a0:ByteArray):Option Int:=if a0.size ≤ 140737488355328 then some (sumS a0) else none
theorem digest_Sum.calls (a0:ByteArray) (r:Int) (w:World) (h:digest_Sum.f a0=some r):Calls Try.prog 61 #[.string a0] w fun e w'=>e=.returned (.int .u64 r)∧Below w.heap.size w w':=by
 unfold digest_Sum.f at h
 by_cases hs:a0.size ≤ 140737488355328
 · rw [if_pos hs] at h
   injection h with h
   subst h
   exact sum_calls a0 w hs
 · rw [if_neg hs] at h
   exact absurd h (by simp)
end Go.Proofs.Ytfpdmlhknddffaa.Dk
end
section
namespace Go.Proofs.Ytfpdmlhknddffaa.Dk
open Go.RowKit Go.Proofs.YtfpdmlhknddffaaW.PrintWords Go.Proofs.YtfpdmlhknddffaaW.PrintLast Go.Proofs.YtfpdmlhknddffaaW.PrintMore
attribute [local go_sem] field25 field25b max2_int min2_int max_two min_two max_three min_three max_four min_four
set_option linter.unusedVariables false
set_option linter.unusedSimpArgs false
theorem info22:(Try.prog.info? 22).map (fun i=>(i.zero,i.size,i.bytes))=some (some (.slice none 0 0),1,24):=by kernel_rfl
end Go.Proofs.Ytfpdmlhknddffaa.Dk
end
section
namespace Go.Proofs.Ytfpdmlhknddffaa.Dk
open Go.RowKit Go.Proofs.YtfpdmlhknddffaaW.PrintWords Go.Proofs.YtfpdmlhknddffaaW.PrintLast Go.Proofs.YtfpdmlhknddffaaW.PrintMore
attribute [local go_sem] field25 field25b max2_int min2_int max_two min_two max_three min_three max_four min_four
set_option linter.unusedVariables false
set_option linter.unusedSimpArgs false
mutual
def journal_number.l0:Nat→List Int→Int→List Int→Int→Int→Option (List Int)
 | 0,_,_,_,_,_=>none
 | k + 1,x0,x1,x10,x11,x12=>if x12 < x11 then (if 0 ≤ x12 then (if x12 < (x10.length:Int) then (journal_number.l1 k x0 x1 (rd x10 x12) (wrap64 (x1 - 1)) x10 x11 x12) else (none)) else (none)) else (some x0)
def journal_number.l1:Nat→List Int→Int→Int→Int→List Int→Int→Int→Option (List Int)
 | 0,_,_,_,_,_,_,_=>none
 | k + 1,x0,x1,x8,x9,x10,x11,x12=>if x9 ≥ 0 then (if 0 ≤ (wrap64 (8 * x9)) then (if x0.length < 140737488355328 then (journal_number.l1 k (x0 ++ [(shr .u64 x8 (wrap64 (8 * x9))) % 256]) x1 x8 (wrap64 (x9 - 1)) x10 x11 x12) else (none)) else (none)) else (journal_number.l0 k x0 x1 x10 x11 (wrap64 (x12 + 1)))
end
def journal_number.f (k:Nat) (l0:List Int) (a1:Int) (l2:List Int):Option (List Int):=journal_number.l0 k l0 a1 l2 (l2.length:Int) 0
set_option maxHeartbeats 8000000 in
set_option maxRecDepth 100000 in
theorem journal_number.calls (k:Nat) (P0_:Nat→Prop) (u9000_:Value) (l0:List Int) (a1:Int) (A2:Option Addr) (c2:Nat) (l2:List Int) (r:List Int) (w0 w:World) (hB:Below w0.heap.size w0 w) (ho0:Kd.R (Kd.int .u8) 5 w w0.heap.size P0_ u9000_ l0) (hr2:∀ W_,Kept w W_ (fun k_=>P0_ k_)→Kd.C (Kd.int .u64) W_ A2 l2.length l2) (hc2:l2.length ≤ c2) (h:journal_number.f k l0 a1 l2=some r) :
 Calls Try.prog 60 #[u9000_,.int .i64 a1,.slice A2 l2.length c2] w fun e w'=>∃ v0_:Value,e=.returned (v0_)∧Kd.R (Kd.int .u8) 5 w' w0.heap.size (fun k_=>(P0_ k_∨w.heap.size ≤ k_)) v0_ r∧Below w0.heap.size w0 w'∧Kept w w' (fun k_=>P0_ k_):=by
 have HO0:=Aside0.mk (show Kd.R (Kd.int .u8) 5 w w0.heap.size (fun k_=>(P0_ k_∨w.heap.size ≤ k_)) u9000_ l0 from Kd.R_mono ho0 (fun k_ hk=>(.inl hk)))
 have HR2:=Aside0.mk hr2
 have HC2:=Aside0.mk hc2
 clear hr2 hc2
 have HK:=Aside0.mk (Kept.refl w (fun k_=>P0_ k_))
 have HW0:=Aside0.mk hB.size
 have HB:=Aside0.mk hB
 clear hB
 have H:(journal_number.l0 k l0 a1 l2 (l2.length:Int) 0)=some r:=h
 clear h
 have H':=Aside0.mk H
 clear H
 go_enter Try.func60,Try.ntmps60
 go_wp2
 go_loopg [0,12] k (fun kq v0 v12 w'=>∃ (x0_1:List Int) (x12_1:Int),v12=.int .i64 x12_1∧Aside0 (journal_number.l0 kq x0_1 a1 l2 (l2.length:Int) x12_1=some r)∧Aside0 (kq ≤ k)∧Aside0 (Kd.R (Kd.int .u8) 5 w' w0.heap.size (fun k_=>(P0_ k_∨w.heap.size ≤ k_)) v0 x0_1)∧Aside0 (Kept w w' (fun k_=>P0_ k_))∧Aside0 (Below w0.heap.size w0 w'))
 case atStart=>exact ⟨(l0),(0),(by first|rfl|(simp;done)|(simp [*];done)),H',⟨Nat.le_refl _⟩,⟨by (with_reducible repeat (first|apply Kd.R_alloc|apply Kd.R_drewN|apply Kd.R_drew));exact HO0.out⟩,⟨by repeat (first|(with_reducible first|exact HK.out|apply Kept.alloc|apply Kept.drewN|apply Kept.drew)|exact HK.out)⟩,⟨by repeat (first|(with_reducible first|exact HB.out|apply below_alloc|apply pw_below_drewN|apply below_drew1)|exact HB.out)⟩⟩
 case round =>
  clear H'
  try clear c2
  try clear p2
  obtain ⟨x0_1,x12_1,rfl,HA,HK1,HO_0,HK,HB⟩:=hrel
  cases gk with
  | zero=>exact absurd HA.out (by simp [journal_number.l0])
  | succ k1 =>
   have H:=HA.out
   clear HA
   simp only [journal_number.l0] at H
   by_cases c4:x12_1 < (l2.length:Int)
   · rw [if_pos c4] at H
     have c4b0:decide (x12_1 < (l2.length:Int))=true:=decide_eq_true c4
     clear c4
     by_cases c5:0 ≤ x12_1
     · rw [if_pos c5] at H
       have c5b0:decide (0 ≤ x12_1)=true:=decide_eq_true c5
       clear c5
       by_cases c6:x12_1 < (l2.length:Int)
       · rw [if_pos c6] at H
         have c6b0:decide (x12_1 < (l2.length:Int))=true:=decide_eq_true c6
         clear c6
         have H':=Aside0.mk H
         clear H
         have p107:0 ≤ (x12_1:Int):=of_decide_eq_true (by first|(with_reducible assumption)|assumption)
         have q107:x12_1 < (l2.length:Int):=of_decide_eq_true (by first|(with_reducible assumption)|assumption)
         obtain ⟨ad107,e107,hx107_0⟩:=Kd.at_int (Kd.C_kept_now HR2.out HK.out) x12_1 p107 q107
         cases e107
         replace p107:=eq_true p107
         replace q107:=eq_true q107
         go_wp2
         go_loopg [0,9] k1 (fun kq v0 v9 w'=>∃ (x0_2:List Int) (x9_2:Int),v9=.int .i64 x9_2∧Aside0 (journal_number.l1 kq x0_2 a1 (rd l2 x12_1) x9_2 l2 (l2.length:Int) x12_1=some r)∧Aside0 (kq ≤ k1)∧Aside0 (Kd.R (Kd.int .u8) 5 w' w0.heap.size (fun k_=>(P0_ k_∨w.heap.size ≤ k_)) v0 x0_2)∧Aside0 (Kept w w' (fun k_=>P0_ k_))∧Aside0 (Below w0.heap.size w0 w'))
         case atStart=>exact ⟨(x0_1),(wrap64 (a1 - 1)),(by first|rfl|(simp;done)|(simp [*];done)),H',⟨Nat.le_refl _⟩,⟨by (with_reducible repeat (first|apply Kd.R_alloc|apply Kd.R_drewN|apply Kd.R_drew));exact HO_0.out⟩,⟨by repeat (first|(with_reducible first|exact HK.out|apply Kept.alloc|apply Kept.drewN|apply Kept.drew)|exact HK.out)⟩,⟨by repeat (first|(with_reducible first|exact HB.out|apply below_alloc|apply pw_below_drewN|apply below_drew1)|exact HB.out)⟩⟩
         case round =>
          clear H'
          try clear p1
          try clear q1
          try clear hx1
          try clear c2
          try clear p2
          try clear c4
          try clear c4b0
          try clear c5
          try clear c5b0
          try clear c6
          try clear c6b0
          try clear p6
          try clear hx107_0
          try clear p107
          try clear p2
          try clear q107
          obtain ⟨x0_2,x9_2,rfl,HA,HK2,HO_0,HK,HB⟩:=hrel
          cases gk with
          | zero=>exact absurd HA.out (by simp [journal_number.l1])
          | succ k2 =>
           have H:=HA.out
           clear HA
           simp only [journal_number.l1] at H
           by_cases c7:x9_2 ≥ 0
           · rw [if_pos c7] at H
             have c7b0:decide (0 ≤ x9_2)=true:=decide_eq_true c7
             clear c7
             obtain ⟨ji8,hji8⟩:∃ j_:Int,(wrap64 (8 * x9_2))=j_:=⟨_,rfl⟩
             replace H:(if 0 ≤ (ji8) then (if x0_2.length < 140737488355328 then (journal_number.l1 k2 (x0_2 ++ [(shr .u64 (rd l2 x12_1) (ji8)) % 256]) a1 (rd l2 x12_1) (wrap64 (x9_2 - 1)) l2 (l2.length:Int) x12_1) else (none)) else (none))=some r:=by first|(rw [hji8] at H;exact H)|(simp only [hji8] at H ⊢;exact H)
             have hji8w:(IntKind.i64.wrap (8 * x9_2))=ji8:=(i64_w _).trans hji8
             by_cases c9:0 ≤ (ji8)
             · rw [if_pos c9] at H
               have c9b0:=eq_true c9
               have c9b1:decide (0 ≤ (ji8))=true:=decide_eq_true c9
               clear c9
               obtain ⟨ji10,hji10⟩:∃ j_:Int,(shr .u64 (rd l2 x12_1) (ji8))=j_:=⟨_,rfl⟩
               replace H:(if x0_2.length < 140737488355328 then (journal_number.l1 k2 (x0_2 ++ [(ji10) % 256]) a1 (rd l2 x12_1) (wrap64 (x9_2 - 1)) l2 (l2.length:Int) x12_1) else (none))=some r:=by first|(rw [hji10] at H;exact H)|(simp only [hji10] at H ⊢;exact H)
               have hji10_:((rd l2 x12_1) / 2 ^ min (ji8).toNat 64)=ji10:=hji10
               have hji10z:(ji8) ≤ 64→((rd l2 x12_1) / 2 ^ (ji8).toNat)=ji10:=shr_small hji10
               by_cases c11:x0_2.length < 140737488355328
               · rw [if_pos c11] at H
                 have LMc11:=Aside0.mk c11
                 clear c11
                 obtain ⟨y108,hy108⟩:∃ y_:List Int,y_=(x0_2 ++ [(ji10) % 256]):=⟨_,rfl⟩
                 replace H:(journal_number.l1 k2 y108 a1 (rd l2 x12_1) (wrap64 (x9_2 - 1)) l2 (l2.length:Int) x12_1)=some r:=by first|(rw [hy108];with_reducible exact H)|(have H2_:=(Option.bind_some _ _).symm.trans H;rw [hy108];with_reducible exact H2_)|(have H2_:=(Option.bind_some _ _).symm.trans H;with_reducible exact H2_)|with_reducible exact H|(rw [hy108];exact H)|exact H
                 have Ny108:=Aside0.mk hy108
                 clear hy108
                 have H':=Aside0.mk H
                 clear H
                 go_wp2_with (first|((with_reducible refine gate_builtin (b:=.append) (xs:=#[.tmp 22,.tmp 28]) rfl ?_);at_builtin;refine Kd.R_append (Kd.int .u8) (w0:=w0) w0.heap.size rfl (.tmp 22) (.tmp 28) 22 5 (.int .u8 0) 1 rfl Try.underlying22 info5 rfl (by decide) (by omega) u0 x0_2 ((ji10) % 256) [.int .u8 ((ji10) % 256)] (fun k_=>(P0_ k_∨w.heap.size ≤ k_)) (fun _=>False) rfl rfl ?aP (fun _ hk=>hk.elim) ?aF ?aO ?aB ?aS ?aL ?_;(case aP=>exact rfl);(case aB=>exact (by repeat (first|(with_reducible first|exact HB.out|apply below_alloc|apply pw_below_drewN|apply below_drew1)|exact HB.out)));(case aF=>exact (fun k_ hk=>(.inr (Nat.le_trans (by first|exact HK.out.1|exact (show Kept w _ (fun k_=>P0_ k_) from by repeat (first|(with_reducible first|exact HK.out|apply Kept.alloc|apply Kept.drewN|apply Kept.drew)|exact HK.out)).1) hk))));(case aO=>exact (by (with_reducible repeat (first|apply Kd.R_alloc|apply Kd.R_drewN|apply Kd.R_drew));exact HO_0.out));(case aS=>exact (below_size (by repeat (first|(with_reducible first|exact HB.out|apply below_alloc|apply pw_below_drewN|apply below_drew1)|exact HB.out))));(case aL=>have:=LMc11.out;omega);intro v109 w12 ho hb hg hat;rw [← Ny108.out] at ho;have n0_:=Aside0.mk (hb);have n1_:=Aside0.mk (Kept.of_grown (S:=(fun k_=>P0_ k_)) hg (by repeat (first|(with_reducible first|exact HK.out|apply Kept.alloc|apply Kept.drewN|apply Kept.drew)|exact HK.out)) (fun k_ e_=>(HO_0.out.1 k_ e_)));have n2_:=Aside0.mk (ho);clear HB;clear HK;clear HO_0;have HB:=n0_;have HK:=n1_;have HO110:=n2_;clear n0_ n1_ n2_;clear ho hb hg hat))
                 go_roundg k2
                 case measure=>have:=HK1.out;have:=HK2.out;omega
                 case rel=>exact ⟨(y108),(wrap64 (x9_2 - 1)),(by first|rfl|(simp;done)|(simp [*];done)),H',⟨by have:=HK1.out;have:=HK2.out;omega⟩,⟨by (with_reducible repeat (first|apply Kd.R_alloc|apply Kd.R_drewN|apply Kd.R_drew));exact HO110.out⟩,⟨by repeat (first|(with_reducible first|exact HK.out|apply Kept.alloc|apply Kept.drewN|apply Kept.drew)|exact HK.out)⟩,⟨by repeat (first|(with_reducible first|exact HB.out|apply below_alloc|apply pw_below_drewN|apply below_drew1)|exact HB.out)⟩⟩
               · rw [if_neg c11] at H
                 exact absurd H (by simp)
             · rw [if_neg c9] at H
               exact absurd H (by simp)
           · rw [if_neg c7] at H
             have c7b0:decide (0 ≤ x9_2)=false:=decide_eq_false c7
             clear c7
             have H':=Aside0.mk H
             clear H
             go_wp2
             go_roundg k2
             case measure=>have:=HK1.out;have:=HK2.out;omega
             case rel=>exact ⟨(x0_2),(wrap64 (x12_1 + 1)),(by first|rfl|(simp;done)|(simp [*];done)),H',⟨by have:=HK1.out;have:=HK2.out;omega⟩,⟨by (with_reducible repeat (first|apply Kd.R_alloc|apply Kd.R_drewN|apply Kd.R_drew));exact HO_0.out⟩,⟨by repeat (first|(with_reducible first|exact HK.out|apply Kept.alloc|apply Kept.drewN|apply Kept.drew)|exact HK.out)⟩,⟨by repeat (first|(with_reducible first|exact HB.out|apply below_alloc|apply pw_below_drewN|apply below_drew1)|exact HB.out)⟩⟩
       · rw [if_neg c6] at H
         exact absurd H (by simp)
     · rw [if_neg c5] at H
       exact absurd H (by simp)
   · rw [if_neg c4] at H
     have c4b0:decide (x12_1 < (l2.length:Int))=false:=decide_eq_false c4
     clear c4
     obtain rfl:=Option.some.inj H
     go_wp2
     go_ret
     exact ⟨_,by first|rfl|(simp [errW_none,errW_some] <;> rfl)|(simp [*,errW_none,errW_some] <;> rfl),by (with_reducible repeat (first|apply Kd.R_alloc|apply Kd.R_drewN|apply Kd.R_drew));exact HO_0.out,by repeat (first|(with_reducible first|exact HB.out|apply below_alloc|apply pw_below_drewN|apply below_drew1)|exact HB.out),by repeat (first|(with_reducible first|exact HK.out|apply Kept.alloc|apply Kept.drewN|apply Kept.drew)|exact HK.out)⟩
def journal_encode.f (k:Nat) (l0:List Int) (a1:Int):Option (List Int):=(journal_number.f k ([]:List Int) 2 (([IntKind.u64.wrap ((l0.length:Int)),IntKind.u64.wrap (Go.bits .and .i64 a1 65535)]:List Int))).bind fun t114=>(if (strOfNums t114).size + (strOfNums l0).size ≤ 9223372036854775807 then ((digest_Sum.f ((strOfNums t114) ++ (strOfNums l0))).bind fun t117=>((some (([82]:List Int):List Int)).bind fun y118=>(if y118.length + t114.length < 140737488355328 then ((journal_number.f k (y118 ++ t114) 8 (([t117]:List Int))).bind fun t127=>(if t127.length + l0.length < 140737488355328 then (some (t127 ++ l0)) else (none))) else (none)))) else (none))
set_option maxHeartbeats 8000000 in
set_option maxRecDepth 100000 in
theorem journal_encode.calls (k:Nat) (A0:Option Addr) (c0:Nat) (l0:List Int) (a1:Int) (r:List Int) (w:World) (hr0:Kd.C (Kd.int .u8) w A0 l0.length l0) (hc0:l0.length ≤ c0) (h:journal_encode.f k l0 a1=some r) :
 Calls Try.prog 51 #[.slice A0 l0.length c0,.int .i64 a1] w fun e w'=>∃ v0_:Value,e=.returned (v0_)∧Kd.R (Kd.int .u8) 5 w' w.heap.size (fun _=>True) v0_ r∧Below w.heap.size w w':=by
 have HR0:=Aside0.mk hr0
 have HC0:=Aside0.mk hc0
 clear hr0 hc0
 have HB:=Aside0.mk (Below.refl w.heap.size w)
 have H:((journal_number.f k ([]:List Int) 2 (([IntKind.u64.wrap ((l0.length:Int)),IntKind.u64.wrap (Go.bits .and .i64 a1 65535)]:List Int))).bind fun t114=>(if (strOfNums t114).size + (strOfNums l0).size ≤ 9223372036854775807 then ((digest_Sum.f ((strOfNums t114) ++ (strOfNums l0))).bind fun t117=>((some (([82]:List Int):List Int)).bind fun y118=>(if y118.length + t114.length < 140737488355328 then ((journal_number.f k (y118 ++ t114) 8 (([t117]:List Int))).bind fun t127=>(if t127.length + l0.length < 140737488355328 then (some (t127 ++ l0)) else (none))) else (none)))) else (none)))=some r:=h
 clear h
 obtain ⟨y111,hy111⟩:∃ y_:List Int,y_=(([IntKind.u64.wrap ((l0.length:Int)),IntKind.u64.wrap (Go.bits .and .i64 a1 65535)]:List Int)):=⟨_,rfl⟩
 replace H:((journal_number.f k ([]:List Int) 2 y111).bind fun t114=>(if (strOfNums t114).size + (strOfNums l0).size ≤ 9223372036854775807 then ((digest_Sum.f ((strOfNums t114) ++ (strOfNums l0))).bind fun t117=>((some (([82]:List Int):List Int)).bind fun y118=>(if y118.length + t114.length < 140737488355328 then ((journal_number.f k (y118 ++ t114) 8 (([t117]:List Int))).bind fun t127=>(if t127.length + l0.length < 140737488355328 then (some (t127 ++ l0)) else (none))) else (none)))) else (none)))=some r:=by first|(rw [hy111];with_reducible exact H)|(have H2_:=(Option.bind_some _ _).symm.trans H;rw [hy111];with_reducible exact H2_)|(have H2_:=(Option.bind_some _ _).symm.trans H;with_reducible exact H2_)|with_reducible exact H|(rw [hy111];exact H)|exact H
 have Ny111:=Aside0.mk hy111
 clear hy111
 replace H:=Option.bind_eq_some_iff.mp H
 obtain ⟨t114,A30,H⟩:=H
 replace H:(if (strOfNums t114).size + (strOfNums l0).size ≤ 9223372036854775807 then ((digest_Sum.f ((strOfNums t114) ++ (strOfNums l0))).bind fun t117=>((some (([82]:List Int):List Int)).bind fun y118=>(if y118.length + t114.length < 140737488355328 then ((journal_number.f k (y118 ++ t114) 8 (([t117]:List Int))).bind fun t127=>(if t127.length + l0.length < 140737488355328 then (some (t127 ++ l0)) else (none))) else (none)))) else (none))=some r:=H
 have A3:=Aside0.mk A30
 clear A30
 by_cases c4:(strOfNums t114).size + (strOfNums l0).size ≤ 9223372036854775807
 · rw [if_pos c4] at H
   have c4b0:=eq_true c4
   have c4b1:decide ((strOfNums t114).size + (strOfNums l0).size ≤ 9223372036854775807)=true:=decide_eq_true c4
   try have c4b2:(9223372036854775807 < (strOfNums t114).size + (strOfNums l0).size)=False:=eq_false (Nat.not_lt.2 c4)
   replace H:=Option.bind_eq_some_iff.mp H
   obtain ⟨t117,A50,H⟩:=H
   replace H:((some (([82]:List Int):List Int)).bind fun y118=>(if y118.length + t114.length < 140737488355328 then ((journal_number.f k (y118 ++ t114) 8 (([t117]:List Int))).bind fun t127=>(if t127.length + l0.length < 140737488355328 then (some (t127 ++ l0)) else (none))) else (none)))=some r:=H
   have A5:=Aside0.mk A50
   clear A50
   obtain ⟨y118,hy118⟩:∃ y_:List Int,y_=(([82]:List Int)):=⟨_,rfl⟩
   replace H:(if y118.length + t114.length < 140737488355328 then ((journal_number.f k (y118 ++ t114) 8 (([t117]:List Int))).bind fun t127=>(if t127.length + l0.length < 140737488355328 then (some (t127 ++ l0)) else (none))) else (none))=some r:=by first|(rw [hy118];with_reducible exact H)|(have H2_:=(Option.bind_some _ _).symm.trans H;rw [hy118];with_reducible exact H2_)|(have H2_:=(Option.bind_some _ _).symm.trans H;with_reducible exact H2_)|with_reducible exact H|(rw [hy118];exact H)|exact H
   have Ny118:=Aside0.mk hy118
   clear hy118
   by_cases c6:y118.length + t114.length < 140737488355328
   · rw [if_pos c6] at H
     have LMc6:=Aside0.mk c6
     clear c6
     obtain ⟨y121,hy121⟩:∃ y_:List Int,y_=(y118 ++ t114):=⟨_,rfl⟩
     replace H:((journal_number.f k y121 8 (([t117]:List Int))).bind fun t127=>(if t127.length + l0.length < 140737488355328 then (some (t127 ++ l0)) else (none)))=some r:=by first|(rw [hy121];with_reducible exact H)|(have H2_:=(Option.bind_some _ _).symm.trans H;rw [hy121];with_reducible exact H2_)|(have H2_:=(Option.bind_some _ _).symm.trans H;with_reducible exact H2_)|with_reducible exact H|(rw [hy121];exact H)|exact H
     have Ny121:=Aside0.mk hy121
     clear hy121
     obtain ⟨y124,hy124⟩:∃ y_:List Int,y_=(([t117]:List Int)):=⟨_,rfl⟩
     replace H:((journal_number.f k y121 8 y124).bind fun t127=>(if t127.length + l0.length < 140737488355328 then (some (t127 ++ l0)) else (none)))=some r:=by first|(rw [hy124];with_reducible exact H)|(have H2_:=(Option.bind_some _ _).symm.trans H;rw [hy124];with_reducible exact H2_)|(have H2_:=(Option.bind_some _ _).symm.trans H;with_reducible exact H2_)|with_reducible exact H|(rw [hy124];exact H)|exact H
     have Ny124:=Aside0.mk hy124
     clear hy124
     replace H:=Option.bind_eq_some_iff.mp H
     obtain ⟨t127,A70,H⟩:=H
     replace H:(if t127.length + l0.length < 140737488355328 then (some (t127 ++ l0)) else (none))=some r:=H
     have A7:=Aside0.mk A70
     clear A70
     by_cases c8:t127.length + l0.length < 140737488355328
     · rw [if_pos c8] at H
       have LMc8:=Aside0.mk c8
       clear c8
       obtain ⟨y130,hy130⟩:∃ y_:List Int,y_=(t127 ++ l0):=⟨_,rfl⟩
       replace H:(some y130)=some r:=by first|(rw [hy130];with_reducible exact H)|(have H2_:=(Option.bind_some _ _).symm.trans H;rw [hy130];with_reducible exact H2_)|(have H2_:=(Option.bind_some _ _).symm.trans H;with_reducible exact H2_)|with_reducible exact H|(rw [hy130];exact H)|exact H
       have Ny130:=Aside0.mk hy130
       clear hy130
       obtain rfl:=Option.some.inj H
       go_enter Try.func51,Try.ntmps51
       go_wp2_with (first|((with_reducible refine gate_dst (N:=14) rfl ?_);refine Kd.R_lit (Kd.int .u64) _ 76 ?hg (N:=14) ?hd (xs:=([IntKind.u64.wrap ((l0.length:Int)),IntKind.u64.wrap (Go.bits .and .i64 a1 65535)]:List Int)) (inner:=[.int .u64 (IntKind.u64.wrap ((l0.length:Int))),.int .u64 (IntKind.u64.wrap (Go.bits .and .i64 a1 65535))]) (ok:=fun _=>True) (okp:=fun _=>True) ?hr ?hp (fun _ hk=>hk) trivial (Below.refl _ _) (Nat.le_refl _) (by simp) ?_;(case hd=>rfl);(case hg=>rfl);(case hr=>first|(go_simp;done)|(go_simp;rfl));(case hp=>exact (Reps.one (show Kd.M (Kd.int .u64) _ _ _ (IntKind.u64.wrap ((l0.length:Int))) [.int .u64 (IntKind.u64.wrap ((l0.length:Int)))] from rfl) (Reps.one (show Kd.M (Kd.int .u64) _ _ _ (IntKind.u64.wrap (Go.bits .and .i64 a1 65535)) [.int .u64 (IntKind.u64.wrap (Go.bits .and .i64 a1 65535))] from rfl) (Reps.none _ _))));intro v112 w9 ho10 hb hg_ hnew_;clear hg_ hnew_;(first|rw [← Ny111.out] at ho10|(simp only [Int.reduceToNat] at ho10;rw [← Ny111.out] at ho10));have n0_:=Aside0.mk (Kd.R_lower ho10 (below_size (by repeat (first|(with_reducible first|exact HB.out|apply below_alloc|apply pw_below_drewN|apply below_drew1)|exact HB.out))));have n1_:=Aside0.mk (below_step (by repeat (first|(with_reducible first|exact HB.out|apply below_alloc|apply pw_below_drewN|apply below_drew1)|exact HB.out)) hb);clear HB;have HO113:=n0_;have HB:=n1_;clear n0_ n1_;clear hb ho10;obtain ⟨Ao11,co11,eo11⟩:=Kd.R_slice HO113.out;subst eo11)|((with_reducible refine gate_callee (f:=60) rfl ?_);refine goesL_ (some 15) rfl rfl Try.func60 (by kernel_rfl) rfl #[.slice none 0 0,.int .i64 2,.slice Ao11 y111.length co11] rfl (by (try simp only [List.map_toArray,List.map_cons,List.map_nil]);first|done|rfl|(simp only [List.length_drop,List.length_take];rfl)) ?_;(refine (journal_number.calls k (fun k_=>some k_=(.slice none 0 0:Value).ownBlock) (.slice none 0 0) ([]:List Int) 2 _ _ y111 t114 w _ ?side1 ?side2 ?side3 ?side4 A3.out).mono ?_);(case side1=>repeat (first|(with_reducible first|exact HB.out|apply below_alloc|apply pw_below_drewN|apply below_drew1)|exact HB.out));(case side2=>exact Kd.R_nil _ _ _ _ _);(case side3=>exact Kd.C_kept_own (HO113.out) (fun k_ hk_ hs_=>(fun e_=>by simp [Value.ownBlock] at e_) hs_));(case side4=>exact (Kd.R_reads' HO113.out).2.1);rintro e w12 ⟨v115,rfl,ho0,hb,hkp⟩;refine ⟨_,rfl,?_⟩;have n0_:=Aside0.mk (Kd.R_mono (ok':=fun k_=>True) (Kd.R_keptB (HO113.out) hkp (fun k_ hk_ hs_=>(fun e_=>by simp [Value.ownBlock] at e_) hs_)) (fun k_ hk_=>trivial));have n1_:=Aside0.mk (Kd.R_mono (ok':=fun k_=>True) ho0 (fun k_ hk_=>trivial));have n2_:=Aside0.mk (hb);clear HO113;clear HB;have HO113:=n0_;have HO116:=n1_;have HB:=n2_;clear n0_ n1_ n2_;(try clear hb);(try clear hkp);(try clear ho0);have hcv13:=own_string (P:=Try.prog) Try.underlying22 Try.underlying5 Try.underlying9 (Kd.own_of_R HO116.out);have hcv14:=Kd.C_string (P:=Try.prog) (A:=A0) (c:=c0) Try.underlying22 Try.underlying5 Try.underlying9 (Kd.C_below HR0.out HB.out))|((with_reducible refine gate_callee (f:=61) rfl ?_);refine goesL_ (some 21) rfl rfl Try.func61 (by kernel_rfl) rfl #[.string ((strOfNums t114) ++ (strOfNums l0))] rfl (by (try simp only [List.map_toArray,List.map_cons,List.map_nil]);first|done|rfl|(simp only [List.length_drop,List.length_take];rfl)) ?_;(with_reducible refine (digest_Sum.calls ((strOfNums t114) ++ (strOfNums l0)) t117 _ A5.out).mono ?_);rintro e w15 ⟨rfl,hb⟩;refine ⟨_,rfl,?_⟩;have n0_:=Aside0.mk (Kd.R_below (by (with_reducible repeat (first|apply Kd.R_alloc|apply Kd.R_drewN|apply Kd.R_drew));exact HO113.out) hb);have n1_:=Aside0.mk (Kd.R_below (by (with_reducible repeat (first|apply Kd.R_alloc|apply Kd.R_drewN|apply Kd.R_drew));exact HO116.out) hb);have n2_:=Aside0.mk (below_step (by repeat (first|(with_reducible first|exact HB.out|apply below_alloc|apply pw_below_drewN|apply below_drew1)|exact HB.out)) hb);clear HO113;clear HO116;clear HB;have HO113:=n0_;have HO116:=n1_;have HB:=n2_;clear n0_ n1_ n2_;(try clear hb);(try clear hb2);(try clear hk);(try clear hi))|((with_reducible refine gate_dst (N:=22) rfl ?_);refine Kd.R_lit (Kd.int .u8) _ 5 ?hg (N:=22) ?hd (xs:=([82]:List Int)) (inner:=[.int .u8 82]) (ok:=fun _=>True) (okp:=fun _=>True) ?hr ?hp (fun _ hk=>hk) trivial (Below.refl _ _) (Nat.le_refl _) (by simp) ?_;(case hd=>rfl);(case hg=>rfl);(case hr=>first|(go_simp;done)|(go_simp;rfl));(case hp=>exact (Reps.one (show Kd.M (Kd.int .u8) _ _ _ 82 [.int .u8 82] from rfl) (Reps.none _ _)));intro v119 w16 ho17 hb hg_ hnew_;clear hg_ hnew_;(first|rw [← Ny118.out] at ho17|(simp only [Int.reduceToNat] at ho17;rw [← Ny118.out] at ho17));have n0_:=Aside0.mk (Kd.R_below (by (with_reducible repeat (first|apply Kd.R_alloc|apply Kd.R_drewN|apply Kd.R_drew));exact HO113.out) hb);have n1_:=Aside0.mk (Kd.R_elder' (by (with_reducible repeat (first|apply Kd.R_alloc|apply Kd.R_drewN|apply Kd.R_drew));exact HO116.out) (Kd.R_base ho17) hb);have n2_:=Aside0.mk (Kd.R_lower (Kd.R_new' ho17 (Kd.R_lt (by (with_reducible repeat (first|apply Kd.R_alloc|apply Kd.R_drewN|apply Kd.R_drew));exact HO116.out))) (below_size (by repeat (first|(with_reducible first|exact HB.out|apply below_alloc|apply pw_below_drewN|apply below_drew1)|exact HB.out))));have n3_:=Aside0.mk (below_step (by repeat (first|(with_reducible first|exact HB.out|apply below_alloc|apply pw_below_drewN|apply below_drew1)|exact HB.out)) hb);clear HO113;clear HO116;clear HB;have HO113:=n0_;have HO116:=n1_;have HO120:=n2_;have HB:=n3_;clear n0_ n1_ n2_ n3_;clear hb ho17;obtain ⟨Ao19,co19,eo19⟩:=Kd.R_slice HO116.out;subst eo19)|((with_reducible refine gate_builtin (b:=.append) (xs:=#[.tmp 22,.tmp 23]) rfl ?_);at_builtin;refine Kd.R_append_rows (Kd.int .u8) (w0:=w) w.heap.size rfl (.tmp 22) (.tmp 23) 22 5 (.int .u8 0) 1 rfl Try.underlying22 info5 rfl (by decide) (by omega) v119 y118 t114 _ _ _ (fun k_=>some k_ ≠ (.slice Ao19 t114.length co19:Value).ownBlock) (fun _=>False) rfl rfl ?aO ?aR (fun _ _ h=>h) (fun _ h=>h.elim) ?aF ?aB ?aS ?aL ?_;(case aR=>repeat (first|exact (Kd.R_reads' HO116.out).2.2|(with_reducible refine Kd.C_alloc ?_ _)|(with_reducible refine Kd.C_drewN ?_ _)|(with_reducible refine Kd.C_drew ?_)));(case aB=>exact (by repeat (first|(with_reducible first|exact HB.out|apply below_alloc|apply pw_below_drewN|apply below_drew1)|exact HB.out)));(case aF=>exact (fun k_ hk=>Kd.fresh' (Kd.R_lt (by (with_reducible repeat (first|apply Kd.R_alloc|apply Kd.R_drewN|apply Kd.R_drew));exact HO116.out)) k_ hk));(case aO=>exact (by (with_reducible repeat (first|apply Kd.R_alloc|apply Kd.R_drewN|apply Kd.R_drew));exact Kd.R_mono HO120.out (fun _ hk=>hk.2)));(case aS=>exact (below_size (by repeat (first|(with_reducible first|exact HB.out|apply below_alloc|apply pw_below_drewN|apply below_drew1)|exact HB.out))));(case aL=>have:=LMc6.out;omega);intro v122 w18 ho hb hg hat;rw [← Ny121.out] at ho;have n0_:=Aside0.mk (Kd.R_over' (by (with_reducible repeat (first|apply Kd.R_alloc|apply Kd.R_drewN|apply Kd.R_drew));exact HO113.out) (Kd.R_typed (by (with_reducible repeat (first|apply Kd.R_alloc|apply Kd.R_drewN|apply Kd.R_drew));exact HO120.out)) (by decide) hg);have n1_:=Aside0.mk (Kd.R_after (ok:=(fun _=>True)) (by (with_reducible repeat (first|apply Kd.R_alloc|apply Kd.R_drewN|apply Kd.R_drew));exact HO116.out) hg hat);have n2_:=Aside0.mk (hb);have n3_:=Aside0.mk (ho);clear HO113;clear HO116;clear HB;clear HO120;have HO113:=n0_;have HO116:=n1_;have HB:=n2_;have HO123:=n3_;clear n0_ n1_ n2_ n3_;clear ho hb hg hat)|((with_reducible refine gate_dst (N:=26) rfl ?_);refine Kd.R_lit (Kd.int .u64) _ 76 ?hg (N:=26) ?hd (xs:=([t117]:List Int)) (inner:=[.int .u64 t117]) (ok:=fun _=>True) (okp:=fun _=>True) ?hr ?hp (fun _ hk=>hk) trivial (Below.refl _ _) (Nat.le_refl _) (by simp) ?_;(case hd=>rfl);(case hg=>rfl);(case hr=>first|(go_simp;done)|(go_simp;rfl));(case hp=>exact (Reps.one (show Kd.M (Kd.int .u64) _ _ _ t117 [.int .u64 t117] from rfl) (Reps.none _ _)));intro v125 w20 ho21 hb hg_ hnew_;clear hg_ hnew_;(first|rw [← Ny124.out] at ho21|(simp only [Int.reduceToNat] at ho21;rw [← Ny124.out] at ho21));have n0_:=Aside0.mk (Kd.R_elder' (by (with_reducible repeat (first|apply Kd.R_alloc|apply Kd.R_drewN|apply Kd.R_drew));exact HO113.out) (Kd.R_base ho21) hb);have n1_:=Aside0.mk (Kd.R_below (by (with_reducible repeat (first|apply Kd.R_alloc|apply Kd.R_drewN|apply Kd.R_drew));exact HO116.out) hb);have n2_:=Aside0.mk (Kd.R_below (by (with_reducible repeat (first|apply Kd.R_alloc|apply Kd.R_drewN|apply Kd.R_drew));exact HO123.out) hb);have n3_:=Aside0.mk (Kd.R_lower (Kd.R_new' ho21 (Kd.R_lt (by (with_reducible repeat (first|apply Kd.R_alloc|apply Kd.R_drewN|apply Kd.R_drew));exact HO113.out))) (below_size (by repeat (first|(with_reducible first|exact HB.out|apply below_alloc|apply pw_below_drewN|apply below_drew1)|exact HB.out))));have n4_:=Aside0.mk (below_step (by repeat (first|(with_reducible first|exact HB.out|apply below_alloc|apply pw_below_drewN|apply below_drew1)|exact HB.out)) hb);clear HO113;clear HO116;clear HO123;clear HB;have HO113:=n0_;have HO116:=n1_;have HO123:=n2_;have HO126:=n3_;have HB:=n4_;clear n0_ n1_ n2_ n3_ n4_;clear hb ho21;obtain ⟨Ao22,co22,eo22⟩:=Kd.R_slice HO123.out;subst eo22;obtain ⟨Ao23,co23,eo23⟩:=Kd.R_slice HO126.out;subst eo23)|((with_reducible refine gate_callee (f:=60) rfl ?_);refine goesL_ (some 27) rfl rfl Try.func60 (by kernel_rfl) rfl #[.slice Ao22 y121.length co22,.int .i64 8,.slice Ao23 y124.length co23] rfl (by (try simp only [List.map_toArray,List.map_cons,List.map_nil]);first|done|rfl|(simp only [List.length_drop,List.length_take];rfl)) ?_;(with_reducible refine (journal_number.calls k (fun k_=>some k_=(.slice Ao22 y121.length co22:Value).ownBlock) (.slice Ao22 y121.length co22) y121 8 _ _ y124 t127 w _ ?side1 ?side2 ?side3 ?side4 A7.out).mono ?_);(case side1=>repeat (first|(with_reducible first|exact HB.out|apply below_alloc|apply pw_below_drewN|apply below_drew1)|exact HB.out));(case side2=>exact Kd.R_tight rfl HO123.out);(case side3=>exact Kd.C_kept_own ((Kd.R_apart' HO126.out (Kd.R_typed HO123.out) (by decide))) (fun k_ hk_ hs_=>(hk_.2) hs_));(case side4=>exact (Kd.R_reads' HO126.out).2.1);rintro e w24 ⟨v128,rfl,ho0,hb,hkp⟩;refine ⟨_,rfl,?_⟩;have n0_:=Aside0.mk (Kd.R_mono (ok':=fun k_=>some k_ ≠ (.slice Ao23 y124.length co23:Value).ownBlock) (Kd.R_keptB ((Kd.R_apart' HO113.out (Kd.R_typed HO123.out) (by decide))) hkp (fun k_ hk_ hs_=>(hk_.2) hs_)) (fun k_ hk_=>hk_.1.1.2));have n1_:=Aside0.mk (Kd.R_mono (ok':=fun k_=>some k_ ≠ (v128:Value).ownBlock) (Kd.R_keptB (HO116.out) hkp (fun k_ hk_ hs_=>(hk_.2) hs_)) (fun k_ hk_=>fun e_=>Or.elim (ho0.1 k_ e_.symm) (fun hs_=>hk_.2.1 hs_) (fun hn_=>Nat.not_le.2 hk_.2.2 hn_)));have n2_:=Aside0.mk (Kd.R_mono (ok':=fun k_=>some k_ ≠ (.slice Ao11 y111.length co11:Value).ownBlock) (Kd.R_keptB ((Kd.R_apart' HO126.out (Kd.R_typed HO123.out) (by decide))) hkp (fun k_ hk_ hs_=>(hk_.2) hs_)) (fun k_ hk_=>hk_.1.1.2));have n3_:=Aside0.mk (Kd.R_mono (ok':=fun k_=>some k_ ≠ (.slice Ao19 t114.length co19:Value).ownBlock) ho0 (fun k_ hk_=>Or.elim hk_ (fun hs_=>fun e_=>(((HO116.out).1 k_ e_.symm).2) hs_) (fun hn_=>(Kd.fresh' (Kd.R_lt (by (with_reducible repeat (first|apply Kd.R_alloc|apply Kd.R_drewN|apply Kd.R_drew));exact HO116.out)) k_ hn_))));have n4_:=Aside0.mk (hb);clear HO113;clear HO116;clear HO126;clear HB;clear HO123;have HO113:=n0_;have HO116:=n1_;have HO126:=n2_;have HO129:=n3_;have HB:=n4_;clear n0_ n1_ n2_ n3_ n4_;(try clear hb);(try clear hkp);(try clear ho0))|((with_reducible refine gate_builtin (b:=.append) (xs:=#[.tmp 28,.tmp 29]) rfl ?_);at_builtin;refine Kd.R_append_rows (Kd.int .u8) (w0:=w) w.heap.size rfl (.tmp 28) (.tmp 29) 22 5 (.int .u8 0) 1 rfl Try.underlying22 info5 rfl (by decide) (by omega) v128 t127 l0 _ _ _ (fun k_=>some k_ ≠ (.slice Ao19 t114.length co19:Value).ownBlock) (fun _=>False) rfl rfl ?aO ?aR (fun _ _ h=>h) (fun _ h=>h.elim) ?aF ?aB ?aS ?aL ?_;(case aR=>repeat (first|exact (Kd.C_below HR0.out HB.out)|(with_reducible refine Kd.C_alloc ?_ _)|(with_reducible refine Kd.C_drewN ?_ _)|(with_reducible refine Kd.C_drew ?_)));(case aB=>exact (by repeat (first|(with_reducible first|exact HB.out|apply below_alloc|apply pw_below_drewN|apply below_drew1)|exact HB.out)));(case aF=>exact (fun k_ hk=>Kd.fresh' (Kd.R_lt (by (with_reducible repeat (first|apply Kd.R_alloc|apply Kd.R_drewN|apply Kd.R_drew));exact HO116.out)) k_ hk));(case aO=>exact (by (with_reducible repeat (first|apply Kd.R_alloc|apply Kd.R_drewN|apply Kd.R_drew));exact HO129.out));(case aS=>exact (below_size (by repeat (first|(with_reducible first|exact HB.out|apply below_alloc|apply pw_below_drewN|apply below_drew1)|exact HB.out))));(case aL=>have:=LMc8.out;omega);intro v131 w25 ho hb hg hat;rw [← Ny130.out] at ho;have n0_:=Aside0.mk (Kd.R_over' (by (with_reducible repeat (first|apply Kd.R_alloc|apply Kd.R_drewN|apply Kd.R_drew));exact HO113.out) (Kd.R_typed (by (with_reducible repeat (first|apply Kd.R_alloc|apply Kd.R_drewN|apply Kd.R_drew));exact HO129.out)) (by decide) hg);have n1_:=Aside0.mk (Kd.R_after (ok:=(fun _=>True)) (by (with_reducible repeat (first|apply Kd.R_alloc|apply Kd.R_drewN|apply Kd.R_drew));exact Kd.R_mono HO116.out (fun _ hk=>⟨trivial,hk⟩)) hg hat);have n2_:=Aside0.mk (Kd.R_over' (by (with_reducible repeat (first|apply Kd.R_alloc|apply Kd.R_drewN|apply Kd.R_drew));exact HO126.out) (Kd.R_typed (by (with_reducible repeat (first|apply Kd.R_alloc|apply Kd.R_drewN|apply Kd.R_drew));exact HO129.out)) (by decide) hg);have n3_:=Aside0.mk (hb);have n4_:=Aside0.mk (ho);clear HO113;clear HO116;clear HO126;clear HB;clear HO129;have HO113:=n0_;have HO116:=n1_;have HO126:=n2_;have HB:=n3_;have HO132:=n4_;clear n0_ n1_ n2_ n3_ n4_;clear ho hb hg hat))
       go_ret
       exact ⟨_,by first|rfl|(simp [errW_none,errW_some] <;> rfl)|(simp [*,errW_none,errW_some] <;> rfl),by (with_reducible repeat (first|apply Kd.R_alloc|apply Kd.R_drewN|apply Kd.R_drew));exact Kd.R_mono HO132.out (fun _ hk=>trivial),by repeat (first|(with_reducible first|exact HB.out|apply below_alloc|apply pw_below_drewN|apply below_drew1)|exact HB.out)⟩
     · rw [if_neg c8] at H
       exact absurd H (by simp)
   · rw [if_neg c6] at H
     exact absurd H (by simp)
 · rw [if_neg c4] at H
   exact absurd H (by simp)
def journal_put.f (l0_0:List Int) (l0_1:List (S45)) (a1:Int) (l2:List Int):Option (List Int × (List (S45)) × Int):=(disk_Sync.f l0_0 l0_1).bind fun bt135=>((disk_Write.f bt135.1 bt135.2 a1 l2).bind fun bt141=>(if bt141.2.2=0 then ((disk_Sync.f bt141.1 bt141.2.1).bind fun bt148=>(some (bt148.1,bt148.2,0))) else (some (([]:List Int),([]:List (S45)),bt141.2.2))))
set_option maxHeartbeats 8000000 in
set_option maxRecDepth 100000 in
theorem journal_put.calls (A0_0:Option Addr) (c0_0:Nat) (l0_0:List Int) (A0_1:Option Addr) (c0_1:Nat) (l0_1:List (S45)) (a1:Int) (A2:Option Addr) (c2:Nat) (l2:List Int) (r1:List Int) (r2:List (S45)) (r3:Int) (w:World) (hr0_0:Kd.C (Kd.int .u8) w A0_0 l0_0.length l0_0) (hc0_0:l0_0.length ≤ c0_0) (hr0_1:Kd.C k45 w A0_1 l0_1.length l0_1) (hc0_1:l0_1.length ≤ c0_1) (hr2:Kd.C (Kd.int .u8) w A2 l2.length l2) (hc2:l2.length ≤ c2) (h:journal_put.f l0_0 l0_1 a1 l2=some (r1,r2,r3)) :
 Calls Try.prog 52 #[.agg #[.slice A0_0 l0_0.length c0_0,.slice A0_1 l0_1.length c0_1],.int .i64 a1,.slice A2 l2.length c2] w fun e w'=>∃ v0_ v1_:Value,e=.returned (.tuple #[.agg #[v0_,v1_],.int .i64 r3])∧Kd.R (Kd.int .u8) 5 w' w.heap.size (fun _=>True) v0_ r1∧Kd.S k45 45 w' w.heap.size (fun k_=>some k_ ≠ (v0_:Value).ownBlock) v1_ r2∧Below w.heap.size w w':=by
 have hu25:=Try.underlying25
 have HR0_0:=Aside0.mk hr0_0
 have HC0_0:=Aside0.mk hc0_0
 clear hr0_0 hc0_0
 have HR0_1:=Aside0.mk hr0_1
 have HC0_1:=Aside0.mk hc0_1
 clear hr0_1 hc0_1
 have HR2:=Aside0.mk hr2
 have HC2:=Aside0.mk hc2
 clear hr2 hc2
 have HB:=Aside0.mk (Below.refl w.heap.size w)
 have H:((disk_Sync.f l0_0 l0_1).bind fun bt135=>((disk_Write.f bt135.1 bt135.2 a1 l2).bind fun bt141=>(if bt141.2.2=0 then ((disk_Sync.f bt141.1 bt141.2.1).bind fun bt148=>(some (bt148.1,bt148.2,0))) else (some (([]:List Int),([]:List (S45)),bt141.2.2)))))=some (r1,r2,r3):=h
 clear h
 replace H:=Option.bind_eq_some_iff.mp H
 obtain ⟨⟨t135,t138⟩,A40,H⟩:=H
 replace H:((disk_Write.f t135 t138 a1 l2).bind fun bt141=>(if bt141.2.2=0 then ((disk_Sync.f bt141.1 bt141.2.1).bind fun bt148=>(some (bt148.1,bt148.2,0))) else (some (([]:List Int),([]:List (S45)),bt141.2.2))))=some (r1,r2,r3):=H
 have A4:=Aside0.mk A40
 clear A40
 replace H:=Option.bind_eq_some_iff.mp H
 obtain ⟨⟨t141,t144,t147⟩,A50,H⟩:=H
 replace H:(if t147=0 then ((disk_Sync.f t141 t144).bind fun bt148=>(some (bt148.1,bt148.2,0))) else (some (([]:List Int),([]:List (S45)),t147)))=some (r1,r2,r3):=H
 have A5:=Aside0.mk A50
 clear A50
 by_cases c6:t147=0
 · rw [if_pos c6] at H
   have c6b0:(t147 == 0)=true:=beq_iff_eq.mpr c6
   have c6b1:(t147 != 0)=false:=bne_eq_false_iff_eq.mpr c6
   clear c6
   replace H:=Option.bind_eq_some_iff.mp H
   obtain ⟨⟨t148,t151⟩,A70,H⟩:=H
   replace H:(some (t148,t151,0))=some (r1,r2,r3):=H
   have A7:=Aside0.mk A70
   clear A70
   simp only [Option.some.injEq,Prod.mk.injEq] at H
   obtain ⟨rfl,rfl,rfl⟩:=H
   go_enter Try.func52,Try.ntmps52
   go_wp2_with (first|((with_reducible refine gate_dst (N:=3) rfl ?_);refine box_event ?hg (N:=3) ?hd (cs:=#[.slice A0_0 l0_0.length c0_0,.slice A0_1 l0_1.length c0_1]) (t:=25) ?hr ?_;(case hd=>rfl);(case hg=>rfl);(case hr=>first|(go_simp;done)|(go_simp;rfl));intro gb133 hg w8 hbox hb;have n0_:=Aside0.mk (below_step (by repeat (first|(with_reducible first|exact HB.out|apply below_alloc|apply pw_below_drewN|apply below_drew1)|exact HB.out)) hb);have n1_:=Aside0.mk (hbox);have n2_:=Aside0.mk ((by rw [hg];exact (below_size (by repeat (first|(with_reducible first|exact HB.out|apply below_alloc|apply pw_below_drewN|apply below_drew1)|exact HB.out))):w.heap.size ≤ gb133));have n3_:=Aside0.mk ((by rw [hg];exact (below_size (by repeat (first|(with_reducible first|exact HB.out|apply below_alloc|apply pw_below_drewN|apply below_drew1)|exact HB.out))):w.heap.size ≤ gb133));clear HB;have HB:=n0_;have BK133:=n1_;have GW133:=n2_;have GE133:=n3_;clear n0_ n1_ n2_ n3_;clear hb hbox hg)|((with_reducible refine gate_dst (N:=6) rfl ?_);refine box_event ?hg (N:=6) ?hd (cs:=#[.slice none 0 0,.slice none 0 0]) (t:=25) ?hr ?_;(case hd=>rfl);(case hg=>rfl);(case hr=>first|(go_simp;done)|(go_simp;rfl));intro gb134 hg w9 hbox hb;have n0_:=Aside0.mk (blk_below (g:=gb133) (o:=.cells #[.slice A0_0 l0_0.length c0_0,.slice A0_1 l0_1.length c0_1] 25 (0,0)) (by (with_reducible repeat (first|refine blk_drewN ?_ _|refine blk_drew ?_|refine blk_alloc ?_ _));exact BK133.out) hb);have n1_:=Aside0.mk (below_step (by repeat (first|(with_reducible first|exact HB.out|apply below_alloc|apply pw_below_drewN|apply below_drew1|refine below_set ?_ GE133.out)|exact HB.out)) hb);have n2_:=Aside0.mk (hbox);have n3_:=Aside0.mk ((by rw [hg];exact (below_size (by repeat (first|(with_reducible first|exact HB.out|apply below_alloc|apply pw_below_drewN|apply below_drew1|refine below_set ?_ GE133.out)|exact HB.out))):w.heap.size ≤ gb134));have n4_:=Aside0.mk ((by rw [hg];exact (below_size (by repeat (first|(with_reducible first|exact HB.out|apply below_alloc|apply pw_below_drewN|apply below_drew1|refine below_set ?_ GE133.out)|exact HB.out))):w.heap.size ≤ gb134));have n5_:=Aside0.mk ((by rw [hg];exact Nat.ne_of_lt (blk_lt (g:=gb133) (o:=.cells #[.slice A0_0 l0_0.length c0_0,.slice A0_1 l0_1.length c0_1] 25 (0,0)) (by (with_reducible repeat (first|refine blk_drewN ?_ _|refine blk_drew ?_|refine blk_alloc ?_ _));exact BK133.out)):gb133 ≠ gb134));have n6_:=Aside0.mk ((by rw [hg];exact Nat.ne_of_gt (blk_lt (g:=gb133) (o:=.cells #[.slice A0_0 l0_0.length c0_0,.slice A0_1 l0_1.length c0_1] 25 (0,0)) (by (with_reducible repeat (first|refine blk_drewN ?_ _|refine blk_drew ?_|refine blk_alloc ?_ _));exact BK133.out)):gb134 ≠ gb133));clear BK133;clear HB;have BK133:=n0_;have HB:=n1_;have BK134:=n2_;have GW134:=n3_;have GE134:=n4_;have NB133_134:=n5_;have NB134_133:=n6_;clear n0_ n1_ n2_ n3_ n4_ n5_ n6_;clear hb hbox hg;have hnb10:=NB133_134.out;have hnc10:=NB134_133.out;have hcz11_0:w9.cell? ⟨gb133,0,none⟩=some (.slice A0_0 l0_0.length c0_0):=(blk_cell BK133.out 0).trans rfl;have hcz11_1:w9.cell? ⟨gb133,1,none⟩=some (.slice A0_1 l0_1.length c0_1):=(blk_cell BK133.out 1).trans rfl;have hfz11_0:=blk_frozen BK133.out 0;have hfz11_1:=blk_frozen BK133.out 1)|((with_reducible refine gate_callee (f:=26) rfl ?_);refine goesL_ (some 11) rfl rfl Try.func26 (by kernel_rfl) rfl #[.agg #[.slice A0_0 l0_0.length c0_0,.slice A0_1 l0_1.length c0_1]] rfl (by (try simp only [List.map_toArray,List.map_cons,List.map_nil]);first|done|rfl|(simp only [List.length_drop,List.length_take];rfl)) ?_;(with_reducible refine (disk_Sync.calls _ _ l0_0 _ _ l0_1 t135 t138 _ ?side1 ?side2 ?side3 ?side4 A4.out).mono ?_);(case side1=>repeat (first|exact (Kd.C_below HR0_0.out HB.out)|(with_reducible refine Kd.C_alloc ?_ _)|(with_reducible refine Kd.C_drewN ?_ _)|(with_reducible refine Kd.C_drew ?_)));(case side2=>exact HC0_0.out);(case side3=>repeat (first|exact (Kd.C_below HR0_1.out HB.out)|(with_reducible refine Kd.C_alloc ?_ _)|(with_reducible refine Kd.C_drewN ?_ _)|(with_reducible refine Kd.C_drew ?_)));(case side4=>exact HC0_1.out);rintro e w12 ⟨v136,v139,rfl,ho0,ho1,hb⟩;refine ⟨_,rfl,?_⟩;have n0_:=Aside0.mk (Kd.R_lower ho0 (below_size (by repeat (first|(with_reducible first|exact HB.out|apply below_alloc|apply pw_below_drewN|apply below_drew1|refine below_set ?_ GE133.out|refine below_set ?_ GE134.out)|exact HB.out))));have n1_:=Aside0.mk (Kd.S_lower ho1 (below_size (by repeat (first|(with_reducible first|exact HB.out|apply below_alloc|apply pw_below_drewN|apply below_drew1|refine below_set ?_ GE133.out|refine below_set ?_ GE134.out)|exact HB.out))));have n2_:=Aside0.mk (blk_below (g:=gb133) (o:=.cells #[.slice A0_0 l0_0.length c0_0,.slice A0_1 l0_1.length c0_1] 25 (0,0)) (by (with_reducible repeat (first|refine blk_drewN ?_ _|refine blk_drew ?_|refine blk_alloc ?_ _));exact BK133.out) hb);have n3_:=Aside0.mk (blk_below (g:=gb134) (o:=.cells #[.slice none 0 0,.slice none 0 0] 25 (0,0)) (by (with_reducible repeat (first|refine blk_drewN ?_ _|refine blk_drew ?_|refine blk_alloc ?_ _));exact BK134.out) hb);have n4_:=Aside0.mk (below_step (by repeat (first|(with_reducible first|exact HB.out|apply below_alloc|apply pw_below_drewN|apply below_drew1|refine below_set ?_ GE133.out|refine below_set ?_ GE134.out)|exact HB.out)) hb);clear BK133;clear BK134;clear HB;have HO137:=n0_;have HO140:=n1_;have BK133:=n2_;have BK134:=n3_;have HB:=n4_;clear n0_ n1_ n2_ n3_ n4_;(try clear hb);(try clear hb2);(try clear hk);(try clear hi);(try clear ho0);(try clear ho1);obtain ⟨Ao13,co13,eo13⟩:=Kd.R_slice HO137.out;subst eo13;obtain ⟨Ao14,co14,eo14⟩:=Kd.S_slice HO140.out;subst eo14)|((with_reducible refine gate_callee (f:=21) rfl ?_);refine goesL_ (some 14) rfl rfl Try.func21 (by kernel_rfl) rfl #[.agg #[.slice Ao13 t135.length co13,.slice Ao14 t138.length co14],.int .i64 a1,.slice A2 l2.length c2] rfl (by (try simp only [List.map_toArray,List.map_cons,List.map_nil]);first|done|rfl|(simp only [List.length_drop,List.length_take];rfl)) ?_;(with_reducible refine (disk_Write.calls _ _ t135 _ _ t138 a1 _ _ l2 t141 t144 t147 _ ?side1 ?side2 ?side3 ?side4 ?side5 ?side6 A5.out).mono ?_);(case side1=>repeat (first|exact (Kd.R_reads' HO137.out).2.2|(with_reducible refine Kd.C_alloc ?_ _)|(with_reducible refine Kd.C_drewN ?_ _)|(with_reducible refine Kd.C_drew ?_)));(case side2=>exact (Kd.R_reads' HO137.out).2.1);(case side3=>repeat (first|exact (Kd.S_reads' HO140.out).2.2|(with_reducible refine Kd.C_alloc ?_ _)|(with_reducible refine Kd.C_drewN ?_ _)|(with_reducible refine Kd.C_drew ?_)));(case side4=>exact (Kd.S_reads' HO140.out).2.1);(case side5=>repeat (first|exact (Kd.C_below HR2.out HB.out)|(with_reducible refine Kd.C_alloc ?_ _)|(with_reducible refine Kd.C_drewN ?_ _)|(with_reducible refine Kd.C_drew ?_)));(case side6=>exact HC2.out);rintro e w15 ⟨v142,v145,rfl,ho0,ho1,hb⟩;refine ⟨_,rfl,?_⟩;have n0_:=Aside0.mk (Kd.R_elder' (by (with_reducible repeat (first|apply Kd.R_alloc|apply Kd.R_drewN|apply Kd.R_drew));exact HO137.out) (Kd.R_base ho0) hb);have n1_:=Aside0.mk (Kd.S_mono (Kd.S_told (Kd.S_told (Kd.S_old (by (with_reducible repeat (first|apply Kd.S_alloc|apply Kd.S_drewN|apply Kd.S_drew));exact HO140.out) hb) (Kd.R_base ho0)) (Kd.S_base ho1)) (fun _ h_=>h_.1));have n2_:=Aside0.mk (Kd.R_lower (Kd.R_new' ho0 (Kd.R_lt (by (with_reducible repeat (first|apply Kd.R_alloc|apply Kd.R_drewN|apply Kd.R_drew));exact HO137.out))) (below_size (by repeat (first|(with_reducible first|exact HB.out|apply below_alloc|apply pw_below_drewN|apply below_drew1|refine below_set ?_ GE133.out|refine below_set ?_ GE134.out)|exact HB.out))));have n3_:=Aside0.mk (Kd.S_lower (Kd.S_new' (Kd.S_new' ho1 (Kd.R_lt (by (with_reducible repeat (first|apply Kd.R_alloc|apply Kd.R_drewN|apply Kd.R_drew));exact HO137.out))) (Kd.S_lt (by (with_reducible repeat (first|apply Kd.S_alloc|apply Kd.S_drewN|apply Kd.S_drew));exact HO140.out))) (below_size (by repeat (first|(with_reducible first|exact HB.out|apply below_alloc|apply pw_below_drewN|apply below_drew1|refine below_set ?_ GE133.out|refine below_set ?_ GE134.out)|exact HB.out))));have n4_:=Aside0.mk (blk_below (g:=gb133) (o:=.cells #[.slice A0_0 l0_0.length c0_0,.slice A0_1 l0_1.length c0_1] 25 (0,0)) (by (with_reducible repeat (first|refine blk_drewN ?_ _|refine blk_drew ?_|refine blk_alloc ?_ _));exact BK133.out) hb);have n5_:=Aside0.mk (blk_below (g:=gb134) (o:=.cells #[.slice none 0 0,.slice none 0 0] 25 (0,0)) (by (with_reducible repeat (first|refine blk_drewN ?_ _|refine blk_drew ?_|refine blk_alloc ?_ _));exact BK134.out) hb);have n6_:=Aside0.mk (below_step (by repeat (first|(with_reducible first|exact HB.out|apply below_alloc|apply pw_below_drewN|apply below_drew1|refine below_set ?_ GE133.out|refine below_set ?_ GE134.out)|exact HB.out)) hb);clear HO137;clear HO140;clear BK133;clear BK134;clear HB;have HO137:=n0_;have HO140:=n1_;have HO143:=n2_;have HO146:=n3_;have BK133:=n4_;have BK134:=n5_;have HB:=n6_;clear n0_ n1_ n2_ n3_ n4_ n5_ n6_;(try clear hb);(try clear hb2);(try clear hk);(try clear hi);(try clear ho0);(try clear ho1);obtain ⟨Ao16,co16,eo16⟩:=Kd.R_slice HO143.out;subst eo16;have hcz17_0:w15.cell? ⟨gb133,0,none⟩=some (.slice A0_0 l0_0.length c0_0):=(blk_cell BK133.out 0).trans rfl;have hcz17_1:w15.cell? ⟨gb133,1,none⟩=some (.slice A0_1 l0_1.length c0_1):=(blk_cell BK133.out 1).trans rfl;have hfz17_0:=blk_frozen BK133.out 0;have hfz17_1:=blk_frozen BK133.out 1;obtain ⟨Ao18,co18,eo18⟩:=Kd.S_slice HO146.out;subst eo18)|((with_reducible refine gate_callee (f:=26) rfl ?_);refine goesL_ (some 22) rfl rfl Try.func26 (by kernel_rfl) rfl #[.agg #[.slice Ao16 t141.length co16,.slice Ao18 t144.length co18]] rfl (by (try simp only [List.map_toArray,List.map_cons,List.map_nil]);first|done|rfl|(simp only [List.length_drop,List.length_take];rfl)) ?_;(with_reducible refine (disk_Sync.calls _ _ t141 _ _ t144 t148 t151 _ ?side1 ?side2 ?side3 ?side4 A7.out).mono ?_);(case side1=>refine (Kd.R_reads' (e:=5) (base:=w.heap.size) (ok:=fun k_=>(True∧some k_ ≠ (.slice Ao13 t135.length co13:Value).ownBlock)) (n:=t141.length) (c:=co16) ?_).2.2;exact (by (with_reducible repeat (first|apply Kd.R_alloc|apply Kd.R_drewN|apply Kd.R_drew));exact (Kd.R_mono (Kd.R_far (p:=⟨gb133,1,none⟩) (Kd.R_far (p:=⟨gb133,0,none⟩) (Kd.R_types HO143.out BK133.out (by decide)) (fun _ hk=>hk.2) (.slice Ao16 t141.length co16)) (fun _ hk=>hk.2) (.slice Ao18 t144.length co18)) (fun _ h_=>h_.1))));(case side2=>exact (Kd.R_reads' HO143.out).2.1);(case side3=>refine (Kd.S_reads' (e:=45) (base:=w.heap.size) (ok:=fun k_=>((some k_ ≠ (.slice Ao16 t141.length co16:Value).ownBlock∧some k_ ≠ (.slice Ao13 t135.length co13:Value).ownBlock)∧some k_ ≠ (.slice Ao14 t138.length co14:Value).ownBlock)) (n:=t144.length) (c:=co18) ?_).2.2;exact (by (with_reducible repeat (first|apply Kd.S_alloc|apply Kd.S_drewN|apply Kd.S_drew));exact (Kd.S_mono (Kd.S_far (p:=⟨gb133,1,none⟩) (Kd.S_far (p:=⟨gb133,0,none⟩) (Kd.S_types HO146.out BK133.out (by decide)) (fun _ hk=>hk.2) (.slice Ao16 t141.length co16)) (fun _ hk=>hk.2) (.slice Ao18 t144.length co18)) (fun _ h_=>h_.1))));(case side4=>exact (Kd.S_reads' HO146.out).2.1);rintro e w19 ⟨v149,v152,rfl,ho0,ho1,hb⟩;refine ⟨_,rfl,?_⟩;have n0_:=Aside0.mk (Kd.R_elder' (by (with_reducible repeat (first|apply Kd.R_alloc|apply Kd.R_drewN|apply Kd.R_drew));exact (Kd.R_mono (Kd.R_far (p:=⟨gb133,1,none⟩) (Kd.R_far (p:=⟨gb133,0,none⟩) (Kd.R_types HO137.out BK133.out (by decide)) (fun _ hk=>hk.2) (.slice Ao16 t141.length co16)) (fun _ hk=>hk.2) (.slice Ao18 t144.length co18)) (fun _ h_=>h_.1))) (Kd.R_base ho0) hb);have n1_:=Aside0.mk (Kd.S_mono (Kd.S_told (Kd.S_told (Kd.S_old (by (with_reducible repeat (first|apply Kd.S_alloc|apply Kd.S_drewN|apply Kd.S_drew));exact (Kd.S_mono (Kd.S_far (p:=⟨gb133,1,none⟩) (Kd.S_far (p:=⟨gb133,0,none⟩) (Kd.S_types HO140.out BK133.out (by decide)) (fun _ hk=>hk.2) (.slice Ao16 t141.length co16)) (fun _ hk=>hk.2) (.slice Ao18 t144.length co18)) (fun _ h_=>h_.1))) hb) (Kd.R_base ho0)) (Kd.S_base ho1)) (fun _ h_=>h_.1));have n2_:=Aside0.mk (Kd.R_elder' (by (with_reducible repeat (first|apply Kd.R_alloc|apply Kd.R_drewN|apply Kd.R_drew));exact (Kd.R_mono (Kd.R_far (p:=⟨gb133,1,none⟩) (Kd.R_far (p:=⟨gb133,0,none⟩) (Kd.R_types HO143.out BK133.out (by decide)) (fun _ hk=>hk.2) (.slice Ao16 t141.length co16)) (fun _ hk=>hk.2) (.slice Ao18 t144.length co18)) (fun _ h_=>h_.1))) (Kd.R_base ho0) hb);have n3_:=Aside0.mk (Kd.S_mono (Kd.S_told (Kd.S_told (Kd.S_old (by (with_reducible repeat (first|apply Kd.S_alloc|apply Kd.S_drewN|apply Kd.S_drew));exact (Kd.S_mono (Kd.S_far (p:=⟨gb133,1,none⟩) (Kd.S_far (p:=⟨gb133,0,none⟩) (Kd.S_types HO146.out BK133.out (by decide)) (fun _ hk=>hk.2) (.slice Ao16 t141.length co16)) (fun _ hk=>hk.2) (.slice Ao18 t144.length co18)) (fun _ h_=>h_.1))) hb) (Kd.R_base ho0)) (Kd.S_base ho1)) (fun _ h_=>h_.1));have n4_:=Aside0.mk (Kd.R_lower (Kd.R_new' (Kd.R_new' ho0 (Kd.R_lt (by (with_reducible repeat (first|apply Kd.R_alloc|apply Kd.R_drewN|apply Kd.R_drew));exact (Kd.R_mono (Kd.R_far (p:=⟨gb133,1,none⟩) (Kd.R_far (p:=⟨gb133,0,none⟩) (Kd.R_types HO137.out BK133.out (by decide)) (fun _ hk=>hk.2) (.slice Ao16 t141.length co16)) (fun _ hk=>hk.2) (.slice Ao18 t144.length co18)) (fun _ h_=>h_.1))))) (Kd.R_lt (by (with_reducible repeat (first|apply Kd.R_alloc|apply Kd.R_drewN|apply Kd.R_drew));exact (Kd.R_mono (Kd.R_far (p:=⟨gb133,1,none⟩) (Kd.R_far (p:=⟨gb133,0,none⟩) (Kd.R_types HO143.out BK133.out (by decide)) (fun _ hk=>hk.2) (.slice Ao16 t141.length co16)) (fun _ hk=>hk.2) (.slice Ao18 t144.length co18)) (fun _ h_=>h_.1))))) (below_size (by repeat (first|(with_reducible first|exact HB.out|apply below_alloc|apply pw_below_drewN|apply below_drew1|refine below_set ?_ GE133.out|refine below_set ?_ GE134.out)|exact HB.out))));have n5_:=Aside0.mk (Kd.S_lower (Kd.S_new' (Kd.S_new' (Kd.S_new' (Kd.S_new' ho1 (Kd.R_lt (by (with_reducible repeat (first|apply Kd.R_alloc|apply Kd.R_drewN|apply Kd.R_drew));exact (Kd.R_mono (Kd.R_far (p:=⟨gb133,1,none⟩) (Kd.R_far (p:=⟨gb133,0,none⟩) (Kd.R_types HO137.out BK133.out (by decide)) (fun _ hk=>hk.2) (.slice Ao16 t141.length co16)) (fun _ hk=>hk.2) (.slice Ao18 t144.length co18)) (fun _ h_=>h_.1))))) (Kd.S_lt (by (with_reducible repeat (first|apply Kd.S_alloc|apply Kd.S_drewN|apply Kd.S_drew));exact (Kd.S_mono (Kd.S_far (p:=⟨gb133,1,none⟩) (Kd.S_far (p:=⟨gb133,0,none⟩) (Kd.S_types HO140.out BK133.out (by decide)) (fun _ hk=>hk.2) (.slice Ao16 t141.length co16)) (fun _ hk=>hk.2) (.slice Ao18 t144.length co18)) (fun _ h_=>h_.1))))) (Kd.R_lt (by (with_reducible repeat (first|apply Kd.R_alloc|apply Kd.R_drewN|apply Kd.R_drew));exact (Kd.R_mono (Kd.R_far (p:=⟨gb133,1,none⟩) (Kd.R_far (p:=⟨gb133,0,none⟩) (Kd.R_types HO143.out BK133.out (by decide)) (fun _ hk=>hk.2) (.slice Ao16 t141.length co16)) (fun _ hk=>hk.2) (.slice Ao18 t144.length co18)) (fun _ h_=>h_.1))))) (Kd.S_lt (by (with_reducible repeat (first|apply Kd.S_alloc|apply Kd.S_drewN|apply Kd.S_drew));exact (Kd.S_mono (Kd.S_far (p:=⟨gb133,1,none⟩) (Kd.S_far (p:=⟨gb133,0,none⟩) (Kd.S_types HO146.out BK133.out (by decide)) (fun _ hk=>hk.2) (.slice Ao16 t141.length co16)) (fun _ hk=>hk.2) (.slice Ao18 t144.length co18)) (fun _ h_=>h_.1))))) (below_size (by repeat (first|(with_reducible first|exact HB.out|apply below_alloc|apply pw_below_drewN|apply below_drew1|refine below_set ?_ GE133.out|refine below_set ?_ GE134.out)|exact HB.out))));have n6_:=Aside0.mk (blk_below (g:=gb133) (o:=.cells #[.slice Ao16 t141.length co16,.slice Ao18 t144.length co18] 25 (0,0)) (by (with_reducible repeat (first|refine blk_drewN ?_ _|refine blk_drew ?_|refine blk_alloc ?_ _));refine blk_put (cs:=#[.slice Ao16 t141.length co16,.slice A0_1 l0_1.length c0_1]) ?_ 1 _ rfl;(with_reducible repeat (first|refine blk_drewN ?_ _|refine blk_drew ?_|refine blk_alloc ?_ _));refine blk_put (cs:=#[.slice A0_0 l0_0.length c0_0,.slice A0_1 l0_1.length c0_1]) ?_ 0 _ rfl;(with_reducible repeat (first|refine blk_drewN ?_ _|refine blk_drew ?_|refine blk_alloc ?_ _));exact BK133.out) hb);have n7_:=Aside0.mk (blk_below (g:=gb134) (o:=.cells #[.slice none 0 0,.slice none 0 0] 25 (0,0)) (by (with_reducible repeat (first|refine blk_drewN ?_ _|refine blk_drew ?_|refine blk_alloc ?_ _));refine blk_far ?_ NB134_133.out _;(with_reducible repeat (first|refine blk_drewN ?_ _|refine blk_drew ?_|refine blk_alloc ?_ _));refine blk_far ?_ NB134_133.out _;(with_reducible repeat (first|refine blk_drewN ?_ _|refine blk_drew ?_|refine blk_alloc ?_ _));exact BK134.out) hb);have n8_:=Aside0.mk (below_step (by repeat (first|(with_reducible first|exact HB.out|apply below_alloc|apply pw_below_drewN|apply below_drew1|refine below_set ?_ GE133.out|refine below_set ?_ GE134.out)|exact HB.out)) hb);clear HO137;clear HO140;clear HO143;clear HO146;clear BK133;clear BK134;clear HB;have HO137:=n0_;have HO140:=n1_;have HO143:=n2_;have HO146:=n3_;have HO150:=n4_;have HO153:=n5_;have BK133:=n6_;have BK134:=n7_;have HB:=n8_;clear n0_ n1_ n2_ n3_ n4_ n5_ n6_ n7_ n8_;(try clear hb);(try clear hb2);(try clear hk);(try clear hi);(try clear ho0);(try clear ho1);obtain ⟨Ao20,co20,eo20⟩:=Kd.R_slice HO150.out;subst eo20;have hcz21_0:w19.cell? ⟨gb134,0,none⟩=some (.slice none 0 0):=(blk_cell BK134.out 0).trans rfl;have hcz21_1:w19.cell? ⟨gb134,1,none⟩=some (.slice none 0 0):=(blk_cell BK134.out 1).trans rfl;have hfz21_0:=blk_frozen BK134.out 0;have hfz21_1:=blk_frozen BK134.out 1;obtain ⟨Ao22,co22,eo22⟩:=Kd.S_slice HO153.out;subst eo22))
   refine bodyPost_ret (results_ct rfl _ _ gb134 25 #[.slice Ao20 t148.length co20,.slice Ao22 t151.length co22] (0,0) _ rfl (by (with_reducible repeat (first|refine blk_drewN ?_ _|refine blk_drew ?_|refine blk_alloc ?_ _));refine blk_put (cs:=#[.slice Ao20 t148.length co20,.slice none 0 0]) ?_ 1 _ rfl;(with_reducible repeat (first|refine blk_drewN ?_ _|refine blk_drew ?_|refine blk_alloc ?_ _));refine blk_put (cs:=#[.slice none 0 0,.slice none 0 0]) ?_ 0 _ rfl;(with_reducible repeat (first|refine blk_drewN ?_ _|refine blk_drew ?_|refine blk_alloc ?_ _));exact BK134.out) Try.underlying25 rfl (by kernel_rfl)) rfl ?_
   exact ⟨_,_,by first|rfl|(simp [errW_none,errW_some] <;> rfl)|(simp [*,errW_none,errW_some] <;> rfl),by (with_reducible repeat (first|apply Kd.R_alloc|apply Kd.R_drewN|apply Kd.R_drew));exact Kd.R_mono (Kd.R_far (p:=⟨gb134,1,none⟩) (Kd.R_far (p:=⟨gb134,0,none⟩) (Kd.R_types HO150.out BK134.out (by decide)) (fun _ hk=>hk.2) (.slice Ao20 t148.length co20)) (fun _ hk=>hk.2) (.slice Ao22 t151.length co22)) (fun _ hk=>trivial),by (with_reducible repeat (first|apply Kd.S_alloc|apply Kd.S_drewN|apply Kd.S_drew));exact Kd.S_mono (Kd.S_far (p:=⟨gb134,1,none⟩) (Kd.S_far (p:=⟨gb134,0,none⟩) (Kd.S_types HO153.out BK134.out (by decide)) (fun _ hk=>hk.2) (.slice Ao20 t148.length co20)) (fun _ hk=>hk.2) (.slice Ao22 t151.length co22)) (fun _ hk=>hk.1.1.1.1.1),by repeat (first|(with_reducible first|exact HB.out|apply below_alloc|apply pw_below_drewN|apply below_drew1|refine below_set ?_ GE133.out|refine below_set ?_ GE134.out)|exact HB.out)⟩
 · rw [if_neg c6] at H
   have c6b0:(t147 == 0)=false:=beq_eq_false_iff_ne.mpr c6
   have c6b1:(t147 != 0)=true:=bne_iff_ne.mpr c6
   simp only [Option.some.injEq,Prod.mk.injEq] at H
   obtain ⟨rfl,rfl,rfl⟩:=H
   go_enter Try.func52,Try.ntmps52
   go_wp2_with (first|((with_reducible refine gate_dst (N:=3) rfl ?_);refine box_event ?hg (N:=3) ?hd (cs:=#[.slice A0_0 l0_0.length c0_0,.slice A0_1 l0_1.length c0_1]) (t:=25) ?hr ?_;(case hd=>rfl);(case hg=>rfl);(case hr=>first|(go_simp;done)|(go_simp;rfl));intro gb133 hg w23 hbox hb;have n0_:=Aside0.mk (below_step (by repeat (first|(with_reducible first|exact HB.out|apply below_alloc|apply pw_below_drewN|apply below_drew1)|exact HB.out)) hb);have n1_:=Aside0.mk (hbox);have n2_:=Aside0.mk ((by rw [hg];exact (below_size (by repeat (first|(with_reducible first|exact HB.out|apply below_alloc|apply pw_below_drewN|apply below_drew1)|exact HB.out))):w.heap.size ≤ gb133));have n3_:=Aside0.mk ((by rw [hg];exact (below_size (by repeat (first|(with_reducible first|exact HB.out|apply below_alloc|apply pw_below_drewN|apply below_drew1)|exact HB.out))):w.heap.size ≤ gb133));clear HB;have HB:=n0_;have BK133:=n1_;have GW133:=n2_;have GE133:=n3_;clear n0_ n1_ n2_ n3_;clear hb hbox hg)|((with_reducible refine gate_dst (N:=6) rfl ?_);refine box_event ?hg (N:=6) ?hd (cs:=#[.slice none 0 0,.slice none 0 0]) (t:=25) ?hr ?_;(case hd=>rfl);(case hg=>rfl);(case hr=>first|(go_simp;done)|(go_simp;rfl));intro gb134 hg w24 hbox hb;have n0_:=Aside0.mk (blk_below (g:=gb133) (o:=.cells #[.slice A0_0 l0_0.length c0_0,.slice A0_1 l0_1.length c0_1] 25 (0,0)) (by (with_reducible repeat (first|refine blk_drewN ?_ _|refine blk_drew ?_|refine blk_alloc ?_ _));exact BK133.out) hb);have n1_:=Aside0.mk (below_step (by repeat (first|(with_reducible first|exact HB.out|apply below_alloc|apply pw_below_drewN|apply below_drew1|refine below_set ?_ GE133.out)|exact HB.out)) hb);have n2_:=Aside0.mk (hbox);have n3_:=Aside0.mk ((by rw [hg];exact (below_size (by repeat (first|(with_reducible first|exact HB.out|apply below_alloc|apply pw_below_drewN|apply below_drew1|refine below_set ?_ GE133.out)|exact HB.out))):w.heap.size ≤ gb134));have n4_:=Aside0.mk ((by rw [hg];exact (below_size (by repeat (first|(with_reducible first|exact HB.out|apply below_alloc|apply pw_below_drewN|apply below_drew1|refine below_set ?_ GE133.out)|exact HB.out))):w.heap.size ≤ gb134));have n5_:=Aside0.mk ((by rw [hg];exact Nat.ne_of_lt (blk_lt (g:=gb133) (o:=.cells #[.slice A0_0 l0_0.length c0_0,.slice A0_1 l0_1.length c0_1] 25 (0,0)) (by (with_reducible repeat (first|refine blk_drewN ?_ _|refine blk_drew ?_|refine blk_alloc ?_ _));exact BK133.out)):gb133 ≠ gb134));have n6_:=Aside0.mk ((by rw [hg];exact Nat.ne_of_gt (blk_lt (g:=gb133) (o:=.cells #[.slice A0_0 l0_0.length c0_0,.slice A0_1 l0_1.length c0_1] 25 (0,0)) (by (with_reducible repeat (first|refine blk_drewN ?_ _|refine blk_drew ?_|refine blk_alloc ?_ _));exact BK133.out)):gb134 ≠ gb133));clear BK133;clear HB;have BK133:=n0_;have HB:=n1_;have BK134:=n2_;have GW134:=n3_;have GE134:=n4_;have NB133_134:=n5_;have NB134_133:=n6_;clear n0_ n1_ n2_ n3_ n4_ n5_ n6_;clear hb hbox hg;have hnb25:=NB133_134.out;have hnc25:=NB134_133.out;have hcz26_0:w24.cell? ⟨gb133,0,none⟩=some (.slice A0_0 l0_0.length c0_0):=(blk_cell BK133.out 0).trans rfl;have hcz26_1:w24.cell? ⟨gb133,1,none⟩=some (.slice A0_1 l0_1.length c0_1):=(blk_cell BK133.out 1).trans rfl;have hfz26_0:=blk_frozen BK133.out 0;have hfz26_1:=blk_frozen BK133.out 1)|((with_reducible refine gate_callee (f:=26) rfl ?_);refine goesL_ (some 11) rfl rfl Try.func26 (by kernel_rfl) rfl #[.agg #[.slice A0_0 l0_0.length c0_0,.slice A0_1 l0_1.length c0_1]] rfl (by (try simp only [List.map_toArray,List.map_cons,List.map_nil]);first|done|rfl|(simp only [List.length_drop,List.length_take];rfl)) ?_;(with_reducible refine (disk_Sync.calls _ _ l0_0 _ _ l0_1 t135 t138 _ ?side1 ?side2 ?side3 ?side4 A4.out).mono ?_);(case side1=>repeat (first|exact (Kd.C_below HR0_0.out HB.out)|(with_reducible refine Kd.C_alloc ?_ _)|(with_reducible refine Kd.C_drewN ?_ _)|(with_reducible refine Kd.C_drew ?_)));(case side2=>exact HC0_0.out);(case side3=>repeat (first|exact (Kd.C_below HR0_1.out HB.out)|(with_reducible refine Kd.C_alloc ?_ _)|(with_reducible refine Kd.C_drewN ?_ _)|(with_reducible refine Kd.C_drew ?_)));(case side4=>exact HC0_1.out);rintro e w27 ⟨v136,v139,rfl,ho0,ho1,hb⟩;refine ⟨_,rfl,?_⟩;have n0_:=Aside0.mk (Kd.R_lower ho0 (below_size (by repeat (first|(with_reducible first|exact HB.out|apply below_alloc|apply pw_below_drewN|apply below_drew1|refine below_set ?_ GE133.out|refine below_set ?_ GE134.out)|exact HB.out))));have n1_:=Aside0.mk (Kd.S_lower ho1 (below_size (by repeat (first|(with_reducible first|exact HB.out|apply below_alloc|apply pw_below_drewN|apply below_drew1|refine below_set ?_ GE133.out|refine below_set ?_ GE134.out)|exact HB.out))));have n2_:=Aside0.mk (blk_below (g:=gb133) (o:=.cells #[.slice A0_0 l0_0.length c0_0,.slice A0_1 l0_1.length c0_1] 25 (0,0)) (by (with_reducible repeat (first|refine blk_drewN ?_ _|refine blk_drew ?_|refine blk_alloc ?_ _));exact BK133.out) hb);have n3_:=Aside0.mk (blk_below (g:=gb134) (o:=.cells #[.slice none 0 0,.slice none 0 0] 25 (0,0)) (by (with_reducible repeat (first|refine blk_drewN ?_ _|refine blk_drew ?_|refine blk_alloc ?_ _));exact BK134.out) hb);have n4_:=Aside0.mk (below_step (by repeat (first|(with_reducible first|exact HB.out|apply below_alloc|apply pw_below_drewN|apply below_drew1|refine below_set ?_ GE133.out|refine below_set ?_ GE134.out)|exact HB.out)) hb);clear BK133;clear BK134;clear HB;have HO137:=n0_;have HO140:=n1_;have BK133:=n2_;have BK134:=n3_;have HB:=n4_;clear n0_ n1_ n2_ n3_ n4_;(try clear hb);(try clear hb2);(try clear hk);(try clear hi);(try clear ho0);(try clear ho1);obtain ⟨Ao28,co28,eo28⟩:=Kd.R_slice HO137.out;subst eo28;obtain ⟨Ao29,co29,eo29⟩:=Kd.S_slice HO140.out;subst eo29)|((with_reducible refine gate_callee (f:=21) rfl ?_);refine goesL_ (some 14) rfl rfl Try.func21 (by kernel_rfl) rfl #[.agg #[.slice Ao28 t135.length co28,.slice Ao29 t138.length co29],.int .i64 a1,.slice A2 l2.length c2] rfl (by (try simp only [List.map_toArray,List.map_cons,List.map_nil]);first|done|rfl|(simp only [List.length_drop,List.length_take];rfl)) ?_;(with_reducible refine (disk_Write.calls _ _ t135 _ _ t138 a1 _ _ l2 t141 t144 t147 _ ?side1 ?side2 ?side3 ?side4 ?side5 ?side6 A5.out).mono ?_);(case side1=>repeat (first|exact (Kd.R_reads' HO137.out).2.2|(with_reducible refine Kd.C_alloc ?_ _)|(with_reducible refine Kd.C_drewN ?_ _)|(with_reducible refine Kd.C_drew ?_)));(case side2=>exact (Kd.R_reads' HO137.out).2.1);(case side3=>repeat (first|exact (Kd.S_reads' HO140.out).2.2|(with_reducible refine Kd.C_alloc ?_ _)|(with_reducible refine Kd.C_drewN ?_ _)|(with_reducible refine Kd.C_drew ?_)));(case side4=>exact (Kd.S_reads' HO140.out).2.1);(case side5=>repeat (first|exact (Kd.C_below HR2.out HB.out)|(with_reducible refine Kd.C_alloc ?_ _)|(with_reducible refine Kd.C_drewN ?_ _)|(with_reducible refine Kd.C_drew ?_)));(case side6=>exact HC2.out);rintro e w30 ⟨v142,v145,rfl,ho0,ho1,hb⟩;refine ⟨_,rfl,?_⟩;have n0_:=Aside0.mk (Kd.R_elder' (by (with_reducible repeat (first|apply Kd.R_alloc|apply Kd.R_drewN|apply Kd.R_drew));exact HO137.out) (Kd.R_base ho0) hb);have n1_:=Aside0.mk (Kd.S_mono (Kd.S_told (Kd.S_told (Kd.S_old (by (with_reducible repeat (first|apply Kd.S_alloc|apply Kd.S_drewN|apply Kd.S_drew));exact HO140.out) hb) (Kd.R_base ho0)) (Kd.S_base ho1)) (fun _ h_=>h_.1));have n2_:=Aside0.mk (Kd.R_lower (Kd.R_new' ho0 (Kd.R_lt (by (with_reducible repeat (first|apply Kd.R_alloc|apply Kd.R_drewN|apply Kd.R_drew));exact HO137.out))) (below_size (by repeat (first|(with_reducible first|exact HB.out|apply below_alloc|apply pw_below_drewN|apply below_drew1|refine below_set ?_ GE133.out|refine below_set ?_ GE134.out)|exact HB.out))));have n3_:=Aside0.mk (Kd.S_lower (Kd.S_new' (Kd.S_new' ho1 (Kd.R_lt (by (with_reducible repeat (first|apply Kd.R_alloc|apply Kd.R_drewN|apply Kd.R_drew));exact HO137.out))) (Kd.S_lt (by (with_reducible repeat (first|apply Kd.S_alloc|apply Kd.S_drewN|apply Kd.S_drew));exact HO140.out))) (below_size (by repeat (first|(with_reducible first|exact HB.out|apply below_alloc|apply pw_below_drewN|apply below_drew1|refine below_set ?_ GE133.out|refine below_set ?_ GE134.out)|exact HB.out))));have n4_:=Aside0.mk (blk_below (g:=gb133) (o:=.cells #[.slice A0_0 l0_0.length c0_0,.slice A0_1 l0_1.length c0_1] 25 (0,0)) (by (with_reducible repeat (first|refine blk_drewN ?_ _|refine blk_drew ?_|refine blk_alloc ?_ _));exact BK133.out) hb);have n5_:=Aside0.mk (blk_below (g:=gb134) (o:=.cells #[.slice none 0 0,.slice none 0 0] 25 (0,0)) (by (with_reducible repeat (first|refine blk_drewN ?_ _|refine blk_drew ?_|refine blk_alloc ?_ _));exact BK134.out) hb);have n6_:=Aside0.mk (below_step (by repeat (first|(with_reducible first|exact HB.out|apply below_alloc|apply pw_below_drewN|apply below_drew1|refine below_set ?_ GE133.out|refine below_set ?_ GE134.out)|exact HB.out)) hb);clear HO137;clear HO140;clear BK133;clear BK134;clear HB;have HO137:=n0_;have HO140:=n1_;have HO143:=n2_;have HO146:=n3_;have BK133:=n4_;have BK134:=n5_;have HB:=n6_;clear n0_ n1_ n2_ n3_ n4_ n5_ n6_;(try clear hb);(try clear hb2);(try clear hk);(try clear hi);(try clear ho0);(try clear ho1);obtain ⟨Ao31,co31,eo31⟩:=Kd.R_slice HO143.out;subst eo31;have hcz32_0:w30.cell? ⟨gb133,0,none⟩=some (.slice A0_0 l0_0.length c0_0):=(blk_cell BK133.out 0).trans rfl;have hcz32_1:w30.cell? ⟨gb133,1,none⟩=some (.slice A0_1 l0_1.length c0_1):=(blk_cell BK133.out 1).trans rfl;have hfz32_0:=blk_frozen BK133.out 0;have hfz32_1:=blk_frozen BK133.out 1;obtain ⟨Ao33,co33,eo33⟩:=Kd.S_slice HO146.out;subst eo33;have hcz34_0:w30.cell? ⟨gb134,0,none⟩=some (.slice none 0 0):=(blk_cell BK134.out 0).trans rfl;have hcz34_1:w30.cell? ⟨gb134,1,none⟩=some (.slice none 0 0):=(blk_cell BK134.out 1).trans rfl;have hfz34_0:=blk_frozen BK134.out 0;have hfz34_1:=blk_frozen BK134.out 1))
   refine bodyPost_ret (results_ct rfl _ _ gb134 25 #[.slice none 0 0,.slice none 0 0] (0,0) _ rfl (by (with_reducible repeat (first|refine blk_drewN ?_ _|refine blk_drew ?_|refine blk_alloc ?_ _));refine blk_put (cs:=#[.slice none 0 0,.slice none 0 0]) ?_ 1 _ rfl;(with_reducible repeat (first|refine blk_drewN ?_ _|refine blk_drew ?_|refine blk_alloc ?_ _));refine blk_put (cs:=#[.slice none 0 0,.slice none 0 0]) ?_ 0 _ rfl;(with_reducible repeat (first|refine blk_drewN ?_ _|refine blk_drew ?_|refine blk_alloc ?_ _));refine blk_far ?_ NB134_133.out _;(with_reducible repeat (first|refine blk_drewN ?_ _|refine blk_drew ?_|refine blk_alloc ?_ _));refine blk_far ?_ NB134_133.out _;(with_reducible repeat (first|refine blk_drewN ?_ _|refine blk_drew ?_|refine blk_alloc ?_ _));exact BK134.out) Try.underlying25 rfl (by kernel_rfl)) rfl ?_
   exact ⟨_,_,by first|rfl|(simp [errW_none,errW_some] <;> rfl)|(simp [*,errW_none,errW_some] <;> rfl),by first|exact Kd.R_nil _ _ _ _ _|exact Kd.N_nil _ _ _ _ _|exact Kd.V_nil _ _ _ _ _|exact Kd.Q_nil _ _ _ _ _|exact Kd.S_nil _ _ _ _ _,by first|exact Kd.S_nil _ _ _ _ _|exact Kd.N_nil _ _ _ _ _|exact Kd.V_nil _ _ _ _ _|exact Kd.Q_nil _ _ _ _ _|exact Kd.R_nil _ _ _ _ _,by repeat (first|(with_reducible first|exact HB.out|apply below_alloc|apply pw_below_drewN|apply below_drew1|refine below_set ?_ GE133.out|refine below_set ?_ GE134.out)|exact HB.out)⟩
def wageofficeref43_Same.l0:Nat→List Int→List Int→Int→Option (Bool)
 | 0,_,_,_=>none
 | k + 1,x0,x1,x5=>if x5 < (x0.length:Int) then (if 0 ≤ x5 then (if x5 < (x1.length:Int) then (if (rd x0 x5)=(rd x1 x5) then (wageofficeref43_Same.l0 k x0 x1 (wrap64 (x5 + 1))) else (some false)) else (none)) else (none)) else (some true)
def wageofficeref43_Same.f (k:Nat) (l0:List Int) (l1:List Int):Option (Bool):=if (l0.length:Int)=(l1.length:Int) then (wageofficeref43_Same.l0 k l0 l1 0) else (some false)
set_option maxHeartbeats 8000000 in
set_option maxRecDepth 100000 in
theorem wageofficeref43_Same.calls (k:Nat) (A0:Option Addr) (c0:Nat) (l0:List Int) (A1:Option Addr) (c1:Nat) (l1:List Int) (r:Bool) (w:World) (hr0:Kd.C (Kd.int .u8) w A0 l0.length l0) (hc0:l0.length ≤ c0) (hr1:Kd.C (Kd.int .u8) w A1 l1.length l1) (hc1:l1.length ≤ c1) (h:wageofficeref43_Same.f k l0 l1=some r) :
 Calls Try.prog 41 #[.slice A0 l0.length c0,.slice A1 l1.length c1] w fun e w'=>e=.returned (.bool r)∧Drawn0 w w':=by
 have HR0:=Aside0.mk hr0
 have HC0:=Aside0.mk hc0
 clear hr0 hc0
 have HR1:=Aside0.mk hr1
 have HC1:=Aside0.mk hc1
 clear hr1 hc1
 have H:(if (l0.length:Int)=(l1.length:Int) then (wageofficeref43_Same.l0 k l0 l1 0) else (some false))=some r:=h
 clear h
 by_cases c3:(l0.length:Int)=(l1.length:Int)
 · rw [if_pos c3] at H
   have c3b0:((l0.length:Int) == (l1.length:Int))=true:=beq_iff_eq.mpr c3
   have c3b1:((l0.length:Int) != (l1.length:Int))=false:=bne_eq_false_iff_eq.mpr c3
   have c3b2:(l0.length == l1.length)=true:=by first|simpa using c3|(simp at c3 ⊢;omega)
   clear c3
   have H':=Aside0.mk H
   clear H
   go_enter Try.func41,Try.ntmps41
   go_wp2
   repeat (go_quiet (fail);try go_wp2)
   go_loopg [5] k (fun kq v5 w'=>∃ (x5_1:Int),v5=.int .i64 x5_1∧Aside0 (wageofficeref43_Same.l0 kq l0 l1 x5_1=some r)∧Aside0 (kq ≤ k)∧Drawn0 w w')
   case atStart=>exact ⟨(0),(by first|rfl|(simp;done)|(simp [*];done)),H',⟨Nat.le_refl _⟩,by repeat (first|exact Drawn0.refl _|apply Drawn0.step)⟩
   case round =>
    clear H'
    try clear c1
    try clear p2
    try clear c3
    try clear c3b0
    try clear c3b1
    try clear c3b2
    obtain ⟨x5_1,rfl,HA,HK1,⟨m1,rfl⟩⟩:=hrel
    cases gk with
    | zero=>exact absurd HA.out (by simp [wageofficeref43_Same.l0])
    | succ k1 =>
     have H:=HA.out
     clear HA
     simp only [wageofficeref43_Same.l0] at H
     by_cases c4:x5_1 < (l0.length:Int)
     · rw [if_pos c4] at H
       have c4b0:decide (x5_1 < (l0.length:Int))=true:=decide_eq_true c4
       clear c4
       by_cases c5:0 ≤ x5_1
       · rw [if_pos c5] at H
         have c5b0:decide (0 ≤ x5_1)=true:=decide_eq_true c5
         clear c5
         by_cases c6:x5_1 < (l1.length:Int)
         · rw [if_pos c6] at H
           have c6b0:decide (x5_1 < (l1.length:Int))=true:=decide_eq_true c6
           clear c6
           by_cases c7:(rd l0 x5_1)=(rd l1 x5_1)
           · rw [if_pos c7] at H
             have c7b0:((rd l0 x5_1) == (rd l1 x5_1))=true:=beq_iff_eq.mpr c7
             have c7b1:((rd l0 x5_1) != (rd l1 x5_1))=false:=bne_eq_false_iff_eq.mpr c7
             clear c7
             have H':=Aside0.mk H
             clear H
             have p179:0 ≤ (x5_1:Int):=of_decide_eq_true (by first|(with_reducible assumption)|assumption)
             have q179:x5_1 < (l0.length:Int):=of_decide_eq_true (by first|(with_reducible assumption)|assumption)
             obtain ⟨ad179,e179,hx179_0⟩:=Kd.at_int HR0.out x5_1 p179 q179
             cases e179
             replace p179:=eq_true p179
             replace q179:=eq_true q179
             have p180:0 ≤ (x5_1:Int):=of_decide_eq_true (by first|(with_reducible assumption)|assumption)
             have q180:x5_1 < (l1.length:Int):=of_decide_eq_true (by first|(with_reducible assumption)|assumption)
             obtain ⟨ad180,e180,hx180_0⟩:=Kd.at_int HR1.out x5_1 p180 q180
             cases e180
             replace p180:=eq_true p180
             replace q180:=eq_true q180
             go_wp2
             repeat (go_quiet (fail);try go_wp2)
             go_roundg k1
             case measure=>have:=HK1.out;omega
             case rel=>exact ⟨(wrap64 (x5_1 + 1)),(by first|rfl|(simp;done)|(simp [*];done)),H',⟨by have:=HK1.out;omega⟩,by repeat (first|exact Drawn0.refl _|apply Drawn0.step)⟩
           · rw [if_neg c7] at H
             have c7b0:((rd l0 x5_1) == (rd l1 x5_1))=false:=beq_eq_false_iff_ne.mpr c7
             have c7b1:((rd l0 x5_1) != (rd l1 x5_1))=true:=bne_iff_ne.mpr c7
             obtain rfl:=Option.some.inj H
             have p179:0 ≤ (x5_1:Int):=of_decide_eq_true (by first|(with_reducible assumption)|assumption)
             have q179:x5_1 < (l0.length:Int):=of_decide_eq_true (by first|(with_reducible assumption)|assumption)
             obtain ⟨ad179,e179,hx179_0⟩:=Kd.at_int HR0.out x5_1 p179 q179
             cases e179
             replace p179:=eq_true p179
             replace q179:=eq_true q179
             have p180:0 ≤ (x5_1:Int):=of_decide_eq_true (by first|(with_reducible assumption)|assumption)
             have q180:x5_1 < (l1.length:Int):=of_decide_eq_true (by first|(with_reducible assumption)|assumption)
             obtain ⟨ad180,e180,hx180_0⟩:=Kd.at_int HR1.out x5_1 p180 q180
             cases e180
             replace p180:=eq_true p180
             replace q180:=eq_true q180
             go_wp2
             repeat (go_quiet (fail);try go_wp2)
             go_ret
             exact ⟨by first|rfl|(simp;done)|(simp [*];done),by repeat (first|exact Drawn0.refl _|apply Drawn0.step)⟩
         · rw [if_neg c6] at H
           exact absurd H (by simp)
       · rw [if_neg c5] at H
         exact absurd H (by simp)
     · rw [if_neg c4] at H
       have c4b0:decide (x5_1 < (l0.length:Int))=false:=decide_eq_false c4
       clear c4
       obtain rfl:=Option.some.inj H
       go_wp2
       repeat (go_quiet (fail);try go_wp2)
       go_ret
       exact ⟨by first|rfl|(simp;done)|(simp [*];done),by repeat (first|exact Drawn0.refl _|apply Drawn0.step)⟩
 · rw [if_neg c3] at H
   have c3b0:((l0.length:Int) == (l1.length:Int))=false:=beq_eq_false_iff_ne.mpr c3
   have c3b1:((l0.length:Int) != (l1.length:Int))=true:=bne_iff_ne.mpr c3
   have c3b2:(l0.length == l1.length)=false:=by first|simpa using c3|(simp at c3 ⊢;omega)
   obtain rfl:=Option.some.inj H
   go_enter Try.func41,Try.ntmps41
   go_wp2
   repeat (go_quiet (fail);try go_wp2)
   go_ret
   exact ⟨by first|rfl|(simp;done)|(simp [*];done),by repeat (first|exact Drawn0.refl _|apply Drawn0.step)⟩
end Go.Proofs.Ytfpdmlhknddffaa.Dk
end
section
namespace Go.Proofs.Ytfpdmlhknddffaa.Dk
open Go.RowKit Go.Proofs.YtfpdmlhknddffaaW.PrintWords Go.Proofs.YtfpdmlhknddffaaW.PrintLast Go.Proofs.YtfpdmlhknddffaaW.PrintMore
attribute [local go_sem] field25 field25b max2_int min2_int max_two min_two max_three min_three max_four min_four
set_option linter.unusedVariables false
set_option linter.unusedSimpArgs false
def wageofficeref43_SameAll.l0:Nat→List (List Int)→List (List Int)→Int→Option (Bool)
 | 0,_,_,_=>none
 | k + 1,x0,x1,x5=>if x5 < (x0.length:Int) then (if 0 ≤ x5 then (if x5 < (x1.length:Int) then ((wageofficeref43_Same.f k (rd_L2 x0 x5) (rd_L2 x1 x5)).bind fun t302=>(if t302=true then (wageofficeref43_SameAll.l0 k x0 x1 (wrap64 (x5 + 1))) else (some false))) else (none)) else (none)) else (some true)
def wageofficeref43_SameAll.f (k:Nat) (l0:List (List Int)) (l1:List (List Int)):Option (Bool):=if (l0.length:Int)=(l1.length:Int) then (wageofficeref43_SameAll.l0 k l0 l1 0) else (some false)
set_option maxHeartbeats 8000000 in
set_option maxRecDepth 100000 in
theorem wageofficeref43_SameAll.calls (k:Nat) (A0:Option Addr) (c0:Nat) (l0:List (List Int)) (A1:Option Addr) (c1:Nat) (l1:List (List Int)) (r:Bool) (w:World) (hr0:Kd.C (Kd.slice 5 (Kd.int .u8)) w A0 l0.length l0) (hc0:l0.length ≤ c0) (hr1:Kd.C (Kd.slice 5 (Kd.int .u8)) w A1 l1.length l1) (hc1:l1.length ≤ c1) (h:wageofficeref43_SameAll.f k l0 l1=some r) :
 Calls Try.prog 39 #[.slice A0 l0.length c0,.slice A1 l1.length c1] w fun e w'=>e=.returned (.bool r)∧Drawn0 w w':=by
 have HR0:=Aside0.mk hr0
 have HC0:=Aside0.mk hc0
 clear hr0 hc0
 have HR1:=Aside0.mk hr1
 have HC1:=Aside0.mk hc1
 clear hr1 hc1
 have H:(if (l0.length:Int)=(l1.length:Int) then (wageofficeref43_SameAll.l0 k l0 l1 0) else (some false))=some r:=h
 clear h
 by_cases c3:(l0.length:Int)=(l1.length:Int)
 · rw [if_pos c3] at H
   have c3b0:((l0.length:Int) == (l1.length:Int))=true:=beq_iff_eq.mpr c3
   have c3b1:((l0.length:Int) != (l1.length:Int))=false:=bne_eq_false_iff_eq.mpr c3
   have c3b2:(l0.length == l1.length)=true:=by first|simpa using c3|(simp at c3 ⊢;omega)
   clear c3
   have H':=Aside0.mk H
   clear H
   go_enter Try.func39,Try.ntmps39
   go_wp2
   repeat (go_quiet (fail);try go_wp2)
   go_loopg [5] k (fun kq v5 w'=>∃ (x5_1:Int),v5=.int .i64 x5_1∧Aside0 (wageofficeref43_SameAll.l0 kq l0 l1 x5_1=some r)∧Aside0 (kq ≤ k)∧Drawn0 w w')
   case atStart=>exact ⟨(0),(by first|rfl|(simp;done)|(simp [*];done)),H',⟨Nat.le_refl _⟩,by repeat (first|exact Drawn0.refl _|apply Drawn0.step)⟩
   case round =>
    clear H'
    try clear c1
    try clear p2
    try clear c3
    try clear c3b0
    try clear c3b1
    try clear c3b2
    obtain ⟨x5_1,rfl,HA,HK1,⟨m1,rfl⟩⟩:=hrel
    cases gk with
    | zero=>exact absurd HA.out (by simp [wageofficeref43_SameAll.l0])
    | succ k1 =>
     have H:=HA.out
     clear HA
     simp only [wageofficeref43_SameAll.l0] at H
     by_cases c4:x5_1 < (l0.length:Int)
     · rw [if_pos c4] at H
       have c4b0:decide (x5_1 < (l0.length:Int))=true:=decide_eq_true c4
       clear c4
       by_cases c5:0 ≤ x5_1
       · rw [if_pos c5] at H
         have c5b0:decide (0 ≤ x5_1)=true:=decide_eq_true c5
         clear c5
         by_cases c6:x5_1 < (l1.length:Int)
         · rw [if_pos c6] at H
           have c6b0:decide (x5_1 < (l1.length:Int))=true:=decide_eq_true c6
           clear c6
           replace H:=Option.bind_eq_some_iff.mp H
           obtain ⟨t302,A70,H⟩:=H
           replace H:(if t302=true then (wageofficeref43_SameAll.l0 k1 l0 l1 (wrap64 (x5_1 + 1))) else (some false))=some r:=H
           have A7:=Aside0.mk A70
           clear A70
           by_cases c8:t302=true
           · subst c8
             have H1:(wageofficeref43_SameAll.l0 k1 l0 l1 (wrap64 (x5_1 + 1)))=some r:=by rw [if_pos rfl] at H;exact H
             clear H
             have H:=H1
             clear H1
             have H':=Aside0.mk H
             clear H
             have p300:0 ≤ (x5_1:Int):=of_decide_eq_true (by first|(with_reducible assumption)|assumption)
             have q300:x5_1 < (l0.length:Int):=of_decide_eq_true (by first|(with_reducible assumption)|assumption)
             obtain ⟨ad300,A300_0,c300_0,e300,hx300_0,hl300_0,hi300_0⟩:=at_L2 HR0.out x5_1 p300 q300
             cases e300
             have HR300_0:=Aside0.mk hi300_0
             have HC300_0:=Aside0.mk hl300_0
             clear hi300_0 hl300_0
             replace p300:=eq_true p300
             replace q300:=eq_true q300
             have p301:0 ≤ (x5_1:Int):=of_decide_eq_true (by first|(with_reducible assumption)|assumption)
             have q301:x5_1 < (l1.length:Int):=of_decide_eq_true (by first|(with_reducible assumption)|assumption)
             obtain ⟨ad301,A301_0,c301_0,e301,hx301_0,hl301_0,hi301_0⟩:=at_L2 HR1.out x5_1 p301 q301
             cases e301
             have HR301_0:=Aside0.mk hi301_0
             have HC301_0:=Aside0.mk hl301_0
             clear hi301_0 hl301_0
             replace p301:=eq_true p301
             replace q301:=eq_true q301
             go_wp2_with (first|(go_at_call 41;(with_reducible refine (wageofficeref43_Same.calls k1 _ _ (rd_L2 l0 x5_1) _ _ (rd_L2 l1 x5_1) true _ ?side1 ?side2 ?side3 ?side4 A7.out).mono ?_);(case side1=>repeat (first|exact HR300_0.out|(with_reducible refine Kd.C_alloc ?_ _)|(with_reducible refine Kd.C_drewN ?_ _)|(with_reducible refine Kd.C_drew ?_)));(case side2=>exact HC300_0.out);(case side3=>repeat (first|exact HR301_0.out|(with_reducible refine Kd.C_alloc ?_ _)|(with_reducible refine Kd.C_drewN ?_ _)|(with_reducible refine Kd.C_drew ?_)));(case side4=>exact HC301_0.out);rintro e w' ⟨rfl,⟨nd,rfl⟩⟩;(try first|exact ⟨rfl,_,World.drewN_drewN _ _ _⟩|exact ⟨rfl,_,Eq.trans (World.drewN_drewN _ _ _) (congrArg (World.drewN _) (Nat.add_assoc _ _ _))⟩)))
             repeat (go_quiet (first|(go_at_call 41;(with_reducible refine (wageofficeref43_Same.calls k1 _ _ (rd_L2 l0 x5_1) _ _ (rd_L2 l1 x5_1) true _ ?side1 ?side2 ?side3 ?side4 A7.out).mono ?_);(case side1=>repeat (first|exact HR300_0.out|(with_reducible refine Kd.C_alloc ?_ _)|(with_reducible refine Kd.C_drewN ?_ _)|(with_reducible refine Kd.C_drew ?_)));(case side2=>exact HC300_0.out);(case side3=>repeat (first|exact HR301_0.out|(with_reducible refine Kd.C_alloc ?_ _)|(with_reducible refine Kd.C_drewN ?_ _)|(with_reducible refine Kd.C_drew ?_)));(case side4=>exact HC301_0.out);rintro e w' ⟨rfl,⟨nd,rfl⟩⟩;(try first|exact ⟨rfl,_,World.drewN_drewN _ _ _⟩|exact ⟨rfl,_,Eq.trans (World.drewN_drewN _ _ _) (congrArg (World.drewN _) (Nat.add_assoc _ _ _))⟩)));try go_wp2_with (first|(go_at_call 41;(with_reducible refine (wageofficeref43_Same.calls k1 _ _ (rd_L2 l0 x5_1) _ _ (rd_L2 l1 x5_1) true _ ?side1 ?side2 ?side3 ?side4 A7.out).mono ?_);(case side1=>repeat (first|exact HR300_0.out|(with_reducible refine Kd.C_alloc ?_ _)|(with_reducible refine Kd.C_drewN ?_ _)|(with_reducible refine Kd.C_drew ?_)));(case side2=>exact HC300_0.out);(case side3=>repeat (first|exact HR301_0.out|(with_reducible refine Kd.C_alloc ?_ _)|(with_reducible refine Kd.C_drewN ?_ _)|(with_reducible refine Kd.C_drew ?_)));(case side4=>exact HC301_0.out);rintro e w' ⟨rfl,⟨nd,rfl⟩⟩;(try first|exact ⟨rfl,_,World.drewN_drewN _ _ _⟩|exact ⟨rfl,_,Eq.trans (World.drewN_drewN _ _ _) (congrArg (World.drewN _) (Nat.add_assoc _ _ _))⟩))))
             go_roundg k1
             case measure=>have:=HK1.out;omega
             case rel=>exact ⟨(wrap64 (x5_1 + 1)),(by first|rfl|(simp;done)|(simp [*];done)),H',⟨by have:=HK1.out;omega⟩,by repeat (first|exact Drawn0.refl _|apply Drawn0.step)⟩
           · replace c8:=Bool.eq_false_iff.mpr c8
             subst c8
             have H1:(some false)=some r:=by rw [if_neg (show ¬ (false=true) by decide)] at H;exact H
             clear H
             have H:=H1
             clear H1
             obtain rfl:=Option.some.inj H
             have p300:0 ≤ (x5_1:Int):=of_decide_eq_true (by first|(with_reducible assumption)|assumption)
             have q300:x5_1 < (l0.length:Int):=of_decide_eq_true (by first|(with_reducible assumption)|assumption)
             obtain ⟨ad300,A300_0,c300_0,e300,hx300_0,hl300_0,hi300_0⟩:=at_L2 HR0.out x5_1 p300 q300
             cases e300
             have HR300_0:=Aside0.mk hi300_0
             have HC300_0:=Aside0.mk hl300_0
             clear hi300_0 hl300_0
             replace p300:=eq_true p300
             replace q300:=eq_true q300
             have p301:0 ≤ (x5_1:Int):=of_decide_eq_true (by first|(with_reducible assumption)|assumption)
             have q301:x5_1 < (l1.length:Int):=of_decide_eq_true (by first|(with_reducible assumption)|assumption)
             obtain ⟨ad301,A301_0,c301_0,e301,hx301_0,hl301_0,hi301_0⟩:=at_L2 HR1.out x5_1 p301 q301
             cases e301
             have HR301_0:=Aside0.mk hi301_0
             have HC301_0:=Aside0.mk hl301_0
             clear hi301_0 hl301_0
             replace p301:=eq_true p301
             replace q301:=eq_true q301
             go_wp2_with (first|(go_at_call 41;(with_reducible refine (wageofficeref43_Same.calls k1 _ _ (rd_L2 l0 x5_1) _ _ (rd_L2 l1 x5_1) false _ ?side1 ?side2 ?side3 ?side4 A7.out).mono ?_);(case side1=>repeat (first|exact HR300_0.out|(with_reducible refine Kd.C_alloc ?_ _)|(with_reducible refine Kd.C_drewN ?_ _)|(with_reducible refine Kd.C_drew ?_)));(case side2=>exact HC300_0.out);(case side3=>repeat (first|exact HR301_0.out|(with_reducible refine Kd.C_alloc ?_ _)|(with_reducible refine Kd.C_drewN ?_ _)|(with_reducible refine Kd.C_drew ?_)));(case side4=>exact HC301_0.out);rintro e w' ⟨rfl,⟨nd,rfl⟩⟩;(try first|exact ⟨rfl,_,World.drewN_drewN _ _ _⟩|exact ⟨rfl,_,Eq.trans (World.drewN_drewN _ _ _) (congrArg (World.drewN _) (Nat.add_assoc _ _ _))⟩)))
             repeat (go_quiet (first|(go_at_call 41;(with_reducible refine (wageofficeref43_Same.calls k1 _ _ (rd_L2 l0 x5_1) _ _ (rd_L2 l1 x5_1) false _ ?side1 ?side2 ?side3 ?side4 A7.out).mono ?_);(case side1=>repeat (first|exact HR300_0.out|(with_reducible refine Kd.C_alloc ?_ _)|(with_reducible refine Kd.C_drewN ?_ _)|(with_reducible refine Kd.C_drew ?_)));(case side2=>exact HC300_0.out);(case side3=>repeat (first|exact HR301_0.out|(with_reducible refine Kd.C_alloc ?_ _)|(with_reducible refine Kd.C_drewN ?_ _)|(with_reducible refine Kd.C_drew ?_)));(case side4=>exact HC301_0.out);rintro e w' ⟨rfl,⟨nd,rfl⟩⟩;(try first|exact ⟨rfl,_,World.drewN_drewN _ _ _⟩|exact ⟨rfl,_,Eq.trans (World.drewN_drewN _ _ _) (congrArg (World.drewN _) (Nat.add_assoc _ _ _))⟩)));try go_wp2_with (first|(go_at_call 41;(with_reducible refine (wageofficeref43_Same.calls k1 _ _ (rd_L2 l0 x5_1) _ _ (rd_L2 l1 x5_1) false _ ?side1 ?side2 ?side3 ?side4 A7.out).mono ?_);(case side1=>repeat (first|exact HR300_0.out|(with_reducible refine Kd.C_alloc ?_ _)|(with_reducible refine Kd.C_drewN ?_ _)|(with_reducible refine Kd.C_drew ?_)));(case side2=>exact HC300_0.out);(case side3=>repeat (first|exact HR301_0.out|(with_reducible refine Kd.C_alloc ?_ _)|(with_reducible refine Kd.C_drewN ?_ _)|(with_reducible refine Kd.C_drew ?_)));(case side4=>exact HC301_0.out);rintro e w' ⟨rfl,⟨nd,rfl⟩⟩;(try first|exact ⟨rfl,_,World.drewN_drewN _ _ _⟩|exact ⟨rfl,_,Eq.trans (World.drewN_drewN _ _ _) (congrArg (World.drewN _) (Nat.add_assoc _ _ _))⟩))))
             go_ret
             exact ⟨by first|rfl|(simp;done)|(simp [*];done),by repeat (first|exact Drawn0.refl _|apply Drawn0.step)⟩
         · rw [if_neg c6] at H
           exact absurd H (by simp)
       · rw [if_neg c5] at H
         exact absurd H (by simp)
     · rw [if_neg c4] at H
       have c4b0:decide (x5_1 < (l0.length:Int))=false:=decide_eq_false c4
       clear c4
       obtain rfl:=Option.some.inj H
       go_wp2
       repeat (go_quiet (fail);try go_wp2)
       go_ret
       exact ⟨by first|rfl|(simp;done)|(simp [*];done),by repeat (first|exact Drawn0.refl _|apply Drawn0.step)⟩
 · rw [if_neg c3] at H
   have c3b0:((l0.length:Int) == (l1.length:Int))=false:=beq_eq_false_iff_ne.mpr c3
   have c3b1:((l0.length:Int) != (l1.length:Int))=true:=bne_iff_ne.mpr c3
   have c3b2:(l0.length == l1.length)=false:=by first|simpa using c3|(simp at c3 ⊢;omega)
   obtain rfl:=Option.some.inj H
   go_enter Try.func39,Try.ntmps39
   go_wp2
   repeat (go_quiet (fail);try go_wp2)
   go_ret
   exact ⟨by first|rfl|(simp;done)|(simp [*];done),by repeat (first|exact Drawn0.refl _|apply Drawn0.step)⟩
end Go.Proofs.Ytfpdmlhknddffaa.Dk
end
section
namespace Go.Proofs.Ytfpdmlhknddffaa.Dk
open Go.RowKit Go.Proofs.YtfpdmlhknddffaaW.PrintWords Go.Proofs.YtfpdmlhknddffaaW.PrintLast Go.Proofs.YtfpdmlhknddffaaW.PrintMore
attribute [local go_sem] field25 field25b max2_int min2_int max_two min_two max_three min_three max_four min_four
set_option linter.unusedVariables false
set_option linter.unusedSimpArgs false
end Go.Proofs.Ytfpdmlhknddffaa.Dk
end
section
namespace Go.Proofs.Ytfpdmlhknddffaa.Dk
open Go.RowKit Go.Proofs.YtfpdmlhknddffaaW.PrintWords Go.Proofs.YtfpdmlhknddffaaW.PrintLast Go.Proofs.YtfpdmlhknddffaaW.PrintMore
set_option linter.unusedVariables false
theorem applyN_app (f:Nat→Int) (l1 m:List S45) (l0:List Int):∀ n,n ≤ l1.length→applyN f (l1 ++ m) l0 n=applyN f l1 l0 n:=by
 intro n
 induction n with
 | zero=>intro _;rfl
 | succ n ih =>
  intro h
  have e:(l1 ++ m).getD n z45=l1.getD n z45:=by simp only [List.getD_eq_getElem?_getD];rw [List.getElem?_append_left (by omega)]
  simp only [applyN]
  rw [ih (by omega),e]
theorem sync_len (l0:List Int) (l1:List S45) (hv:validB l0 l1=true):(syncL l0 l1).length=l0.length:=by
 unfold syncL applyL
 rw [if_pos hv]
 exact applyN_length _ _ _ hv _ (Nat.le_refl _)
theorem keptN_all (n:Nat):keptN (n:Int) n=n:=by unfold keptN;omega
theorem valid_snoc (l0:List Int) (l1:List S45) (a:Int) (l2:List Int) (hv:validB l0 l1=true) (hp:isPartB l0.length a l2.length=true) (h64:l1.length ≠ 64):validB l0 (l1 ++ [⟨a,l2⟩])=true:=by
 obtain ⟨h1,h2,h3⟩:=(validB_iff _ _).1 hv
 obtain ⟨p1,p2,p3,p4⟩:=(isPartB_iff _ _ _).1 hp
 refine (validB_iff _ _).2 ⟨h1,by simp;omega,fun x hx => ?_⟩
 rcases List.mem_append.1 hx with hx|hx
 · exact h3 x hx
 · simp at hx
   subst hx
   exact ⟨p1,by show a + (l2.length:Int) ≤ l0.length;omega⟩
theorem sync_snoc (l0:List Int) (l1:List S45) (a:Int) (l2:List Int) (hv:validB l0 l1=true) (hv2:validB l0 (l1 ++ [⟨a,l2⟩])=true):syncL l0 (l1 ++ [⟨a,l2⟩])=splice (syncL l0 l1) a.toNat l2:=by
 unfold syncL applyL
 rw [if_pos hv,if_pos hv2]
 have e:(l1 ++ [(⟨a,l2⟩:S45)]).length=l1.length + 1:=by simp
 rw [e]
 simp only [applyN]
 rw [applyN_app _ _ _ _ _ (Nat.le_refl _)]
 have e2:(l1 ++ [(⟨a,l2⟩:S45)]).getD l1.length z45=⟨a,l2⟩:=by simp [List.getD_eq_getElem?_getD]
 have e3:wholeK (l1 ++ [(⟨a,l2⟩:S45)]) l1.length=(l2.length:Int):=by unfold wholeK;rw [e2]
 rw [e2,e3]
 show splice _ a.toNat (l2.take (keptN (l2.length:Int) l2.length))=_
 rw [keptN_all,List.take_length]
 congr 1
 refine applyN_congr _ _ _ _ _ (fun i hi => ?_)
 unfold wholeK
 simp only [List.getD_eq_getElem?_getD]
 rw [List.getElem?_append_left hi]
theorem part_whole (n:Nat):isPartB (n:Int) 0 (n:Int)=true:=(isPartB_iff _ _ _).2 (by omega)
end Go.Proofs.Ytfpdmlhknddffaa.Dk
end
section
namespace Go.Proofs.Ytfpdmlhknddffaa.Dk
open Go.RowKit Go.Proofs.YtfpdmlhknddffaaW.PrintWords Go.Proofs.YtfpdmlhknddffaaW.PrintLast Go.Proofs.YtfpdmlhknddffaaW.PrintMore
set_option linter.unusedVariables false
end Go.Proofs.Ytfpdmlhknddffaa.Dk
end
section
namespace Go.Proofs.Ytfpdmlhknddffaa.Dk
open Go.RowKit Go.Proofs.YtfpdmlhknddffaaW.PrintWords Go.Proofs.YtfpdmlhknddffaaW.PrintLast Go.Proofs.YtfpdmlhknddffaaW.PrintMore
set_option linter.unusedVariables false
def apart (x y:S45):Prop:=y.f0 + (y.f1.length:Int) ≤ x.f0∨x.f0 + (x.f1.length:Int) ≤ y.f0
end Go.Proofs.Ytfpdmlhknddffaa.Dk
end
section
namespace Go.Proofs.Ytfpdmlhknddffaa.Dk
open Go.RowKit Go.Proofs.YtfpdmlhknddffaaW.PrintWords Go.Proofs.YtfpdmlhknddffaaW.PrintLast Go.Proofs.YtfpdmlhknddffaaW.PrintMore
set_option linter.unusedVariables false
theorem kept_at {k:IntKind} {w:World} {A:Option Addr} {xs:List Int} (h:Kd.C (Kd.int k) w A xs.length xs) (hn:0 < xs.length):∃ ad,A=some ad∧∀ i,i < xs.length→w.cell? (ad.add i)=some (.int k (xs.getD i 0)):=by
 obtain ⟨ad,e,hc⟩:=h.2.2 hn
 refine ⟨ad,e,fun i hi => ?_⟩
 obtain ⟨c,hl,hK,hcell⟩:=hc i _ (List.getElem?_eq_getElem hi)
 have hK2:c=[.int k xs[i]]:=hK
 subst hK2
 have h0:w.cell? (ad.add (i * 1 + 0))=some (.int k xs[i]):=hcell 0 _ rfl
 rw [Nat.mul_one,Nat.add_zero] at h0
 rw [h0]
 simp [List.getD_eq_getElem?_getD,hi]
def St (w W:World) (B g1 g2 g3:Nat) (c1 c2 c3:Array Value):Prop:=W.heap[g1]? = some (.cells c1 25 (0,0))∧W.heap[g2]? = some (.cells c2 45 (0,0))∧W.heap[g3]? = some (.cells c3 45 (0,0))∧Below w.heap.size w W∧B ≤ W.heap.size∧g1 < B∧g2 < B∧g3 < B∧w.heap.size ≤ B
section
variable {w W W1:World} {B g1 g2 g3:Nat} {c1 c2 c3:Array Value}
theorem St.below (h:St w W B g1 g2 g3 c1 c2 c3) (hb:Below W.heap.size W W1):St w W1 B g1 g2 g3 c1 c2 c3:=by
 obtain ⟨h1,h2,h3,h4,h5,h6⟩:=h
 exact ⟨blk_below h1 hb,blk_below h2 hb,blk_below h3 hb,below_then h4 h4.size hb,Nat.le_trans h5 hb.size,h6⟩
theorem St.alloc (h:St w W B g1 g2 g3 c1 c2 c3) (o:Obj):St w (W.alloc o) B g1 g2 g3 c1 c2 c3:=h.below (below_alloc (Below.refl _ _) o)
theorem St.grown (h:St w W B g1 g2 g3 c1 c2 c3) {row:Option Nat} (hg:W.grownBy W1 row) (hr:∀ k,row=some k→B ≤ k):St w W1 B g1 g2 g3 c1 c2 c3:=by
 obtain ⟨h1,h2,h3,h4,h5,h6,h7,h8,h9⟩:=h
 have hne:∀ g,g < B→some g ≠ row:=fun g hg he=>by have:=hr g he.symm;omega
 exact ⟨blk_grown h1 hg (hne _ h6),blk_grown h2 hg (hne _ h7),blk_grown h3 hg (hne _ h8),pw_below_grown h4 row h4.size hg (fun k hk=>Nat.le_trans h9 (hr k hk)),Nat.le_trans h5 hg.size,h6,h7,h8,h9⟩
theorem St.set (h:St w W B g1 g2 g3 c1 c2 c3) (p:Addr) (hp:B ≤ p.block) (u:Value):St w (W.setCell p u) B g1 g2 g3 c1 c2 c3:=by
 obtain ⟨h1,h2,h3,h4,h5,h6,h7,h8,h9⟩:=h
 exact ⟨blk_far h1 (by omega) u,blk_far h2 (by omega) u,blk_far h3 (by omega) u,h4.setCell (by omega) u,by simpa using h5,h6,h7,h8,h9⟩
end
end Go.Proofs.Ytfpdmlhknddffaa.Dk
end
section
namespace Go.Proofs.Ytfpdmlhknddffaa.Dk
open Go.RowKit Go.Proofs.YtfpdmlhknddffaaW.PrintWords Go.Proofs.YtfpdmlhknddffaaW.PrintLast Go.Proofs.YtfpdmlhknddffaaW.PrintMore
set_option linter.unusedVariables false
theorem range_told {α:Type} {F:Fence} {n:Nat} {P:Program} {g:Operand} {ps:Array Tmp} {assign body:Code} {Q:Exit→Act→World→Prop} {a:Act} {w:World}
 (hro:F.round=none) (h1:1 ≤ n) {gf:Nat} {lb:Array Value} (hg:a.eval g=.func (.func gf) #[] lb) (hFg:F.fn gf) (eg:∀ args w,(callFunc gf args).run P w=.ok (.enter gf args) w)
 {encs:α→Array Value} {N:Nat} {C:Nat→α→World→Prop} {Kp:World→World→Prop} {S:List α→Prop}
 (hseq:∀ (l:Nat) (J:List α→Nat→World→Prop) (W:World),Below w.heap.size w W→w.heap.size ≤ l→(∀ s m A B,J s m A→A.grownBy B none→J s m B) →
  (∀ pre m x W1,J pre m W1→C m x W1→pre.length < N→YieldAt F (n - 1 - 1) P l (encs x) W1 fun e W'=>e=.returned (.bool true)∧J (pre ++ [x]) W'.heap.size W'∧Kp W1 W')→(∃ m,m ≤ W.heap.size∧J [] m W) →
  CallsIn F (n - 1) P gf (#[.func (.yield l) #[] #[]] ++ lb) W fun e W'=>(∃ v,e=.returned v)∧∃ xs m,S xs∧J xs m W')
 (hKt:∀ {A B D:World},Kp A B→Kp B D→Kp A D) (hKb:∀ (W:World) (l:Nat) (o o':Obj),w.heap.size ≤ l→W.heap[l]? = some o→o.isCells=false→o.isWalk=false→Kp W (W.putObj l o')) (hps:∀ x,(encs x).size=ps.size)
 (hC:OwnFrom w.heap.size (fun (s:Nat × α) W=>C s.1 s.2 W)) (I:List α→Nat→World→Prop) (hI:OwnFrom w.heap.size (fun (s:List α × Nat) W=>I s.1 s.2 W)) (h0:I [] w.heap.size w) (a₁:α→Act)
 (hassign:∀ (l:Nat) (x:α) (W:World) (K:Act→World→Prop),K (a₁ x) W →
  assign.wpIn (F.inRound l) (n - 1 - 1) P (Exit.then K (fun _ _ _=>False)) { tmps:=(ps.zip (encs x)).foldl (fun t (p,v)=>t.setIfInBounds p v) a.tmps,defers:=[] } W)
 (hbody:∀ (l:Nat) (pre:List α) (m:Nat) (x:α) (W:World),I pre m W→C m x W→pre.length < N→body.wpIn (F.inRound l) (n - 1 - 1) P (ownPostK Kp (fun xs W'=>I xs W'.heap.size W') (fun _ _ _=>False) (pre ++ [x]) W) (a₁ x) W)
 (hdone:∀ (D:Nat) (xs:List α) (m:Nat) (W:World),w.heap.size ≤ D→S xs→I xs m W→W.heap[D]? = some (.deferred (some []))→Q .normal { a with defers:={ target:=.collected D,args:=#[] } :: a.defers } W) :
 (Code.rangeFunc g ps assign body).wpIn F n P Q a w:=by
 refine wpIn_rangeFunc fun fn hfn => ?_
 rw [hro]
 let rec_:LoopState→Option Code→Loop:=fun st pe=>{ state:=st,pending:=pe,fn,tmps:=a.tmps,params:=ps,assign,body,defers:=w.heap.size }
 obtain ⟨rec,hrec⟩:∃ rec:LoopState→Option Code→Loop,rec=rec_:=⟨_,rfl⟩
 let D:=w.heap.size
 obtain ⟨W1,hW1⟩:∃ W1,(w.alloc (.deferred (some []))).alloc (.loop (rec .ready none))=W1:=⟨_,rfl⟩
 have hIp:∀ {pre m A} (l:Nat) (o o':Obj),I pre m A→w.heap.size ≤ l→A.heap[l]? = some o→o.isCells=false→I pre m (A.putObj l o'):=fun {pre m A} l o o' h h1 h2 h3=>hI.putObj (s:=(pre,m)) o' h h1 h2 h3
 have hIa:∀ {pre m A} (o:Obj),I pre m A→I pre m (A.alloc o):=fun {pre m A} o h=>hI.alloc (s:=(pre,m)) o h
 have rdy:W1.heap[D + 1]? = some (.loop (rec .ready none)):=by
  have z:=World.alloc_heap_new (w.alloc (.deferred (some []))) (.loop (rec .ready none))
  rw [World.size_alloc] at z
  rw [← hW1]
  exact z
 have dfr:W1.heap[D]? = some (.deferred (some [])):=by
  rw [← hW1]
  exact (Below.heap_alloc _ _ _ (by simp [D])).trans (World.alloc_heap_new w _)
 have blw:Below w.heap.size w W1:=by
  rw [← hW1]
  exact ((Below.refl _ w).alloc (Nat.le_refl _) _).alloc (by simp) _
 have hI1:I [] w.heap.size W1:=by rw [← hW1];exact hIa _ (hIa _ h0)
 refine ⟨D + 1,[{ target:=.collected D,args:=#[] }],W1,{ target:=.fn (.func gf) lb,args:=#[.func (.yield (D + 1)) #[] #[]] },W1,gf,#[.func (.yield (D + 1)) #[] #[]] ++ lb,W1,?_,?_,?_,?_,fun _=>h1,?_⟩
 · rw [← hW1,hrec];exact run_enterLoop_outer _ _ _ _ _
 · simp only [resolve,hg]
   simp [go_sem]
 · intro f' hf';simp [Target.leads] at hf';subst hf';exact hFg
 · simp [invoke,go_sem,eg]
 · refine (hseq (D + 1) (fun pre m W=>I pre m W∧W.heap[D + 1]? = some (.loop (rec .ready none))∧W.heap[D]? = some (.deferred (some []))) W1 blw (by simp [D])
    (fun s m A B hs hgr=>⟨hI (s,m) A B none hs.1 hgr (fun r e=>by cases e),blk_grown hs.2.1 hgr (by simp),blk_grown hs.2.2 hgr (by simp)⟩) ?_ ⟨w.heap.size,blw.size,hI1,rdy,dfr⟩).mono ?_
   · rintro pre m x W ⟨hi,hl,hk⟩ hc hN
     have hlt:D + 1 < W.heap.size:=blk_lt hl
     have hy:=run_yield (P:=P) (args:=encs x) hl (by rw [hrec];exact hps x)
     rw [hrec] at hy
     refine ⟨fn,_,assign,body,hy,roundIn_of_wpIn hfn (hassign _ x W _ ⟨_,run_beginRound hl (by rw [hrec]),?_⟩)⟩
     obtain ⟨busy,hbusy⟩:∃ b:Obj,b=.loop { rec .ready none with state:=.busy }:=⟨_,rfl⟩
     have b1:(W.putObj (D + 1) busy).heap[D + 1]? = some busy:=World.putObj_heap_same hlt
     have b2:(W.putObj (D + 1) busy).heap[D]? = some (.deferred (some [])):=(World.putObj_heap_other (by omega)).trans hk
     have kp1:Kp W (W.putObj (D + 1) busy):=hKb _ _ _ _ (by simp [D]) hl rfl rfl
     rw [hbusy] at b1 b2 kp1
     refine wpIn_mono (hbody _ pre m x _ (hIp _ _ _ hi (by simp [D]) hl rfl) (hC.putObj (s:=(m,x)) _ hc (by simp [D]) hl rfl) hN) ?_
     rintro e a3 W3 hp
     cases e with
     | normal =>
      obtain ⟨ko,kp3,hi3⟩:=hp
      have e1:=ko.same _ _ b1 rfl
      have er:=run_endRound (P:=P) none e1
      rw [hrec] at er e1
      refine ⟨_,_,er,rfl,⟨?_,?_,?_⟩,hKt (hKt kp1 kp3) (hKb _ _ _ _ (by simp [D]) e1 rfl rfl)⟩
      · rw [show (W3.putObj (D + 1) _).heap.size=W3.heap.size by simp [World.putObj]]
        exact hIp _ _ _ hi3 (by simp [D]) e1 rfl
      · rw [hrec];exact World.putObj_heap_same (blk_lt e1)
      · exact (World.putObj_heap_other (by omega)).trans (ko.same _ _ b2 rfl)
     | ret=>exact hp.2.elim
     | exit id=>exact hp.2.elim
     | goto t=>exact hp.2.elim
     | panic ch=>exact hp.elim
     | outgrown=>exact hp.elim
   · rintro e W2 ⟨⟨v,rfl⟩,xs,m,hs,hi,hl,hk⟩
     have en:=run_endLoop (P:=P) hl (by rw [hrec];simp [rec_])
     rw [hrec] at en hl
     exact ⟨none,_,en,hdone _ xs m _ (Nat.le_refl _) hs (hIp _ _ _ hi (by simp [D]) hl rfl) ((World.putObj_heap_other (by omega)).trans hk)⟩
end Go.Proofs.Ytfpdmlhknddffaa.Dk
end
section
namespace Go.Proofs.Ytfpdmlhknddffaa.Dk
open Go.RowKit Go.Proofs.YtfpdmlhknddffaaW.PrintWords Go.Proofs.YtfpdmlhknddffaaW.PrintLast Go.Proofs.YtfpdmlhknddffaaW.PrintMore
attribute [local go_sem] field25 field25b max2_int min2_int max_two min_two max_three min_three max_four min_four
set_option linter.unusedVariables false
set_option linter.unusedSimpArgs false
end Go.Proofs.Ytfpdmlhknddffaa.Dk
end
section
namespace Go.Proofs.Ytfpdmlhknddffaa.Dk
open Go.RowKit Go.Proofs.YtfpdmlhknddffaaW.PrintWords Go.Proofs.YtfpdmlhknddffaaW.PrintLast Go.Proofs.YtfpdmlhknddffaaW.PrintMore
set_option linter.unusedVariables false
set_option linter.unusedSimpArgs false
theorem equal_calls (A0:Option Addr) (c0:Nat) (l0:List Int) (A1:Option Addr) (c1:Nat) (l1:List Int) (w:World) (h0:Kd.C (Kd.int .u8) w A0 l0.length l0) (h1:Kd.C (Kd.int .u8) w A1 l1.length l1) :
 Calls Try.prog 63 #[.slice A0 l0.length c0,.slice A1 l1.length c1] w fun e w'=>e=.returned (.bool ((strOfNums l0).toList == (strOfNums l1).toList))∧Below w.heap.size w w':=by
 have hu9:=Try.underlying9
 have hcv0:=Kd.C_string (P:=Try.prog) (A:=A0) (c:=c0) Try.underlying22 Try.underlying5 Try.underlying9 h0
 have hcv1:=Kd.C_string (P:=Try.prog) (A:=A1) (c:=c1) Try.underlying22 Try.underlying5 Try.underlying9 h1
 clear h0 h1
 go_enter Try.func63,Try.ntmps63
 go_wp2
 go_ret
 exact ⟨rfl,Below.refl _ _⟩
end Go.Proofs.Ytfpdmlhknddffaa.Dk
end
section
namespace Go.Proofs.Ytfpdmlhknddffaa.Dk
open Go.RowKit Go.Proofs.YtfpdmlhknddffaaW.PrintWords Go.Proofs.YtfpdmlhknddffaaW.PrintLast Go.Proofs.YtfpdmlhknddffaaW.PrintMore
set_option linter.unusedVariables false
def numL (size:Nat) (n:Int):List Int:=(List.range size).map fun j=>shr .u64 n (8 * ((size - 1 - j:Nat):Int)) % 256
theorem numL_length (size:Nat) (n:Int):(numL size n).length=size:=by simp [numL]
theorem numL_take (size:Nat) (n:Int) (j:Nat) (h:j < size):(numL size n).take (j + 1)=(numL size n).take j ++ [shr .u64 n (8 * ((size - 1 - j:Nat):Int)) % 256]:=by
 have hg:(numL size n)[j]? = some (shr .u64 n (8 * ((size - 1 - j:Nat):Int)) % 256):=by
  unfold numL
  rw [List.getElem?_map,List.getElem?_range h]
  rfl
 rw [List.take_add_one,hg]
 rfl
theorem number_inner (out:List Int) (size:Nat) (n:Int) (l:List Int) (i:Nat) (hs:size ≤ 8) (ho:out.length + 8 < 140737488355328) (ln:Int) {R:List Int}
 (hnext:Ev (fun k=>journal_number.l0 k (out ++ numL size n) (size:Int) l ln (wrap64 ((i:Int) + 1))) R) :
 Ev (fun k=>journal_number.l1 k out (size:Int) n (wrap64 ((size:Int) - 1)) l ln (i:Int)) R:=by
 have key:=ev_down (n:=size) (g:=fun j k=>journal_number.l1 k (out ++ (numL size n).take j) (size:Int) n ((size:Int) - 1 - (j:Int)) l ln (i:Int)) (r:=fun _=>R)
  (by
   rw [List.take_of_length_le (by rw [numL_length];exact Nat.le_refl _)]
   refine Ev.step (f:=fun k=>journal_number.l0 k (out ++ numL size n) (size:Int) l ln (wrap64 ((i:Int) + 1))) (fun k => ?_) hnext
   simp only [journal_number.l1]
   rw [if_neg (by omega)])
  (by
   intro j hj ih
   have hw:wrap64 (8 * ((size:Int) - 1 - (j:Int)))=8 * ((size - 1 - j:Nat):Int):=by unfold wrap64;omega
   have hw2:wrap64 ((size:Int) - 1 - (j:Int) - 1)=(size:Int) - 1 - ((j + 1:Nat):Int):=by unfold wrap64;omega
   refine Ev.step (f:=fun k=>journal_number.l1 k (out ++ (numL size n).take (j + 1)) (size:Int) n ((size:Int) - 1 - ((j + 1:Nat):Int)) l ln (i:Int)) (fun k => ?_) ih
   simp only [journal_number.l1]
   rw [if_pos (by omega),hw,if_pos (by omega),if_pos (by rw [List.length_append,List.length_take];omega),hw2,numL_take size n j hj,List.append_assoc])
 have h0:=key 0 (by omega)
 have e1:wrap64 ((size:Int) - 1)=(size:Int) - 1 - ((0:Nat):Int):=by unfold wrap64;omega
 rw [e1]
 simpa using h0
theorem number_ev (size:Nat) (hs:size ≤ 8) (l:List Int) (hl:l.length ≤ 100) (out:List Int) (ho:out.length + 8 * l.length + 8 < 140737488355328):Ev (fun k=>journal_number.f k out (size:Int) l) (out ++ l.flatMap (numL size)):=by
 have hfl:∀ m,m ≤ l.length→((l.take m).flatMap (numL size)).length ≤ 8 * m:=by
  intro m
  induction m with
  | zero=>intro _;simp
  | succ m ih =>
   intro hm
   rw [List.take_succ_eq_append_getElem (by omega),List.flatMap_append,List.length_append]
   have:=ih (by omega)
   simp only [List.flatMap_cons,List.flatMap_nil,List.append_nil,numL_length]
   omega
 have key:=ev_down (n:=l.length) (g:=fun i k=>journal_number.l0 k (out ++ (l.take i).flatMap (numL size)) (size:Int) l (l.length:Int) (i:Int)) (r:=fun _=>out ++ l.flatMap (numL size))
  (by
   rw [List.take_length]
   refine Ev.step (f:=fun _=>some (out ++ l.flatMap (numL size))) (fun k => ?_) (Ev.now _)
   simp only [journal_number.l0]
   rw [if_neg (by omega)])
  (by
   intro i hi ih
   have h8:=hfl i (by omega)
   refine Ev.step (f:=fun k=>journal_number.l1 k (out ++ (l.take i).flatMap (numL size)) (size:Int) (rd l (i:Int)) (wrap64 ((size:Int) - 1)) l (l.length:Int) (i:Int)) (fun k => ?_) ?_
   · simp only [journal_number.l0]
     rw [if_pos (by omega),if_pos (by omega),if_pos (by omega)]
   · refine number_inner _ size _ l i hs (by rw [List.length_append];omega) _ ?_
     have e:wrap64 ((i:Int) + 1)=((i + 1:Nat):Int):=wrap_succ (n:=l.length) hi (by omega)
     rw [e,rd_nat hi]
     have e2:(out ++ (l.take i).flatMap (numL size)) ++ numL size l[i]=out ++ (l.take (i + 1)).flatMap (numL size):=by
      rw [List.take_succ_eq_append_getElem hi,List.flatMap_append,List.append_assoc]
      simp
     rw [e2]
     exact ih)
 have h0:=key 0 (by omega)
 simpa [journal_number.f] using h0
def headL (r:List Int) (k:Int):List Int:=numL 2 (IntKind.u64.wrap (r.length:Int)) ++ numL 2 (IntKind.u64.wrap (Go.bits .and .i64 k 65535))
def encL (r:List Int) (k:Int):List Int:=[82] ++ headL r k ++ numL 8 (sumS (strOfNums (headL r k) ++ strOfNums r)) ++ r
theorem headL_length (r:List Int) (k:Int):(headL r k).length=4:=by simp [headL,numL_length]
theorem encL_length (r:List Int) (k:Int):(encL r k).length=13 + r.length:=by simp [encL,headL_length,numL_length];omega
theorem encode_ev (r:List Int) (k0:Int) (hr:r.length ≤ 1000000000):Ev (fun k=>journal_encode.f k r k0) (encL r k0):=by
 have hs1:(strOfNums (headL r k0) ++ strOfNums r).size=4 + r.length:=by
  rw [ByteArray.size_append,strOfNums_size,strOfNums_size,headL_length]
 unfold journal_encode.f
 refine Ev.bind (a:=headL r k0) (ev_eq (number_ev 2 (by decide) _ (by simp) [] (by simp)) (by simp [headL])) ?_
 have e1:(strOfNums (headL r k0)).size + (strOfNums r).size ≤ 9223372036854775807:=by rw [strOfNums_size,strOfNums_size,headL_length];omega
 have e2:digest_Sum.f (strOfNums (headL r k0) ++ strOfNums r)=some (sumS (strOfNums (headL r k0) ++ strOfNums r)):=by
  unfold digest_Sum.f
  rw [if_pos (by omega)]
 refine Ev.congr (f:=fun k=>(journal_number.f k ([82] ++ headL r k0) 8 [sumS (strOfNums (headL r k0) ++ strOfNums r)]).bind fun t=>if t.length + r.length < 140737488355328 then some (t ++ r) else none) (fun k => ?_) ?_
 · rw [if_pos e1,e2]
   simp only [Option.bind_some]
   rw [if_pos (by simp [headL_length])]
 · refine Ev.bind (f:=fun k t=>if t.length + r.length < 140737488355328 then some (t ++ r) else none) (number_ev 8 (by decide) [sumS (strOfNums (headL r k0) ++ strOfNums r)] (by simp) ([82] ++ headL r k0) (by simp [headL_length])) ?_
   refine Ev.congr (f:=fun _=>some (encL r k0)) (fun k => ?_) (Ev.now _)
   rw [if_pos (by simp [headL_length,numL_length];omega)]
   simp [encL]
end Go.Proofs.Ytfpdmlhknddffaa.Dk
end
section
namespace Go.Proofs.Ytfpdmlhknddffaa.Dk
open Go.RowKit Go.Proofs.YtfpdmlhknddffaaW.PrintWords Go.Proofs.YtfpdmlhknddffaaW.PrintLast Go.Proofs.YtfpdmlhknddffaaW.PrintMore
set_option linter.unusedVariables false
theorem wraps_i64 (n:Int) (h₀:0 ≤ n) (h₁:n < 2 ^ 63):IntKind.i64.wrap n=n:=by rw [IntKind.wrap_i64];omega
theorem i64_or8 {x y:Int} (hx₀:0 ≤ x) (hx:x % 256=0) (hx₁:x < 9223372036854775808) (h₀:0 ≤ y) (h₁:y < 256):bits .or .i64 x y=x + y :=
 bits_join .i64 63 (by decide) wraps_i64 8 x y hx₀ hx hx₁ h₀ h₁ (by omega)
def numAt (b:List Int) (at_:Nat):Int:=bits .or .i64 (IntKind.i64.wrap (IntKind.i64.wrap (b.getD (at_ + 1) 0) * 256)) (IntKind.i64.wrap (b.getD (at_ + 2) 0))
theorem numAt_eq {b:List Int} {at_:Nat} (h1:0 ≤ b.getD (at_ + 1) 0∧b.getD (at_ + 1) 0 ≤ 255) (h2:0 ≤ b.getD (at_ + 2) 0∧b.getD (at_ + 2) 0 ≤ 255):numAt b at_=256 * b.getD (at_ + 1) 0 + b.getD (at_ + 2) 0:=by
 obtain ⟨x,hx⟩:∃ x,x=b.getD (at_ + 1) 0:=⟨_,rfl⟩
 obtain ⟨y,hy⟩:∃ y,y=b.getD (at_ + 2) 0:=⟨_,rfl⟩
 unfold numAt
 rw [← hx] at h1 ⊢
 rw [← hy] at h2 ⊢
 rw [wraps_i64 x h1.1 (by omega),wraps_i64 (x * 256) (by omega) (by omega),wraps_i64 y h2.1 (by omega),i64_or8 (by omega) (by omega) (by omega) h2.1 (by omega)]
 omega
theorem cut_seg {A:Option Addr} {c:Nat} {b:List Int} {w:World} (h:Kd.C (Kd.int .u8) w A b.length b) (hc:b.length ≤ c) (lo hi:Nat) (loI hiI:Int) (e0:loI=lo) (e1:hiI=hi) (h1:lo ≤ hi) (h2:hi ≤ b.length) :
 ∃ dp,(∀ W:World,(Instr.slice 22 (.slice A b.length c) (some (.int .i64 loI)) (some (.int .i64 hiI)) none).run Try.prog W=.ok (.slice dp ((b.take hi).drop lo).length (c - lo)) W)∧Kd.C (Kd.int .u8) w dp ((b.take hi).drop lo).length ((b.take hi).drop lo)∧((b.take hi).drop lo).length ≤ c - lo:=by
 subst e0;subst e1
 obtain ⟨i5,hi5,hz5,hs5,hy5⟩:=info_parts info5
 have hl:((b.take hi).drop lo).length=hi - lo:=by rw [List.length_drop,List.length_take];omega
 have hcut:=cut_mid (P:=Try.prog) 22 5 .i64 .i64 Try.underlying22 hi5 1 hs5 A b.length c (lo:Int) (hi:Int) (by omega) (by omega) (by omega) hc
 have hmid:=Kd.C_mid (lo:=lo) (hi:=hi) (c:=c) h h1 h2 hc
 simp only [Int.toNat_natCast] at hcut
 rw [← hl] at hcut
 exact ⟨_,hcut,hmid,by rw [hl];omega⟩
end Go.Proofs.Ytfpdmlhknddffaa.Dk
end
section
namespace Go.Proofs.Ytfpdmlhknddffaa.Dk
open Go.RowKit Go.Proofs.YtfpdmlhknddffaaW.PrintWords Go.Proofs.YtfpdmlhknddffaaW.PrintLast Go.Proofs.YtfpdmlhknddffaaW.PrintMore
set_option linter.unusedVariables false
set_option linter.unusedSimpArgs false
def recEq (b:List Int) (k at_ n:Nat):Bool:=(strOfNums (encL ((b.take (at_ + 13 + n)).drop (at_ + 13)) (k:Int))).toList == (strOfNums ((b.take (at_ + 13 + n)).drop at_)).toList
def recAt (b:List Int) (k at_:Nat):Option (List Int × Nat) :=
 if at_ + 13 < b.length∧0 < (numAt b at_).toNat∧(numAt b at_).toNat ≤ 4096∧at_ + 13 + (numAt b at_).toNat ≤ b.length∧recEq b k at_ (numAt b at_).toNat=true
 then some ((b.take (at_ + 13 + (numAt b at_).toNat)).drop (at_ + 13),at_ + 13 + (numAt b at_).toNat) else none
def IsRecs (b:List Int):Nat→Nat→List (List Int × Nat)→Prop
 | k,at_,[]=>recAt b k at_=none
 | k,at_,x :: L=>recAt b k at_=some x∧IsRecs b (k + 1) x.2 L
def recsF:Nat→List Int→Nat→Nat→List (List Int × Nat)
 | 0,_,_,_=>[]
 | f + 1,b,k,at_=>match recAt b k at_ with
  | none=>[]
  | some x=>x :: recsF f b (k + 1) x.2
def recs (b:List Int):List (List Int × Nat):=recsF (b.length + 1) b 0 0
theorem recAt_lt {b:List Int} {k at_:Nat} {x:List Int × Nat} (h:recAt b k at_=some x):at_ + 14 ≤ x.2∧x.2 ≤ b.length∧x.1.length=x.2 - (at_ + 13)∧x.1.length ≤ 4096:=by
 unfold recAt at h
 split at h
 · injection h with h
   subst h
   simp
   omega
 · cases h
theorem isRecs_recsF (b:List Int):∀ (f k at_:Nat),b.length < at_ + f→IsRecs b k at_ (recsF f b k at_):=by
 intro f
 induction f with
 | zero =>
  intro k at_ h
  show recAt b k at_=none
  unfold recAt
  rw [if_neg (by omega)]
 | succ f ih =>
  intro k at_ h
  unfold recsF
  cases hr:recAt b k at_ with
  | none=>exact hr
  | some x=>exact ⟨hr,ih _ _ (by have:=recAt_lt hr;omega)⟩
theorem isRecs_uniq (b:List Int):∀ (L M:List (List Int × Nat)) (k at_:Nat),IsRecs b k at_ L→IsRecs b k at_ M→L=M:=by
 intro L
 induction L with
 | nil =>
  intro M k at_ h1 h2
  cases M with
  | nil=>rfl
  | cons y M=>have h1':recAt b k at_=none:=h1;rw [h2.1] at h1';cases h1'
 | cons x L ih =>
  intro M k at_ h1 h2
  cases M with
  | nil=>have h2':recAt b k at_=none:=h2;rw [h1.1] at h2';cases h2'
  | cons y M =>
   have e:=h1.1.symm.trans h2.1
   injection e with e
   subst e
   rw [ih M _ _ h1.2 h2.2]
theorem isRecs_recs (b:List Int):IsRecs b 0 0 (recs b):=isRecs_recsF b _ 0 0 (by omega)
abbrev RecV:=Value × List Int × Nat
def recEncs (x:RecV):Array Value:=#[x.1,.int .i64 (x.2.2:Int)]
def RecC (base:Nat) (m:Nat) (x:RecV) (W:World):Prop:=Kd.R (Kd.int .u8) 5 W base (fun _=>True) x.1 x.2.1∧(∀ k,x.1.ownBlock=some k→m ≤ k)∧x.2.1.length ≤ 4096
def RecKp (n0 Bx:Nat) (W W':World):Prop:=Below n0 W W'∧W'.heap[Bx]? = W.heap[Bx]?
def RecS (b:List Int) (xs:List RecV):Prop:=xs.map (·.2)=recs b
theorem grown_of_below {W W':World} (h:Below W.heap.size W W'):W.grownBy W' none:=⟨h.os,h.tape,h.output,h.size,fun k hk _=>h.block k hk⟩
theorem C_under {k:IntKind} {w w1:World} {n0:Nat} {A:Option Addr} {n:Nat} {xs:List Int} (h:Kd.C (Kd.int k) w A n xs) (hb:Below n0 w w1) (hA:∀ ad,A=some ad→ad.block < n0):Kd.C (Kd.int k) w1 A n xs:=by
 refine ⟨h.1,h.2.1,fun hp => ?_⟩
 obtain ⟨ad,e,hc⟩:=h.2.2 hp
 refine ⟨ad,e,fun j p hj => ?_⟩
 obtain ⟨c,hc1,hc2,hc3⟩:=hc j p hj
 refine ⟨c,hc1,hc2,fun i u hu => ?_⟩
 have hl:(ad.add (j * (Kd.int k).sz + i)).block < n0:=by
  have:(ad.add (j * (Kd.int k).sz + i)).block=ad.block:=by unfold Addr.add;split <;> rfl
  rw [this];exact hA ad e
 exact (hb.cell hl).trans (hc3 i u hu)
theorem own_all {W:World} {base:Nat} {e:TypeId} {size n:Nat} {v:Value} {xs:List Value} (h:W.ownsRow base e size v n xs) (hn:0 < n):∃ g cap cur,v=.slice (some ⟨g,0,none⟩) n cap∧base ≤ g∧W.heap[g]? = some (.cells (cur:List Value).toArray e (0,0))∧n ≤ cap∧cap ≤ maxLen∧cur.length=cap * size:=by
 rcases h.2 with ⟨_,h3⟩|⟨g',cap',cur,h3,h4,h5,h6,h7,h8,h9⟩
 · omega
 · exact ⟨g',cap',cur.toList,h3,h4,by simpa using h5,h6,h7,by simpa using h8⟩
theorem R_filled {W:World} {base g cap:Nat} {cur:List Value} {xs:List Int} (hg:W.heap[g]? = some (.cells (splice cur 0 (xs.map (Value.int .u8))).toArray 5 (0,0))) (hb:base ≤ g) (h1:xs.length ≤ cap) (h2:cap ≤ maxLen) (h3:cur.length=cap * 1) :
 Kd.R (Kd.int .u8) 5 W base (fun _=>True) (.slice (some ⟨g,0,none⟩) xs.length cap) xs:=by
 refine Kd.R_of_own (enc:=Value.int .u8) ⟨by simp [encs],.inr ⟨g,cap,_,rfl,hb,hg,h1,h2,?_,?_⟩⟩ (fun _ _=>trivial)
 · simp [splice]
   omega
 · simp [splice,encs]
theorem roundIn_any {P:Program} {m n l:Nat} {f:FuncId} {tmps:Array Value} {assign body:Code} {w:World} {R:Ending→World→Prop} (h:RoundIn Fence.wide m P l f tmps assign body w R):RoundIn Fence.wide n P l f tmps assign body w R:=⟨h.1,fun c cs _=>h.2 c cs (room_wide _)⟩
end Go.Proofs.Ytfpdmlhknddffaa.Dk
end
