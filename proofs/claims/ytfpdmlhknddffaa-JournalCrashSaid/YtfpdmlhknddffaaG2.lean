/- Contracts of functions, and plain laws, that the statement's proof uses; printed and joined by programs of this session. -/
import Derived.Test.YtfpdmlhknddffaaG1
import Derived.Test.YtfpdmlhknddffaaProg
import Derived.Below
import Derived.Deep.Draws
import Derived.Deep.AppendLies
import Derived.Maps.AppendAt
import Derived.OwnWalk
import Derived.Laws.BytesArg
import Derived.Laws.MakeOwn
import Derived.Laws.OwnMore
import Derived.Deep.OwnRows
import Derived.Tactics
import Derived.Lib.ConvBytes
import Derived.Laws.Slices
import Derived.WalkKit
import Derived.KernelRfl
import Derived.RowKit3
import Derived.Deep.LoopGhost
import Derived.Deep.QuietTactic
import Derived.BigQuiet
import Derived.WideLaws
import Derived.Deep.DeepCutAuto
import Derived.Deep.CutBlock
import Derived.Deep.RegionHeld3
import Derived.Laws.Rows
import Derived.Lib.AppendStr
import Derived.ArgAppend
import Derived.Laws.IdiomCopy
import Derived.OrdersHeld
import Derived.Laws.BitsLemmas
import Derived.RowKit
import Derived.Outline
import Derived.Lib.Hide
import Derived.WalkSpells
import Derived.Laws.CopyOwn
import Derived.StillTailTactics
section
namespace Go.Proofs.Ytfpdmlhknddffaa.Dk
open Go.RowKit Go.Proofs.YtfpdmlhknddffaaW.PrintWords Go.Proofs.YtfpdmlhknddffaaW.PrintLast Go.Proofs.YtfpdmlhknddffaaW.PrintMore
attribute [local go_sem] max2_int min2_int max_two min_two max_three min_three max_four min_four
set_option linter.unusedVariables false
set_option linter.unusedSimpArgs false
def errW:Option Int→Value
 | none=>.nilIface
 | some c=>.iface 0 (.int .i64 c)
theorem errW_none:errW none=.nilIface:=rfl
theorem errW_some (c:Int):errW (some c)=.iface 0 (.int .i64 c):=rfl
theorem info3:(Try.prog.info? 3).map (fun i=>(i.zero,i.size,i.bytes))=some (some (.int .i64 0),1,8):=by kernel_rfl
theorem info5:(Try.prog.info? 5).map (fun i=>(i.zero,i.size,i.bytes))=some (some (.int .u8 0),1,1):=by kernel_rfl
theorem info45:(Try.prog.info? 45).map (fun i=>(i.zero,i.size,i.bytes))=some (some (.agg #[(.int .i64 0),(.slice none 0 0)]),2,32):=by kernel_rfl
def rd_L2 (xs:List (List Int)) (i:Int):(List Int):=xs.getD i.toNat ([]:List Int)
theorem at_L2 {w:World} {A:Option Addr} {n:Nat} {xs:List (List Int)} (h:Kd.C (Kd.slice 5 (Kd.int .u8)) w A n xs) (i:Int) (h0:0 ≤ i) (h1:i < n):∃ ad A0 c0,A=some ad∧w.cell? (ad.add i.toNat)=some (.slice A0 (rd_L2 xs i).length c0)∧(rd_L2 xs i).length ≤ c0∧(Kd.int .u8).C w A0 (rd_L2 xs i).length (rd_L2 xs i):=by
 obtain ⟨ad,c,e,_,hK,hc0⟩:=Kd.C_get h ([]:List Int) i h0 h1
 have hc:∀ j u,c[j]? = some u→w.cell? (ad.add (i.toNat * 1 + j))=some u:=hc0
 obtain ⟨A0,c0,rfl,l0,g0⟩:=hK
 exact ⟨ad,A0,c0,e,by have hq:=hc 0 _ rfl;rwa [Nat.mul_one,Nat.add_zero] at hq,l0,g0⟩
structure S45 where
 f0:Int
 f1:(List Int)
def z45:S45:=⟨(0:Int),([]:List Int)⟩
def k45:Kd S45:=Kd.iso (Kd.pair (Kd.int .i64) (Kd.slice 5 (Kd.int .u8))) (fun x:S45=>(x.f0,x.f1))
theorem k45_open {w:World} {x:S45} {cs:List Value} (h:k45.K w x cs):∃ A1 c1,cs=[.int .i64 x.f0,.slice A1 x.f1.length c1]∧x.f1.length ≤ c1∧(Kd.int .u8).C w A1 x.f1.length x.f1:=by
 obtain ⟨_,_,rfl,rfl,⟨A1,c1,rfl,l1,g1⟩⟩:=h
 exact ⟨A1,c1,rfl,l1,g1⟩
theorem k45_mk (w:World) (x:S45) {A1:Option Addr} {c1:Nat} (l1:x.f1.length ≤ c1) (g1:(Kd.int .u8).C w A1 x.f1.length x.f1):k45.K w x [.int .i64 x.f0,.slice A1 x.f1.length c1]:=⟨[.int .i64 x.f0],[.slice A1 x.f1.length c1],rfl,rfl,⟨A1,c1,rfl,l1,g1⟩⟩
theorem k45_mkM (w:World) (base:Nat) (ok:Nat→Prop) (x:S45) {v1:Value} (g1:(Kd.int .u8).R 5 w base ok v1 x.f1):k45.M w base ok x [.int .i64 x.f0,v1]:=⟨[.int .i64 x.f0],[v1],rfl,rfl,⟨v1,rfl,g1⟩⟩
def rd_T45 (xs:List S45) (i:Int):S45:=xs.getD i.toNat z45
theorem at_T45 {w:World} {A:Option Addr} {n:Nat} {xs:List S45} (h:Kd.C k45 w A n xs) (i:Int) (h0:0 ≤ i) (h1:i < n):∃ ad A1 c1,A=some ad∧w.cell? (ad.add (i.toNat * 2))=some (.int .i64 (rd_T45 xs i).f0)∧w.cell? ⟨(ad.add (i.toNat * 2)).block,(ad.add (i.toNat * 2)).off + 1,none⟩=some (.slice A1 (rd_T45 xs i).f1.length c1)∧(rd_T45 xs i).f1.length ≤ c1∧(Kd.int .u8).C w A1 (rd_T45 xs i).f1.length (rd_T45 xs i).f1:=by
 obtain ⟨ad,c,e,_,hK,hc0⟩:=Kd.C_get h z45 i h0 h1
 have hc:∀ j u,c[j]? = some u→w.cell? (ad.add (i.toNat * 2 + j))=some u:=hc0
 obtain ⟨A1,c1,rfl,l1,g1⟩:=k45_open hK
 exact ⟨ad,A1,c1,e,hc 0 _ rfl,by rw [← add_field _ _ 1 (by omega)];exact hc 1 _ rfl,l1,g1⟩
end Go.Proofs.Ytfpdmlhknddffaa.Dk
end
section
namespace Go.Proofs.Ytfpdmlhknddffaa.Dk
open Go.RowKit Go.Proofs.YtfpdmlhknddffaaW.PrintWords Go.Proofs.YtfpdmlhknddffaaW.PrintLast Go.Proofs.YtfpdmlhknddffaaW.PrintMore
attribute [local go_sem] max2_int min2_int max_two min_two max_three min_three max_four min_four
set_option linter.unusedVariables false
set_option linter.unusedSimpArgs false
def disk_New.f (a0:Int):Option (List Int × (List (S45)) × Int):=if a0 < 0 then (some (([]:List Int),([]:List (S45)),1)) else (if a0 > 65536 then (some (([]:List Int),([]:List (S45)),1)) else (if 0 ≤ a0 then (if (a0:Int).toNat ≤ 281474976710656 then (some ((List.replicate (a0:Int).toNat 0),([]:List (S45)),0)) else (none)) else (none)))
set_option maxHeartbeats 8000000 in
set_option maxRecDepth 100000 in
theorem disk_New.calls (a0:Int) (r1:List Int) (r2:List (S45)) (r3:Int) (w:World) (h:disk_New.f a0=some (r1,r2,r3)) :
 Calls Try.prog 17 #[.int .i64 a0] w fun e w'=>∃ v0_ v1_:Value,e=.returned (.tuple #[.agg #[v0_,v1_],.int .i64 r3])∧Kd.R (Kd.int .u8) 5 w' w.heap.size (fun _=>True) v0_ r1∧Kd.S k45 45 w' w.heap.size (fun k_=>some k_ ≠ (v0_:Value).ownBlock) v1_ r2∧Below w.heap.size w w':=by
 have hu25:=Try.underlying25
 have HB:=Aside0.mk (Below.refl w.heap.size w)
 have H:(if a0 < 0 then (some (([]:List Int),([]:List (S45)),1)) else (if a0 > 65536 then (some (([]:List Int),([]:List (S45)),1)) else (if 0 ≤ a0 then (if (a0:Int).toNat ≤ 281474976710656 then (some ((List.replicate (a0:Int).toNat 0),([]:List (S45)),0)) else (none)) else (none))))=some (r1,r2,r3):=h
 clear h
 by_cases c2:a0 < 0
 · rw [if_pos c2] at H
   have c2b0:decide (a0 < 0)=true:=decide_eq_true c2
   clear c2
   simp only [Option.some.injEq,Prod.mk.injEq] at H
   obtain ⟨rfl,rfl,rfl⟩:=H
   go_enter Try.func17,Try.ntmps17
   go_wp2_with (first|((with_reducible refine gate_dst (N:=2) rfl ?_);refine box_event ?hg (N:=2) ?hd (cs:=#[.slice none 0 0,.slice none 0 0]) (t:=25) ?hr ?_;(case hd=>rfl);(case hg=>rfl);(case hr=>first|(go_simp;done)|(go_simp;rfl));intro gb101 hg w3 hbox hb;have n0_:=Aside0.mk (below_step (by repeat (first|(with_reducible first|exact HB.out|apply below_alloc|apply pw_below_drewN|apply below_drew1)|exact HB.out)) hb);have n1_:=Aside0.mk (hbox);have n2_:=Aside0.mk ((by rw [hg];exact (below_size (by repeat (first|(with_reducible first|exact HB.out|apply below_alloc|apply pw_below_drewN|apply below_drew1)|exact HB.out))):w.heap.size ≤ gb101));have n3_:=Aside0.mk ((by rw [hg];exact (below_size (by repeat (first|(with_reducible first|exact HB.out|apply below_alloc|apply pw_below_drewN|apply below_drew1)|exact HB.out))):w.heap.size ≤ gb101));clear HB;have HB:=n0_;have BK101:=n1_;have GW101:=n2_;have GE101:=n3_;clear n0_ n1_ n2_ n3_;clear hb hbox hg;have hcz4_0:w3.cell? ⟨gb101,0,none⟩=some (.slice none 0 0):=(blk_cell BK101.out 0).trans rfl;have hcz4_1:w3.cell? ⟨gb101,1,none⟩=some (.slice none 0 0):=(blk_cell BK101.out 1).trans rfl;have hfz4_0:=blk_frozen BK101.out 0;have hfz4_1:=blk_frozen BK101.out 1))
   refine bodyPost_ret (results_ct rfl _ _ gb101 25 #[.slice none 0 0,.slice none 0 0] (0,0) _ rfl (by (with_reducible repeat (first|refine blk_drewN ?_ _|refine blk_drew ?_|refine blk_alloc ?_ _));refine blk_put (cs:=#[.slice none 0 0,.slice none 0 0]) ?_ 1 _ rfl;(with_reducible repeat (first|refine blk_drewN ?_ _|refine blk_drew ?_|refine blk_alloc ?_ _));refine blk_put (cs:=#[.slice none 0 0,.slice none 0 0]) ?_ 0 _ rfl;(with_reducible repeat (first|refine blk_drewN ?_ _|refine blk_drew ?_|refine blk_alloc ?_ _));exact BK101.out) Try.underlying25 rfl (by kernel_rfl)) rfl ?_
   exact ⟨_,_,by first|rfl|(simp [errW_none,errW_some] <;> rfl)|(simp [*,errW_none,errW_some] <;> rfl),by first|exact Kd.R_nil _ _ _ _ _|exact Kd.N_nil _ _ _ _ _|exact Kd.V_nil _ _ _ _ _|exact Kd.Q_nil _ _ _ _ _|exact Kd.S_nil _ _ _ _ _,by first|exact Kd.S_nil _ _ _ _ _|exact Kd.N_nil _ _ _ _ _|exact Kd.V_nil _ _ _ _ _|exact Kd.Q_nil _ _ _ _ _|exact Kd.R_nil _ _ _ _ _,by repeat (first|(with_reducible first|exact HB.out|apply below_alloc|apply pw_below_drewN|apply below_drew1|refine below_set ?_ GE101.out)|exact HB.out)⟩
 · rw [if_neg c2] at H
   have c2b0:decide (a0 < 0)=false:=decide_eq_false c2
   clear c2
   by_cases c5:a0 > 65536
   · rw [if_pos c5] at H
     have c5b0:decide (65536 < a0)=true:=decide_eq_true c5
     clear c5
     simp only [Option.some.injEq,Prod.mk.injEq] at H
     obtain ⟨rfl,rfl,rfl⟩:=H
     go_enter Try.func17,Try.ntmps17
     go_wp2_with (first|((with_reducible refine gate_dst (N:=2) rfl ?_);refine box_event ?hg (N:=2) ?hd (cs:=#[.slice none 0 0,.slice none 0 0]) (t:=25) ?hr ?_;(case hd=>rfl);(case hg=>rfl);(case hr=>first|(go_simp;done)|(go_simp;rfl));intro gb101 hg w6 hbox hb;have n0_:=Aside0.mk (below_step (by repeat (first|(with_reducible first|exact HB.out|apply below_alloc|apply pw_below_drewN|apply below_drew1)|exact HB.out)) hb);have n1_:=Aside0.mk (hbox);have n2_:=Aside0.mk ((by rw [hg];exact (below_size (by repeat (first|(with_reducible first|exact HB.out|apply below_alloc|apply pw_below_drewN|apply below_drew1)|exact HB.out))):w.heap.size ≤ gb101));have n3_:=Aside0.mk ((by rw [hg];exact (below_size (by repeat (first|(with_reducible first|exact HB.out|apply below_alloc|apply pw_below_drewN|apply below_drew1)|exact HB.out))):w.heap.size ≤ gb101));clear HB;have HB:=n0_;have BK101:=n1_;have GW101:=n2_;have GE101:=n3_;clear n0_ n1_ n2_ n3_;clear hb hbox hg;have hcz7_0:w6.cell? ⟨gb101,0,none⟩=some (.slice none 0 0):=(blk_cell BK101.out 0).trans rfl;have hcz7_1:w6.cell? ⟨gb101,1,none⟩=some (.slice none 0 0):=(blk_cell BK101.out 1).trans rfl;have hfz7_0:=blk_frozen BK101.out 0;have hfz7_1:=blk_frozen BK101.out 1))
     refine bodyPost_ret (results_ct rfl _ _ gb101 25 #[.slice none 0 0,.slice none 0 0] (0,0) _ rfl (by (with_reducible repeat (first|refine blk_drewN ?_ _|refine blk_drew ?_|refine blk_alloc ?_ _));refine blk_put (cs:=#[.slice none 0 0,.slice none 0 0]) ?_ 1 _ rfl;(with_reducible repeat (first|refine blk_drewN ?_ _|refine blk_drew ?_|refine blk_alloc ?_ _));refine blk_put (cs:=#[.slice none 0 0,.slice none 0 0]) ?_ 0 _ rfl;(with_reducible repeat (first|refine blk_drewN ?_ _|refine blk_drew ?_|refine blk_alloc ?_ _));exact BK101.out) Try.underlying25 rfl (by kernel_rfl)) rfl ?_
     exact ⟨_,_,by first|rfl|(simp [errW_none,errW_some] <;> rfl)|(simp [*,errW_none,errW_some] <;> rfl),by first|exact Kd.R_nil _ _ _ _ _|exact Kd.N_nil _ _ _ _ _|exact Kd.V_nil _ _ _ _ _|exact Kd.Q_nil _ _ _ _ _|exact Kd.S_nil _ _ _ _ _,by first|exact Kd.S_nil _ _ _ _ _|exact Kd.N_nil _ _ _ _ _|exact Kd.V_nil _ _ _ _ _|exact Kd.Q_nil _ _ _ _ _|exact Kd.R_nil _ _ _ _ _,by repeat (first|(with_reducible first|exact HB.out|apply below_alloc|apply pw_below_drewN|apply below_drew1|refine below_set ?_ GE101.out)|exact HB.out)⟩
   · rw [if_neg c5] at H
     have c5b0:decide (65536 < a0)=false:=decide_eq_false c5
     clear c5
     by_cases c8:0 ≤ a0
     · rw [if_pos c8] at H
       have c8b0:=eq_true c8
       have c8b1:decide (0 ≤ a0)=true:=decide_eq_true c8
       clear c8
       by_cases c9:(a0:Int).toNat ≤ 281474976710656
       · rw [if_pos c9] at H
         have c9b0:=eq_true c9
         have c9b1:decide ((a0:Int).toNat ≤ 281474976710656)=true:=decide_eq_true c9
         clear c9
         obtain ⟨y102,hy102⟩:∃ y_:List Int,y_=(List.replicate (a0:Int).toNat 0):=⟨_,rfl⟩
         replace H:(some (y102,([]:List (S45)),0))=some (r1,r2,r3):=by first|(rw [hy102];with_reducible exact H)|(have H2_:=(Option.bind_some _ _).symm.trans H;rw [hy102];with_reducible exact H2_)|(have H2_:=(Option.bind_some _ _).symm.trans H;with_reducible exact H2_)|with_reducible exact H|(rw [hy102];exact H)|exact H
         have Ny102:=Aside0.mk hy102
         clear hy102
         simp only [Option.some.injEq,Prod.mk.injEq] at H
         obtain ⟨rfl,rfl,rfl⟩:=H
         go_enter Try.func17,Try.ntmps17
         go_wp2_with (first|((with_reducible refine gate_dst (N:=2) rfl ?_);refine box_event ?hg (N:=2) ?hd (cs:=#[.slice none 0 0,.slice none 0 0]) (t:=25) ?hr ?_;(case hd=>rfl);(case hg=>rfl);(case hr=>first|(go_simp;done)|(go_simp;rfl));intro gb101 hg w10 hbox hb;have n0_:=Aside0.mk (below_step (by repeat (first|(with_reducible first|exact HB.out|apply below_alloc|apply pw_below_drewN|apply below_drew1)|exact HB.out)) hb);have n1_:=Aside0.mk (hbox);have n2_:=Aside0.mk ((by rw [hg];exact (below_size (by repeat (first|(with_reducible first|exact HB.out|apply below_alloc|apply pw_below_drewN|apply below_drew1)|exact HB.out))):w.heap.size ≤ gb101));have n3_:=Aside0.mk ((by rw [hg];exact (below_size (by repeat (first|(with_reducible first|exact HB.out|apply below_alloc|apply pw_below_drewN|apply below_drew1)|exact HB.out))):w.heap.size ≤ gb101));clear HB;have HB:=n0_;have BK101:=n1_;have GW101:=n2_;have GE101:=n3_;clear n0_ n1_ n2_ n3_;clear hb hbox hg)|((with_reducible refine gate_dst (N:=12) rfl ?_);refine Kd.R_make (Kd.int .u8) _ 5 rfl (N:=12) rfl 22 _ _ rfl a0 rfl rfl Try.underlying22 (.int .u8 0) 1 info5 rfl (by decide) (by omega) 0 (ok:=fun _=>True) (okp:=fun _=>True) rfl (fun _ hk=>hk) trivial (of_decide_eq_true (by first|(with_reducible assumption)|assumption)) (Nat.le_trans (Nat.mul_le_mul_right _ (of_decide_eq_true (by first|(with_reducible assumption)|assumption):a0.toNat ≤ 281474976710656)) (by omega)) (Below.refl _ _) (Nat.le_refl _) ?_;intro v103 w11 ho12 hb hg_ hnew_;clear hg_ hnew_;(first|rw [← Ny102.out] at ho12|(simp only [Int.reduceToNat] at ho12;rw [← Ny102.out] at ho12));have n0_:=Aside0.mk (Kd.R_lower ho12 (below_size (by repeat (first|(with_reducible first|exact HB.out|apply below_alloc|apply pw_below_drewN|apply below_drew1|refine below_set ?_ GE101.out)|exact HB.out))));have n1_:=Aside0.mk (blk_below (g:=gb101) (o:=.cells #[.slice none 0 0,.slice none 0 0] 25 (0,0)) (by (with_reducible repeat (first|refine blk_drewN ?_ _|refine blk_drew ?_|refine blk_alloc ?_ _));exact BK101.out) hb);have n2_:=Aside0.mk (below_step (by repeat (first|(with_reducible first|exact HB.out|apply below_alloc|apply pw_below_drewN|apply below_drew1|refine below_set ?_ GE101.out)|exact HB.out)) hb);clear BK101;clear HB;have HO104:=n0_;have BK101:=n1_;have HB:=n2_;clear n0_ n1_ n2_;clear hb ho12;obtain ⟨Ao13,co13,eo13⟩:=Kd.R_slice HO104.out;subst eo13;have hcz14_0:w11.cell? ⟨gb101,0,none⟩=some (.slice none 0 0):=(blk_cell BK101.out 0).trans rfl;have hcz14_1:w11.cell? ⟨gb101,1,none⟩=some (.slice none 0 0):=(blk_cell BK101.out 1).trans rfl;have hfz14_0:=blk_frozen BK101.out 0;have hfz14_1:=blk_frozen BK101.out 1))
         refine bodyPost_ret (results_ct rfl _ _ gb101 25 #[.slice Ao13 y102.length co13,.slice none 0 0] (0,0) _ rfl (by (with_reducible repeat (first|refine blk_drewN ?_ _|refine blk_drew ?_|refine blk_alloc ?_ _));refine blk_put (cs:=#[.slice Ao13 y102.length co13,.slice none 0 0]) ?_ 1 _ rfl;(with_reducible repeat (first|refine blk_drewN ?_ _|refine blk_drew ?_|refine blk_alloc ?_ _));refine blk_put (cs:=#[.slice none 0 0,.slice none 0 0]) ?_ 0 _ rfl;(with_reducible repeat (first|refine blk_drewN ?_ _|refine blk_drew ?_|refine blk_alloc ?_ _));exact BK101.out) Try.underlying25 rfl (by kernel_rfl)) rfl ?_
         exact ⟨_,_,by first|rfl|(simp [errW_none,errW_some] <;> rfl)|(simp [*,errW_none,errW_some] <;> rfl),by (with_reducible repeat (first|apply Kd.R_alloc|apply Kd.R_drewN|apply Kd.R_drew));exact Kd.R_mono (Kd.R_far (p:=⟨gb101,1,none⟩) (Kd.R_far (p:=⟨gb101,0,none⟩) (Kd.R_types HO104.out BK101.out (by decide)) (fun _ hk=>hk.2) (.slice Ao13 y102.length co13)) (fun _ hk=>hk.2) (.slice none 0 0)) (fun _ hk=>trivial),by first|exact Kd.S_nil _ _ _ _ _|exact Kd.N_nil _ _ _ _ _|exact Kd.V_nil _ _ _ _ _|exact Kd.Q_nil _ _ _ _ _|exact Kd.R_nil _ _ _ _ _,by repeat (first|(with_reducible first|exact HB.out|apply below_alloc|apply pw_below_drewN|apply below_drew1|refine below_set ?_ GE101.out)|exact HB.out)⟩
       · rw [if_neg c9] at H
         exact absurd H (by simp)
     · rw [if_neg c8] at H
       exact absurd H (by simp)
def disk_isPart.f (l0_0:List Int) (l0_1:List (S45)) (a1:Int) (a2:Int):Option (Bool):=if a1 ≥ 0 then (if a2 ≥ 0 then (if a1 ≤ (l0_0.length:Int) then (some (decide (a2 ≤ (wrap64 ((l0_0.length:Int) - a1))))) else (some false)) else (some false)) else (some false)
set_option maxHeartbeats 8000000 in
set_option maxRecDepth 100000 in
theorem disk_isPart.calls (A0_0:Option Addr) (c0_0:Nat) (l0_0:List Int) (A0_1:Option Addr) (c0_1:Nat) (l0_1:List (S45)) (a1:Int) (a2:Int) (r:Bool) (w:World) (hr0_0:Kd.C (Kd.int .u8) w A0_0 l0_0.length l0_0) (hc0_0:l0_0.length ≤ c0_0) (hr0_1:Kd.C k45 w A0_1 l0_1.length l0_1) (hc0_1:l0_1.length ≤ c0_1) (h:disk_isPart.f l0_0 l0_1 a1 a2=some r) :
 Calls Try.prog 44 #[.agg #[.slice A0_0 l0_0.length c0_0,.slice A0_1 l0_1.length c0_1],.int .i64 a1,.int .i64 a2] w fun e w'=>e=.returned (.bool r)∧Below w.heap.size w w':=by
 have hu25:=Try.underlying25
 have HR0_0:=Aside0.mk hr0_0
 have HC0_0:=Aside0.mk hc0_0
 clear hr0_0 hc0_0
 have HR0_1:=Aside0.mk hr0_1
 have HC0_1:=Aside0.mk hc0_1
 clear hr0_1 hc0_1
 have HB:=Aside0.mk (Below.refl w.heap.size w)
 have H:(if a1 ≥ 0 then (if a2 ≥ 0 then (if a1 ≤ (l0_0.length:Int) then (some (decide (a2 ≤ (wrap64 ((l0_0.length:Int) - a1))))) else (some false)) else (some false)) else (some false))=some r:=h
 clear h
 by_cases c4:a1 ≥ 0
 · rw [if_pos c4] at H
   have c4b0:decide (0 ≤ a1)=true:=decide_eq_true c4
   clear c4
   by_cases c5:a2 ≥ 0
   · rw [if_pos c5] at H
     have c5b0:decide (0 ≤ a2)=true:=decide_eq_true c5
     clear c5
     by_cases c6:a1 ≤ (l0_0.length:Int)
     · rw [if_pos c6] at H
       have c6b0:decide (a1 ≤ (l0_0.length:Int))=true:=decide_eq_true c6
       clear c6
       obtain rfl:=Option.some.inj H
       go_enter Try.func44,Try.ntmps44
       go_wp2_with (first|((with_reducible refine gate_dst (N:=3) rfl ?_);(try (refine gate_guard (by rfl) ?_;dsimp only));refine box_event ?hg (N:=3) ?hd (cs:=#[.slice A0_0 l0_0.length c0_0,.slice A0_1 l0_1.length c0_1]) (t:=25) ?hr ?_;(case hd=>rfl);(case hg=>rfl);(case hr=>first|(go_simp;done)|(go_simp;rfl));intro gb106 hg w7 hbox hb;have n0_:=Aside0.mk (below_step (by repeat (first|(with_reducible first|exact HB.out|apply below_alloc|apply pw_below_drewN|apply below_drew1)|exact HB.out)) hb);have n1_:=Aside0.mk (hbox);have n2_:=Aside0.mk ((by rw [hg];exact (below_size (by repeat (first|(with_reducible first|exact HB.out|apply below_alloc|apply pw_below_drewN|apply below_drew1)|exact HB.out))):w.heap.size ≤ gb106));have n3_:=Aside0.mk ((by rw [hg];exact (below_size (by repeat (first|(with_reducible first|exact HB.out|apply below_alloc|apply pw_below_drewN|apply below_drew1)|exact HB.out))):w.heap.size ≤ gb106));clear HB;have HB:=n0_;have BK106:=n1_;have GW106:=n2_;have GE106:=n3_;clear n0_ n1_ n2_ n3_;clear hb hbox hg;have hcz8_0:w7.cell? ⟨gb106,0,none⟩=some (.slice A0_0 l0_0.length c0_0):=(blk_cell BK106.out 0).trans rfl;have hcz8_1:w7.cell? ⟨gb106,1,none⟩=some (.slice A0_1 l0_1.length c0_1):=(blk_cell BK106.out 1).trans rfl;have hfz8_0:=blk_frozen BK106.out 0;have hfz8_1:=blk_frozen BK106.out 1))
       go_ret
       exact ⟨by first|rfl|(simp [errW_none,errW_some] <;> rfl)|(simp [*,errW_none,errW_some] <;> rfl),by repeat (first|(with_reducible first|exact HB.out|apply below_alloc|apply pw_below_drewN|apply below_drew1|refine below_set ?_ GE106.out)|exact HB.out)⟩
     · rw [if_neg c6] at H
       have c6b0:decide (a1 ≤ (l0_0.length:Int))=false:=decide_eq_false c6
       clear c6
       obtain rfl:=Option.some.inj H
       go_enter Try.func44,Try.ntmps44
       go_wp2_with (first|((with_reducible refine gate_dst (N:=3) rfl ?_);(try (refine gate_guard (by rfl) ?_;dsimp only));refine box_event ?hg (N:=3) ?hd (cs:=#[.slice A0_0 l0_0.length c0_0,.slice A0_1 l0_1.length c0_1]) (t:=25) ?hr ?_;(case hd=>rfl);(case hg=>rfl);(case hr=>first|(go_simp;done)|(go_simp;rfl));intro gb106 hg w9 hbox hb;have n0_:=Aside0.mk (below_step (by repeat (first|(with_reducible first|exact HB.out|apply below_alloc|apply pw_below_drewN|apply below_drew1)|exact HB.out)) hb);have n1_:=Aside0.mk (hbox);have n2_:=Aside0.mk ((by rw [hg];exact (below_size (by repeat (first|(with_reducible first|exact HB.out|apply below_alloc|apply pw_below_drewN|apply below_drew1)|exact HB.out))):w.heap.size ≤ gb106));have n3_:=Aside0.mk ((by rw [hg];exact (below_size (by repeat (first|(with_reducible first|exact HB.out|apply below_alloc|apply pw_below_drewN|apply below_drew1)|exact HB.out))):w.heap.size ≤ gb106));clear HB;have HB:=n0_;have BK106:=n1_;have GW106:=n2_;have GE106:=n3_;clear n0_ n1_ n2_ n3_;clear hb hbox hg;have hcz10_0:w9.cell? ⟨gb106,0,none⟩=some (.slice A0_0 l0_0.length c0_0):=(blk_cell BK106.out 0).trans rfl;have hcz10_1:w9.cell? ⟨gb106,1,none⟩=some (.slice A0_1 l0_1.length c0_1):=(blk_cell BK106.out 1).trans rfl;have hfz10_0:=blk_frozen BK106.out 0;have hfz10_1:=blk_frozen BK106.out 1))
       go_ret
       exact ⟨by first|rfl|(simp [errW_none,errW_some] <;> rfl)|(simp [*,errW_none,errW_some] <;> rfl),by repeat (first|(with_reducible first|exact HB.out|apply below_alloc|apply pw_below_drewN|apply below_drew1|refine below_set ?_ GE106.out)|exact HB.out)⟩
   · rw [if_neg c5] at H
     have c5b0:decide (0 ≤ a2)=false:=decide_eq_false c5
     clear c5
     obtain rfl:=Option.some.inj H
     go_enter Try.func44,Try.ntmps44
     go_wp2_with (first|((with_reducible refine gate_dst (N:=3) rfl ?_);(try (refine gate_guard (by rfl) ?_;dsimp only));refine box_event ?hg (N:=3) ?hd (cs:=#[.slice A0_0 l0_0.length c0_0,.slice A0_1 l0_1.length c0_1]) (t:=25) ?hr ?_;(case hd=>rfl);(case hg=>rfl);(case hr=>first|(go_simp;done)|(go_simp;rfl));intro gb106 hg w11 hbox hb;have n0_:=Aside0.mk (below_step (by repeat (first|(with_reducible first|exact HB.out|apply below_alloc|apply pw_below_drewN|apply below_drew1)|exact HB.out)) hb);have n1_:=Aside0.mk (hbox);have n2_:=Aside0.mk ((by rw [hg];exact (below_size (by repeat (first|(with_reducible first|exact HB.out|apply below_alloc|apply pw_below_drewN|apply below_drew1)|exact HB.out))):w.heap.size ≤ gb106));have n3_:=Aside0.mk ((by rw [hg];exact (below_size (by repeat (first|(with_reducible first|exact HB.out|apply below_alloc|apply pw_below_drewN|apply below_drew1)|exact HB.out))):w.heap.size ≤ gb106));clear HB;have HB:=n0_;have BK106:=n1_;have GW106:=n2_;have GE106:=n3_;clear n0_ n1_ n2_ n3_;clear hb hbox hg))
     go_ret
     exact ⟨by first|rfl|(simp [errW_none,errW_some] <;> rfl)|(simp [*,errW_none,errW_some] <;> rfl),by repeat (first|(with_reducible first|exact HB.out|apply below_alloc|apply pw_below_drewN|apply below_drew1|refine below_set ?_ GE106.out)|exact HB.out)⟩
 · rw [if_neg c4] at H
   have c4b0:decide (0 ≤ a1)=false:=decide_eq_false c4
   clear c4
   obtain rfl:=Option.some.inj H
   go_enter Try.func44,Try.ntmps44
   go_wp2_with (first|((with_reducible refine gate_dst (N:=3) rfl ?_);(try (refine gate_guard (by rfl) ?_;dsimp only));refine box_event ?hg (N:=3) ?hd (cs:=#[.slice A0_0 l0_0.length c0_0,.slice A0_1 l0_1.length c0_1]) (t:=25) ?hr ?_;(case hd=>rfl);(case hg=>rfl);(case hr=>first|(go_simp;done)|(go_simp;rfl));intro gb106 hg w12 hbox hb;have n0_:=Aside0.mk (below_step (by repeat (first|(with_reducible first|exact HB.out|apply below_alloc|apply pw_below_drewN|apply below_drew1)|exact HB.out)) hb);have n1_:=Aside0.mk (hbox);have n2_:=Aside0.mk ((by rw [hg];exact (below_size (by repeat (first|(with_reducible first|exact HB.out|apply below_alloc|apply pw_below_drewN|apply below_drew1)|exact HB.out))):w.heap.size ≤ gb106));have n3_:=Aside0.mk ((by rw [hg];exact (below_size (by repeat (first|(with_reducible first|exact HB.out|apply below_alloc|apply pw_below_drewN|apply below_drew1)|exact HB.out))):w.heap.size ≤ gb106));clear HB;have HB:=n0_;have BK106:=n1_;have GW106:=n2_;have GE106:=n3_;clear n0_ n1_ n2_ n3_;clear hb hbox hg))
   go_ret
   exact ⟨by first|rfl|(simp [errW_none,errW_some] <;> rfl)|(simp [*,errW_none,errW_some] <;> rfl),by repeat (first|(with_reducible first|exact HB.out|apply below_alloc|apply pw_below_drewN|apply below_drew1|refine below_set ?_ GE106.out)|exact HB.out)⟩
end Go.Proofs.Ytfpdmlhknddffaa.Dk
end
section
namespace Go.Proofs.Ytfpdmlhknddffaa.Dk
open Go.RowKit Go.Proofs.YtfpdmlhknddffaaW.PrintWords Go.Proofs.YtfpdmlhknddffaaW.PrintLast Go.Proofs.YtfpdmlhknddffaaW.PrintMore
set_option linter.unusedVariables false
set_option linter.unusedSimpArgs false
def isPartB (n at_ count:Int):Bool:=decide (0 ≤ at_) && decide (0 ≤ count) && decide (at_ ≤ n) && decide (count ≤ n - at_)
theorem isPart_f (l0:List Int) (l1:List S45) (a c:Int) (hl:l0.length ≤ maxLen):disk_isPart.f l0 l1 a c=some (isPartB l0.length a c):=by
 unfold disk_isPart.f isPartB maxLen at *
 unfold wrap64
 by_cases h1:a ≥ 0 <;> by_cases h2:c ≥ 0 <;> by_cases h3:a ≤ (l0.length:Int) <;> simp [h1,h2,h3]
 omega
set_option maxHeartbeats 400000 in
theorem isValid1_calls (A0:Option Addr) (c0:Nat) (l0:List Int) (A1:Option Addr) (c1:Nat) (l1:List S45) (B:Nat) (w:World) (x:S45) (cs:List Value)
 (hB:w.heap[B]? = some (.cells #[.slice A0 l0.length c0,.slice A1 l1.length c1] 25 (0,0)))
 (h0:Kd.C (Kd.int .u8) w A0 l0.length l0) (hc0:l0.length ≤ c0) (h1:Kd.C k45 w A1 l1.length l1) (hc1:l1.length ≤ c1)
 (hm:l0.length ≤ maxLen) (hx:k45.K w x cs) :
  Calls Try.prog 58 #[.agg cs.toArray,.pointer (some ⟨B,0,none⟩)] w fun e w'=>e=.returned (.bool (!isPartB l0.length x.f0 x.f1.length))∧Below w.heap.size w w':=by
 obtain ⟨A2,c2,rfl,l2,g2⟩:=k45_open hx
 have hu25:=Try.underlying25
 have hu45:=Try.underlying45
 have hp:=isPart_f l0 l1 x.f0 x.f1.length hm
 have Hp:=Lib.hid hp;clear hp
 have HB:=Lib.hid hB;clear hB
 go_enter Try.func58,Try.ntmps58
 go_wp2_with (first|((with_reducible refine gate_dst (N:=2) rfl ?_);(refine box_event ?hg (N:=2) ?hd (cs:=#[.int .i64 x.f0,.slice A2 x.f1.length c2]) (t:=45) ?hr ?_);(case hd=>rfl);(case hg=>rfl);(case hr=>first|(go_simp;done)|(go_simp;rfl));intro g hg w1 hb1 hB1;have hq0:=(blk_cell (blk_below HB.out hB1) 0).trans rfl;have hq1:=(blk_cell (blk_below HB.out hB1) 1).trans rfl;have hq2:=(blk_cell hb1 0).trans rfl;have hq3:=(blk_cell hb1 1).trans rfl;have HB1:=Lib.hid hB1;clear hB1 hg)|(go_at_call 44;refine (disk_isPart.calls _ _ l0 _ _ l1 x.f0 x.f1.length _ _ (Kd.C_below h0 HB1.out) hc0 (Kd.C_below h1 HB1.out) hc1 Hp.out).mono ?_;rintro e w2 ⟨rfl,hb2⟩) )
 go_ret
 exact ⟨rfl,below_then HB1.out HB1.out.size hb2⟩
end Go.Proofs.Ytfpdmlhknddffaa.Dk
end
section
namespace Go.Proofs.Ytfpdmlhknddffaa.Dk
open Go.RowKit Go.Proofs.YtfpdmlhknddffaaW.PrintWords Go.Proofs.YtfpdmlhknddffaaW.PrintLast Go.Proofs.YtfpdmlhknddffaaW.PrintMore
set_option linter.unusedVariables false
set_option linter.unusedSimpArgs false
theorem C_get45 {w:World} {A:Option Addr} {n:Nat} {xs:List S45} (h:Kd.C k45 w A n xs) (i:Nat) (h1:i < xs.length) (h2:i < n):∃ ad A1 c1,A=some ad∧w.cell? (ad.add (i * 2))=some (.int .i64 (xs[i]).f0)∧w.cell? (⟨(ad.add (i * 2)).block,(ad.add (i * 2)).off + 1,none⟩)=some (.slice A1 (xs[i]).f1.length c1)∧(xs[i]).f1.length ≤ c1∧(Kd.int .u8).C w A1 (xs[i]).f1.length (xs[i]).f1:=by
 have h3:=at_T45 h i (by omega) (by omega)
 have h4:rd_T45 xs i=xs[i]:=by unfold rd_T45;simp [List.getD,h1]
 rw [h4] at h3
 simpa using h3
theorem C_max {α:Type} {d:Kd α} {w:World} {A:Option Addr} {n:Nat} {xs:List α} (h:Kd.C d w A n xs):n ≤ 9223372036854775807:=h.2.1
set_option maxHeartbeats 400000 in
theorem indexFunc_calls (A1:Option Addr) (c1:Nat) (l1:List S45) (B:Nat) (w:World) (p:S45→Bool)
 (h1:Kd.C k45 w A1 l1.length l1) (hc1:l1.length ≤ c1)
 (hp:∀ (x:S45) (cs:List Value) (w1:World),Below w.heap.size w w1→k45.K w1 x cs→Calls Try.prog 58 #[.agg cs.toArray,.pointer (some ⟨B,0,none⟩)] w1 fun e w'=>e=.returned (.bool (p x))∧Below w1.heap.size w1 w') :
  Calls Try.prog 65 #[.slice A1 l1.length c1,.func (.func 58) #[] #[.pointer (some ⟨B,0,none⟩)]] w fun e w'=>∃ n:Int,e=.returned (.int .i64 n)∧(decide (0 ≤ n)=l1.any p)∧Below w.heap.size w w':=by
 have hu45:=Try.underlying45
 have hm:=C_max h1
 have Hp:=Lib.hid hp;clear hp
 go_enter Try.func65,Try.ntmps65
 go_wp2
 go_loopg [8] l1.length (fun k v8 wr=>∃ i:Nat,i ≤ l1.length∧k=l1.length - i∧v8=.int .i64 i∧Hid (∀ j (hj:j < l1.length),j < i→p l1[j]=false)∧Below w.heap.size w wr)
 case atStart=>exact ⟨0,by omega,by omega,rfl,Lib.hid (by intro j hj h;omega),Below.refl _ _⟩
 case round =>
  obtain ⟨i,hi,rfl,rfl,hall,hb⟩:=hrel
  by_cases hlt:i < l1.length
  · have g1:=Kd.C_below h1 hb
    obtain ⟨ad,A2,c2,rfl,q0,q1,q2,q3⟩:=C_get45 g1 i hlt hlt
    have hk:k45.K wr l1[i] [.int .i64 l1[i].f0,.slice A2 l1[i].f1.length c2]:=k45_mk wr l1[i] q2 q3
    have Hk:=Lib.hid hk
    clear hk
    cases hpx:p l1[i]
    all_goals
     have Hx:=Lib.hid hpx
     clear hpx
     go_wp2_with (go_at_call 58;refine (Hp.out l1[i] _ wr hb Hk.out).mono ?_;rintro e w2 ⟨rfl,hb2⟩;rw [Hx.out])
    · go_roundg (l1.length - (i + 1))
      case measure=>omega
      case rel =>
       refine ⟨i + 1,by omega,rfl,by go_num,Lib.hid ?_,below_then hb hb.size hb2⟩
       intro j hj hji
       by_cases e:j=i
       · subst e;exact Hx.out
       · exact hall.out j hj (by omega)
    · go_ret
      refine ⟨i,rfl,?_,below_then hb hb.size hb2⟩
      rw [List.any_eq_true.2 ⟨l1[i],List.getElem_mem _,Hx.out⟩]
      simp
  · go_wp2
    go_ret
    refine ⟨-1,rfl,?_,hb⟩
    have:l1.any p=false:=by
     rw [List.any_eq_false]
     intro x hx
     obtain ⟨j,hj,rfl⟩:=List.getElem_of_mem hx
     rw [hall.out j hj (by omega)]
     simp
    rw [this]
    simp
set_option maxHeartbeats 400000 in
theorem containsFunc_calls (A1:Option Addr) (c1:Nat) (l1:List S45) (B:Nat) (w:World) (p:S45→Bool)
 (h1:Kd.C k45 w A1 l1.length l1) (hc1:l1.length ≤ c1)
 (hp:∀ (x:S45) (cs:List Value) (w1:World),Below w.heap.size w w1→k45.K w1 x cs→Calls Try.prog 58 #[.agg cs.toArray,.pointer (some ⟨B,0,none⟩)] w1 fun e w'=>e=.returned (.bool (p x))∧Below w1.heap.size w1 w') :
  Calls Try.prog 57 #[.slice A1 l1.length c1,.func (.func 58) #[] #[.pointer (some ⟨B,0,none⟩)]] w fun e w'=>e=.returned (.bool (l1.any p))∧Below w.heap.size w w':=by
 have Hp:=Lib.hid hp;clear hp
 go_enter Try.func57,Try.ntmps57
 go_wp2_with (go_at_call 65;refine (indexFunc_calls _ _ l1 B _ p h1 hc1 Hp.out).mono ?_;rintro e w2 ⟨n,rfl,hn,hb2⟩;have Hn:=Lib.hid hn;clear hn)
 go_ret
 exact ⟨by rw [← Hn.out];rfl,hb2⟩
def validB (l0:List Int) (l1:List S45):Bool:=decide (l0.length ≤ 65536) && decide (l1.length ≤ 64) && !l1.any fun x => !isPartB l0.length x.f0 x.f1.length
set_option maxHeartbeats 400000 in
theorem disk_isValid_calls (A0:Option Addr) (c0:Nat) (l0:List Int) (A1:Option Addr) (c1:Nat) (l1:List S45) (w:World)
 (h0:Kd.C (Kd.int .u8) w A0 l0.length l0) (hc0:l0.length ≤ c0) (h1:Kd.C k45 w A1 l1.length l1) (hc1:l1.length ≤ c1) :
  Calls Try.prog 43 #[.agg #[.slice A0 l0.length c0,.slice A1 l1.length c1]] w fun e w'=>e=.returned (.bool (validB l0 l1))∧Below w.heap.size w w':=by
 have hu25:=Try.underlying25
 have hmf:∀ (fn:Fn) (first cap:Array Value) (w:World),(Instr.makeFunc fn first cap).run Try.prog w=.ok (.func fn first cap) w:=fun _ _ _ _=>rfl
 unfold validB
 by_cases ha:l0.length ≤ 65536
 · by_cases hb:l1.length ≤ 64
   · have e1:decide (65536 < l0.length)=false:=by simp;omega
     have e2:decide (64 < l1.length)=false:=by simp;omega
     go_enter Try.func43,Try.ntmps43
     go_wp2_with (first|((with_reducible refine gate_dst (N:=1) rfl ?_);(refine box_event ?hg (N:=1) ?hd (cs:=#[.slice A0 l0.length c0,.slice A1 l1.length c1]) (t:=25) ?hr ?_);(case hd=>rfl);(case hg=>rfl);(case hr=>first|(go_simp;done)|(go_simp;rfl));intro g hg w1 hb1 hB1;have hq0:=(blk_cell hb1 0).trans rfl;have hq1:=(blk_cell hb1 1).trans rfl;have HB1:=Lib.hid hB1;have Hb1:=Lib.hid hb1;clear hB1 hb1 hg)|(go_at_call 57;refine (containsFunc_calls A1 c1 l1 g w1 (fun x => !isPartB l0.length x.f0 x.f1.length) (Kd.C_below h1 HB1.out) hc1 (fun x cs w3 hb3 hx=>isValid1_calls A0 c0 l0 A1 c1 l1 g w3 x cs (blk_below Hb1.out hb3) (Kd.C_below (Kd.C_below h0 HB1.out) hb3) hc0 (Kd.C_below (Kd.C_below h1 HB1.out) hb3) hc1 (by unfold maxLen;omega) hx)).mono ?_;rintro e w2 ⟨rfl,hb2⟩) )
     go_ret
     exact ⟨by simp [ha,hb],below_then HB1.out HB1.out.size hb2⟩
   · have e1:decide (65536 < l0.length)=false:=by simp;omega
     have e2:decide (64 < l1.length)=true:=by simp;omega
     go_enter Try.func43,Try.ntmps43
     go_wp2_with (first|((with_reducible refine gate_dst (N:=1) rfl ?_);(refine box_event ?hg (N:=1) ?hd (cs:=#[.slice A0 l0.length c0,.slice A1 l1.length c1]) (t:=25) ?hr ?_);(case hd=>rfl);(case hg=>rfl);(case hr=>first|(go_simp;done)|(go_simp;rfl));intro g hg w1 hb1 hB1;have hq0:=(blk_cell hb1 0).trans rfl;have hq1:=(blk_cell hb1 1).trans rfl;have HB1:=Lib.hid hB1;clear hB1 hb1 hg) )
     go_ret
     exact ⟨by simp [ha,hb],HB1.out⟩
 · have e1:decide (65536 < l0.length)=true:=by simp;omega
   go_enter Try.func43,Try.ntmps43
   go_wp2_with (first|((with_reducible refine gate_dst (N:=1) rfl ?_);(refine box_event ?hg (N:=1) ?hd (cs:=#[.slice A0 l0.length c0,.slice A1 l1.length c1]) (t:=25) ?hr ?_);(case hd=>rfl);(case hg=>rfl);(case hr=>first|(go_simp;done)|(go_simp;rfl));intro g hg w1 hb1 hB1;have hq0:=(blk_cell hb1 0).trans rfl;have hq1:=(blk_cell hb1 1).trans rfl;have HB1:=Lib.hid hB1;clear hB1 hb1 hg) )
   go_ret
   exact ⟨by simp [ha],HB1.out⟩
end Go.Proofs.Ytfpdmlhknddffaa.Dk
end
section
namespace Go.Proofs.Ytfpdmlhknddffaa.Dk
open Go.RowKit Go.Proofs.YtfpdmlhknddffaaW.PrintWords Go.Proofs.YtfpdmlhknddffaaW.PrintLast Go.Proofs.YtfpdmlhknddffaaW.PrintMore
set_option linter.unusedVariables false
set_option linter.unusedSimpArgs false
theorem C_int {k:IntKind} {w:World} {A:Option Addr} {n:Nat} {l:List Int} (h0:Kd.C (Kd.int k) w A n l) (i:Nat) (hi:i < l.length):∃ ad,A=some ad∧w.cell? (ad.add i)=some (.int k l[i]):=by
 obtain ⟨ad,c,e,hc1,hK,hc⟩:=Kd.C_get h0 0 i (by omega) (by have:=h0.1;omega)
 refine ⟨ad,e,?_⟩
 cases hK
 have hq:=hc 0 _ rfl
 have e2:((i:Int)).toNat * (Kd.int k).sz + 0=i:=by show ((i:Int)).toNat * 1 + 0=i;omega
 rw [e2] at hq
 rw [hq]
 simp [List.getD,hi]
theorem R_empty {α:Type} (d:Kd α) (e base g:Nat) (w:World) (ok:Nat→Prop) (hok:ok g) (hb:base ≤ g) (h:w.heap[g]? = some (.cells #[] e (0,0))):d.R e w base ok (.slice (some ⟨g,0,none⟩) 0 0) []:=by
 refine ⟨fun k hk => ?_,[],⟨by simp,.inr ⟨g,0,#[],rfl,hb,h,Nat.le_refl _,by unfold maxLen;omega,by simp,by simp⟩⟩,Reps.none _ _⟩
 simp [Value.ownBlock] at hk
 subst hk
 exact hok
set_option maxHeartbeats 400000 in
theorem clone_calls (A0:Option Addr) (c0:Nat) (l0:List Int) (w:World) (h0:Kd.C (Kd.int .u8) w A0 l0.length l0) (hc0:l0.length ≤ c0) (hl:l0.length ≤ 140737488355328) :
 Calls Try.prog 45 #[.slice A0 l0.length c0] w fun e w'=>∃ v,e=.returned v∧Kd.R (Kd.int .u8) 5 w' w.heap.size (fun _=>True) v l0∧Below w.heap.size w w':=by
 have hu22:=Try.underlying22
 have hnil:=fun w=>Lib.run_eql_slice_nil (P:=Try.prog) w 22 5 A0 l0.length c0 0 0 hu22
 cases A0 with
 | none =>
  have hz:l0=[]:=by
   rcases Nat.eq_zero_or_pos l0.length with h|h
   · exact List.length_eq_zero_iff.1 h
   · obtain ⟨ad,he,_⟩:=h0.2.2 h
     cases he
  subst hz
  have hnil:=fun w=>Lib.run_eql_slice_nil (P:=Try.prog) w 22 5 none 0 c0 0 0 hu22
  go_enter Try.func45,Try.ntmps45
  go_wp2
  go_ret
  exact ⟨_,rfl,Kd.R_nil _ _ _ _ _,Below.refl _ _⟩
 | some ad =>
  go_enter Try.func45,Try.ntmps45
  go_wp2_with (first|((with_reducible refine gate_dst (N:=7) rfl ?_);refine Kd.R_append_row (w0:=w) (Value.int .u8) (0:Int) (h1:=fun _=>rfl) w.heap.size rfl (.tmp 5) (.tmp 6) 22 5 (.int .u8 0) 1 rfl hu22 info5 rfl (by decide) (.slice (some ⟨w.heap.size,0,none⟩) 0 0) [] l0 (some ad) l0.length c0 (fun _=>True) rfl rfl (fun _ _=>trivial) (R_empty _ _ _ _ _ _ trivial (Nat.le_refl _) (blk_new w _)) (Kd.C_alloc h0 _) (below_alloc (Below.refl _ _) _) (by simp) (by simp;omega) ?_;intro v1 w1 hr hb hg hv;have Hr:=Lib.hid hr;have Hb:=Lib.hid hb;clear hr hb hg hv) )
  go_ret
  exact ⟨_,rfl,Hr.out,Hb.out⟩
theorem pick_calls (i:Int) (A0:Option Addr) (c0:Nat) (l0:List Int) (w:World) (hi:0 ≤ i) (h0:Kd.C (Kd.int .i64) w A0 l0.length l0) (hc0:l0.length ≤ c0) :
 Calls Try.prog 50 #[.int .i64 i,.slice A0 l0.length c0] w fun e w'=>e=.returned (.int .i64 (l0.getD i.toNat 0))∧w'=w:=by
 have hu26:=Try.underlying26
 have hm:=C_max h0
 obtain ⟨n,rfl⟩:=Int.eq_ofNat_of_zero_le hi
 by_cases hlt:n < l0.length
 · obtain ⟨ad,rfl,hq⟩:=C_int h0 n hlt
   go_enter Try.func50,Try.ntmps50
   go_wp2
   go_ret
   exact ⟨by simp [List.getD,hlt],rfl⟩
 · go_enter Try.func50,Try.ntmps50
   go_wp2
   go_ret
   refine ⟨?_,rfl⟩
   simp [List.getD,List.getElem?_eq_none (Nat.le_of_not_lt hlt)]
theorem crash1_calls (i:Int) (A0:Option Addr) (c0:Nat) (l0:List Int) (B:Nat) (w:World) (hi:0 ≤ i) (hB:w.heap[B]? = some (.cells #[.slice A0 l0.length c0] 26 (0,0))) (h0:Kd.C (Kd.int .i64) w A0 l0.length l0) (hc0:l0.length ≤ c0) :
 Calls Try.prog 49 #[.int .i64 i,.pointer (some ⟨B,0,none⟩)] w fun e w'=>e=.returned (.int .i64 (l0.getD i.toNat 0))∧w'=w:=by
 have hu26:=Try.underlying26
 have hq:=(blk_cell hB 0).trans rfl
 go_enter Try.func49,Try.ntmps49
 go_wp2_with (go_at_call 50;refine (pick_calls i A0 c0 l0 w hi h0 hc0).mono ?_;rintro e w2 ⟨rfl,rfl⟩)
 go_ret
 exact ⟨rfl,rfl⟩
theorem whole1_calls (i:Nat) (A0:Option Addr) (n0 c0:Nat) (A1:Option Addr) (c1:Nat) (l1:List S45) (B:Nat) (w:World) (hi:i < l1.length) (hB:w.heap[B]? = some (.cells #[.slice A0 n0 c0,.slice A1 l1.length c1] 25 (0,0))) (h1:Kd.C k45 w A1 l1.length l1) :
 Calls Try.prog 59 #[.int .i64 i,.pointer (some ⟨B,0,none⟩)] w fun e w'=>e=.returned (.int .i64 l1[i].f1.length)∧w'=w:=by
 have hu25:=Try.underlying25
 have hu45:=Try.underlying45
 have hu23:=Try.underlying23
 have hm:=C_max h1
 have hq:=(blk_cell hB 1).trans rfl
 obtain ⟨ad,A2,c2,rfl,q0,q1,q2,q3⟩:=C_get45 h1 i hi hi
 go_enter Try.func59,Try.ntmps59
 go_wp2
 go_ret
 exact ⟨rfl,rfl⟩
theorem whole_calls (A0:Option Addr) (n0 c0:Nat) (A1:Option Addr) (n1 c1:Nat) (w:World) :
 Calls Try.prog 48 #[.agg #[.slice A0 n0 c0,.slice A1 n1 c1]] w fun e w'=>∃ B,e=.returned (.func (.func 59) #[] #[.pointer (some ⟨B,0,none⟩)])∧w'.heap[B]? = some (.cells #[.slice A0 n0 c0,.slice A1 n1 c1] 25 (0,0))∧w.heap.size ≤ B∧Below w.heap.size w w':=by
 have hu25:=Try.underlying25
 have hmf:∀ (fn:Fn) (first cap:Array Value) (w:World),(Instr.makeFunc fn first cap).run Try.prog w=.ok (.func fn first cap) w:=fun _ _ _ _=>rfl
 go_enter Try.func48,Try.ntmps48
 go_wp2
 go_ret
 exact ⟨_,rfl,blk_new w _,Nat.le_refl _,below_alloc (Below.refl _ _) _⟩
end Go.Proofs.Ytfpdmlhknddffaa.Dk
end
section
namespace Go.Proofs.Ytfpdmlhknddffaa.Dk
open Go.RowKit Go.Proofs.YtfpdmlhknddffaaW.PrintWords Go.Proofs.YtfpdmlhknddffaaW.PrintLast Go.Proofs.YtfpdmlhknddffaaW.PrintMore
attribute [local go_sem] max2_int min2_int max_two min_two
set_option linter.unusedVariables false
set_option linter.unusedSimpArgs false
theorem cut3 {P:Program} (t e:TypeId) {i:TypeInfo} (ht:P.underlying t=some (.slice e)) (hi:P.info? e=some i) (A:Option Addr) (n c:Nat) (h m:Int) (h0:0 ≤ h) (hm:h ≤ m) (hc:m ≤ c) :
 ∀ W:World,(Instr.slice t (.slice A n c) none (some (.int .i64 h)) (some (.int .i64 m))).run P W=.ok (.slice A h.toNat m.toNat) W:=by
 intro W
 have ha:(A.map fun x=>x.add 0)=A:=by cases A <;> simp [Addr.add]
 have hm0:0 ≤ m:=by omega
 have hmc:m.toNat=m:=by omega
 simp [Instr.slice,run_underlying ht,Instr.sliceBounds,Instr.sliceBound,asIntOf,hm0,hc,h0,hm,hmc,sizeOf,typeInfo,hi,Result.andThen]
 intro _
 exact ha
def keptN (k:Int) (n:Nat):Nat:=(min (max k 0) n).toNat
theorem keptN_le (k:Int) (n:Nat):keptN k n ≤ n:=by unfold keptN;omega
def applyN (kept:Nat→Int) (ws:List S45) (out:List Int):Nat→List Int
 | 0=>out
 | i + 1=>splice (applyN kept ws out i) (ws.getD i z45).f0.toNat ((ws.getD i z45).f1.take (keptN (kept i) (ws.getD i z45).f1.length))
def applyL (kept:Nat→Int) (ws:List S45) (out:List Int):List Int:=applyN kept ws out ws.length
theorem splice_length {α:Type} (L:List α) (off:Nat) (cs:List α) (h:off + cs.length ≤ L.length):(splice L off cs).length=L.length:=by
 unfold splice;simp;omega
theorem isPartB_iff (n a c:Int):isPartB n a c=true↔0 ≤ a∧0 ≤ c∧a ≤ n∧c ≤ n - a:=by
 unfold isPartB;simp;omega
theorem validB_iff (l0:List Int) (l1:List S45):validB l0 l1=true↔l0.length ≤ 65536∧l1.length ≤ 64∧∀ x ∈ l1,0 ≤ x.f0∧x.f0 + x.f1.length ≤ l0.length:=by
 have key:∀ x:S45,(!isPartB l0.length x.f0 x.f1.length)=false↔0 ≤ x.f0∧x.f0 + x.f1.length ≤ l0.length:=by
  intro x
  rw [Bool.not_eq_false',isPartB_iff]
  omega
 unfold validB
 rw [Bool.and_eq_true,Bool.and_eq_true,decide_eq_true_eq,decide_eq_true_eq,Bool.not_eq_true',List.any_eq_false]
 constructor
 · rintro ⟨⟨a,b⟩,c⟩
   exact ⟨a,b,fun x hx=>(key x).1 (by simpa using c x hx)⟩
 · rintro ⟨a,b,c⟩
   exact ⟨⟨a,b⟩,fun x hx=>by rw [(key x).2 (c x hx)];simp⟩
theorem applyN_length (kept:Nat→Int) (l0:List Int) (l1:List S45) (hv:validB l0 l1=true):∀ i,i ≤ l1.length→(applyN kept l1 l0 i).length=l0.length:=by
 intro i
 induction i with
 | zero=>intro _;rfl
 | succ i ih =>
  intro hi
  have h1:=ih (by omega)
  have hx:=((validB_iff l0 l1).1 hv).2.2 (l1.getD i z45) (by simp [List.getD,show i < l1.length by omega])
  show (splice _ _ _).length=_
  rw [splice_length,h1]
  rw [h1,List.length_take]
  have:=keptN_le (kept i) (l1.getD i z45).f1.length
  omega
end Go.Proofs.Ytfpdmlhknddffaa.Dk
end
section
namespace Go.Proofs.Ytfpdmlhknddffaa.Dk
open Go.RowKit Go.Proofs.YtfpdmlhknddffaaW.PrintWords Go.Proofs.YtfpdmlhknddffaaW.PrintLast Go.Proofs.YtfpdmlhknddffaaW.PrintMore
attribute [local go_sem] max2_int min2_int max_two min_two
set_option linter.unusedVariables false
set_option linter.unusedSimpArgs false
theorem R_block {k:IntKind} {e g n cap base:Nat} {ok:Nat→Prop} {w:World} {xs:List Int} (h:Kd.R (Kd.int k) e w base ok (.slice (some ⟨g,0,none⟩) n cap) xs) :
 ∃ cur:List Value,w.heap[g]? = some (.cells cur.toArray e (0,0))∧cur.length=cap∧n ≤ cap∧cap ≤ maxLen∧n=xs.length∧cur.take n=xs.map (Value.int k)∧base ≤ g:=by
 have hl:=(Kd.R_reads' h).1
 subst hl
 have ho:=Kd.own_of_R h
 obtain ⟨h1,h2⟩:=ho
 rcases h2 with ⟨h3,_⟩|⟨g',cap',cur,h3,h4,h5,h6,h7,h8,h9⟩
 · cases h3
 · injection h3 with e1 _ e3
   injection e1 with e1
   injection e1 with e1
   subst e1
   subst e3
   refine ⟨cur.toList,by simpa using h5,by simpa using h8,h6,h7,rfl,?_,h4⟩
   rw [Nat.mul_one] at h9
   rw [h9]
   rfl
theorem R_mk {k:IntKind} {e g cap base:Nat} {ok:Nat→Prop} {w:World} {xs:List Int} {cur:List Value} (hg:w.heap[g]? = some (.cells cur.toArray e (0,0))) (hc:cur.length=cap) (hn:xs.length ≤ cap) (hm:cap ≤ maxLen)
 (ht:cur.take xs.length=xs.map (Value.int k)) (hb:base ≤ g) (hok:ok g):Kd.R (Kd.int k) e w base ok (.slice (some ⟨g,0,none⟩) xs.length cap) xs:=by
 refine Kd.R_of_own ⟨by simp [encs],.inr ⟨g,cap,cur.toArray,rfl,hb,hg,hn,hm,by simp [hc],?_⟩⟩ (fun k hk => ?_)
 · simp [encs,ht]
 · simp [Value.ownBlock] at hk
   subst hk
   exact hok
theorem take_splice {α:Type} (L:List α) (off n:Nat) (cs:List α) (h:off + cs.length ≤ n) (hL:n ≤ L.length):(splice L off cs).take n=splice (L.take n) off cs:=by
 unfold splice
 have e:List.take off (List.take n L)=List.take off L:=by rw [List.take_take,Nat.min_eq_left (by omega)]
 have e2:List.drop (off + cs.length) (List.take n L)=List.take (n - (off + cs.length)) (List.drop (off + cs.length) L):=by rw [List.drop_take]
 rw [e,e2,List.take_append,List.take_append,List.length_take,Nat.min_eq_left (by omega),List.take_take,Nat.min_eq_right (by omega),List.take_of_length_le (l:=cs) (by omega)]
 rw [show n - off - cs.length=n - (off + cs.length) from by omega]
theorem region_tail {P:Program} {id:Nat} {Q:Exit→Act→World→Prop} {a:Act} {w:World} {l:List Oper} (n:Nat) (hm:P.follows .mixedOrders=true) (hB:Region.lexTailB .any l.toArray n=true)
 (h:∀ wd:World,Below w.heap.size w wd→wd.heap=w.heap→wpStill P l.toArray wd (fun a'=>wpList P l.toArray Q (l.drop n) a' wd) (l.take n) a):(Code.region id l.toArray true).wp P Q a w :=
 wp_region_still_tail n hm hB (h w.drew (below_drew (Below.refl _ _)) rfl)
theorem keptN_ite (k:Int) (n:Nat):(if (n:Int) < (if k < 0 then 0 else k) then (n:Int) else (if k < 0 then 0 else k))=((keptN k n:Nat):Int):=by
 unfold keptN
 split <;> split at * <;> omega
set_option maxHeartbeats 400000 in
theorem apply59_pos (A0:Option Addr) (c0:Nat) (l0:List Int) (A1:Option Addr) (c1:Nat) (l1:List S45) (B:Nat) (w:World) (kept:Nat→Int)
 (h0:Kd.C (Kd.int .u8) w A0 l0.length l0) (hc0:l0.length ≤ c0) (h1:Kd.C k45 w A1 l1.length l1) (hc1:l1.length ≤ c1) (hv:validB l0 l1=true) (hpos:0 < l0.length)
 (hkc:∀ (i:Nat) (w1:World),i < l1.length→Below w.heap.size w w1→Calls Try.prog 59 #[.int .i64 i,.pointer (some ⟨B,0,none⟩)] w1 fun e w'=>e=.returned (.int .i64 (kept i))∧w'=w1) :
  Calls Try.prog 47 #[.agg #[.slice A0 l0.length c0,.slice A1 l1.length c1],.func (.func 59) #[] #[.pointer (some ⟨B,0,none⟩)]] w fun e w'=>∃ v,e=.returned v∧Kd.R (Kd.int .u8) 5 w' w.heap.size (fun _=>True) v (applyL kept l1 l0)∧Below w.heap.size w w':=by
 have hu25:=Try.underlying25
 have hu45:=Try.underlying45
 have hu23:=Try.underlying23
 have hu22:=Try.underlying22
 obtain ⟨i5,hi5,_,hs5,_⟩:=info_parts info5
 have hm:=C_max h1
 have Hv:=(validB_iff l0 l1).1 hv
 have hl0:=Hv.1
 have hl1:=Hv.2.1
 have Hkc:=Lib.hid hkc;clear hkc
 go_enter Try.func47,Try.ntmps47
 go_wp2_with (first|((with_reducible refine gate_dst (N:=2) rfl ?_);(refine box_event ?hg (N:=2) ?hd (cs:=#[.slice A0 l0.length c0,.slice A1 l1.length c1]) (t:=25) ?hr ?_);(case hd=>rfl);(case hg=>rfl);(case hr=>first|(go_simp;done)|(go_simp;rfl));intro g hg w1 hb1 hB1;have hq0:=(blk_cell hb1 0).trans rfl;have hq1:=(blk_cell hb1 1).trans rfl;have HB1:=Lib.hid hB1;have Hb1:=Lib.hid hb1;clear hB1 hb1 hg)|(go_at_call 45;refine (clone_calls A0 c0 l0 w1 (Kd.C_below h0 HB1.out) hc0 (by omega)).mono ?_;rintro e w2 ⟨v,rfl,hr,hb2⟩;obtain ⟨g2,cap2,rfl,hg2b,hg2,cells2,hcells2⟩:=Kd.R_form hr hpos;have hq2:=(blk_cell (blk_below Hb1.out hb2) 0).trans rfl;have hq3:=(blk_cell (blk_below Hb1.out hb2) 1).trans rfl;have HR:=Lib.hid hr;have HB2:=Lib.hid (below_then HB1.out HB1.out.size hb2);have Hcells:=Lib.hid hcells2;clear hr hb2 hcells2) )
 obtain ⟨cur0,k1,k2,k3,k4,k5,k6,k7⟩:=R_block HR.out
 have hgw:w.heap.size ≤ g2:=Nat.le_trans HB1.out.size k7
 have K1:=Lib.hid k1
 have K6:=Lib.hid k6
 clear k1 k5 k6 hq0 hq1 hq2 hq3
 go_loopg [15] l1.length (fun k v15 wr=>∃ i:Nat,i ≤ l1.length∧k=l1.length - i∧v15=.int .i64 i∧(∃ cur:List Value,Hid (wr.heap[g2]? = some (.cells cur.toArray 5 (0,0)))∧Hid (cur.length=cap2)∧Hid (cur.take l0.length=(applyN kept l1 l0 i).map (Value.int .u8)))∧Below w.heap.size w wr)
 case atStart=>exact ⟨0,by omega,by omega,rfl,⟨cur0,K1,Lib.hid k2,K6⟩,HB2.out⟩
 case round =>
  obtain ⟨i,hi,rfl,rfl,⟨cur,C1,C2,C3⟩,hb⟩:=hrel
  by_cases hlt:i < l1.length
  · have g1:=Kd.C_below h1 hb
    obtain ⟨ad,A2,c2,rfl,q0,q1,q2,q3⟩:=C_get45 g1 i hlt hlt
    obtain ⟨xi,hxi⟩:∃ xi,xi=l1[i]:=⟨_,rfl⟩
    have hxm:xi ∈ l1:=by rw [hxi];exact List.getElem_mem _
    have hxv:=Hv.2.2 xi hxm
    rw [← hxi] at q0 q1 q2 q3
    have Hxi:=Lib.hid hxi
    clear hxi
    obtain ⟨f0,f1⟩:=xi
    dsimp only at q0 q1 q2 q3 hxv
    have hm2:=C_max q3
    have hge:g2 < wr.heap.size:=blk_lt C1.out
    go_wp2_with (fail)
    obtain ⟨wb,hwb⟩:∃ wb,wb=wr.alloc (.cells #[.int .i64 f0,.slice A2 f1.length c2] 45):=⟨_,rfl⟩
    rw [← hwb]
    have hbb:Below wr.heap.size wr wb:=by rw [hwb];exact below_alloc (Below.refl _ _) _
    have hblk:wb.heap[wr.heap.size]? = some (.cells #[.int .i64 f0,.slice A2 f1.length c2] 45 (0,0)):=by rw [hwb];exact blk_new _ _
    have hq4:wb.cell? ⟨wr.heap.size,0,none⟩=some (.int .i64 f0):=(blk_cell hblk 0).trans rfl
    have hq5:wb.cell? ⟨wr.heap.size,1,none⟩=some (.slice A2 f1.length c2):=(blk_cell hblk 1).trans rfl
    have Hbb:=Lib.hid hbb
    have Hblk:=Lib.hid hblk
    clear hwb hbb hblk q0 q1
    go_quiet ((go_at_call 59;exact Calls.quiet_of_same (Hkc.out i _ hlt (pw_below_drewN (below_then hb hb.size Hbb.out) _))))
    rw [keptN_ite (kept i) f1.length]
    have hkn:=keptN_le (kept i) f1.length
    obtain ⟨kn,hkk⟩:∃ kn,kn=keptN (kept i) f1.length:=⟨_,rfl⟩
    rw [← hkk] at hkn ⊢
    generalize (if kept i < 0 then (0:Int) else kept i)=mx
    have Hkk:=Lib.hid hkk
    clear hkk
    have hcut:=cut_from (P:=Try.prog) 22 5 .i64 hu22 hi5 1 hs5 (some ⟨g2,0,none⟩) l0.length cap2 f0 hxv.1 (by omega)
    obtain ⟨dp,hdp⟩:∃ dp,dp=(if cap2=f0.toNat then (some ⟨g2,0,none⟩:Option Addr) else (some (⟨g2,0,none⟩:Addr)).map (·.add (f0.toNat * 1))):=⟨_,rfl⟩
    rw [← hdp] at hcut
    have Hdp:=Lib.hid hdp
    clear hdp
    have hcut2:=cut3 (P:=Try.prog) 22 5 hu22 hi5 A2 f1.length c2 (kn:Int) (kn:Int) (by omega) (by omega) (by omega)
    go_wp2_with (fail)
    refine region_tail 9 (by kernel_rfl) (by kernel_rfl) ?_
    intro wd hbd hhd
    simp only [List.take_succ_cons,List.take_zero,List.drop_succ_cons,List.drop_zero]
    have hq6:wd.cell? ⟨wr.heap.size,0,none⟩=some (.int .i64 f0):=(pw_cell_below hbd (pw_cell_below (pw_below_drewN (Below.refl _ _) nq) hq4))
    have hq7:wd.cell? ⟨wr.heap.size,1,none⟩=some (.slice A2 f1.length c2):=(pw_cell_below hbd (pw_cell_below (pw_below_drewN (Below.refl _ _) nq) hq5))
    have Hbd:=Lib.hid (below_then Hbb.out Hbb.out.size (below_then (pw_below_drewN (Below.refl wb.heap.size wb) nq) (Nat.le_refl _) hbd))
    clear hq4 hq5 hbd hhd
    repeat still_step
    refine wpStill_nil ?_
    have hbw:Below w.heap.size w wd:=below_then hb hb.size Hbd.out
    have hcl:(((f1.take kn).map (Value.int .u8)).length)=kn:=by simp;omega
    have hzn:l0.length ≤ cap2:=k3
    refine wpList_copy_splice rfl (.tmp 31) (.tmp 36) 22 22 rfl 5 hu22 (by rw [hi5];simp [hs5]) dp A2 (l0.length - f0.toNat) (cap2 - f0.toNat) kn kn rfl rfl g2 f0.toNat cur 5 (blk_below C1.out Hbd.out) ((f1.take kn).map (Value.int .u8)) ?hn ?hp ?hfit ?h1 w.heap.size w hbw hgw ?rest
    case hn=>rw [hcl];show kn=min kn (l0.length - f0.toNat);omega
    case hp =>
     intro hlen
     rw [hcl] at hlen
     refine ⟨?_,?_⟩
     · rw [Hdp.out,if_neg (by omega)]
       simp [Addr.add]
       intro _;omega
     · obtain ⟨ad2,e2,_⟩:=C_int q3 0 (by omega)
       refine ⟨ad2,e2,?_⟩
       intro j v hj
       have hj2:j < kn:=by have:=(List.getElem?_eq_some_iff.1 hj).1;rw [hcl] at this;exact this
       obtain ⟨ad3,e3,hc3⟩:=C_int (Kd.C_below q3 Hbd.out) j (by omega)
       rw [e2] at e3
       injection e3 with e3
       subst e3
       rw [hc3]
       rw [List.getElem?_map,List.getElem?_take_of_lt hj2,List.getElem?_eq_getElem (by omega)] at hj
       exact hj
    case hfit=>rw [hcl,C2.out];omega
    case h1 =>
     intro v hv
     obtain ⟨z,_,rfl⟩:=List.mem_map.1 hv
     rfl
    case rest =>
     intro w6 h6 hb6
     go_wp2
     go_roundg (l1.length - (i + 1))
     case measure=>omega
     case rel =>
      refine ⟨i + 1,by omega,rfl,by go_num,⟨_,h6,Lib.hid ?_,Lib.hid ?_⟩,hb6⟩
      · rw [splice_length _ _ _ (by rw [hcl,C2.out];omega)];exact C2.out
      · have hz:l1.getD i z45=⟨f0,f1⟩:=by rw [Hxi.out];simp [List.getD,hlt]
        show _=(splice (applyN kept l1 l0 i) (l1.getD i z45).f0.toNat ((l1.getD i z45).f1.take (keptN (kept i) (l1.getD i z45).f1.length))).map _
        rw [hz,take_splice _ _ _ _ (by rw [hcl];omega) (by rw [C2.out];omega),C3.out]
        dsimp only
        rw [← Hkk.out]
        unfold splice
        simp
  · obtain rfl:i=l1.length:=by omega
    go_wp2
    go_ret
    refine ⟨_,rfl,?_,hb⟩
    have hlen:=applyN_length kept l0 l1 hv l1.length (Nat.le_refl _)
    have:=R_mk (k:=.u8) (ok:=fun _=>True) (base:=w.heap.size) (xs:=applyL kept l1 l0) C1.out C2.out (by unfold applyL;omega) k4 (by unfold applyL;rw [hlen];exact C3.out) hgw trivial
    unfold applyL at this ⊢
    rw [hlen] at this
    exact this
set_option maxHeartbeats 400000 in
theorem apply59_nil (A0:Option Addr) (c0:Nat) (A1:Option Addr) (c1:Nat) (l1:List S45) (B:Nat) (w:World) (kept:Nat→Int)
 (h0:Kd.C (Kd.int .u8) w A0 0 []) (h1:Kd.C k45 w A1 l1.length l1) (hc1:l1.length ≤ c1) (hv:validB [] l1=true)
 (hkc:∀ (i:Nat) (w1:World),i < l1.length→Below w.heap.size w w1→Calls Try.prog 59 #[.int .i64 i,.pointer (some ⟨B,0,none⟩)] w1 fun e w'=>e=.returned (.int .i64 (kept i))∧w'=w1) :
  Calls Try.prog 47 #[.agg #[.slice A0 0 c0,.slice A1 l1.length c1],.func (.func 59) #[] #[.pointer (some ⟨B,0,none⟩)]] w fun e w'=>∃ v,e=.returned v∧Kd.R (Kd.int .u8) 5 w' w.heap.size (fun _=>True) v (applyL kept l1 [])∧Below w.heap.size w w':=by
 have hu25:=Try.underlying25
 have hu45:=Try.underlying45
 have hu23:=Try.underlying23
 have hu22:=Try.underlying22
 obtain ⟨i5,hi5,_,hs5,_⟩:=info_parts info5
 have hm:=C_max h1
 have Hv:=(validB_iff [] l1).1 hv
 have hl1:=Hv.2.1
 have Hkc:=Lib.hid hkc;clear hkc
 go_enter Try.func47,Try.ntmps47
 go_wp2_with (first|((with_reducible refine gate_dst (N:=2) rfl ?_);(refine box_event ?hg (N:=2) ?hd (cs:=#[.slice A0 0 c0,.slice A1 l1.length c1]) (t:=25) ?hr ?_);(case hd=>rfl);(case hg=>rfl);(case hr=>first|(go_simp;done)|(go_simp;rfl));intro g hg w1 hb1 hB1;have hq0:=(blk_cell hb1 0).trans rfl;have hq1:=(blk_cell hb1 1).trans rfl;have HB1:=Lib.hid hB1;have Hb1:=Lib.hid hb1;clear hB1 hb1 hg)|(go_at_call 45;refine (clone_calls A0 c0 [] w1 (Kd.C_below h0 HB1.out) (by simp) (by simp)).mono ?_;rintro e w2 ⟨v,rfl,hr,hb2⟩;obtain ⟨A5,cap2,rfl⟩:=Kd.R_slice hr;have hq2:=(blk_cell (blk_below Hb1.out hb2) 0).trans rfl;have hq3:=(blk_cell (blk_below Hb1.out hb2) 1).trans rfl;have HR:=Lib.hid hr;have HB2:=Lib.hid (below_then HB1.out HB1.out.size hb2);clear hr hb2) )
 clear hq0 hq1 hq2 hq3
 go_loopg [15] l1.length (fun k v15 wr=>∃ i:Nat,i ≤ l1.length∧k=l1.length - i∧v15=.int .i64 i∧Below w2.heap.size w2 wr)
 case atStart=>exact ⟨0,by omega,by omega,rfl,Below.refl _ _⟩
 case round =>
  obtain ⟨i,hi,rfl,rfl,hb⟩:=hrel
  have hbw:=below_then HB2.out HB2.out.size hb
  by_cases hlt:i < l1.length
  · have g1:=Kd.C_below h1 hbw
    obtain ⟨ad,A2,c2,rfl,q0,q1,q2,q3⟩:=C_get45 g1 i hlt hlt
    obtain ⟨xi,hxi⟩:∃ xi,xi=l1[i]:=⟨_,rfl⟩
    have hxm:xi ∈ l1:=by rw [hxi];exact List.getElem_mem _
    have hxv:=Hv.2.2 xi hxm
    rw [← hxi] at q0 q1 q2 q3
    clear hxi hxm
    obtain ⟨f0,f1⟩:=xi
    dsimp only at q0 q1 q2 q3 hxv
    obtain rfl:f1=[]:=List.length_eq_zero_iff.1 (by simp at hxv;omega)
    obtain rfl:f0=0:=by simp at hxv;omega
    have q4:wr.cell? ⟨(ad.add (i * 2)).block,(ad.add (i * 2)).off + 1,none⟩=some (.slice A2 0 c2):=q1
    clear q1
    go_wp2_with (fail)
    obtain ⟨wb,hwb⟩:∃ wb,wb=wr.alloc (.cells #[.int .i64 0,.slice A2 0 c2] 45):=⟨_,rfl⟩
    rw [← hwb]
    have hbb:Below wr.heap.size wr wb:=by rw [hwb];exact below_alloc (Below.refl _ _) _
    have hblk:wb.heap[wr.heap.size]? = some (.cells #[.int .i64 0,.slice A2 0 c2] 45 (0,0)):=by rw [hwb];exact blk_new _ _
    have hq4:wb.cell? ⟨wr.heap.size,0,none⟩=some (.int .i64 0):=(blk_cell hblk 0).trans rfl
    have hq5:wb.cell? ⟨wr.heap.size,1,none⟩=some (.slice A2 0 c2):=(blk_cell hblk 1).trans rfl
    have Hbb:=Lib.hid hbb
    clear hwb hbb hblk q0 q4
    go_quiet ((go_at_call 59;exact Calls.quiet_of_same (Hkc.out i _ hlt (pw_below_drewN (below_then hbw hbw.size Hbb.out) _))))
    have hz:(if (0:Int) < (if kept i < 0 then 0 else kept i) then (0:Int) else (if kept i < 0 then 0 else kept i))=0:=by split <;> split at * <;> omega
    rw [hz]
    clear hz
    generalize (if kept i < 0 then (0:Int) else kept i)=mx
    have hcut:=cut_from (P:=Try.prog) 22 5 .i64 hu22 hi5 1 hs5 A5 0 cap2 0 (by omega) (by omega)
    obtain ⟨dp,hdp⟩:∃ dp,dp=(if cap2=(0:Int).toNat then A5 else A5.map (·.add ((0:Int).toNat * 1))):=⟨_,rfl⟩
    rw [← hdp] at hcut
    clear hdp
    have hcut2:=cut3 (P:=Try.prog) 22 5 hu22 hi5 A2 0 c2 0 0 (by omega) (by omega) (by omega)
    go_wp2_with (fail)
    refine region_tail 9 (by kernel_rfl) (by kernel_rfl) ?_
    intro wd hbd hhd
    simp only [List.take_succ_cons,List.take_zero,List.drop_succ_cons,List.drop_zero]
    have hq6:wd.cell? ⟨wr.heap.size,0,none⟩=some (.int .i64 0):=(pw_cell_below hbd (pw_cell_below (pw_below_drewN (Below.refl _ _) nq) hq4))
    have hq7:wd.cell? ⟨wr.heap.size,1,none⟩=some (.slice A2 0 c2):=(pw_cell_below hbd (pw_cell_below (pw_below_drewN (Below.refl _ _) nq) hq5))
    have Hbd:=Lib.hid (below_then Hbb.out Hbb.out.size (below_then (pw_below_drewN (Below.refl wb.heap.size wb) nq) (Nat.le_refl _) hbd))
    clear hq4 hq5 hbd hhd
    repeat still_step
    refine wpStill_nil ?_
    refine wpList_copy_nothing rfl (.tmp 31) (.tmp 36) 22 22 rfl 5 hu22 (by rw [hi5];simp [hs5]) dp A2 0 cap2 0 0 rfl rfl rfl ?_
    go_wp2
    go_roundg (l1.length - (i + 1))
    case measure=>omega
    case rel=>exact ⟨i + 1,by omega,rfl,by go_num,below_then hb hb.size Hbd.out⟩
  · go_wp2
    go_ret
    refine ⟨_,rfl,?_,hbw⟩
    have hlen:=applyN_length kept [] l1 hv l1.length (Nat.le_refl _)
    have e:applyL kept l1 []=[]:=List.length_eq_zero_iff.1 hlen
    rw [e]
    exact Kd.R_lower (Kd.R_below HR.out hb) HB1.out.size
theorem apply59_calls (A0:Option Addr) (c0:Nat) (l0:List Int) (A1:Option Addr) (c1:Nat) (l1:List S45) (B:Nat) (w:World) (kept:Nat→Int)
 (h0:Kd.C (Kd.int .u8) w A0 l0.length l0) (hc0:l0.length ≤ c0) (h1:Kd.C k45 w A1 l1.length l1) (hc1:l1.length ≤ c1) (hv:validB l0 l1=true)
 (hkc:∀ (i:Nat) (w1:World),i < l1.length→Below w.heap.size w w1→Calls Try.prog 59 #[.int .i64 i,.pointer (some ⟨B,0,none⟩)] w1 fun e w'=>e=.returned (.int .i64 (kept i))∧w'=w1) :
  Calls Try.prog 47 #[.agg #[.slice A0 l0.length c0,.slice A1 l1.length c1],.func (.func 59) #[] #[.pointer (some ⟨B,0,none⟩)]] w fun e w'=>∃ v,e=.returned v∧Kd.R (Kd.int .u8) 5 w' w.heap.size (fun _=>True) v (applyL kept l1 l0)∧Below w.heap.size w w':=by
 rcases Nat.eq_zero_or_pos l0.length with h|h
 · obtain rfl:=List.length_eq_zero_iff.1 h
   exact apply59_nil A0 c0 A1 c1 l1 B w kept h0 h1 hc1 hv hkc
 · exact apply59_pos A0 c0 l0 A1 c1 l1 B w kept h0 hc0 h1 hc1 hv h hkc
set_option maxHeartbeats 400000 in
theorem apply49_pos (A0:Option Addr) (c0:Nat) (l0:List Int) (A1:Option Addr) (c1:Nat) (l1:List S45) (B:Nat) (w:World) (kept:Nat→Int)
 (h0:Kd.C (Kd.int .u8) w A0 l0.length l0) (hc0:l0.length ≤ c0) (h1:Kd.C k45 w A1 l1.length l1) (hc1:l1.length ≤ c1) (hv:validB l0 l1=true) (hpos:0 < l0.length)
 (hkc:∀ (i:Nat) (w1:World),i < l1.length→Below w.heap.size w w1→Calls Try.prog 49 #[.int .i64 i,.pointer (some ⟨B,0,none⟩)] w1 fun e w'=>e=.returned (.int .i64 (kept i))∧w'=w1) :
  Calls Try.prog 47 #[.agg #[.slice A0 l0.length c0,.slice A1 l1.length c1],.func (.func 49) #[] #[.pointer (some ⟨B,0,none⟩)]] w fun e w'=>∃ v,e=.returned v∧Kd.R (Kd.int .u8) 5 w' w.heap.size (fun _=>True) v (applyL kept l1 l0)∧Below w.heap.size w w':=by
 have hu25:=Try.underlying25
 have hu45:=Try.underlying45
 have hu23:=Try.underlying23
 have hu22:=Try.underlying22
 obtain ⟨i5,hi5,_,hs5,_⟩:=info_parts info5
 have hm:=C_max h1
 have Hv:=(validB_iff l0 l1).1 hv
 have hl0:=Hv.1
 have hl1:=Hv.2.1
 have Hkc:=Lib.hid hkc;clear hkc
 go_enter Try.func47,Try.ntmps47
 go_wp2_with (first|((with_reducible refine gate_dst (N:=2) rfl ?_);(refine box_event ?hg (N:=2) ?hd (cs:=#[.slice A0 l0.length c0,.slice A1 l1.length c1]) (t:=25) ?hr ?_);(case hd=>rfl);(case hg=>rfl);(case hr=>first|(go_simp;done)|(go_simp;rfl));intro g hg w1 hb1 hB1;have hq0:=(blk_cell hb1 0).trans rfl;have hq1:=(blk_cell hb1 1).trans rfl;have HB1:=Lib.hid hB1;have Hb1:=Lib.hid hb1;clear hB1 hb1 hg)|(go_at_call 45;refine (clone_calls A0 c0 l0 w1 (Kd.C_below h0 HB1.out) hc0 (by omega)).mono ?_;rintro e w2 ⟨v,rfl,hr,hb2⟩;obtain ⟨g2,cap2,rfl,hg2b,hg2,cells2,hcells2⟩:=Kd.R_form hr hpos;have hq2:=(blk_cell (blk_below Hb1.out hb2) 0).trans rfl;have hq3:=(blk_cell (blk_below Hb1.out hb2) 1).trans rfl;have HR:=Lib.hid hr;have HB2:=Lib.hid (below_then HB1.out HB1.out.size hb2);have Hcells:=Lib.hid hcells2;clear hr hb2 hcells2) )
 obtain ⟨cur0,k1,k2,k3,k4,k5,k6,k7⟩:=R_block HR.out
 have hgw:w.heap.size ≤ g2:=Nat.le_trans HB1.out.size k7
 have K1:=Lib.hid k1
 have K6:=Lib.hid k6
 clear k1 k5 k6 hq0 hq1 hq2 hq3
 go_loopg [15] l1.length (fun k v15 wr=>∃ i:Nat,i ≤ l1.length∧k=l1.length - i∧v15=.int .i64 i∧(∃ cur:List Value,Hid (wr.heap[g2]? = some (.cells cur.toArray 5 (0,0)))∧Hid (cur.length=cap2)∧Hid (cur.take l0.length=(applyN kept l1 l0 i).map (Value.int .u8)))∧Below w.heap.size w wr)
 case atStart=>exact ⟨0,by omega,by omega,rfl,⟨cur0,K1,Lib.hid k2,K6⟩,HB2.out⟩
 case round =>
  obtain ⟨i,hi,rfl,rfl,⟨cur,C1,C2,C3⟩,hb⟩:=hrel
  by_cases hlt:i < l1.length
  · have g1:=Kd.C_below h1 hb
    obtain ⟨ad,A2,c2,rfl,q0,q1,q2,q3⟩:=C_get45 g1 i hlt hlt
    obtain ⟨xi,hxi⟩:∃ xi,xi=l1[i]:=⟨_,rfl⟩
    have hxm:xi ∈ l1:=by rw [hxi];exact List.getElem_mem _
    have hxv:=Hv.2.2 xi hxm
    rw [← hxi] at q0 q1 q2 q3
    have Hxi:=Lib.hid hxi
    clear hxi
    obtain ⟨f0,f1⟩:=xi
    dsimp only at q0 q1 q2 q3 hxv
    have hm2:=C_max q3
    have hge:g2 < wr.heap.size:=blk_lt C1.out
    go_wp2_with (fail)
    obtain ⟨wb,hwb⟩:∃ wb,wb=wr.alloc (.cells #[.int .i64 f0,.slice A2 f1.length c2] 45):=⟨_,rfl⟩
    rw [← hwb]
    have hbb:Below wr.heap.size wr wb:=by rw [hwb];exact below_alloc (Below.refl _ _) _
    have hblk:wb.heap[wr.heap.size]? = some (.cells #[.int .i64 f0,.slice A2 f1.length c2] 45 (0,0)):=by rw [hwb];exact blk_new _ _
    have hq4:wb.cell? ⟨wr.heap.size,0,none⟩=some (.int .i64 f0):=(blk_cell hblk 0).trans rfl
    have hq5:wb.cell? ⟨wr.heap.size,1,none⟩=some (.slice A2 f1.length c2):=(blk_cell hblk 1).trans rfl
    have Hbb:=Lib.hid hbb
    have Hblk:=Lib.hid hblk
    clear hwb hbb hblk q0 q1
    go_quiet ((go_at_call 49;exact Calls.quiet_of_same (Hkc.out i _ hlt (pw_below_drewN (below_then hb hb.size Hbb.out) _))))
    rw [keptN_ite (kept i) f1.length]
    have hkn:=keptN_le (kept i) f1.length
    obtain ⟨kn,hkk⟩:∃ kn,kn=keptN (kept i) f1.length:=⟨_,rfl⟩
    rw [← hkk] at hkn ⊢
    generalize (if kept i < 0 then (0:Int) else kept i)=mx
    have Hkk:=Lib.hid hkk
    clear hkk
    have hcut:=cut_from (P:=Try.prog) 22 5 .i64 hu22 hi5 1 hs5 (some ⟨g2,0,none⟩) l0.length cap2 f0 hxv.1 (by omega)
    obtain ⟨dp,hdp⟩:∃ dp,dp=(if cap2=f0.toNat then (some ⟨g2,0,none⟩:Option Addr) else (some (⟨g2,0,none⟩:Addr)).map (·.add (f0.toNat * 1))):=⟨_,rfl⟩
    rw [← hdp] at hcut
    have Hdp:=Lib.hid hdp
    clear hdp
    have hcut2:=cut3 (P:=Try.prog) 22 5 hu22 hi5 A2 f1.length c2 (kn:Int) (kn:Int) (by omega) (by omega) (by omega)
    go_wp2_with (fail)
    refine region_tail 9 (by kernel_rfl) (by kernel_rfl) ?_
    intro wd hbd hhd
    simp only [List.take_succ_cons,List.take_zero,List.drop_succ_cons,List.drop_zero]
    have hq6:wd.cell? ⟨wr.heap.size,0,none⟩=some (.int .i64 f0):=(pw_cell_below hbd (pw_cell_below (pw_below_drewN (Below.refl _ _) nq) hq4))
    have hq7:wd.cell? ⟨wr.heap.size,1,none⟩=some (.slice A2 f1.length c2):=(pw_cell_below hbd (pw_cell_below (pw_below_drewN (Below.refl _ _) nq) hq5))
    have Hbd:=Lib.hid (below_then Hbb.out Hbb.out.size (below_then (pw_below_drewN (Below.refl wb.heap.size wb) nq) (Nat.le_refl _) hbd))
    clear hq4 hq5 hbd hhd
    repeat still_step
    refine wpStill_nil ?_
    have hbw:Below w.heap.size w wd:=below_then hb hb.size Hbd.out
    have hcl:(((f1.take kn).map (Value.int .u8)).length)=kn:=by simp;omega
    have hzn:l0.length ≤ cap2:=k3
    refine wpList_copy_splice rfl (.tmp 31) (.tmp 36) 22 22 rfl 5 hu22 (by rw [hi5];simp [hs5]) dp A2 (l0.length - f0.toNat) (cap2 - f0.toNat) kn kn rfl rfl g2 f0.toNat cur 5 (blk_below C1.out Hbd.out) ((f1.take kn).map (Value.int .u8)) ?hn ?hp ?hfit ?h1 w.heap.size w hbw hgw ?rest
    case hn=>rw [hcl];show kn=min kn (l0.length - f0.toNat);omega
    case hp =>
     intro hlen
     rw [hcl] at hlen
     refine ⟨?_,?_⟩
     · rw [Hdp.out,if_neg (by omega)]
       simp [Addr.add]
       intro _;omega
     · obtain ⟨ad2,e2,_⟩:=C_int q3 0 (by omega)
       refine ⟨ad2,e2,?_⟩
       intro j v hj
       have hj2:j < kn:=by have:=(List.getElem?_eq_some_iff.1 hj).1;rw [hcl] at this;exact this
       obtain ⟨ad3,e3,hc3⟩:=C_int (Kd.C_below q3 Hbd.out) j (by omega)
       rw [e2] at e3
       injection e3 with e3
       subst e3
       rw [hc3]
       rw [List.getElem?_map,List.getElem?_take_of_lt hj2,List.getElem?_eq_getElem (by omega)] at hj
       exact hj
    case hfit=>rw [hcl,C2.out];omega
    case h1 =>
     intro v hv
     obtain ⟨z,_,rfl⟩:=List.mem_map.1 hv
     rfl
    case rest =>
     intro w6 h6 hb6
     go_wp2
     go_roundg (l1.length - (i + 1))
     case measure=>omega
     case rel =>
      refine ⟨i + 1,by omega,rfl,by go_num,⟨_,h6,Lib.hid ?_,Lib.hid ?_⟩,hb6⟩
      · rw [splice_length _ _ _ (by rw [hcl,C2.out];omega)];exact C2.out
      · have hz:l1.getD i z45=⟨f0,f1⟩:=by rw [Hxi.out];simp [List.getD,hlt]
        show _=(splice (applyN kept l1 l0 i) (l1.getD i z45).f0.toNat ((l1.getD i z45).f1.take (keptN (kept i) (l1.getD i z45).f1.length))).map _
        rw [hz,take_splice _ _ _ _ (by rw [hcl];omega) (by rw [C2.out];omega),C3.out]
        dsimp only
        rw [← Hkk.out]
        unfold splice
        simp
  · obtain rfl:i=l1.length:=by omega
    go_wp2
    go_ret
    refine ⟨_,rfl,?_,hb⟩
    have hlen:=applyN_length kept l0 l1 hv l1.length (Nat.le_refl _)
    have:=R_mk (k:=.u8) (ok:=fun _=>True) (base:=w.heap.size) (xs:=applyL kept l1 l0) C1.out C2.out (by unfold applyL;omega) k4 (by unfold applyL;rw [hlen];exact C3.out) hgw trivial
    unfold applyL at this ⊢
    rw [hlen] at this
    exact this
set_option maxHeartbeats 400000 in
theorem apply49_nil (A0:Option Addr) (c0:Nat) (A1:Option Addr) (c1:Nat) (l1:List S45) (B:Nat) (w:World) (kept:Nat→Int)
 (h0:Kd.C (Kd.int .u8) w A0 0 []) (h1:Kd.C k45 w A1 l1.length l1) (hc1:l1.length ≤ c1) (hv:validB [] l1=true)
 (hkc:∀ (i:Nat) (w1:World),i < l1.length→Below w.heap.size w w1→Calls Try.prog 49 #[.int .i64 i,.pointer (some ⟨B,0,none⟩)] w1 fun e w'=>e=.returned (.int .i64 (kept i))∧w'=w1) :
  Calls Try.prog 47 #[.agg #[.slice A0 0 c0,.slice A1 l1.length c1],.func (.func 49) #[] #[.pointer (some ⟨B,0,none⟩)]] w fun e w'=>∃ v,e=.returned v∧Kd.R (Kd.int .u8) 5 w' w.heap.size (fun _=>True) v (applyL kept l1 [])∧Below w.heap.size w w':=by
 have hu25:=Try.underlying25
 have hu45:=Try.underlying45
 have hu23:=Try.underlying23
 have hu22:=Try.underlying22
 obtain ⟨i5,hi5,_,hs5,_⟩:=info_parts info5
 have hm:=C_max h1
 have Hv:=(validB_iff [] l1).1 hv
 have hl1:=Hv.2.1
 have Hkc:=Lib.hid hkc;clear hkc
 go_enter Try.func47,Try.ntmps47
 go_wp2_with (first|((with_reducible refine gate_dst (N:=2) rfl ?_);(refine box_event ?hg (N:=2) ?hd (cs:=#[.slice A0 0 c0,.slice A1 l1.length c1]) (t:=25) ?hr ?_);(case hd=>rfl);(case hg=>rfl);(case hr=>first|(go_simp;done)|(go_simp;rfl));intro g hg w1 hb1 hB1;have hq0:=(blk_cell hb1 0).trans rfl;have hq1:=(blk_cell hb1 1).trans rfl;have HB1:=Lib.hid hB1;have Hb1:=Lib.hid hb1;clear hB1 hb1 hg)|(go_at_call 45;refine (clone_calls A0 c0 [] w1 (Kd.C_below h0 HB1.out) (by simp) (by simp)).mono ?_;rintro e w2 ⟨v,rfl,hr,hb2⟩;obtain ⟨A5,cap2,rfl⟩:=Kd.R_slice hr;have hq2:=(blk_cell (blk_below Hb1.out hb2) 0).trans rfl;have hq3:=(blk_cell (blk_below Hb1.out hb2) 1).trans rfl;have HR:=Lib.hid hr;have HB2:=Lib.hid (below_then HB1.out HB1.out.size hb2);clear hr hb2) )
 clear hq0 hq1 hq2 hq3
 go_loopg [15] l1.length (fun k v15 wr=>∃ i:Nat,i ≤ l1.length∧k=l1.length - i∧v15=.int .i64 i∧Below w2.heap.size w2 wr)
 case atStart=>exact ⟨0,by omega,by omega,rfl,Below.refl _ _⟩
 case round =>
  obtain ⟨i,hi,rfl,rfl,hb⟩:=hrel
  have hbw:=below_then HB2.out HB2.out.size hb
  by_cases hlt:i < l1.length
  · have g1:=Kd.C_below h1 hbw
    obtain ⟨ad,A2,c2,rfl,q0,q1,q2,q3⟩:=C_get45 g1 i hlt hlt
    obtain ⟨xi,hxi⟩:∃ xi,xi=l1[i]:=⟨_,rfl⟩
    have hxm:xi ∈ l1:=by rw [hxi];exact List.getElem_mem _
    have hxv:=Hv.2.2 xi hxm
    rw [← hxi] at q0 q1 q2 q3
    clear hxi hxm
    obtain ⟨f0,f1⟩:=xi
    dsimp only at q0 q1 q2 q3 hxv
    obtain rfl:f1=[]:=List.length_eq_zero_iff.1 (by simp at hxv;omega)
    obtain rfl:f0=0:=by simp at hxv;omega
    have q4:wr.cell? ⟨(ad.add (i * 2)).block,(ad.add (i * 2)).off + 1,none⟩=some (.slice A2 0 c2):=q1
    clear q1
    go_wp2_with (fail)
    obtain ⟨wb,hwb⟩:∃ wb,wb=wr.alloc (.cells #[.int .i64 0,.slice A2 0 c2] 45):=⟨_,rfl⟩
    rw [← hwb]
    have hbb:Below wr.heap.size wr wb:=by rw [hwb];exact below_alloc (Below.refl _ _) _
    have hblk:wb.heap[wr.heap.size]? = some (.cells #[.int .i64 0,.slice A2 0 c2] 45 (0,0)):=by rw [hwb];exact blk_new _ _
    have hq4:wb.cell? ⟨wr.heap.size,0,none⟩=some (.int .i64 0):=(blk_cell hblk 0).trans rfl
    have hq5:wb.cell? ⟨wr.heap.size,1,none⟩=some (.slice A2 0 c2):=(blk_cell hblk 1).trans rfl
    have Hbb:=Lib.hid hbb
    clear hwb hbb hblk q0 q4
    go_quiet ((go_at_call 49;exact Calls.quiet_of_same (Hkc.out i _ hlt (pw_below_drewN (below_then hbw hbw.size Hbb.out) _))))
    have hz:(if (0:Int) < (if kept i < 0 then 0 else kept i) then (0:Int) else (if kept i < 0 then 0 else kept i))=0:=by split <;> split at * <;> omega
    rw [hz]
    clear hz
    generalize (if kept i < 0 then (0:Int) else kept i)=mx
    have hcut:=cut_from (P:=Try.prog) 22 5 .i64 hu22 hi5 1 hs5 A5 0 cap2 0 (by omega) (by omega)
    obtain ⟨dp,hdp⟩:∃ dp,dp=(if cap2=(0:Int).toNat then A5 else A5.map (·.add ((0:Int).toNat * 1))):=⟨_,rfl⟩
    rw [← hdp] at hcut
    clear hdp
    have hcut2:=cut3 (P:=Try.prog) 22 5 hu22 hi5 A2 0 c2 0 0 (by omega) (by omega) (by omega)
    go_wp2_with (fail)
    refine region_tail 9 (by kernel_rfl) (by kernel_rfl) ?_
    intro wd hbd hhd
    simp only [List.take_succ_cons,List.take_zero,List.drop_succ_cons,List.drop_zero]
    have hq6:wd.cell? ⟨wr.heap.size,0,none⟩=some (.int .i64 0):=(pw_cell_below hbd (pw_cell_below (pw_below_drewN (Below.refl _ _) nq) hq4))
    have hq7:wd.cell? ⟨wr.heap.size,1,none⟩=some (.slice A2 0 c2):=(pw_cell_below hbd (pw_cell_below (pw_below_drewN (Below.refl _ _) nq) hq5))
    have Hbd:=Lib.hid (below_then Hbb.out Hbb.out.size (below_then (pw_below_drewN (Below.refl wb.heap.size wb) nq) (Nat.le_refl _) hbd))
    clear hq4 hq5 hbd hhd
    repeat still_step
    refine wpStill_nil ?_
    refine wpList_copy_nothing rfl (.tmp 31) (.tmp 36) 22 22 rfl 5 hu22 (by rw [hi5];simp [hs5]) dp A2 0 cap2 0 0 rfl rfl rfl ?_
    go_wp2
    go_roundg (l1.length - (i + 1))
    case measure=>omega
    case rel=>exact ⟨i + 1,by omega,rfl,by go_num,below_then hb hb.size Hbd.out⟩
  · go_wp2
    go_ret
    refine ⟨_,rfl,?_,hbw⟩
    have hlen:=applyN_length kept [] l1 hv l1.length (Nat.le_refl _)
    have e:applyL kept l1 []=[]:=List.length_eq_zero_iff.1 hlen
    rw [e]
    exact Kd.R_lower (Kd.R_below HR.out hb) HB1.out.size
theorem apply49_calls (A0:Option Addr) (c0:Nat) (l0:List Int) (A1:Option Addr) (c1:Nat) (l1:List S45) (B:Nat) (w:World) (kept:Nat→Int)
 (h0:Kd.C (Kd.int .u8) w A0 l0.length l0) (hc0:l0.length ≤ c0) (h1:Kd.C k45 w A1 l1.length l1) (hc1:l1.length ≤ c1) (hv:validB l0 l1=true)
 (hkc:∀ (i:Nat) (w1:World),i < l1.length→Below w.heap.size w w1→Calls Try.prog 49 #[.int .i64 i,.pointer (some ⟨B,0,none⟩)] w1 fun e w'=>e=.returned (.int .i64 (kept i))∧w'=w1) :
  Calls Try.prog 47 #[.agg #[.slice A0 l0.length c0,.slice A1 l1.length c1],.func (.func 49) #[] #[.pointer (some ⟨B,0,none⟩)]] w fun e w'=>∃ v,e=.returned v∧Kd.R (Kd.int .u8) 5 w' w.heap.size (fun _=>True) v (applyL kept l1 l0)∧Below w.heap.size w w':=by
 rcases Nat.eq_zero_or_pos l0.length with h|h
 · obtain rfl:=List.length_eq_zero_iff.1 h
   exact apply49_nil A0 c0 A1 c1 l1 B w kept h0 h1 hc1 hv hkc
 · exact apply49_pos A0 c0 l0 A1 c1 l1 B w kept h0 hc0 h1 hc1 hv h hkc
end Go.Proofs.Ytfpdmlhknddffaa.Dk
end
section
namespace Go.Proofs.Ytfpdmlhknddffaa.Dk
open Go.RowKit Go.Proofs.YtfpdmlhknddffaaW.PrintWords Go.Proofs.YtfpdmlhknddffaaW.PrintLast Go.Proofs.YtfpdmlhknddffaaW.PrintMore
set_option linter.unusedVariables false
set_option linter.unusedSimpArgs false
def wholeK (l1:List S45) (i:Nat):Int:=((l1.getD i z45).f1.length:Int)
def syncL (l0:List Int) (l1:List S45):List Int:=if validB l0 l1=true then applyL (wholeK l1) l1 l0 else []
theorem two_cells {w:World} {g:Nat} {t:TypeId} {a b:Value} (h:w.heap[g]? = some (.cells #[a,b] t (0,0))) (u v:Value):((w.setCell ⟨g,0,none⟩ u).setCell ⟨g,1,none⟩ v).heap[g]? = some (.cells #[u,v] t (0,0)) :=
 blk_put (blk_put h 0 u rfl) 1 v rfl
set_option maxHeartbeats 800000 in
theorem disk_Sync_calls (A0:Option Addr) (c0:Nat) (l0:List Int) (A1:Option Addr) (c1:Nat) (l1:List S45) (w:World)
 (h0:Kd.C (Kd.int .u8) w A0 l0.length l0) (hc0:l0.length ≤ c0) (h1:Kd.C k45 w A1 l1.length l1) (hc1:l1.length ≤ c1) :
  Calls Try.prog 26 #[.agg #[.slice A0 l0.length c0,.slice A1 l1.length c1]] w fun e w'=>∃ v0:Value,e=.returned (.agg #[v0,.slice none 0 0])∧Kd.R (Kd.int .u8) 5 w' w.heap.size (fun _=>True) v0 (syncL l0 l1)∧Below w.heap.size w w':=by
 have hu25:=Try.underlying25
 unfold syncL
 cases hv:validB l0 l1
 all_goals
  have Hv:=Lib.hid hv
  clear hv
  go_enter Try.func26,Try.ntmps26
  go_wp2_with (first|((with_reducible refine gate_dst (N:=1) rfl ?_);(refine box_event ?hg (N:=1) ?hd (cs:=#[.slice A0 l0.length c0,.slice A1 l1.length c1]) (t:=25) ?hr ?_);(case hd=>rfl);(case hg=>rfl);(case hr=>first|(go_simp;done)|(go_simp;rfl));intro g hg w1 hb1 hB1;have hq0:=(blk_cell hb1 0).trans rfl;have hq1:=(blk_cell hb1 1).trans rfl;have HB1:=Lib.hid hB1;have Hb1:=Lib.hid hb1;clear hB1 hb1 hg)|((with_reducible refine gate_dst (N:=2) rfl ?_);(refine box_event ?hg (N:=2) ?hd (cs:=#[.slice none 0 0,.slice none 0 0]) (t:=25) ?hr ?_);(case hd=>rfl);(case hg=>rfl);(case hr=>first|(go_simp;done)|(go_simp;rfl));intro g2 hg2 w2 hb2 hB2;have hq2:=(blk_cell (blk_below Hb1.out hB2) 0).trans rfl;have hq3:=(blk_cell (blk_below Hb1.out hB2) 1).trans rfl;have hq4:=(blk_cell hb2 0).trans rfl;have hq5:=(blk_cell hb2 1).trans rfl;have HB2:=Lib.hid (below_then HB1.out HB1.out.size hB2);have Hb2:=Lib.hid hb2;have Hb1':=Lib.hid (blk_below Hb1.out hB2);have Hgg:=Lib.hid (blk_lt Hb1.out);have Hg2:=Lib.hid hg2;clear hB2 hb2 Hb1 hq0 hq1 hg2)|(go_at_call 43;refine (disk_isValid_calls A0 c0 l0 A1 c1 l1 w2 (Kd.C_below h0 HB2.out) hc0 (Kd.C_below h1 HB2.out) hc1).mono ?_;rintro e w3 ⟨rfl,hb3⟩;rw [Hv.out];have hq6:=(blk_cell (blk_below Hb1'.out hb3) 0).trans rfl;have hq7:=(blk_cell (blk_below Hb1'.out hb3) 1).trans rfl;have hq8:=(blk_cell (blk_below Hb2.out hb3) 0).trans rfl;have hq9:=(blk_cell (blk_below Hb2.out hb3) 1).trans rfl;have hf8:=blk_frozen (blk_below Hb2.out hb3) 0;have hf9:=blk_frozen (blk_below Hb2.out hb3) 1;have HB3:=Lib.hid (below_then HB2.out HB2.out.size hb3);have Hb1'':=Lib.hid (blk_below Hb1'.out hb3);have Hb2'':=Lib.hid (blk_below Hb2.out hb3);clear hb3 Hb1' Hb2 hq2 hq3 hq4 hq5) )
 · obtain ⟨w4,hw4⟩:∃ w4,w4=((w3.setCell ⟨g2,0,none⟩ (.slice none 0 0)).setCell ⟨g2,1,none⟩ (.slice none 0 0)):=⟨_,rfl⟩
   have hr2:=two_cells Hb2''.out (.slice none 0 0) (.slice none 0 0)
   rw [← hw4] at hr2 ⊢
   have hb4:Below w.heap.size w w4:=by
    rw [hw4]
    exact (HB3.out.setCell (p:=⟨g2,0,none⟩) (by have:=HB1.out.size;rw [Hg2.out];exact this) _).setCell (p:=⟨g2,1,none⟩) (by have:=HB1.out.size;rw [Hg2.out];exact this) _
   clear hw4 hq6 hq7 hq8 hq9 hf8 hf9
   have k1:w4.cell? ⟨g2,0,none⟩=some (.slice none 0 0):=(blk_cell hr2 0).trans rfl
   have k2:w4.cell? ⟨g2,1,none⟩=some (.slice none 0 0):=(blk_cell hr2 1).trans rfl
   exact bodyPost_ret (v:=.agg #[.slice none 0 0,.slice none 0 0]) (by simp [results,Try.results26,go_sem,k1,k2]) rfl ⟨_,rfl,Kd.R_nil _ _ _ _ _,hb4⟩
 · have k6:w3.cell? ⟨g,0,none⟩=some (.slice A0 l0.length c0):=hq6
   have k7:w3.cell? ⟨g,1,none⟩=some (.slice A1 l1.length c1):=hq7
   clear hq6 hq7 hq8 hq9 hf8 hf9
   go_region_held3 (fun w'=>w'.cell? ⟨g,0,none⟩=some (.slice A0 l0.length c0)∧w'.cell? ⟨g,1,none⟩=some (.slice A1 l1.length c1))
    (first|exact ⟨k6,k7⟩|exact ⟨k8,k9⟩|exact ⟨k10,k11⟩|exact ⟨(blk_cell (blk_far (blk_far Hb1f.out hne.out _) hne.out _) 0).trans rfl,(blk_cell (blk_far (blk_far Hb1f.out hne.out _) hne.out _) 1).trans rfl⟩)
    ((first|(go_at_call 48;refine (whole_calls A0 l0.length c0 A1 l1.length c1 _).mono ?_;rintro e w4 ⟨B,rfl,hB,hBs,hb4⟩;have k8:=pw_cell_below hb4 k6;have k9:=pw_cell_below hb4 k7;have HB4:=Lib.hid (below_then HB3.out HB3.out.size (below_then (below_drew (Below.refl _ _)) (Nat.le_refl _) hb4));have HBB:=Lib.hid hB;have Hb4:=Lib.hid hb4;clear hB hb4 hBs)|(go_at_call 47;refine (apply59_calls A0 c0 l0 A1 c1 l1 B _ (wholeK l1) (Kd.C_below h0 HB4.out) hc0 (Kd.C_below h1 HB4.out) hc1 Hv.out ?hwk).mono ?_;(case hwk=>intro i w5 hi hb5;refine (whole1_calls i A0 l0.length c0 A1 c1 l1 B w5 hi (blk_below HBB.out hb5) (Kd.C_below (Kd.C_below h1 HB4.out) hb5)).mono ?_;rintro e w6 ⟨rfl,rfl⟩;exact ⟨by simp [wholeK,List.getD,hi],rfl⟩);rintro e w5 ⟨v0,rfl,hr5,hb5⟩;obtain ⟨A5,cap5,rfl⟩:=Kd.R_slice hr5;have k10:=pw_cell_below hb5 k8;have k11:=pw_cell_below hb5 k9;have Hb2f:=Lib.hid (blk_below (blk_below (blk_drew Hb2''.out) Hb4.out) hb5);have Hb1f:=Lib.hid (blk_below (blk_below (blk_drew Hb1''.out) Hb4.out) hb5);have hne:Hid (g ≠ g2):=Lib.hid (by have:=Hgg.out;have:=Hg2.out;omega);have q0:=(blk_cell Hb2f.out 0).trans rfl;have q1:=(blk_cell Hb2f.out 1).trans rfl;have q2:=blk_frozen Hb2f.out 0;have q3:=blk_frozen Hb2f.out 1;have HB5:=Lib.hid (below_then HB4.out HB4.out.size hb5);have HR5:=Lib.hid (Kd.R_lower hr5 HB4.out.size);clear hb5 hr5)))
   go_wp2
   obtain ⟨w6,hw6⟩:∃ w6,w6=((w5.setCell ⟨g2,0,none⟩ (.slice A5 (applyL (wholeK l1) l1 l0).length cap5)).setCell ⟨g2,1,none⟩ (.slice none 0 0)):=⟨_,rfl⟩
   have hr2:=two_cells Hb2f.out (.slice A5 (applyL (wholeK l1) l1 l0).length cap5) (.slice none 0 0)
   rw [← hw6] at hr2 ⊢
   have hgs:w.heap.size ≤ g2:=by have:=HB1.out.size;rw [Hg2.out];exact this
   have hb6:Below w.heap.size w w6:=by
    rw [hw6]
    exact (HB5.out.setCell (p:=⟨g2,0,none⟩) hgs _).setCell (p:=⟨g2,1,none⟩) hgs _
   have hr6:Kd.R (Kd.int .u8) 5 w6 w.heap.size (fun _=>True) (.slice A5 (applyL (wholeK l1) l1 l0).length cap5) (applyL (wholeK l1) l1 l0):=by
    rw [hw6]
    exact Kd.R_set (Kd.R_set HR5.out Hb2f.out (by decide) 0 _) (blk_put Hb2f.out 0 _ rfl) (by decide) 1 _
   have k1:w6.cell? ⟨g2,0,none⟩=some (.slice A5 (applyL (wholeK l1) l1 l0).length cap5):=(blk_cell hr2 0).trans rfl
   have k2:w6.cell? ⟨g2,1,none⟩=some (.slice none 0 0):=(blk_cell hr2 1).trans rfl
   exact bodyPost_ret (v:=.agg #[.slice A5 (applyL (wholeK l1) l1 l0).length cap5,.slice none 0 0]) (by simp [results,Try.results26,go_sem,k1,k2]) rfl ⟨_,rfl,hr6,hb6⟩
end Go.Proofs.Ytfpdmlhknddffaa.Dk
end
section
namespace Go.Proofs.Ytfpdmlhknddffaa.Dk
open Go.RowKit Go.Proofs.YtfpdmlhknddffaaW.PrintWords Go.Proofs.YtfpdmlhknddffaaW.PrintLast Go.Proofs.YtfpdmlhknddffaaW.PrintMore
set_option linter.unusedVariables false
set_option linter.unusedSimpArgs false
def keptK (ks:List Int) (i:Nat):Int:=ks.getD i 0
def crashL (l0:List Int) (l1:List S45) (ks:List Int):List Int:=if validB l0 l1=true then applyL (keptK ks) l1 l0 else []
set_option maxHeartbeats 800000 in
theorem disk_Crash_calls (A0:Option Addr) (c0:Nat) (l0:List Int) (A1:Option Addr) (c1:Nat) (l1:List S45) (A2:Option Addr) (c2:Nat) (l2:List Int) (w:World)
 (h0:Kd.C (Kd.int .u8) w A0 l0.length l0) (hc0:l0.length ≤ c0) (h1:Kd.C k45 w A1 l1.length l1) (hc1:l1.length ≤ c1) (h2:Kd.C (Kd.int .i64) w A2 l2.length l2) (hc2:l2.length ≤ c2) :
  Calls Try.prog 28 #[.agg #[.slice A0 l0.length c0,.slice A1 l1.length c1],.slice A2 l2.length c2] w fun e w'=>∃ v0:Value,e=.returned (.agg #[v0,.slice none 0 0])∧Kd.R (Kd.int .u8) 5 w' w.heap.size (fun _=>True) v0 (crashL l0 l1 l2)∧Below w.heap.size w w':=by
 have hu25:=Try.underlying25
 have hmf:∀ (fn:Fn) (first cap:Array Value) (w:World),(Instr.makeFunc fn first cap).run Try.prog w=.ok (.func fn first cap) w:=fun _ _ _ _=>rfl
 unfold crashL
 cases hv:validB l0 l1
 all_goals
  have Hv:=Lib.hid hv
  clear hv
  go_enter Try.func28,Try.ntmps28
  go_wp2_with (first|((with_reducible refine gate_dst (N:=2) rfl ?_);(refine box_event ?hg (N:=2) ?hd (cs:=#[.slice A0 l0.length c0,.slice A1 l1.length c1]) (t:=25) ?hr ?_);(case hd=>rfl);(case hg=>rfl);(case hr=>first|(go_simp;done)|(go_simp;rfl));intro g hg w1 hb1 hB1;have HB1:=Lib.hid hB1;have Hb1:=Lib.hid hb1;clear hB1 hb1 hg)|((with_reducible refine gate_dst (N:=3) rfl ?_);(refine box_event ?hg (N:=3) ?hd (cs:=#[.slice A2 l2.length c2]) (t:=26) ?hr ?_);(case hd=>rfl);(case hg=>rfl);(case hr=>first|(go_simp;done)|(go_simp;rfl));intro gk hgk wk hbk hBk;have HBk:=Lib.hid (below_then HB1.out HB1.out.size hBk);have Hbk:=Lib.hid hbk;have Hb1':=Lib.hid (blk_below Hb1.out hBk);clear hBk hbk hgk Hb1)|((with_reducible refine gate_dst (N:=4) rfl ?_);(refine box_event ?hg (N:=4) ?hd (cs:=#[.slice none 0 0,.slice none 0 0]) (t:=25) ?hr ?_);(case hd=>rfl);(case hg=>rfl);(case hr=>first|(go_simp;done)|(go_simp;rfl));intro g2 hg2 w2 hb2 hB2;have hq2:=(blk_cell (blk_below Hb1'.out hB2) 0).trans rfl;have hq3:=(blk_cell (blk_below Hb1'.out hB2) 1).trans rfl;have HB2:=Lib.hid (below_then HBk.out HBk.out.size hB2);have Hb2:=Lib.hid hb2;have Hb1'':=Lib.hid (blk_below Hb1'.out hB2);have Hbk':=Lib.hid (blk_below Hbk.out hB2);have Hgs:Hid (w.heap.size ≤ g2):=Lib.hid (by rw [hg2];exact HBk.out.size);clear hB2 hb2 hg2 Hb1' Hbk)|(go_at_call 43;refine (disk_isValid_calls A0 c0 l0 A1 c1 l1 w2 (Kd.C_below h0 HB2.out) hc0 (Kd.C_below h1 HB2.out) hc1).mono ?_;rintro e w3 ⟨rfl,hb3⟩;rw [Hv.out];have hq6:=(blk_cell (blk_below Hb1''.out hb3) 0).trans rfl;have hq7:=(blk_cell (blk_below Hb1''.out hb3) 1).trans rfl;have hq8:=(blk_cell (blk_below Hb2.out hb3) 0).trans rfl;have hq9:=(blk_cell (blk_below Hb2.out hb3) 1).trans rfl;have hf8:=blk_frozen (blk_below Hb2.out hb3) 0;have hf9:=blk_frozen (blk_below Hb2.out hb3) 1;have HB3:=Lib.hid (below_then HB2.out HB2.out.size hb3);have Hbk3:=Lib.hid (blk_below Hbk'.out hb3);have Hb2'':=Lib.hid (blk_below Hb2.out hb3);clear hb3 Hb1'' Hb2 Hbk' hq2 hq3)|(go_at_call 47;refine (apply49_calls A0 c0 l0 A1 c1 l1 gk w3 (keptK l2) (Kd.C_below h0 HB3.out) hc0 (Kd.C_below h1 HB3.out) hc1 Hv.out ?hwk).mono ?_;(case hwk=>intro i w5 hi hb5;refine (crash1_calls i A2 c2 l2 gk w5 (Int.natCast_nonneg i) (blk_below Hbk3.out hb5) (Kd.C_below (Kd.C_below h2 HB3.out) hb5) hc2).mono ?_;rintro e w6 ⟨rfl,rfl⟩;exact ⟨rfl,rfl⟩);rintro e w5 ⟨v0,rfl,hr5,hb5⟩;obtain ⟨A5,cap5,rfl⟩:=Kd.R_slice hr5;have Hb2f:=Lib.hid (blk_below Hb2''.out hb5);clear hq6 hq7 hq8 hq9 hf8 hf9;have q0:=(blk_cell Hb2f.out 0).trans rfl;have q1:=(blk_cell Hb2f.out 1).trans rfl;have q2:=blk_frozen Hb2f.out 0;have q3:=blk_frozen Hb2f.out 1;have HB5:=Lib.hid (below_then HB3.out HB3.out.size hb5);have HR5:=Lib.hid (Kd.R_lower hr5 HB3.out.size);clear hb5 hr5) )
 · obtain ⟨w4,hw4⟩:∃ w4,w4=((w3.setCell ⟨g2,0,none⟩ (.slice none 0 0)).setCell ⟨g2,1,none⟩ (.slice none 0 0)):=⟨_,rfl⟩
   have hr2:=two_cells Hb2''.out (.slice none 0 0) (.slice none 0 0)
   rw [← hw4] at hr2 ⊢
   have hb4:Below w.heap.size w w4:=by
    rw [hw4]
    exact (HB3.out.setCell (p:=⟨g2,0,none⟩) Hgs.out _).setCell (p:=⟨g2,1,none⟩) Hgs.out _
   clear hw4 hq6 hq7 hq8 hq9 hf8 hf9
   have k1:w4.cell? ⟨g2,0,none⟩=some (.slice none 0 0):=(blk_cell hr2 0).trans rfl
   have k2:w4.cell? ⟨g2,1,none⟩=some (.slice none 0 0):=(blk_cell hr2 1).trans rfl
   exact bodyPost_ret (v:=.agg #[.slice none 0 0,.slice none 0 0]) (by simp [results,Try.results28,go_sem,k1,k2]) rfl ⟨_,rfl,Kd.R_nil _ _ _ _ _,hb4⟩
 · obtain ⟨w6,hw6⟩:∃ w6,w6=((w5.setCell ⟨g2,0,none⟩ (.slice A5 (applyL (keptK l2) l1 l0).length cap5)).setCell ⟨g2,1,none⟩ (.slice none 0 0)):=⟨_,rfl⟩
   have hr2:=two_cells Hb2f.out (.slice A5 (applyL (keptK l2) l1 l0).length cap5) (.slice none 0 0)
   rw [← hw6] at hr2 ⊢
   have hb6:Below w.heap.size w w6:=by
    rw [hw6]
    exact (HB5.out.setCell (p:=⟨g2,0,none⟩) Hgs.out _).setCell (p:=⟨g2,1,none⟩) Hgs.out _
   have hr6:Kd.R (Kd.int .u8) 5 w6 w.heap.size (fun _=>True) (.slice A5 (applyL (keptK l2) l1 l0).length cap5) (applyL (keptK l2) l1 l0):=by
    rw [hw6]
    exact Kd.R_set (Kd.R_set HR5.out Hb2f.out (by decide) 0 _) (blk_put Hb2f.out 0 _ rfl) (by decide) 1 _
   have k1:w6.cell? ⟨g2,0,none⟩=some (.slice A5 (applyL (keptK l2) l1 l0).length cap5):=(blk_cell hr2 0).trans rfl
   have k2:w6.cell? ⟨g2,1,none⟩=some (.slice none 0 0):=(blk_cell hr2 1).trans rfl
   exact bodyPost_ret (v:=.agg #[.slice A5 (applyL (keptK l2) l1 l0).length cap5,.slice none 0 0]) (by simp [results,Try.results28,go_sem,k1,k2]) rfl ⟨_,rfl,hr6,hb6⟩
def readOk (l0:List Int) (l1:List S45) (a c:Int):Bool:=validB l0 l1 && isPartB l0.length a c
def readL (l0:List Int) (l1:List S45) (a c:Int):List Int:=if readOk l0 l1 a c=true then ((applyL (wholeK l1) l1 l0).take (a + c).toNat).drop a.toNat else []
set_option maxHeartbeats 800000 in
theorem disk_Read_calls (A0:Option Addr) (c0:Nat) (l0:List Int) (A1:Option Addr) (c1:Nat) (l1:List S45) (a c:Int) (w:World)
 (h0:Kd.C (Kd.int .u8) w A0 l0.length l0) (hc0:l0.length ≤ c0) (h1:Kd.C k45 w A1 l1.length l1) (hc1:l1.length ≤ c1) :
  Calls Try.prog 23 #[.agg #[.slice A0 l0.length c0,.slice A1 l1.length c1],.int .i64 a,.int .i64 c] w fun e w'=>∃ v0:Value,e=.returned (.tuple #[v0,.int .i64 (if readOk l0 l1 a c=true then 0 else 1)])∧Kd.R (Kd.int .u8) 5 w' w.heap.size (fun _=>True) v0 (readL l0 l1 a c)∧Below w.heap.size w w':=by
 have hu25:=Try.underlying25
 have hu22:=Try.underlying22
 obtain ⟨i5,hi5,_,hs5,_⟩:=info_parts info5
 unfold readL readOk
 cases hv:validB l0 l1 <;> cases hp:isPartB l0.length a c
 all_goals
  have Hv:=Lib.hid hv
  have Hp:=Lib.hid hp
  clear hv hp
  go_enter Try.func23,Try.ntmps23
  go_wp2_with (first|((with_reducible refine gate_dst (N:=3) rfl ?_);(refine box_event ?hg (N:=3) ?hd (cs:=#[.slice A0 l0.length c0,.slice A1 l1.length c1]) (t:=25) ?hr ?_);(case hd=>rfl);(case hg=>rfl);(case hr=>first|(go_simp;done)|(go_simp;rfl));intro g hg w1 hb1 hB1;have hq0:=(blk_cell hb1 0).trans rfl;have hq1:=(blk_cell hb1 1).trans rfl;have HB1:=Lib.hid hB1;have Hb1:=Lib.hid hb1;clear hB1 hb1 hg)|(go_at_call 43;refine (disk_isValid_calls A0 c0 l0 A1 c1 l1 w1 (Kd.C_below h0 HB1.out) hc0 (Kd.C_below h1 HB1.out) hc1).mono ?_;rintro e w3 ⟨rfl,hb3⟩;rw [Hv.out];have hq6:=(blk_cell (blk_below Hb1.out hb3) 0).trans rfl;have hq7:=(blk_cell (blk_below Hb1.out hb3) 1).trans rfl;have HB3:=Lib.hid (below_then HB1.out HB1.out.size hb3);have Hb3:=Lib.hid (blk_below Hb1.out hb3);clear hb3 Hb1 hq0 hq1)|(go_at_call 44;have hl:=((validB_iff l0 l1).1 Hv.out).1;refine (disk_isPart.calls _ _ l0 _ _ l1 a c _ _ (Kd.C_below h0 HB3.out) hc0 (Kd.C_below h1 HB3.out) hc1 (isPart_f l0 l1 a c (by unfold maxLen;omega))).mono ?_;rintro e w4 ⟨rfl,hb4⟩;rw [Hp.out];have hq8:=(blk_cell (blk_below Hb3.out hb4) 0).trans rfl;have hq9:=(blk_cell (blk_below Hb3.out hb4) 1).trans rfl;have HB4:=Lib.hid (below_then HB3.out HB3.out.size hb4);have Hb4:=Lib.hid (blk_below Hb3.out hb4);clear hb4 Hb3 hq6 hq7 hl) )
 · go_ret2
   exact ⟨_,rfl,Kd.R_nil _ _ _ _ _,HB3.out⟩
 · go_ret2
   exact ⟨_,rfl,Kd.R_nil _ _ _ _ _,HB3.out⟩
 · go_ret2
   exact ⟨_,rfl,Kd.R_nil _ _ _ _ _,HB4.out⟩
 · have k6:w4.cell? ⟨g,0,none⟩=some (.slice A0 l0.length c0):=hq8
   have k7:w4.cell? ⟨g,1,none⟩=some (.slice A1 l1.length c1):=hq9
   have hl:=((validB_iff l0 l1).1 Hv.out).1
   obtain ⟨ha0,hc00,ha1,hc01⟩:=(isPartB_iff _ _ _).1 Hp.out
   have hwr:IntKind.i64.wrap (a + c)=a + c:=IntWalk.i64_in _ (by omega)
   have hlen:(applyL (wholeK l1) l1 l0).length=l0.length:=applyN_length _ l0 l1 Hv.out l1.length (Nat.le_refl _)
   have Hlen:=Lib.hid hlen
   have hac:0 ≤ a + c:=by omega
   have hac2:a ≤ a + c:=by omega
   clear hq8 hq9 hlen
   go_region_held3 (fun w'=>w'.cell? ⟨g,0,none⟩=some (.slice A0 l0.length c0)∧w'.cell? ⟨g,1,none⟩=some (.slice A1 l1.length c1))
    (first|exact ⟨k6,k7⟩|exact ⟨k8,k9⟩|exact ⟨k10,k11⟩|exact ⟨k12,k13⟩)
    ((first|(go_at_call 48;refine (whole_calls A0 l0.length c0 A1 l1.length c1 _).mono ?_;rintro e w5 ⟨B,rfl,hB,hBs,hb5⟩;have k8:=pw_cell_below hb5 k6;have k9:=pw_cell_below hb5 k7;have HB5:=Lib.hid (below_then HB4.out HB4.out.size (below_then (below_drew (Below.refl _ _)) (Nat.le_refl _) hb5));have HBB:=Lib.hid hB;clear hB hb5 hBs)|(go_at_call 47;refine (apply59_calls A0 c0 l0 A1 c1 l1 B _ (wholeK l1) (Kd.C_below h0 HB5.out) hc0 (Kd.C_below h1 HB5.out) hc1 Hv.out ?hwk).mono ?_;(case hwk=>intro i w5 hi hb5;refine (whole1_calls i A0 l0.length c0 A1 c1 l1 B w5 hi (blk_below HBB.out hb5) (Kd.C_below (Kd.C_below h1 HB5.out) hb5)).mono ?_;rintro e w6 ⟨rfl,rfl⟩;exact ⟨by simp [wholeK,List.getD,hi],rfl⟩);rintro e w6 ⟨v0,rfl,hr6,hb6⟩;obtain ⟨A5,cap5,rfl⟩:=Kd.R_slice hr6;have hn5:=(Kd.R_reads' hr6).2.1;have hC:=(Kd.R_reads' hr6).2.2;have hcut:=cut_mid (P:=Try.prog) 22 5 .i64 .i64 hu22 hi5 1 hs5 A5 (applyL (wholeK l1) l1 l0).length cap5 a (a + c) ha0 hac2 (by rw [Hlen.out];omega) hn5;have hmid:=Kd.C_mid (lo:=a.toNat) (hi:=(a + c).toNat) (c:=cap5) hC (by omega) (by rw [Hlen.out];omega) hn5;obtain ⟨dp,hdp⟩:∃ dp,dp=(if cap5=a.toNat then A5 else A5.map (·.add (a.toNat * 1))):=⟨_,rfl⟩;rw [← hdp] at hcut;have hmid2:Kd.C (Kd.int .u8) w6 dp (((applyL (wholeK l1) l1 l0).take (a + c).toNat).drop a.toNat).length (((applyL (wholeK l1) l1 l0).take (a + c).toNat).drop a.toNat):=(by rw [hdp];exact hmid);have hml:(((applyL (wholeK l1) l1 l0).take (a + c).toNat).drop a.toNat).length=(a + c).toNat - a.toNat:=(by rw [List.length_drop,List.length_take,Hlen.out];omega);rw [← hml] at hcut;obtain ⟨M,hM⟩:∃ M,M=((applyL (wholeK l1) l1 l0).take (a + c).toNat).drop a.toNat:=⟨_,rfl⟩;rw [← hM] at hcut hmid2 hml;have HM:=Lib.hid hM;have k10:=pw_cell_below hb6 k8;have k11:=pw_cell_below hb6 k9;have HB6:=Lib.hid (below_then HB5.out HB5.out.size hb6);have HC6:=Lib.hid hmid2;have Hml:=Lib.hid hml;have Hn5:=Lib.hid hn5;clear hb6 hr6 hn5 hC hmid hmid2 hdp hml hM)|(go_at_call 45;refine (clone_calls dp (cap5 - a.toNat) M _ HC6.out ?hca (by rw [Hml.out];omega)).mono ?_;(case hca=>have:=Hn5.out;have:=Hlen.out;have:=Hml.out;omega);rintro e w7 ⟨v7,rfl,hr7,hb7⟩;have k12:=pw_cell_below hb7 k10;have k13:=pw_cell_below hb7 k11;have HB7:=Lib.hid (below_then HB6.out HB6.out.size hb7);have HR7:=Lib.hid (Kd.R_lower hr7 HB6.out.size);clear hb7 hr7)))
   go_wp2
   go_ret2
   exact ⟨_,rfl,by have:=HR7.out;rw [HM.out] at this;exact this,HB7.out⟩
end Go.Proofs.Ytfpdmlhknddffaa.Dk
end
section
namespace Go.Proofs.Ytfpdmlhknddffaa.Dk
open Go.RowKit Go.Proofs.YtfpdmlhknddffaaW.PrintWords Go.Proofs.YtfpdmlhknddffaaW.PrintLast Go.Proofs.YtfpdmlhknddffaaW.PrintMore
set_option linter.unusedVariables false
set_option linter.unusedSimpArgs false
def writeF (l0:List Int) (l1:List S45) (a:Int) (l2:List Int):List Int × List S45 × Int :=
 if (validB l0 l1 && isPartB l0.length a l2.length)=true then (if l1.length=64 then ([],[],2) else (l0,l1 ++ [⟨a,l2⟩],0)) else ([],[],1)
set_option maxHeartbeats 800000 in
theorem disk_Write_e1 (A0:Option Addr) (c0:Nat) (l0:List Int) (A1:Option Addr) (c1:Nat) (l1:List S45) (a:Int) (A2:Option Addr) (c2:Nat) (l2:List Int) (w:World)
 (h0:Kd.C (Kd.int .u8) w A0 l0.length l0) (hc0:l0.length ≤ c0) (h1:Kd.C k45 w A1 l1.length l1) (hc1:l1.length ≤ c1) (h2:Kd.C (Kd.int .u8) w A2 l2.length l2) (hc2:l2.length ≤ c2) (Hv:Hid (validB l0 l1=false)) :
  Calls Try.prog 21 #[.agg #[.slice A0 l0.length c0,.slice A1 l1.length c1],.int .i64 a,.slice A2 l2.length c2] w fun e w'=>e=.returned (.tuple #[.agg #[.slice none 0 0,.slice none 0 0],.int .i64 1])∧Below w.heap.size w w':=by
 have hu25:=Try.underlying25
 have hu22:=Try.underlying22
 go_enter Try.func21,Try.ntmps21
 go_wp2_with (first|((with_reducible refine gate_dst (N:=3) rfl ?_);(refine box_event ?hg (N:=3) ?hd (cs:=#[.slice A0 l0.length c0,.slice A1 l1.length c1]) (t:=25) ?hr ?_);(case hd=>rfl);(case hg=>rfl);(case hr=>first|(go_simp;done)|(go_simp;rfl));intro g hg w1 hb1 hB1;have HB1:=Lib.hid hB1;have Hb1:=Lib.hid hb1;clear hB1 hb1 hg)|((with_reducible refine gate_dst (N:=6) rfl ?_);(refine box_event ?hg (N:=6) ?hd (cs:=#[.slice none 0 0,.slice none 0 0]) (t:=25) ?hr ?_);(case hd=>rfl);(case hg=>rfl);(case hr=>first|(go_simp;done)|(go_simp;rfl));intro g2 hg2 w2 hb2 hB2;have hq2:=(blk_cell (blk_below Hb1.out hB2) 0).trans rfl;have hq3:=(blk_cell (blk_below Hb1.out hB2) 1).trans rfl;have Hgs:Hid (w.heap.size ≤ g2):=(Lib.hid (by rw [hg2];exact HB1.out.size));have HB2:=Lib.hid (below_then HB1.out HB1.out.size hB2);have Hb2:=Lib.hid hb2;have Hb1':=Lib.hid (blk_below Hb1.out hB2);clear hB2 hb2 Hb1 hg2)|(go_at_call 43;refine (disk_isValid_calls A0 c0 l0 A1 c1 l1 w2 (Kd.C_below h0 HB2.out) hc0 (Kd.C_below h1 HB2.out) hc1).mono ?_;rintro e w3 ⟨rfl,hb3⟩;rw [Hv.out];have hq6:=(blk_cell (blk_below Hb1'.out hb3) 0).trans rfl;have hq7:=(blk_cell (blk_below Hb1'.out hb3) 1).trans rfl;have hq8:=(blk_cell (blk_below Hb2.out hb3) 0).trans rfl;have hq9:=(blk_cell (blk_below Hb2.out hb3) 1).trans rfl;have hf8:=blk_frozen (blk_below Hb2.out hb3) 0;have hf9:=blk_frozen (blk_below Hb2.out hb3) 1;have HB3:=Lib.hid (below_then HB2.out HB2.out.size hb3);have Hb3:=Lib.hid (blk_below Hb1'.out hb3);have Hbr:=Lib.hid (blk_below Hb2.out hb3);clear hb3 Hb1' Hb2 hq2 hq3) )
 obtain ⟨w9,hw9⟩:∃ w9,w9=((w3.setCell ⟨g2,0,none⟩ (.slice none 0 0)).setCell ⟨g2,1,none⟩ (.slice none 0 0)):=⟨_,rfl⟩
 have hr2:=two_cells Hbr.out (.slice none 0 0) (.slice none 0 0)
 rw [← hw9] at hr2 ⊢
 have hb9:Below w.heap.size w w9:=by
  rw [hw9]
  exact (HB3.out.setCell (p:=⟨g2,0,none⟩) Hgs.out _).setCell (p:=⟨g2,1,none⟩) Hgs.out _
 clear hw9 hq6 hq7 hq8 hq9 hf8 hf9
 have k1:w9.cell? ⟨g2,0,none⟩=some (.slice none 0 0):=(blk_cell hr2 0).trans rfl
 have k2:w9.cell? ⟨g2,1,none⟩=some (.slice none 0 0):=(blk_cell hr2 1).trans rfl
 exact bodyPost_ret (v:=.tuple #[.agg #[.slice none 0 0,.slice none 0 0],.int .i64 1]) (by simp [results,Try.results21,go_sem,k1,k2]) rfl ⟨rfl,hb9⟩
set_option maxHeartbeats 800000 in
theorem disk_Write_e2 (A0:Option Addr) (c0:Nat) (l0:List Int) (A1:Option Addr) (c1:Nat) (l1:List S45) (a:Int) (A2:Option Addr) (c2:Nat) (l2:List Int) (w:World)
 (h0:Kd.C (Kd.int .u8) w A0 l0.length l0) (hc0:l0.length ≤ c0) (h1:Kd.C k45 w A1 l1.length l1) (hc1:l1.length ≤ c1) (h2:Kd.C (Kd.int .u8) w A2 l2.length l2) (hc2:l2.length ≤ c2) (Hv:Hid (validB l0 l1=true)) (Hp:Hid (isPartB l0.length a l2.length=false)) :
  Calls Try.prog 21 #[.agg #[.slice A0 l0.length c0,.slice A1 l1.length c1],.int .i64 a,.slice A2 l2.length c2] w fun e w'=>e=.returned (.tuple #[.agg #[.slice none 0 0,.slice none 0 0],.int .i64 1])∧Below w.heap.size w w':=by
 have hu25:=Try.underlying25
 have hu22:=Try.underlying22
 go_enter Try.func21,Try.ntmps21
 go_wp2_with (first|((with_reducible refine gate_dst (N:=3) rfl ?_);(refine box_event ?hg (N:=3) ?hd (cs:=#[.slice A0 l0.length c0,.slice A1 l1.length c1]) (t:=25) ?hr ?_);(case hd=>rfl);(case hg=>rfl);(case hr=>first|(go_simp;done)|(go_simp;rfl));intro g hg w1 hb1 hB1;have HB1:=Lib.hid hB1;have Hb1:=Lib.hid hb1;clear hB1 hb1 hg)|((with_reducible refine gate_dst (N:=6) rfl ?_);(refine box_event ?hg (N:=6) ?hd (cs:=#[.slice none 0 0,.slice none 0 0]) (t:=25) ?hr ?_);(case hd=>rfl);(case hg=>rfl);(case hr=>first|(go_simp;done)|(go_simp;rfl));intro g2 hg2 w2 hb2 hB2;have hq2:=(blk_cell (blk_below Hb1.out hB2) 0).trans rfl;have hq3:=(blk_cell (blk_below Hb1.out hB2) 1).trans rfl;have Hgs:Hid (w.heap.size ≤ g2):=(Lib.hid (by rw [hg2];exact HB1.out.size));have HB2:=Lib.hid (below_then HB1.out HB1.out.size hB2);have Hb2:=Lib.hid hb2;have Hb1':=Lib.hid (blk_below Hb1.out hB2);clear hB2 hb2 Hb1 hg2)|(go_at_call 43;refine (disk_isValid_calls A0 c0 l0 A1 c1 l1 w2 (Kd.C_below h0 HB2.out) hc0 (Kd.C_below h1 HB2.out) hc1).mono ?_;rintro e w3 ⟨rfl,hb3⟩;rw [Hv.out];have hq6:=(blk_cell (blk_below Hb1'.out hb3) 0).trans rfl;have hq7:=(blk_cell (blk_below Hb1'.out hb3) 1).trans rfl;have hq8:=(blk_cell (blk_below Hb2.out hb3) 0).trans rfl;have hq9:=(blk_cell (blk_below Hb2.out hb3) 1).trans rfl;have hf8:=blk_frozen (blk_below Hb2.out hb3) 0;have hf9:=blk_frozen (blk_below Hb2.out hb3) 1;have HB3:=Lib.hid (below_then HB2.out HB2.out.size hb3);have Hb3:=Lib.hid (blk_below Hb1'.out hb3);have Hbr:=Lib.hid (blk_below Hb2.out hb3);clear hb3 Hb1' Hb2 hq2 hq3)|(go_at_call 44;have hl:=((validB_iff l0 l1).1 Hv.out).1;refine (disk_isPart.calls _ _ l0 _ _ l1 a l2.length _ _ (Kd.C_below h0 HB3.out) hc0 (Kd.C_below h1 HB3.out) hc1 (isPart_f l0 l1 a l2.length (by unfold maxLen;omega))).mono ?_;rintro e w4 ⟨rfl,hb4⟩;rw [Hp.out];clear hq6 hq7 hq8 hq9 hf8 hf9;have hq6:=(blk_cell (blk_below Hb3.out hb4) 0).trans rfl;have hq7:=(blk_cell (blk_below Hb3.out hb4) 1).trans rfl;have hq8:=(blk_cell (blk_below Hbr.out hb4) 0).trans rfl;have hq9:=(blk_cell (blk_below Hbr.out hb4) 1).trans rfl;have hf8:=blk_frozen (blk_below Hbr.out hb4) 0;have hf9:=blk_frozen (blk_below Hbr.out hb4) 1;have HB4:=Lib.hid (below_then HB3.out HB3.out.size hb4);have Hbr':=Lib.hid (blk_below Hbr.out hb4);clear hb4 hl) )
 obtain ⟨w9,hw9⟩:∃ w9,w9=((w4.setCell ⟨g2,0,none⟩ (.slice none 0 0)).setCell ⟨g2,1,none⟩ (.slice none 0 0)):=⟨_,rfl⟩
 have hr2:=two_cells Hbr'.out (.slice none 0 0) (.slice none 0 0)
 rw [← hw9] at hr2 ⊢
 have hb9:Below w.heap.size w w9:=by
  rw [hw9]
  exact (HB4.out.setCell (p:=⟨g2,0,none⟩) Hgs.out _).setCell (p:=⟨g2,1,none⟩) Hgs.out _
 clear hw9 hq6 hq7 hq8 hq9 hf8 hf9
 have k1:w9.cell? ⟨g2,0,none⟩=some (.slice none 0 0):=(blk_cell hr2 0).trans rfl
 have k2:w9.cell? ⟨g2,1,none⟩=some (.slice none 0 0):=(blk_cell hr2 1).trans rfl
 exact bodyPost_ret (v:=.tuple #[.agg #[.slice none 0 0,.slice none 0 0],.int .i64 1]) (by simp [results,Try.results21,go_sem,k1,k2]) rfl ⟨rfl,hb9⟩
set_option maxHeartbeats 800000 in
theorem disk_Write_e64 (A0:Option Addr) (c0:Nat) (l0:List Int) (A1:Option Addr) (c1:Nat) (l1:List S45) (a:Int) (A2:Option Addr) (c2:Nat) (l2:List Int) (w:World)
 (h0:Kd.C (Kd.int .u8) w A0 l0.length l0) (hc0:l0.length ≤ c0) (h1:Kd.C k45 w A1 l1.length l1) (hc1:l1.length ≤ c1) (h2:Kd.C (Kd.int .u8) w A2 l2.length l2) (hc2:l2.length ≤ c2) (Hv:Hid (validB l0 l1=true)) (Hp:Hid (isPartB l0.length a l2.length=true)) (h64:l1.length=64) :
  Calls Try.prog 21 #[.agg #[.slice A0 l0.length c0,.slice A1 l1.length c1],.int .i64 a,.slice A2 l2.length c2] w fun e w'=>e=.returned (.tuple #[.agg #[.slice none 0 0,.slice none 0 0],.int .i64 2])∧Below w.heap.size w w':=by
 have hu25:=Try.underlying25
 have hu22:=Try.underlying22
 have e1:((l1.length:Int) == 64)=true:=by rw [beq_iff_eq];omega
 clear h64
 go_enter Try.func21,Try.ntmps21
 go_wp2_with (first|((with_reducible refine gate_dst (N:=3) rfl ?_);(refine box_event ?hg (N:=3) ?hd (cs:=#[.slice A0 l0.length c0,.slice A1 l1.length c1]) (t:=25) ?hr ?_);(case hd=>rfl);(case hg=>rfl);(case hr=>first|(go_simp;done)|(go_simp;rfl));intro g hg w1 hb1 hB1;have HB1:=Lib.hid hB1;have Hb1:=Lib.hid hb1;clear hB1 hb1 hg)|((with_reducible refine gate_dst (N:=6) rfl ?_);(refine box_event ?hg (N:=6) ?hd (cs:=#[.slice none 0 0,.slice none 0 0]) (t:=25) ?hr ?_);(case hd=>rfl);(case hg=>rfl);(case hr=>first|(go_simp;done)|(go_simp;rfl));intro g2 hg2 w2 hb2 hB2;have hq2:=(blk_cell (blk_below Hb1.out hB2) 0).trans rfl;have hq3:=(blk_cell (blk_below Hb1.out hB2) 1).trans rfl;have Hgs:Hid (w.heap.size ≤ g2):=(Lib.hid (by rw [hg2];exact HB1.out.size));have HB2:=Lib.hid (below_then HB1.out HB1.out.size hB2);have Hb2:=Lib.hid hb2;have Hb1':=Lib.hid (blk_below Hb1.out hB2);clear hB2 hb2 Hb1 hg2)|(go_at_call 43;refine (disk_isValid_calls A0 c0 l0 A1 c1 l1 w2 (Kd.C_below h0 HB2.out) hc0 (Kd.C_below h1 HB2.out) hc1).mono ?_;rintro e w3 ⟨rfl,hb3⟩;rw [Hv.out];have hq6:=(blk_cell (blk_below Hb1'.out hb3) 0).trans rfl;have hq7:=(blk_cell (blk_below Hb1'.out hb3) 1).trans rfl;have hq8:=(blk_cell (blk_below Hb2.out hb3) 0).trans rfl;have hq9:=(blk_cell (blk_below Hb2.out hb3) 1).trans rfl;have hf8:=blk_frozen (blk_below Hb2.out hb3) 0;have hf9:=blk_frozen (blk_below Hb2.out hb3) 1;have HB3:=Lib.hid (below_then HB2.out HB2.out.size hb3);have Hb3:=Lib.hid (blk_below Hb1'.out hb3);have Hbr:=Lib.hid (blk_below Hb2.out hb3);clear hb3 Hb1' Hb2 hq2 hq3)|(go_at_call 44;have hl:=((validB_iff l0 l1).1 Hv.out).1;refine (disk_isPart.calls _ _ l0 _ _ l1 a l2.length _ _ (Kd.C_below h0 HB3.out) hc0 (Kd.C_below h1 HB3.out) hc1 (isPart_f l0 l1 a l2.length (by unfold maxLen;omega))).mono ?_;rintro e w4 ⟨rfl,hb4⟩;rw [Hp.out];clear hq6 hq7 hq8 hq9 hf8 hf9;have hq6:=(blk_cell (blk_below Hb3.out hb4) 0).trans rfl;have hq7:=(blk_cell (blk_below Hb3.out hb4) 1).trans rfl;have hq8:=(blk_cell (blk_below Hbr.out hb4) 0).trans rfl;have hq9:=(blk_cell (blk_below Hbr.out hb4) 1).trans rfl;have hf8:=blk_frozen (blk_below Hbr.out hb4) 0;have hf9:=blk_frozen (blk_below Hbr.out hb4) 1;have HB4:=Lib.hid (below_then HB3.out HB3.out.size hb4);have Hbr':=Lib.hid (blk_below Hbr.out hb4);clear hb4 hl) )
 obtain ⟨w9,hw9⟩:∃ w9,w9=((w4.setCell ⟨g2,0,none⟩ (.slice none 0 0)).setCell ⟨g2,1,none⟩ (.slice none 0 0)):=⟨_,rfl⟩
 have hr2:=two_cells Hbr'.out (.slice none 0 0) (.slice none 0 0)
 rw [← hw9] at hr2 ⊢
 have hb9:Below w.heap.size w w9:=by
  rw [hw9]
  exact (HB4.out.setCell (p:=⟨g2,0,none⟩) Hgs.out _).setCell (p:=⟨g2,1,none⟩) Hgs.out _
 clear hw9 hq6 hq7 hq8 hq9 hf8 hf9
 have k1:w9.cell? ⟨g2,0,none⟩=some (.slice none 0 0):=(blk_cell hr2 0).trans rfl
 have k2:w9.cell? ⟨g2,1,none⟩=some (.slice none 0 0):=(blk_cell hr2 1).trans rfl
 exact bodyPost_ret (v:=.tuple #[.agg #[.slice none 0 0,.slice none 0 0],.int .i64 2]) (by simp [results,Try.results21,go_sem,k1,k2]) rfl ⟨rfl,hb9⟩
end Go.Proofs.Ytfpdmlhknddffaa.Dk
end
section
namespace Go.Proofs.Ytfpdmlhknddffaa.Dk
open Go.RowKit Go.Proofs.YtfpdmlhknddffaaW.PrintWords Go.Proofs.YtfpdmlhknddffaaW.PrintLast Go.Proofs.YtfpdmlhknddffaaW.PrintMore
set_option linter.unusedVariables false
set_option linter.unusedSimpArgs false
theorem C_inner {α:Type} {d:Kd α} {w:World} {A:Option Addr} {xs:List α} (h:d.C w A xs.length xs):∃ inner,Reps (d.K w) d.sz xs inner∧inner.length=xs.length * d.sz∧(∀ b,A=some b→∀ j u,inner[j]? = some u→w.cell? (b.add j)=some u)∧(A=none→xs=[]):=by
 cases A with
 | none =>
  have hz:xs=[]:=by
   rcases Nat.eq_zero_or_pos xs.length with h0|h0
   · exact List.length_eq_zero_iff.1 h0
   · obtain ⟨ad,he,_⟩:=h.2.2 h0
     cases he
  subst hz
  exact ⟨[],Reps.none _ _,by simp,(fun _ hb=>by cases hb),fun _=>rfl⟩
 | some ad =>
  obtain ⟨inner,hr,hc⟩:=ReadsRow.inner_ h
  exact ⟨inner,hr,hr.1,(fun b hb=>by cases hb;exact hc),(fun hb=>by cases hb)⟩
theorem at45 {w w1:World} {g cap:Nat} {xs:List S45} {inner:List Value} (hown:w.ownsRow 0 45 2 (.slice (some ⟨g,0,none⟩) xs.length cap) xs.length inner) (hr:Reps (k45.K w1) 2 xs inner) (i:Nat) (hi:i < xs.length) :
 ∃ A1 c1,w.cell? ⟨g,i * 2,none⟩=some (.int .i64 (xs[i]).f0)∧w.cell? ⟨g,i * 2 + 1,none⟩=some (.slice A1 (xs[i]).f1.length c1)∧(xs[i]).f1.length ≤ c1∧(Kd.int .u8).C w1 A1 (xs[i]).f1.length (xs[i]).f1:=by
 have hK:=hr.2 i _ (List.getElem?_eq_getElem hi)
 obtain ⟨A1,c1,e,l1,g1⟩:=k45_open hK
 obtain ⟨hl,h2⟩:=hown
 rcases h2 with ⟨h3,_⟩|⟨g',cap',cur,h3,h4,h5,h6,h7,h8,h9⟩
 · cases h3
 · injection h3 with e1 _ e3
   injection e1 with e1
   injection e1 with e1
   subst e1
   have hget:∀ j,j < 2→w.cell? ⟨g,i * 2 + j,none⟩=((inner.drop (i * 2)).take 2)[j]?:=by
    intro j hj
    rw [blk_cell h5,List.getElem?_take_of_lt hj,List.getElem?_drop,← h9,List.getElem?_take_of_lt (by omega)]
    simp
   refine ⟨A1,c1,?_,?_,l1,g1⟩
   · have:=hget 0 (by omega)
     rw [e] at this
     exact this
   · have:=hget 1 (by omega)
     rw [e] at this
     exact this
theorem S_any {α:Type} {d:Kd α} {e base:Nat} {w:World} {ok:Nat→Prop} {v:Value} {xs:List α} (h:Kd.S d e w base ok v xs):∃ A n c,v=.slice A n c:=by
 obtain ⟨A,c,e⟩:=Kd.S_slice h
 exact ⟨A,_,c,e⟩
theorem news_cells (w:World) (cs:List Value) (t:TypeId):∀ j u,cs[j]? = some u→(w.alloc (.cells cs.toArray t)).cell? ((⟨w.heap.size,0,none⟩:Addr).add j)=some u:=by
 intro j u hu
 rw [add_at,Nat.zero_add]
 refine (blk_cell (blk_new w _) j).trans ?_
 simpa using hu
theorem own_succ {W:World} {base:Nat} {e:TypeId} {size:Nat} {v:Value} {k:Nat} {xs:List Value} (h:W.ownsRow base e size v (k + 1) xs):∃ g cap,v=.slice (some ⟨g,0,none⟩) (k + 1) cap:=by
 rcases h.2 with ⟨_,h3⟩|⟨g',cap',cur,h3,_⟩
 · omega
 · exact ⟨g',cap',h3⟩
set_option maxHeartbeats 1600000 in
theorem disk_Write_ok (A0:Option Addr) (c0:Nat) (l0:List Int) (A1:Option Addr) (c1:Nat) (l1:List S45) (a:Int) (A2:Option Addr) (c2:Nat) (l2:List Int) (w:World)
 (h0:Kd.C (Kd.int .u8) w A0 l0.length l0) (hc0:l0.length ≤ c0) (h1:Kd.C k45 w A1 l1.length l1) (hc1:l1.length ≤ c1) (h2:Kd.C (Kd.int .u8) w A2 l2.length l2) (hc2:l2.length ≤ c2)
 (Hv:Hid (validB l0 l1=true)) (Hp:Hid (isPartB l0.length a l2.length=true)) (h64:l1.length ≠ 64) :
  Calls Try.prog 21 #[.agg #[.slice A0 l0.length c0,.slice A1 l1.length c1],.int .i64 a,.slice A2 l2.length c2] w fun e w'=>∃ v0 v1:Value,e=.returned (.tuple #[.agg #[v0,v1],.int .i64 0])∧Kd.R (Kd.int .u8) 5 w' w.heap.size (fun _=>True) v0 l0∧Kd.S k45 45 w' w.heap.size (fun k_=>some k_ ≠ v0.ownBlock) v1 (l1 ++ [⟨a,l2⟩])∧Below w.heap.size w w':=by
 have hu25:=Try.underlying25
 have hu22:=Try.underlying22
 have hu23:=Try.underlying23
 have hu45:=Try.underlying45
 obtain ⟨i45,hi45,hz45,hs45,hy45⟩:=info_parts info45
 have hl:=(validB_iff l0 l1).1 Hv.out
 have hp:=(isPartB_iff _ _ _).1 Hp.out
 have hl0:=hl.1
 have hl1:=hl.2.1
 have hl2:l2.length ≤ 65536:=by omega
 have e1:((l1.length:Int) == 64)=false:=by rw [beq_eq_false_iff_ne];omega
 have hl63:l1.length ≤ 63:=by omega
 have hcut:=cut3 (P:=Try.prog) 23 45 hu23 hi45 A1 l1.length c1 (l1.length:Int) (l1.length:Int) (by omega) (by omega) (by omega)
 have Hl:=Lib.hid hl
 clear h64 hl hp
 obtain ⟨inner,hin,hinl,hcell,hnone⟩:=C_inner h1
 have Hin:=Lib.hid hin
 have Hcell:=Lib.hid hcell
 have Hnone:=Lib.hid hnone
 have Hinl:=Lib.hid hinl
 clear hin hcell hnone hinl
 go_enter Try.func21,Try.ntmps21
 go_wp2_with (first|((with_reducible refine gate_dst (N:=3) rfl ?_);(refine box_event ?hg (N:=3) ?hd (cs:=#[.slice A0 l0.length c0,.slice A1 l1.length c1]) (t:=25) ?hr ?_);(case hd=>rfl);(case hg=>rfl);(case hr=>first|(go_simp;done)|(go_simp;rfl));intro g hg w1 hb1 hB1;have HB1:=Lib.hid hB1;have Hb1:=Lib.hid hb1;clear hB1 hb1 hg)|((with_reducible refine gate_dst (N:=6) rfl ?_);(refine box_event ?hg (N:=6) ?hd (cs:=#[.slice none 0 0,.slice none 0 0]) (t:=25) ?hr ?_);(case hd=>rfl);(case hg=>rfl);(case hr=>first|(go_simp;done)|(go_simp;rfl));intro g2 hg2 w2 hb2 hB2;have hq2:=(blk_cell (blk_below Hb1.out hB2) 0).trans rfl;have hq3:=(blk_cell (blk_below Hb1.out hB2) 1).trans rfl;have Hgs:Hid (w.heap.size ≤ g2):=(Lib.hid (by rw [hg2];exact HB1.out.size));have HB2:=Lib.hid (below_then HB1.out HB1.out.size hB2);have Hb2:=Lib.hid hb2;have Hb1':=Lib.hid (blk_below Hb1.out hB2);have Hne12:Hid (g ≠ g2):=(Lib.hid (by have:=blk_lt Hb1.out;omega));clear hB2 hb2 Hb1 hg2)|(go_at_call 43;refine (disk_isValid_calls A0 c0 l0 A1 c1 l1 w2 (Kd.C_below h0 HB2.out) hc0 (Kd.C_below h1 HB2.out) hc1).mono ?_;rintro e w3 ⟨rfl,hb3⟩;rw [Hv.out];have hq6:=(blk_cell (blk_below Hb1'.out hb3) 0).trans rfl;have hq7:=(blk_cell (blk_below Hb1'.out hb3) 1).trans rfl;have HB3:=Lib.hid (below_then HB2.out HB2.out.size hb3);have Hb3:=Lib.hid (blk_below Hb1'.out hb3);have Hbr:=Lib.hid (blk_below Hb2.out hb3);clear hb3 Hb1' Hb2 hq2 hq3)|(go_at_call 44;refine (disk_isPart.calls _ _ l0 _ _ l1 a l2.length _ _ (Kd.C_below h0 HB3.out) hc0 (Kd.C_below h1 HB3.out) hc1 (isPart_f l0 l1 a l2.length (by unfold maxLen;omega))).mono ?_;rintro e w4 ⟨rfl,hb4⟩;rw [Hp.out];clear hq6 hq7;have hq6:=(blk_cell (blk_below Hb3.out hb4) 0).trans rfl;have hq7:=(blk_cell (blk_below Hb3.out hb4) 1).trans rfl;have HB4:=Lib.hid (below_then HB3.out HB3.out.size hb4);have Hbr4:=Lib.hid (blk_below Hbr.out hb4);have Hb4:=Lib.hid (blk_below Hb3.out hb4);clear hb4 Hbr Hb3)|(go_at_call 45;refine (clone_calls A0 c0 l0 w4 (Kd.C_below h0 HB4.out) hc0 (by omega)).mono ?_;rintro e w5 ⟨v5,rfl,hr5,hb5⟩;obtain ⟨A5,cap5,rfl⟩:=Kd.R_slice hr5;clear hq6 hq7;have Hbr5:=Lib.hid (blk_below Hbr4.out hb5);have Hb5:=Lib.hid (blk_below Hb4.out hb5);have HB5:=Lib.hid (below_then HB4.out HB4.out.size hb5);have HR5:=Lib.hid (Kd.R_lower hr5 HB4.out.size);clear hb5 Hbr4 Hb4 hr5)|((with_reducible refine gate_dst (N:=8) rfl ?_);(refine box_event ?hg (N:=8) ?hd (cs:=#[.slice none 0 0,.slice none 0 0]) (t:=25) ?hr ?_);(case hd=>rfl);(case hg=>rfl);(case hr=>first|(go_simp;done)|(go_simp;rfl));intro g8 hg8 w6 hb6 hB6;have hf0:=blk_frozen hb6 0;have hf1:=blk_frozen hb6 1;have hf2:=(blk_cell hb6 0).trans rfl;have hf3:=(blk_cell hb6 1).trans rfl;have Hg8:Hid (w.heap.size ≤ g8):=(Lib.hid (by rw [hg8];exact HB5.out.size));have Hne8:Hid (g ≠ g8):=(Lib.hid (by have:=blk_lt Hb5.out;omega));have Hne28:Hid (g2 ≠ g8):=(Lib.hid (by have:=blk_lt Hbr5.out;omega));have Hb6:=Lib.hid hb6;have Hb61:=Lib.hid (blk_below Hb5.out hB6);have Hb62:=Lib.hid (blk_below Hbr5.out hB6);have HB6:=Lib.hid (below_then HB5.out HB5.out.size hB6);have HR6:=Lib.hid (Kd.R_below HR5.out hB6);clear hb6 hB6 hg8 Hb5 Hbr5)|((with_reducible refine gate_store (t:=25) (p:=8) rfl ?_);refine store_event (w1:=(w6.setCell ⟨g8,0,none⟩ (.slice A5 l0.length cap5)).setCell ⟨g8,1,none⟩ (.slice none 0 0)) rfl (v:=.tmp 31) rfl rfl ?hrun ?_;(case hrun=>first|(go_simp;done)|(go_simp;rfl));intro w7 hw7;have Hb7:Hid (w7.heap[g8]? = some (.cells #[.slice A5 l0.length cap5,.slice none 0 0] 25 (0,0))):=(Lib.hid (by rw [hw7];exact two_cells Hb6.out _ _));have Hb71:Hid (w7.heap[g]? = some (.cells #[.slice A0 l0.length c0,.slice A1 l1.length c1] 25 (0,0))):=(Lib.hid (by rw [hw7];exact blk_far (blk_far Hb61.out Hne8.out _) Hne8.out _));have Hb72:Hid (w7.heap[g2]? = some (.cells #[.slice none 0 0,.slice none 0 0] 25 (0,0))):=(Lib.hid (by rw [hw7];exact blk_far (blk_far Hb62.out Hne28.out _) Hne28.out _));have HB7:Hid (Below w.heap.size w w7):=(Lib.hid (by rw [hw7];exact (HB6.out.setCell (p:=⟨g8,0,none⟩) Hg8.out _).setCell (p:=⟨g8,1,none⟩) Hg8.out _));have HR7:Hid (Kd.R (Kd.int .u8) 5 w7 w.heap.size (fun _=>True) (.slice A5 l0.length cap5) l0):=(Lib.hid (by rw [hw7];exact Kd.R_set (Kd.R_set HR6.out Hb6.out (by decide) 0 _) (blk_put Hb6.out 0 _ rfl) (by decide) 1 _));have hq6:=(blk_cell Hb71.out 0).trans rfl;have hq7:=(blk_cell Hb71.out 1).trans rfl;clear hw7 hf0 hf1 hf2 hf3 Hb6 Hb61 Hb62 HR6)|((with_reducible refine gate_dst (N:=45) rfl ?_);refine wpList_append_grows (P:=Try.prog) _ rfl (.tmp 40) (.tmp 44) 23 rfl 45 i45 _ 2 32 hu23 hi45 hz45 hs45 hy45 rfl (by decide) A1 l1.length l1.length inner rfl ?hnn Hinl.out ?hcc ⟨w7.heap.size,0,none⟩ 1 1 [.int .i64 a,.slice A2 l2.length c2] rfl rfl ?hnw ?h1c (by omega) (by unfold maxLen;omega) (by omega) ?_;(case hnn=>intro h;have:=Hnone.out h;subst this;exact ⟨rfl,rfl⟩);(case hcc=>intro b hb j u hu;exact (pw_cell_below (below_alloc HB7.out _) (Hcell.out b hb j u hu)));(case hnw=>exact news_cells w7 [.int .i64 a,.slice A2 l2.length c2] 45);(case h1c=>simp [Value.oneCell']);intro v8 w8 hown8 hg8w;obtain ⟨g9,cap9,rfl⟩:=own_succ hown8;have Hown8:=Lib.hid (own_weaken hown8 (Nat.zero_le _));have Hb8:=Lib.hid (blk_grown (blk_alloc Hb7.out _) hg8w (by simp));have Hb82:=Lib.hid (blk_grown (blk_alloc Hb72.out _) hg8w (by simp));have HB8:=Lib.hid (pw_below_grown (below_alloc HB7.out _) none (below_size (below_alloc HB7.out _)) hg8w (by intro k hk;cases hk));have HR8:=Lib.hid (Kd.R_grown (Kd.R_alloc HR7.out _) hg8w (by intro k hk;simp));clear hown8 hg8w hq6 hq7) )
 obtain ⟨L,hL⟩:∃ L,L=l1 ++ [(⟨a,l2⟩:S45)]:=⟨_,rfl⟩
 have hLl:L.length=l1.length + 1:=by rw [hL];simp
 have hReps:Reps (k45.K w) 2 L (inner ++ [.int .i64 a,.slice A2 l2.length c2]):=by
  rw [hL]
  exact Reps.snoc Hin.out (k45_mk w ⟨a,l2⟩ hc2 h2) rfl
 rw [← hLl] at Hown8 ⊢
 have HReps:=Lib.hid hReps
 have HL:=Lib.hid hL
 clear hReps hL hcut
 have hL64:L.length ≤ 64:=by omega
 have hLx:∀ x ∈ L,x.f1.length ≤ 65536:=by
  intro x hx
  rw [HL.out] at hx
  rcases List.mem_append.1 hx with h|h
  · have:=Hl.out.2.2 x h
    omega
  · rw [List.mem_singleton.1 h]
    exact hl2
 have HLx:=Lib.hid hLx
 clear hLx
 obtain ⟨V5,hV5⟩:∃ V5:Value,V5=.slice A5 l0.length cap5:=⟨_,rfl⟩
 have HV5:=Lib.hid hV5
 rw [← hV5] at HR8 Hb8
 have hVblk:∀ k,V5.ownBlock=some k→k < w8.heap.size:=Kd.R_lt HR8.out
 have HVblk:=Lib.hid hVblk
 clear hV5 hVblk
 have hg9:g9 < w8.heap.size∧g9 ≠ g8:=by
  obtain ⟨cells,hc⟩:=own_typed Hown8.out g9 (by simp [Value.ownBlock])
  exact ⟨blk_lt hc,blk_ne hc Hb8.out (by decide)⟩
 have Hg9:=Lib.hid hg9
 clear hg9
 go_loopg [47] L.length (fun k v47 wr=>∃ (i:Nat) (u:Value),i ≤ L.length∧k=L.length - i∧v47=.int .i64 i∧Hid (Kd.S k45 45 wr w8.heap.size (fun k_=>some k_ ≠ V5.ownBlock) u (L.take i))∧Hid (Kd.R (Kd.int .u8) 5 wr w.heap.size (fun _=>True) V5 l0)
  ∧ Hid (wr.heap[g8]? = some (.cells #[V5,u] 25 (0,0)))∧Hid (wr.heap[g2]? = some (.cells #[.slice none 0 0,.slice none 0 0] 25 (0,0)))∧Hid (wr.ownsRow 0 45 2 (.slice (some ⟨g9,0,none⟩) L.length cap9) L.length (inner ++ [.int .i64 a,.slice A2 l2.length c2]))∧Hid (Below w.heap.size w wr)∧w8.heap.size ≤ wr.heap.size)
 case atStart=>exact ⟨0,.slice none 0 0,by omega,by omega,rfl,Lib.hid (Kd.S_nil _ _ _ _ _),HR8,Hb8,Hb82,Hown8,HB8,Nat.le_refl _⟩
 case round =>
  obtain ⟨i,u,hi,rfl,rfl,HS,HRr,Hb8r,Hb2r,Hownr,HBr,hszr⟩:=hrel
  by_cases hlt:i < L.length
  · obtain ⟨A3,c3,q0,q1,q2,q3⟩:=at45 Hownr.out HReps.out i hlt
    obtain ⟨xi,hxi⟩:∃ xi,xi=L[i]:=⟨_,rfl⟩
    have hxm:xi ∈ L:=by rw [hxi];exact List.getElem_mem _
    have hxv:=HLx.out xi hxm
    rw [← hxi] at q0 q1 q2 q3
    have Hxi:=Lib.hid hxi
    clear hxi hxm
    obtain ⟨f0,f1⟩:=xi
    dsimp only at q0 q1 q2 q3 hxv
    go_wp2_with (fail)
    obtain ⟨wb,hwb⟩:∃ wb,wb=wr.alloc (.cells #[.int .i64 f0,.slice A3 f1.length c3] 45):=⟨_,rfl⟩
    rw [← hwb]
    have hbb:Below wr.heap.size wr wb:=by rw [hwb];exact below_alloc (Below.refl _ _) _
    obtain ⟨b10,hb10⟩:∃ b10,b10=wr.heap.size:=⟨_,rfl⟩
    have hblk:wb.heap[b10]? = some (.cells #[.int .i64 f0,.slice A3 f1.length c3] 45 (0,0)):=by rw [hwb,hb10];exact blk_new _ _
    have hszb:w8.heap.size ≤ wb.heap.size:=Nat.le_trans hszr hbb.size
    have hb10s:w8.heap.size ≤ b10:=by rw [hb10];exact hszr
    rw [← hb10]
    have Sb:=Lib.hid (Kd.S_below HS.out hbb)
    have Rb:=Lib.hid (Kd.R_below HRr.out hbb)
    have B8b:=Lib.hid (blk_below Hb8r.out hbb)
    have B2b:=Lib.hid (blk_below Hb2r.out hbb)
    have Ownb:=Lib.hid (pw_own_below Hownr.out hbb)
    have HBb:=Lib.hid (below_then HBr.out HBr.out.size hbb)
    have Hblk:=Lib.hid hblk
    have k1:wb.cell? ⟨g8,1,none⟩=some u:=(blk_cell B8b.out 1).trans rfl
    have k2:wb.cell? ⟨b10,0,none⟩=some (.int .i64 f0):=(blk_cell Hblk.out 0).trans rfl
    have k3:wb.cell? ⟨b10,1,none⟩=some (.slice A3 f1.length c3):=(blk_cell Hblk.out 1).trans rfl
    have hne8:g8 ≠ b10:=by rw [hb10];exact Nat.ne_of_lt (blk_lt Hb8r.out)
    have Hne8b:=Lib.hid hne8
    have hgl:i < 64:=by omega
    have hg8l:g8 < w8.heap.size:=blk_lt Hb8.out
    have Hg8l:=Lib.hid hg8l
    have Hsb:=Lib.hid hszb
    clear hwb hbb hblk hb10 hszb q0 q1 hne8 HS HRr Hb8r Hb2r Hownr HBr hszr hg8l
    refine start_ (n:=12) (S:=fun w'=>w'.cell? ⟨g8,1,none⟩=some u∧w'.cell? ⟨b10,0,none⟩=some (.int .i64 f0)∧w'.cell? ⟨b10,1,none⟩=some (.slice A3 f1.length c3)) (ds:=[9,11]) #[false,false,false,false,false,false,false,false,false,false,false,false] (by kernel_rfl) rfl rfl ⟨k1,k2,k3⟩ ?_
    intro hHeld
    refine pure_ (i:=0) (N:=some 51) (v:=?_) (a':=?_) #[true,false,false,false,false,false,false,false,false,false,false,false] rfl rfl (by kernel_rfl) (fun _ _ _ h=>h) (Or.inl ⟨by rfl,?_⟩) ?_ ?_
    rotate_left
    · intro w'
      go_simp
      try (with_reducible rfl)
    rotate_left
    · simp only [Act.put,List.setIfInBounds_toArray,List.set_cons_zero,List.set_cons_succ]
      rfl
    refine pure_ (i:=2) (N:=some 53) (v:=?_) (a':=?_) #[true,false,true,false,false,false,false,false,false,false,false,false] rfl rfl (by kernel_rfl) (fun _ _ _ h=>h) (Or.inl ⟨by rfl,?_⟩) ?_ ?_
    rotate_left
    · intro w'
      go_simp
      try (with_reducible rfl)
    rotate_left
    · simp only [Act.put,List.setIfInBounds_toArray,List.set_cons_zero,List.set_cons_succ]
      rfl
    refine pure_ (i:=4) (N:=some 55) (v:=?_) (a':=?_) #[true,false,true,false,true,false,false,false,false,false,false,false] rfl rfl (by kernel_rfl) (fun _ _ _ h=>h) (Or.inl ⟨by rfl,?_⟩) ?_ ?_
    rotate_left
    · intro w'
      go_simp
      try (with_reducible rfl)
    rotate_left
    · simp only [Act.put,List.setIfInBounds_toArray,List.set_cons_zero,List.set_cons_succ]
      rfl
    refine take_ (i:=1) (N:=some 52) (v:=?_) (a':=?_) #[true,true,true,false,true,false,false,false,false,false,false,false] rfl rfl (by kernel_rfl) (fun _ _ _ h=>h) (Or.inl ⟨by rfl,?_⟩) hHeld ?_ ?_
    rotate_left
    · rintro w' ⟨s0,s1,s2⟩
      go_simp
      with_reducible rfl
    rotate_left
    · simp only [Act.put,List.setIfInBounds_toArray,List.set_cons_zero,List.set_cons_succ]
      rfl
    refine take_ (i:=3) (N:=some 54) (v:=?_) (a':=?_) #[true,true,true,true,true,false,false,false,false,false,false,false] rfl rfl (by kernel_rfl) (fun _ _ _ h=>h) (Or.inl ⟨by rfl,?_⟩) hHeld ?_ ?_
    rotate_left
    · rintro w' ⟨s0,s1,s2⟩
      go_simp
      with_reducible rfl
    rotate_left
    · simp only [Act.put,List.setIfInBounds_toArray,List.set_cons_zero,List.set_cons_succ]
      rfl
    refine take_ (i:=5) (N:=some 56) (v:=?_) (a':=?_) #[true,true,true,true,true,true,false,false,false,false,false,false] rfl rfl (by kernel_rfl) (fun _ _ _ h=>h) (Or.inl ⟨by rfl,?_⟩) hHeld ?_ ?_
    rotate_left
    · rintro w' ⟨s0,s1,s2⟩
      go_simp
      with_reducible rfl
    rotate_left
    · simp only [Act.put,List.setIfInBounds_toArray,List.set_cons_zero,List.set_cons_succ]
      rfl
    refine one_ (i:=6) (N:=some 57) #[true,true,true,true,true,true,true,false,false,false,false,false] rfl rfl (by kernel_rfl) (by decide) (fun K hK => ?_)
    refine goes_ Try.func45 (by kernel_rfl) rfl #[.slice A3 f1.length c3] (by rfl) rfl rfl (by (try simp only [List.map_toArray,List.map_cons,List.map_nil]);first|done|rfl) ?_
    refine (clone_calls A3 c3 f1 _ (Kd.C_drew (Kd.C_below q3 HBb.out)) q2 (by omega)).mono ?_
    rintro e w10 ⟨v10,rfl,hr10,hbx⟩
    obtain ⟨A10,cap10,rfl⟩:=Kd.R_slice hr10
    have hbw:Below wb.heap.size wb w10:=below_then (below_drew (Below.refl _ _)) (Nat.le_refl _) hbx
    have k4:=pw_cell_below hbw k1
    have k5:=pw_cell_below hbw k2
    have k6:=pw_cell_below hbw k3
    have S10:=Lib.hid (Kd.S_mono (Kd.S_below (Kd.S_bound Sb.out) hbw) (ok':=fun k=>(some k ≠ V5.ownBlock)∧¬ (wb.heap.size ≤ k)) (fun k hk=>⟨hk.1,Nat.not_le_of_lt hk.2.2.1⟩))
    have Slt:=Lib.hid (Kd.S_lt Sb.out)
    have R10:=Lib.hid (Kd.R_below Rb.out hbw)
    have B810:=Lib.hid (blk_below B8b.out hbw)
    have B210:=Lib.hid (blk_below B2b.out hbw)
    have Own10:=Lib.hid (pw_own_below Ownb.out hbw)
    have HB10:=Lib.hid (below_then HBb.out HBb.out.size hbw)
    have Hv10:=Lib.hid (Kd.R_lower (Kd.R_mono (Kd.R_bound hr10) (ok':=fun k=>wb.heap.size ≤ k) (fun k hk=>hk.2.1)) Hsb.out)
    have Hsz10:=Lib.hid (Nat.le_trans Hsb.out hbw.size)
    have Hszb10:=Lib.hid hbw.size
    clear hr10 hbx hbw
    refine ⟨_,rfl,?_⟩
    refine hK.out _ _ ⟨k4,k5,k6⟩ (fun hHeld => ?_)
    clear hK K
    refine norm_ (a':=?_) ?_ ?_
    rotate_left
    · show Act.put _ (some 57) _=_
      simp only [Act.put,List.setIfInBounds_toArray,List.set_cons_zero,List.set_cons_succ]
      rfl
    refine pure_ (i:=7) (N:=some 58) (v:=?_) (a':=?_) #[true,true,true,true,true,true,true,true,false,false,false,false] rfl rfl (by kernel_rfl) (fun _ _ _ h=>h) (Or.inl ⟨by rfl,?_⟩) ?_ ?_
    rotate_left
    · intro w'
      go_simp
      try (with_reducible rfl)
    rotate_left
    · simp only [Act.put,List.setIfInBounds_toArray,List.set_cons_zero,List.set_cons_succ]
      rfl
    refine one_ (i:=8) (N:=some 59) #[true,true,true,true,true,true,true,true,true,false,false,false] rfl rfl (by kernel_rfl) (by decide) (fun K hK => ?_)
    refine value_ (w1:=?_) (v:=?_) (by rfl) rfl ?_ ?_
    rotate_left 2
    · go_simp
      constructor
      · rfl
      · rfl
    refine hK.out _ _ ⟨pw_cell_below (below_alloc (Below.refl _ _) _) k4,pw_cell_below (below_alloc (Below.refl _ _) _) k5,pw_cell_below (below_alloc (Below.refl _ _) _) k6⟩ (fun hHeld => ?_)
    clear hK K
    refine norm_ (a':=?_) ?_ ?_
    rotate_left
    · show Act.put _ (some 59) _=_
      simp only [Act.put,List.setIfInBounds_toArray,List.set_cons_zero,List.set_cons_succ]
      rfl
    refine last_ (i:=9) (N:=some 60) #[true,true,true,true,true,true,true,true,true,true,false,false] rfl rfl (by kernel_rfl) (by decide) (fun K hK => ?_)
    refine Kd.S_append_step k45 (w0:=w10) (W:=w10) w8.heap.size (by rfl) (.tmp 52) (.tmp 59) 23 45 (.agg #[.int .i64 0,.slice none 0 0]) 32 (by rfl) hu23 info45 rfl (by decide) (by decide) u (L.take i) ⟨f0,f1⟩ [.int .i64 f0,.slice A10 f1.length cap10] (fun k_=>some k_ ≠ V5.ownBlock) (fun k_=>wb.heap.size ≤ k_) (by rfl) (by rfl) (k45_mkM w10 _ _ ⟨f0,f1⟩ Hv10.out) ?hok ?hfr S10.out (Below.refl _ _) Hsz10.out ?hlen ?_
    case hok=>exact fun k hk=>⟨fun he=>by have:=HVblk.out k he.symm;have:=Hsb.out;omega,fun he=>by have:=Slt.out k he.symm;omega⟩
    case hfr=>exact fun k hk he=>by have:=HVblk.out k he.symm;have:=Hsz10.out;omega
    case hlen=>simp;omega
    intro u1 w11 hs11 hb11 hg11 hat11
    obtain ⟨A11,n11,cap11,rfl⟩:=S_any hs11
    have Hna:=Lib.hid (Kd.S_ne S10.out B810.out (by decide))
    have B811:=Lib.hid (blk_grown B810.out hg11 Hna.out)
    have B211:=Lib.hid (blk_grown B210.out hg11 (Kd.S_ne S10.out B210.out (by decide)))
    have hz0:=(blk_cell B811.out 0).trans rfl
    have hz1:=(blk_cell B811.out 1).trans rfl
    have hf1:=blk_frozen B811.out 1
    have S11:=Lib.hid hs11
    have R11:=Lib.hid (Kd.R_grown (Kd.R_tight rfl R10.out) hg11 (fun k hk he=>by have:=(Kd.S_R S10.out).1 k he.symm;exact this.1 hk))
    have Own11:=Lib.hid (own_move Own10.out (fun k hk=>hg11.block k (by have:=Hg9.out.1;have:=Hsz10.out;simp [Value.ownBlock] at hk;omega) (fun he=>by have:=Kd.S_base S10.out k he.symm;have:=Hg9.out.1;simp [Value.ownBlock] at hk;omega)))
    have HB11:=Lib.hid (pw_below_grown HB10.out _ HB10.out.size hg11 (fun k hk=>by have:=Kd.S_base S10.out k hk;have:=HB8.out.size;omega))
    have Hsz11:=Lib.hid (Nat.le_trans Hsz10.out hg11.size)
    clear hs11 hb11 hg11 hat11
    refine hK.out _ _ ?_
    clear hK K
    refine norm_ (a':=?_) ?_ ?_
    rotate_left
    · show Act.put _ (some 60) _=_
      simp only [Act.put,List.setIfInBounds_toArray,List.set_cons_zero,List.set_cons_succ]
      rfl
    refine pure_ (i:=10) (N:=some 61) (v:=?_) (a':=?_) #[true,true,true,true,true,true,true,true,true,true,true,false] rfl rfl (by kernel_rfl) (fun _ _ _ h=>h) (Or.inl ⟨by rfl,?_⟩) ?_ ?_
    rotate_left
    · intro w'
      go_simp
      try (with_reducible rfl)
    rotate_left
    · simp only [Act.put,List.setIfInBounds_toArray,List.set_cons_zero,List.set_cons_succ]
      rfl
    refine last_ (i:=11) (N:=none) #[true,true,true,true,true,true,true,true,true,true,true,true] rfl rfl (by kernel_rfl) (by decide) (fun K hK => ?_)
    refine skip_ (w1:=?_) (by rfl) rfl ?_ ?_
    rotate_left
    · go_simp
      rfl
    refine hK.out _ _ ?_
    clear hK K
    refine done_ (by kernel_rfl) ?_
    clear k1 k2 k3 k4 k5 k6 hz0 hz1 hf1
    go_wp2
    go_roundg (L.length - (i + 1))
    case measure=>omega
    case rel =>
     have ht:L.take (i + 1)=L.take i ++ [(⟨f0,f1⟩:S45)]:=by rw [List.take_succ_eq_append_getElem hlt,← Hxi.out]
     refine ⟨i + 1,.slice A11 n11 cap11,by omega,rfl,by go_num,Lib.hid ?_,Lib.hid ?_,Lib.hid ?_,Lib.hid ?_,Lib.hid ?_,Lib.hid ?_,?_⟩
     · rw [ht];exact Kd.S_set S11.out B811.out (by decide) 1 _
     · exact Kd.R_mono (Kd.R_set R11.out B811.out (by decide) 1 _) (fun _ _=>trivial)
     · exact blk_put B811.out 1 _ rfl
     · exact blk_far B211.out Hne28.out _
     · exact own_move Own11.out (fun k hk=>Below.heap_setCell _ _ _ k (by have:=Hg9.out.2;simp [Value.ownBlock] at hk;show k ≠ g8;omega))
     · exact HB11.out.setCell (p:=⟨g8,1,none⟩) Hg8.out _
     · exact Nat.le_trans Hsz11.out (by simp)
  · obtain rfl:i=L.length:=by omega
    obtain ⟨A12,n12,cap12,rfl⟩:=S_any HS.out
    have eV:=HV5.out
    subst eV
    have j1:=(blk_cell Hb8r.out 0).trans rfl
    have j2:=(blk_cell Hb8r.out 1).trans rfl
    have j3:=(blk_cell Hb2r.out 0).trans rfl
    have j4:=(blk_cell Hb2r.out 1).trans rfl
    have j5:=blk_frozen Hb2r.out 0
    have j6:=blk_frozen Hb2r.out 1
    go_wp2
    obtain ⟨w9,hw9⟩:∃ w9,w9=((wr.setCell ⟨g2,0,none⟩ (.slice A5 l0.length cap5)).setCell ⟨g2,1,none⟩ (.slice A12 n12 cap12)):=⟨_,rfl⟩
    rw [← hw9]
    have hr2:=two_cells Hb2r.out (.slice A5 l0.length cap5) (.slice A12 n12 cap12)
    rw [← hw9] at hr2
    have m1:w9.cell? ⟨g2,0,none⟩=some (.slice A5 l0.length cap5):=(blk_cell hr2 0).trans rfl
    have m2:w9.cell? ⟨g2,1,none⟩=some (.slice A12 n12 cap12):=(blk_cell hr2 1).trans rfl
    refine bodyPost_ret (v:=.tuple #[.agg #[.slice A5 l0.length cap5,.slice A12 n12 cap12],.int .i64 0]) (by simp [results,Try.results21,go_sem,m1,m2]) rfl ⟨_,_,rfl,?_,?_,?_⟩
    · rw [hw9]
      exact Kd.R_set (Kd.R_set HRr.out Hb2r.out (by decide) 0 _) (blk_put Hb2r.out 0 _ rfl) (by decide) 1 _
    · have hS:=HS.out
      rw [List.take_length,HL.out] at hS
      rw [hw9]
      exact Kd.S_set (Kd.S_set (Kd.S_lower hS HB8.out.size) Hb2r.out (by decide) 0 _) (blk_put Hb2r.out 0 _ rfl) (by decide) 1 _
    · rw [hw9]
      exact (HBr.out.setCell (p:=⟨g2,0,none⟩) Hgs.out _).setCell (p:=⟨g2,1,none⟩) Hgs.out _
end Go.Proofs.Ytfpdmlhknddffaa.Dk
end
section
namespace Go.Proofs.Ytfpdmlhknddffaa.Dk
open Go.RowKit Go.Proofs.YtfpdmlhknddffaaW.PrintWords Go.Proofs.YtfpdmlhknddffaaW.PrintLast Go.Proofs.YtfpdmlhknddffaaW.PrintMore
set_option linter.unusedVariables false
set_option linter.unusedSimpArgs false
def disk_Write.f (l0_0:List Int) (l0_1:List (S45)) (a1:Int) (l2:List Int):Option (List Int × (List (S45)) × Int):=some (writeF l0_0 l0_1 a1 l2)
theorem disk_Write.calls (A0_0:Option Addr) (c0_0:Nat) (l0_0:List Int) (A0_1:Option Addr) (c0_1:Nat) (l0_1:List (S45)) (a1:Int) (A2:Option Addr) (c2:Nat) (l2:List Int) (r1:List Int) (r2:List (S45)) (r3:Int) (w:World) (hr0_0:Kd.C (Kd.int .u8) w A0_0 l0_0.length l0_0) (hc0_0:l0_0.length ≤ c0_0) (hr0_1:Kd.C k45 w A0_1 l0_1.length l0_1) (hc0_1:l0_1.length ≤ c0_1) (hr2:Kd.C (Kd.int .u8) w A2 l2.length l2) (hc2:l2.length ≤ c2) (h:disk_Write.f l0_0 l0_1 a1 l2=some (r1,r2,r3)) :
 Calls Try.prog 21 #[.agg #[.slice A0_0 l0_0.length c0_0,.slice A0_1 l0_1.length c0_1],.int .i64 a1,.slice A2 l2.length c2] w fun e w'=>∃ v0_ v1_:Value,e=.returned (.tuple #[.agg #[v0_,v1_],.int .i64 r3])∧Kd.R (Kd.int .u8) 5 w' w.heap.size (fun _=>True) v0_ r1∧Kd.S k45 45 w' w.heap.size (fun k_=>some k_ ≠ (v0_:Value).ownBlock) v1_ r2∧Below w.heap.size w w':=by
 unfold disk_Write.f writeF at h
 cases hv:validB l0_0 l0_1
 · rw [hv] at h
   injection h with h
   obtain ⟨rfl,rfl,rfl⟩:=h
   refine (disk_Write_e1 _ _ l0_0 _ _ l0_1 a1 _ _ l2 w hr0_0 hc0_0 hr0_1 hc0_1 hr2 hc2 (Lib.hid hv)).mono ?_
   rintro e w' ⟨rfl,hb⟩
   exact ⟨_,_,rfl,Kd.R_nil _ _ _ _ _,Kd.S_nil _ _ _ _ _,hb⟩
 · cases hp:isPartB l0_0.length a1 l2.length
   · rw [hv,hp] at h
     injection h with h
     obtain ⟨rfl,rfl,rfl⟩:=h
     refine (disk_Write_e2 _ _ l0_0 _ _ l0_1 a1 _ _ l2 w hr0_0 hc0_0 hr0_1 hc0_1 hr2 hc2 (Lib.hid hv) (Lib.hid hp)).mono ?_
     rintro e w' ⟨rfl,hb⟩
     exact ⟨_,_,rfl,Kd.R_nil _ _ _ _ _,Kd.S_nil _ _ _ _ _,hb⟩
   · by_cases h64:l0_1.length=64
     · rw [hv,hp,Bool.and_self,if_pos rfl,if_pos h64] at h
       injection h with h
       obtain ⟨rfl,rfl,rfl⟩:=h
       refine (disk_Write_e64 _ _ l0_0 _ _ l0_1 a1 _ _ l2 w hr0_0 hc0_0 hr0_1 hc0_1 hr2 hc2 (Lib.hid hv) (Lib.hid hp) h64).mono ?_
       rintro e w' ⟨rfl,hb⟩
       exact ⟨_,_,rfl,Kd.R_nil _ _ _ _ _,Kd.S_nil _ _ _ _ _,hb⟩
     · rw [hv,hp,Bool.and_self,if_pos rfl,if_neg h64] at h
       injection h with h
       obtain ⟨rfl,rfl,rfl⟩:=h
       exact disk_Write_ok _ _ l0_0 _ _ l0_1 a1 _ _ l2 w hr0_0 hc0_0 hr0_1 hc0_1 hr2 hc2 (Lib.hid hv) (Lib.hid hp) h64
def disk_Sync.f (l0_0:List Int) (l0_1:List (S45)):Option (List Int × (List (S45))):=some (syncL l0_0 l0_1,[])
theorem disk_Sync.calls (A0_0:Option Addr) (c0_0:Nat) (l0_0:List Int) (A0_1:Option Addr) (c0_1:Nat) (l0_1:List (S45)) (r1:List Int) (r2:List (S45)) (w:World) (hr0_0:Kd.C (Kd.int .u8) w A0_0 l0_0.length l0_0) (hc0_0:l0_0.length ≤ c0_0) (hr0_1:Kd.C k45 w A0_1 l0_1.length l0_1) (hc0_1:l0_1.length ≤ c0_1) (h:disk_Sync.f l0_0 l0_1=some (r1,r2)) :
 Calls Try.prog 26 #[.agg #[.slice A0_0 l0_0.length c0_0,.slice A0_1 l0_1.length c0_1]] w fun e w'=>∃ v0_ v1_:Value,e=.returned (.agg #[v0_,v1_])∧Kd.R (Kd.int .u8) 5 w' w.heap.size (fun _=>True) v0_ r1∧Kd.S k45 45 w' w.heap.size (fun k_=>some k_ ≠ (v0_:Value).ownBlock) v1_ r2∧Below w.heap.size w w':=by
 unfold disk_Sync.f at h
 injection h with h
 obtain ⟨rfl,rfl⟩:=h
 refine (disk_Sync_calls _ _ l0_0 _ _ l0_1 w hr0_0 hc0_0 hr0_1 hc0_1).mono ?_
 rintro e w' ⟨v0,rfl,hr,hb⟩
 exact ⟨_,_,rfl,hr,Kd.S_nil _ _ _ _ _,hb⟩
def disk_Crash.f (l0_0:List Int) (l0_1:List (S45)) (l1:List Int):Option (List Int × (List (S45))):=some (crashL l0_0 l0_1 l1,[])
theorem disk_Crash.calls (A0_0:Option Addr) (c0_0:Nat) (l0_0:List Int) (A0_1:Option Addr) (c0_1:Nat) (l0_1:List (S45)) (A1:Option Addr) (c1:Nat) (l1:List Int) (r1:List Int) (r2:List (S45)) (w:World) (hr0_0:Kd.C (Kd.int .u8) w A0_0 l0_0.length l0_0) (hc0_0:l0_0.length ≤ c0_0) (hr0_1:Kd.C k45 w A0_1 l0_1.length l0_1) (hc0_1:l0_1.length ≤ c0_1) (hr1:Kd.C (Kd.int .i64) w A1 l1.length l1) (hc1:l1.length ≤ c1) (h:disk_Crash.f l0_0 l0_1 l1=some (r1,r2)) :
 Calls Try.prog 28 #[.agg #[.slice A0_0 l0_0.length c0_0,.slice A0_1 l0_1.length c0_1],.slice A1 l1.length c1] w fun e w'=>∃ v0_ v1_:Value,e=.returned (.agg #[v0_,v1_])∧Kd.R (Kd.int .u8) 5 w' w.heap.size (fun _=>True) v0_ r1∧Kd.S k45 45 w' w.heap.size (fun k_=>some k_ ≠ (v0_:Value).ownBlock) v1_ r2∧Below w.heap.size w w':=by
 unfold disk_Crash.f at h
 injection h with h
 obtain ⟨rfl,rfl⟩:=h
 refine (disk_Crash_calls _ _ l0_0 _ _ l0_1 _ _ l1 w hr0_0 hc0_0 hr0_1 hc0_1 hr1 hc1).mono ?_
 rintro e w' ⟨v0,rfl,hr,hb⟩
 exact ⟨_,_,rfl,hr,Kd.S_nil _ _ _ _ _,hb⟩
def disk_Read.f (l0_0:List Int) (l0_1:List (S45)) (a1 a2:Int):Option (List Int × Int):=some (readL l0_0 l0_1 a1 a2,if readOk l0_0 l0_1 a1 a2=true then 0 else 1)
theorem disk_Read.calls (A0_0:Option Addr) (c0_0:Nat) (l0_0:List Int) (A0_1:Option Addr) (c0_1:Nat) (l0_1:List (S45)) (a1:Int) (a2:Int) (r1:List Int) (r2:Int) (w:World) (hr0_0:Kd.C (Kd.int .u8) w A0_0 l0_0.length l0_0) (hc0_0:l0_0.length ≤ c0_0) (hr0_1:Kd.C k45 w A0_1 l0_1.length l0_1) (hc0_1:l0_1.length ≤ c0_1) (h:disk_Read.f l0_0 l0_1 a1 a2=some (r1,r2)) :
 Calls Try.prog 23 #[.agg #[.slice A0_0 l0_0.length c0_0,.slice A0_1 l0_1.length c0_1],.int .i64 a1,.int .i64 a2] w fun e w'=>∃ v0_:Value,e=.returned (.tuple #[v0_,.int .i64 r2])∧Kd.R (Kd.int .u8) 5 w' w.heap.size (fun _=>True) v0_ r1∧Below w.heap.size w w':=by
 unfold disk_Read.f at h
 injection h with h
 obtain ⟨rfl,rfl⟩:=h
 exact disk_Read_calls _ _ l0_0 _ _ l0_1 a1 a2 w hr0_0 hc0_0 hr0_1 hc0_1
end Go.Proofs.Ytfpdmlhknddffaa.Dk
end
section
namespace Go.Proofs.Ytfpdmlhknddffaa.Dk
open Go.RowKit Go.Proofs.YtfpdmlhknddffaaW.PrintWords Go.Proofs.YtfpdmlhknddffaaW.PrintLast Go.Proofs.YtfpdmlhknddffaaW.PrintMore
attribute [local go_sem] max2_int min2_int max_two min_two max_three min_three max_four min_four
set_option linter.unusedVariables false
set_option linter.unusedSimpArgs false
mutual
def wageofficeref42_Valid.j0:Nat→Bool→List Int→List (S45)→Option (Bool)
 | 0,_,_,_=>none
 | k + 1,x13,x141000,x141001=>if x13=true then (some false) else (wageofficeref42_Valid.l0 k 0 x141000 x141001)
def wageofficeref42_Valid.l0:Nat→Int→List Int→List (S45)→Option (Bool)
 | 0,_,_,_=>none
 | k + 1,x3,x141000,x141001=>if x3 < (x141001.length:Int) then (if 0 ≤ x3 then (if ((rd_T45 x141001 x3).f0) < 0 then (some false) else (if ((rd_T45 x141001 x3).f0) > (wrap64 ((x141000.length:Int) - (((rd_T45 x141001 x3).f1).length:Int))) then (some false) else (wageofficeref42_Valid.l0 k (wrap64 (x3 + 1)) x141000 x141001))) else (none)) else (some true)
end
def wageofficeref42_Valid.f (k:Nat) (l0_0:List Int) (l0_1:List (S45)):Option (Bool):=if (l0_0.length:Int) > 65536 then (wageofficeref42_Valid.j0 k true l0_0 l0_1) else (wageofficeref42_Valid.j0 k (decide ((l0_1.length:Int) > 64)) l0_0 l0_1)
set_option maxHeartbeats 8000000 in
set_option maxRecDepth 100000 in
theorem wageofficeref42_Valid.calls (k:Nat) (A0_0:Option Addr) (c0_0:Nat) (l0_0:List Int) (A0_1:Option Addr) (c0_1:Nat) (l0_1:List (S45)) (r:Bool) (w:World) (hr0_0:Kd.C (Kd.int .u8) w A0_0 l0_0.length l0_0) (hc0_0:l0_0.length ≤ c0_0) (hr0_1:Kd.C k45 w A0_1 l0_1.length l0_1) (hc0_1:l0_1.length ≤ c0_1) (h:wageofficeref42_Valid.f k l0_0 l0_1=some r) :
 Calls Try.prog 31 #[.agg #[.slice A0_0 l0_0.length c0_0,.slice A0_1 l0_1.length c0_1]] w fun e w'=>e=.returned (.bool r)∧Below w.heap.size w w':=by
 have hu25:=Try.underlying25
 have HR0_0:=Aside0.mk hr0_0
 have HC0_0:=Aside0.mk hc0_0
 clear hr0_0 hc0_0
 have HR0_1:=Aside0.mk hr0_1
 have HC0_1:=Aside0.mk hc0_1
 clear hr0_1 hc0_1
 have HB:=Aside0.mk (Below.refl w.heap.size w)
 have H:(if (l0_0.length:Int) > 65536 then (wageofficeref42_Valid.j0 k true l0_0 l0_1) else (wageofficeref42_Valid.j0 k (decide ((l0_1.length:Int) > 64)) l0_0 l0_1))=some r:=h
 clear h
 have HC2:=Aside0.mk H
 clear H
 go_enter Try.func31,Try.ntmps31
 go_upto_region 1 with (first|((with_reducible refine gate_dst (N:=1) rfl ?_);(try (refine gate_guard (by rfl) ?_;dsimp only));refine box_event ?hg (N:=1) ?hd (cs:=#[.slice A0_0 l0_0.length c0_0,.slice A0_1 l0_1.length c0_1]) (t:=25) ?hr ?_;(case hd=>rfl);(case hg=>rfl);(case hr=>first|(go_simp;done)|(go_simp;rfl));intro gb140 hg w3 hbox hb;have n0_:=Aside0.mk (below_step (by repeat (first|(with_reducible first|exact HB.out|apply below_alloc|apply pw_below_drewN|apply below_drew1)|exact HB.out)) hb);have n1_:=Aside0.mk (hbox);have n2_:=Aside0.mk ((by rw [hg];exact (below_size (by repeat (first|(with_reducible first|exact HB.out|apply below_alloc|apply pw_below_drewN|apply below_drew1)|exact HB.out))):w.heap.size ≤ gb140));have n3_:=Aside0.mk ((by rw [hg];exact (below_size (by repeat (first|(with_reducible first|exact HB.out|apply below_alloc|apply pw_below_drewN|apply below_drew1)|exact HB.out))):w.heap.size ≤ gb140));clear HB;have HB:=n0_;have BK140:=n1_;have GW140:=n2_;have GE140:=n3_;clear n0_ n1_ n2_ n3_;clear hb hbox hg))
 repeat (go_quiet (first|((with_reducible refine gate_dst (N:=1) rfl ?_);(try (refine gate_guard (by rfl) ?_;dsimp only));refine box_event ?hg (N:=1) ?hd (cs:=#[.slice A0_0 l0_0.length c0_0,.slice A0_1 l0_1.length c0_1]) (t:=25) ?hr ?_;(case hd=>rfl);(case hg=>rfl);(case hr=>first|(go_simp;done)|(go_simp;rfl));intro gb140 hg w3 hbox hb;have n0_:=Aside0.mk (below_step (by repeat (first|(with_reducible first|exact HB.out|apply below_alloc|apply pw_below_drewN|apply below_drew1)|exact HB.out)) hb);have n1_:=Aside0.mk (hbox);have n2_:=Aside0.mk ((by rw [hg];exact (below_size (by repeat (first|(with_reducible first|exact HB.out|apply below_alloc|apply pw_below_drewN|apply below_drew1)|exact HB.out))):w.heap.size ≤ gb140));have n3_:=Aside0.mk ((by rw [hg];exact (below_size (by repeat (first|(with_reducible first|exact HB.out|apply below_alloc|apply pw_below_drewN|apply below_drew1)|exact HB.out))):w.heap.size ≤ gb140));clear HB;have HB:=n0_;have BK140:=n1_;have GW140:=n2_;have GE140:=n3_;clear n0_ n1_ n2_ n3_;clear hb hbox hg));go_upto_region 1 with (first|((with_reducible refine gate_dst (N:=1) rfl ?_);(try (refine gate_guard (by rfl) ?_;dsimp only));refine box_event ?hg (N:=1) ?hd (cs:=#[.slice A0_0 l0_0.length c0_0,.slice A0_1 l0_1.length c0_1]) (t:=25) ?hr ?_;(case hd=>rfl);(case hg=>rfl);(case hr=>first|(go_simp;done)|(go_simp;rfl));intro gb140 hg w3 hbox hb;have n0_:=Aside0.mk (below_step (by repeat (first|(with_reducible first|exact HB.out|apply below_alloc|apply pw_below_drewN|apply below_drew1)|exact HB.out)) hb);have n1_:=Aside0.mk (hbox);have n2_:=Aside0.mk ((by rw [hg];exact (below_size (by repeat (first|(with_reducible first|exact HB.out|apply below_alloc|apply pw_below_drewN|apply below_drew1)|exact HB.out))):w.heap.size ≤ gb140));have n3_:=Aside0.mk ((by rw [hg];exact (below_size (by repeat (first|(with_reducible first|exact HB.out|apply below_alloc|apply pw_below_drewN|apply below_drew1)|exact HB.out))):w.heap.size ≤ gb140));clear HB;have HB:=n0_;have BK140:=n1_;have GW140:=n2_;have GE140:=n3_;clear n0_ n1_ n2_ n3_;clear hb hbox hg)))
 (try simp only [Act.put,List.setIfInBounds_toArray,List.set_cons_zero,List.set_cons_succ])
 go_cut [13] (fun v13 wc=>∃ (kq:Nat) (x13_1:Bool),v13=.bool x13_1∧Aside0 (wageofficeref42_Valid.j0 kq x13_1 l0_0 l0_1=some r)∧Aside0 (kq ≤ k)∧Aside0 (wc.heap[gb140]? = some (.cells #[(.slice A0_0 l0_0.length c0_0),(.slice A0_1 l0_1.length c0_1)] 25 (0,0)))∧Aside0 (Below w.heap.size w wc))
 case first =>
  have H:=HC2.out
  clear HC2
  by_cases c4:(l0_0.length:Int) > 65536
  · rw [if_pos c4] at H
    have c4b0:decide (65536 < (l0_0.length:Int))=true:=decide_eq_true c4
    have c4b1:decide (65536 < l0_0.length)=true:=decide_eq_true (by omega)
    clear c4
    (first|rw [c4b0]|(simp only [i64_w,i32_w];rw [c4b0])|skip)
    have H':=Aside0.mk H
    clear H
    have hcz5_0:w3.cell? ⟨gb140,0,none⟩=some (.slice A0_0 l0_0.length c0_0):=(blk_cell BK140.out 0).trans rfl
    have hcz5_1:w3.cell? ⟨gb140,1,none⟩=some (.slice A0_1 l0_1.length c0_1):=(blk_cell BK140.out 1).trans rfl
    have hfz5_0:=blk_frozen BK140.out 0
    have hfz5_1:=blk_frozen BK140.out 1
    go_wp2
    repeat (go_quiet (fail);try go_wp2)
    go_meet
    case rel=>exact ⟨_,(true),(by first|rfl|(simp;done)|(simp [*];done)),H',⟨by first|omega|exact Nat.le_refl _⟩,⟨by (with_reducible repeat (first|refine blk_drewN ?_ _|refine blk_drew ?_|refine blk_alloc ?_ _));exact BK140.out⟩,⟨by repeat (first|(with_reducible first|exact HB.out|apply below_alloc|apply pw_below_drewN|apply below_drew1|refine below_set ?_ GE140.out)|exact HB.out)⟩⟩
  · rw [if_neg c4] at H
    have c4b0:decide (65536 < (l0_0.length:Int))=false:=decide_eq_false c4
    have c4b1:decide (65536 < l0_0.length)=false:=decide_eq_false (by omega)
    clear c4
    (first|rw [c4b0]|(simp only [i64_w,i32_w];rw [c4b0])|skip)
    have H':=Aside0.mk H
    clear H
    have hcz6_0:w3.cell? ⟨gb140,0,none⟩=some (.slice A0_0 l0_0.length c0_0):=(blk_cell BK140.out 0).trans rfl
    have hcz6_1:w3.cell? ⟨gb140,1,none⟩=some (.slice A0_1 l0_1.length c0_1):=(blk_cell BK140.out 1).trans rfl
    have hfz6_0:=blk_frozen BK140.out 0
    have hfz6_1:=blk_frozen BK140.out 1
    go_wp2
    repeat (go_quiet (fail);try go_wp2)
    go_meet
    case rel=>exact ⟨_,(decide ((l0_1.length:Int) > 64)),(by first|rfl|(simp;done)|(simp [*];done)),H',⟨by first|omega|exact Nat.le_refl _⟩,⟨by (with_reducible repeat (first|refine blk_drewN ?_ _|refine blk_drew ?_|refine blk_alloc ?_ _));exact BK140.out⟩,⟨by repeat (first|(with_reducible first|exact HB.out|apply below_alloc|apply pw_below_drewN|apply below_drew1|refine below_set ?_ GE140.out)|exact HB.out)⟩⟩
 case rest =>
  clear HC2
  try clear p2
  try clear c3
  try clear c4
  try clear c4b0
  try clear c4b1
  try clear hcz5_0
  try clear hcz5_1
  try clear hcz6_0
  try clear hcz6_1
  try clear hfz5_0
  try clear hfz5_1
  try clear hfz6_0
  try clear hfz6_1
  obtain ⟨kq,x13_1,rfl,HA,HJ1,BK140,HB⟩:=hcut
  cases kq with
  | zero=>exact absurd HA.out (by simp [wageofficeref42_Valid.j0])
  | succ kj1 =>
   have H:=HA.out
   clear HA
   simp only [wageofficeref42_Valid.j0] at H
   by_cases c7:x13_1=true
   · subst c7
     have H1:(some false)=some r:=by rw [if_pos rfl] at H;exact H
     clear H
     have H:=H1
     clear H1
     obtain rfl:=Option.some.inj H
     go_wp2
     repeat (go_quiet (fail);try go_wp2)
     go_ret
     exact ⟨by first|rfl|(simp [errW_none,errW_some] <;> rfl)|(simp [*,errW_none,errW_some] <;> rfl),by repeat (first|(with_reducible first|exact HB.out|apply below_alloc|apply pw_below_drewN|apply below_drew1|refine below_set ?_ GE140.out)|exact HB.out)⟩
   · replace c7:=Bool.eq_false_iff.mpr c7
     subst c7
     have H1:(wageofficeref42_Valid.l0 kj1 0 l0_0 l0_1)=some r:=by rw [if_neg (show ¬ (false=true) by decide)] at H;exact H
     clear H
     have H:=H1
     clear H1
     have H':=Aside0.mk H
     clear H
     go_wp2
     repeat (go_quiet (fail);try go_wp2)
     go_loopg [3] kj1 (fun kq v3 w'=>∃ (x3_2:Int),v3=.int .i64 x3_2∧Aside0 (wageofficeref42_Valid.l0 kq x3_2 l0_0 l0_1=some r)∧Aside0 (kq ≤ kj1)∧Aside0 (w'.heap[gb140]? = some (.cells #[(.slice A0_0 l0_0.length c0_0),(.slice A0_1 l0_1.length c0_1)] 25 (0,0)))∧Aside0 (Below w.heap.size w w'))
     case atStart=>exact ⟨(0),(by first|rfl|(simp;done)|(simp [*];done)),H',⟨Nat.le_refl _⟩,⟨by (with_reducible repeat (first|refine blk_drewN ?_ _|refine blk_drew ?_|refine blk_alloc ?_ _));exact BK140.out⟩,⟨by repeat (first|(with_reducible first|exact HB.out|apply below_alloc|apply pw_below_drewN|apply below_drew1|refine below_set ?_ GE140.out)|exact HB.out)⟩⟩
     case round =>
      clear H'
      try clear p2
      try clear c3
      try clear c4
      try clear c4b0
      try clear c4b1
      try clear c7
      try clear hcz5_0
      try clear hcz5_1
      try clear hcz6_0
      try clear hcz6_1
      try clear hfz5_0
      try clear hfz5_1
      try clear hfz6_0
      try clear hfz6_1
      try clear p2
      obtain ⟨x3_2,rfl,HA,HK2,BK140,HB⟩:=hrel
      cases gk with
      | zero=>exact absurd HA.out (by simp [wageofficeref42_Valid.l0])
      | succ k2 =>
       have H:=HA.out
       clear HA
       simp only [wageofficeref42_Valid.l0] at H
       by_cases c8:x3_2 < (l0_1.length:Int)
       · rw [if_pos c8] at H
         have c8b0:decide (x3_2 < (l0_1.length:Int))=true:=decide_eq_true c8
         clear c8
         by_cases c9:0 ≤ x3_2
         · rw [if_pos c9] at H
           have c9b0:decide (0 ≤ x3_2)=true:=decide_eq_true c9
           clear c9
           by_cases c10:((rd_T45 l0_1 x3_2).f0) < 0
           · rw [if_pos c10] at H
             have c10b0:decide (((rd_T45 l0_1 x3_2).f0) < 0)=true:=decide_eq_true c10
             clear c10
             obtain rfl:=Option.some.inj H
             have hcz11_0:wr.cell? ⟨gb140,0,none⟩=some (.slice A0_0 l0_0.length c0_0):=(blk_cell BK140.out 0).trans rfl
             have hcz11_1:wr.cell? ⟨gb140,1,none⟩=some (.slice A0_1 l0_1.length c0_1):=(blk_cell BK140.out 1).trans rfl
             have hfz11_0:=blk_frozen BK140.out 0
             have hfz11_1:=blk_frozen BK140.out 1
             have p141:0 ≤ (x3_2:Int):=of_decide_eq_true (by first|(with_reducible assumption)|assumption)
             have q141:x3_2 < (l0_1.length:Int):=of_decide_eq_true (by first|(with_reducible assumption)|assumption)
             obtain ⟨ad141,A141_1,c141_1,e141,hx141_0,hx141_1,hl141_1,hi141_1⟩:=at_T45 HR0_1.out x3_2 p141 q141
             cases e141
             replace hx141_0:=(HB.out.cell (World.block_lt_of_cell? w _ hx141_0)).trans hx141_0
             replace hx141_1:=(HB.out.cell (World.block_lt_of_cell? w _ hx141_1)).trans hx141_1
             have HR141_1:=Aside0.mk hi141_1
             have HC141_1:=Aside0.mk hl141_1
             clear hi141_1 hl141_1
             replace p141:=eq_true p141
             replace q141:=eq_true q141
             go_wp2
             repeat (go_quiet (fail);try go_wp2)
             go_ret
             exact ⟨by first|rfl|(simp [errW_none,errW_some] <;> rfl)|(simp [*,errW_none,errW_some] <;> rfl),by repeat (first|(with_reducible first|exact HB.out|apply below_alloc|apply pw_below_drewN|apply below_drew1|refine below_set ?_ GE140.out)|exact HB.out)⟩
           · rw [if_neg c10] at H
             have c10b0:decide (((rd_T45 l0_1 x3_2).f0) < 0)=false:=decide_eq_false c10
             clear c10
             by_cases c12:((rd_T45 l0_1 x3_2).f0) > (wrap64 ((l0_0.length:Int) - (((rd_T45 l0_1 x3_2).f1).length:Int)))
             · rw [if_pos c12] at H
               have c12b0:decide ((wrap64 ((l0_0.length:Int) - (((rd_T45 l0_1 x3_2).f1).length:Int))) < ((rd_T45 l0_1 x3_2).f0))=true:=decide_eq_true c12
               clear c12
               obtain rfl:=Option.some.inj H
               have hcz13_0:wr.cell? ⟨gb140,0,none⟩=some (.slice A0_0 l0_0.length c0_0):=(blk_cell BK140.out 0).trans rfl
               have hcz13_1:wr.cell? ⟨gb140,1,none⟩=some (.slice A0_1 l0_1.length c0_1):=(blk_cell BK140.out 1).trans rfl
               have hfz13_0:=blk_frozen BK140.out 0
               have hfz13_1:=blk_frozen BK140.out 1
               have p141:0 ≤ (x3_2:Int):=of_decide_eq_true (by first|(with_reducible assumption)|assumption)
               have q141:x3_2 < (l0_1.length:Int):=of_decide_eq_true (by first|(with_reducible assumption)|assumption)
               obtain ⟨ad141,A141_1,c141_1,e141,hx141_0,hx141_1,hl141_1,hi141_1⟩:=at_T45 HR0_1.out x3_2 p141 q141
               cases e141
               replace hx141_0:=(HB.out.cell (World.block_lt_of_cell? w _ hx141_0)).trans hx141_0
               replace hx141_1:=(HB.out.cell (World.block_lt_of_cell? w _ hx141_1)).trans hx141_1
               have HR141_1:=Aside0.mk hi141_1
               have HC141_1:=Aside0.mk hl141_1
               clear hi141_1 hl141_1
               replace p141:=eq_true p141
               replace q141:=eq_true q141
               have p142:0 ≤ (x3_2:Int):=of_decide_eq_true (by first|(with_reducible assumption)|assumption)
               have q142:x3_2 < (l0_1.length:Int):=of_decide_eq_true (by first|(with_reducible assumption)|assumption)
               obtain ⟨ad142,A142_1,c142_1,e142,hx142_0,hx142_1,hl142_1,hi142_1⟩:=at_T45 HR0_1.out x3_2 p142 q142
               obtain rfl:ad141=ad142:=(by injection e142)
               replace hx142_0:=(HB.out.cell (World.block_lt_of_cell? w _ hx142_0)).trans hx142_0
               replace hx142_1:=(HB.out.cell (World.block_lt_of_cell? w _ hx142_1)).trans hx142_1
               have HR142_1:=Aside0.mk hi142_1
               have HC142_1:=Aside0.mk hl142_1
               clear hi142_1 hl142_1
               replace p142:=eq_true p142
               replace q142:=eq_true q142
               have ea_:=Option.some.inj (hx141_1.symm.trans hx142_1)
               injection ea_ with ea_ en_ ec_
               subst ea_
               subst ec_
               clear en_
               have p143:0 ≤ (x3_2:Int):=of_decide_eq_true (by first|(with_reducible assumption)|assumption)
               have q143:x3_2 < (l0_1.length:Int):=of_decide_eq_true (by first|(with_reducible assumption)|assumption)
               obtain ⟨ad143,A143_1,c143_1,e143,hx143_0,hx143_1,hl143_1,hi143_1⟩:=at_T45 HR0_1.out x3_2 p143 q143
               obtain rfl:ad141=ad143:=(by injection e143)
               replace hx143_0:=(HB.out.cell (World.block_lt_of_cell? w _ hx143_0)).trans hx143_0
               replace hx143_1:=(HB.out.cell (World.block_lt_of_cell? w _ hx143_1)).trans hx143_1
               have HR143_1:=Aside0.mk hi143_1
               have HC143_1:=Aside0.mk hl143_1
               clear hi143_1 hl143_1
               replace p143:=eq_true p143
               replace q143:=eq_true q143
               have ea_:=Option.some.inj (hx141_1.symm.trans hx143_1)
               injection ea_ with ea_ en_ ec_
               subst ea_
               subst ec_
               clear en_
               go_wp2
               repeat (go_quiet (fail);try go_wp2)
               go_ret
               exact ⟨by first|rfl|(simp [errW_none,errW_some] <;> rfl)|(simp [*,errW_none,errW_some] <;> rfl),by repeat (first|(with_reducible first|exact HB.out|apply below_alloc|apply pw_below_drewN|apply below_drew1|refine below_set ?_ GE140.out)|exact HB.out)⟩
             · rw [if_neg c12] at H
               have c12b0:decide ((wrap64 ((l0_0.length:Int) - (((rd_T45 l0_1 x3_2).f1).length:Int))) < ((rd_T45 l0_1 x3_2).f0))=false:=decide_eq_false c12
               clear c12
               have H':=Aside0.mk H
               clear H
               have hcz14_0:wr.cell? ⟨gb140,0,none⟩=some (.slice A0_0 l0_0.length c0_0):=(blk_cell BK140.out 0).trans rfl
               have hcz14_1:wr.cell? ⟨gb140,1,none⟩=some (.slice A0_1 l0_1.length c0_1):=(blk_cell BK140.out 1).trans rfl
               have hfz14_0:=blk_frozen BK140.out 0
               have hfz14_1:=blk_frozen BK140.out 1
               have p141:0 ≤ (x3_2:Int):=of_decide_eq_true (by first|(with_reducible assumption)|assumption)
               have q141:x3_2 < (l0_1.length:Int):=of_decide_eq_true (by first|(with_reducible assumption)|assumption)
               obtain ⟨ad141,A141_1,c141_1,e141,hx141_0,hx141_1,hl141_1,hi141_1⟩:=at_T45 HR0_1.out x3_2 p141 q141
               cases e141
               replace hx141_0:=(HB.out.cell (World.block_lt_of_cell? w _ hx141_0)).trans hx141_0
               replace hx141_1:=(HB.out.cell (World.block_lt_of_cell? w _ hx141_1)).trans hx141_1
               have HR141_1:=Aside0.mk hi141_1
               have HC141_1:=Aside0.mk hl141_1
               clear hi141_1 hl141_1
               replace p141:=eq_true p141
               replace q141:=eq_true q141
               have p142:0 ≤ (x3_2:Int):=of_decide_eq_true (by first|(with_reducible assumption)|assumption)
               have q142:x3_2 < (l0_1.length:Int):=of_decide_eq_true (by first|(with_reducible assumption)|assumption)
               obtain ⟨ad142,A142_1,c142_1,e142,hx142_0,hx142_1,hl142_1,hi142_1⟩:=at_T45 HR0_1.out x3_2 p142 q142
               obtain rfl:ad141=ad142:=(by injection e142)
               replace hx142_0:=(HB.out.cell (World.block_lt_of_cell? w _ hx142_0)).trans hx142_0
               replace hx142_1:=(HB.out.cell (World.block_lt_of_cell? w _ hx142_1)).trans hx142_1
               have HR142_1:=Aside0.mk hi142_1
               have HC142_1:=Aside0.mk hl142_1
               clear hi142_1 hl142_1
               replace p142:=eq_true p142
               replace q142:=eq_true q142
               have ea_:=Option.some.inj (hx141_1.symm.trans hx142_1)
               injection ea_ with ea_ en_ ec_
               subst ea_
               subst ec_
               clear en_
               have p143:0 ≤ (x3_2:Int):=of_decide_eq_true (by first|(with_reducible assumption)|assumption)
               have q143:x3_2 < (l0_1.length:Int):=of_decide_eq_true (by first|(with_reducible assumption)|assumption)
               obtain ⟨ad143,A143_1,c143_1,e143,hx143_0,hx143_1,hl143_1,hi143_1⟩:=at_T45 HR0_1.out x3_2 p143 q143
               obtain rfl:ad141=ad143:=(by injection e143)
               replace hx143_0:=(HB.out.cell (World.block_lt_of_cell? w _ hx143_0)).trans hx143_0
               replace hx143_1:=(HB.out.cell (World.block_lt_of_cell? w _ hx143_1)).trans hx143_1
               have HR143_1:=Aside0.mk hi143_1
               have HC143_1:=Aside0.mk hl143_1
               clear hi143_1 hl143_1
               replace p143:=eq_true p143
               replace q143:=eq_true q143
               have ea_:=Option.some.inj (hx141_1.symm.trans hx143_1)
               injection ea_ with ea_ en_ ec_
               subst ea_
               subst ec_
               clear en_
               go_wp2
               repeat (go_quiet (fail);try go_wp2)
               go_roundg k2
               case measure=>have:=HJ1.out;have:=HK2.out;omega
               case rel=>exact ⟨(wrap64 (x3_2 + 1)),(by first|rfl|(simp;done)|(simp [*];done)),H',⟨by have:=HJ1.out;have:=HK2.out;omega⟩,⟨by (with_reducible repeat (first|refine blk_drewN ?_ _|refine blk_drew ?_|refine blk_alloc ?_ _));exact BK140.out⟩,⟨by repeat (first|(with_reducible first|exact HB.out|apply below_alloc|apply pw_below_drewN|apply below_drew1|refine below_set ?_ GE140.out)|exact HB.out)⟩⟩
         · rw [if_neg c9] at H
           exact absurd H (by simp)
       · rw [if_neg c8] at H
         have c8b0:decide (x3_2 < (l0_1.length:Int))=false:=decide_eq_false c8
         clear c8
         obtain rfl:=Option.some.inj H
         have hcz15_0:wr.cell? ⟨gb140,0,none⟩=some (.slice A0_0 l0_0.length c0_0):=(blk_cell BK140.out 0).trans rfl
         have hcz15_1:wr.cell? ⟨gb140,1,none⟩=some (.slice A0_1 l0_1.length c0_1):=(blk_cell BK140.out 1).trans rfl
         have hfz15_0:=blk_frozen BK140.out 0
         have hfz15_1:=blk_frozen BK140.out 1
         go_wp2
         repeat (go_quiet (fail);try go_wp2)
         go_ret
         exact ⟨by first|rfl|(simp [errW_none,errW_some] <;> rfl)|(simp [*,errW_none,errW_some] <;> rfl),by repeat (first|(with_reducible first|exact HB.out|apply below_alloc|apply pw_below_drewN|apply below_drew1|refine below_set ?_ GE140.out)|exact HB.out)⟩
def wageofficeref42_Copy.l0:Nat→List Int→List Int→Int→Option (List Int)
 | 0,_,_,_=>none
 | k + 1,x0,x3,x4=>if x4 < (x0.length:Int) then (if 0 ≤ x4 then (if x3.length < 140737488355328 then (wageofficeref42_Copy.l0 k x0 (x3 ++ [rd x0 x4]) (wrap64 (x4 + 1))) else (none)) else (none)) else (some x3)
def wageofficeref42_Copy.f (k:Nat) (l0:List Int):Option (List Int):=wageofficeref42_Copy.l0 k l0 ([]:List Int) 0
set_option maxHeartbeats 8000000 in
set_option maxRecDepth 100000 in
theorem wageofficeref42_Copy.calls (k:Nat) (A0:Option Addr) (c0:Nat) (l0:List Int) (r:List Int) (w:World) (hr0:Kd.C (Kd.int .u8) w A0 l0.length l0) (hc0:l0.length ≤ c0) (h:wageofficeref42_Copy.f k l0=some r) :
 Calls Try.prog 46 #[.slice A0 l0.length c0] w fun e w'=>∃ v0_:Value,e=.returned (v0_)∧Kd.R (Kd.int .u8) 5 w' w.heap.size (fun _=>True) v0_ r∧Below w.heap.size w w':=by
 have HR0:=Aside0.mk hr0
 have HC0:=Aside0.mk hc0
 clear hr0 hc0
 have HB:=Aside0.mk (Below.refl w.heap.size w)
 have H:(wageofficeref42_Copy.l0 k l0 ([]:List Int) 0)=some r:=h
 clear h
 have H':=Aside0.mk H
 clear H
 go_enter Try.func46,Try.ntmps46
 go_wp2
 go_loopg [3,4] k (fun kq v3 v4 w'=>∃ (x3_1:List Int) (x4_1:Int),v4=.int .i64 x4_1∧Aside0 (wageofficeref42_Copy.l0 kq l0 x3_1 x4_1=some r)∧Aside0 (kq ≤ k)∧Aside0 (Kd.R (Kd.int .u8) 5 w' w.heap.size (fun _=>True) v3 x3_1)∧Aside0 (Below w.heap.size w w'))
 case atStart=>exact ⟨(([]:List Int)),(0),(by first|rfl|(simp;done)|(simp [*];done)),H',⟨Nat.le_refl _⟩,⟨by first|exact Kd.R_nil _ _ _ _ _|exact Kd.N_nil _ _ _ _ _|exact Kd.V_nil _ _ _ _ _|exact Kd.Q_nil _ _ _ _ _|exact Kd.S_nil _ _ _ _ _⟩,⟨by repeat (first|(with_reducible first|exact HB.out|apply below_alloc|apply pw_below_drewN|apply below_drew1)|exact HB.out)⟩⟩
 case round =>
  clear H'
  obtain ⟨x3_1,x4_1,rfl,HA,HK1,HO_3,HB⟩:=hrel
  cases gk with
  | zero=>exact absurd HA.out (by simp [wageofficeref42_Copy.l0])
  | succ k1 =>
   have H:=HA.out
   clear HA
   simp only [wageofficeref42_Copy.l0] at H
   by_cases c2:x4_1 < (l0.length:Int)
   · rw [if_pos c2] at H
     have c2b0:decide (x4_1 < (l0.length:Int))=true:=decide_eq_true c2
     clear c2
     by_cases c3:0 ≤ x4_1
     · rw [if_pos c3] at H
       have c3b0:decide (0 ≤ x4_1)=true:=decide_eq_true c3
       clear c3
       by_cases c4:x3_1.length < 140737488355328
       · rw [if_pos c4] at H
         have LMc4:=Aside0.mk c4
         clear c4
         obtain ⟨y145,hy145⟩:∃ y_:List Int,y_=(x3_1 ++ [rd l0 x4_1]):=⟨_,rfl⟩
         replace H:(wageofficeref42_Copy.l0 k1 l0 y145 (wrap64 (x4_1 + 1)))=some r:=by first|(rw [hy145];with_reducible exact H)|(have H2_:=(Option.bind_some _ _).symm.trans H;rw [hy145];with_reducible exact H2_)|(have H2_:=(Option.bind_some _ _).symm.trans H;with_reducible exact H2_)|with_reducible exact H|(rw [hy145];exact H)|exact H
         have Ny145:=Aside0.mk hy145
         clear hy145
         have H':=Aside0.mk H
         clear H
         have p144:0 ≤ (x4_1:Int):=of_decide_eq_true (by first|(with_reducible assumption)|assumption)
         have q144:x4_1 < (l0.length:Int):=of_decide_eq_true (by first|(with_reducible assumption)|assumption)
         obtain ⟨ad144,e144,hx144_0⟩:=Kd.at_int HR0.out x4_1 p144 q144
         cases e144
         replace hx144_0:=(HB.out.cell (World.block_lt_of_cell? w _ hx144_0)).trans hx144_0
         replace p144:=eq_true p144
         replace q144:=eq_true q144
         go_wp2_with (first|((with_reducible refine gate_builtin (b:=.append) (xs:=#[.tmp 11,.tmp 16]) rfl ?_);at_builtin;refine Kd.R_append (Kd.int .u8) (w0:=w) w.heap.size rfl (.tmp 11) (.tmp 16) 22 5 (.int .u8 0) 1 rfl Try.underlying22 info5 rfl (by decide) (by omega) u3 x3_1 (rd l0 x4_1) [.int .u8 (rd l0 x4_1)] (fun _=>True) (fun _=>False) rfl rfl ?aP (fun _ hk=>hk.elim) ?aF ?aO ?aB ?aS ?aL ?_;(case aP=>exact rfl);(case aB=>exact (by repeat (first|(with_reducible first|exact HB.out|apply below_alloc|apply pw_below_drewN|apply below_drew1)|exact HB.out)));(case aF=>exact (fun _ _=>trivial));(case aO=>exact (by (with_reducible repeat (first|apply Kd.R_alloc|apply Kd.R_drewN|apply Kd.R_drew));exact HO_3.out));(case aS=>exact (below_size (by repeat (first|(with_reducible first|exact HB.out|apply below_alloc|apply pw_below_drewN|apply below_drew1)|exact HB.out))));(case aL=>have:=LMc4.out;omega);intro v146 w5 ho hb hg hat;rw [← Ny145.out] at ho;have n0_:=Aside0.mk (hb);have n1_:=Aside0.mk (ho);clear HB;clear HO_3;have HB:=n0_;have HO147:=n1_;clear n0_ n1_;clear ho hb hg hat))
         go_roundg k1
         case measure=>have:=HK1.out;omega
         case rel=>exact ⟨(y145),(wrap64 (x4_1 + 1)),(by first|rfl|(simp;done)|(simp [*];done)),H',⟨by have:=HK1.out;omega⟩,⟨by (with_reducible repeat (first|apply Kd.R_alloc|apply Kd.R_drewN|apply Kd.R_drew));exact HO147.out⟩,⟨by repeat (first|(with_reducible first|exact HB.out|apply below_alloc|apply pw_below_drewN|apply below_drew1)|exact HB.out)⟩⟩
       · rw [if_neg c4] at H
         exact absurd H (by simp)
     · rw [if_neg c3] at H
       exact absurd H (by simp)
   · rw [if_neg c2] at H
     have c2b0:decide (x4_1 < (l0.length:Int))=false:=decide_eq_false c2
     clear c2
     obtain rfl:=Option.some.inj H
     go_wp2
     go_ret
     exact ⟨_,by first|rfl|(simp [errW_none,errW_some] <;> rfl)|(simp [*,errW_none,errW_some] <;> rfl),by (with_reducible repeat (first|apply Kd.R_alloc|apply Kd.R_drewN|apply Kd.R_drew));exact HO_3.out,by repeat (first|(with_reducible first|exact HB.out|apply below_alloc|apply pw_below_drewN|apply below_drew1)|exact HB.out)⟩
end Go.Proofs.Ytfpdmlhknddffaa.Dk
end
section
namespace Go.Proofs.Ytfpdmlhknddffaa.Dk
open Go.RowKit Go.Proofs.YtfpdmlhknddffaaW.PrintWords Go.Proofs.YtfpdmlhknddffaaW.PrintLast Go.Proofs.YtfpdmlhknddffaaW.PrintMore
attribute [local go_sem] max2_int min2_int max_two min_two max_three min_three max_four min_four
set_option linter.unusedVariables false
set_option linter.unusedSimpArgs false
end Go.Proofs.Ytfpdmlhknddffaa.Dk
end
section
namespace Go.Proofs.Ytfpdmlhknddffaa.Dk
open Go.RowKit Go.Proofs.YtfpdmlhknddffaaW.PrintWords Go.Proofs.YtfpdmlhknddffaaW.PrintLast Go.Proofs.YtfpdmlhknddffaaW.PrintMore
attribute [local go_sem] max2_int min2_int max_two min_two max_three min_three max_four min_four
set_option linter.unusedVariables false
set_option linter.unusedSimpArgs false
mutual
def wageofficeref42_Crash.l0:Nat→List Int→Int→List Int→List (S45)→List Int→Option (List Int × (List (S45)))
 | 0,_,_,_,_,_=>none
 | k + 1,x1,x6,x170000,x170001,x176000=>if x6 < (x170001.length:Int) then (wageofficeref42_Crash.j1 k x1 x6 (decide (x6 < (x1.length:Int))) x170000 x170001 x176000) else (wageofficeref42_Crash.j1 k x1 x6 false x170000 x170001 x176000)
def wageofficeref42_Crash.j1:Nat→List Int→Int→Bool→List Int→List (S45)→List Int→Option (List Int × (List (S45)))
 | 0,_,_,_,_,_,_=>none
 | k + 1,x1,x6,x27,x170000,x170001,x176000=>if x27=true then (if 0 ≤ x6 then (if x6 < (x170001.length:Int) then (wageofficeref42_Crash.l1 k x1 x6 0 x170000 x170001 x176000 ((rd_T45 x170001 x6).f0) ((rd_T45 x170001 x6).f1)) else (none)) else (none)) else (some (x176000,([]:List (S45))))
def wageofficeref42_Crash.l1:Nat→List Int→Int→Int→List Int→List (S45)→List Int→Int→List Int→Option (List Int × (List (S45)))
 | 0,_,_,_,_,_,_,_,_=>none
 | k + 1,x1,x6,x8,x170000,x170001,x176000,x178000,x178001=>if x8 < (x178001.length:Int) then (if 0 ≤ x6 then (if x6 < (x1.length:Int) then (if x8 < (rd x1 x6) then (if 0 ≤ x8 then (if 0 ≤ (wrap64 (x178000 + x8)) then (if (wrap64 (x178000 + x8)) < (x176000.length:Int) then (wageofficeref42_Crash.l1 k x1 x6 (wrap64 (x8 + 1)) x170000 x170001 (x176000.set ((wrap64 (x178000 + x8)):Int).toNat (rd x178001 x8)) x178000 x178001) else (none)) else (none)) else (none)) else (wageofficeref42_Crash.l0 k x1 (wrap64 (x6 + 1)) x170000 x170001 x176000)) else (none)) else (none)) else (wageofficeref42_Crash.l0 k x1 (wrap64 (x6 + 1)) x170000 x170001 x176000)
end
def wageofficeref42_Crash.f (k:Nat) (l0_0:List Int) (l0_1:List (S45)) (l1:List Int):Option (List Int × (List (S45))):=(wageofficeref42_Valid.f k l0_0 l0_1).bind fun t171=>(if t171=true then ((wageofficeref42_Copy.f k l0_0).bind fun t172=>(wageofficeref42_Crash.l0 k l1 0 l0_0 l0_1 t172)) else (some (([]:List Int),([]:List (S45)))))
def wageofficeref42_Crash.T11:Bool × List (List Nat × List Nat):=(true,[([],[]),([0],[0]),([],[]),([2],[2]),([],[]),([3,4],[3,4]),([],[]),([6],[6]),([],[]),([7,8],[7,8]),([9],[9]),([1,5,0,1,2,3,4,5,6,7,8,9,10],[1,5]),([11,10,0,1,2,3,4,5,6,7,8,9,10],[10,11])])
def wageofficeref42_Crash.B11:List Nat:=[0,1,0,4,0,28,0,64,0,448,960,2047,4095]
theorem wageofficeref42_Crash.tab11:rtab .any (opsOf Try.f29 11)=wageofficeref42_Crash.T11:=by kernel_rfl
theorem wageofficeref42_Crash.bits11:waitsOk wageofficeref42_Crash.T11.2 wageofficeref42_Crash.B11=true:=by kernel_rfl
set_option maxHeartbeats 8000000 in
set_option maxRecDepth 100000 in
theorem wageofficeref42_Crash.calls (k:Nat) (A0_0:Option Addr) (c0_0:Nat) (l0_0:List Int) (A0_1:Option Addr) (c0_1:Nat) (l0_1:List (S45)) (A1:Option Addr) (c1:Nat) (l1:List Int) (r1:List Int) (r2:List (S45)) (w:World) (hr0_0:Kd.C (Kd.int .u8) w A0_0 l0_0.length l0_0) (hc0_0:l0_0.length ≤ c0_0) (hr0_1:Kd.C k45 w A0_1 l0_1.length l0_1) (hc0_1:l0_1.length ≤ c0_1) (hr1:Kd.C (Kd.int .i64) w A1 l1.length l1) (hc1:l1.length ≤ c1) (h:wageofficeref42_Crash.f k l0_0 l0_1 l1=some (r1,r2)) :
 Calls Try.prog 29 #[.agg #[.slice A0_0 l0_0.length c0_0,.slice A0_1 l0_1.length c0_1],.slice A1 l1.length c1] w fun e w'=>∃ v0_ v1_:Value,e=.returned (.agg #[v0_,v1_])∧Kd.R (Kd.int .u8) 5 w' w.heap.size (fun _=>True) v0_ r1∧Kd.S k45 45 w' w.heap.size (fun k_=>some k_ ≠ (v0_:Value).ownBlock) v1_ r2∧Below w.heap.size w w':=by
 have hu25:=Try.underlying25
 have hu45:=Try.underlying45
 have HR0_0:=Aside0.mk hr0_0
 have HC0_0:=Aside0.mk hc0_0
 clear hr0_0 hc0_0
 have HR0_1:=Aside0.mk hr0_1
 have HC0_1:=Aside0.mk hc0_1
 clear hr0_1 hc0_1
 have HR1:=Aside0.mk hr1
 have HC1:=Aside0.mk hc1
 clear hr1 hc1
 have HB:=Aside0.mk (Below.refl w.heap.size w)
 have H:((wageofficeref42_Valid.f k l0_0 l0_1).bind fun t171=>(if t171=true then ((wageofficeref42_Copy.f k l0_0).bind fun t172=>(wageofficeref42_Crash.l0 k l1 0 l0_0 l0_1 t172)) else (some (([]:List Int),([]:List (S45))))))=some (r1,r2):=h
 clear h
 replace H:=Option.bind_eq_some_iff.mp H
 obtain ⟨t171,A30,H⟩:=H
 replace H:(if t171=true then ((wageofficeref42_Copy.f k l0_0).bind fun t172=>(wageofficeref42_Crash.l0 k l1 0 l0_0 l0_1 t172)) else (some (([]:List Int),([]:List (S45)))))=some (r1,r2):=H
 have A3:=Aside0.mk A30
 clear A30
 by_cases c4:t171=true
 · subst c4
   have H1:((wageofficeref42_Copy.f k l0_0).bind fun t172=>(wageofficeref42_Crash.l0 k l1 0 l0_0 l0_1 t172))=some (r1,r2):=by rw [if_pos rfl] at H;exact H
   clear H
   have H:=H1
   clear H1
   replace H:=Option.bind_eq_some_iff.mp H
   obtain ⟨t172,A50,H⟩:=H
   replace H:(wageofficeref42_Crash.l0 k l1 0 l0_0 l0_1 t172)=some (r1,r2):=H
   have A5:=Aside0.mk A50
   clear A50
   have H':=Aside0.mk H
   clear H
   go_enter Try.func29,Try.ntmps29
   go_wp2_with (first|((with_reducible refine gate_dst (N:=2) rfl ?_);(try (refine gate_guard (by rfl) ?_;dsimp only));refine box_event ?hg (N:=2) ?hd (cs:=#[.slice A0_0 l0_0.length c0_0,.slice A0_1 l0_1.length c0_1]) (t:=25) ?hr ?_;(case hd=>rfl);(case hg=>rfl);(case hr=>first|(go_simp;done)|(go_simp;rfl));intro gb169 hg w6 hbox hb;have n0_:=Aside0.mk (below_step (by repeat (first|(with_reducible first|exact HB.out|apply below_alloc|apply pw_below_drewN|apply below_drew1)|exact HB.out)) hb);have n1_:=Aside0.mk (hbox);have n2_:=Aside0.mk ((by rw [hg];exact (below_size (by repeat (first|(with_reducible first|exact HB.out|apply below_alloc|apply pw_below_drewN|apply below_drew1)|exact HB.out))):w.heap.size ≤ gb169));have n3_:=Aside0.mk ((by rw [hg];exact (below_size (by repeat (first|(with_reducible first|exact HB.out|apply below_alloc|apply pw_below_drewN|apply below_drew1)|exact HB.out))):w.heap.size ≤ gb169));clear HB;have HB:=n0_;have BK169:=n1_;have GW169:=n2_;have GE169:=n3_;clear n0_ n1_ n2_ n3_;clear hb hbox hg)|((with_reducible refine gate_dst (N:=4) rfl ?_);(try (refine gate_guard (by rfl) ?_;dsimp only));refine box_event ?hg (N:=4) ?hd (cs:=#[.slice none 0 0,.slice none 0 0]) (t:=25) ?hr ?_;(case hd=>rfl);(case hg=>rfl);(case hr=>first|(go_simp;done)|(go_simp;rfl));intro gb170 hg w7 hbox hb;have n0_:=Aside0.mk (blk_below (g:=gb169) (o:=.cells #[.slice A0_0 l0_0.length c0_0,.slice A0_1 l0_1.length c0_1] 25 (0,0)) (by (with_reducible repeat (first|refine blk_drewN ?_ _|refine blk_drew ?_|refine blk_alloc ?_ _));exact BK169.out) hb);have n1_:=Aside0.mk (below_step (by repeat (first|(with_reducible first|exact HB.out|apply below_alloc|apply pw_below_drewN|apply below_drew1|refine below_set ?_ GE169.out)|exact HB.out)) hb);have n2_:=Aside0.mk (hbox);have n3_:=Aside0.mk ((by rw [hg];exact (below_size (by repeat (first|(with_reducible first|exact HB.out|apply below_alloc|apply pw_below_drewN|apply below_drew1|refine below_set ?_ GE169.out)|exact HB.out))):w.heap.size ≤ gb170));have n4_:=Aside0.mk ((by rw [hg];exact (below_size (by repeat (first|(with_reducible first|exact HB.out|apply below_alloc|apply pw_below_drewN|apply below_drew1|refine below_set ?_ GE169.out)|exact HB.out))):w.heap.size ≤ gb170));have n5_:=Aside0.mk ((by rw [hg];exact Nat.ne_of_lt (blk_lt (g:=gb169) (o:=.cells #[.slice A0_0 l0_0.length c0_0,.slice A0_1 l0_1.length c0_1] 25 (0,0)) (by (with_reducible repeat (first|refine blk_drewN ?_ _|refine blk_drew ?_|refine blk_alloc ?_ _));exact BK169.out)):gb169 ≠ gb170));have n6_:=Aside0.mk ((by rw [hg];exact Nat.ne_of_gt (blk_lt (g:=gb169) (o:=.cells #[.slice A0_0 l0_0.length c0_0,.slice A0_1 l0_1.length c0_1] 25 (0,0)) (by (with_reducible repeat (first|refine blk_drewN ?_ _|refine blk_drew ?_|refine blk_alloc ?_ _));exact BK169.out)):gb170 ≠ gb169));clear BK169;clear HB;have BK169:=n0_;have HB:=n1_;have BK170:=n2_;have GW170:=n3_;have GE170:=n4_;have NB169_170:=n5_;have NB170_169:=n6_;clear n0_ n1_ n2_ n3_ n4_ n5_ n6_;clear hb hbox hg;have hnb8:=NB169_170.out;have hnc8:=NB170_169.out;have hcz9_0:w7.cell? ⟨gb169,0,none⟩=some (.slice A0_0 l0_0.length c0_0):=(blk_cell BK169.out 0).trans rfl;have hcz9_1:w7.cell? ⟨gb169,1,none⟩=some (.slice A0_1 l0_1.length c0_1):=(blk_cell BK169.out 1).trans rfl;have hfz9_0:=blk_frozen BK169.out 0;have hfz9_1:=blk_frozen BK169.out 1)|((with_reducible refine gate_callee (f:=31) rfl ?_);refine goesL_ (some 10) rfl rfl Try.func31 (by kernel_rfl) rfl #[.agg #[.slice A0_0 l0_0.length c0_0,.slice A0_1 l0_1.length c0_1]] rfl (by (try simp only [List.map_toArray,List.map_cons,List.map_nil]);first|done|rfl|(simp only [List.length_drop,List.length_take];rfl)) ?_;(with_reducible refine (wageofficeref42_Valid.calls k _ _ l0_0 _ _ l0_1 true _ ?side1 ?side2 ?side3 ?side4 A3.out).mono ?_);(case side1=>repeat (first|exact (Kd.C_below HR0_0.out HB.out)|(with_reducible refine Kd.C_alloc ?_ _)|(with_reducible refine Kd.C_drewN ?_ _)|(with_reducible refine Kd.C_drew ?_)));(case side2=>exact HC0_0.out);(case side3=>repeat (first|exact (Kd.C_below HR0_1.out HB.out)|(with_reducible refine Kd.C_alloc ?_ _)|(with_reducible refine Kd.C_drewN ?_ _)|(with_reducible refine Kd.C_drew ?_)));(case side4=>exact HC0_1.out);rintro e w10 ⟨rfl,hb⟩;refine ⟨_,rfl,?_⟩;have n0_:=Aside0.mk (blk_below (g:=gb169) (o:=.cells #[.slice A0_0 l0_0.length c0_0,.slice A0_1 l0_1.length c0_1] 25 (0,0)) (by (with_reducible repeat (first|refine blk_drewN ?_ _|refine blk_drew ?_|refine blk_alloc ?_ _));exact BK169.out) hb);have n1_:=Aside0.mk (blk_below (g:=gb170) (o:=.cells #[.slice none 0 0,.slice none 0 0] 25 (0,0)) (by (with_reducible repeat (first|refine blk_drewN ?_ _|refine blk_drew ?_|refine blk_alloc ?_ _));exact BK170.out) hb);have n2_:=Aside0.mk (below_step (by repeat (first|(with_reducible first|exact HB.out|apply below_alloc|apply pw_below_drewN|apply below_drew1|refine below_set ?_ GE169.out|refine below_set ?_ GE170.out)|exact HB.out)) hb);clear BK169;clear BK170;clear HB;have BK169:=n0_;have BK170:=n1_;have HB:=n2_;clear n0_ n1_ n2_;(try clear hb);(try clear hb2);(try clear hk);(try clear hi);have hcz11_0:w10.cell? ⟨gb169,0,none⟩=some (.slice A0_0 l0_0.length c0_0):=(blk_cell BK169.out 0).trans rfl;have hcz11_1:w10.cell? ⟨gb169,1,none⟩=some (.slice A0_1 l0_1.length c0_1):=(blk_cell BK169.out 1).trans rfl;have hfz11_0:=blk_frozen BK169.out 0;have hfz11_1:=blk_frozen BK169.out 1)|((with_reducible refine gate_callee (f:=46) rfl ?_);refine goesL_ (some 15) rfl rfl Try.func46 (by kernel_rfl) rfl #[.slice A0_0 l0_0.length c0_0] rfl (by (try simp only [List.map_toArray,List.map_cons,List.map_nil]);first|done|rfl|(simp only [List.length_drop,List.length_take];rfl)) ?_;(with_reducible refine (wageofficeref42_Copy.calls k _ _ l0_0 t172 _ ?side1 ?side2 A5.out).mono ?_);(case side1=>repeat (first|exact (Kd.C_below HR0_0.out HB.out)|(with_reducible refine Kd.C_alloc ?_ _)|(with_reducible refine Kd.C_drewN ?_ _)|(with_reducible refine Kd.C_drew ?_)));(case side2=>exact HC0_0.out);rintro e w12 ⟨v173,rfl,ho0,hb⟩;refine ⟨_,rfl,?_⟩;have n0_:=Aside0.mk (Kd.R_lower ho0 (below_size (by repeat (first|(with_reducible first|exact HB.out|apply below_alloc|apply pw_below_drewN|apply below_drew1|refine below_set ?_ GE169.out|refine below_set ?_ GE170.out)|exact HB.out))));have n1_:=Aside0.mk (blk_below (g:=gb169) (o:=.cells #[.slice A0_0 l0_0.length c0_0,.slice A0_1 l0_1.length c0_1] 25 (0,0)) (by (with_reducible repeat (first|refine blk_drewN ?_ _|refine blk_drew ?_|refine blk_alloc ?_ _));exact BK169.out) hb);have n2_:=Aside0.mk (blk_below (g:=gb170) (o:=.cells #[.slice none 0 0,.slice none 0 0] 25 (0,0)) (by (with_reducible repeat (first|refine blk_drewN ?_ _|refine blk_drew ?_|refine blk_alloc ?_ _));exact BK170.out) hb);have n3_:=Aside0.mk (below_step (by repeat (first|(with_reducible first|exact HB.out|apply below_alloc|apply pw_below_drewN|apply below_drew1|refine below_set ?_ GE169.out|refine below_set ?_ GE170.out)|exact HB.out)) hb);clear BK169;clear BK170;clear HB;have HO174:=n0_;have BK169:=n1_;have BK170:=n2_;have HB:=n3_;clear n0_ n1_ n2_ n3_;(try clear hb);(try clear hb2);(try clear hk);(try clear hi);(try clear ho0);obtain ⟨Ao13,co13,eo13⟩:=Kd.R_slice HO174.out;subst eo13)|((with_reducible refine gate_dst (N:=5) rfl ?_);(try (refine gate_guard (by rfl) ?_;dsimp only));refine box_event ?hg (N:=5) ?hd (cs:=#[.slice none 0 0,.slice none 0 0]) (t:=25) ?hr ?_;(case hd=>rfl);(case hg=>rfl);(case hr=>first|(go_simp;done)|(go_simp;rfl));intro gb175 hg w14 hbox hb;have n0_:=Aside0.mk (Kd.R_below (by (with_reducible repeat (first|apply Kd.R_alloc|apply Kd.R_drewN|apply Kd.R_drew));exact HO174.out) hb);have n1_:=Aside0.mk (blk_below (g:=gb169) (o:=.cells #[.slice A0_0 l0_0.length c0_0,.slice A0_1 l0_1.length c0_1] 25 (0,0)) (by (with_reducible repeat (first|refine blk_drewN ?_ _|refine blk_drew ?_|refine blk_alloc ?_ _));exact BK169.out) hb);have n2_:=Aside0.mk (blk_below (g:=gb170) (o:=.cells #[.slice none 0 0,.slice none 0 0] 25 (0,0)) (by (with_reducible repeat (first|refine blk_drewN ?_ _|refine blk_drew ?_|refine blk_alloc ?_ _));exact BK170.out) hb);have n3_:=Aside0.mk (below_step (by repeat (first|(with_reducible first|exact HB.out|apply below_alloc|apply pw_below_drewN|apply below_drew1|refine below_set ?_ GE169.out|refine below_set ?_ GE170.out)|exact HB.out)) hb);have n4_:=Aside0.mk (hbox);have n5_:=Aside0.mk ((by rw [hg];exact (below_size (by repeat (first|(with_reducible first|exact HB.out|apply below_alloc|apply pw_below_drewN|apply below_drew1|refine below_set ?_ GE169.out|refine below_set ?_ GE170.out)|exact HB.out))):w.heap.size ≤ gb175));have n6_:=Aside0.mk ((by rw [hg];exact (below_size (by repeat (first|(with_reducible first|exact HB.out|apply below_alloc|apply pw_below_drewN|apply below_drew1|refine below_set ?_ GE169.out|refine below_set ?_ GE170.out)|exact HB.out))):w.heap.size ≤ gb175));have n7_:=Aside0.mk ((by rw [hg];exact Nat.ne_of_lt (blk_lt (g:=gb169) (o:=.cells #[.slice A0_0 l0_0.length c0_0,.slice A0_1 l0_1.length c0_1] 25 (0,0)) (by (with_reducible repeat (first|refine blk_drewN ?_ _|refine blk_drew ?_|refine blk_alloc ?_ _));exact BK169.out)):gb169 ≠ gb175));have n8_:=Aside0.mk ((by rw [hg];exact Nat.ne_of_gt (blk_lt (g:=gb169) (o:=.cells #[.slice A0_0 l0_0.length c0_0,.slice A0_1 l0_1.length c0_1] 25 (0,0)) (by (with_reducible repeat (first|refine blk_drewN ?_ _|refine blk_drew ?_|refine blk_alloc ?_ _));exact BK169.out)):gb175 ≠ gb169));have n9_:=Aside0.mk ((by rw [hg];exact Nat.ne_of_lt (blk_lt (g:=gb170) (o:=.cells #[.slice none 0 0,.slice none 0 0] 25 (0,0)) (by (with_reducible repeat (first|refine blk_drewN ?_ _|refine blk_drew ?_|refine blk_alloc ?_ _));exact BK170.out)):gb170 ≠ gb175));have n10_:=Aside0.mk ((by rw [hg];exact Nat.ne_of_gt (blk_lt (g:=gb170) (o:=.cells #[.slice none 0 0,.slice none 0 0] 25 (0,0)) (by (with_reducible repeat (first|refine blk_drewN ?_ _|refine blk_drew ?_|refine blk_alloc ?_ _));exact BK170.out)):gb175 ≠ gb170));clear HO174;clear BK169;clear BK170;clear HB;have HO174:=n0_;have BK169:=n1_;have BK170:=n2_;have HB:=n3_;have BK175:=n4_;have GW175:=n5_;have GE175:=n6_;have NB169_175:=n7_;have NB175_169:=n8_;have NB170_175:=n9_;have NB175_170:=n10_;clear n0_ n1_ n2_ n3_ n4_ n5_ n6_ n7_ n8_ n9_ n10_;clear hb hbox hg;have hnb15:=NB175_169.out;have hnc15:=NB169_175.out;have hnb16:=NB175_170.out;have hnc16:=NB170_175.out;have hcz17_0:w14.cell? ⟨gb175,0,none⟩=some (.slice none 0 0):=(blk_cell BK175.out 0).trans rfl;have hcz17_1:w14.cell? ⟨gb175,1,none⟩=some (.slice none 0 0):=(blk_cell BK175.out 1).trans rfl;have hfz17_0:=blk_frozen BK175.out 0;have hfz17_1:=blk_frozen BK175.out 1))
   go_loopg [6] k (fun kq v6 w'=>∃ (x6_1:Int) (x176000_1:List Int) (u176000:Value),v6=.int .i64 x6_1∧Aside0 (wageofficeref42_Crash.l0 kq l1 x6_1 l0_0 l0_1 x176000_1=some (r1,r2))∧Aside0 (kq ≤ k)∧Aside0 (Kd.R (Kd.int .u8) 5 w' w.heap.size (fun _=>True) u176000 x176000_1)∧Aside0 (w'.heap[gb169]? = some (.cells #[(.slice A0_0 l0_0.length c0_0),(.slice A0_1 l0_1.length c0_1)] 25 (0,0)))∧Aside0 (w'.heap[gb170]? = some (.cells #[(.slice none 0 0),(.slice none 0 0)] 25 (0,0)))∧Aside0 (w'.heap[gb175]? = some (.cells #[u176000,(.slice none 0 0)] 25 (0,0)))∧Aside0 (Below w.heap.size w w'))
   case atStart=>exact ⟨(0),(t172),(.slice Ao13 t172.length co13),(by first|rfl|(simp;done)|(simp [*];done)),H',⟨Nat.le_refl _⟩,⟨by (with_reducible repeat (first|apply Kd.R_alloc|apply Kd.R_drewN|apply Kd.R_drew));exact Kd.R_mono (Kd.R_far (p:=⟨gb175,1,none⟩) (Kd.R_far (p:=⟨gb175,0,none⟩) (Kd.R_types HO174.out BK175.out (by decide)) (fun _ hk=>hk.2) (.slice Ao13 t172.length co13)) (fun _ hk=>hk.2) (.slice none 0 0)) (fun _ hk=>trivial)⟩,⟨by (with_reducible repeat (first|refine blk_drewN ?_ _|refine blk_drew ?_|refine blk_alloc ?_ _));refine blk_far ?_ NB169_175.out _;(with_reducible repeat (first|refine blk_drewN ?_ _|refine blk_drew ?_|refine blk_alloc ?_ _));refine blk_far ?_ NB169_175.out _;(with_reducible repeat (first|refine blk_drewN ?_ _|refine blk_drew ?_|refine blk_alloc ?_ _));exact BK169.out⟩,⟨by (with_reducible repeat (first|refine blk_drewN ?_ _|refine blk_drew ?_|refine blk_alloc ?_ _));refine blk_far ?_ NB170_175.out _;(with_reducible repeat (first|refine blk_drewN ?_ _|refine blk_drew ?_|refine blk_alloc ?_ _));refine blk_far ?_ NB170_175.out _;(with_reducible repeat (first|refine blk_drewN ?_ _|refine blk_drew ?_|refine blk_alloc ?_ _));exact BK170.out⟩,⟨by (with_reducible repeat (first|refine blk_drewN ?_ _|refine blk_drew ?_|refine blk_alloc ?_ _));refine blk_put (cs:=#[.slice Ao13 t172.length co13,.slice none 0 0]) ?_ 1 _ rfl;(with_reducible repeat (first|refine blk_drewN ?_ _|refine blk_drew ?_|refine blk_alloc ?_ _));refine blk_put (cs:=#[.slice none 0 0,.slice none 0 0]) ?_ 0 _ rfl;(with_reducible repeat (first|refine blk_drewN ?_ _|refine blk_drew ?_|refine blk_alloc ?_ _));exact BK175.out⟩,⟨by repeat (first|(with_reducible first|exact HB.out|apply below_alloc|apply pw_below_drewN|apply below_drew1|refine below_set ?_ GE169.out|refine below_set ?_ GE170.out|refine below_set ?_ GE175.out)|exact HB.out)⟩⟩
   case round =>
    clear H'
    try clear c1
    try clear c2
    try clear p2
    try clear c3
    try clear c4
    try clear c8
    try clear c15
    try clear c16
    try clear hcz11_0
    try clear hcz11_1
    try clear hcz17_0
    try clear hcz17_1
    try clear hcz9_0
    try clear hcz9_1
    try clear hfz11_0
    try clear hfz11_1
    try clear hfz17_0
    try clear hfz17_1
    try clear hfz9_0
    try clear hfz9_1
    obtain ⟨x6_1,x176000_1,u176000,rfl,HA,HK1,HO_176000,BK169,BK170,BK175,HB⟩:=hrel
    cases gk with
    | zero=>exact absurd HA.out (by simp [wageofficeref42_Crash.l0])
    | succ k1 =>
     have H:=HA.out
     clear HA
     simp only [wageofficeref42_Crash.l0] at H
     have HC18:=Aside0.mk H
     clear H
     go_upto_region 5 with (fail)
     go_cut [27] (fun v27 wc=>∃ (kq:Nat) (x27_17:Bool),v27=.bool x27_17∧Aside0 (wageofficeref42_Crash.j1 kq l1 x6_1 x27_17 l0_0 l0_1 x176000_1=some (r1,r2))∧Aside0 (kq ≤ k1)∧Aside0 (Kd.R (Kd.int .u8) 5 wc w.heap.size (fun _=>True) u176000 x176000_1)∧Aside0 (wc.heap[gb169]? = some (.cells #[(.slice A0_0 l0_0.length c0_0),(.slice A0_1 l0_1.length c0_1)] 25 (0,0)))∧Aside0 (wc.heap[gb170]? = some (.cells #[(.slice none 0 0),(.slice none 0 0)] 25 (0,0)))∧Aside0 (wc.heap[gb175]? = some (.cells #[u176000,(.slice none 0 0)] 25 (0,0)))∧Aside0 (Below w.heap.size w wc))
     case first =>
      have H:=HC18.out
      clear HC18
      by_cases c19:x6_1 < (l0_1.length:Int)
      · rw [if_pos c19] at H
        have c19b0:decide (x6_1 < (l0_1.length:Int))=true:=decide_eq_true c19
        clear c19
        (first|rw [c19b0]|(simp only [i64_w,i32_w];rw [c19b0])|skip)
        have H':=Aside0.mk H
        clear H
        have hnb20:=NB169_170.out
        have hnc20:=NB170_169.out
        have hnb21:=NB169_175.out
        have hnc21:=NB175_169.out
        have hcz22_0:wr.cell? ⟨gb169,0,none⟩=some (.slice A0_0 l0_0.length c0_0):=(blk_cell BK169.out 0).trans rfl
        have hcz22_1:wr.cell? ⟨gb169,1,none⟩=some (.slice A0_1 l0_1.length c0_1):=(blk_cell BK169.out 1).trans rfl
        have hfz22_0:=blk_frozen BK169.out 0
        have hfz22_1:=blk_frozen BK169.out 1
        go_wp2
        go_meet
        case rel=>exact ⟨_,(decide (x6_1 < (l1.length:Int))),(by first|rfl|(simp;done)|(simp [*];done)),H',⟨by have:=HK1.out;first|omega|exact Nat.le_refl _⟩,⟨by (with_reducible repeat (first|apply Kd.R_alloc|apply Kd.R_drewN|apply Kd.R_drew));exact HO_176000.out⟩,⟨by (with_reducible repeat (first|refine blk_drewN ?_ _|refine blk_drew ?_|refine blk_alloc ?_ _));exact BK169.out⟩,⟨by (with_reducible repeat (first|refine blk_drewN ?_ _|refine blk_drew ?_|refine blk_alloc ?_ _));exact BK170.out⟩,⟨by (with_reducible repeat (first|refine blk_drewN ?_ _|refine blk_drew ?_|refine blk_alloc ?_ _));exact BK175.out⟩,⟨by repeat (first|(with_reducible first|exact HB.out|apply below_alloc|apply pw_below_drewN|apply below_drew1|refine below_set ?_ GE169.out|refine below_set ?_ GE170.out|refine below_set ?_ GE175.out)|exact HB.out)⟩⟩
      · rw [if_neg c19] at H
        have c19b0:decide (x6_1 < (l0_1.length:Int))=false:=decide_eq_false c19
        clear c19
        (first|rw [c19b0]|(simp only [i64_w,i32_w];rw [c19b0])|skip)
        have H':=Aside0.mk H
        clear H
        have hnb23:=NB169_170.out
        have hnc23:=NB170_169.out
        have hnb24:=NB169_175.out
        have hnc24:=NB175_169.out
        have hcz25_0:wr.cell? ⟨gb169,0,none⟩=some (.slice A0_0 l0_0.length c0_0):=(blk_cell BK169.out 0).trans rfl
        have hcz25_1:wr.cell? ⟨gb169,1,none⟩=some (.slice A0_1 l0_1.length c0_1):=(blk_cell BK169.out 1).trans rfl
        have hfz25_0:=blk_frozen BK169.out 0
        have hfz25_1:=blk_frozen BK169.out 1
        go_wp2
        go_meet
        case rel=>exact ⟨_,(false),(by first|rfl|(simp;done)|(simp [*];done)),H',⟨by have:=HK1.out;first|omega|exact Nat.le_refl _⟩,⟨by (with_reducible repeat (first|apply Kd.R_alloc|apply Kd.R_drewN|apply Kd.R_drew));exact HO_176000.out⟩,⟨by (with_reducible repeat (first|refine blk_drewN ?_ _|refine blk_drew ?_|refine blk_alloc ?_ _));exact BK169.out⟩,⟨by (with_reducible repeat (first|refine blk_drewN ?_ _|refine blk_drew ?_|refine blk_alloc ?_ _));exact BK170.out⟩,⟨by (with_reducible repeat (first|refine blk_drewN ?_ _|refine blk_drew ?_|refine blk_alloc ?_ _));exact BK175.out⟩,⟨by repeat (first|(with_reducible first|exact HB.out|apply below_alloc|apply pw_below_drewN|apply below_drew1|refine below_set ?_ GE169.out|refine below_set ?_ GE170.out|refine below_set ?_ GE175.out)|exact HB.out)⟩⟩
     case rest =>
      clear HC18
      try clear c1
      try clear c2
      try clear p2
      try clear c3
      try clear c4
      try clear c8
      try clear c15
      try clear c16
      try clear c19
      try clear c19b0
      try clear c20
      try clear c21
      try clear c23
      try clear c24
      try clear hcz11_0
      try clear hcz11_1
      try clear hcz17_0
      try clear hcz17_1
      try clear hcz22_0
      try clear hcz22_1
      try clear hcz25_0
      try clear hcz25_1
      try clear hcz9_0
      try clear hcz9_1
      try clear hfz11_0
      try clear hfz11_1
      try clear hfz17_0
      try clear hfz17_1
      try clear hfz22_0
      try clear hfz22_1
      try clear hfz25_0
      try clear hfz25_1
      try clear hfz9_0
      try clear hfz9_1
      try clear p2
      obtain ⟨kq,x27_17,rfl,HA,HJ17,HO_176000,BK169,BK170,BK175,HB⟩:=hcut
      cases kq with
      | zero=>exact absurd HA.out (by simp [wageofficeref42_Crash.j1])
      | succ kj17 =>
       have H:=HA.out
       clear HA
       simp only [wageofficeref42_Crash.j1] at H
       by_cases c26:x27_17=true
       · subst c26
         have H1:(if 0 ≤ x6_1 then (if x6_1 < (l0_1.length:Int) then (wageofficeref42_Crash.l1 kj17 l1 x6_1 0 l0_0 l0_1 x176000_1 ((rd_T45 l0_1 x6_1).f0) ((rd_T45 l0_1 x6_1).f1)) else (none)) else (none))=some (r1,r2):=by rw [if_pos rfl] at H;exact H
         clear H
         have H:=H1
         clear H1
         by_cases c27:0 ≤ x6_1
         · rw [if_pos c27] at H
           have c27b0:decide (0 ≤ x6_1)=true:=decide_eq_true c27
           clear c27
           by_cases c28:x6_1 < (l0_1.length:Int)
           · rw [if_pos c28] at H
             have c28b0:decide (x6_1 < (l0_1.length:Int))=true:=decide_eq_true c28
             clear c28
             have H':=Aside0.mk H
             clear H
             have hnb29:=NB169_170.out
             have hnc29:=NB170_169.out
             have hnb30:=NB169_175.out
             have hnc30:=NB175_169.out
             have hcz31_0:wc.cell? ⟨gb169,0,none⟩=some (.slice A0_0 l0_0.length c0_0):=(blk_cell BK169.out 0).trans rfl
             have hcz31_1:wc.cell? ⟨gb169,1,none⟩=some (.slice A0_1 l0_1.length c0_1):=(blk_cell BK169.out 1).trans rfl
             have hfz31_0:=blk_frozen BK169.out 0
             have hfz31_1:=blk_frozen BK169.out 1
             have p176:0 ≤ (x6_1:Int):=of_decide_eq_true (by first|(with_reducible assumption)|assumption)
             have q176:x6_1 < (l0_1.length:Int):=of_decide_eq_true (by first|(with_reducible assumption)|assumption)
             obtain ⟨ad176,A176_1,c176_1,e176,hx176_0,hx176_1,hl176_1,hi176_1⟩:=at_T45 HR0_1.out x6_1 p176 q176
             cases e176
             replace hx176_0:=(HB.out.cell (World.block_lt_of_cell? w _ hx176_0)).trans hx176_0
             replace hx176_1:=(HB.out.cell (World.block_lt_of_cell? w _ hx176_1)).trans hx176_1
             have HR176_1:=Aside0.mk hi176_1
             have HC176_1:=Aside0.mk hl176_1
             clear hi176_1 hl176_1
             replace p176:=eq_true p176
             replace q176:=eq_true q176
             go_wp2_with (first|((with_reducible refine gate_dst (N:=7) rfl ?_);(try (refine gate_guard (by rfl) ?_;dsimp only));refine box_event ?hg (N:=7) ?hd (cs:=#[.int .i64 0,.slice none 0 0]) (t:=45) ?hr ?_;(case hd=>rfl);(case hg=>rfl);(case hr=>first|(go_simp;done)|(go_simp;rfl));intro gb177 hg w32 hbox hb;have n0_:=Aside0.mk (Kd.R_below (by (with_reducible repeat (first|apply Kd.R_alloc|apply Kd.R_drewN|apply Kd.R_drew));exact HO_176000.out) hb);have n1_:=Aside0.mk (blk_below (g:=gb169) (o:=.cells #[.slice A0_0 l0_0.length c0_0,.slice (some ad176) l0_1.length c0_1] 25 (0,0)) (by (with_reducible repeat (first|refine blk_drewN ?_ _|refine blk_drew ?_|refine blk_alloc ?_ _));exact BK169.out) hb);have n2_:=Aside0.mk (blk_below (g:=gb170) (o:=.cells #[.slice none 0 0,.slice none 0 0] 25 (0,0)) (by (with_reducible repeat (first|refine blk_drewN ?_ _|refine blk_drew ?_|refine blk_alloc ?_ _));exact BK170.out) hb);have n3_:=Aside0.mk (blk_below (g:=gb175) (o:=.cells #[u176000,.slice none 0 0] 25 (0,0)) (by (with_reducible repeat (first|refine blk_drewN ?_ _|refine blk_drew ?_|refine blk_alloc ?_ _));exact BK175.out) hb);have n4_:=Aside0.mk (below_step (by repeat (first|(with_reducible first|exact HB.out|apply below_alloc|apply pw_below_drewN|apply below_drew1|refine below_set ?_ GE169.out|refine below_set ?_ GE170.out|refine below_set ?_ GE175.out)|exact HB.out)) hb);have n5_:=Aside0.mk (hbox);have n6_:=Aside0.mk ((by rw [hg];exact (below_size (by repeat (first|(with_reducible first|exact HB.out|apply below_alloc|apply pw_below_drewN|apply below_drew1|refine below_set ?_ GE169.out|refine below_set ?_ GE170.out|refine below_set ?_ GE175.out)|exact HB.out))):w.heap.size ≤ gb177));have n7_:=Aside0.mk ((by rw [hg];exact (below_size (by repeat (first|(with_reducible first|exact HB.out|apply below_alloc|apply pw_below_drewN|apply below_drew1|refine below_set ?_ GE169.out|refine below_set ?_ GE170.out|refine below_set ?_ GE175.out)|exact HB.out))):w.heap.size ≤ gb177));have n8_:=Aside0.mk ((by rw [hg];exact Nat.ne_of_lt (blk_lt (g:=gb169) (o:=.cells #[.slice A0_0 l0_0.length c0_0,.slice (some ad176) l0_1.length c0_1] 25 (0,0)) (by (with_reducible repeat (first|refine blk_drewN ?_ _|refine blk_drew ?_|refine blk_alloc ?_ _));exact BK169.out)):gb169 ≠ gb177));have n9_:=Aside0.mk ((by rw [hg];exact Nat.ne_of_gt (blk_lt (g:=gb169) (o:=.cells #[.slice A0_0 l0_0.length c0_0,.slice (some ad176) l0_1.length c0_1] 25 (0,0)) (by (with_reducible repeat (first|refine blk_drewN ?_ _|refine blk_drew ?_|refine blk_alloc ?_ _));exact BK169.out)):gb177 ≠ gb169));have n10_:=Aside0.mk ((by rw [hg];exact Nat.ne_of_lt (blk_lt (g:=gb170) (o:=.cells #[.slice none 0 0,.slice none 0 0] 25 (0,0)) (by (with_reducible repeat (first|refine blk_drewN ?_ _|refine blk_drew ?_|refine blk_alloc ?_ _));exact BK170.out)):gb170 ≠ gb177));have n11_:=Aside0.mk ((by rw [hg];exact Nat.ne_of_gt (blk_lt (g:=gb170) (o:=.cells #[.slice none 0 0,.slice none 0 0] 25 (0,0)) (by (with_reducible repeat (first|refine blk_drewN ?_ _|refine blk_drew ?_|refine blk_alloc ?_ _));exact BK170.out)):gb177 ≠ gb170));have n12_:=Aside0.mk ((by rw [hg];exact Nat.ne_of_lt (blk_lt (g:=gb175) (o:=.cells #[u176000,.slice none 0 0] 25 (0,0)) (by (with_reducible repeat (first|refine blk_drewN ?_ _|refine blk_drew ?_|refine blk_alloc ?_ _));exact BK175.out)):gb175 ≠ gb177));have n13_:=Aside0.mk ((by rw [hg];exact Nat.ne_of_gt (blk_lt (g:=gb175) (o:=.cells #[u176000,.slice none 0 0] 25 (0,0)) (by (with_reducible repeat (first|refine blk_drewN ?_ _|refine blk_drew ?_|refine blk_alloc ?_ _));exact BK175.out)):gb177 ≠ gb175));clear HO_176000;clear BK169;clear BK170;clear BK175;clear HB;have HO_176000:=n0_;have BK169:=n1_;have BK170:=n2_;have BK175:=n3_;have HB:=n4_;have BK177:=n5_;have GW177:=n6_;have GE177:=n7_;have NB169_177:=n8_;have NB177_169:=n9_;have NB170_177:=n10_;have NB177_170:=n11_;have NB175_177:=n12_;have NB177_175:=n13_;clear n0_ n1_ n2_ n3_ n4_ n5_ n6_ n7_ n8_ n9_ n10_ n11_ n12_ n13_;clear hb hbox hg;have hnb33:=NB177_169.out;have hnc33:=NB169_177.out;have hnb34:=NB177_170.out;have hnc34:=NB170_177.out;have hnb35:=NB177_175.out;have hnc35:=NB175_177.out;have hcz36_0:w32.cell? ⟨gb177,0,none⟩=some (.int .i64 0):=(blk_cell BK177.out 0).trans rfl;have hcz36_1:w32.cell? ⟨gb177,1,none⟩=some (.slice none 0 0):=(blk_cell BK177.out 1).trans rfl;have hfz36_0:=blk_frozen BK177.out 0;have hfz36_1:=blk_frozen BK177.out 1))
             go_loopg [8] kj17 (fun kq v8 w'=>∃ (x8_3:Int) (x176000_3:List Int) (u176000:Value),v8=.int .i64 x8_3∧Aside0 (wageofficeref42_Crash.l1 kq l1 x6_1 x8_3 l0_0 l0_1 x176000_3 ((rd_T45 l0_1 x6_1).f0) ((rd_T45 l0_1 x6_1).f1)=some (r1,r2))∧Aside0 (kq ≤ kj17)∧Aside0 (Kd.R (Kd.int .u8) 5 w' w.heap.size (fun _=>True) u176000 x176000_3)∧Aside0 (w'.heap[gb169]? = some (.cells #[(.slice A0_0 l0_0.length c0_0),(.slice (some ad176) l0_1.length c0_1)] 25 (0,0)))∧Aside0 (w'.heap[gb170]? = some (.cells #[(.slice none 0 0),(.slice none 0 0)] 25 (0,0)))∧Aside0 (w'.heap[gb175]? = some (.cells #[u176000,(.slice none 0 0)] 25 (0,0)))∧Aside0 (w'.heap[gb177]? = some (.cells #[.int .i64 ((rd_T45 l0_1 x6_1).f0),(.slice A176_1 ((rd_T45 l0_1 x6_1).f1).length c176_1)] 45 (0,0)))∧Aside0 (Below w.heap.size w w'))
             case atStart=>exact ⟨(0),(x176000_1),(u176000),(by first|rfl|(simp;done)|(simp [*];done)),H',⟨Nat.le_refl _⟩,⟨by (with_reducible repeat (first|apply Kd.R_alloc|apply Kd.R_drewN|apply Kd.R_drew));exact Kd.R_mono (Kd.R_far (p:=⟨gb177,1,none⟩) (Kd.R_far (p:=⟨gb177,0,none⟩) (Kd.R_types HO_176000.out BK177.out (by decide)) (fun _ hk=>hk.2) (.int .i64 ((rd_T45 l0_1 x6_1).f0))) (fun _ hk=>hk.2) (.slice A176_1 ((rd_T45 l0_1 x6_1).f1).length c176_1)) (fun _ hk=>trivial)⟩,⟨by (with_reducible repeat (first|refine blk_drewN ?_ _|refine blk_drew ?_|refine blk_alloc ?_ _));refine blk_far ?_ NB169_177.out _;(with_reducible repeat (first|refine blk_drewN ?_ _|refine blk_drew ?_|refine blk_alloc ?_ _));refine blk_far ?_ NB169_177.out _;(with_reducible repeat (first|refine blk_drewN ?_ _|refine blk_drew ?_|refine blk_alloc ?_ _));exact BK169.out⟩,⟨by (with_reducible repeat (first|refine blk_drewN ?_ _|refine blk_drew ?_|refine blk_alloc ?_ _));refine blk_far ?_ NB170_177.out _;(with_reducible repeat (first|refine blk_drewN ?_ _|refine blk_drew ?_|refine blk_alloc ?_ _));refine blk_far ?_ NB170_177.out _;(with_reducible repeat (first|refine blk_drewN ?_ _|refine blk_drew ?_|refine blk_alloc ?_ _));exact BK170.out⟩,⟨by (with_reducible repeat (first|refine blk_drewN ?_ _|refine blk_drew ?_|refine blk_alloc ?_ _));refine blk_far ?_ NB175_177.out _;(with_reducible repeat (first|refine blk_drewN ?_ _|refine blk_drew ?_|refine blk_alloc ?_ _));refine blk_far ?_ NB175_177.out _;(with_reducible repeat (first|refine blk_drewN ?_ _|refine blk_drew ?_|refine blk_alloc ?_ _));exact BK175.out⟩,⟨by (with_reducible repeat (first|refine blk_drewN ?_ _|refine blk_drew ?_|refine blk_alloc ?_ _));refine blk_put (cs:=#[.int .i64 ((rd_T45 l0_1 x6_1).f0),.slice none 0 0]) ?_ 1 _ rfl;(with_reducible repeat (first|refine blk_drewN ?_ _|refine blk_drew ?_|refine blk_alloc ?_ _));refine blk_put (cs:=#[.int .i64 0,.slice none 0 0]) ?_ 0 _ rfl;(with_reducible repeat (first|refine blk_drewN ?_ _|refine blk_drew ?_|refine blk_alloc ?_ _));exact BK177.out⟩,⟨by repeat (first|(with_reducible first|exact HB.out|apply below_alloc|apply pw_below_drewN|apply below_drew1|refine below_set ?_ GE169.out|refine below_set ?_ GE170.out|refine below_set ?_ GE175.out|refine below_set ?_ GE177.out)|exact HB.out)⟩⟩
             case round =>
              clear H'
              try clear c1
              try clear p1
              try clear q1
              try clear hx1
              try clear c2
              try clear p2
              try clear c3
              try clear c4
              try clear c8
              try clear c15
              try clear c16
              try clear c17
              try clear p17
              try clear q17
              try clear hx17
              try clear c19
              try clear c19b0
              try clear c20
              try clear c21
              try clear c23
              try clear c24
              try clear c26
              try clear c27
              try clear c27b0
              try clear c28
              try clear c28b0
              try clear c29
              try clear c30
              try clear c31
              try clear c33
              try clear c34
              try clear c35
              try clear hcz11_0
              try clear hcz11_1
              try clear hcz17_0
              try clear hcz17_1
              try clear hcz22_0
              try clear hcz22_1
              try clear hcz25_0
              try clear hcz25_1
              try clear hcz31_0
              try clear hcz31_1
              try clear hcz36_0
              try clear hcz36_1
              try clear hcz9_0
              try clear hcz9_1
              try clear hfz11_0
              try clear hfz11_1
              try clear hfz17_0
              try clear hfz17_1
              try clear hfz22_0
              try clear hfz22_1
              try clear hfz25_0
              try clear hfz25_1
              try clear hfz31_0
              try clear hfz31_1
              try clear hfz36_0
              try clear hfz36_1
              try clear hfz9_0
              try clear hfz9_1
              try clear hx176_0
              try clear hx176_1
              try clear p176
              try clear p2
              try clear q176
              obtain ⟨x8_3,x176000_3,u176000,rfl,HA,HK3,HO_176000,BK169,BK170,BK175,BK177,HB⟩:=hrel
              cases gk with
              | zero=>exact absurd HA.out (by simp [wageofficeref42_Crash.l1])
              | succ k3 =>
               have H:=HA.out
               clear HA
               simp only [wageofficeref42_Crash.l1] at H
               by_cases c37:x8_3 < (((rd_T45 l0_1 x6_1).f1).length:Int)
               · rw [if_pos c37] at H
                 have c37b0:decide (x8_3 < (((rd_T45 l0_1 x6_1).f1).length:Int))=true:=decide_eq_true c37
                 clear c37
                 by_cases c38:0 ≤ x6_1
                 · rw [if_pos c38] at H
                   have c38b0:decide (0 ≤ x6_1)=true:=decide_eq_true c38
                   clear c38
                   by_cases c39:x6_1 < (l1.length:Int)
                   · rw [if_pos c39] at H
                     have c39b0:decide (x6_1 < (l1.length:Int))=true:=decide_eq_true c39
                     clear c39
                     by_cases c40:x8_3 < (rd l1 x6_1)
                     · rw [if_pos c40] at H
                       have c40b0:decide (x8_3 < (rd l1 x6_1))=true:=decide_eq_true c40
                       clear c40
                       by_cases c41:0 ≤ x8_3
                       · rw [if_pos c41] at H
                         have c41b0:decide (0 ≤ x8_3)=true:=decide_eq_true c41
                         clear c41
                         obtain ⟨ji42,hji42⟩:∃ j_:Int,(wrap64 (((rd_T45 l0_1 x6_1).f0) + x8_3))=j_:=⟨_,rfl⟩
                         replace H:(if 0 ≤ (ji42) then (if (ji42) < (x176000_3.length:Int) then (wageofficeref42_Crash.l1 k3 l1 x6_1 (wrap64 (x8_3 + 1)) l0_0 l0_1 (x176000_3.set ((ji42):Int).toNat (rd ((rd_T45 l0_1 x6_1).f1) x8_3)) ((rd_T45 l0_1 x6_1).f0) ((rd_T45 l0_1 x6_1).f1)) else (none)) else (none))=some (r1,r2):=by first|(rw [hji42] at H;exact H)|(simp only [hji42] at H ⊢;exact H)
                         have hji42w:(IntKind.i64.wrap (((rd_T45 l0_1 x6_1).f0) + x8_3))=ji42:=(i64_w _).trans hji42
                         by_cases c43:0 ≤ (ji42)
                         · rw [if_pos c43] at H
                           have c43b0:decide (0 ≤ (ji42))=true:=decide_eq_true c43
                           clear c43
                           by_cases c44:(ji42) < (x176000_3.length:Int)
                           · rw [if_pos c44] at H
                             have c44b0:decide ((ji42) < (x176000_3.length:Int))=true:=decide_eq_true c44
                             clear c44
                             obtain ⟨y180,hy180⟩:∃ y_:List Int,y_=(x176000_3.set ((ji42):Int).toNat (rd ((rd_T45 l0_1 x6_1).f1) x8_3)):=⟨_,rfl⟩
                             replace H:(wageofficeref42_Crash.l1 k3 l1 x6_1 (wrap64 (x8_3 + 1)) l0_0 l0_1 y180 ((rd_T45 l0_1 x6_1).f0) ((rd_T45 l0_1 x6_1).f1))=some (r1,r2):=by first|(rw [hy180];with_reducible exact H)|(have H2_:=(Option.bind_some _ _).symm.trans H;rw [hy180];with_reducible exact H2_)|(have H2_:=(Option.bind_some _ _).symm.trans H;with_reducible exact H2_)|with_reducible exact H|(rw [hy180];exact H)|exact H
                             have Ny180:=Aside0.mk hy180
                             clear hy180
                             have H':=Aside0.mk H
                             clear H
                             have hnb46:=NB177_169.out
                             have hnc46:=NB169_177.out
                             have hnb47:=NB177_170.out
                             have hnc47:=NB170_177.out
                             have hnb48:=NB177_175.out
                             have hnc48:=NB175_177.out
                             have hcz49_0:wr.cell? ⟨gb177,0,none⟩=some (.int .i64 ((rd_T45 l0_1 x6_1).f0)):=(blk_cell BK177.out 0).trans rfl
                             have hcz49_1:wr.cell? ⟨gb177,1,none⟩=some (.slice A176_1 ((rd_T45 l0_1 x6_1).f1).length c176_1):=(blk_cell BK177.out 1).trans rfl
                             have hfz49_0:=blk_frozen BK177.out 0
                             have hfz49_1:=blk_frozen BK177.out 1
                             have p178:0 ≤ (x6_1:Int):=of_decide_eq_true (by first|(with_reducible assumption)|assumption)
                             have q178:x6_1 < (l1.length:Int):=of_decide_eq_true (by first|(with_reducible assumption)|assumption)
                             obtain ⟨ad178,e178,hx178_0⟩:=Kd.at_int HR1.out x6_1 p178 q178
                             cases e178
                             replace hx178_0:=(HB.out.cell (World.block_lt_of_cell? w _ hx178_0)).trans hx178_0
                             replace p178:=eq_true p178
                             replace q178:=eq_true q178
                             try go_wp2
                             have n0_:=Aside0.mk (Kd.R_drew HO_176000.out)
                             have n1_:=Aside0.mk (blk_drew BK169.out)
                             have n2_:=Aside0.mk (blk_drew BK170.out)
                             have n3_:=Aside0.mk (blk_drew BK175.out)
                             have n4_:=Aside0.mk (blk_drew BK177.out)
                             have n5_:=Aside0.mk (below_drew1 HB.out)
                             clear HO_176000
                             clear BK169
                             clear BK170
                             clear BK175
                             clear BK177
                             clear HB
                             have HO_176000:=n0_
                             have BK169:=n1_
                             have BK170:=n2_
                             have BK175:=n3_
                             have BK177:=n4_
                             have HB:=n5_
                             clear n0_ n1_ n2_ n3_ n4_ n5_
                             have p179:0 ≤ (x8_3:Int):=of_decide_eq_true (by first|(with_reducible assumption)|assumption)
                             have q179:x8_3 < (((rd_T45 l0_1 x6_1).f1).length:Int):=of_decide_eq_true (by first|(with_reducible assumption)|assumption)
                             obtain ⟨ad179,e179,hx179_0⟩:=Kd.at_int HR176_1.out x8_3 p179 q179
                             have hw179_0:=hx179_0
                             cases e179
                             replace hx179_0:=(HB.out.cell (World.block_lt_of_cell? w _ hx179_0)).trans hx179_0
                             replace p179:=eq_true p179
                             replace q179:=eq_true q179
                             have p45:0 ≤ ((ji42):Int):=of_decide_eq_true (by first|(with_reducible assumption)|assumption)
                             have q45:((ji42):Int) < ((x176000_3.length:Int):Int):=of_decide_eq_true (by first|(with_reducible assumption)|assumption)
                             obtain ⟨go45,co45,eo45,gb45,gl45,cl45,HG45⟩:=Kd.R_form HO_176000.out (by omega)
                             (first|cases eo45|(injection eo45 with ea_ en_ ec_;(first|subst ea_|(injection ea_ with ea_;subst ea_));subst ec_;clear en_))
                             have GB45:=Aside0.mk gb45
                             have GG45:=Aside0.mk HG45
                             clear gb45 gl45 HG45
                             obtain ⟨hx45_0,hf45_0⟩:=Kd.R_celln 0 HO_176000.out ((ji42):Int) p45 q45
                             replace p45:=eq_true p45
                             replace q45:=eq_true q45
                             have HP51:=Kd.R_putn HO_176000.out ((ji42):Int) (rd ((rd_T45 l0_1 x6_1).f1) x8_3)
                             rw [← Ny180.out] at HP51
                             have HQ51:=Aside0.mk HP51
                             clear HP51
                             refine start_ (n:=13) (S:=fun w'=>w'.cell? ⟨gb175,0,none⟩=some (.slice (some ⟨go45,0,none⟩) x176000_3.length co45)∧w'.cell? ⟨gb175,1,none⟩=some (.slice none 0 0)∧w'.cell? ⟨gb177,0,none⟩=some (.int .i64 ((rd_T45 l0_1 x6_1).f0))∧w'.cell? ⟨gb177,1,none⟩=some (.slice (some ad179) ((rd_T45 l0_1 x6_1).f1).length c176_1)∧w'.cell? (ad179.add (x8_3).toNat)=some (.int .u8 (rd ((rd_T45 l0_1 x6_1).f1) x8_3))) (ds:=[12]) #[false,false,false,false,false,false,false,false,false,false,false,false,false] (by kernel_rfl) rfl rfl ⟨(blk_cell BK175.out 0).trans rfl,(blk_cell BK175.out 1).trans rfl,(blk_cell BK177.out 0).trans rfl,(blk_cell BK177.out 1).trans rfl,((HB.out.cell (World.block_lt_of_cell? w _ hw179_0)).trans hw179_0)⟩ (fun hHeld => ?_);refine with_tabW wageofficeref42_Crash.tab11 wageofficeref42_Crash.bits11 (fun HT_ HW_ => ?_)
                             generalize wr.drew=w50 at HO_176000 BK169 BK170 BK175 BK177 HB GG45 HQ51 hf45_0 hx179_0 hx45_0 hHeld ⊢
                             refine pure_ (i:=0) (N:=some 50) (v:=?_) (a':=?_) #[true,false,false,false,false,false,false,false,false,false,false,false,false] rfl rfl (any_of HT_.out (by kernel_rfl)) (fun _ _ _ h=>h) (Or.inl ⟨by rfl,?_⟩) ?_ ?_
                             rotate_left
                             · intro w'
                               go_simp
                               with_reducible rfl
                             rotate_left
                             · simp only [Act.put,List.setIfInBounds_toArray,List.set_cons_zero,List.set_cons_succ,i64_w,i32_w]
                               rfl
                             refine pure_ (i:=2) (N:=some 52) (v:=?_) (a':=?_) #[true,false,true,false,false,false,false,false,false,false,false,false,false] rfl rfl (any_of HT_.out (by kernel_rfl)) (fun _ _ _ h=>h) (Or.inl ⟨by rfl,?_⟩) ?_ ?_
                             rotate_left
                             · intro w'
                               go_simp
                               with_reducible rfl
                             rotate_left
                             · simp only [Act.put,List.setIfInBounds_toArray,List.set_cons_zero,List.set_cons_succ,i64_w,i32_w]
                               rfl
                             refine pure_ (i:=4) (N:=some 54) (v:=?_) (a':=?_) #[true,false,true,false,true,false,false,false,false,false,false,false,false] rfl rfl (any_of HT_.out (by kernel_rfl)) (fun _ _ _ h=>h) (Or.inl ⟨by rfl,?_⟩) ?_ ?_
                             rotate_left
                             · intro w'
                               go_simp
                               with_reducible rfl
                             rotate_left
                             · simp only [Act.put,List.setIfInBounds_toArray,List.set_cons_zero,List.set_cons_succ,i64_w,i32_w]
                               rfl
                             refine pure_ (i:=6) (N:=some 56) (v:=?_) (a':=?_) #[true,false,true,false,true,false,true,false,false,false,false,false,false] rfl rfl (any_of HT_.out (by kernel_rfl)) (fun _ _ _ h=>h) (Or.inl ⟨by rfl,?_⟩) ?_ ?_
                             rotate_left
                             · intro w'
                               go_simp
                               with_reducible rfl
                             rotate_left
                             · simp only [Act.put,List.setIfInBounds_toArray,List.set_cons_zero,List.set_cons_succ,i64_w,i32_w]
                               rfl
                             refine pure_ (i:=8) (N:=some 58) (v:=?_) (a':=?_) #[true,false,true,false,true,false,true,false,true,false,false,false,false] rfl rfl (any_of HT_.out (by kernel_rfl)) (fun _ _ _ h=>h) (Or.inl ⟨by rfl,?_⟩) ?_ ?_
                             rotate_left
                             · intro w'
                               go_simp
                               with_reducible rfl
                             rotate_left
                             · simp only [Act.put,List.setIfInBounds_toArray,List.set_cons_zero,List.set_cons_succ,i64_w,i32_w]
                               rfl
                             refine take_ (i:=1) (N:=some 51) (v:=?_) (a':=?_) #[true,true,true,false,true,false,true,false,true,false,false,false,false] rfl rfl (take_ofW HT_.out HW_.out (by kernel_rfl)) (fun _ _ _ h=>h) (Or.inl ⟨by rfl,?_⟩) hHeld ?_ ?_
                             rotate_left
                             · rintro w' ⟨s0,s1,s2,s3,s4⟩
                               go_simp
                               with_reducible rfl
                             rotate_left
                             · simp only [Act.put,List.setIfInBounds_toArray,List.set_cons_zero,List.set_cons_succ,i64_w,i32_w]
                               rfl
                             refine take_ (i:=3) (N:=some 53) (v:=?_) (a':=?_) #[true,true,true,true,true,false,true,false,true,false,false,false,false] rfl rfl (take_ofW HT_.out HW_.out (by kernel_rfl)) (fun _ _ _ h=>h) (Or.inl ⟨by rfl,?_⟩) hHeld ?_ ?_
                             rotate_left
                             · rintro w' ⟨s0,s1,s2,s3,s4⟩
                               go_simp
                               with_reducible rfl
                             rotate_left
                             · simp only [Act.put,List.setIfInBounds_toArray,List.set_cons_zero,List.set_cons_succ,i64_w,i32_w]
                               rfl
                             refine pure_ (i:=5) (N:=some 55) (v:=?_) (a':=?_) #[true,true,true,true,true,true,true,false,true,false,false,false,false] rfl rfl (any_of HT_.out (by kernel_rfl)) (fun _ _ _ h=>h) (Or.inl ⟨by rfl,?_⟩) ?_ ?_
                             rotate_left
                             · intro w'
                               go_simp
                               with_reducible rfl
                             rotate_left
                             · simp only [Act.put,List.setIfInBounds_toArray,List.set_cons_zero,List.set_cons_succ,i64_w,i32_w]
                               rfl
                             refine take_ (i:=7) (N:=some 57) (v:=?_) (a':=?_) #[true,true,true,true,true,true,true,true,true,false,false,false,false] rfl rfl (take_ofW HT_.out HW_.out (by kernel_rfl)) (fun _ _ _ h=>h) (Or.inl ⟨by rfl,?_⟩) hHeld ?_ ?_
                             rotate_left
                             · rintro w' ⟨s0,s1,s2,s3,s4⟩
                               go_simp
                               with_reducible rfl
                             rotate_left
                             · simp only [Act.put,List.setIfInBounds_toArray,List.set_cons_zero,List.set_cons_succ,i64_w,i32_w]
                               rfl
                             refine pure_ (i:=9) (N:=some 59) (v:=?_) (a':=?_) #[true,true,true,true,true,true,true,true,true,true,false,false,false] rfl rfl (any_of HT_.out (by kernel_rfl)) (fun _ _ _ h=>h) (Or.inl ⟨by rfl,?_⟩) ?_ ?_
                             rotate_left
                             · intro w'
                               go_simp
                               with_reducible rfl
                             rotate_left
                             · simp only [Act.put,List.setIfInBounds_toArray,List.set_cons_zero,List.set_cons_succ,i64_w,i32_w]
                               rfl
                             refine take_ (i:=10) (N:=some 60) (v:=?_) (a':=?_) #[true,true,true,true,true,true,true,true,true,true,true,false,false] rfl rfl (take_ofW HT_.out HW_.out (by kernel_rfl)) (fun _ _ _ h=>h) (Or.inl ⟨by rfl,?_⟩) hHeld ?_ ?_
                             rotate_left
                             · rintro w' ⟨s0,s1,s2,s3,s4⟩
                               go_simp
                               with_reducible rfl
                             rotate_left
                             · simp only [Act.put,List.setIfInBounds_toArray,List.set_cons_zero,List.set_cons_succ,i64_w,i32_w]
                               rfl
                             refine pure_ (i:=11) (N:=some 61) (v:=?_) (a':=?_) #[true,true,true,true,true,true,true,true,true,true,true,true,false] rfl rfl (any_of HT_.out (by kernel_rfl)) (fun _ _ _ h=>h) (Or.inl ⟨by rfl,?_⟩) ?_ ?_
                             rotate_left
                             · intro w'
                               go_simp
                               with_reducible rfl
                             rotate_left
                             · simp only [Act.put,List.setIfInBounds_toArray,List.set_cons_zero,List.set_cons_succ,i64_w,i32_w]
                               rfl
                             refine last_ (i:=12) (N:=none) #[true,true,true,true,true,true,true,true,true,true,true,true,true] rfl rfl (one_of HT_.out (by kernel_rfl)) (by decide) (fun K hK => ?_)
                             refine skip_ (w1:=?_) (by rfl) rfl ?_ ?_
                             rotate_left
                             · go_simp
                               rfl
                             refine hK.out _ _ ?_
                             clear hK K
                             refine done_ (done_of HT_.out (by kernel_rfl)) ?_
                             try go_wp2
                             go_roundg k3
                             case measure=>have:=HK1.out;have:=HJ17.out;have:=HK3.out;omega
                             case rel=>exact ⟨(wrap64 (x8_3 + 1)),(y180),(.slice (some ⟨go45,0,none⟩) x176000_3.length co45),(by first|rfl|(simp;done)|(simp [*];done)),H',⟨by have:=HK1.out;have:=HJ17.out;have:=HK3.out;omega⟩,⟨by (with_reducible repeat (first|apply Kd.R_alloc|apply Kd.R_drewN|apply Kd.R_drew));exact HQ51.out⟩,⟨by (with_reducible repeat (first|refine blk_drewN ?_ _|refine blk_drew ?_|refine blk_alloc ?_ _));refine blk_far ?_ (by have h_:=Kd.R_ne HO_176000.out BK169.out (by decide);intro e_;exact h_ (by rw [e_];rfl)) _;(with_reducible repeat (first|refine blk_drewN ?_ _|refine blk_drew ?_|refine blk_alloc ?_ _));exact BK169.out⟩,⟨by (with_reducible repeat (first|refine blk_drewN ?_ _|refine blk_drew ?_|refine blk_alloc ?_ _));refine blk_far ?_ (by have h_:=Kd.R_ne HO_176000.out BK170.out (by decide);intro e_;exact h_ (by rw [e_];rfl)) _;(with_reducible repeat (first|refine blk_drewN ?_ _|refine blk_drew ?_|refine blk_alloc ?_ _));exact BK170.out⟩,⟨by (with_reducible repeat (first|refine blk_drewN ?_ _|refine blk_drew ?_|refine blk_alloc ?_ _));refine blk_far ?_ (by have h_:=Kd.R_ne HO_176000.out BK175.out (by decide);intro e_;exact h_ (by rw [e_];rfl)) _;(with_reducible repeat (first|refine blk_drewN ?_ _|refine blk_drew ?_|refine blk_alloc ?_ _));exact BK175.out⟩,⟨by (with_reducible repeat (first|refine blk_drewN ?_ _|refine blk_drew ?_|refine blk_alloc ?_ _));refine blk_far ?_ (by have h_:=Kd.R_ne HO_176000.out BK177.out (by decide);intro e_;exact h_ (by rw [e_];rfl)) _;(with_reducible repeat (first|refine blk_drewN ?_ _|refine blk_drew ?_|refine blk_alloc ?_ _));exact BK177.out⟩,⟨by repeat (first|(with_reducible first|exact HB.out|apply below_alloc|apply pw_below_drewN|apply below_drew1|refine below_set ?_ GB45.out|refine below_set ?_ GE169.out|refine below_set ?_ GE170.out|refine below_set ?_ GE175.out|refine below_set ?_ GE177.out)|exact HB.out)⟩⟩
                           · rw [if_neg c44] at H
                             exact absurd H (by simp)
                         · rw [if_neg c43] at H
                           exact absurd H (by simp)
                       · rw [if_neg c41] at H
                         exact absurd H (by simp)
                     · rw [if_neg c40] at H
                       have c40b0:decide (x8_3 < (rd l1 x6_1))=false:=decide_eq_false c40
                       clear c40
                       have H':=Aside0.mk H
                       clear H
                       have hnb52:=NB177_169.out
                       have hnc52:=NB169_177.out
                       have hnb53:=NB177_170.out
                       have hnc53:=NB170_177.out
                       have hnb54:=NB177_175.out
                       have hnc54:=NB175_177.out
                       have hcz55_0:wr.cell? ⟨gb177,0,none⟩=some (.int .i64 ((rd_T45 l0_1 x6_1).f0)):=(blk_cell BK177.out 0).trans rfl
                       have hcz55_1:wr.cell? ⟨gb177,1,none⟩=some (.slice A176_1 ((rd_T45 l0_1 x6_1).f1).length c176_1):=(blk_cell BK177.out 1).trans rfl
                       have hfz55_0:=blk_frozen BK177.out 0
                       have hfz55_1:=blk_frozen BK177.out 1
                       have p178:0 ≤ (x6_1:Int):=of_decide_eq_true (by first|(with_reducible assumption)|assumption)
                       have q178:x6_1 < (l1.length:Int):=of_decide_eq_true (by first|(with_reducible assumption)|assumption)
                       obtain ⟨ad178,e178,hx178_0⟩:=Kd.at_int HR1.out x6_1 p178 q178
                       cases e178
                       replace hx178_0:=(HB.out.cell (World.block_lt_of_cell? w _ hx178_0)).trans hx178_0
                       replace p178:=eq_true p178
                       replace q178:=eq_true q178
                       go_wp2
                       go_roundg k3
                       case measure=>have:=HK1.out;have:=HJ17.out;have:=HK3.out;omega
                       case rel=>exact ⟨(wrap64 (x6_1 + 1)),(x176000_3),(u176000),(by first|rfl|(simp;done)|(simp [*];done)),H',⟨by have:=HK1.out;have:=HJ17.out;have:=HK3.out;omega⟩,⟨by (with_reducible repeat (first|apply Kd.R_alloc|apply Kd.R_drewN|apply Kd.R_drew));exact HO_176000.out⟩,⟨by (with_reducible repeat (first|refine blk_drewN ?_ _|refine blk_drew ?_|refine blk_alloc ?_ _));exact BK169.out⟩,⟨by (with_reducible repeat (first|refine blk_drewN ?_ _|refine blk_drew ?_|refine blk_alloc ?_ _));exact BK170.out⟩,⟨by (with_reducible repeat (first|refine blk_drewN ?_ _|refine blk_drew ?_|refine blk_alloc ?_ _));exact BK175.out⟩,⟨by repeat (first|(with_reducible first|exact HB.out|apply below_alloc|apply pw_below_drewN|apply below_drew1|refine below_set ?_ GE169.out|refine below_set ?_ GE170.out|refine below_set ?_ GE175.out|refine below_set ?_ GE177.out)|exact HB.out)⟩⟩
                   · rw [if_neg c39] at H
                     exact absurd H (by simp)
                 · rw [if_neg c38] at H
                   exact absurd H (by simp)
               · rw [if_neg c37] at H
                 have c37b0:decide (x8_3 < (((rd_T45 l0_1 x6_1).f1).length:Int))=false:=decide_eq_false c37
                 clear c37
                 have H':=Aside0.mk H
                 clear H
                 have hnb56:=NB177_169.out
                 have hnc56:=NB169_177.out
                 have hnb57:=NB177_170.out
                 have hnc57:=NB170_177.out
                 have hnb58:=NB177_175.out
                 have hnc58:=NB175_177.out
                 have hcz59_0:wr.cell? ⟨gb177,0,none⟩=some (.int .i64 ((rd_T45 l0_1 x6_1).f0)):=(blk_cell BK177.out 0).trans rfl
                 have hcz59_1:wr.cell? ⟨gb177,1,none⟩=some (.slice A176_1 ((rd_T45 l0_1 x6_1).f1).length c176_1):=(blk_cell BK177.out 1).trans rfl
                 have hfz59_0:=blk_frozen BK177.out 0
                 have hfz59_1:=blk_frozen BK177.out 1
                 go_wp2
                 go_roundg k3
                 case measure=>have:=HK1.out;have:=HJ17.out;have:=HK3.out;omega
                 case rel=>exact ⟨(wrap64 (x6_1 + 1)),(x176000_3),(u176000),(by first|rfl|(simp;done)|(simp [*];done)),H',⟨by have:=HK1.out;have:=HJ17.out;have:=HK3.out;omega⟩,⟨by (with_reducible repeat (first|apply Kd.R_alloc|apply Kd.R_drewN|apply Kd.R_drew));exact HO_176000.out⟩,⟨by (with_reducible repeat (first|refine blk_drewN ?_ _|refine blk_drew ?_|refine blk_alloc ?_ _));exact BK169.out⟩,⟨by (with_reducible repeat (first|refine blk_drewN ?_ _|refine blk_drew ?_|refine blk_alloc ?_ _));exact BK170.out⟩,⟨by (with_reducible repeat (first|refine blk_drewN ?_ _|refine blk_drew ?_|refine blk_alloc ?_ _));exact BK175.out⟩,⟨by repeat (first|(with_reducible first|exact HB.out|apply below_alloc|apply pw_below_drewN|apply below_drew1|refine below_set ?_ GE169.out|refine below_set ?_ GE170.out|refine below_set ?_ GE175.out|refine below_set ?_ GE177.out)|exact HB.out)⟩⟩
           · rw [if_neg c28] at H
             exact absurd H (by simp)
         · rw [if_neg c27] at H
           exact absurd H (by simp)
       · replace c26:=Bool.eq_false_iff.mpr c26
         subst c26
         have H1:(some (x176000_1,([]:List (S45))))=some (r1,r2):=by rw [if_neg (show ¬ (false=true) by decide)] at H;exact H
         clear H
         have H:=H1
         clear H1
         simp only [Option.some.injEq,Prod.mk.injEq] at H
         obtain ⟨rfl,rfl⟩:=H
         have hnb60:=NB175_169.out
         have hnc60:=NB169_175.out
         have hnb61:=NB175_170.out
         have hnc61:=NB170_175.out
         have hcz62_0:wc.cell? ⟨gb175,0,none⟩=some (u176000):=(blk_cell BK175.out 0).trans rfl
         have hcz62_1:wc.cell? ⟨gb175,1,none⟩=some (.slice none 0 0):=(blk_cell BK175.out 1).trans rfl
         have hfz62_0:=blk_frozen BK175.out 0
         have hfz62_1:=blk_frozen BK175.out 1
         obtain ⟨Ao63,co63,eo63⟩:=Kd.R_slice HO_176000.out
         subst eo63
         have hnb64:=NB170_169.out
         have hnc64:=NB169_170.out
         have hcz65_0:wc.cell? ⟨gb170,0,none⟩=some (.slice none 0 0):=(blk_cell BK170.out 0).trans rfl
         have hcz65_1:wc.cell? ⟨gb170,1,none⟩=some (.slice none 0 0):=(blk_cell BK170.out 1).trans rfl
         have hfz65_0:=blk_frozen BK170.out 0
         have hfz65_1:=blk_frozen BK170.out 1
         go_wp2
         refine bodyPost_ret (results_cell_row rfl _ _ gb170 25 #[.slice Ao63 x176000_1.length co63,.slice none 0 0] (0,0) _ rfl (by (with_reducible repeat (first|refine blk_drewN ?_ _|refine blk_drew ?_|refine blk_alloc ?_ _));refine blk_put (cs:=#[.slice Ao63 x176000_1.length co63,.slice none 0 0]) ?_ 1 _ rfl;(with_reducible repeat (first|refine blk_drewN ?_ _|refine blk_drew ?_|refine blk_alloc ?_ _));refine blk_put (cs:=#[.slice none 0 0,.slice none 0 0]) ?_ 0 _ rfl;(with_reducible repeat (first|refine blk_drewN ?_ _|refine blk_drew ?_|refine blk_alloc ?_ _));exact BK170.out) Try.underlying25 rfl (by kernel_rfl)) rfl ?_
         exact ⟨_,_,by first|rfl|(simp [errW_none,errW_some] <;> rfl)|(simp [*,errW_none,errW_some] <;> rfl),by (with_reducible repeat (first|apply Kd.R_alloc|apply Kd.R_drewN|apply Kd.R_drew));exact Kd.R_mono (Kd.R_far (p:=⟨gb170,1,none⟩) (Kd.R_far (p:=⟨gb170,0,none⟩) (Kd.R_types HO_176000.out BK170.out (by decide)) (fun _ hk=>hk.2) (.slice Ao63 x176000_1.length co63)) (fun _ hk=>hk.2) (.slice none 0 0)) (fun _ hk=>trivial),by first|exact Kd.S_nil _ _ _ _ _|exact Kd.N_nil _ _ _ _ _|exact Kd.V_nil _ _ _ _ _|exact Kd.Q_nil _ _ _ _ _|exact Kd.R_nil _ _ _ _ _,by repeat (first|(with_reducible first|exact HB.out|apply below_alloc|apply pw_below_drewN|apply below_drew1|refine below_set ?_ GE169.out|refine below_set ?_ GE170.out|refine below_set ?_ GE175.out)|exact HB.out)⟩
 · replace c4:=Bool.eq_false_iff.mpr c4
   subst c4
   have H1:(some (([]:List Int),([]:List (S45))))=some (r1,r2):=by rw [if_neg (show ¬ (false=true) by decide)] at H;exact H
   clear H
   have H:=H1
   clear H1
   simp only [Option.some.injEq,Prod.mk.injEq] at H
   obtain ⟨rfl,rfl⟩:=H
   go_enter Try.func29,Try.ntmps29
   go_wp2_with (first|((with_reducible refine gate_dst (N:=2) rfl ?_);(try (refine gate_guard (by rfl) ?_;dsimp only));refine box_event ?hg (N:=2) ?hd (cs:=#[.slice A0_0 l0_0.length c0_0,.slice A0_1 l0_1.length c0_1]) (t:=25) ?hr ?_;(case hd=>rfl);(case hg=>rfl);(case hr=>first|(go_simp;done)|(go_simp;rfl));intro gb169 hg w66 hbox hb;have n0_:=Aside0.mk (below_step (by repeat (first|(with_reducible first|exact HB.out|apply below_alloc|apply pw_below_drewN|apply below_drew1)|exact HB.out)) hb);have n1_:=Aside0.mk (hbox);have n2_:=Aside0.mk ((by rw [hg];exact (below_size (by repeat (first|(with_reducible first|exact HB.out|apply below_alloc|apply pw_below_drewN|apply below_drew1)|exact HB.out))):w.heap.size ≤ gb169));have n3_:=Aside0.mk ((by rw [hg];exact (below_size (by repeat (first|(with_reducible first|exact HB.out|apply below_alloc|apply pw_below_drewN|apply below_drew1)|exact HB.out))):w.heap.size ≤ gb169));clear HB;have HB:=n0_;have BK169:=n1_;have GW169:=n2_;have GE169:=n3_;clear n0_ n1_ n2_ n3_;clear hb hbox hg)|((with_reducible refine gate_dst (N:=4) rfl ?_);(try (refine gate_guard (by rfl) ?_;dsimp only));refine box_event ?hg (N:=4) ?hd (cs:=#[.slice none 0 0,.slice none 0 0]) (t:=25) ?hr ?_;(case hd=>rfl);(case hg=>rfl);(case hr=>first|(go_simp;done)|(go_simp;rfl));intro gb170 hg w67 hbox hb;have n0_:=Aside0.mk (blk_below (g:=gb169) (o:=.cells #[.slice A0_0 l0_0.length c0_0,.slice A0_1 l0_1.length c0_1] 25 (0,0)) (by (with_reducible repeat (first|refine blk_drewN ?_ _|refine blk_drew ?_|refine blk_alloc ?_ _));exact BK169.out) hb);have n1_:=Aside0.mk (below_step (by repeat (first|(with_reducible first|exact HB.out|apply below_alloc|apply pw_below_drewN|apply below_drew1|refine below_set ?_ GE169.out)|exact HB.out)) hb);have n2_:=Aside0.mk (hbox);have n3_:=Aside0.mk ((by rw [hg];exact (below_size (by repeat (first|(with_reducible first|exact HB.out|apply below_alloc|apply pw_below_drewN|apply below_drew1|refine below_set ?_ GE169.out)|exact HB.out))):w.heap.size ≤ gb170));have n4_:=Aside0.mk ((by rw [hg];exact (below_size (by repeat (first|(with_reducible first|exact HB.out|apply below_alloc|apply pw_below_drewN|apply below_drew1|refine below_set ?_ GE169.out)|exact HB.out))):w.heap.size ≤ gb170));have n5_:=Aside0.mk ((by rw [hg];exact Nat.ne_of_lt (blk_lt (g:=gb169) (o:=.cells #[.slice A0_0 l0_0.length c0_0,.slice A0_1 l0_1.length c0_1] 25 (0,0)) (by (with_reducible repeat (first|refine blk_drewN ?_ _|refine blk_drew ?_|refine blk_alloc ?_ _));exact BK169.out)):gb169 ≠ gb170));have n6_:=Aside0.mk ((by rw [hg];exact Nat.ne_of_gt (blk_lt (g:=gb169) (o:=.cells #[.slice A0_0 l0_0.length c0_0,.slice A0_1 l0_1.length c0_1] 25 (0,0)) (by (with_reducible repeat (first|refine blk_drewN ?_ _|refine blk_drew ?_|refine blk_alloc ?_ _));exact BK169.out)):gb170 ≠ gb169));clear BK169;clear HB;have BK169:=n0_;have HB:=n1_;have BK170:=n2_;have GW170:=n3_;have GE170:=n4_;have NB169_170:=n5_;have NB170_169:=n6_;clear n0_ n1_ n2_ n3_ n4_ n5_ n6_;clear hb hbox hg;have hnb68:=NB169_170.out;have hnc68:=NB170_169.out;have hcz69_0:w67.cell? ⟨gb169,0,none⟩=some (.slice A0_0 l0_0.length c0_0):=(blk_cell BK169.out 0).trans rfl;have hcz69_1:w67.cell? ⟨gb169,1,none⟩=some (.slice A0_1 l0_1.length c0_1):=(blk_cell BK169.out 1).trans rfl;have hfz69_0:=blk_frozen BK169.out 0;have hfz69_1:=blk_frozen BK169.out 1)|((with_reducible refine gate_callee (f:=31) rfl ?_);refine goesL_ (some 10) rfl rfl Try.func31 (by kernel_rfl) rfl #[.agg #[.slice A0_0 l0_0.length c0_0,.slice A0_1 l0_1.length c0_1]] rfl (by (try simp only [List.map_toArray,List.map_cons,List.map_nil]);first|done|rfl|(simp only [List.length_drop,List.length_take];rfl)) ?_;(with_reducible refine (wageofficeref42_Valid.calls k _ _ l0_0 _ _ l0_1 false _ ?side1 ?side2 ?side3 ?side4 A3.out).mono ?_);(case side1=>repeat (first|exact (Kd.C_below HR0_0.out HB.out)|(with_reducible refine Kd.C_alloc ?_ _)|(with_reducible refine Kd.C_drewN ?_ _)|(with_reducible refine Kd.C_drew ?_)));(case side2=>exact HC0_0.out);(case side3=>repeat (first|exact (Kd.C_below HR0_1.out HB.out)|(with_reducible refine Kd.C_alloc ?_ _)|(with_reducible refine Kd.C_drewN ?_ _)|(with_reducible refine Kd.C_drew ?_)));(case side4=>exact HC0_1.out);rintro e w70 ⟨rfl,hb⟩;refine ⟨_,rfl,?_⟩;have n0_:=Aside0.mk (blk_below (g:=gb169) (o:=.cells #[.slice A0_0 l0_0.length c0_0,.slice A0_1 l0_1.length c0_1] 25 (0,0)) (by (with_reducible repeat (first|refine blk_drewN ?_ _|refine blk_drew ?_|refine blk_alloc ?_ _));exact BK169.out) hb);have n1_:=Aside0.mk (blk_below (g:=gb170) (o:=.cells #[.slice none 0 0,.slice none 0 0] 25 (0,0)) (by (with_reducible repeat (first|refine blk_drewN ?_ _|refine blk_drew ?_|refine blk_alloc ?_ _));exact BK170.out) hb);have n2_:=Aside0.mk (below_step (by repeat (first|(with_reducible first|exact HB.out|apply below_alloc|apply pw_below_drewN|apply below_drew1|refine below_set ?_ GE169.out|refine below_set ?_ GE170.out)|exact HB.out)) hb);clear BK169;clear BK170;clear HB;have BK169:=n0_;have BK170:=n1_;have HB:=n2_;clear n0_ n1_ n2_;(try clear hb);(try clear hb2);(try clear hk);(try clear hi);have hcz71_0:w70.cell? ⟨gb170,0,none⟩=some (.slice none 0 0):=(blk_cell BK170.out 0).trans rfl;have hcz71_1:w70.cell? ⟨gb170,1,none⟩=some (.slice none 0 0):=(blk_cell BK170.out 1).trans rfl;have hfz71_0:=blk_frozen BK170.out 0;have hfz71_1:=blk_frozen BK170.out 1))
   refine bodyPost_ret (results_cell_row rfl _ _ gb170 25 #[.slice none 0 0,.slice none 0 0] (0,0) _ rfl (by (with_reducible repeat (first|refine blk_drewN ?_ _|refine blk_drew ?_|refine blk_alloc ?_ _));refine blk_put (cs:=#[.slice none 0 0,.slice none 0 0]) ?_ 1 _ rfl;(with_reducible repeat (first|refine blk_drewN ?_ _|refine blk_drew ?_|refine blk_alloc ?_ _));refine blk_put (cs:=#[.slice none 0 0,.slice none 0 0]) ?_ 0 _ rfl;(with_reducible repeat (first|refine blk_drewN ?_ _|refine blk_drew ?_|refine blk_alloc ?_ _));exact BK170.out) Try.underlying25 rfl (by kernel_rfl)) rfl ?_
   exact ⟨_,_,by first|rfl|(simp [errW_none,errW_some] <;> rfl)|(simp [*,errW_none,errW_some] <;> rfl),by first|exact Kd.R_nil _ _ _ _ _|exact Kd.N_nil _ _ _ _ _|exact Kd.V_nil _ _ _ _ _|exact Kd.Q_nil _ _ _ _ _|exact Kd.S_nil _ _ _ _ _,by first|exact Kd.S_nil _ _ _ _ _|exact Kd.N_nil _ _ _ _ _|exact Kd.V_nil _ _ _ _ _|exact Kd.Q_nil _ _ _ _ _|exact Kd.R_nil _ _ _ _ _,by repeat (first|(with_reducible first|exact HB.out|apply below_alloc|apply pw_below_drewN|apply below_drew1|refine below_set ?_ GE169.out|refine below_set ?_ GE170.out)|exact HB.out)⟩
def wageofficeref42_Sync.l0:Nat→List Int→Int→List Int→List (S45)→Option (List Int × (List (S45)))
 | 0,_,_,_,_=>none
 | k + 1,x3,x4,x182000,x182001=>if x4 < (x182001.length:Int) then (if x4 ≤ 64 then (if 0 ≤ x4 then (if x3.length < 17592186044416 then (wageofficeref42_Sync.l0 k (x3 ++ [(((rd_T45 x182001 x4).f1).length:Int)]) (wrap64 (x4 + 1)) x182000 x182001) else (none)) else (none)) else ((wageofficeref42_Crash.f k x182000 x182001 x3).bind fun bt187=>(some (bt187.1,bt187.2)))) else ((wageofficeref42_Crash.f k x182000 x182001 x3).bind fun bt193=>(some (bt193.1,bt193.2)))
def wageofficeref42_Sync.f (k:Nat) (l0_0:List Int) (l0_1:List (S45)):Option (List Int × (List (S45))):=wageofficeref42_Sync.l0 k ([]:List Int) 0 l0_0 l0_1
set_option maxHeartbeats 8000000 in
set_option maxRecDepth 100000 in
theorem wageofficeref42_Sync.calls (k:Nat) (A0_0:Option Addr) (c0_0:Nat) (l0_0:List Int) (A0_1:Option Addr) (c0_1:Nat) (l0_1:List (S45)) (r1:List Int) (r2:List (S45)) (w:World) (hr0_0:Kd.C (Kd.int .u8) w A0_0 l0_0.length l0_0) (hc0_0:l0_0.length ≤ c0_0) (hr0_1:Kd.C k45 w A0_1 l0_1.length l0_1) (hc0_1:l0_1.length ≤ c0_1) (h:wageofficeref42_Sync.f k l0_0 l0_1=some (r1,r2)) :
 Calls Try.prog 27 #[.agg #[.slice A0_0 l0_0.length c0_0,.slice A0_1 l0_1.length c0_1]] w fun e w'=>∃ v0_ v1_:Value,e=.returned (.agg #[v0_,v1_])∧Kd.R (Kd.int .u8) 5 w' w.heap.size (fun _=>True) v0_ r1∧Kd.S k45 45 w' w.heap.size (fun k_=>some k_ ≠ (v0_:Value).ownBlock) v1_ r2∧Below w.heap.size w w':=by
 have hu25:=Try.underlying25
 have HR0_0:=Aside0.mk hr0_0
 have HC0_0:=Aside0.mk hc0_0
 clear hr0_0 hc0_0
 have HR0_1:=Aside0.mk hr0_1
 have HC0_1:=Aside0.mk hc0_1
 clear hr0_1 hc0_1
 have HB:=Aside0.mk (Below.refl w.heap.size w)
 have H:(wageofficeref42_Sync.l0 k ([]:List Int) 0 l0_0 l0_1)=some (r1,r2):=h
 clear h
 have H':=Aside0.mk H
 clear H
 go_enter Try.func27,Try.ntmps27
 go_wp2_with (first|((with_reducible refine gate_dst (N:=1) rfl ?_);refine box_event ?hg (N:=1) ?hd (cs:=#[.slice A0_0 l0_0.length c0_0,.slice A0_1 l0_1.length c0_1]) (t:=25) ?hr ?_;(case hd=>rfl);(case hg=>rfl);(case hr=>first|(go_simp;done)|(go_simp;rfl));intro gb181 hg w2 hbox hb;have n0_:=Aside0.mk (below_step (by repeat (first|(with_reducible first|exact HB.out|apply below_alloc|apply pw_below_drewN|apply below_drew1)|exact HB.out)) hb);have n1_:=Aside0.mk (hbox);have n2_:=Aside0.mk ((by rw [hg];exact (below_size (by repeat (first|(with_reducible first|exact HB.out|apply below_alloc|apply pw_below_drewN|apply below_drew1)|exact HB.out))):w.heap.size ≤ gb181));have n3_:=Aside0.mk ((by rw [hg];exact (below_size (by repeat (first|(with_reducible first|exact HB.out|apply below_alloc|apply pw_below_drewN|apply below_drew1)|exact HB.out))):w.heap.size ≤ gb181));clear HB;have HB:=n0_;have BK181:=n1_;have GW181:=n2_;have GE181:=n3_;clear n0_ n1_ n2_ n3_;clear hb hbox hg)|((with_reducible refine gate_dst (N:=2) rfl ?_);refine box_event ?hg (N:=2) ?hd (cs:=#[.slice none 0 0,.slice none 0 0]) (t:=25) ?hr ?_;(case hd=>rfl);(case hg=>rfl);(case hr=>first|(go_simp;done)|(go_simp;rfl));intro gb182 hg w3 hbox hb;have n0_:=Aside0.mk (blk_below (g:=gb181) (o:=.cells #[.slice A0_0 l0_0.length c0_0,.slice A0_1 l0_1.length c0_1] 25 (0,0)) (by (with_reducible repeat (first|refine blk_drewN ?_ _|refine blk_drew ?_|refine blk_alloc ?_ _));exact BK181.out) hb);have n1_:=Aside0.mk (below_step (by repeat (first|(with_reducible first|exact HB.out|apply below_alloc|apply pw_below_drewN|apply below_drew1|refine below_set ?_ GE181.out)|exact HB.out)) hb);have n2_:=Aside0.mk (hbox);have n3_:=Aside0.mk ((by rw [hg];exact (below_size (by repeat (first|(with_reducible first|exact HB.out|apply below_alloc|apply pw_below_drewN|apply below_drew1|refine below_set ?_ GE181.out)|exact HB.out))):w.heap.size ≤ gb182));have n4_:=Aside0.mk ((by rw [hg];exact (below_size (by repeat (first|(with_reducible first|exact HB.out|apply below_alloc|apply pw_below_drewN|apply below_drew1|refine below_set ?_ GE181.out)|exact HB.out))):w.heap.size ≤ gb182));have n5_:=Aside0.mk ((by rw [hg];exact Nat.ne_of_lt (blk_lt (g:=gb181) (o:=.cells #[.slice A0_0 l0_0.length c0_0,.slice A0_1 l0_1.length c0_1] 25 (0,0)) (by (with_reducible repeat (first|refine blk_drewN ?_ _|refine blk_drew ?_|refine blk_alloc ?_ _));exact BK181.out)):gb181 ≠ gb182));have n6_:=Aside0.mk ((by rw [hg];exact Nat.ne_of_gt (blk_lt (g:=gb181) (o:=.cells #[.slice A0_0 l0_0.length c0_0,.slice A0_1 l0_1.length c0_1] 25 (0,0)) (by (with_reducible repeat (first|refine blk_drewN ?_ _|refine blk_drew ?_|refine blk_alloc ?_ _));exact BK181.out)):gb182 ≠ gb181));clear BK181;clear HB;have BK181:=n0_;have HB:=n1_;have BK182:=n2_;have GW182:=n3_;have GE182:=n4_;have NB181_182:=n5_;have NB182_181:=n6_;clear n0_ n1_ n2_ n3_ n4_ n5_ n6_;clear hb hbox hg))
 go_loopg [3,4] k (fun kq v3 v4 w'=>∃ (x3_1:List Int) (x4_1:Int),v4=.int .i64 x4_1∧Aside0 (wageofficeref42_Sync.l0 kq x3_1 x4_1 l0_0 l0_1=some (r1,r2))∧Aside0 (kq ≤ k)∧Aside0 (Kd.R (Kd.int .i64) 3 w' w.heap.size (fun _=>True) v3 x3_1)∧Aside0 (w'.heap[gb181]? = some (.cells #[(.slice A0_0 l0_0.length c0_0),(.slice A0_1 l0_1.length c0_1)] 25 (0,0)))∧Aside0 (w'.heap[gb182]? = some (.cells #[(.slice none 0 0),(.slice none 0 0)] 25 (0,0)))∧Aside0 (Below w.heap.size w w'))
 case atStart=>exact ⟨(([]:List Int)),(0),(by first|rfl|(simp;done)|(simp [*];done)),H',⟨Nat.le_refl _⟩,⟨by first|exact Kd.R_nil _ _ _ _ _|exact Kd.N_nil _ _ _ _ _|exact Kd.V_nil _ _ _ _ _|exact Kd.Q_nil _ _ _ _ _|exact Kd.S_nil _ _ _ _ _⟩,⟨by (with_reducible repeat (first|refine blk_drewN ?_ _|refine blk_drew ?_|refine blk_alloc ?_ _));exact BK181.out⟩,⟨by (with_reducible repeat (first|refine blk_drewN ?_ _|refine blk_drew ?_|refine blk_alloc ?_ _));exact BK182.out⟩,⟨by repeat (first|(with_reducible first|exact HB.out|apply below_alloc|apply pw_below_drewN|apply below_drew1|refine below_set ?_ GE181.out|refine below_set ?_ GE182.out)|exact HB.out)⟩⟩
 case round =>
  clear H'
  try clear c2
  try clear p2
  obtain ⟨x3_1,x4_1,rfl,HA,HK1,HO_3,BK181,BK182,HB⟩:=hrel
  cases gk with
  | zero=>exact absurd HA.out (by simp [wageofficeref42_Sync.l0])
  | succ k1 =>
   have H:=HA.out
   clear HA
   simp only [wageofficeref42_Sync.l0] at H
   by_cases c4:x4_1 < (l0_1.length:Int)
   · rw [if_pos c4] at H
     have c4b0:decide (x4_1 < (l0_1.length:Int))=true:=decide_eq_true c4
     clear c4
     by_cases c5:x4_1 ≤ 64
     · rw [if_pos c5] at H
       have c5b0:decide (x4_1 ≤ 64)=true:=decide_eq_true c5
       clear c5
       by_cases c6:0 ≤ x4_1
       · rw [if_pos c6] at H
         have c6b0:decide (0 ≤ x4_1)=true:=decide_eq_true c6
         clear c6
         by_cases c7:x3_1.length < 17592186044416
         · rw [if_pos c7] at H
           have LMc7:=Aside0.mk c7
           clear c7
           obtain ⟨y184,hy184⟩:∃ y_:List Int,y_=(x3_1 ++ [(((rd_T45 l0_1 x4_1).f1).length:Int)]):=⟨_,rfl⟩
           replace H:(wageofficeref42_Sync.l0 k1 y184 (wrap64 (x4_1 + 1)) l0_0 l0_1)=some (r1,r2):=by first|(rw [hy184];with_reducible exact H)|(have H2_:=(Option.bind_some _ _).symm.trans H;rw [hy184];with_reducible exact H2_)|(have H2_:=(Option.bind_some _ _).symm.trans H;with_reducible exact H2_)|with_reducible exact H|(rw [hy184];exact H)|exact H
           have Ny184:=Aside0.mk hy184
           clear hy184
           have H':=Aside0.mk H
           clear H
           have hnb8:=NB181_182.out
           have hnc8:=NB182_181.out
           have hcz9_0:wr.cell? ⟨gb181,0,none⟩=some (.slice A0_0 l0_0.length c0_0):=(blk_cell BK181.out 0).trans rfl
           have hcz9_1:wr.cell? ⟨gb181,1,none⟩=some (.slice A0_1 l0_1.length c0_1):=(blk_cell BK181.out 1).trans rfl
           have hfz9_0:=blk_frozen BK181.out 0
           have hfz9_1:=blk_frozen BK181.out 1
           have p183:0 ≤ (x4_1:Int):=of_decide_eq_true (by first|(with_reducible assumption)|assumption)
           have q183:x4_1 < (l0_1.length:Int):=of_decide_eq_true (by first|(with_reducible assumption)|assumption)
           obtain ⟨ad183,A183_1,c183_1,e183,hx183_0,hx183_1,hl183_1,hi183_1⟩:=at_T45 HR0_1.out x4_1 p183 q183
           cases e183
           replace hx183_0:=(HB.out.cell (World.block_lt_of_cell? w _ hx183_0)).trans hx183_0
           replace hx183_1:=(HB.out.cell (World.block_lt_of_cell? w _ hx183_1)).trans hx183_1
           have HR183_1:=Aside0.mk hi183_1
           have HC183_1:=Aside0.mk hl183_1
           clear hi183_1 hl183_1
           replace p183:=eq_true p183
           replace q183:=eq_true q183
           go_wp2_with (first|((with_reducible refine gate_builtin (b:=.append) (xs:=#[.tmp 16,.tmp 24]) rfl ?_);at_builtin;refine Kd.R_append (Kd.int .i64) (w0:=w) w.heap.size rfl (.tmp 16) (.tmp 24) 26 3 (.int .i64 0) 8 rfl Try.underlying26 info3 rfl (by decide) (by omega) u3 x3_1 (((rd_T45 l0_1 x4_1).f1).length:Int) [.int .i64 (((rd_T45 l0_1 x4_1).f1).length:Int)] (fun _=>True) (fun _=>False) rfl rfl ?aP (fun _ hk=>hk.elim) ?aF ?aO ?aB ?aS ?aL ?_;(case aP=>exact rfl);(case aB=>exact (by repeat (first|(with_reducible first|exact HB.out|apply below_alloc|apply pw_below_drewN|apply below_drew1|refine below_set ?_ GE181.out|refine below_set ?_ GE182.out)|exact HB.out)));(case aF=>exact (fun _ _=>trivial));(case aO=>exact (by (with_reducible repeat (first|apply Kd.R_alloc|apply Kd.R_drewN|apply Kd.R_drew));exact HO_3.out));(case aS=>exact (below_size (by repeat (first|(with_reducible first|exact HB.out|apply below_alloc|apply pw_below_drewN|apply below_drew1|refine below_set ?_ GE181.out|refine below_set ?_ GE182.out)|exact HB.out))));(case aL=>have:=LMc7.out;omega);intro v185 w10 ho hb hg hat;rw [← Ny184.out] at ho;have n0_:=Aside0.mk (blk_grown (g:=gb181) (o:=.cells #[.slice A0_0 l0_0.length c0_0,.slice (some ad183) l0_1.length c0_1] 25 (0,0)) (by (with_reducible repeat (first|refine blk_drewN ?_ _|refine blk_drew ?_|refine blk_alloc ?_ _));exact BK181.out) hg (Kd.R_ne HO_3.out BK181.out (by decide)));have n1_:=Aside0.mk (blk_grown (g:=gb182) (o:=.cells #[.slice none 0 0,.slice none 0 0] 25 (0,0)) (by (with_reducible repeat (first|refine blk_drewN ?_ _|refine blk_drew ?_|refine blk_alloc ?_ _));exact BK182.out) hg (Kd.R_ne HO_3.out BK182.out (by decide)));have n2_:=Aside0.mk (hb);have n3_:=Aside0.mk (ho);clear BK181;clear BK182;clear HB;clear HO_3;have BK181:=n0_;have BK182:=n1_;have HB:=n2_;have HO186:=n3_;clear n0_ n1_ n2_ n3_;clear ho hb hg hat))
           go_roundg k1
           case measure=>have:=HK1.out;omega
           case rel=>exact ⟨(y184),(wrap64 (x4_1 + 1)),(by first|rfl|(simp;done)|(simp [*];done)),H',⟨by have:=HK1.out;omega⟩,⟨by (with_reducible repeat (first|apply Kd.R_alloc|apply Kd.R_drewN|apply Kd.R_drew));exact HO186.out⟩,⟨by (with_reducible repeat (first|refine blk_drewN ?_ _|refine blk_drew ?_|refine blk_alloc ?_ _));exact BK181.out⟩,⟨by (with_reducible repeat (first|refine blk_drewN ?_ _|refine blk_drew ?_|refine blk_alloc ?_ _));exact BK182.out⟩,⟨by repeat (first|(with_reducible first|exact HB.out|apply below_alloc|apply pw_below_drewN|apply below_drew1|refine below_set ?_ GE181.out|refine below_set ?_ GE182.out)|exact HB.out)⟩⟩
         · rw [if_neg c7] at H
           exact absurd H (by simp)
       · rw [if_neg c6] at H
         exact absurd H (by simp)
     · rw [if_neg c5] at H
       have c5b0:decide (x4_1 ≤ 64)=false:=decide_eq_false c5
       clear c5
       replace H:=Option.bind_eq_some_iff.mp H
       obtain ⟨⟨t187,t190⟩,A110,H⟩:=H
       replace H:(some (t187,t190))=some (r1,r2):=H
       have A11:=Aside0.mk A110
       clear A110
       simp only [Option.some.injEq,Prod.mk.injEq] at H
       obtain ⟨rfl,rfl⟩:=H
       have hnb12:=NB181_182.out
       have hnc12:=NB182_181.out
       have hcz13_0:wr.cell? ⟨gb181,0,none⟩=some (.slice A0_0 l0_0.length c0_0):=(blk_cell BK181.out 0).trans rfl
       have hcz13_1:wr.cell? ⟨gb181,1,none⟩=some (.slice A0_1 l0_1.length c0_1):=(blk_cell BK181.out 1).trans rfl
       have hfz13_0:=blk_frozen BK181.out 0
       have hfz13_1:=blk_frozen BK181.out 1
       obtain ⟨Ao14,co14,eo14⟩:=Kd.R_slice HO_3.out
       subst eo14
       go_wp2_with (first|((with_reducible refine gate_callee (f:=29) rfl ?_);refine goesL_ (some 28) rfl rfl Try.func29 (by kernel_rfl) rfl #[.agg #[.slice A0_0 l0_0.length c0_0,.slice A0_1 l0_1.length c0_1],.slice Ao14 x3_1.length co14] rfl (by (try simp only [List.map_toArray,List.map_cons,List.map_nil]);first|done|rfl|(simp only [List.length_drop,List.length_take];rfl)) ?_;(with_reducible refine (wageofficeref42_Crash.calls k1 _ _ l0_0 _ _ l0_1 _ _ x3_1 t187 t190 _ ?side1 ?side2 ?side3 ?side4 ?side5 ?side6 A11.out).mono ?_);(case side1=>repeat (first|exact (Kd.C_below HR0_0.out HB.out)|(with_reducible refine Kd.C_alloc ?_ _)|(with_reducible refine Kd.C_drewN ?_ _)|(with_reducible refine Kd.C_drew ?_)));(case side2=>exact HC0_0.out);(case side3=>repeat (first|exact (Kd.C_below HR0_1.out HB.out)|(with_reducible refine Kd.C_alloc ?_ _)|(with_reducible refine Kd.C_drewN ?_ _)|(with_reducible refine Kd.C_drew ?_)));(case side4=>exact HC0_1.out);(case side5=>repeat (first|exact (Kd.R_reads' HO_3.out).2.2|(with_reducible refine Kd.C_alloc ?_ _)|(with_reducible refine Kd.C_drewN ?_ _)|(with_reducible refine Kd.C_drew ?_)));(case side6=>exact (Kd.R_reads' HO_3.out).2.1);rintro e w15 ⟨v188,v191,rfl,ho0,ho1,hb⟩;refine ⟨_,rfl,?_⟩;have n0_:=Aside0.mk (Kd.R_below (by (with_reducible repeat (first|apply Kd.R_alloc|apply Kd.R_drewN|apply Kd.R_drew));exact HO_3.out) hb);have n1_:=Aside0.mk (Kd.R_lower ho0 (below_size (by repeat (first|(with_reducible first|exact HB.out|apply below_alloc|apply pw_below_drewN|apply below_drew1|refine below_set ?_ GE181.out|refine below_set ?_ GE182.out)|exact HB.out))));have n2_:=Aside0.mk (Kd.S_lower ho1 (below_size (by repeat (first|(with_reducible first|exact HB.out|apply below_alloc|apply pw_below_drewN|apply below_drew1|refine below_set ?_ GE181.out|refine below_set ?_ GE182.out)|exact HB.out))));have n3_:=Aside0.mk (blk_below (g:=gb181) (o:=.cells #[.slice A0_0 l0_0.length c0_0,.slice A0_1 l0_1.length c0_1] 25 (0,0)) (by (with_reducible repeat (first|refine blk_drewN ?_ _|refine blk_drew ?_|refine blk_alloc ?_ _));exact BK181.out) hb);have n4_:=Aside0.mk (blk_below (g:=gb182) (o:=.cells #[.slice none 0 0,.slice none 0 0] 25 (0,0)) (by (with_reducible repeat (first|refine blk_drewN ?_ _|refine blk_drew ?_|refine blk_alloc ?_ _));exact BK182.out) hb);have n5_:=Aside0.mk (below_step (by repeat (first|(with_reducible first|exact HB.out|apply below_alloc|apply pw_below_drewN|apply below_drew1|refine below_set ?_ GE181.out|refine below_set ?_ GE182.out)|exact HB.out)) hb);clear HO_3;clear BK181;clear BK182;clear HB;have HO_3:=n0_;have HO189:=n1_;have HO192:=n2_;have BK181:=n3_;have BK182:=n4_;have HB:=n5_;clear n0_ n1_ n2_ n3_ n4_ n5_;(try clear hb);(try clear hb2);(try clear hk);(try clear hi);(try clear ho0);(try clear ho1);obtain ⟨Ao16,co16,eo16⟩:=Kd.R_slice HO189.out;subst eo16;have hcz17_0:w15.cell? ⟨gb182,0,none⟩=some (.slice none 0 0):=(blk_cell BK182.out 0).trans rfl;have hcz17_1:w15.cell? ⟨gb182,1,none⟩=some (.slice none 0 0):=(blk_cell BK182.out 1).trans rfl;have hfz17_0:=blk_frozen BK182.out 0;have hfz17_1:=blk_frozen BK182.out 1;obtain ⟨Ao18,co18,eo18⟩:=Kd.S_slice HO192.out;subst eo18))
       refine bodyPost_ret (results_cell_row rfl _ _ gb182 25 #[.slice Ao16 t187.length co16,.slice Ao18 t190.length co18] (0,0) _ rfl (by (with_reducible repeat (first|refine blk_drewN ?_ _|refine blk_drew ?_|refine blk_alloc ?_ _));refine blk_put (cs:=#[.slice Ao16 t187.length co16,.slice none 0 0]) ?_ 1 _ rfl;(with_reducible repeat (first|refine blk_drewN ?_ _|refine blk_drew ?_|refine blk_alloc ?_ _));refine blk_put (cs:=#[.slice none 0 0,.slice none 0 0]) ?_ 0 _ rfl;(with_reducible repeat (first|refine blk_drewN ?_ _|refine blk_drew ?_|refine blk_alloc ?_ _));exact BK182.out) Try.underlying25 rfl (by kernel_rfl)) rfl ?_
       exact ⟨_,_,by first|rfl|(simp [errW_none,errW_some] <;> rfl)|(simp [*,errW_none,errW_some] <;> rfl),by (with_reducible repeat (first|apply Kd.R_alloc|apply Kd.R_drewN|apply Kd.R_drew));exact Kd.R_mono (Kd.R_far (p:=⟨gb182,1,none⟩) (Kd.R_far (p:=⟨gb182,0,none⟩) (Kd.R_types HO189.out BK182.out (by decide)) (fun _ hk=>hk.2) (.slice Ao16 t187.length co16)) (fun _ hk=>hk.2) (.slice Ao18 t190.length co18)) (fun _ hk=>trivial),by (with_reducible repeat (first|apply Kd.S_alloc|apply Kd.S_drewN|apply Kd.S_drew));exact Kd.S_mono (Kd.S_far (p:=⟨gb182,1,none⟩) (Kd.S_far (p:=⟨gb182,0,none⟩) (Kd.S_types HO192.out BK182.out (by decide)) (fun _ hk=>hk.2) (.slice Ao16 t187.length co16)) (fun _ hk=>hk.2) (.slice Ao18 t190.length co18)) (fun _ hk=>hk.1),by repeat (first|(with_reducible first|exact HB.out|apply below_alloc|apply pw_below_drewN|apply below_drew1|refine below_set ?_ GE181.out|refine below_set ?_ GE182.out)|exact HB.out)⟩
   · rw [if_neg c4] at H
     have c4b0:decide (x4_1 < (l0_1.length:Int))=false:=decide_eq_false c4
     clear c4
     replace H:=Option.bind_eq_some_iff.mp H
     obtain ⟨⟨t193,t196⟩,A190,H⟩:=H
     replace H:(some (t193,t196))=some (r1,r2):=H
     have A19:=Aside0.mk A190
     clear A190
     simp only [Option.some.injEq,Prod.mk.injEq] at H
     obtain ⟨rfl,rfl⟩:=H
     have hnb20:=NB181_182.out
     have hnc20:=NB182_181.out
     have hcz21_0:wr.cell? ⟨gb181,0,none⟩=some (.slice A0_0 l0_0.length c0_0):=(blk_cell BK181.out 0).trans rfl
     have hcz21_1:wr.cell? ⟨gb181,1,none⟩=some (.slice A0_1 l0_1.length c0_1):=(blk_cell BK181.out 1).trans rfl
     have hfz21_0:=blk_frozen BK181.out 0
     have hfz21_1:=blk_frozen BK181.out 1
     obtain ⟨Ao22,co22,eo22⟩:=Kd.R_slice HO_3.out
     subst eo22
     go_wp2_with (first|((with_reducible refine gate_callee (f:=29) rfl ?_);refine goesL_ (some 28) rfl rfl Try.func29 (by kernel_rfl) rfl #[.agg #[.slice A0_0 l0_0.length c0_0,.slice A0_1 l0_1.length c0_1],.slice Ao22 x3_1.length co22] rfl (by (try simp only [List.map_toArray,List.map_cons,List.map_nil]);first|done|rfl|(simp only [List.length_drop,List.length_take];rfl)) ?_;(with_reducible refine (wageofficeref42_Crash.calls k1 _ _ l0_0 _ _ l0_1 _ _ x3_1 t193 t196 _ ?side1 ?side2 ?side3 ?side4 ?side5 ?side6 A19.out).mono ?_);(case side1=>repeat (first|exact (Kd.C_below HR0_0.out HB.out)|(with_reducible refine Kd.C_alloc ?_ _)|(with_reducible refine Kd.C_drewN ?_ _)|(with_reducible refine Kd.C_drew ?_)));(case side2=>exact HC0_0.out);(case side3=>repeat (first|exact (Kd.C_below HR0_1.out HB.out)|(with_reducible refine Kd.C_alloc ?_ _)|(with_reducible refine Kd.C_drewN ?_ _)|(with_reducible refine Kd.C_drew ?_)));(case side4=>exact HC0_1.out);(case side5=>repeat (first|exact (Kd.R_reads' HO_3.out).2.2|(with_reducible refine Kd.C_alloc ?_ _)|(with_reducible refine Kd.C_drewN ?_ _)|(with_reducible refine Kd.C_drew ?_)));(case side6=>exact (Kd.R_reads' HO_3.out).2.1);rintro e w23 ⟨v194,v197,rfl,ho0,ho1,hb⟩;refine ⟨_,rfl,?_⟩;have n0_:=Aside0.mk (Kd.R_below (by (with_reducible repeat (first|apply Kd.R_alloc|apply Kd.R_drewN|apply Kd.R_drew));exact HO_3.out) hb);have n1_:=Aside0.mk (Kd.R_lower ho0 (below_size (by repeat (first|(with_reducible first|exact HB.out|apply below_alloc|apply pw_below_drewN|apply below_drew1|refine below_set ?_ GE181.out|refine below_set ?_ GE182.out)|exact HB.out))));have n2_:=Aside0.mk (Kd.S_lower ho1 (below_size (by repeat (first|(with_reducible first|exact HB.out|apply below_alloc|apply pw_below_drewN|apply below_drew1|refine below_set ?_ GE181.out|refine below_set ?_ GE182.out)|exact HB.out))));have n3_:=Aside0.mk (blk_below (g:=gb181) (o:=.cells #[.slice A0_0 l0_0.length c0_0,.slice A0_1 l0_1.length c0_1] 25 (0,0)) (by (with_reducible repeat (first|refine blk_drewN ?_ _|refine blk_drew ?_|refine blk_alloc ?_ _));exact BK181.out) hb);have n4_:=Aside0.mk (blk_below (g:=gb182) (o:=.cells #[.slice none 0 0,.slice none 0 0] 25 (0,0)) (by (with_reducible repeat (first|refine blk_drewN ?_ _|refine blk_drew ?_|refine blk_alloc ?_ _));exact BK182.out) hb);have n5_:=Aside0.mk (below_step (by repeat (first|(with_reducible first|exact HB.out|apply below_alloc|apply pw_below_drewN|apply below_drew1|refine below_set ?_ GE181.out|refine below_set ?_ GE182.out)|exact HB.out)) hb);clear HO_3;clear BK181;clear BK182;clear HB;have HO_3:=n0_;have HO195:=n1_;have HO198:=n2_;have BK181:=n3_;have BK182:=n4_;have HB:=n5_;clear n0_ n1_ n2_ n3_ n4_ n5_;(try clear hb);(try clear hb2);(try clear hk);(try clear hi);(try clear ho0);(try clear ho1);obtain ⟨Ao24,co24,eo24⟩:=Kd.R_slice HO195.out;subst eo24;have hcz25_0:w23.cell? ⟨gb182,0,none⟩=some (.slice none 0 0):=(blk_cell BK182.out 0).trans rfl;have hcz25_1:w23.cell? ⟨gb182,1,none⟩=some (.slice none 0 0):=(blk_cell BK182.out 1).trans rfl;have hfz25_0:=blk_frozen BK182.out 0;have hfz25_1:=blk_frozen BK182.out 1;obtain ⟨Ao26,co26,eo26⟩:=Kd.S_slice HO198.out;subst eo26))
     refine bodyPost_ret (results_cell_row rfl _ _ gb182 25 #[.slice Ao24 t193.length co24,.slice Ao26 t196.length co26] (0,0) _ rfl (by (with_reducible repeat (first|refine blk_drewN ?_ _|refine blk_drew ?_|refine blk_alloc ?_ _));refine blk_put (cs:=#[.slice Ao24 t193.length co24,.slice none 0 0]) ?_ 1 _ rfl;(with_reducible repeat (first|refine blk_drewN ?_ _|refine blk_drew ?_|refine blk_alloc ?_ _));refine blk_put (cs:=#[.slice none 0 0,.slice none 0 0]) ?_ 0 _ rfl;(with_reducible repeat (first|refine blk_drewN ?_ _|refine blk_drew ?_|refine blk_alloc ?_ _));exact BK182.out) Try.underlying25 rfl (by kernel_rfl)) rfl ?_
     exact ⟨_,_,by first|rfl|(simp [errW_none,errW_some] <;> rfl)|(simp [*,errW_none,errW_some] <;> rfl),by (with_reducible repeat (first|apply Kd.R_alloc|apply Kd.R_drewN|apply Kd.R_drew));exact Kd.R_mono (Kd.R_far (p:=⟨gb182,1,none⟩) (Kd.R_far (p:=⟨gb182,0,none⟩) (Kd.R_types HO195.out BK182.out (by decide)) (fun _ hk=>hk.2) (.slice Ao24 t193.length co24)) (fun _ hk=>hk.2) (.slice Ao26 t196.length co26)) (fun _ hk=>trivial),by (with_reducible repeat (first|apply Kd.S_alloc|apply Kd.S_drewN|apply Kd.S_drew));exact Kd.S_mono (Kd.S_far (p:=⟨gb182,1,none⟩) (Kd.S_far (p:=⟨gb182,0,none⟩) (Kd.S_types HO198.out BK182.out (by decide)) (fun _ hk=>hk.2) (.slice Ao24 t193.length co24)) (fun _ hk=>hk.2) (.slice Ao26 t196.length co26)) (fun _ hk=>hk.1),by repeat (first|(with_reducible first|exact HB.out|apply below_alloc|apply pw_below_drewN|apply below_drew1|refine below_set ?_ GE181.out|refine below_set ?_ GE182.out)|exact HB.out)⟩
end Go.Proofs.Ytfpdmlhknddffaa.Dk
end
section
namespace Go.Proofs.Ytfpdmlhknddffaa.Dk
open Go.RowKit Go.Proofs.YtfpdmlhknddffaaW.PrintWords Go.Proofs.YtfpdmlhknddffaaW.PrintLast Go.Proofs.YtfpdmlhknddffaaW.PrintMore
set_option linter.unusedVariables false
set_option linter.unusedSimpArgs false
theorem wrap_succ {i n:Nat} (h:i < n) (hn:n ≤ 9223372036854775807):wrap64 ((i:Int) + 1)=((i + 1:Nat):Int):=by
 unfold wrap64;omega
theorem wrap_id {x:Int} (h : -9223372036854775808 ≤ x) (h2:x ≤ 9223372036854775807):wrap64 x=x:=by
 unfold wrap64;omega
theorem rd_nat {xs:List Int} {i:Nat} (h:i < xs.length):rd xs (i:Int)=xs[i]:=by
 unfold rd;simp [List.getD,h]
theorem rd45_nat {xs:List S45} {i:Nat} (h:i < xs.length):rd_T45 xs (i:Int)=xs[i]:=by
 unfold rd_T45;simp [List.getD,h]
theorem ev_eq {α:Type} {g:Nat→Option α} {r r':α} (h:Ev g r) (e:r=r'):Ev g r':=e ▸ h
theorem ev_down {α:Type} {n:Nat} {g:Nat→Nat→Option α} {r:Nat→α} (hn:Ev (g n) (r n)) (hs:∀ i,i < n→Ev (g (i + 1)) (r (i + 1))→Ev (g i) (r i)):∀ i,i ≤ n→Ev (g i) (r i):=by
 have key:∀ d i,i + d=n→Ev (g i) (r i):=by
  intro d
  induction d with
  | zero =>
   intro i h
   obtain rfl:i=n:=by omega
   exact hn
  | succ d ih=>intro i h;exact hs i (by omega) (ih (i + 1) (by omega))
 intro i hi
 exact key (n - i) i (by omega)
theorem copy_ev (a:List Int) (ha:a.length < 140737488355328):Ev (fun k=>wageofficeref42_Copy.f k a) a:=by
 have key:=ev_down (n:=a.length) (g:=fun i k=>wageofficeref42_Copy.l0 k a (a.take i) (i:Int)) (r:=fun i=>a)
  (by
   refine Ev.step (f:=fun _=>some a) (fun k => ?_) (Ev.now a)
   simp only [wageofficeref42_Copy.l0]
   rw [if_neg (by omega),List.take_length])
  (by
   intro i hi ih
   refine Ev.step (f:=fun k=>wageofficeref42_Copy.l0 k a (a.take (i + 1)) ((i + 1:Nat):Int)) (fun k => ?_) ih
   simp only [wageofficeref42_Copy.l0]
   rw [if_pos (by omega),if_pos (by omega),if_pos (by rw [List.length_take];omega),rd_nat hi,wrap_succ hi (by omega),← List.take_succ_eq_append_getElem hi])
  0 (by omega)
 exact key
def Fit (l1:List S45):Prop:=l1.length ≤ 9223372036854775807∧∀ x ∈ l1,x.f1.length ≤ 9223372036854775807
theorem validB_false_of {l0:List Int} {l1:List S45} (h:¬ (l0.length ≤ 65536∧l1.length ≤ 64∧∀ x ∈ l1,0 ≤ x.f0∧x.f0 + x.f1.length ≤ l0.length)):validB l0 l1=false:=by
 cases hv:validB l0 l1
 · rfl
 · exact absurd ((validB_iff l0 l1).1 hv) h
theorem valid_ev (l0:List Int) (l1:List S45) (hf:Fit l1):Ev (fun k=>wageofficeref42_Valid.f k l0 l1) (validB l0 l1):=by
 by_cases h1:l0.length > 65536
 · rw [validB_false_of (fun h=>by omega)]
   refine Ev.congr (f:=fun k=>wageofficeref42_Valid.j0 k true l0 l1) (fun k => ?_) (Ev.step (f:=fun _=>some false) (fun k => ?_) (Ev.now false))
   · unfold wageofficeref42_Valid.f
     rw [if_pos (by omega)]
   · simp only [wageofficeref42_Valid.j0]
     rw [if_pos trivial]
 · by_cases h2:l1.length > 64
   · rw [validB_false_of (fun h=>by omega)]
     refine Ev.congr (f:=fun k=>wageofficeref42_Valid.j0 k true l0 l1) (fun k => ?_) (Ev.step (f:=fun _=>some false) (fun k => ?_) (Ev.now false))
     · unfold wageofficeref42_Valid.f
       rw [if_neg (by omega),decide_eq_true (by omega)]
     · simp only [wageofficeref42_Valid.j0]
       rw [if_pos trivial]
   · have key:=ev_down (n:=l1.length) (g:=fun i k=>wageofficeref42_Valid.l0 k (i:Int) l0 l1) (r:=fun i=>(l1.drop i).all fun x=>decide (0 ≤ x.f0∧x.f0 + x.f1.length ≤ l0.length))
      (by
       refine Ev.step (f:=fun _=>some true) (fun k => ?_) (ev_eq (Ev.now true) (by simp))
       simp only [wageofficeref42_Valid.l0]
       rw [if_neg (by omega)])
      (by
       intro i hi ih
       have hfi:=hf.2 l1[i] (List.getElem_mem _)
       have hd:l1.drop i=l1[i] :: l1.drop (i + 1):=List.drop_eq_getElem_cons hi
       have hw:wrap64 ((l0.length:Int) - (l1[i].f1.length:Int))=(l0.length:Int) - (l1[i].f1.length:Int):=wrap_id (by omega) (by omega)
       by_cases e1:l1[i].f0 < 0
       · refine Ev.step (f:=fun _=>some false) (fun k => ?_) (ev_eq (Ev.now false) ?_)
         · simp only [wageofficeref42_Valid.l0]
           rw [if_pos (by omega),if_pos (by omega),rd45_nat hi,if_pos e1]
         · rw [hd,List.all_cons,decide_eq_false (by omega)];rfl
       · by_cases e2:l1[i].f0 > (l0.length:Int) - (l1[i].f1.length:Int)
         · refine Ev.step (f:=fun _=>some false) (fun k => ?_) (ev_eq (Ev.now false) ?_)
           · simp only [wageofficeref42_Valid.l0]
             rw [if_pos (by omega),if_pos (by omega),rd45_nat hi,if_neg e1,hw,if_pos e2]
           · rw [hd,List.all_cons,decide_eq_false (by omega)];rfl
         · refine Ev.step (f:=fun k=>wageofficeref42_Valid.l0 k ((i + 1:Nat):Int) l0 l1) (fun k => ?_) (ev_eq ih ?_)
           · simp only [wageofficeref42_Valid.l0]
             rw [if_pos (by omega),if_pos (by omega),rd45_nat hi,if_neg e1,hw,if_neg e2,wrap_succ hi (by omega)]
           · rw [hd,List.all_cons,decide_eq_true (by omega),Bool.true_and])
      0 (by omega)
     refine Ev.congr (f:=fun k=>wageofficeref42_Valid.j0 k false l0 l1) (fun k => ?_) (Ev.step (f:=fun k=>wageofficeref42_Valid.l0 k 0 l0 l1) (fun k => ?_) (ev_eq key ?_))
     · unfold wageofficeref42_Valid.f
       rw [if_neg (by omega),decide_eq_false (by omega)]
     · simp only [wageofficeref42_Valid.j0]
       rw [if_neg (by simp)]
     · rw [Bool.eq_iff_iff,validB_iff]
       simp only [List.drop_zero,List.all_eq_true,decide_eq_true_eq]
       constructor
       · intro h;exact ⟨by omega,by omega,h⟩
       · intro h;exact h.2.2
theorem s45_iff (a b:S45):(a.f0=b.f0∧a.f1=b.f1)↔a=b:=by
 cases a;cases b;simp
instance s45_dec:DecidableEq S45:=fun a b=>decidable_of_iff _ (s45_iff a b)
end Go.Proofs.Ytfpdmlhknddffaa.Dk
end
section
namespace Go.Proofs.Ytfpdmlhknddffaa.Dk
open Go.RowKit Go.Proofs.YtfpdmlhknddffaaW.PrintWords Go.Proofs.YtfpdmlhknddffaaW.PrintLast Go.Proofs.YtfpdmlhknddffaaW.PrintMore
set_option linter.unusedVariables false
set_option linter.unusedSimpArgs false
theorem splice_nil {α:Type} (L:List α) (off:Nat):splice L off []=L:=by
 unfold splice;simp
theorem splice_get {α:Type} (L:List α) (off:Nat) (cs:List α) (h:off + cs.length ≤ L.length) (i:Nat):(splice L off cs)[i]? = if i < off then L[i]? else if i < off + cs.length then cs[i - off]? else L[i]?:=by
 unfold splice
 rw [List.getElem?_append,List.length_take,Nat.min_eq_left (by omega)]
 by_cases h1:i < off
 · rw [if_pos h1,if_pos h1,List.getElem?_take_of_lt h1]
 · rw [if_neg h1,if_neg h1,List.getElem?_append]
   by_cases h2:i < off + cs.length
   · rw [if_pos (by omega),if_pos h2]
   · rw [if_neg (by omega),if_neg h2,List.getElem?_drop]
     congr 1
     omega
theorem splice_set (L:List Int) (off:Nat) (d:List Int) (j:Nat) (hj:j < d.length) (h:off + d.length ≤ L.length):(splice L off (d.take j)).set (off + j) d[j]=splice L off (d.take (j + 1)):=by
 apply List.ext_getElem?
 intro i
 have hl:(d.take j).length=j:=by rw [List.length_take];omega
 have hl2:(d.take (j + 1)).length=j + 1:=by rw [List.length_take];omega
 rw [List.getElem?_set,splice_length _ _ _ (by omega),splice_get _ _ _ (by omega),splice_get _ _ _ (by omega),hl,hl2]
 by_cases e:off + j=i
 · subst e
   rw [if_pos rfl,if_pos (by omega),if_neg (by omega),if_pos (by omega),show off + j - off=j by omega,List.getElem?_take_of_lt (by omega),List.getElem?_eq_getElem hj]
 · rw [if_neg e]
   by_cases h1:i < off
   · rw [if_pos h1,if_pos h1]
   · rw [if_neg h1,if_neg h1]
     by_cases h2:i < off + j
     · rw [if_pos h2,if_pos (by omega),List.getElem?_take_of_lt (by omega),List.getElem?_take_of_lt (by omega)]
     · rw [if_neg h2,if_neg (by omega)]
theorem keptN_spec (k:Int) (n j:Nat):(j < keptN k n→j < n∧(j:Int) < k)∧(¬ j < keptN k n→¬ (j < n)∨¬ ((j:Int) < k)):=by
 unfold keptN
 constructor <;> intro h <;> omega
theorem applyN_stay (ks:List Int) (l1:List S45) (l0:List Int):∀ d,applyN (keptK ks) l1 l0 (ks.length + d)=applyN (keptK ks) l1 l0 ks.length:=by
 intro d
 induction d with
 | zero=>rfl
 | succ d ih =>
  show splice (applyN (keptK ks) l1 l0 (ks.length + d)) _ (List.take (keptN (keptK ks (ks.length + d)) _) _)=_
  have hk:keptK ks (ks.length + d)=0:=by unfold keptK;simp [List.getD]
  rw [hk,show ∀ n,keptN 0 n=0 from fun n=>by unfold keptN;omega,List.take_zero,splice_nil,ih]
theorem crash_ev (l0:List Int) (l1:List S45) (ks:List Int) (hf:Fit l1) (h0:l0.length < 140737488355328) (hks:ks.length ≤ 9223372036854775807):Ev (fun k=>wageofficeref42_Crash.f k l0 l1 ks) (crashL l0 l1 ks,[]):=by
 unfold wageofficeref42_Crash.f crashL
 refine Ev.bind (f:=fun k t=>if t=true then (wageofficeref42_Copy.f k l0).bind fun t172=>wageofficeref42_Crash.l0 k ks 0 l0 l1 t172 else some (([]:List Int),([]:List S45))) (valid_ev l0 l1 hf) ?_
 cases hv:validB l0 l1
 · exact Ev.congr (f:=fun _=>some (([]:List Int),([]:List S45))) (fun k=>by rw [if_neg (by simp)]) (ev_eq (Ev.now _) (by simp))
 · have Hv:=(validB_iff l0 l1).1 hv
   refine Ev.congr (f:=fun k=>(wageofficeref42_Copy.f k l0).bind fun t172=>wageofficeref42_Crash.l0 k ks 0 l0 l1 t172) (fun k=>by rw [if_pos rfl]) ?_
   refine Ev.bind (f:=fun k t=>wageofficeref42_Crash.l0 k ks 0 l0 l1 t) (copy_ev l0 h0) ?_
   rw [if_pos rfl]
   have hlen:=applyN_length (keptK ks) l0 l1 hv
   have key:=ev_down (n:=min l1.length ks.length) (g:=fun i k=>wageofficeref42_Crash.l0 k ks (i:Int) l0 l1 (applyN (keptK ks) l1 l0 i)) (r:=fun _=>(applyL (keptK ks) l1 l0,([]:List S45)))
    (by
     have hfin:applyN (keptK ks) l1 l0 (min l1.length ks.length)=applyL (keptK ks) l1 l0:=by
      unfold applyL
      rcases Nat.le_total l1.length ks.length with h|h
      · rw [Nat.min_eq_left h]
      · rw [Nat.min_eq_right h]
        have:=applyN_stay ks l1 l0 (l1.length - ks.length)
        rw [show ks.length + (l1.length - ks.length)=l1.length by omega] at this
        exact this.symm
     rw [hfin]
     by_cases e:min l1.length ks.length < l1.length
     · refine Ev.step (f:=fun k=>wageofficeref42_Crash.j1 k ks ((min l1.length ks.length:Nat):Int) false l0 l1 (applyL (keptK ks) l1 l0)) (fun k => ?_) (Ev.step (f:=fun _=>some (applyL (keptK ks) l1 l0,([]:List S45))) (fun k => ?_) (Ev.now _))
       · simp only [wageofficeref42_Crash.l0]
         rw [if_pos (by omega),decide_eq_false (by omega)]
       · simp only [wageofficeref42_Crash.j1]
         rw [if_neg (by simp)]
     · refine Ev.step (f:=fun k=>wageofficeref42_Crash.j1 k ks ((min l1.length ks.length:Nat):Int) false l0 l1 (applyL (keptK ks) l1 l0)) (fun k => ?_) (Ev.step (f:=fun _=>some (applyL (keptK ks) l1 l0,([]:List S45))) (fun k => ?_) (Ev.now _))
       · simp only [wageofficeref42_Crash.l0]
         rw [if_neg (by omega)]
       · simp only [wageofficeref42_Crash.j1]
         rw [if_neg (by simp)])
    (by
     intro i hi ih
     have hi1:i < l1.length:=by omega
     have hi2:i < ks.length:=by omega
     have hx:=Hv.2.2 l1[i] (List.getElem_mem _)
     have hlo:=hlen i (by omega)
     obtain ⟨out,hout⟩:∃ out,out=applyN (keptK ks) l1 l0 i:=⟨_,rfl⟩
     have hgd:l1.getD i z45=l1[i]:=by simp [List.getD,hi1]
     have hkd:keptK ks i=ks[i]:=by unfold keptK;simp [List.getD,hi2]
     have hnext:applyN (keptK ks) l1 l0 (i + 1)=splice out l1[i].f0.toNat (l1[i].f1.take (keptN ks[i] l1[i].f1.length)):=by
      show splice (applyN (keptK ks) l1 l0 i) (l1.getD i z45).f0.toNat ((l1.getD i z45).f1.take (keptN (keptK ks i) (l1.getD i z45).f1.length))=_
      rw [hgd,hkd,← hout]
     rw [hnext] at ih
     rw [← hout] at hlo ⊢
     have hkn:=keptN_le ks[i] l1[i].f1.length
     have inner:=ev_down (n:=keptN ks[i] l1[i].f1.length) (g:=fun j k=>wageofficeref42_Crash.l1 k ks (i:Int) (j:Int) l0 l1 (splice out l1[i].f0.toNat (l1[i].f1.take j)) l1[i].f0 l1[i].f1) (r:=fun _=>(applyL (keptK ks) l1 l0,([]:List S45)))
      (by
       refine Ev.step (f:=fun k=>wageofficeref42_Crash.l0 k ks ((i + 1:Nat):Int) l0 l1 (splice out l1[i].f0.toNat (l1[i].f1.take (keptN ks[i] l1[i].f1.length)))) (fun k => ?_) ih
       simp only [wageofficeref42_Crash.l1]
       rcases (keptN_spec ks[i] l1[i].f1.length (keptN ks[i] l1[i].f1.length)).2 (Nat.lt_irrefl _) with e|e
       · rw [if_neg (by omega),wrap_succ hi2 hks]
       · by_cases e2:((keptN ks[i] l1[i].f1.length:Nat):Int) < (l1[i].f1.length:Int)
         · rw [if_pos e2,if_pos (by omega),if_pos (by omega),rd_nat hi2,if_neg e,wrap_succ hi2 hks]
         · rw [if_neg e2,wrap_succ hi2 hks])
      (by
       intro j hj ihj
       obtain ⟨hj1,hj2⟩:=(keptN_spec ks[i] l1[i].f1.length j).1 hj
       have hw:wrap64 (l1[i].f0 + (j:Int))=l1[i].f0 + j:=wrap_id (by omega) (by omega)
       have hsl:(splice out l1[i].f0.toNat (l1[i].f1.take j)).length=out.length:=splice_length _ _ _ (by rw [List.length_take];omega)
       refine Ev.step (f:=fun k=>wageofficeref42_Crash.l1 k ks (i:Int) ((j + 1:Nat):Int) l0 l1 (splice out l1[i].f0.toNat (l1[i].f1.take (j + 1))) l1[i].f0 l1[i].f1) (fun k => ?_) ihj
       simp only [wageofficeref42_Crash.l1]
       rw [if_pos (by omega),if_pos (by omega),if_pos (by omega),rd_nat hi2,if_pos hj2,if_pos (by omega),hw,if_pos (by omega),if_pos (by rw [hsl];omega),rd_nat hj1,wrap_succ hj1 (hf.2 _ (List.getElem_mem _))]
       rw [show (l1[i].f0 + (j:Int)).toNat=l1[i].f0.toNat + j by omega,splice_set _ _ _ _ hj1 (by omega)])
      0 (by omega)
     rw [List.take_zero,splice_nil] at inner
     refine Ev.step (f:=fun k=>wageofficeref42_Crash.j1 k ks (i:Int) true l0 l1 out) (fun k => ?_) (Ev.step (f:=fun k=>wageofficeref42_Crash.l1 k ks (i:Int) 0 l0 l1 out l1[i].f0 l1[i].f1) (fun k => ?_) inner)
     · simp only [wageofficeref42_Crash.l0]
       rw [if_pos (by omega),decide_eq_true (by omega)]
     · simp only [wageofficeref42_Crash.j1]
       rw [if_pos trivial,if_pos (by omega),if_pos (by omega),rd45_nat hi1])
    0 (by omega)
   exact key
theorem applyN_congr (f g:Nat→Int) (l1:List S45) (l0:List Int):∀ n,(∀ i,i < n→f i=g i)→applyN f l1 l0 n=applyN g l1 l0 n:=by
 intro n
 induction n with
 | zero=>intro _;rfl
 | succ n ih =>
  intro h
  show splice (applyN f l1 l0 n) _ (List.take (keptN (f n) _) _)=splice (applyN g l1 l0 n) _ (List.take (keptN (g n) _) _)
  rw [ih (fun i hi=>h i (by omega)),h n (by omega)]
def lens (l1:List S45):List Int:=l1.map fun x=>(x.f1.length:Int)
theorem crash_lens (l0:List Int) (l1:List S45):crashL l0 l1 (lens l1)=syncL l0 l1:=by
 unfold crashL syncL applyL
 split
 · refine applyN_congr _ _ _ _ _ (fun i hi => ?_)
   unfold keptK wholeK lens
   simp [List.getD,hi]
 · rfl
theorem sync_ev (l0:List Int) (l1:List S45) (hf:Fit l1) (h0:l0.length < 140737488355328):Ev (fun k=>wageofficeref42_Sync.f k l0 l1) (syncL l0 l1,[]):=by
 have hbad:64 < l1.length→validB l0 l1=false:=fun h=>validB_false_of (fun h2=>by omega)
 have hend:∀ ks:List Int,ks=(lens l1).take (min l1.length 65)→Ev (fun k=>(wageofficeref42_Crash.f k l0 l1 ks).bind fun bt=>some (bt.1,bt.2)) (syncL l0 l1,[]):=by
  intro ks hks
  have hks2:ks.length ≤ 65:=by rw [hks,List.length_take];omega
  refine ev_eq (Ev.bind (f:=fun k bt=>some (bt.1,bt.2)) (crash_ev l0 l1 ks hf h0 (by omega)) (Ev.now _)) ?_
  by_cases h:64 < l1.length
  · unfold crashL syncL
    rw [hbad h]
    simp
  · have e:ks=lens l1:=by
     rw [hks,Nat.min_eq_left (by omega),List.take_of_length_le (by unfold lens;simp)]
    rw [e,crash_lens]
 have key:=ev_down (n:=min l1.length 65) (g:=fun i k=>wageofficeref42_Sync.l0 k ((lens l1).take i) (i:Int) l0 l1) (r:=fun _=>(syncL l0 l1,([]:List S45)))
  (by
   refine Ev.step (f:=fun k=>(wageofficeref42_Crash.f k l0 l1 ((lens l1).take (min l1.length 65))).bind fun bt=>some (bt.1,bt.2)) (fun k => ?_) (hend _ rfl)
   simp only [wageofficeref42_Sync.l0]
   by_cases h:l1.length ≤ 65
   · rw [if_neg (by omega)]
   · rw [if_pos (by omega),if_neg (by omega)])
  (by
   intro i hi ih
   have hi1:i < l1.length:=by omega
   have hl:i < (lens l1).length:=by unfold lens;simpa using hi1
   refine Ev.step (f:=fun k=>wageofficeref42_Sync.l0 k ((lens l1).take (i + 1)) ((i + 1:Nat):Int) l0 l1) (fun k => ?_) ih
   simp only [wageofficeref42_Sync.l0]
   rw [if_pos (by omega),if_pos (by omega),if_pos (by omega),if_pos (by rw [List.length_take];omega),rd45_nat hi1,wrap_succ hi1 hf.1,List.take_succ_eq_append_getElem hl,show (lens l1)[i]=(l1[i].f1.length:Int) from (by simp [lens])])
  0 (by omega)
 exact key
def wageofficeref42_Read.f (l0_0:List Int) (l0_1:List (S45)) (a1 a2:Int):Option (List Int × Int):=some (readL l0_0 l0_1 a1 a2,if readOk l0_0 l0_1 a1 a2=true then 0 else 1)
end Go.Proofs.Ytfpdmlhknddffaa.Dk
end
