/- Contracts of functions, and plain laws, that the statement's proof uses; printed and joined by programs of this session. -/
import Derived.Test.YtfpdmlhknddffaaG1
import Derived.Test.YtfpdmlhknddffaaProg
import Derived.Below
import Derived.Deep.Draws
import Derived.Deep.AppendLies
import Derived.Maps.AppendAt
import Derived.OwnWalk
import Derived.Laws.BytesArg
import Derived.Laws.MakeOwn
import Derived.Laws.OwnMore
import Derived.Deep.OwnRows
import Derived.Tactics
import Derived.Lib.ConvBytes
import Derived.Laws.Slices
import Derived.WalkKit
import Derived.KernelRfl
import Derived.RowKit3
import Derived.Deep.LoopGhost
import Derived.Deep.QuietTactic
import Derived.BigQuiet
import Derived.WideLaws
import Derived.Deep.DeepCutAuto
import Derived.Deep.CutBlock
import Derived.Deep.RegionHeld3
import Derived.Laws.Rows
import Derived.Lib.AppendStr
import Derived.ArgAppend
import Derived.Laws.IdiomCopy
import Derived.OrdersHeld
import Derived.Laws.BitsLemmas
import Derived.RowKit
import Derived.Outline
import Derived.Lib.Hide
import Derived.WalkSpells
import Derived.Laws.CopyOwn
import Derived.StillTailTactics
section
namespace Go.Proofs.Ytfpdmlhknddffaa.Dk
open Go.RowKit Go.Proofs.YtfpdmlhknddffaaW.PrintWords Go.Proofs.YtfpdmlhknddffaaW.PrintLast Go.Proofs.YtfpdmlhknddffaaW.PrintMore
attribute [local go_sem] max2_int min2_int max_two min_two max_three min_three max_four min_four
set_option linter.unusedVariables false
set_option linter.unusedSimpArgs false
def errW:Option Int→Value
 | none=>.nilIface
 | some c=>.iface 0 (.int .i64 c)
theorem errW_none:errW none=.nilIface:=rfl
theorem errW_some (c:Int):errW (some c)=.iface 0 (.int .i64 c):=rfl
theorem info3:(Try.prog.info? 3).map (fun i=>(i.zero,i.size,i.bytes))=some (some (.int .i64 0),1,8):=by kernel_rfl
theorem info5:(Try.prog.info? 5).map (fun i=>(i.zero,i.size,i.bytes))=some (some (.int .u8 0),1,1):=by kernel_rfl
theorem info45:(Try.prog.info? 45).map (fun i=>(i.zero,i.size,i.bytes))=some (some (.agg #[(.int .i64 0),(.slice none 0 0)]),2,32):=by kernel_rfl
def rd_L2 (xs:List (List Int)) (i:Int):(List Int):=xs.getD i.toNat ([]:List Int)
theorem at_L2 {w:World} {A:Option Addr} {n:Nat} {xs:List (List Int)} (h:Kd.C (Kd.slice 5 (Kd.int .u8)) w A n xs) (i:Int) (h0:0 ≤ i) (h1:i < n):∃ ad A0 c0,A=some ad∧w.cell? (ad.add i.toNat)=some (.slice A0 (rd_L2 xs i).length c0)∧(rd_L2 xs i).length ≤ c0∧(Kd.int .u8).C w A0 (rd_L2 xs i).length (rd_L2 xs i):=by
 obtain ⟨ad,c,e,_,hK,hc0⟩:=Kd.C_get h ([]:List Int) i h0 h1
 have hc:∀ j u,c[j]? = some u→w.cell? (ad.add (i.toNat * 1 + j))=some u:=hc0
 obtain ⟨A0,c0,rfl,l0,g0⟩:=hK
 exact ⟨ad,A0,c0,e,by have hq:=hc 0 _ rfl;rwa [Nat.mul_one,Nat.add_zero] at hq,l0,g0⟩
structure S45 where
 f0:Int
 f1:(List Int)
def z45:S45:=⟨(0:Int),([]:List Int)⟩
def k45:Kd S45:=Kd.iso (Kd.pair (Kd.int .i64) (Kd.slice 5 (Kd.int .u8))) (fun x:S45=>(x.f0,x.f1))
theorem k45_open {w:World} {x:S45} {cs:List Value} (h:k45.K w x cs):∃ A1 c1,cs=[.int .i64 x.f0,.slice A1 x.f1.length c1]∧x.f1.length ≤ c1∧(Kd.int .u8).C w A1 x.f1.length x.f1:=by
 obtain ⟨_,_,rfl,rfl,⟨A1,c1,rfl,l1,g1⟩⟩:=h
 exact ⟨A1,c1,rfl,l1,g1⟩
theorem k45_mk (w:World) (x:S45) {A1:Option Addr} {c1:Nat} (l1:x.f1.length ≤ c1) (g1:(Kd.int .u8).C w A1 x.f1.length x.f1):k45.K w x [.int .i64 x.f0,.slice A1 x.f1.length c1]:=⟨[.int .i64 x.f0],[.slice A1 x.f1.length c1],rfl,rfl,⟨A1,c1,rfl,l1,g1⟩⟩
theorem k45_mkM (w:World) (base:Nat) (ok:Nat→Prop) (x:S45) {v1:Value} (g1:(Kd.int .u8).R 5 w base ok v1 x.f1):k45.M w base ok x [.int .i64 x.f0,v1]:=⟨[.int .i64 x.f0],[v1],rfl,rfl,⟨v1,rfl,g1⟩⟩
def rd_T45 (xs:List S45) (i:Int):S45:=xs.getD i.toNat z45
theorem at_T45 {w:World} {A:Option Addr} {n:Nat} {xs:List S45} (h:Kd.C k45 w A n xs) (i:Int) (h0:0 ≤ i) (h1:i < n):∃ ad A1 c1,A=some ad∧w.cell? (ad.add (i.toNat * 2))=some (.int .i64 (rd_T45 xs i).f0)∧w.cell? ⟨(ad.add (i.toNat * 2)).block,(ad.add (i.toNat * 2)).off + 1,none⟩=some (.slice A1 (rd_T45 xs i).f1.length c1)∧(rd_T45 xs i).f1.length ≤ c1∧(Kd.int .u8).C w A1 (rd_T45 xs i).f1.length (rd_T45 xs i).f1:=by
 obtain ⟨ad,c,e,_,hK,hc0⟩:=Kd.C_get h z45 i h0 h1
 have hc:∀ j u,c[j]? = some u→w.cell? (ad.add (i.toNat * 2 + j))=some u:=hc0
 obtain ⟨A1,c1,rfl,l1,g1⟩:=k45_open hK
 exact ⟨ad,A1,c1,e,hc 0 _ rfl,by rw [← add_field _ _ 1 (by omega)];exact hc 1 _ rfl,l1,g1⟩
end Go.Proofs.Ytfpdmlhknddffaa.Dk
end
section
namespace Go.Proofs.Ytfpdmlhknddffaa.Dk
open Go.RowKit Go.Proofs.YtfpdmlhknddffaaW.PrintWords Go.Proofs.YtfpdmlhknddffaaW.PrintLast Go.Proofs.YtfpdmlhknddffaaW.PrintMore
attribute [local go_sem] max2_int min2_int max_two min_two max_three min_three max_four min_four
set_option linter.unusedVariables false
set_option linter.unusedSimpArgs false
def disk_New.f (a0:Int):Option (List Int × (List (S45)) × Int):=if a0 < 0 then (some (([]:List Int),([]:List (S45)),1)) else (if a0 > 65536 then (some (([]:List Int),([]:List (S45)),1)) else (if 0 ≤ a0 then (if (a0:Int).toNat ≤ 281474976710656 then (some ((List.replicate (a0:Int).toNat 0),([]:List (S45)),0)) else (none)) else (none)))
set_option maxHeartbeats 8000000 in
set_option maxRecDepth 100000 in
theorem disk_New.calls (a0:Int) (r1:List Int) (r2:List (S45)) (r3:Int) (w:World) (h:disk_New.f a0=some (r1,r2,r3)) :
 Calls Try.prog 17 #[.int .i64 a0] w fun e w'=>∃ v0_ v1_:Value,e=.returned (.tuple #[.agg #[v0_,v1_],.int .i64 r3])∧Kd.R (Kd.int .u8) 5 w' w.heap.size (fun _=>True) v0_ r1∧Kd.S k45 45 w' w.heap.size (fun k_=>some k_ ≠ (v0_:Value).ownBlock) v1_ r2∧Below w.heap.size w w':=by
 have hu25:=Try.underlying25
 have HB:=Aside0.mk (Below.refl w.heap.size w)
 have H:(if a0 < 0 then (some (([]:List Int),([]:List (S45)),1)) else (if a0 > 65536 then (some (([]:List Int),([]:List (S45)),1)) else (if 0 ≤ a0 then (if (a0:Int).toNat ≤ 281474976710656 then (some ((List.replicate (a0:Int).toNat 0),([]:List (S45)),0)) else (none)) else (none))))=some (r1,r2,r3):=h
 clear h
 by_cases c2:a0 < 0
 · rw [if_pos c2] at H
   have c2b0:decide (a0 < 0)=true:=decide_eq_true c2
   clear c2
   simp only [Option.some.injEq,Prod.mk.injEq] at H
   obtain ⟨rfl,rfl,rfl⟩:=H
   go_enter Try.func17,Try.ntmps17
   go_wp2_with (first|((with_reducible refine gate_dst (N:=2) rfl ?_);refine box_event ?hg (N:=2) ?hd (cs:=#[.slice none 0 0,.slice none 0 0]) (t:=25) ?hr ?_;(case hd=>rfl);(case hg=>rfl);(case hr=>first|(go_simp;done)|(go_simp;rfl));intro gb101 hg w3 hbox hb;have n0_:=Aside0.mk (below_step (by repeat (first|(with_reducible first|exact HB.out|apply below_alloc|apply pw_below_drewN|apply below_drew1)|exact HB.out)) hb);have n1_:=Aside0.mk (hbox);have n2_:=Aside0.mk ((by rw [hg];exact (below_size (by repeat (first|(with_reducible first|exact HB.out|apply below_alloc|apply pw_below_drewN|apply below_drew1)|exact HB.out))):w.heap.size ≤ gb101));have n3_:=Aside0.mk ((by rw [hg];exact (below_size (by repeat (first|(with_reducible first|exact HB.out|apply below_alloc|apply pw_below_drewN|apply below_drew1)|exact HB.out))):w.heap.size ≤ gb101));clear HB;have HB:=n0_;have BK101:=n1_;have GW101:=n2_;have GE101:=n3_;clear n0_ n1_ n2_ n3_;clear hb hbox hg;have hcz4_0:w3.cell? ⟨gb101,0,none⟩=some (.slice none 0 0):=(blk_cell BK101.out 0).trans rfl;have hcz4_1:w3.cell? ⟨gb101,1,none⟩=some (.slice none 0 0):=(blk_cell BK101.out 1).trans rfl;have hfz4_0:=blk_frozen BK101.out 0;have hfz4_1:=blk_frozen BK101.out 1))
   refine bodyPost_ret (results_ct rfl _ _ gb101 25 #[.slice none 0 0,.slice none 0 0] (0,0) _ rfl (by (with_reducible repeat (first|refine blk_drewN ?_ _|refine blk_drew ?_|refine blk_alloc ?_ _));refine blk_put (cs:=#[.slice none 0 0,.slice none 0 0]) ?_ 1 _ rfl;(with_reducible repeat (first|refine blk_drewN ?_ _|refine blk_drew ?_|refine blk_alloc ?_ _));refine blk_put (cs:=#[.slice none 0 0,.slice none 0 0]) ?_ 0 _ rfl;(with_reducible repeat (first|refine blk_drewN ?_ _|refine blk_drew ?_|refine blk_alloc ?_ _));exact BK101.out) Try.underlying25 rfl (by kernel_rfl)) rfl ?_
   exact ⟨_,_,by first|rfl|(simp [errW_none,errW_some] <;> rfl)|(simp [*,errW_none,errW_some] <;> rfl),by first|exact Kd.R_nil _ _ _ _ _|exact Kd.N_nil _ _ _ _ _|exact Kd.V_nil _ _ _ _ _|exact Kd.Q_nil _ _ _ _ _|exact Kd.S_nil _ _ _ _ _,by first|exact Kd.S_nil _ _ _ _ _|exact Kd.N_nil _ _ _ _ _|exact Kd.V_nil _ _ _ _ _|exact Kd.Q_nil _ _ _ _ _|exact Kd.R_nil _ _ _ _ _,by repeat (first|(with_reducible first|exact HB.out|apply below_alloc|apply pw_below_drewN|apply below_drew1|refine below_set ?_ GE101.out)|exact HB.out)⟩
 · rw [if_neg c2] at H
   have c2b0:decide (a0 < 0)=false:=decide_eq_false c2
   clear c2
   by_cases c5:a0 > 65536
   · rw [if_pos c5] at H
     have c5b0:decide (65536 < a0)=true:=decide_eq_true c5
     clear c5
     simp only [Option.some.injEq,Prod.mk.injEq] at H
     obtain ⟨rfl,rfl,rfl⟩:=H
     go_enter Try.func17,Try.ntmps17
     go_wp2_with (first|((with_reducible refine gate_dst (N:=2) rfl ?_);refine box_event ?hg (N:=2) ?hd (cs:=#[.slice none 0 0,.slice none 0 0]) (t:=25) ?hr ?_;(case hd=>rfl);(case hg=>rfl);(case hr=>first|(go_simp;done)|(go_simp;rfl));intro gb101 hg w6 hbox hb;have n0_:=Aside0.mk (below_step (by repeat (first|(with_reducible first|exact HB.out|apply below_alloc|apply pw_below_drewN|apply below_drew1)|exact HB.out)) hb);have n1_:=Aside0.mk (hbox);have n2_:=Aside0.mk ((by rw [hg];exact (below_size (by repeat (first|(with_reducible first|exact HB.out|apply below_alloc|apply pw_below_drewN|apply below_drew1)|exact HB.out))):w.heap.size ≤ gb101));have n3_:=Aside0.mk ((by rw [hg];exact (below_size (by repeat (first|(with_reducible first|exact HB.out|apply below_alloc|apply pw_below_drewN|apply below_drew1)|exact HB.out))):w.heap.size ≤ gb101));clear HB;have HB:=n0_;have BK101:=n1_;have GW101:=n2_;have GE101:=n3_;clear n0_ n1_ n2_ n3_;clear hb hbox hg;have hcz7_0:w6.cell? ⟨gb101,0,none⟩=some (.slice none 0 0):=(blk_cell BK101.out 0).trans rfl;have hcz7_1:w6.cell? ⟨gb101,1,none⟩=some (.slice none 0 0):=(blk_cell BK101.out 1).trans rfl;have hfz7_0:=blk_frozen BK101.out 0;have hfz7_1:=blk_frozen BK101.out 1))
     refine bodyPost_ret (results_ct rfl _ _ gb101 25 #[.slice none 0 0,.slice none 0 0] (0,0) _ rfl (by (with_reducible repeat (first|refine blk_drewN ?_ _|refine blk_drew ?_|refine blk_alloc ?_ _));refine blk_put (cs:=#[.slice none 0 0,.slice none 0 0]) ?_ 1 _ rfl;(with_reducible repeat (first|refine blk_drewN ?_ _|refine blk_drew ?_|refine blk_alloc ?_ _));refine blk_put (cs:=#[.slice none 0 0,.slice none 0 0]) ?_ 0 _ rfl;(with_reducible repeat (first|refine blk_drewN ?_ _|refine blk_drew ?_|refine blk_alloc ?_ _));exact BK101.out) Try.underlying25 rfl (by kernel_rfl)) rfl ?_
     exact ⟨_,_,by first|rfl|(simp [errW_none,errW_some] <;> rfl)|(simp [*,errW_none,errW_some] <;> rfl),by first|exact Kd.R_nil _ _ _ _ _|exact Kd.N_nil _ _ _ _ _|exact Kd.V_nil _ _ _ _ _|exact Kd.Q_nil _ _ _ _ _|exact Kd.S_nil _ _ _ _ _,by first|exact Kd.S_nil _ _ _ _ _|exact Kd.N_nil _ _ _ _ _|exact Kd.V_nil _ _ _ _ _|exact Kd.Q_nil _ _ _ _ _|exact Kd.R_nil _ _ _ _ _,by repeat (first|(with_reducible first|exact HB.out|apply below_alloc|apply pw_below_drewN|apply below_drew1|refine below_set ?_ GE101.out)|exact HB.out)⟩
   · rw [if_neg c5] at H
     have c5b0:decide (65536 < a0)=false:=decide_eq_false c5
     clear c5
     by_cases c8:0 ≤ a0
     · rw [if_pos c8] at H
       have c8b0:=eq_true c8
       have c8b1:decide (0 ≤ a0)=true:=decide_eq_true c8
       clear c8
       by_cases c9:(a0:Int).toNat ≤ 281474976710656
       · rw [if_pos c9] at H
         have c9b0:=eq_true c9
         have c9b1:decide ((a0:Int).toNat ≤ 281474976710656)=true:=decide_eq_true c9
         clear c9
         obtain ⟨y102,hy102⟩:∃ y_:List Int,y_=(List.replicate (a0:Int).toNat 0):=⟨_,rfl⟩
         replace H:(some (y102,([]:List (S45)),0))=some (r1,r2,r3):=by first|(rw [hy102];with_reducible exact H)|(have H2_:=(Option.bind_some _ _).symm.trans H;rw [hy102];with_reducible exact H2_)|(have H2_:=(Option.bind_some _ _).symm.trans H;with_reducible exact H2_)|with_reducible exact H|(rw [hy102];exact H)|exact H
         have Ny102:=Aside0.mk hy102
         clear hy102
         simp only [Option.some.injEq,Prod.mk.injEq] at H
         obtain ⟨rfl,rfl,rfl⟩:=H
         go_enter Try.func17,Try.ntmps17
         go_wp2_with (first|((with_reducible refine gate_dst (N:=2) rfl ?_);refine box_event ?hg (N:=2) ?hd (cs:=#[.slice none 0 0,.slice none 0 0]) (t:=25) ?hr ?_;(case hd=>rfl);(case hg=>rfl);(case hr=>first|(go_simp;done)|(go_simp;rfl));intro gb101 hg w10 hbox hb;have n0_:=Aside0.mk (below_step (by repeat (first|(with_reducible first|exact HB.out|apply below_alloc|apply pw_below_drewN|apply below_drew1)|exact HB.out)) hb);have n1_:=Aside0.mk (hbox);have n2_:=Aside0.mk ((by rw [hg];exact (below_size (by repeat (first|(with_reducible first|exact HB.out|apply below_alloc|apply pw_below_drewN|apply below_drew1)|exact HB.out))):w.heap.size ≤ gb101));have n3_:=Aside0.mk ((by rw [hg];exact (below_size (by repeat (first|(with_reducible first|exact HB.out|apply below_alloc|apply pw_below_drewN|apply below_drew1)|exact HB.out))):w.heap.size ≤ gb101));clear HB;have HB:=n0_;have BK101:=n1_;have GW101:=n2_;have GE101:=n3_;clear n0_ n1_ n2_ n3_;clear hb hbox hg)|((with_reducible refine gate_dst (N:=12) rfl ?_);refine Kd.R_make (Kd.int .u8) _ 5 rfl (N:=12) rfl 22 _ _ rfl a0 rfl rfl Try.underlying22 (.int .u8 0) 1 info5 rfl (by decide) (by omega) 0 (ok:=fun _=>True) (okp:=fun _=>True) rfl (fun _ hk=>hk) trivial (of_decide_eq_true (by first|(with_reducible assumption)|assumption)) (Nat.le_trans (Nat.mul_le_mul_right _ (of_decide_eq_true (by first|(with_reducible assumption)|assumption):a0.toNat ≤ 281474976710656)) (by omega)) (Below.refl _ _) (Nat.le_refl _) ?_;intro v103 w11 ho12 hb hg_ hnew_;clear hg_ hnew_;(first|rw [← Ny102.out] at ho12|(simp only [Int.reduceToNat] at ho12;rw [← Ny102.out] at ho12));have n0_:=Aside0.mk (Kd.R_lower ho12 (below_size (by repeat (first|(with_reducible first|exact HB.out|apply below_alloc|apply pw_below_drewN|apply below_drew1|refine below_set ?_ GE101.out)|exact HB.out))));have n1_:=Aside0.mk (blk_below (g:=gb101) (o:=.cells #[.slice none 0 0,.slice none 0 0] 25 (0,0)) (by (with_reducible repeat (first|refine blk_drewN ?_ _|refine blk_drew ?_|refine blk_alloc ?_ _));exact BK101.out) hb);have n2_:=Aside0.mk (below_step (by repeat (first|(with_reducible first|exact HB.out|apply below_alloc|apply pw_below_drewN|apply below_drew1|refine below_set ?_ GE101.out)|exact HB.out)) hb);clear BK101;clear HB;have HO104:=n0_;have BK101:=n1_;have HB:=n2_;clear n0_ n1_ n2_;clear hb ho12;obtain ⟨Ao13,co13,eo13⟩:=Kd.R_slice HO104.out;subst eo13;have hcz14_0:w11.cell? ⟨gb101,0,none⟩=some (.slice none 0 0):=(blk_cell BK101.out 0).trans rfl;have hcz14_1:w11.cell? ⟨gb101,1,none⟩=some (.slice none 0 0):=(blk_cell BK101.out 1).trans rfl;have hfz14_0:=blk_frozen BK101.out 0;have hfz14_1:=blk_frozen BK101.out 1))
         refine bodyPost_ret (results_ct rfl _ _ gb101 25 #[.slice Ao13 y102.length co13,.slice none 0 0] (0,0) _ rfl (by (with_reducible repeat (first|refine blk_drewN ?_ _|refine blk_drew ?_|refine blk_alloc ?_ _));refine blk_put (cs:=#[.slice Ao13 y102.length co13,.slice none 0 0]) ?_ 1 _ rfl;(with_reducible repeat (first|refine blk_drewN ?_ _|refine blk_drew ?_|refine blk_alloc ?_ _));refine blk_put (cs:=#[.slice none 0 0,.slice none 0 0]) ?_ 0 _ rfl;(with_reducible repeat (first|refine blk_drewN ?_ _|refine blk_drew ?_|refine blk_alloc ?_ _));exact BK101.out) Try.underlying25 rfl (by kernel_rfl)) rfl ?_
         exact ⟨_,_,by first|rfl|(simp [errW_none,errW_some] <;> rfl)|(simp [*,errW_none,errW_some] <;> rfl),by (with_reducible repeat (first|apply Kd.R_alloc|apply Kd.R_drewN|apply Kd.R_drew));exact Kd.R_mono (Kd.R_far (p:=⟨gb101,1,none⟩) (Kd.R_far (p:=⟨gb101,0,none⟩) (Kd.R_types HO104.out BK101.out (by decide)) (fun _ hk=>hk.2) (.slice Ao13 y102.length co13)) (fun _ hk=>hk.2) (.slice none 0 0)) (fun _ hk=>trivial),by first|exact Kd.S_nil _ _ _ _ _|exact Kd.N_nil _ _ _ _ _|exact Kd.V_nil _ _ _ _ _|exact Kd.Q_nil _ _ _ _ _|exact Kd.R_nil _ _ _ _ _,by repeat (first|(with_reducible first|exact HB.out|apply below_alloc|apply pw_below_drewN|apply below_drew1|refine below_set ?_ GE101.out)|exact HB.out)⟩
       · rw [if_neg c9] at H
         exact absurd H (by simp)
     · rw [if_neg c8] at H
       exact absurd H (by simp)
def disk_isPart.f (l0_0:List Int) (l0_1:List (S45)) (a1:Int) (a2:Int):Option (Bool):=if a1 ≥ 0 then (if a2 ≥ 0 then (if a1 ≤ (l0_0.length:Int) then (some (decide (a2 ≤ (wrap64 ((l0_0.length:Int) - a1))))) else (some false)) else (some false)) else (some false)
set_option maxHeartbeats 8000000 in
set_option maxRecDepth 100000 in
theorem disk_isPart.calls (A0_0:Option Addr) (c0_0:Nat) (l0_0:List Int) (A0_1:Option Addr) (c0_1:Nat) (l0_1:List (S45)) (a1:Int) (a2:Int) (r:Bool) (w:World) (hr0_0:Kd.C (Kd.int .u8) w A0_0 l0_0.length l0_0) (hc0_0:l0_0.length ≤ c0_0) (hr0_1:Kd.C k45 w A0_1 l0_1.length l0_1) (hc0_1:l0_1.length ≤ c0_1) (h:disk_isPart.f l0_0 l0_1 a1 a2=some r) :
 Calls Try.prog 44 #[.agg #[.slice A0_0 l0_0.length c0_0,.slice A0_1 l0_1.length c0_1],.int .i64 a1,.int .i64 a2] w fun e w'=>e=.returned (.bool r)∧Below w.heap.size w w':=by
 have hu25:=Try.underlying25
 have HR0_0:=Aside0.mk hr0_0
 have HC0_0:=Aside0.mk hc0_0
 clear hr0_0 hc0_0
 have HR0_1:=Aside0.mk hr0_1
 have HC0_1:=Aside0.mk hc0_1
 clear hr0_1 hc0_1
 have HB:=Aside0.mk (Below.refl w.heap.size w)
 have H:(if a1 ≥ 0 then (if a2 ≥ 0 then (if a1 ≤ (l0_0.length:Int) then (some (decide (a2 ≤ (wrap64 ((l0_0.length:Int) - a1))))) else (some false)) else (some false)) else (some false))=some r:=h
 clear h
 by_cases c4:a1 ≥ 0
 · rw [if_pos c4] at H
   have c4b0:decide (0 ≤ a1)=true:=decide_eq_true c4
   clear c4
   by_cases c5:a2 ≥ 0
   · rw [if_pos c5] at H
     have c5b0:decide (0 ≤ a2)=true:=decide_eq_true c5
     clear c5
     by_cases c6:a1 ≤ (l0_0.length:Int)
     · rw [if_pos c6] at H
       have c6b0:decide (a1 ≤ (l0_0.length:Int))=true:=decide_eq_true c6
       clear c6
       obtain rfl:=Option.some.inj H
       go_enter Try.func44,Try.ntmps44
       go_wp2_with (first|((with_reducible refine gate_dst (N:=3) rfl ?_);(try (refine gate_guard (by rfl) ?_;dsimp only));refine box_event ?hg (N:=3) ?hd (cs:=#[.slice A0_0 l0_0.length c0_0,.slice A0_1 l0_1.length c0_1]) (t:=25) ?hr ?_;(case hd=>rfl);(case hg=>rfl);(case hr=>first|(go_simp;done)|(go_simp;rfl));intro gb106 hg w7 hbox hb;have n0_:=Aside0.mk (below_step (by repeat (first|(with_reducible first|exact HB.out|apply below_alloc|apply pw_below_drewN|apply below_drew1)|exact HB.out)) hb);have n1_:=Aside0.mk (hbox);have n2_:=Aside0.mk ((by rw [hg];exact (below_size (by repeat (first|(with_reducible first|exact HB.out|apply below_alloc|apply pw_below_drewN|apply below_drew1)|exact HB.out))):w.heap.size ≤ gb106));have n3_:=Aside0.mk ((by rw [hg];exact (below_size (by repeat (first|(with_reducible first|exact HB.out|apply below_alloc|apply pw_below_drewN|apply below_drew1)|exact HB.out))):w.heap.size ≤ gb106));clear HB;have HB:=n0_;have BK106:=n1_;have GW106:=n2_;have GE106:=n3_;clear n0_ n1_ n2_ n3_;clear hb hbox hg;have hcz8_0:w7.cell? ⟨gb106,0,none⟩=some (.slice A0_0 l0_0.length c0_0):=(blk_cell BK106.out 0).trans rfl;have hcz8_1:w7.cell? ⟨gb106,1,none⟩=some (.slice A0_1 l0_1.length c0_1):=(blk_cell BK106.out 1).trans rfl;have hfz8_0:=blk_frozen BK106.out 0;have hfz8_1:=blk_frozen BK106.out 1))
       go_ret
       exact ⟨by first|rfl|(simp [errW_none,errW_some] <;> rfl)|(simp [*,errW_none,errW_some] <;> rfl),by repeat (first|(with_reducible first|exact HB.out|apply below_alloc|apply pw_below_drewN|apply below_drew1|refine below_set ?_ GE106.out)|exact HB.out)⟩
     · rw [if_neg c6] at H
       have c6b0:decide (a1 ≤ (l0_0.length:Int))=false:=decide_eq_false c6
       clear c6
       obtain rfl:=Option.some.inj H
       go_enter Try.func44,Try.ntmps44
       go_wp2_with (first|((with_reducible refine gate_dst (N:=3) rfl ?_);(try (refine gate_guard (by rfl) ?_;dsimp only));refine box_event ?hg (N:=3) ?hd (cs:=#[.slice A0_0 l0_0.length c0_0,.slice A0_1 l0_1.length c0_1]) (t:=25) ?hr ?_;(case hd=>rfl);(case hg=>rfl);(case hr=>first|(go_simp;done)|(go_simp;rfl));intro gb106 hg w9 hbox hb;have n0_:=Aside0.mk (below_step (by repeat (first|(with_reducible first|exact HB.out|apply below_alloc|apply pw_below_drewN|apply below_drew1)|exact HB.out)) hb);have n1_:=Aside0.mk (hbox);have n2_:=Aside0.mk ((by rw [hg];exact (below_size (by repeat (first|(with_reducible first|exact HB.out|apply below_alloc|apply pw_below_drewN|apply below_drew1)|exact HB.out))):w.heap.size ≤ gb106));have n3_:=Aside0.mk ((by rw [hg];exact (below_size (by repeat (first|(with_reducible first|exact HB.out|apply below_alloc|apply pw_below_drewN|apply below_drew1)|exact HB.out))):w.heap.size ≤ gb106));clear HB;have HB:=n0_;have BK106:=n1_;have GW106:=n2_;have GE106:=n3_;clear n0_ n1_ n2_ n3_;clear hb hbox hg;have hcz10_0:w9.cell? ⟨gb106,0,none⟩=some (.slice A0_0 l0_0.length c0_0):=(blk_cell BK106.out 0).trans rfl;have hcz10_1:w9.cell? ⟨gb106,1,none⟩=some (.slice A0_1 l0_1.length c0_1):=(blk_cell BK106.out 1).trans rfl;have hfz10_0:=blk_frozen BK106.out 0;have hfz10_1:=blk_frozen BK106.out 1))
       go_ret
       exact ⟨by first|rfl|(simp [errW_none,errW_some] <;> rfl)|(simp [*,errW_none,errW_some] <;> rfl),by repeat (first|(with_reducible first|exact HB.out|apply below_alloc|apply pw_below_drewN|apply below_drew1|refine below_set ?_ GE106.out)|exact HB.out)⟩
   · rw [if_neg c5] at H
     have c5b0:decide (0 ≤ a2)=false:=decide_eq_false c5
     clear c5
     obtain rfl:=Option.some.inj H
     go_enter Try.func44,Try.ntmps44
     go_wp2_with (first|((with_reducible refine gate_dst (N:=3) rfl ?_);(try (refine gate_guard (by rfl) ?_;dsimp only));refine box_event ?hg (N:=3) ?hd (cs:=#[.slice A0_0 l0_0.length c0_0,.slice A0_1 l0_1.length c0_1]) (t:=25) ?hr ?_;(case hd=>rfl);(case hg=>rfl);(case hr=>first|(go_simp;done)|(go_simp;rfl));intro gb106 hg w11 hbox hb;have n0_:=Aside0.mk (below_step (by repeat (first|(with_reducible first|exact HB.out|apply below_alloc|apply pw_below_drewN|apply below_drew1)|exact HB.out)) hb);have n1_:=Aside0.mk (hbox);have n2_:=Aside0.mk ((by rw [hg];exact (below_size (by repeat (first|(with_reducible first|exact HB.out|apply below_alloc|apply pw_below_drewN|apply below_drew1)|exact HB.out))):w.heap.size ≤ gb106));have n3_:=Aside0.mk ((by rw [hg];exact (below_size (by repeat (first|(with_reducible first|exact HB.out|apply below_alloc|apply pw_below_drewN|apply below_drew1)|exact HB.out))):w.heap.size ≤ gb106));clear HB;have HB:=n0_;have BK106:=n1_;have GW106:=n2_;have GE106:=n3_;clear n0_ n1_ n2_ n3_;clear hb hbox hg))
     go_ret
     exact ⟨by first|rfl|(simp [errW_none,errW_some] <;> rfl)|(simp [*,errW_none,errW_some] <;> rfl),by repeat (first|(with_reducible first|exact HB.out|apply below_alloc|apply pw_below_drewN|apply below_drew1|refine below_set ?_ GE106.out)|exact HB.out)⟩
 · rw [if_neg c4] at H
   have c4b0:decide (0 ≤ a1)=false:=decide_eq_false c4
   clear c4
   obtain rfl:=Option.some.inj H
   go_enter Try.func44,Try.ntmps44
   go_wp2_with (first|((with_reducible refine gate_dst (N:=3) rfl ?_);(try (refine gate_guard (by rfl) ?_;dsimp only));refine box_event ?hg (N:=3) ?hd (cs:=#[.slice A0_0 l0_0.length c0_0,.slice A0_1 l0_1.length c0_1]) (t:=25) ?hr ?_;(case hd=>rfl);(case hg=>rfl);(case hr=>first|(go_simp;done)|(go_simp;rfl));intro gb106 hg w12 hbox hb;have n0_:=Aside0.mk (below_step (by repeat (first|(with_reducible first|exact HB.out|apply below_alloc|apply pw_below_drewN|apply below_drew1)|exact HB.out)) hb);have n1_:=Aside0.mk (hbox);have n2_:=Aside0.mk ((by rw [hg];exact (below_size (by repeat (first|(with_reducible first|exact HB.out|apply below_alloc|apply pw_below_drewN|apply below_drew1)|exact HB.out))):w.heap.size ≤ gb106));have n3_:=Aside0.mk ((by rw [hg];exact (below_size (by repeat (first|(with_reducible first|exact HB.out|apply below_alloc|apply pw_below_drewN|apply below_drew1)|exact HB.out))):w.heap.size ≤ gb106));clear HB;have HB:=n0_;have BK106:=n1_;have GW106:=n2_;have GE106:=n3_;clear n0_ n1_ n2_ n3_;clear hb hbox hg))
   go_ret
   exact ⟨by first|rfl|(simp [errW_none,errW_some] <;> rfl)|(simp [*,errW_none,errW_some] <;> rfl),by repeat (first|(with_reducible first|exact HB.out|apply below_alloc|apply pw_below_drewN|apply below_drew1|refine below_set ?_ GE106.out)|exact HB.out)⟩
end Go.Proofs.Ytfpdmlhknddffaa.Dk
end
section
namespace Go.Proofs.Ytfpdmlhknddffaa.Dk
open Go.RowKit Go.Proofs.YtfpdmlhknddffaaW.PrintWords Go.Proofs.YtfpdmlhknddffaaW.PrintLast Go.Proofs.YtfpdmlhknddffaaW.PrintMore
set_option linter.unusedVariables false
set_option linter.unusedSimpArgs false
def isPartB (n at_ count:Int):Bool:=decide (0 ≤ at_) && decide (0 ≤ count) && decide (at_ ≤ n) && decide (count ≤ n - at_)
theorem isPart_f (l0:List Int) (l1:List S45) (a c:Int) (hl:l0.length ≤ maxLen):disk_isPart.f l0 l1 a c=some (isPartB l0.length a c):=by
 unfold disk_isPart.f isPartB maxLen at *
 unfold wrap64
 by_cases h1:a ≥ 0 <;> by_cases h2:c ≥ 0 <;> by_cases h3:a ≤ (l0.length:Int) <;> simp [h1,h2,h3]
 omega
set_option maxHeartbeats 400000 in
theorem isValid1_calls (A0:Option Addr) (c0:Nat) (l0:List Int) (A1:Option Addr) (c1:Nat) (l1:List S45) (B:Nat) (w:World) (x:S45) (cs:List Value)
 (hB:w.heap[B]? = some (.cells #[.slice A0 l0.length c0,.slice A1 l1.length c1] 25 (0,0)))
 (h0:Kd.C (Kd.int .u8) w A0 l0.length l0) (hc0:l0.length ≤ c0) (h1:Kd.C k45 w A1 l1.length l1) (hc1:l1.length ≤ c1)
 (hm:l0.length ≤ maxLen) (hx:k45.K w x cs) :
  Calls Try.prog 58 #[.agg cs.toArray,.pointer (some ⟨B,0,none⟩)] w fun e w'=>e=.returned (.bool (!isPartB l0.length x.f0 x.f1.length))∧Below w.heap.size w w':=by
 obtain ⟨A2,c2,rfl,l2,g2⟩:=k45_open hx
 have hu25:=Try.underlying25
 have hu45:=Try.underlying45
 have hp:=isPart_f l0 l1 x.f0 x.f1.length hm
 have Hp:=Lib.hid hp;clear hp
 have HB:=Lib.hid hB;clear hB
 go_enter Try.func58,Try.ntmps58
 go_wp2_with (first|((with_reducible refine gate_dst (N:=2) rfl ?_);(refine box_event ?hg (N:=2) ?hd (cs:=#[.int .i64 x.f0,.slice A2 x.f1.length c2]) (t:=45) ?hr ?_);(case hd=>rfl);(case hg=>rfl);(case hr=>first|(go_simp;done)|(go_simp;rfl));intro g hg w1 hb1 hB1;have hq0:=(blk_cell (blk_below HB.out hB1) 0).trans rfl;have hq1:=(blk_cell (blk_below HB.out hB1) 1).trans rfl;have hq2:=(blk_cell hb1 0).trans rfl;have hq3:=(blk_cell hb1 1).trans rfl;have HB1:=Lib.hid hB1;clear hB1 hg)|(go_at_call 44;refine (disk_isPart.calls _ _ l0 _ _ l1 x.f0 x.f1.length _ _ (Kd.C_below h0 HB1.out) hc0 (Kd.C_below h1 HB1.out) hc1 Hp.out).mono ?_;rintro e w2 ⟨rfl,hb2⟩) )
 go_ret
 exact ⟨rfl,below_then HB1.out HB1.out.size hb2⟩
end Go.Proofs.Ytfpdmlhknddffaa.Dk
end
section
namespace Go.Proofs.Ytfpdmlhknddffaa.Dk
open Go.RowKit Go.Proofs.YtfpdmlhknddffaaW.PrintWords Go.Proofs.YtfpdmlhknddffaaW.PrintLast Go.Proofs.YtfpdmlhknddffaaW.PrintMore
set_option linter.unusedVariables false
set_option linter.unusedSimpArgs false
theorem C_get45 {w:World} {A:Option Addr} {n:Nat} {xs:List S45} (h:Kd.C k45 w A n xs) (i:Nat) (h1:i < xs.length) (h2:i < n):∃ ad A1 c1,A=some ad∧w.cell? (ad.add (i * 2))=some (.int .i64 (xs[i]).f0)∧w.cell? (⟨(ad.add (i * 2)).block,(ad.add (i * 2)).off + 1,none⟩)=some (.slice A1 (xs[i]).f1.length c1)∧(xs[i]).f1.length ≤ c1∧(Kd.int .u8).C w A1 (xs[i]).f1.length (xs[i]).f1:=by
 have h3:=at_T45 h i (by omega) (by omega)
 have h4:rd_T45 xs i=xs[i]:=by unfold rd_T45;simp [List.getD,h1]
 rw [h4] at h3
 simpa using h3
theorem C_max {α:Type} {d:Kd α} {w:World} {A:Option Addr} {n:Nat} {xs:List α} (h:Kd.C d w A n xs):n ≤ 9223372036854775807:=h.2.1
set_option maxHeartbeats 400000 in
theorem indexFunc_calls (A1:Option Addr) (c1:Nat) (l1:List S45) (B:Nat) (w:World) (p:S45→Bool)
 (h1:Kd.C k45 w A1 l1.length l1) (hc1:l1.length ≤ c1)
 (hp:∀ (x:S45) (cs:List Value) (w1:World),Below w.heap.size w w1→k45.K w1 x cs→Calls Try.prog 58 #[.agg cs.toArray,.pointer (some ⟨B,0,none⟩)] w1 fun e w'=>e=.returned (.bool (p x))∧Below w1.heap.size w1 w') :
  Calls Try.prog 65 #[.slice A1 l1.length c1,.func (.func 58) #[] #[.pointer (some ⟨B,0,none⟩)]] w fun e w'=>∃ n:Int,e=.returned (.int .i64 n)∧(decide (0 ≤ n)=l1.any p)∧Below w.heap.size w w':=by
 have hu45:=Try.underlying45
 have hm:=C_max h1
 have Hp:=Lib.hid hp;clear hp
 go_enter Try.func65,Try.ntmps65
 go_wp2
 go_loopg [8] l1.length (fun k v8 wr=>∃ i:Nat,i ≤ l1.length∧k=l1.length - i∧v8=.int .i64 i∧Hid (∀ j (hj:j < l1.length),j < i→p l1[j]=false)∧Below w.heap.size w wr)
 case atStart=>exact ⟨0,by omega,by omega,rfl,Lib.hid (by intro j hj h;omega),Below.refl _ _⟩
 case round =>
  obtain ⟨i,hi,rfl,rfl,hall,hb⟩:=hrel
  by_cases hlt:i < l1.length
  · have g1:=Kd.C_below h1 hb
    obtain ⟨ad,A2,c2,rfl,q0,q1,q2,q3⟩:=C_get45 g1 i hlt hlt
    have hk:k45.K wr l1[i] [.int .i64 l1[i].f0,.slice A2 l1[i].f1.length c2]:=k45_mk wr l1[i] q2 q3
    have Hk:=Lib.hid hk
    clear hk
    cases hpx:p l1[i]
    all_goals
     have Hx:=Lib.hid hpx
     clear hpx
     go_wp2_with (go_at_call 58;refine (Hp.out l1[i] _ wr hb Hk.out).mono ?_;rintro e w2 ⟨rfl,hb2⟩;rw [Hx.out])
    · go_roundg (l1.length - (i + 1))
      case measure=>omega
      case rel =>
       refine ⟨i + 1,by omega,rfl,by go_num,Lib.hid ?_,below_then hb hb.size hb2⟩
       intro j hj hji
       by_cases e:j=i
       · subst e;exact Hx.out
       · exact hall.out j hj (by omega)
    · go_ret
      refine ⟨i,rfl,?_,below_then hb hb.size hb2⟩
      rw [List.any_eq_true.2 ⟨l1[i],List.getElem_mem _,Hx.out⟩]
      simp
  · go_wp2
    go_ret
    refine ⟨-1,rfl,?_,hb⟩
    have:l1.any p=false:=by
     rw [List.any_eq_false]
     intro x hx
     obtain ⟨j,hj,rfl⟩:=List.getElem_of_mem hx
     rw [hall.out j hj (by omega)]
     simp
    rw [this]
    simp
set_option maxHeartbeats 400000 in
theorem containsFunc_calls (A1:Option Addr) (c1:Nat) (l1:List S45) (B:Nat) (w:World) (p:S45→Bool)
 (h1:Kd.C k45 w A1 l1.length l1) (hc1:l1.length ≤ c1)
 (hp:∀ (x:S45) (cs:List Value) (w1:World),Below w.heap.size w w1→k45.K w1 x cs→Calls Try.prog 58 #[.agg cs.toArray,.pointer (some ⟨B,0,none⟩)] w1 fun e w'=>e=.returned (.bool (p x))∧Below w1.heap.size w1 w') :
  Calls Try.prog 57 #[.slice A1 l1.length c1,.func (.func 58) #[] #[.pointer (some ⟨B,0,none⟩)]] w fun e w'=>e=.returned (.bool (l1.any p))∧Below w.heap.size w w':=by
 have Hp:=Lib.hid hp;clear hp
 go_enter Try.func57,Try.ntmps57
 go_wp2_with (go_at_call 65;refine (indexFunc_calls _ _ l1 B _ p h1 hc1 Hp.out).mono ?_;rintro e w2 ⟨n,rfl,hn,hb2⟩;have Hn:=Lib.hid hn;clear hn)
 go_ret
 exact ⟨by rw [← Hn.out];rfl,hb2⟩
def validB (l0:List Int) (l1:List S45):Bool:=decide (l0.length ≤ 65536) && decide (l1.length ≤ 64) && !l1.any fun x => !isPartB l0.length x.f0 x.f1.length
set_option maxHeartbeats 400000 in
theorem disk_isValid_calls (A0:Option Addr) (c0:Nat) (l0:List Int) (A1:Option Addr) (c1:Nat) (l1:List S45) (w:World)
 (h0:Kd.C (Kd.int .u8) w A0 l0.length l0) (hc0:l0.length ≤ c0) (h1:Kd.C k45 w A1 l1.length l1) (hc1:l1.length ≤ c1) :
  Calls Try.prog 43 #[.agg #[.slice A0 l0.length c0,.slice A1 l1.length c1]] w fun e w'=>e=.returned (.bool (validB l0 l1))∧Below w.heap.size w w':=by
 have hu25:=Try.underlying25
 have hmf:∀ (fn:Fn) (first cap:Array Value) (w:World),(Instr.makeFunc fn first cap).run Try.prog w=.ok (.func fn first cap) w:=fun _ _ _ _=>rfl
 unfold validB
 by_cases ha:l0.length ≤ 65536
 · by_cases hb:l1.length ≤ 64
   · have e1:decide (65536 < l0.length)=false:=by simp;omega
     have e2:decide (64 < l1.length)=false:=by simp;omega
     go_enter Try.func43,Try.ntmps43
     go_wp2_with (first|((with_reducible refine gate_dst (N:=1) rfl ?_);(refine box_event ?hg (N:=1) ?hd (cs:=#[.slice A0 l0.length c0,.slice A1 l1.length c1]) (t:=25) ?hr ?_);(case hd=>rfl);(case hg=>rfl);(case hr=>first|(go_simp;done)|(go_simp;rfl));intro g hg w1 hb1 hB1;have hq0:=(blk_cell hb1 0).trans rfl;have hq1:=(blk_cell hb1 1).trans rfl;have HB1:=Lib.hid hB1;have Hb1:=Lib.hid hb1;clear hB1 hb1 hg)|(go_at_call 57;refine (containsFunc_calls A1 c1 l1 g w1 (fun x => !isPartB l0.length x.f0 x.f1.length) (Kd.C_below h1 HB1.out) hc1 (fun x cs w3 hb3 hx=>isValid1_calls A0 c0 l0 A1 c1 l1 g w3 x cs (blk_below Hb1.out hb3) (Kd.C_below (Kd.C_below h0 HB1.out) hb3) hc0 (Kd.C_below (Kd.C_below h1 HB1.out) hb3) hc1 (by unfold maxLen;omega) hx)).mono ?_;rintro e w2 ⟨rfl,hb2⟩) )
     go_ret
     exact ⟨by simp [ha,hb],below_then HB1.out HB1.out.size hb2⟩
   · have e1:decide (65536 < l0.length)=false:=by simp;omega
     have e2:decide (64 < l1.length)=true:=by simp;omega
     go_enter Try.func43,Try.ntmps43
     go_wp2_with (first|((with_reducible refine gate_dst (N:=1) rfl ?_);(refine box_event ?hg (N:=1) ?hd (cs:=#[.slice A0 l0.length c0,.slice A1 l1.length c1]) (t:=25) ?hr ?_);(case hd=>rfl);(case hg=>rfl);(case hr=>first|(go_simp;done)|(go_simp;rfl));intro g hg w1 hb1 hB1;have hq0:=(blk_cell hb1 0).trans rfl;have hq1:=(blk_cell hb1 1).trans rfl;have HB1:=Lib.hid hB1;clear hB1 hb1 hg) )
     go_ret
     exact ⟨by simp [ha,hb],HB1.out⟩
 · have e1:decide (65536 < l0.length)=true:=by simp;omega
   go_enter Try.func43,Try.ntmps43
   go_wp2_with (first|((with_reducible refine gate_dst (N:=1) rfl ?_);(refine box_event ?hg (N:=1) ?hd (cs:=#[.slice A0 l0.length c0,.slice A1 l1.length c1]) (t:=25) ?hr ?_);(case hd=>rfl);(case hg=>rfl);(case hr=>first|(go_simp;done)|(go_simp;rfl));intro g hg w1 hb1 hB1;have hq0:=(blk_cell hb1 0).trans rfl;have hq1:=(blk_cell hb1 1).trans rfl;have HB1:=Lib.hid hB1;clear hB1 hb1 hg) )
   go_ret
   exact ⟨by simp [ha],HB1.out⟩
end Go.Proofs.Ytfpdmlhknddffaa.Dk
end
section
namespace Go.Proofs.Ytfpdmlhknddffaa.Dk
open Go.RowKit Go.Proofs.YtfpdmlhknddffaaW.PrintWords Go.Proofs.YtfpdmlhknddffaaW.PrintLast Go.Proofs.YtfpdmlhknddffaaW.PrintMore
set_option linter.unusedVariables false
set_option linter.unusedSimpArgs false
theorem C_int {k:IntKind} {w:World} {A:Option Addr} {n:Nat} {l:List Int} (h0:Kd.C (Kd.int k) w A n l) (i:Nat) (hi:i < l.length):∃ ad,A=some ad∧w.cell? (ad.add i)=some (.int k l[i]):=by
 obtain ⟨ad,c,e,hc1,hK,hc⟩:=Kd.C_get h0 0 i (by omega) (by have:=h0.1;omega)
 refine ⟨ad,e,?_⟩
 cases hK
 have hq:=hc 0 _ rfl
 have e2:((i:Int)).toNat * (Kd.int k).sz + 0=i:=by show ((i:Int)).toNat * 1 + 0=i;omega
 rw [e2] at hq
 rw [hq]
 simp [List.getD,hi]
theorem R_empty {α:Type} (d:Kd α) (e base g:Nat) (w:World) (ok:Nat→Prop) (hok:ok g) (hb:base ≤ g) (h:w.heap[g]? = some (.cells #[] e (0,0))):d.R e w base ok (.slice (some ⟨g,0,none⟩) 0 0) []:=by
 refine ⟨fun k hk => ?_,[],⟨by simp,.inr ⟨g,0,#[],rfl,hb,h,Nat.le_refl _,by unfold maxLen;omega,by simp,by simp⟩⟩,Reps.none _ _⟩
 simp [Value.ownBlock] at hk
 subst hk
 exact hok
set_option maxHeartbeats 400000 in
theorem clone_calls (A0:Option Addr) (c0:Nat) (l0:List Int) (w:World) (h0:Kd.C (Kd.int .u8) w A0 l0.length l0) (hc0:l0.length ≤ c0) (hl:l0.length ≤ 140737488355328) :
 Calls Try.prog 45 #[.slice A0 l0.length c0] w fun e w'=>∃ v,e=.returned v∧Kd.R (Kd.int .u8) 5 w' w.heap.size (fun _=>True) v l0∧Below w.heap.size w w':=by
 have hu22:=Try.underlying22
 have hnil:=fun w=>Lib.run_eql_slice_nil (P:=Try.prog) w 22 5 A0 l0.length c0 0 0 hu22
 cases A0 with
 | none =>
  have hz:l0=[]:=by
   rcases Nat.eq_zero_or_pos l0.length with h|h
   · exact List.length_eq_zero_iff.1 h
   · obtain ⟨ad,he,_⟩:=h0.2.2 h
     cases he
  subst hz
  have hnil:=fun w=>Lib.run_eql_slice_nil (P:=Try.prog) w 22 5 none 0 c0 0 0 hu22
  go_enter Try.func45,Try.ntmps45
  go_wp2
  go_ret
  exact ⟨_,rfl,Kd.R_nil _ _ _ _ _,Below.refl _ _⟩
 | some ad =>
  go_enter Try.func45,Try.ntmps45
  go_wp2_with (first|((with_reducible refine gate_dst (N:=7) rfl ?_);refine Kd.R_append_row (w0:=w) (Value.int .u8) (0:Int) (h1:=fun _=>rfl) w.heap.size rfl (.tmp 5) (.tmp 6) 22 5 (.int .u8 0) 1 rfl hu22 info5 rfl (by decide) (.slice (some ⟨w.heap.size,0,none⟩) 0 0) [] l0 (some ad) l0.length c0 (fun _=>True) rfl rfl (fun _ _=>trivial) (R_empty _ _ _ _ _ _ trivial (Nat.le_refl _) (blk_new w _)) (Kd.C_alloc h0 _) (below_alloc (Below.refl _ _) _) (by simp) (by simp;omega) ?_;intro v1 w1 hr hb hg hv;have Hr:=Lib.hid hr;have Hb:=Lib.hid hb;clear hr hb hg hv) )
  go_ret
  exact ⟨_,rfl,Hr.out,Hb.out⟩
theorem whole1_calls (i:Nat) (A0:Option Addr) (n0 c0:Nat) (A1:Option Addr) (c1:Nat) (l1:List S45) (B:Nat) (w:World) (hi:i < l1.length) (hB:w.heap[B]? = some (.cells #[.slice A0 n0 c0,.slice A1 l1.length c1] 25 (0,0))) (h1:Kd.C k45 w A1 l1.length l1) :
 Calls Try.prog 59 #[.int .i64 i,.pointer (some ⟨B,0,none⟩)] w fun e w'=>e=.returned (.int .i64 l1[i].f1.length)∧w'=w:=by
 have hu25:=Try.underlying25
 have hu45:=Try.underlying45
 have hu23:=Try.underlying23
 have hm:=C_max h1
 have hq:=(blk_cell hB 1).trans rfl
 obtain ⟨ad,A2,c2,rfl,q0,q1,q2,q3⟩:=C_get45 h1 i hi hi
 go_enter Try.func59,Try.ntmps59
 go_wp2
 go_ret
 exact ⟨rfl,rfl⟩
theorem whole_calls (A0:Option Addr) (n0 c0:Nat) (A1:Option Addr) (n1 c1:Nat) (w:World) :
 Calls Try.prog 48 #[.agg #[.slice A0 n0 c0,.slice A1 n1 c1]] w fun e w'=>∃ B,e=.returned (.func (.func 59) #[] #[.pointer (some ⟨B,0,none⟩)])∧w'.heap[B]? = some (.cells #[.slice A0 n0 c0,.slice A1 n1 c1] 25 (0,0))∧w.heap.size ≤ B∧Below w.heap.size w w':=by
 have hu25:=Try.underlying25
 have hmf:∀ (fn:Fn) (first cap:Array Value) (w:World),(Instr.makeFunc fn first cap).run Try.prog w=.ok (.func fn first cap) w:=fun _ _ _ _=>rfl
 go_enter Try.func48,Try.ntmps48
 go_wp2
 go_ret
 exact ⟨_,rfl,blk_new w _,Nat.le_refl _,below_alloc (Below.refl _ _) _⟩
end Go.Proofs.Ytfpdmlhknddffaa.Dk
end
section
namespace Go.Proofs.Ytfpdmlhknddffaa.Dk
open Go.RowKit Go.Proofs.YtfpdmlhknddffaaW.PrintWords Go.Proofs.YtfpdmlhknddffaaW.PrintLast Go.Proofs.YtfpdmlhknddffaaW.PrintMore
attribute [local go_sem] max2_int min2_int max_two min_two
set_option linter.unusedVariables false
set_option linter.unusedSimpArgs false
theorem cut3 {P:Program} (t e:TypeId) {i:TypeInfo} (ht:P.underlying t=some (.slice e)) (hi:P.info? e=some i) (A:Option Addr) (n c:Nat) (h m:Int) (h0:0 ≤ h) (hm:h ≤ m) (hc:m ≤ c) :
 ∀ W:World,(Instr.slice t (.slice A n c) none (some (.int .i64 h)) (some (.int .i64 m))).run P W=.ok (.slice A h.toNat m.toNat) W:=by
 intro W
 have ha:(A.map fun x=>x.add 0)=A:=by cases A <;> simp [Addr.add]
 have hm0:0 ≤ m:=by omega
 have hmc:m.toNat=m:=by omega
 simp [Instr.slice,run_underlying ht,Instr.sliceBounds,Instr.sliceBound,asIntOf,hm0,hc,h0,hm,hmc,sizeOf,typeInfo,hi,Result.andThen]
 intro _
 exact ha
def keptN (k:Int) (n:Nat):Nat:=(min (max k 0) n).toNat
theorem keptN_le (k:Int) (n:Nat):keptN k n ≤ n:=by unfold keptN;omega
def applyN (kept:Nat→Int) (ws:List S45) (out:List Int):Nat→List Int
 | 0=>out
 | i + 1=>splice (applyN kept ws out i) (ws.getD i z45).f0.toNat ((ws.getD i z45).f1.take (keptN (kept i) (ws.getD i z45).f1.length))
def applyL (kept:Nat→Int) (ws:List S45) (out:List Int):List Int:=applyN kept ws out ws.length
theorem splice_length {α:Type} (L:List α) (off:Nat) (cs:List α) (h:off + cs.length ≤ L.length):(splice L off cs).length=L.length:=by
 unfold splice;simp;omega
theorem isPartB_iff (n a c:Int):isPartB n a c=true↔0 ≤ a∧0 ≤ c∧a ≤ n∧c ≤ n - a:=by
 unfold isPartB;simp;omega
theorem validB_iff (l0:List Int) (l1:List S45):validB l0 l1=true↔l0.length ≤ 65536∧l1.length ≤ 64∧∀ x ∈ l1,0 ≤ x.f0∧x.f0 + x.f1.length ≤ l0.length:=by
 have key:∀ x:S45,(!isPartB l0.length x.f0 x.f1.length)=false↔0 ≤ x.f0∧x.f0 + x.f1.length ≤ l0.length:=by
  intro x
  rw [Bool.not_eq_false',isPartB_iff]
  omega
 unfold validB
 rw [Bool.and_eq_true,Bool.and_eq_true,decide_eq_true_eq,decide_eq_true_eq,Bool.not_eq_true',List.any_eq_false]
 constructor
 · rintro ⟨⟨a,b⟩,c⟩
   exact ⟨a,b,fun x hx=>(key x).1 (by simpa using c x hx)⟩
 · rintro ⟨a,b,c⟩
   exact ⟨⟨a,b⟩,fun x hx=>by rw [(key x).2 (c x hx)];simp⟩
theorem applyN_length (kept:Nat→Int) (l0:List Int) (l1:List S45) (hv:validB l0 l1=true):∀ i,i ≤ l1.length→(applyN kept l1 l0 i).length=l0.length:=by
 intro i
 induction i with
 | zero=>intro _;rfl
 | succ i ih =>
  intro hi
  have h1:=ih (by omega)
  have hx:=((validB_iff l0 l1).1 hv).2.2 (l1.getD i z45) (by simp [List.getD,show i < l1.length by omega])
  show (splice _ _ _).length=_
  rw [splice_length,h1]
  rw [h1,List.length_take]
  have:=keptN_le (kept i) (l1.getD i z45).f1.length
  omega
end Go.Proofs.Ytfpdmlhknddffaa.Dk
end
section
namespace Go.Proofs.Ytfpdmlhknddffaa.Dk
open Go.RowKit Go.Proofs.YtfpdmlhknddffaaW.PrintWords Go.Proofs.YtfpdmlhknddffaaW.PrintLast Go.Proofs.YtfpdmlhknddffaaW.PrintMore
attribute [local go_sem] max2_int min2_int max_two min_two
set_option linter.unusedVariables false
set_option linter.unusedSimpArgs false
theorem R_block {k:IntKind} {e g n cap base:Nat} {ok:Nat→Prop} {w:World} {xs:List Int} (h:Kd.R (Kd.int k) e w base ok (.slice (some ⟨g,0,none⟩) n cap) xs) :
 ∃ cur:List Value,w.heap[g]? = some (.cells cur.toArray e (0,0))∧cur.length=cap∧n ≤ cap∧cap ≤ maxLen∧n=xs.length∧cur.take n=xs.map (Value.int k)∧base ≤ g:=by
 have hl:=(Kd.R_reads' h).1
 subst hl
 have ho:=Kd.own_of_R h
 obtain ⟨h1,h2⟩:=ho
 rcases h2 with ⟨h3,_⟩|⟨g',cap',cur,h3,h4,h5,h6,h7,h8,h9⟩
 · cases h3
 · injection h3 with e1 _ e3
   injection e1 with e1
   injection e1 with e1
   subst e1
   subst e3
   refine ⟨cur.toList,by simpa using h5,by simpa using h8,h6,h7,rfl,?_,h4⟩
   rw [Nat.mul_one] at h9
   rw [h9]
   rfl
theorem R_mk {k:IntKind} {e g cap base:Nat} {ok:Nat→Prop} {w:World} {xs:List Int} {cur:List Value} (hg:w.heap[g]? = some (.cells cur.toArray e (0,0))) (hc:cur.length=cap) (hn:xs.length ≤ cap) (hm:cap ≤ maxLen)
 (ht:cur.take xs.length=xs.map (Value.int k)) (hb:base ≤ g) (hok:ok g):Kd.R (Kd.int k) e w base ok (.slice (some ⟨g,0,none⟩) xs.length cap) xs:=by
 refine Kd.R_of_own ⟨by simp [encs],.inr ⟨g,cap,cur.toArray,rfl,hb,hg,hn,hm,by simp [hc],?_⟩⟩ (fun k hk => ?_)
 · simp [encs,ht]
 · simp [Value.ownBlock] at hk
   subst hk
   exact hok
theorem take_splice {α:Type} (L:List α) (off n:Nat) (cs:List α) (h:off + cs.length ≤ n) (hL:n ≤ L.length):(splice L off cs).take n=splice (L.take n) off cs:=by
 unfold splice
 have e:List.take off (List.take n L)=List.take off L:=by rw [List.take_take,Nat.min_eq_left (by omega)]
 have e2:List.drop (off + cs.length) (List.take n L)=List.take (n - (off + cs.length)) (List.drop (off + cs.length) L):=by rw [List.drop_take]
 rw [e,e2,List.take_append,List.take_append,List.length_take,Nat.min_eq_left (by omega),List.take_take,Nat.min_eq_right (by omega),List.take_of_length_le (l:=cs) (by omega)]
 rw [show n - off - cs.length=n - (off + cs.length) from by omega]
theorem region_tail {P:Program} {id:Nat} {Q:Exit→Act→World→Prop} {a:Act} {w:World} {l:List Oper} (n:Nat) (hm:P.follows .mixedOrders=true) (hB:Region.lexTailB .any l.toArray n=true)
 (h:∀ wd:World,Below w.heap.size w wd→wd.heap=w.heap→wpStill P l.toArray wd (fun a'=>wpList P l.toArray Q (l.drop n) a' wd) (l.take n) a):(Code.region id l.toArray true).wp P Q a w :=
 wp_region_still_tail n hm hB (h w.drew (below_drew (Below.refl _ _)) rfl)
theorem keptN_ite (k:Int) (n:Nat):(if (n:Int) < (if k < 0 then 0 else k) then (n:Int) else (if k < 0 then 0 else k))=((keptN k n:Nat):Int):=by
 unfold keptN
 split <;> split at * <;> omega
set_option maxHeartbeats 400000 in
theorem apply59_pos (A0:Option Addr) (c0:Nat) (l0:List Int) (A1:Option Addr) (c1:Nat) (l1:List S45) (B:Nat) (w:World) (kept:Nat→Int)
 (h0:Kd.C (Kd.int .u8) w A0 l0.length l0) (hc0:l0.length ≤ c0) (h1:Kd.C k45 w A1 l1.length l1) (hc1:l1.length ≤ c1) (hv:validB l0 l1=true) (hpos:0 < l0.length)
 (hkc:∀ (i:Nat) (w1:World),i < l1.length→Below w.heap.size w w1→Calls Try.prog 59 #[.int .i64 i,.pointer (some ⟨B,0,none⟩)] w1 fun e w'=>e=.returned (.int .i64 (kept i))∧w'=w1) :
  Calls Try.prog 47 #[.agg #[.slice A0 l0.length c0,.slice A1 l1.length c1],.func (.func 59) #[] #[.pointer (some ⟨B,0,none⟩)]] w fun e w'=>∃ v,e=.returned v∧Kd.R (Kd.int .u8) 5 w' w.heap.size (fun _=>True) v (applyL kept l1 l0)∧Below w.heap.size w w':=by
 have hu25:=Try.underlying25
 have hu45:=Try.underlying45
 have hu23:=Try.underlying23
 have hu22:=Try.underlying22
 obtain ⟨i5,hi5,_,hs5,_⟩:=info_parts info5
 have hm:=C_max h1
 have Hv:=(validB_iff l0 l1).1 hv
 have hl0:=Hv.1
 have hl1:=Hv.2.1
 have Hkc:=Lib.hid hkc;clear hkc
 go_enter Try.func47,Try.ntmps47
 go_wp2_with (first|((with_reducible refine gate_dst (N:=2) rfl ?_);(refine box_event ?hg (N:=2) ?hd (cs:=#[.slice A0 l0.length c0,.slice A1 l1.length c1]) (t:=25) ?hr ?_);(case hd=>rfl);(case hg=>rfl);(case hr=>first|(go_simp;done)|(go_simp;rfl));intro g hg w1 hb1 hB1;have hq0:=(blk_cell hb1 0).trans rfl;have hq1:=(blk_cell hb1 1).trans rfl;have HB1:=Lib.hid hB1;have Hb1:=Lib.hid hb1;clear hB1 hb1 hg)|(go_at_call 45;refine (clone_calls A0 c0 l0 w1 (Kd.C_below h0 HB1.out) hc0 (by omega)).mono ?_;rintro e w2 ⟨v,rfl,hr,hb2⟩;obtain ⟨g2,cap2,rfl,hg2b,hg2,cells2,hcells2⟩:=Kd.R_form hr hpos;have hq2:=(blk_cell (blk_below Hb1.out hb2) 0).trans rfl;have hq3:=(blk_cell (blk_below Hb1.out hb2) 1).trans rfl;have HR:=Lib.hid hr;have HB2:=Lib.hid (below_then HB1.out HB1.out.size hb2);have Hcells:=Lib.hid hcells2;clear hr hb2 hcells2) )
 obtain ⟨cur0,k1,k2,k3,k4,k5,k6,k7⟩:=R_block HR.out
 have hgw:w.heap.size ≤ g2:=Nat.le_trans HB1.out.size k7
 have K1:=Lib.hid k1
 have K6:=Lib.hid k6
 clear k1 k5 k6 hq0 hq1 hq2 hq3
 go_loopg [15] l1.length (fun k v15 wr=>∃ i:Nat,i ≤ l1.length∧k=l1.length - i∧v15=.int .i64 i∧(∃ cur:List Value,Hid (wr.heap[g2]? = some (.cells cur.toArray 5 (0,0)))∧Hid (cur.length=cap2)∧Hid (cur.take l0.length=(applyN kept l1 l0 i).map (Value.int .u8)))∧Below w.heap.size w wr)
 case atStart=>exact ⟨0,by omega,by omega,rfl,⟨cur0,K1,Lib.hid k2,K6⟩,HB2.out⟩
 case round =>
  obtain ⟨i,hi,rfl,rfl,⟨cur,C1,C2,C3⟩,hb⟩:=hrel
  by_cases hlt:i < l1.length
  · have g1:=Kd.C_below h1 hb
    obtain ⟨ad,A2,c2,rfl,q0,q1,q2,q3⟩:=C_get45 g1 i hlt hlt
    obtain ⟨xi,hxi⟩:∃ xi,xi=l1[i]:=⟨_,rfl⟩
    have hxm:xi ∈ l1:=by rw [hxi];exact List.getElem_mem _
    have hxv:=Hv.2.2 xi hxm
    rw [← hxi] at q0 q1 q2 q3
    have Hxi:=Lib.hid hxi
    clear hxi
    obtain ⟨f0,f1⟩:=xi
    dsimp only at q0 q1 q2 q3 hxv
    have hm2:=C_max q3
    have hge:g2 < wr.heap.size:=blk_lt C1.out
    go_wp2_with (fail)
    obtain ⟨wb,hwb⟩:∃ wb,wb=wr.alloc (.cells #[.int .i64 f0,.slice A2 f1.length c2] 45):=⟨_,rfl⟩
    rw [← hwb]
    have hbb:Below wr.heap.size wr wb:=by rw [hwb];exact below_alloc (Below.refl _ _) _
    have hblk:wb.heap[wr.heap.size]? = some (.cells #[.int .i64 f0,.slice A2 f1.length c2] 45 (0,0)):=by rw [hwb];exact blk_new _ _
    have hq4:wb.cell? ⟨wr.heap.size,0,none⟩=some (.int .i64 f0):=(blk_cell hblk 0).trans rfl
    have hq5:wb.cell? ⟨wr.heap.size,1,none⟩=some (.slice A2 f1.length c2):=(blk_cell hblk 1).trans rfl
    have Hbb:=Lib.hid hbb
    have Hblk:=Lib.hid hblk
    clear hwb hbb hblk q0 q1
    go_quiet ((go_at_call 59;exact Calls.quiet_of_same (Hkc.out i _ hlt (pw_below_drewN (below_then hb hb.size Hbb.out) _))))
    rw [keptN_ite (kept i) f1.length]
    have hkn:=keptN_le (kept i) f1.length
    obtain ⟨kn,hkk⟩:∃ kn,kn=keptN (kept i) f1.length:=⟨_,rfl⟩
    rw [← hkk] at hkn ⊢
    generalize (if kept i < 0 then (0:Int) else kept i)=mx
    have Hkk:=Lib.hid hkk
    clear hkk
    have hcut:=cut_from (P:=Try.prog) 22 5 .i64 hu22 hi5 1 hs5 (some ⟨g2,0,none⟩) l0.length cap2 f0 hxv.1 (by omega)
    obtain ⟨dp,hdp⟩:∃ dp,dp=(if cap2=f0.toNat then (some ⟨g2,0,none⟩:Option Addr) else (some (⟨g2,0,none⟩:Addr)).map (·.add (f0.toNat * 1))):=⟨_,rfl⟩
    rw [← hdp] at hcut
    have Hdp:=Lib.hid hdp
    clear hdp
    have hcut2:=cut3 (P:=Try.prog) 22 5 hu22 hi5 A2 f1.length c2 (kn:Int) (kn:Int) (by omega) (by omega) (by omega)
    go_wp2_with (fail)
    refine region_tail 9 (by kernel_rfl) (by kernel_rfl) ?_
    intro wd hbd hhd
    simp only [List.take_succ_cons,List.take_zero,List.drop_succ_cons,List.drop_zero]
    have hq6:wd.cell? ⟨wr.heap.size,0,none⟩=some (.int .i64 f0):=(pw_cell_below hbd (pw_cell_below (pw_below_drewN (Below.refl _ _) nq) hq4))
    have hq7:wd.cell? ⟨wr.heap.size,1,none⟩=some (.slice A2 f1.length c2):=(pw_cell_below hbd (pw_cell_below (pw_below_drewN (Below.refl _ _) nq) hq5))
    have Hbd:=Lib.hid (below_then Hbb.out Hbb.out.size (below_then (pw_below_drewN (Below.refl wb.heap.size wb) nq) (Nat.le_refl _) hbd))
    clear hq4 hq5 hbd hhd
    repeat still_step
    refine wpStill_nil ?_
    have hbw:Below w.heap.size w wd:=below_then hb hb.size Hbd.out
    have hcl:(((f1.take kn).map (Value.int .u8)).length)=kn:=by simp;omega
    have hzn:l0.length ≤ cap2:=k3
    refine wpList_copy_splice rfl (.tmp 31) (.tmp 36) 22 22 rfl 5 hu22 (by rw [hi5];simp [hs5]) dp A2 (l0.length - f0.toNat) (cap2 - f0.toNat) kn kn rfl rfl g2 f0.toNat cur 5 (blk_below C1.out Hbd.out) ((f1.take kn).map (Value.int .u8)) ?hn ?hp ?hfit ?h1 w.heap.size w hbw hgw ?rest
    case hn=>rw [hcl];show kn=min kn (l0.length - f0.toNat);omega
    case hp =>
     intro hlen
     rw [hcl] at hlen
     refine ⟨?_,?_⟩
     · rw [Hdp.out,if_neg (by omega)]
       simp [Addr.add]
       intro _;omega
     · obtain ⟨ad2,e2,_⟩:=C_int q3 0 (by omega)
       refine ⟨ad2,e2,?_⟩
       intro j v hj
       have hj2:j < kn:=by have:=(List.getElem?_eq_some_iff.1 hj).1;rw [hcl] at this;exact this
       obtain ⟨ad3,e3,hc3⟩:=C_int (Kd.C_below q3 Hbd.out) j (by omega)
       rw [e2] at e3
       injection e3 with e3
       subst e3
       rw [hc3]
       rw [List.getElem?_map,List.getElem?_take_of_lt hj2,List.getElem?_eq_getElem (by omega)] at hj
       exact hj
    case hfit=>rw [hcl,C2.out];omega
    case h1 =>
     intro v hv
     obtain ⟨z,_,rfl⟩:=List.mem_map.1 hv
     rfl
    case rest =>
     intro w6 h6 hb6
     go_wp2
     go_roundg (l1.length - (i + 1))
     case measure=>omega
     case rel =>
      refine ⟨i + 1,by omega,rfl,by go_num,⟨_,h6,Lib.hid ?_,Lib.hid ?_⟩,hb6⟩
      · rw [splice_length _ _ _ (by rw [hcl,C2.out];omega)];exact C2.out
      · have hz:l1.getD i z45=⟨f0,f1⟩:=by rw [Hxi.out];simp [List.getD,hlt]
        show _=(splice (applyN kept l1 l0 i) (l1.getD i z45).f0.toNat ((l1.getD i z45).f1.take (keptN (kept i) (l1.getD i z45).f1.length))).map _
        rw [hz,take_splice _ _ _ _ (by rw [hcl];omega) (by rw [C2.out];omega),C3.out]
        dsimp only
        rw [← Hkk.out]
        unfold splice
        simp
  · obtain rfl:i=l1.length:=by omega
    go_wp2
    go_ret
    refine ⟨_,rfl,?_,hb⟩
    have hlen:=applyN_length kept l0 l1 hv l1.length (Nat.le_refl _)
    have:=R_mk (k:=.u8) (ok:=fun _=>True) (base:=w.heap.size) (xs:=applyL kept l1 l0) C1.out C2.out (by unfold applyL;omega) k4 (by unfold applyL;rw [hlen];exact C3.out) hgw trivial
    unfold applyL at this ⊢
    rw [hlen] at this
    exact this
set_option maxHeartbeats 400000 in
theorem apply59_nil (A0:Option Addr) (c0:Nat) (A1:Option Addr) (c1:Nat) (l1:List S45) (B:Nat) (w:World) (kept:Nat→Int)
 (h0:Kd.C (Kd.int .u8) w A0 0 []) (h1:Kd.C k45 w A1 l1.length l1) (hc1:l1.length ≤ c1) (hv:validB [] l1=true)
 (hkc:∀ (i:Nat) (w1:World),i < l1.length→Below w.heap.size w w1→Calls Try.prog 59 #[.int .i64 i,.pointer (some ⟨B,0,none⟩)] w1 fun e w'=>e=.returned (.int .i64 (kept i))∧w'=w1) :
  Calls Try.prog 47 #[.agg #[.slice A0 0 c0,.slice A1 l1.length c1],.func (.func 59) #[] #[.pointer (some ⟨B,0,none⟩)]] w fun e w'=>∃ v,e=.returned v∧Kd.R (Kd.int .u8) 5 w' w.heap.size (fun _=>True) v (applyL kept l1 [])∧Below w.heap.size w w':=by
 have hu25:=Try.underlying25
 have hu45:=Try.underlying45
 have hu23:=Try.underlying23
 have hu22:=Try.underlying22
 obtain ⟨i5,hi5,_,hs5,_⟩:=info_parts info5
 have hm:=C_max h1
 have Hv:=(validB_iff [] l1).1 hv
 have hl1:=Hv.2.1
 have Hkc:=Lib.hid hkc;clear hkc
 go_enter Try.func47,Try.ntmps47
 go_wp2_with (first|((with_reducible refine gate_dst (N:=2) rfl ?_);(refine box_event ?hg (N:=2) ?hd (cs:=#[.slice A0 0 c0,.slice A1 l1.length c1]) (t:=25) ?hr ?_);(case hd=>rfl);(case hg=>rfl);(case hr=>first|(go_simp;done)|(go_simp;rfl));intro g hg w1 hb1 hB1;have hq0:=(blk_cell hb1 0).trans rfl;have hq1:=(blk_cell hb1 1).trans rfl;have HB1:=Lib.hid hB1;have Hb1:=Lib.hid hb1;clear hB1 hb1 hg)|(go_at_call 45;refine (clone_calls A0 c0 [] w1 (Kd.C_below h0 HB1.out) (by simp) (by simp)).mono ?_;rintro e w2 ⟨v,rfl,hr,hb2⟩;obtain ⟨A5,cap2,rfl⟩:=Kd.R_slice hr;have hq2:=(blk_cell (blk_below Hb1.out hb2) 0).trans rfl;have hq3:=(blk_cell (blk_below Hb1.out hb2) 1).trans rfl;have HR:=Lib.hid hr;have HB2:=Lib.hid (below_then HB1.out HB1.out.size hb2);clear hr hb2) )
 clear hq0 hq1 hq2 hq3
 go_loopg [15] l1.length (fun k v15 wr=>∃ i:Nat,i ≤ l1.length∧k=l1.length - i∧v15=.int .i64 i∧Below w2.heap.size w2 wr)
 case atStart=>exact ⟨0,by omega,by omega,rfl,Below.refl _ _⟩
 case round =>
  obtain ⟨i,hi,rfl,rfl,hb⟩:=hrel
  have hbw:=below_then HB2.out HB2.out.size hb
  by_cases hlt:i < l1.length
  · have g1:=Kd.C_below h1 hbw
    obtain ⟨ad,A2,c2,rfl,q0,q1,q2,q3⟩:=C_get45 g1 i hlt hlt
    obtain ⟨xi,hxi⟩:∃ xi,xi=l1[i]:=⟨_,rfl⟩
    have hxm:xi ∈ l1:=by rw [hxi];exact List.getElem_mem _
    have hxv:=Hv.2.2 xi hxm
    rw [← hxi] at q0 q1 q2 q3
    clear hxi hxm
    obtain ⟨f0,f1⟩:=xi
    dsimp only at q0 q1 q2 q3 hxv
    obtain rfl:f1=[]:=List.length_eq_zero_iff.1 (by simp at hxv;omega)
    obtain rfl:f0=0:=by simp at hxv;omega
    have q4:wr.cell? ⟨(ad.add (i * 2)).block,(ad.add (i * 2)).off + 1,none⟩=some (.slice A2 0 c2):=q1
    clear q1
    go_wp2_with (fail)
    obtain ⟨wb,hwb⟩:∃ wb,wb=wr.alloc (.cells #[.int .i64 0,.slice A2 0 c2] 45):=⟨_,rfl⟩
    rw [← hwb]
    have hbb:Below wr.heap.size wr wb:=by rw [hwb];exact below_alloc (Below.refl _ _) _
    have hblk:wb.heap[wr.heap.size]? = some (.cells #[.int .i64 0,.slice A2 0 c2] 45 (0,0)):=by rw [hwb];exact blk_new _ _
    have hq4:wb.cell? ⟨wr.heap.size,0,none⟩=some (.int .i64 0):=(blk_cell hblk 0).trans rfl
    have hq5:wb.cell? ⟨wr.heap.size,1,none⟩=some (.slice A2 0 c2):=(blk_cell hblk 1).trans rfl
    have Hbb:=Lib.hid hbb
    clear hwb hbb hblk q0 q4
    go_quiet ((go_at_call 59;exact Calls.quiet_of_same (Hkc.out i _ hlt (pw_below_drewN (below_then hbw hbw.size Hbb.out) _))))
    have hz:(if (0:Int) < (if kept i < 0 then 0 else kept i) then (0:Int) else (if kept i < 0 then 0 else kept i))=0:=by split <;> split at * <;> omega
    rw [hz]
    clear hz
    generalize (if kept i < 0 then (0:Int) else kept i)=mx
    have hcut:=cut_from (P:=Try.prog) 22 5 .i64 hu22 hi5 1 hs5 A5 0 cap2 0 (by omega) (by omega)
    obtain ⟨dp,hdp⟩:∃ dp,dp=(if cap2=(0:Int).toNat then A5 else A5.map (·.add ((0:Int).toNat * 1))):=⟨_,rfl⟩
    rw [← hdp] at hcut
    clear hdp
    have hcut2:=cut3 (P:=Try.prog) 22 5 hu22 hi5 A2 0 c2 0 0 (by omega) (by omega) (by omega)
    go_wp2_with (fail)
    refine region_tail 9 (by kernel_rfl) (by kernel_rfl) ?_
    intro wd hbd hhd
    simp only [List.take_succ_cons,List.take_zero,List.drop_succ_cons,List.drop_zero]
    have hq6:wd.cell? ⟨wr.heap.size,0,none⟩=some (.int .i64 0):=(pw_cell_below hbd (pw_cell_below (pw_below_drewN (Below.refl _ _) nq) hq4))
    have hq7:wd.cell? ⟨wr.heap.size,1,none⟩=some (.slice A2 0 c2):=(pw_cell_below hbd (pw_cell_below (pw_below_drewN (Below.refl _ _) nq) hq5))
    have Hbd:=Lib.hid (below_then Hbb.out Hbb.out.size (below_then (pw_below_drewN (Below.refl wb.heap.size wb) nq) (Nat.le_refl _) hbd))
    clear hq4 hq5 hbd hhd
    repeat still_step
    refine wpStill_nil ?_
    refine wpList_copy_nothing rfl (.tmp 31) (.tmp 36) 22 22 rfl 5 hu22 (by rw [hi5];simp [hs5]) dp A2 0 cap2 0 0 rfl rfl rfl ?_
    go_wp2
    go_roundg (l1.length - (i + 1))
    case measure=>omega
    case rel=>exact ⟨i + 1,by omega,rfl,by go_num,below_then hb hb.size Hbd.out⟩
  · go_wp2
    go_ret
    refine ⟨_,rfl,?_,hbw⟩
    have hlen:=applyN_length kept [] l1 hv l1.length (Nat.le_refl _)
    have e:applyL kept l1 []=[]:=List.length_eq_zero_iff.1 hlen
    rw [e]
    exact Kd.R_lower (Kd.R_below HR.out hb) HB1.out.size
theorem apply59_calls (A0:Option Addr) (c0:Nat) (l0:List Int) (A1:Option Addr) (c1:Nat) (l1:List S45) (B:Nat) (w:World) (kept:Nat→Int)
 (h0:Kd.C (Kd.int .u8) w A0 l0.length l0) (hc0:l0.length ≤ c0) (h1:Kd.C k45 w A1 l1.length l1) (hc1:l1.length ≤ c1) (hv:validB l0 l1=true)
 (hkc:∀ (i:Nat) (w1:World),i < l1.length→Below w.heap.size w w1→Calls Try.prog 59 #[.int .i64 i,.pointer (some ⟨B,0,none⟩)] w1 fun e w'=>e=.returned (.int .i64 (kept i))∧w'=w1) :
  Calls Try.prog 47 #[.agg #[.slice A0 l0.length c0,.slice A1 l1.length c1],.func (.func 59) #[] #[.pointer (some ⟨B,0,none⟩)]] w fun e w'=>∃ v,e=.returned v∧Kd.R (Kd.int .u8) 5 w' w.heap.size (fun _=>True) v (applyL kept l1 l0)∧Below w.heap.size w w':=by
 rcases Nat.eq_zero_or_pos l0.length with h|h
 · obtain rfl:=List.length_eq_zero_iff.1 h
   exact apply59_nil A0 c0 A1 c1 l1 B w kept h0 h1 hc1 hv hkc
 · exact apply59_pos A0 c0 l0 A1 c1 l1 B w kept h0 hc0 h1 hc1 hv h hkc
end Go.Proofs.Ytfpdmlhknddffaa.Dk
end
section
namespace Go.Proofs.Ytfpdmlhknddffaa.Dk
open Go.RowKit Go.Proofs.YtfpdmlhknddffaaW.PrintWords Go.Proofs.YtfpdmlhknddffaaW.PrintLast Go.Proofs.YtfpdmlhknddffaaW.PrintMore
set_option linter.unusedVariables false
set_option linter.unusedSimpArgs false
def wholeK (l1:List S45) (i:Nat):Int:=((l1.getD i z45).f1.length:Int)
def syncL (l0:List Int) (l1:List S45):List Int:=if validB l0 l1=true then applyL (wholeK l1) l1 l0 else []
theorem two_cells {w:World} {g:Nat} {t:TypeId} {a b:Value} (h:w.heap[g]? = some (.cells #[a,b] t (0,0))) (u v:Value):((w.setCell ⟨g,0,none⟩ u).setCell ⟨g,1,none⟩ v).heap[g]? = some (.cells #[u,v] t (0,0)) :=
 blk_put (blk_put h 0 u rfl) 1 v rfl
set_option maxHeartbeats 800000 in
theorem disk_Sync_calls (A0:Option Addr) (c0:Nat) (l0:List Int) (A1:Option Addr) (c1:Nat) (l1:List S45) (w:World)
 (h0:Kd.C (Kd.int .u8) w A0 l0.length l0) (hc0:l0.length ≤ c0) (h1:Kd.C k45 w A1 l1.length l1) (hc1:l1.length ≤ c1) :
  Calls Try.prog 26 #[.agg #[.slice A0 l0.length c0,.slice A1 l1.length c1]] w fun e w'=>∃ v0:Value,e=.returned (.agg #[v0,.slice none 0 0])∧Kd.R (Kd.int .u8) 5 w' w.heap.size (fun _=>True) v0 (syncL l0 l1)∧Below w.heap.size w w':=by
 have hu25:=Try.underlying25
 unfold syncL
 cases hv:validB l0 l1
 all_goals
  have Hv:=Lib.hid hv
  clear hv
  go_enter Try.func26,Try.ntmps26
  go_wp2_with (first|((with_reducible refine gate_dst (N:=1) rfl ?_);(refine box_event ?hg (N:=1) ?hd (cs:=#[.slice A0 l0.length c0,.slice A1 l1.length c1]) (t:=25) ?hr ?_);(case hd=>rfl);(case hg=>rfl);(case hr=>first|(go_simp;done)|(go_simp;rfl));intro g hg w1 hb1 hB1;have hq0:=(blk_cell hb1 0).trans rfl;have hq1:=(blk_cell hb1 1).trans rfl;have HB1:=Lib.hid hB1;have Hb1:=Lib.hid hb1;clear hB1 hb1 hg)|((with_reducible refine gate_dst (N:=2) rfl ?_);(refine box_event ?hg (N:=2) ?hd (cs:=#[.slice none 0 0,.slice none 0 0]) (t:=25) ?hr ?_);(case hd=>rfl);(case hg=>rfl);(case hr=>first|(go_simp;done)|(go_simp;rfl));intro g2 hg2 w2 hb2 hB2;have hq2:=(blk_cell (blk_below Hb1.out hB2) 0).trans rfl;have hq3:=(blk_cell (blk_below Hb1.out hB2) 1).trans rfl;have hq4:=(blk_cell hb2 0).trans rfl;have hq5:=(blk_cell hb2 1).trans rfl;have HB2:=Lib.hid (below_then HB1.out HB1.out.size hB2);have Hb2:=Lib.hid hb2;have Hb1':=Lib.hid (blk_below Hb1.out hB2);have Hgg:=Lib.hid (blk_lt Hb1.out);have Hg2:=Lib.hid hg2;clear hB2 hb2 Hb1 hq0 hq1 hg2)|(go_at_call 43;refine (disk_isValid_calls A0 c0 l0 A1 c1 l1 w2 (Kd.C_below h0 HB2.out) hc0 (Kd.C_below h1 HB2.out) hc1).mono ?_;rintro e w3 ⟨rfl,hb3⟩;rw [Hv.out];have hq6:=(blk_cell (blk_below Hb1'.out hb3) 0).trans rfl;have hq7:=(blk_cell (blk_below Hb1'.out hb3) 1).trans rfl;have hq8:=(blk_cell (blk_below Hb2.out hb3) 0).trans rfl;have hq9:=(blk_cell (blk_below Hb2.out hb3) 1).trans rfl;have hf8:=blk_frozen (blk_below Hb2.out hb3) 0;have hf9:=blk_frozen (blk_below Hb2.out hb3) 1;have HB3:=Lib.hid (below_then HB2.out HB2.out.size hb3);have Hb1'':=Lib.hid (blk_below Hb1'.out hb3);have Hb2'':=Lib.hid (blk_below Hb2.out hb3);clear hb3 Hb1' Hb2 hq2 hq3 hq4 hq5) )
 · obtain ⟨w4,hw4⟩:∃ w4,w4=((w3.setCell ⟨g2,0,none⟩ (.slice none 0 0)).setCell ⟨g2,1,none⟩ (.slice none 0 0)):=⟨_,rfl⟩
   have hr2:=two_cells Hb2''.out (.slice none 0 0) (.slice none 0 0)
   rw [← hw4] at hr2 ⊢
   have hb4:Below w.heap.size w w4:=by
    rw [hw4]
    exact (HB3.out.setCell (p:=⟨g2,0,none⟩) (by have:=HB1.out.size;rw [Hg2.out];exact this) _).setCell (p:=⟨g2,1,none⟩) (by have:=HB1.out.size;rw [Hg2.out];exact this) _
   clear hw4 hq6 hq7 hq8 hq9 hf8 hf9
   have k1:w4.cell? ⟨g2,0,none⟩=some (.slice none 0 0):=(blk_cell hr2 0).trans rfl
   have k2:w4.cell? ⟨g2,1,none⟩=some (.slice none 0 0):=(blk_cell hr2 1).trans rfl
   exact bodyPost_ret (v:=.agg #[.slice none 0 0,.slice none 0 0]) (by simp [results,Try.results26,go_sem,k1,k2]) rfl ⟨_,rfl,Kd.R_nil _ _ _ _ _,hb4⟩
 · have k6:w3.cell? ⟨g,0,none⟩=some (.slice A0 l0.length c0):=hq6
   have k7:w3.cell? ⟨g,1,none⟩=some (.slice A1 l1.length c1):=hq7
   clear hq6 hq7 hq8 hq9 hf8 hf9
   go_region_held3 (fun w'=>w'.cell? ⟨g,0,none⟩=some (.slice A0 l0.length c0)∧w'.cell? ⟨g,1,none⟩=some (.slice A1 l1.length c1))
    (first|exact ⟨k6,k7⟩|exact ⟨k8,k9⟩|exact ⟨k10,k11⟩|exact ⟨(blk_cell (blk_far (blk_far Hb1f.out hne.out _) hne.out _) 0).trans rfl,(blk_cell (blk_far (blk_far Hb1f.out hne.out _) hne.out _) 1).trans rfl⟩)
    ((first|(go_at_call 48;refine (whole_calls A0 l0.length c0 A1 l1.length c1 _).mono ?_;rintro e w4 ⟨B,rfl,hB,hBs,hb4⟩;have k8:=pw_cell_below hb4 k6;have k9:=pw_cell_below hb4 k7;have HB4:=Lib.hid (below_then HB3.out HB3.out.size (below_then (below_drew (Below.refl _ _)) (Nat.le_refl _) hb4));have HBB:=Lib.hid hB;have Hb4:=Lib.hid hb4;clear hB hb4 hBs)|(go_at_call 47;refine (apply59_calls A0 c0 l0 A1 c1 l1 B _ (wholeK l1) (Kd.C_below h0 HB4.out) hc0 (Kd.C_below h1 HB4.out) hc1 Hv.out ?hwk).mono ?_;(case hwk=>intro i w5 hi hb5;refine (whole1_calls i A0 l0.length c0 A1 c1 l1 B w5 hi (blk_below HBB.out hb5) (Kd.C_below (Kd.C_below h1 HB4.out) hb5)).mono ?_;rintro e w6 ⟨rfl,rfl⟩;exact ⟨by simp [wholeK,List.getD,hi],rfl⟩);rintro e w5 ⟨v0,rfl,hr5,hb5⟩;obtain ⟨A5,cap5,rfl⟩:=Kd.R_slice hr5;have k10:=pw_cell_below hb5 k8;have k11:=pw_cell_below hb5 k9;have Hb2f:=Lib.hid (blk_below (blk_below (blk_drew Hb2''.out) Hb4.out) hb5);have Hb1f:=Lib.hid (blk_below (blk_below (blk_drew Hb1''.out) Hb4.out) hb5);have hne:Hid (g ≠ g2):=Lib.hid (by have:=Hgg.out;have:=Hg2.out;omega);have q0:=(blk_cell Hb2f.out 0).trans rfl;have q1:=(blk_cell Hb2f.out 1).trans rfl;have q2:=blk_frozen Hb2f.out 0;have q3:=blk_frozen Hb2f.out 1;have HB5:=Lib.hid (below_then HB4.out HB4.out.size hb5);have HR5:=Lib.hid (Kd.R_lower hr5 HB4.out.size);clear hb5 hr5)))
   go_wp2
   obtain ⟨w6,hw6⟩:∃ w6,w6=((w5.setCell ⟨g2,0,none⟩ (.slice A5 (applyL (wholeK l1) l1 l0).length cap5)).setCell ⟨g2,1,none⟩ (.slice none 0 0)):=⟨_,rfl⟩
   have hr2:=two_cells Hb2f.out (.slice A5 (applyL (wholeK l1) l1 l0).length cap5) (.slice none 0 0)
   rw [← hw6] at hr2 ⊢
   have hgs:w.heap.size ≤ g2:=by have:=HB1.out.size;rw [Hg2.out];exact this
   have hb6:Below w.heap.size w w6:=by
    rw [hw6]
    exact (HB5.out.setCell (p:=⟨g2,0,none⟩) hgs _).setCell (p:=⟨g2,1,none⟩) hgs _
   have hr6:Kd.R (Kd.int .u8) 5 w6 w.heap.size (fun _=>True) (.slice A5 (applyL (wholeK l1) l1 l0).length cap5) (applyL (wholeK l1) l1 l0):=by
    rw [hw6]
    exact Kd.R_set (Kd.R_set HR5.out Hb2f.out (by decide) 0 _) (blk_put Hb2f.out 0 _ rfl) (by decide) 1 _
   have k1:w6.cell? ⟨g2,0,none⟩=some (.slice A5 (applyL (wholeK l1) l1 l0).length cap5):=(blk_cell hr2 0).trans rfl
   have k2:w6.cell? ⟨g2,1,none⟩=some (.slice none 0 0):=(blk_cell hr2 1).trans rfl
   exact bodyPost_ret (v:=.agg #[.slice A5 (applyL (wholeK l1) l1 l0).length cap5,.slice none 0 0]) (by simp [results,Try.results26,go_sem,k1,k2]) rfl ⟨_,rfl,hr6,hb6⟩
end Go.Proofs.Ytfpdmlhknddffaa.Dk
end
section
namespace Go.Proofs.Ytfpdmlhknddffaa.Dk
open Go.RowKit Go.Proofs.YtfpdmlhknddffaaW.PrintWords Go.Proofs.YtfpdmlhknddffaaW.PrintLast Go.Proofs.YtfpdmlhknddffaaW.PrintMore
set_option linter.unusedVariables false
set_option linter.unusedSimpArgs false
def keptK (ks:List Int) (i:Nat):Int:=ks.getD i 0
def crashL (l0:List Int) (l1:List S45) (ks:List Int):List Int:=if validB l0 l1=true then applyL (keptK ks) l1 l0 else []
def readOk (l0:List Int) (l1:List S45) (a c:Int):Bool:=validB l0 l1 && isPartB l0.length a c
def readL (l0:List Int) (l1:List S45) (a c:Int):List Int:=if readOk l0 l1 a c=true then ((applyL (wholeK l1) l1 l0).take (a + c).toNat).drop a.toNat else []
set_option maxHeartbeats 800000 in
theorem disk_Read_calls (A0:Option Addr) (c0:Nat) (l0:List Int) (A1:Option Addr) (c1:Nat) (l1:List S45) (a c:Int) (w:World)
 (h0:Kd.C (Kd.int .u8) w A0 l0.length l0) (hc0:l0.length ≤ c0) (h1:Kd.C k45 w A1 l1.length l1) (hc1:l1.length ≤ c1) :
  Calls Try.prog 23 #[.agg #[.slice A0 l0.length c0,.slice A1 l1.length c1],.int .i64 a,.int .i64 c] w fun e w'=>∃ v0:Value,e=.returned (.tuple #[v0,.int .i64 (if readOk l0 l1 a c=true then 0 else 1)])∧Kd.R (Kd.int .u8) 5 w' w.heap.size (fun _=>True) v0 (readL l0 l1 a c)∧Below w.heap.size w w':=by
 have hu25:=Try.underlying25
 have hu22:=Try.underlying22
 obtain ⟨i5,hi5,_,hs5,_⟩:=info_parts info5
 unfold readL readOk
 cases hv:validB l0 l1 <;> cases hp:isPartB l0.length a c
 all_goals
  have Hv:=Lib.hid hv
  have Hp:=Lib.hid hp
  clear hv hp
  go_enter Try.func23,Try.ntmps23
  go_wp2_with (first|((with_reducible refine gate_dst (N:=3) rfl ?_);(refine box_event ?hg (N:=3) ?hd (cs:=#[.slice A0 l0.length c0,.slice A1 l1.length c1]) (t:=25) ?hr ?_);(case hd=>rfl);(case hg=>rfl);(case hr=>first|(go_simp;done)|(go_simp;rfl));intro g hg w1 hb1 hB1;have hq0:=(blk_cell hb1 0).trans rfl;have hq1:=(blk_cell hb1 1).trans rfl;have HB1:=Lib.hid hB1;have Hb1:=Lib.hid hb1;clear hB1 hb1 hg)|(go_at_call 43;refine (disk_isValid_calls A0 c0 l0 A1 c1 l1 w1 (Kd.C_below h0 HB1.out) hc0 (Kd.C_below h1 HB1.out) hc1).mono ?_;rintro e w3 ⟨rfl,hb3⟩;rw [Hv.out];have hq6:=(blk_cell (blk_below Hb1.out hb3) 0).trans rfl;have hq7:=(blk_cell (blk_below Hb1.out hb3) 1).trans rfl;have HB3:=Lib.hid (below_then HB1.out HB1.out.size hb3);have Hb3:=Lib.hid (blk_below Hb1.out hb3);clear hb3 Hb1 hq0 hq1)|(go_at_call 44;have hl:=((validB_iff l0 l1).1 Hv.out).1;refine (disk_isPart.calls _ _ l0 _ _ l1 a c _ _ (Kd.C_below h0 HB3.out) hc0 (Kd.C_below h1 HB3.out) hc1 (isPart_f l0 l1 a c (by unfold maxLen;omega))).mono ?_;rintro e w4 ⟨rfl,hb4⟩;rw [Hp.out];have hq8:=(blk_cell (blk_below Hb3.out hb4) 0).trans rfl;have hq9:=(blk_cell (blk_below Hb3.out hb4) 1).trans rfl;have HB4:=Lib.hid (below_then HB3.out HB3.out.size hb4);have Hb4:=Lib.hid (blk_below Hb3.out hb4);clear hb4 Hb3 hq6 hq7 hl) )
 · go_ret2
   exact ⟨_,rfl,Kd.R_nil _ _ _ _ _,HB3.out⟩
 · go_ret2
   exact ⟨_,rfl,Kd.R_nil _ _ _ _ _,HB3.out⟩
 · go_ret2
   exact ⟨_,rfl,Kd.R_nil _ _ _ _ _,HB4.out⟩
 · have k6:w4.cell? ⟨g,0,none⟩=some (.slice A0 l0.length c0):=hq8
   have k7:w4.cell? ⟨g,1,none⟩=some (.slice A1 l1.length c1):=hq9
   have hl:=((validB_iff l0 l1).1 Hv.out).1
   obtain ⟨ha0,hc00,ha1,hc01⟩:=(isPartB_iff _ _ _).1 Hp.out
   have hwr:IntKind.i64.wrap (a + c)=a + c:=IntWalk.i64_in _ (by omega)
   have hlen:(applyL (wholeK l1) l1 l0).length=l0.length:=applyN_length _ l0 l1 Hv.out l1.length (Nat.le_refl _)
   have Hlen:=Lib.hid hlen
   have hac:0 ≤ a + c:=by omega
   have hac2:a ≤ a + c:=by omega
   clear hq8 hq9 hlen
   go_region_held3 (fun w'=>w'.cell? ⟨g,0,none⟩=some (.slice A0 l0.length c0)∧w'.cell? ⟨g,1,none⟩=some (.slice A1 l1.length c1))
    (first|exact ⟨k6,k7⟩|exact ⟨k8,k9⟩|exact ⟨k10,k11⟩|exact ⟨k12,k13⟩)
    ((first|(go_at_call 48;refine (whole_calls A0 l0.length c0 A1 l1.length c1 _).mono ?_;rintro e w5 ⟨B,rfl,hB,hBs,hb5⟩;have k8:=pw_cell_below hb5 k6;have k9:=pw_cell_below hb5 k7;have HB5:=Lib.hid (below_then HB4.out HB4.out.size (below_then (below_drew (Below.refl _ _)) (Nat.le_refl _) hb5));have HBB:=Lib.hid hB;clear hB hb5 hBs)|(go_at_call 47;refine (apply59_calls A0 c0 l0 A1 c1 l1 B _ (wholeK l1) (Kd.C_below h0 HB5.out) hc0 (Kd.C_below h1 HB5.out) hc1 Hv.out ?hwk).mono ?_;(case hwk=>intro i w5 hi hb5;refine (whole1_calls i A0 l0.length c0 A1 c1 l1 B w5 hi (blk_below HBB.out hb5) (Kd.C_below (Kd.C_below h1 HB5.out) hb5)).mono ?_;rintro e w6 ⟨rfl,rfl⟩;exact ⟨by simp [wholeK,List.getD,hi],rfl⟩);rintro e w6 ⟨v0,rfl,hr6,hb6⟩;obtain ⟨A5,cap5,rfl⟩:=Kd.R_slice hr6;have hn5:=(Kd.R_reads' hr6).2.1;have hC:=(Kd.R_reads' hr6).2.2;have hcut:=cut_mid (P:=Try.prog) 22 5 .i64 .i64 hu22 hi5 1 hs5 A5 (applyL (wholeK l1) l1 l0).length cap5 a (a + c) ha0 hac2 (by rw [Hlen.out];omega) hn5;have hmid:=Kd.C_mid (lo:=a.toNat) (hi:=(a + c).toNat) (c:=cap5) hC (by omega) (by rw [Hlen.out];omega) hn5;obtain ⟨dp,hdp⟩:∃ dp,dp=(if cap5=a.toNat then A5 else A5.map (·.add (a.toNat * 1))):=⟨_,rfl⟩;rw [← hdp] at hcut;have hmid2:Kd.C (Kd.int .u8) w6 dp (((applyL (wholeK l1) l1 l0).take (a + c).toNat).drop a.toNat).length (((applyL (wholeK l1) l1 l0).take (a + c).toNat).drop a.toNat):=(by rw [hdp];exact hmid);have hml:(((applyL (wholeK l1) l1 l0).take (a + c).toNat).drop a.toNat).length=(a + c).toNat - a.toNat:=(by rw [List.length_drop,List.length_take,Hlen.out];omega);rw [← hml] at hcut;obtain ⟨M,hM⟩:∃ M,M=((applyL (wholeK l1) l1 l0).take (a + c).toNat).drop a.toNat:=⟨_,rfl⟩;rw [← hM] at hcut hmid2 hml;have HM:=Lib.hid hM;have k10:=pw_cell_below hb6 k8;have k11:=pw_cell_below hb6 k9;have HB6:=Lib.hid (below_then HB5.out HB5.out.size hb6);have HC6:=Lib.hid hmid2;have Hml:=Lib.hid hml;have Hn5:=Lib.hid hn5;clear hb6 hr6 hn5 hC hmid hmid2 hdp hml hM)|(go_at_call 45;refine (clone_calls dp (cap5 - a.toNat) M _ HC6.out ?hca (by rw [Hml.out];omega)).mono ?_;(case hca=>have:=Hn5.out;have:=Hlen.out;have:=Hml.out;omega);rintro e w7 ⟨v7,rfl,hr7,hb7⟩;have k12:=pw_cell_below hb7 k10;have k13:=pw_cell_below hb7 k11;have HB7:=Lib.hid (below_then HB6.out HB6.out.size hb7);have HR7:=Lib.hid (Kd.R_lower hr7 HB6.out.size);clear hb7 hr7)))
   go_wp2
   go_ret2
   exact ⟨_,rfl,by have:=HR7.out;rw [HM.out] at this;exact this,HB7.out⟩
end Go.Proofs.Ytfpdmlhknddffaa.Dk
end
section
namespace Go.Proofs.Ytfpdmlhknddffaa.Dk
open Go.RowKit Go.Proofs.YtfpdmlhknddffaaW.PrintWords Go.Proofs.YtfpdmlhknddffaaW.PrintLast Go.Proofs.YtfpdmlhknddffaaW.PrintMore
set_option linter.unusedVariables false
set_option linter.unusedSimpArgs false
def writeF (l0:List Int) (l1:List S45) (a:Int) (l2:List Int):List Int × List S45 × Int :=
 if (validB l0 l1 && isPartB l0.length a l2.length)=true then (if l1.length=64 then ([],[],2) else (l0,l1 ++ [⟨a,l2⟩],0)) else ([],[],1)
set_option maxHeartbeats 800000 in
theorem disk_Write_e1 (A0:Option Addr) (c0:Nat) (l0:List Int) (A1:Option Addr) (c1:Nat) (l1:List S45) (a:Int) (A2:Option Addr) (c2:Nat) (l2:List Int) (w:World)
 (h0:Kd.C (Kd.int .u8) w A0 l0.length l0) (hc0:l0.length ≤ c0) (h1:Kd.C k45 w A1 l1.length l1) (hc1:l1.length ≤ c1) (h2:Kd.C (Kd.int .u8) w A2 l2.length l2) (hc2:l2.length ≤ c2) (Hv:Hid (validB l0 l1=false)) :
  Calls Try.prog 21 #[.agg #[.slice A0 l0.length c0,.slice A1 l1.length c1],.int .i64 a,.slice A2 l2.length c2] w fun e w'=>e=.returned (.tuple #[.agg #[.slice none 0 0,.slice none 0 0],.int .i64 1])∧Below w.heap.size w w':=by
 have hu25:=Try.underlying25
 have hu22:=Try.underlying22
 go_enter Try.func21,Try.ntmps21
 go_wp2_with (first|((with_reducible refine gate_dst (N:=3) rfl ?_);(refine box_event ?hg (N:=3) ?hd (cs:=#[.slice A0 l0.length c0,.slice A1 l1.length c1]) (t:=25) ?hr ?_);(case hd=>rfl);(case hg=>rfl);(case hr=>first|(go_simp;done)|(go_simp;rfl));intro g hg w1 hb1 hB1;have HB1:=Lib.hid hB1;have Hb1:=Lib.hid hb1;clear hB1 hb1 hg)|((with_reducible refine gate_dst (N:=6) rfl ?_);(refine box_event ?hg (N:=6) ?hd (cs:=#[.slice none 0 0,.slice none 0 0]) (t:=25) ?hr ?_);(case hd=>rfl);(case hg=>rfl);(case hr=>first|(go_simp;done)|(go_simp;rfl));intro g2 hg2 w2 hb2 hB2;have hq2:=(blk_cell (blk_below Hb1.out hB2) 0).trans rfl;have hq3:=(blk_cell (blk_below Hb1.out hB2) 1).trans rfl;have Hgs:Hid (w.heap.size ≤ g2):=(Lib.hid (by rw [hg2];exact HB1.out.size));have HB2:=Lib.hid (below_then HB1.out HB1.out.size hB2);have Hb2:=Lib.hid hb2;have Hb1':=Lib.hid (blk_below Hb1.out hB2);clear hB2 hb2 Hb1 hg2)|(go_at_call 43;refine (disk_isValid_calls A0 c0 l0 A1 c1 l1 w2 (Kd.C_below h0 HB2.out) hc0 (Kd.C_below h1 HB2.out) hc1).mono ?_;rintro e w3 ⟨rfl,hb3⟩;rw [Hv.out];have hq6:=(blk_cell (blk_below Hb1'.out hb3) 0).trans rfl;have hq7:=(blk_cell (blk_below Hb1'.out hb3) 1).trans rfl;have hq8:=(blk_cell (blk_below Hb2.out hb3) 0).trans rfl;have hq9:=(blk_cell (blk_below Hb2.out hb3) 1).trans rfl;have hf8:=blk_frozen (blk_below Hb2.out hb3) 0;have hf9:=blk_frozen (blk_below Hb2.out hb3) 1;have HB3:=Lib.hid (below_then HB2.out HB2.out.size hb3);have Hb3:=Lib.hid (blk_below Hb1'.out hb3);have Hbr:=Lib.hid (blk_below Hb2.out hb3);clear hb3 Hb1' Hb2 hq2 hq3) )
 obtain ⟨w9,hw9⟩:∃ w9,w9=((w3.setCell ⟨g2,0,none⟩ (.slice none 0 0)).setCell ⟨g2,1,none⟩ (.slice none 0 0)):=⟨_,rfl⟩
 have hr2:=two_cells Hbr.out (.slice none 0 0) (.slice none 0 0)
 rw [← hw9] at hr2 ⊢
 have hb9:Below w.heap.size w w9:=by
  rw [hw9]
  exact (HB3.out.setCell (p:=⟨g2,0,none⟩) Hgs.out _).setCell (p:=⟨g2,1,none⟩) Hgs.out _
 clear hw9 hq6 hq7 hq8 hq9 hf8 hf9
 have k1:w9.cell? ⟨g2,0,none⟩=some (.slice none 0 0):=(blk_cell hr2 0).trans rfl
 have k2:w9.cell? ⟨g2,1,none⟩=some (.slice none 0 0):=(blk_cell hr2 1).trans rfl
 exact bodyPost_ret (v:=.tuple #[.agg #[.slice none 0 0,.slice none 0 0],.int .i64 1]) (by simp [results,Try.results21,go_sem,k1,k2]) rfl ⟨rfl,hb9⟩
set_option maxHeartbeats 800000 in
theorem disk_Write_e2 (A0:Option Addr) (c0:Nat) (l0:List Int) (A1:Option Addr) (c1:Nat) (l1:List S45) (a:Int) (A2:Option Addr) (c2:Nat) (l2:List Int) (w:World)
 (h0:Kd.C (Kd.int .u8) w A0 l0.length l0) (hc0:l0.length ≤ c0) (h1:Kd.C k45 w A1 l1.length l1) (hc1:l1.length ≤ c1) (h2:Kd.C (Kd.int .u8) w A2 l2.length l2) (hc2:l2.length ≤ c2) (Hv:Hid (validB l0 l1=true)) (Hp:Hid (isPartB l0.length a l2.length=false)) :
  Calls Try.prog 21 #[.agg #[.slice A0 l0.length c0,.slice A1 l1.length c1],.int .i64 a,.slice A2 l2.length c2] w fun e w'=>e=.returned (.tuple #[.agg #[.slice none 0 0,.slice none 0 0],.int .i64 1])∧Below w.heap.size w w':=by
 have hu25:=Try.underlying25
 have hu22:=Try.underlying22
 go_enter Try.func21,Try.ntmps21
 go_wp2_with (first|((with_reducible refine gate_dst (N:=3) rfl ?_);(refine box_event ?hg (N:=3) ?hd (cs:=#[.slice A0 l0.length c0,.slice A1 l1.length c1]) (t:=25) ?hr ?_);(case hd=>rfl);(case hg=>rfl);(case hr=>first|(go_simp;done)|(go_simp;rfl));intro g hg w1 hb1 hB1;have HB1:=Lib.hid hB1;have Hb1:=Lib.hid hb1;clear hB1 hb1 hg)|((with_reducible refine gate_dst (N:=6) rfl ?_);(refine box_event ?hg (N:=6) ?hd (cs:=#[.slice none 0 0,.slice none 0 0]) (t:=25) ?hr ?_);(case hd=>rfl);(case hg=>rfl);(case hr=>first|(go_simp;done)|(go_simp;rfl));intro g2 hg2 w2 hb2 hB2;have hq2:=(blk_cell (blk_below Hb1.out hB2) 0).trans rfl;have hq3:=(blk_cell (blk_below Hb1.out hB2) 1).trans rfl;have Hgs:Hid (w.heap.size ≤ g2):=(Lib.hid (by rw [hg2];exact HB1.out.size));have HB2:=Lib.hid (below_then HB1.out HB1.out.size hB2);have Hb2:=Lib.hid hb2;have Hb1':=Lib.hid (blk_below Hb1.out hB2);clear hB2 hb2 Hb1 hg2)|(go_at_call 43;refine (disk_isValid_calls A0 c0 l0 A1 c1 l1 w2 (Kd.C_below h0 HB2.out) hc0 (Kd.C_below h1 HB2.out) hc1).mono ?_;rintro e w3 ⟨rfl,hb3⟩;rw [Hv.out];have hq6:=(blk_cell (blk_below Hb1'.out hb3) 0).trans rfl;have hq7:=(blk_cell (blk_below Hb1'.out hb3) 1).trans rfl;have hq8:=(blk_cell (blk_below Hb2.out hb3) 0).trans rfl;have hq9:=(blk_cell (blk_below Hb2.out hb3) 1).trans rfl;have hf8:=blk_frozen (blk_below Hb2.out hb3) 0;have hf9:=blk_frozen (blk_below Hb2.out hb3) 1;have HB3:=Lib.hid (below_then HB2.out HB2.out.size hb3);have Hb3:=Lib.hid (blk_below Hb1'.out hb3);have Hbr:=Lib.hid (blk_below Hb2.out hb3);clear hb3 Hb1' Hb2 hq2 hq3)|(go_at_call 44;have hl:=((validB_iff l0 l1).1 Hv.out).1;refine (disk_isPart.calls _ _ l0 _ _ l1 a l2.length _ _ (Kd.C_below h0 HB3.out) hc0 (Kd.C_below h1 HB3.out) hc1 (isPart_f l0 l1 a l2.length (by unfold maxLen;omega))).mono ?_;rintro e w4 ⟨rfl,hb4⟩;rw [Hp.out];clear hq6 hq7 hq8 hq9 hf8 hf9;have hq6:=(blk_cell (blk_below Hb3.out hb4) 0).trans rfl;have hq7:=(blk_cell (blk_below Hb3.out hb4) 1).trans rfl;have hq8:=(blk_cell (blk_below Hbr.out hb4) 0).trans rfl;have hq9:=(blk_cell (blk_below Hbr.out hb4) 1).trans rfl;have hf8:=blk_frozen (blk_below Hbr.out hb4) 0;have hf9:=blk_frozen (blk_below Hbr.out hb4) 1;have HB4:=Lib.hid (below_then HB3.out HB3.out.size hb4);have Hbr':=Lib.hid (blk_below Hbr.out hb4);clear hb4 hl) )
 obtain ⟨w9,hw9⟩:∃ w9,w9=((w4.setCell ⟨g2,0,none⟩ (.slice none 0 0)).setCell ⟨g2,1,none⟩ (.slice none 0 0)):=⟨_,rfl⟩
 have hr2:=two_cells Hbr'.out (.slice none 0 0) (.slice none 0 0)
 rw [← hw9] at hr2 ⊢
 have hb9:Below w.heap.size w w9:=by
  rw [hw9]
  exact (HB4.out.setCell (p:=⟨g2,0,none⟩) Hgs.out _).setCell (p:=⟨g2,1,none⟩) Hgs.out _
 clear hw9 hq6 hq7 hq8 hq9 hf8 hf9
 have k1:w9.cell? ⟨g2,0,none⟩=some (.slice none 0 0):=(blk_cell hr2 0).trans rfl
 have k2:w9.cell? ⟨g2,1,none⟩=some (.slice none 0 0):=(blk_cell hr2 1).trans rfl
 exact bodyPost_ret (v:=.tuple #[.agg #[.slice none 0 0,.slice none 0 0],.int .i64 1]) (by simp [results,Try.results21,go_sem,k1,k2]) rfl ⟨rfl,hb9⟩
set_option maxHeartbeats 800000 in
theorem disk_Write_e64 (A0:Option Addr) (c0:Nat) (l0:List Int) (A1:Option Addr) (c1:Nat) (l1:List S45) (a:Int) (A2:Option Addr) (c2:Nat) (l2:List Int) (w:World)
 (h0:Kd.C (Kd.int .u8) w A0 l0.length l0) (hc0:l0.length ≤ c0) (h1:Kd.C k45 w A1 l1.length l1) (hc1:l1.length ≤ c1) (h2:Kd.C (Kd.int .u8) w A2 l2.length l2) (hc2:l2.length ≤ c2) (Hv:Hid (validB l0 l1=true)) (Hp:Hid (isPartB l0.length a l2.length=true)) (h64:l1.length=64) :
  Calls Try.prog 21 #[.agg #[.slice A0 l0.length c0,.slice A1 l1.length c1],.int .i64 a,.slice A2 l2.length c2] w fun e w'=>e=.returned (.tuple #[.agg #[.slice none 0 0,.slice none 0 0],.int .i64 2])∧Below w.heap.size w w':=by
 have hu25:=Try.underlying25
 have hu22:=Try.underlying22
 have e1:((l1.length:Int) == 64)=true:=by rw [beq_iff_eq];omega
 clear h64
 go_enter Try.func21,Try.ntmps21
 go_wp2_with (first|((with_reducible refine gate_dst (N:=3) rfl ?_);(refine box_event ?hg (N:=3) ?hd (cs:=#[.slice A0 l0.length c0,.slice A1 l1.length c1]) (t:=25) ?hr ?_);(case hd=>rfl);(case hg=>rfl);(case hr=>first|(go_simp;done)|(go_simp;rfl));intro g hg w1 hb1 hB1;have HB1:=Lib.hid hB1;have Hb1:=Lib.hid hb1;clear hB1 hb1 hg)|((with_reducible refine gate_dst (N:=6) rfl ?_);(refine box_event ?hg (N:=6) ?hd (cs:=#[.slice none 0 0,.slice none 0 0]) (t:=25) ?hr ?_);(case hd=>rfl);(case hg=>rfl);(case hr=>first|(go_simp;done)|(go_simp;rfl));intro g2 hg2 w2 hb2 hB2;have hq2:=(blk_cell (blk_below Hb1.out hB2) 0).trans rfl;have hq3:=(blk_cell (blk_below Hb1.out hB2) 1).trans rfl;have Hgs:Hid (w.heap.size ≤ g2):=(Lib.hid (by rw [hg2];exact HB1.out.size));have HB2:=Lib.hid (below_then HB1.out HB1.out.size hB2);have Hb2:=Lib.hid hb2;have Hb1':=Lib.hid (blk_below Hb1.out hB2);clear hB2 hb2 Hb1 hg2)|(go_at_call 43;refine (disk_isValid_calls A0 c0 l0 A1 c1 l1 w2 (Kd.C_below h0 HB2.out) hc0 (Kd.C_below h1 HB2.out) hc1).mono ?_;rintro e w3 ⟨rfl,hb3⟩;rw [Hv.out];have hq6:=(blk_cell (blk_below Hb1'.out hb3) 0).trans rfl;have hq7:=(blk_cell (blk_below Hb1'.out hb3) 1).trans rfl;have hq8:=(blk_cell (blk_below Hb2.out hb3) 0).trans rfl;have hq9:=(blk_cell (blk_below Hb2.out hb3) 1).trans rfl;have hf8:=blk_frozen (blk_below Hb2.out hb3) 0;have hf9:=blk_frozen (blk_below Hb2.out hb3) 1;have HB3:=Lib.hid (below_then HB2.out HB2.out.size hb3);have Hb3:=Lib.hid (blk_below Hb1'.out hb3);have Hbr:=Lib.hid (blk_below Hb2.out hb3);clear hb3 Hb1' Hb2 hq2 hq3)|(go_at_call 44;have hl:=((validB_iff l0 l1).1 Hv.out).1;refine (disk_isPart.calls _ _ l0 _ _ l1 a l2.length _ _ (Kd.C_below h0 HB3.out) hc0 (Kd.C_below h1 HB3.out) hc1 (isPart_f l0 l1 a l2.length (by unfold maxLen;omega))).mono ?_;rintro e w4 ⟨rfl,hb4⟩;rw [Hp.out];clear hq6 hq7 hq8 hq9 hf8 hf9;have hq6:=(blk_cell (blk_below Hb3.out hb4) 0).trans rfl;have hq7:=(blk_cell (blk_below Hb3.out hb4) 1).trans rfl;have hq8:=(blk_cell (blk_below Hbr.out hb4) 0).trans rfl;have hq9:=(blk_cell (blk_below Hbr.out hb4) 1).trans rfl;have hf8:=blk_frozen (blk_below Hbr.out hb4) 0;have hf9:=blk_frozen (blk_below Hbr.out hb4) 1;have HB4:=Lib.hid (below_then HB3.out HB3.out.size hb4);have Hbr':=Lib.hid (blk_below Hbr.out hb4);clear hb4 hl) )
 obtain ⟨w9,hw9⟩:∃ w9,w9=((w4.setCell ⟨g2,0,none⟩ (.slice none 0 0)).setCell ⟨g2,1,none⟩ (.slice none 0 0)):=⟨_,rfl⟩
 have hr2:=two_cells Hbr'.out (.slice none 0 0) (.slice none 0 0)
 rw [← hw9] at hr2 ⊢
 have hb9:Below w.heap.size w w9:=by
  rw [hw9]
  exact (HB4.out.setCell (p:=⟨g2,0,none⟩) Hgs.out _).setCell (p:=⟨g2,1,none⟩) Hgs.out _
 clear hw9 hq6 hq7 hq8 hq9 hf8 hf9
 have k1:w9.cell? ⟨g2,0,none⟩=some (.slice none 0 0):=(blk_cell hr2 0).trans rfl
 have k2:w9.cell? ⟨g2,1,none⟩=some (.slice none 0 0):=(blk_cell hr2 1).trans rfl
 exact bodyPost_ret (v:=.tuple #[.agg #[.slice none 0 0,.slice none 0 0],.int .i64 2]) (by simp [results,Try.results21,go_sem,k1,k2]) rfl ⟨rfl,hb9⟩
end Go.Proofs.Ytfpdmlhknddffaa.Dk
end
section
namespace Go.Proofs.Ytfpdmlhknddffaa.Dk
open Go.RowKit Go.Proofs.YtfpdmlhknddffaaW.PrintWords Go.Proofs.YtfpdmlhknddffaaW.PrintLast Go.Proofs.YtfpdmlhknddffaaW.PrintMore
set_option linter.unusedVariables false
set_option linter.unusedSimpArgs false
theorem C_inner {α:Type} {d:Kd α} {w:World} {A:Option Addr} {xs:List α} (h:d.C w A xs.length xs):∃ inner,Reps (d.K w) d.sz xs inner∧inner.length=xs.length * d.sz∧(∀ b,A=some b→∀ j u,inner[j]? = some u→w.cell? (b.add j)=some u)∧(A=none→xs=[]):=by
 cases A with
 | none =>
  have hz:xs=[]:=by
   rcases Nat.eq_zero_or_pos xs.length with h0|h0
   · exact List.length_eq_zero_iff.1 h0
   · obtain ⟨ad,he,_⟩:=h.2.2 h0
     cases he
  subst hz
  exact ⟨[],Reps.none _ _,by simp,(fun _ hb=>by cases hb),fun _=>rfl⟩
 | some ad =>
  obtain ⟨inner,hr,hc⟩:=ReadsRow.inner_ h
  exact ⟨inner,hr,hr.1,(fun b hb=>by cases hb;exact hc),(fun hb=>by cases hb)⟩
theorem at45 {w w1:World} {g cap:Nat} {xs:List S45} {inner:List Value} (hown:w.ownsRow 0 45 2 (.slice (some ⟨g,0,none⟩) xs.length cap) xs.length inner) (hr:Reps (k45.K w1) 2 xs inner) (i:Nat) (hi:i < xs.length) :
 ∃ A1 c1,w.cell? ⟨g,i * 2,none⟩=some (.int .i64 (xs[i]).f0)∧w.cell? ⟨g,i * 2 + 1,none⟩=some (.slice A1 (xs[i]).f1.length c1)∧(xs[i]).f1.length ≤ c1∧(Kd.int .u8).C w1 A1 (xs[i]).f1.length (xs[i]).f1:=by
 have hK:=hr.2 i _ (List.getElem?_eq_getElem hi)
 obtain ⟨A1,c1,e,l1,g1⟩:=k45_open hK
 obtain ⟨hl,h2⟩:=hown
 rcases h2 with ⟨h3,_⟩|⟨g',cap',cur,h3,h4,h5,h6,h7,h8,h9⟩
 · cases h3
 · injection h3 with e1 _ e3
   injection e1 with e1
   injection e1 with e1
   subst e1
   have hget:∀ j,j < 2→w.cell? ⟨g,i * 2 + j,none⟩=((inner.drop (i * 2)).take 2)[j]?:=by
    intro j hj
    rw [blk_cell h5,List.getElem?_take_of_lt hj,List.getElem?_drop,← h9,List.getElem?_take_of_lt (by omega)]
    simp
   refine ⟨A1,c1,?_,?_,l1,g1⟩
   · have:=hget 0 (by omega)
     rw [e] at this
     exact this
   · have:=hget 1 (by omega)
     rw [e] at this
     exact this
theorem S_any {α:Type} {d:Kd α} {e base:Nat} {w:World} {ok:Nat→Prop} {v:Value} {xs:List α} (h:Kd.S d e w base ok v xs):∃ A n c,v=.slice A n c:=by
 obtain ⟨A,c,e⟩:=Kd.S_slice h
 exact ⟨A,_,c,e⟩
theorem news_cells (w:World) (cs:List Value) (t:TypeId):∀ j u,cs[j]? = some u→(w.alloc (.cells cs.toArray t)).cell? ((⟨w.heap.size,0,none⟩:Addr).add j)=some u:=by
 intro j u hu
 rw [add_at,Nat.zero_add]
 refine (blk_cell (blk_new w _) j).trans ?_
 simpa using hu
theorem own_succ {W:World} {base:Nat} {e:TypeId} {size:Nat} {v:Value} {k:Nat} {xs:List Value} (h:W.ownsRow base e size v (k + 1) xs):∃ g cap,v=.slice (some ⟨g,0,none⟩) (k + 1) cap:=by
 rcases h.2 with ⟨_,h3⟩|⟨g',cap',cur,h3,_⟩
 · omega
 · exact ⟨g',cap',h3⟩
set_option maxHeartbeats 1600000 in
theorem disk_Write_ok (A0:Option Addr) (c0:Nat) (l0:List Int) (A1:Option Addr) (c1:Nat) (l1:List S45) (a:Int) (A2:Option Addr) (c2:Nat) (l2:List Int) (w:World)
 (h0:Kd.C (Kd.int .u8) w A0 l0.length l0) (hc0:l0.length ≤ c0) (h1:Kd.C k45 w A1 l1.length l1) (hc1:l1.length ≤ c1) (h2:Kd.C (Kd.int .u8) w A2 l2.length l2) (hc2:l2.length ≤ c2)
 (Hv:Hid (validB l0 l1=true)) (Hp:Hid (isPartB l0.length a l2.length=true)) (h64:l1.length ≠ 64) :
  Calls Try.prog 21 #[.agg #[.slice A0 l0.length c0,.slice A1 l1.length c1],.int .i64 a,.slice A2 l2.length c2] w fun e w'=>∃ v0 v1:Value,e=.returned (.tuple #[.agg #[v0,v1],.int .i64 0])∧Kd.R (Kd.int .u8) 5 w' w.heap.size (fun _=>True) v0 l0∧Kd.S k45 45 w' w.heap.size (fun k_=>some k_ ≠ v0.ownBlock) v1 (l1 ++ [⟨a,l2⟩])∧Below w.heap.size w w':=by
 have hu25:=Try.underlying25
 have hu22:=Try.underlying22
 have hu23:=Try.underlying23
 have hu45:=Try.underlying45
 obtain ⟨i45,hi45,hz45,hs45,hy45⟩:=info_parts info45
 have hl:=(validB_iff l0 l1).1 Hv.out
 have hp:=(isPartB_iff _ _ _).1 Hp.out
 have hl0:=hl.1
 have hl1:=hl.2.1
 have hl2:l2.length ≤ 65536:=by omega
 have e1:((l1.length:Int) == 64)=false:=by rw [beq_eq_false_iff_ne];omega
 have hl63:l1.length ≤ 63:=by omega
 have hcut:=cut3 (P:=Try.prog) 23 45 hu23 hi45 A1 l1.length c1 (l1.length:Int) (l1.length:Int) (by omega) (by omega) (by omega)
 have Hl:=Lib.hid hl
 clear h64 hl hp
 obtain ⟨inner,hin,hinl,hcell,hnone⟩:=C_inner h1
 have Hin:=Lib.hid hin
 have Hcell:=Lib.hid hcell
 have Hnone:=Lib.hid hnone
 have Hinl:=Lib.hid hinl
 clear hin hcell hnone hinl
 go_enter Try.func21,Try.ntmps21
 go_wp2_with (first|((with_reducible refine gate_dst (N:=3) rfl ?_);(refine box_event ?hg (N:=3) ?hd (cs:=#[.slice A0 l0.length c0,.slice A1 l1.length c1]) (t:=25) ?hr ?_);(case hd=>rfl);(case hg=>rfl);(case hr=>first|(go_simp;done)|(go_simp;rfl));intro g hg w1 hb1 hB1;have HB1:=Lib.hid hB1;have Hb1:=Lib.hid hb1;clear hB1 hb1 hg)|((with_reducible refine gate_dst (N:=6) rfl ?_);(refine box_event ?hg (N:=6) ?hd (cs:=#[.slice none 0 0,.slice none 0 0]) (t:=25) ?hr ?_);(case hd=>rfl);(case hg=>rfl);(case hr=>first|(go_simp;done)|(go_simp;rfl));intro g2 hg2 w2 hb2 hB2;have hq2:=(blk_cell (blk_below Hb1.out hB2) 0).trans rfl;have hq3:=(blk_cell (blk_below Hb1.out hB2) 1).trans rfl;have Hgs:Hid (w.heap.size ≤ g2):=(Lib.hid (by rw [hg2];exact HB1.out.size));have HB2:=Lib.hid (below_then HB1.out HB1.out.size hB2);have Hb2:=Lib.hid hb2;have Hb1':=Lib.hid (blk_below Hb1.out hB2);have Hne12:Hid (g ≠ g2):=(Lib.hid (by have:=blk_lt Hb1.out;omega));clear hB2 hb2 Hb1 hg2)|(go_at_call 43;refine (disk_isValid_calls A0 c0 l0 A1 c1 l1 w2 (Kd.C_below h0 HB2.out) hc0 (Kd.C_below h1 HB2.out) hc1).mono ?_;rintro e w3 ⟨rfl,hb3⟩;rw [Hv.out];have hq6:=(blk_cell (blk_below Hb1'.out hb3) 0).trans rfl;have hq7:=(blk_cell (blk_below Hb1'.out hb3) 1).trans rfl;have HB3:=Lib.hid (below_then HB2.out HB2.out.size hb3);have Hb3:=Lib.hid (blk_below Hb1'.out hb3);have Hbr:=Lib.hid (blk_below Hb2.out hb3);clear hb3 Hb1' Hb2 hq2 hq3)|(go_at_call 44;refine (disk_isPart.calls _ _ l0 _ _ l1 a l2.length _ _ (Kd.C_below h0 HB3.out) hc0 (Kd.C_below h1 HB3.out) hc1 (isPart_f l0 l1 a l2.length (by unfold maxLen;omega))).mono ?_;rintro e w4 ⟨rfl,hb4⟩;rw [Hp.out];clear hq6 hq7;have hq6:=(blk_cell (blk_below Hb3.out hb4) 0).trans rfl;have hq7:=(blk_cell (blk_below Hb3.out hb4) 1).trans rfl;have HB4:=Lib.hid (below_then HB3.out HB3.out.size hb4);have Hbr4:=Lib.hid (blk_below Hbr.out hb4);have Hb4:=Lib.hid (blk_below Hb3.out hb4);clear hb4 Hbr Hb3)|(go_at_call 45;refine (clone_calls A0 c0 l0 w4 (Kd.C_below h0 HB4.out) hc0 (by omega)).mono ?_;rintro e w5 ⟨v5,rfl,hr5,hb5⟩;obtain ⟨A5,cap5,rfl⟩:=Kd.R_slice hr5;clear hq6 hq7;have Hbr5:=Lib.hid (blk_below Hbr4.out hb5);have Hb5:=Lib.hid (blk_below Hb4.out hb5);have HB5:=Lib.hid (below_then HB4.out HB4.out.size hb5);have HR5:=Lib.hid (Kd.R_lower hr5 HB4.out.size);clear hb5 Hbr4 Hb4 hr5)|((with_reducible refine gate_dst (N:=8) rfl ?_);(refine box_event ?hg (N:=8) ?hd (cs:=#[.slice none 0 0,.slice none 0 0]) (t:=25) ?hr ?_);(case hd=>rfl);(case hg=>rfl);(case hr=>first|(go_simp;done)|(go_simp;rfl));intro g8 hg8 w6 hb6 hB6;have hf0:=blk_frozen hb6 0;have hf1:=blk_frozen hb6 1;have hf2:=(blk_cell hb6 0).trans rfl;have hf3:=(blk_cell hb6 1).trans rfl;have Hg8:Hid (w.heap.size ≤ g8):=(Lib.hid (by rw [hg8];exact HB5.out.size));have Hne8:Hid (g ≠ g8):=(Lib.hid (by have:=blk_lt Hb5.out;omega));have Hne28:Hid (g2 ≠ g8):=(Lib.hid (by have:=blk_lt Hbr5.out;omega));have Hb6:=Lib.hid hb6;have Hb61:=Lib.hid (blk_below Hb5.out hB6);have Hb62:=Lib.hid (blk_below Hbr5.out hB6);have HB6:=Lib.hid (below_then HB5.out HB5.out.size hB6);have HR6:=Lib.hid (Kd.R_below HR5.out hB6);clear hb6 hB6 hg8 Hb5 Hbr5)|((with_reducible refine gate_store (t:=25) (p:=8) rfl ?_);refine store_event (w1:=(w6.setCell ⟨g8,0,none⟩ (.slice A5 l0.length cap5)).setCell ⟨g8,1,none⟩ (.slice none 0 0)) rfl (v:=.tmp 31) rfl rfl ?hrun ?_;(case hrun=>first|(go_simp;done)|(go_simp;rfl));intro w7 hw7;have Hb7:Hid (w7.heap[g8]? = some (.cells #[.slice A5 l0.length cap5,.slice none 0 0] 25 (0,0))):=(Lib.hid (by rw [hw7];exact two_cells Hb6.out _ _));have Hb71:Hid (w7.heap[g]? = some (.cells #[.slice A0 l0.length c0,.slice A1 l1.length c1] 25 (0,0))):=(Lib.hid (by rw [hw7];exact blk_far (blk_far Hb61.out Hne8.out _) Hne8.out _));have Hb72:Hid (w7.heap[g2]? = some (.cells #[.slice none 0 0,.slice none 0 0] 25 (0,0))):=(Lib.hid (by rw [hw7];exact blk_far (blk_far Hb62.out Hne28.out _) Hne28.out _));have HB7:Hid (Below w.heap.size w w7):=(Lib.hid (by rw [hw7];exact (HB6.out.setCell (p:=⟨g8,0,none⟩) Hg8.out _).setCell (p:=⟨g8,1,none⟩) Hg8.out _));have HR7:Hid (Kd.R (Kd.int .u8) 5 w7 w.heap.size (fun _=>True) (.slice A5 l0.length cap5) l0):=(Lib.hid (by rw [hw7];exact Kd.R_set (Kd.R_set HR6.out Hb6.out (by decide) 0 _) (blk_put Hb6.out 0 _ rfl) (by decide) 1 _));have hq6:=(blk_cell Hb71.out 0).trans rfl;have hq7:=(blk_cell Hb71.out 1).trans rfl;clear hw7 hf0 hf1 hf2 hf3 Hb6 Hb61 Hb62 HR6)|((with_reducible refine gate_dst (N:=45) rfl ?_);refine wpList_append_grows (P:=Try.prog) _ rfl (.tmp 40) (.tmp 44) 23 rfl 45 i45 _ 2 32 hu23 hi45 hz45 hs45 hy45 rfl (by decide) A1 l1.length l1.length inner rfl ?hnn Hinl.out ?hcc ⟨w7.heap.size,0,none⟩ 1 1 [.int .i64 a,.slice A2 l2.length c2] rfl rfl ?hnw ?h1c (by omega) (by unfold maxLen;omega) (by omega) ?_;(case hnn=>intro h;have:=Hnone.out h;subst this;exact ⟨rfl,rfl⟩);(case hcc=>intro b hb j u hu;exact (pw_cell_below (below_alloc HB7.out _) (Hcell.out b hb j u hu)));(case hnw=>exact news_cells w7 [.int .i64 a,.slice A2 l2.length c2] 45);(case h1c=>simp [Value.oneCell']);intro v8 w8 hown8 hg8w;obtain ⟨g9,cap9,rfl⟩:=own_succ hown8;have Hown8:=Lib.hid (own_weaken hown8 (Nat.zero_le _));have Hb8:=Lib.hid (blk_grown (blk_alloc Hb7.out _) hg8w (by simp));have Hb82:=Lib.hid (blk_grown (blk_alloc Hb72.out _) hg8w (by simp));have HB8:=Lib.hid (pw_below_grown (below_alloc HB7.out _) none (below_size (below_alloc HB7.out _)) hg8w (by intro k hk;cases hk));have HR8:=Lib.hid (Kd.R_grown (Kd.R_alloc HR7.out _) hg8w (by intro k hk;simp));clear hown8 hg8w hq6 hq7) )
 obtain ⟨L,hL⟩:∃ L,L=l1 ++ [(⟨a,l2⟩:S45)]:=⟨_,rfl⟩
 have hLl:L.length=l1.length + 1:=by rw [hL];simp
 have hReps:Reps (k45.K w) 2 L (inner ++ [.int .i64 a,.slice A2 l2.length c2]):=by
  rw [hL]
  exact Reps.snoc Hin.out (k45_mk w ⟨a,l2⟩ hc2 h2) rfl
 rw [← hLl] at Hown8 ⊢
 have HReps:=Lib.hid hReps
 have HL:=Lib.hid hL
 clear hReps hL hcut
 have hL64:L.length ≤ 64:=by omega
 have hLx:∀ x ∈ L,x.f1.length ≤ 65536:=by
  intro x hx
  rw [HL.out] at hx
  rcases List.mem_append.1 hx with h|h
  · have:=Hl.out.2.2 x h
    omega
  · rw [List.mem_singleton.1 h]
    exact hl2
 have HLx:=Lib.hid hLx
 clear hLx
 obtain ⟨V5,hV5⟩:∃ V5:Value,V5=.slice A5 l0.length cap5:=⟨_,rfl⟩
 have HV5:=Lib.hid hV5
 rw [← hV5] at HR8 Hb8
 have hVblk:∀ k,V5.ownBlock=some k→k < w8.heap.size:=Kd.R_lt HR8.out
 have HVblk:=Lib.hid hVblk
 clear hV5 hVblk
 have hg9:g9 < w8.heap.size∧g9 ≠ g8:=by
  obtain ⟨cells,hc⟩:=own_typed Hown8.out g9 (by simp [Value.ownBlock])
  exact ⟨blk_lt hc,blk_ne hc Hb8.out (by decide)⟩
 have Hg9:=Lib.hid hg9
 clear hg9
 go_loopg [47] L.length (fun k v47 wr=>∃ (i:Nat) (u:Value),i ≤ L.length∧k=L.length - i∧v47=.int .i64 i∧Hid (Kd.S k45 45 wr w8.heap.size (fun k_=>some k_ ≠ V5.ownBlock) u (L.take i))∧Hid (Kd.R (Kd.int .u8) 5 wr w.heap.size (fun _=>True) V5 l0)
  ∧ Hid (wr.heap[g8]? = some (.cells #[V5,u] 25 (0,0)))∧Hid (wr.heap[g2]? = some (.cells #[.slice none 0 0,.slice none 0 0] 25 (0,0)))∧Hid (wr.ownsRow 0 45 2 (.slice (some ⟨g9,0,none⟩) L.length cap9) L.length (inner ++ [.int .i64 a,.slice A2 l2.length c2]))∧Hid (Below w.heap.size w wr)∧w8.heap.size ≤ wr.heap.size)
 case atStart=>exact ⟨0,.slice none 0 0,by omega,by omega,rfl,Lib.hid (Kd.S_nil _ _ _ _ _),HR8,Hb8,Hb82,Hown8,HB8,Nat.le_refl _⟩
 case round =>
  obtain ⟨i,u,hi,rfl,rfl,HS,HRr,Hb8r,Hb2r,Hownr,HBr,hszr⟩:=hrel
  by_cases hlt:i < L.length
  · obtain ⟨A3,c3,q0,q1,q2,q3⟩:=at45 Hownr.out HReps.out i hlt
    obtain ⟨xi,hxi⟩:∃ xi,xi=L[i]:=⟨_,rfl⟩
    have hxm:xi ∈ L:=by rw [hxi];exact List.getElem_mem _
    have hxv:=HLx.out xi hxm
    rw [← hxi] at q0 q1 q2 q3
    have Hxi:=Lib.hid hxi
    clear hxi hxm
    obtain ⟨f0,f1⟩:=xi
    dsimp only at q0 q1 q2 q3 hxv
    go_wp2_with (fail)
    obtain ⟨wb,hwb⟩:∃ wb,wb=wr.alloc (.cells #[.int .i64 f0,.slice A3 f1.length c3] 45):=⟨_,rfl⟩
    rw [← hwb]
    have hbb:Below wr.heap.size wr wb:=by rw [hwb];exact below_alloc (Below.refl _ _) _
    obtain ⟨b10,hb10⟩:∃ b10,b10=wr.heap.size:=⟨_,rfl⟩
    have hblk:wb.heap[b10]? = some (.cells #[.int .i64 f0,.slice A3 f1.length c3] 45 (0,0)):=by rw [hwb,hb10];exact blk_new _ _
    have hszb:w8.heap.size ≤ wb.heap.size:=Nat.le_trans hszr hbb.size
    have hb10s:w8.heap.size ≤ b10:=by rw [hb10];exact hszr
    rw [← hb10]
    have Sb:=Lib.hid (Kd.S_below HS.out hbb)
    have Rb:=Lib.hid (Kd.R_below HRr.out hbb)
    have B8b:=Lib.hid (blk_below Hb8r.out hbb)
    have B2b:=Lib.hid (blk_below Hb2r.out hbb)
    have Ownb:=Lib.hid (pw_own_below Hownr.out hbb)
    have HBb:=Lib.hid (below_then HBr.out HBr.out.size hbb)
    have Hblk:=Lib.hid hblk
    have k1:wb.cell? ⟨g8,1,none⟩=some u:=(blk_cell B8b.out 1).trans rfl
    have k2:wb.cell? ⟨b10,0,none⟩=some (.int .i64 f0):=(blk_cell Hblk.out 0).trans rfl
    have k3:wb.cell? ⟨b10,1,none⟩=some (.slice A3 f1.length c3):=(blk_cell Hblk.out 1).trans rfl
    have hne8:g8 ≠ b10:=by rw [hb10];exact Nat.ne_of_lt (blk_lt Hb8r.out)
    have Hne8b:=Lib.hid hne8
    have hgl:i < 64:=by omega
    have hg8l:g8 < w8.heap.size:=blk_lt Hb8.out
    have Hg8l:=Lib.hid hg8l
    have Hsb:=Lib.hid hszb
    clear hwb hbb hblk hb10 hszb q0 q1 hne8 HS HRr Hb8r Hb2r Hownr HBr hszr hg8l
    refine start_ (n:=12) (S:=fun w'=>w'.cell? ⟨g8,1,none⟩=some u∧w'.cell? ⟨b10,0,none⟩=some (.int .i64 f0)∧w'.cell? ⟨b10,1,none⟩=some (.slice A3 f1.length c3)) (ds:=[9,11]) #[false,false,false,false,false,false,false,false,false,false,false,false] (by kernel_rfl) rfl rfl ⟨k1,k2,k3⟩ ?_
    intro hHeld
    refine pure_ (i:=0) (N:=some 51) (v:=?_) (a':=?_) #[true,false,false,false,false,false,false,false,false,false,false,false] rfl rfl (by kernel_rfl) (fun _ _ _ h=>h) (Or.inl ⟨by rfl,?_⟩) ?_ ?_
    rotate_left
    · intro w'
      go_simp
      try (with_reducible rfl)
    rotate_left
    · simp only [Act.put,List.setIfInBounds_toArray,List.set_cons_zero,List.set_cons_succ]
      rfl
    refine pure_ (i:=2) (N:=some 53) (v:=?_) (a':=?_) #[true,false,true,false,false,false,false,false,false,false,false,false] rfl rfl (by kernel_rfl) (fun _ _ _ h=>h) (Or.inl ⟨by rfl,?_⟩) ?_ ?_
    rotate_left
    · intro w'
      go_simp
      try (with_reducible rfl)
    rotate_left
    · simp only [Act.put,List.setIfInBounds_toArray,List.set_cons_zero,List.set_cons_succ]
      rfl
    refine pure_ (i:=4) (N:=some 55) (v:=?_) (a':=?_) #[true,false,true,false,true,false,false,false,false,false,false,false] rfl rfl (by kernel_rfl) (fun _ _ _ h=>h) (Or.inl ⟨by rfl,?_⟩) ?_ ?_
    rotate_left
    · intro w'
      go_simp
      try (with_reducible rfl)
    rotate_left
    · simp only [Act.put,List.setIfInBounds_toArray,List.set_cons_zero,List.set_cons_succ]
      rfl
    refine take_ (i:=1) (N:=some 52) (v:=?_) (a':=?_) #[true,true,true,false,true,false,false,false,false,false,false,false] rfl rfl (by kernel_rfl) (fun _ _ _ h=>h) (Or.inl ⟨by rfl,?_⟩) hHeld ?_ ?_
    rotate_left
    · rintro w' ⟨s0,s1,s2⟩
      go_simp
      with_reducible rfl
    rotate_left
    · simp only [Act.put,List.setIfInBounds_toArray,List.set_cons_zero,List.set_cons_succ]
      rfl
    refine take_ (i:=3) (N:=some 54) (v:=?_) (a':=?_) #[true,true,true,true,true,false,false,false,false,false,false,false] rfl rfl (by kernel_rfl) (fun _ _ _ h=>h) (Or.inl ⟨by rfl,?_⟩) hHeld ?_ ?_
    rotate_left
    · rintro w' ⟨s0,s1,s2⟩
      go_simp
      with_reducible rfl
    rotate_left
    · simp only [Act.put,List.setIfInBounds_toArray,List.set_cons_zero,List.set_cons_succ]
      rfl
    refine take_ (i:=5) (N:=some 56) (v:=?_) (a':=?_) #[true,true,true,true,true,true,false,false,false,false,false,false] rfl rfl (by kernel_rfl) (fun _ _ _ h=>h) (Or.inl ⟨by rfl,?_⟩) hHeld ?_ ?_
    rotate_left
    · rintro w' ⟨s0,s1,s2⟩
      go_simp
      with_reducible rfl
    rotate_left
    · simp only [Act.put,List.setIfInBounds_toArray,List.set_cons_zero,List.set_cons_succ]
      rfl
    refine one_ (i:=6) (N:=some 57) #[true,true,true,true,true,true,true,false,false,false,false,false] rfl rfl (by kernel_rfl) (by decide) (fun K hK => ?_)
    refine goes_ Try.func45 (by kernel_rfl) rfl #[.slice A3 f1.length c3] (by rfl) rfl rfl (by (try simp only [List.map_toArray,List.map_cons,List.map_nil]);first|done|rfl) ?_
    refine (clone_calls A3 c3 f1 _ (Kd.C_drew (Kd.C_below q3 HBb.out)) q2 (by omega)).mono ?_
    rintro e w10 ⟨v10,rfl,hr10,hbx⟩
    obtain ⟨A10,cap10,rfl⟩:=Kd.R_slice hr10
    have hbw:Below wb.heap.size wb w10:=below_then (below_drew (Below.refl _ _)) (Nat.le_refl _) hbx
    have k4:=pw_cell_below hbw k1
    have k5:=pw_cell_below hbw k2
    have k6:=pw_cell_below hbw k3
    have S10:=Lib.hid (Kd.S_mono (Kd.S_below (Kd.S_bound Sb.out) hbw) (ok':=fun k=>(some k ≠ V5.ownBlock)∧¬ (wb.heap.size ≤ k)) (fun k hk=>⟨hk.1,Nat.not_le_of_lt hk.2.2.1⟩))
    have Slt:=Lib.hid (Kd.S_lt Sb.out)
    have R10:=Lib.hid (Kd.R_below Rb.out hbw)
    have B810:=Lib.hid (blk_below B8b.out hbw)
    have B210:=Lib.hid (blk_below B2b.out hbw)
    have Own10:=Lib.hid (pw_own_below Ownb.out hbw)
    have HB10:=Lib.hid (below_then HBb.out HBb.out.size hbw)
    have Hv10:=Lib.hid (Kd.R_lower (Kd.R_mono (Kd.R_bound hr10) (ok':=fun k=>wb.heap.size ≤ k) (fun k hk=>hk.2.1)) Hsb.out)
    have Hsz10:=Lib.hid (Nat.le_trans Hsb.out hbw.size)
    have Hszb10:=Lib.hid hbw.size
    clear hr10 hbx hbw
    refine ⟨_,rfl,?_⟩
    refine hK.out _ _ ⟨k4,k5,k6⟩ (fun hHeld => ?_)
    clear hK K
    refine norm_ (a':=?_) ?_ ?_
    rotate_left
    · show Act.put _ (some 57) _=_
      simp only [Act.put,List.setIfInBounds_toArray,List.set_cons_zero,List.set_cons_succ]
      rfl
    refine pure_ (i:=7) (N:=some 58) (v:=?_) (a':=?_) #[true,true,true,true,true,true,true,true,false,false,false,false] rfl rfl (by kernel_rfl) (fun _ _ _ h=>h) (Or.inl ⟨by rfl,?_⟩) ?_ ?_
    rotate_left
    · intro w'
      go_simp
      try (with_reducible rfl)
    rotate_left
    · simp only [Act.put,List.setIfInBounds_toArray,List.set_cons_zero,List.set_cons_succ]
      rfl
    refine one_ (i:=8) (N:=some 59) #[true,true,true,true,true,true,true,true,true,false,false,false] rfl rfl (by kernel_rfl) (by decide) (fun K hK => ?_)
    refine value_ (w1:=?_) (v:=?_) (by rfl) rfl ?_ ?_
    rotate_left 2
    · go_simp
      constructor
      · rfl
      · rfl
    refine hK.out _ _ ⟨pw_cell_below (below_alloc (Below.refl _ _) _) k4,pw_cell_below (below_alloc (Below.refl _ _) _) k5,pw_cell_below (below_alloc (Below.refl _ _) _) k6⟩ (fun hHeld => ?_)
    clear hK K
    refine norm_ (a':=?_) ?_ ?_
    rotate_left
    · show Act.put _ (some 59) _=_
      simp only [Act.put,List.setIfInBounds_toArray,List.set_cons_zero,List.set_cons_succ]
      rfl
    refine last_ (i:=9) (N:=some 60) #[true,true,true,true,true,true,true,true,true,true,false,false] rfl rfl (by kernel_rfl) (by decide) (fun K hK => ?_)
    refine Kd.S_append_step k45 (w0:=w10) (W:=w10) w8.heap.size (by rfl) (.tmp 52) (.tmp 59) 23 45 (.agg #[.int .i64 0,.slice none 0 0]) 32 (by rfl) hu23 info45 rfl (by decide) (by decide) u (L.take i) ⟨f0,f1⟩ [.int .i64 f0,.slice A10 f1.length cap10] (fun k_=>some k_ ≠ V5.ownBlock) (fun k_=>wb.heap.size ≤ k_) (by rfl) (by rfl) (k45_mkM w10 _ _ ⟨f0,f1⟩ Hv10.out) ?hok ?hfr S10.out (Below.refl _ _) Hsz10.out ?hlen ?_
    case hok=>exact fun k hk=>⟨fun he=>by have:=HVblk.out k he.symm;have:=Hsb.out;omega,fun he=>by have:=Slt.out k he.symm;omega⟩
    case hfr=>exact fun k hk he=>by have:=HVblk.out k he.symm;have:=Hsz10.out;omega
    case hlen=>simp;omega
    intro u1 w11 hs11 hb11 hg11 hat11
    obtain ⟨A11,n11,cap11,rfl⟩:=S_any hs11
    have Hna:=Lib.hid (Kd.S_ne S10.out B810.out (by decide))
    have B811:=Lib.hid (blk_grown B810.out hg11 Hna.out)
    have B211:=Lib.hid (blk_grown B210.out hg11 (Kd.S_ne S10.out B210.out (by decide)))
    have hz0:=(blk_cell B811.out 0).trans rfl
    have hz1:=(blk_cell B811.out 1).trans rfl
    have hf1:=blk_frozen B811.out 1
    have S11:=Lib.hid hs11
    have R11:=Lib.hid (Kd.R_grown (Kd.R_tight rfl R10.out) hg11 (fun k hk he=>by have:=(Kd.S_R S10.out).1 k he.symm;exact this.1 hk))
    have Own11:=Lib.hid (own_move Own10.out (fun k hk=>hg11.block k (by have:=Hg9.out.1;have:=Hsz10.out;simp [Value.ownBlock] at hk;omega) (fun he=>by have:=Kd.S_base S10.out k he.symm;have:=Hg9.out.1;simp [Value.ownBlock] at hk;omega)))
    have HB11:=Lib.hid (pw_below_grown HB10.out _ HB10.out.size hg11 (fun k hk=>by have:=Kd.S_base S10.out k hk;have:=HB8.out.size;omega))
    have Hsz11:=Lib.hid (Nat.le_trans Hsz10.out hg11.size)
    clear hs11 hb11 hg11 hat11
    refine hK.out _ _ ?_
    clear hK K
    refine norm_ (a':=?_) ?_ ?_
    rotate_left
    · show Act.put _ (some 60) _=_
      simp only [Act.put,List.setIfInBounds_toArray,List.set_cons_zero,List.set_cons_succ]
      rfl
    refine pure_ (i:=10) (N:=some 61) (v:=?_) (a':=?_) #[true,true,true,true,true,true,true,true,true,true,true,false] rfl rfl (by kernel_rfl) (fun _ _ _ h=>h) (Or.inl ⟨by rfl,?_⟩) ?_ ?_
    rotate_left
    · intro w'
      go_simp
      try (with_reducible rfl)
    rotate_left
    · simp only [Act.put,List.setIfInBounds_toArray,List.set_cons_zero,List.set_cons_succ]
      rfl
    refine last_ (i:=11) (N:=none) #[true,true,true,true,true,true,true,true,true,true,true,true] rfl rfl (by kernel_rfl) (by decide) (fun K hK => ?_)
    refine skip_ (w1:=?_) (by rfl) rfl ?_ ?_
    rotate_left
    · go_simp
      rfl
    refine hK.out _ _ ?_
    clear hK K
    refine done_ (by kernel_rfl) ?_
    clear k1 k2 k3 k4 k5 k6 hz0 hz1 hf1
    go_wp2
    go_roundg (L.length - (i + 1))
    case measure=>omega
    case rel =>
     have ht:L.take (i + 1)=L.take i ++ [(⟨f0,f1⟩:S45)]:=by rw [List.take_succ_eq_append_getElem hlt,← Hxi.out]
     refine ⟨i + 1,.slice A11 n11 cap11,by omega,rfl,by go_num,Lib.hid ?_,Lib.hid ?_,Lib.hid ?_,Lib.hid ?_,Lib.hid ?_,Lib.hid ?_,?_⟩
     · rw [ht];exact Kd.S_set S11.out B811.out (by decide) 1 _
     · exact Kd.R_mono (Kd.R_set R11.out B811.out (by decide) 1 _) (fun _ _=>trivial)
     · exact blk_put B811.out 1 _ rfl
     · exact blk_far B211.out Hne28.out _
     · exact own_move Own11.out (fun k hk=>Below.heap_setCell _ _ _ k (by have:=Hg9.out.2;simp [Value.ownBlock] at hk;show k ≠ g8;omega))
     · exact HB11.out.setCell (p:=⟨g8,1,none⟩) Hg8.out _
     · exact Nat.le_trans Hsz11.out (by simp)
  · obtain rfl:i=L.length:=by omega
    obtain ⟨A12,n12,cap12,rfl⟩:=S_any HS.out
    have eV:=HV5.out
    subst eV
    have j1:=(blk_cell Hb8r.out 0).trans rfl
    have j2:=(blk_cell Hb8r.out 1).trans rfl
    have j3:=(blk_cell Hb2r.out 0).trans rfl
    have j4:=(blk_cell Hb2r.out 1).trans rfl
    have j5:=blk_frozen Hb2r.out 0
    have j6:=blk_frozen Hb2r.out 1
    go_wp2
    obtain ⟨w9,hw9⟩:∃ w9,w9=((wr.setCell ⟨g2,0,none⟩ (.slice A5 l0.length cap5)).setCell ⟨g2,1,none⟩ (.slice A12 n12 cap12)):=⟨_,rfl⟩
    rw [← hw9]
    have hr2:=two_cells Hb2r.out (.slice A5 l0.length cap5) (.slice A12 n12 cap12)
    rw [← hw9] at hr2
    have m1:w9.cell? ⟨g2,0,none⟩=some (.slice A5 l0.length cap5):=(blk_cell hr2 0).trans rfl
    have m2:w9.cell? ⟨g2,1,none⟩=some (.slice A12 n12 cap12):=(blk_cell hr2 1).trans rfl
    refine bodyPost_ret (v:=.tuple #[.agg #[.slice A5 l0.length cap5,.slice A12 n12 cap12],.int .i64 0]) (by simp [results,Try.results21,go_sem,m1,m2]) rfl ⟨_,_,rfl,?_,?_,?_⟩
    · rw [hw9]
      exact Kd.R_set (Kd.R_set HRr.out Hb2r.out (by decide) 0 _) (blk_put Hb2r.out 0 _ rfl) (by decide) 1 _
    · have hS:=HS.out
      rw [List.take_length,HL.out] at hS
      rw [hw9]
      exact Kd.S_set (Kd.S_set (Kd.S_lower hS HB8.out.size) Hb2r.out (by decide) 0 _) (blk_put Hb2r.out 0 _ rfl) (by decide) 1 _
    · rw [hw9]
      exact (HBr.out.setCell (p:=⟨g2,0,none⟩) Hgs.out _).setCell (p:=⟨g2,1,none⟩) Hgs.out _
end Go.Proofs.Ytfpdmlhknddffaa.Dk
end
section
namespace Go.Proofs.Ytfpdmlhknddffaa.Dk
open Go.RowKit Go.Proofs.YtfpdmlhknddffaaW.PrintWords Go.Proofs.YtfpdmlhknddffaaW.PrintLast Go.Proofs.YtfpdmlhknddffaaW.PrintMore
set_option linter.unusedVariables false
set_option linter.unusedSimpArgs false
def disk_Write.f (l0_0:List Int) (l0_1:List (S45)) (a1:Int) (l2:List Int):Option (List Int × (List (S45)) × Int):=some (writeF l0_0 l0_1 a1 l2)
theorem disk_Write.calls (A0_0:Option Addr) (c0_0:Nat) (l0_0:List Int) (A0_1:Option Addr) (c0_1:Nat) (l0_1:List (S45)) (a1:Int) (A2:Option Addr) (c2:Nat) (l2:List Int) (r1:List Int) (r2:List (S45)) (r3:Int) (w:World) (hr0_0:Kd.C (Kd.int .u8) w A0_0 l0_0.length l0_0) (hc0_0:l0_0.length ≤ c0_0) (hr0_1:Kd.C k45 w A0_1 l0_1.length l0_1) (hc0_1:l0_1.length ≤ c0_1) (hr2:Kd.C (Kd.int .u8) w A2 l2.length l2) (hc2:l2.length ≤ c2) (h:disk_Write.f l0_0 l0_1 a1 l2=some (r1,r2,r3)) :
 Calls Try.prog 21 #[.agg #[.slice A0_0 l0_0.length c0_0,.slice A0_1 l0_1.length c0_1],.int .i64 a1,.slice A2 l2.length c2] w fun e w'=>∃ v0_ v1_:Value,e=.returned (.tuple #[.agg #[v0_,v1_],.int .i64 r3])∧Kd.R (Kd.int .u8) 5 w' w.heap.size (fun _=>True) v0_ r1∧Kd.S k45 45 w' w.heap.size (fun k_=>some k_ ≠ (v0_:Value).ownBlock) v1_ r2∧Below w.heap.size w w':=by
 unfold disk_Write.f writeF at h
 cases hv:validB l0_0 l0_1
 · rw [hv] at h
   injection h with h
   obtain ⟨rfl,rfl,rfl⟩:=h
   refine (disk_Write_e1 _ _ l0_0 _ _ l0_1 a1 _ _ l2 w hr0_0 hc0_0 hr0_1 hc0_1 hr2 hc2 (Lib.hid hv)).mono ?_
   rintro e w' ⟨rfl,hb⟩
   exact ⟨_,_,rfl,Kd.R_nil _ _ _ _ _,Kd.S_nil _ _ _ _ _,hb⟩
 · cases hp:isPartB l0_0.length a1 l2.length
   · rw [hv,hp] at h
     injection h with h
     obtain ⟨rfl,rfl,rfl⟩:=h
     refine (disk_Write_e2 _ _ l0_0 _ _ l0_1 a1 _ _ l2 w hr0_0 hc0_0 hr0_1 hc0_1 hr2 hc2 (Lib.hid hv) (Lib.hid hp)).mono ?_
     rintro e w' ⟨rfl,hb⟩
     exact ⟨_,_,rfl,Kd.R_nil _ _ _ _ _,Kd.S_nil _ _ _ _ _,hb⟩
   · by_cases h64:l0_1.length=64
     · rw [hv,hp,Bool.and_self,if_pos rfl,if_pos h64] at h
       injection h with h
       obtain ⟨rfl,rfl,rfl⟩:=h
       refine (disk_Write_e64 _ _ l0_0 _ _ l0_1 a1 _ _ l2 w hr0_0 hc0_0 hr0_1 hc0_1 hr2 hc2 (Lib.hid hv) (Lib.hid hp) h64).mono ?_
       rintro e w' ⟨rfl,hb⟩
       exact ⟨_,_,rfl,Kd.R_nil _ _ _ _ _,Kd.S_nil _ _ _ _ _,hb⟩
     · rw [hv,hp,Bool.and_self,if_pos rfl,if_neg h64] at h
       injection h with h
       obtain ⟨rfl,rfl,rfl⟩:=h
       exact disk_Write_ok _ _ l0_0 _ _ l0_1 a1 _ _ l2 w hr0_0 hc0_0 hr0_1 hc0_1 hr2 hc2 (Lib.hid hv) (Lib.hid hp) h64
def disk_Sync.f (l0_0:List Int) (l0_1:List (S45)):Option (List Int × (List (S45))):=some (syncL l0_0 l0_1,[])
theorem disk_Sync.calls (A0_0:Option Addr) (c0_0:Nat) (l0_0:List Int) (A0_1:Option Addr) (c0_1:Nat) (l0_1:List (S45)) (r1:List Int) (r2:List (S45)) (w:World) (hr0_0:Kd.C (Kd.int .u8) w A0_0 l0_0.length l0_0) (hc0_0:l0_0.length ≤ c0_0) (hr0_1:Kd.C k45 w A0_1 l0_1.length l0_1) (hc0_1:l0_1.length ≤ c0_1) (h:disk_Sync.f l0_0 l0_1=some (r1,r2)) :
 Calls Try.prog 26 #[.agg #[.slice A0_0 l0_0.length c0_0,.slice A0_1 l0_1.length c0_1]] w fun e w'=>∃ v0_ v1_:Value,e=.returned (.agg #[v0_,v1_])∧Kd.R (Kd.int .u8) 5 w' w.heap.size (fun _=>True) v0_ r1∧Kd.S k45 45 w' w.heap.size (fun k_=>some k_ ≠ (v0_:Value).ownBlock) v1_ r2∧Below w.heap.size w w':=by
 unfold disk_Sync.f at h
 injection h with h
 obtain ⟨rfl,rfl⟩:=h
 refine (disk_Sync_calls _ _ l0_0 _ _ l0_1 w hr0_0 hc0_0 hr0_1 hc0_1).mono ?_
 rintro e w' ⟨v0,rfl,hr,hb⟩
 exact ⟨_,_,rfl,hr,Kd.S_nil _ _ _ _ _,hb⟩
def disk_Read.f (l0_0:List Int) (l0_1:List (S45)) (a1 a2:Int):Option (List Int × Int):=some (readL l0_0 l0_1 a1 a2,if readOk l0_0 l0_1 a1 a2=true then 0 else 1)
theorem disk_Read.calls (A0_0:Option Addr) (c0_0:Nat) (l0_0:List Int) (A0_1:Option Addr) (c0_1:Nat) (l0_1:List (S45)) (a1:Int) (a2:Int) (r1:List Int) (r2:Int) (w:World) (hr0_0:Kd.C (Kd.int .u8) w A0_0 l0_0.length l0_0) (hc0_0:l0_0.length ≤ c0_0) (hr0_1:Kd.C k45 w A0_1 l0_1.length l0_1) (hc0_1:l0_1.length ≤ c0_1) (h:disk_Read.f l0_0 l0_1 a1 a2=some (r1,r2)) :
 Calls Try.prog 23 #[.agg #[.slice A0_0 l0_0.length c0_0,.slice A0_1 l0_1.length c0_1],.int .i64 a1,.int .i64 a2] w fun e w'=>∃ v0_:Value,e=.returned (.tuple #[v0_,.int .i64 r2])∧Kd.R (Kd.int .u8) 5 w' w.heap.size (fun _=>True) v0_ r1∧Below w.heap.size w w':=by
 unfold disk_Read.f at h
 injection h with h
 obtain ⟨rfl,rfl⟩:=h
 exact disk_Read_calls _ _ l0_0 _ _ l0_1 a1 a2 w hr0_0 hc0_0 hr0_1 hc0_1
end Go.Proofs.Ytfpdmlhknddffaa.Dk
end
section
namespace Go.Proofs.Ytfpdmlhknddffaa.Dk
open Go.RowKit Go.Proofs.YtfpdmlhknddffaaW.PrintWords Go.Proofs.YtfpdmlhknddffaaW.PrintLast Go.Proofs.YtfpdmlhknddffaaW.PrintMore
attribute [local go_sem] max2_int min2_int max_two min_two max_three min_three max_four min_four
set_option linter.unusedVariables false
set_option linter.unusedSimpArgs false
mutual
def wageofficeref42_Valid.j0:Nat→Bool→List Int→List (S45)→Option (Bool)
 | 0,_,_,_=>none
 | k + 1,x13,x141000,x141001=>if x13=true then (some false) else (wageofficeref42_Valid.l0 k 0 x141000 x141001)
def wageofficeref42_Valid.l0:Nat→Int→List Int→List (S45)→Option (Bool)
 | 0,_,_,_=>none
 | k + 1,x3,x141000,x141001=>if x3 < (x141001.length:Int) then (if 0 ≤ x3 then (if ((rd_T45 x141001 x3).f0) < 0 then (some false) else (if ((rd_T45 x141001 x3).f0) > (wrap64 ((x141000.length:Int) - (((rd_T45 x141001 x3).f1).length:Int))) then (some false) else (wageofficeref42_Valid.l0 k (wrap64 (x3 + 1)) x141000 x141001))) else (none)) else (some true)
end
def wageofficeref42_Valid.f (k:Nat) (l0_0:List Int) (l0_1:List (S45)):Option (Bool):=if (l0_0.length:Int) > 65536 then (wageofficeref42_Valid.j0 k true l0_0 l0_1) else (wageofficeref42_Valid.j0 k (decide ((l0_1.length:Int) > 64)) l0_0 l0_1)
set_option maxHeartbeats 8000000 in
set_option maxRecDepth 100000 in
theorem wageofficeref42_Valid.calls (k:Nat) (A0_0:Option Addr) (c0_0:Nat) (l0_0:List Int) (A0_1:Option Addr) (c0_1:Nat) (l0_1:List (S45)) (r:Bool) (w:World) (hr0_0:Kd.C (Kd.int .u8) w A0_0 l0_0.length l0_0) (hc0_0:l0_0.length ≤ c0_0) (hr0_1:Kd.C k45 w A0_1 l0_1.length l0_1) (hc0_1:l0_1.length ≤ c0_1) (h:wageofficeref42_Valid.f k l0_0 l0_1=some r) :
 Calls Try.prog 31 #[.agg #[.slice A0_0 l0_0.length c0_0,.slice A0_1 l0_1.length c0_1]] w fun e w'=>e=.returned (.bool r)∧Below w.heap.size w w':=by
 have hu25:=Try.underlying25
 have HR0_0:=Aside0.mk hr0_0
 have HC0_0:=Aside0.mk hc0_0
 clear hr0_0 hc0_0
 have HR0_1:=Aside0.mk hr0_1
 have HC0_1:=Aside0.mk hc0_1
 clear hr0_1 hc0_1
 have HB:=Aside0.mk (Below.refl w.heap.size w)
 have H:(if (l0_0.length:Int) > 65536 then (wageofficeref42_Valid.j0 k true l0_0 l0_1) else (wageofficeref42_Valid.j0 k (decide ((l0_1.length:Int) > 64)) l0_0 l0_1))=some r:=h
 clear h
 have HC2:=Aside0.mk H
 clear H
 go_enter Try.func31,Try.ntmps31
 go_upto_region 1 with (first|((with_reducible refine gate_dst (N:=1) rfl ?_);(try (refine gate_guard (by rfl) ?_;dsimp only));refine box_event ?hg (N:=1) ?hd (cs:=#[.slice A0_0 l0_0.length c0_0,.slice A0_1 l0_1.length c0_1]) (t:=25) ?hr ?_;(case hd=>rfl);(case hg=>rfl);(case hr=>first|(go_simp;done)|(go_simp;rfl));intro gb140 hg w3 hbox hb;have n0_:=Aside0.mk (below_step (by repeat (first|(with_reducible first|exact HB.out|apply below_alloc|apply pw_below_drewN|apply below_drew1)|exact HB.out)) hb);have n1_:=Aside0.mk (hbox);have n2_:=Aside0.mk ((by rw [hg];exact (below_size (by repeat (first|(with_reducible first|exact HB.out|apply below_alloc|apply pw_below_drewN|apply below_drew1)|exact HB.out))):w.heap.size ≤ gb140));have n3_:=Aside0.mk ((by rw [hg];exact (below_size (by repeat (first|(with_reducible first|exact HB.out|apply below_alloc|apply pw_below_drewN|apply below_drew1)|exact HB.out))):w.heap.size ≤ gb140));clear HB;have HB:=n0_;have BK140:=n1_;have GW140:=n2_;have GE140:=n3_;clear n0_ n1_ n2_ n3_;clear hb hbox hg))
 repeat (go_quiet (first|((with_reducible refine gate_dst (N:=1) rfl ?_);(try (refine gate_guard (by rfl) ?_;dsimp only));refine box_event ?hg (N:=1) ?hd (cs:=#[.slice A0_0 l0_0.length c0_0,.slice A0_1 l0_1.length c0_1]) (t:=25) ?hr ?_;(case hd=>rfl);(case hg=>rfl);(case hr=>first|(go_simp;done)|(go_simp;rfl));intro gb140 hg w3 hbox hb;have n0_:=Aside0.mk (below_step (by repeat (first|(with_reducible first|exact HB.out|apply below_alloc|apply pw_below_drewN|apply below_drew1)|exact HB.out)) hb);have n1_:=Aside0.mk (hbox);have n2_:=Aside0.mk ((by rw [hg];exact (below_size (by repeat (first|(with_reducible first|exact HB.out|apply below_alloc|apply pw_below_drewN|apply below_drew1)|exact HB.out))):w.heap.size ≤ gb140));have n3_:=Aside0.mk ((by rw [hg];exact (below_size (by repeat (first|(with_reducible first|exact HB.out|apply below_alloc|apply pw_below_drewN|apply below_drew1)|exact HB.out))):w.heap.size ≤ gb140));clear HB;have HB:=n0_;have BK140:=n1_;have GW140:=n2_;have GE140:=n3_;clear n0_ n1_ n2_ n3_;clear hb hbox hg));go_upto_region 1 with (first|((with_reducible refine gate_dst (N:=1) rfl ?_);(try (refine gate_guard (by rfl) ?_;dsimp only));refine box_event ?hg (N:=1) ?hd (cs:=#[.slice A0_0 l0_0.length c0_0,.slice A0_1 l0_1.length c0_1]) (t:=25) ?hr ?_;(case hd=>rfl);(case hg=>rfl);(case hr=>first|(go_simp;done)|(go_simp;rfl));intro gb140 hg w3 hbox hb;have n0_:=Aside0.mk (below_step (by repeat (first|(with_reducible first|exact HB.out|apply below_alloc|apply pw_below_drewN|apply below_drew1)|exact HB.out)) hb);have n1_:=Aside0.mk (hbox);have n2_:=Aside0.mk ((by rw [hg];exact (below_size (by repeat (first|(with_reducible first|exact HB.out|apply below_alloc|apply pw_below_drewN|apply below_drew1)|exact HB.out))):w.heap.size ≤ gb140));have n3_:=Aside0.mk ((by rw [hg];exact (below_size (by repeat (first|(with_reducible first|exact HB.out|apply below_alloc|apply pw_below_drewN|apply below_drew1)|exact HB.out))):w.heap.size ≤ gb140));clear HB;have HB:=n0_;have BK140:=n1_;have GW140:=n2_;have GE140:=n3_;clear n0_ n1_ n2_ n3_;clear hb hbox hg)))
 (try simp only [Act.put,List.setIfInBounds_toArray,List.set_cons_zero,List.set_cons_succ])
 go_cut [13] (fun v13 wc=>∃ (kq:Nat) (x13_1:Bool),v13=.bool x13_1∧Aside0 (wageofficeref42_Valid.j0 kq x13_1 l0_0 l0_1=some r)∧Aside0 (kq ≤ k)∧Aside0 (wc.heap[gb140]? = some (.cells #[(.slice A0_0 l0_0.length c0_0),(.slice A0_1 l0_1.length c0_1)] 25 (0,0)))∧Aside0 (Below w.heap.size w wc))
 case first =>
  have H:=HC2.out
  clear HC2
  by_cases c4:(l0_0.length:Int) > 65536
  · rw [if_pos c4] at H
    have c4b0:decide (65536 < (l0_0.length:Int))=true:=decide_eq_true c4
    have c4b1:decide (65536 < l0_0.length)=true:=decide_eq_true (by omega)
    clear c4
    (first|rw [c4b0]|(simp only [i64_w,i32_w];rw [c4b0])|skip)
    have H':=Aside0.mk H
    clear H
    have hcz5_0:w3.cell? ⟨gb140,0,none⟩=some (.slice A0_0 l0_0.length c0_0):=(blk_cell BK140.out 0).trans rfl
    have hcz5_1:w3.cell? ⟨gb140,1,none⟩=some (.slice A0_1 l0_1.length c0_1):=(blk_cell BK140.out 1).trans rfl
    have hfz5_0:=blk_frozen BK140.out 0
    have hfz5_1:=blk_frozen BK140.out 1
    go_wp2
    repeat (go_quiet (fail);try go_wp2)
    go_meet
    case rel=>exact ⟨_,(true),(by first|rfl|(simp;done)|(simp [*];done)),H',⟨by first|omega|exact Nat.le_refl _⟩,⟨by (with_reducible repeat (first|refine blk_drewN ?_ _|refine blk_drew ?_|refine blk_alloc ?_ _));exact BK140.out⟩,⟨by repeat (first|(with_reducible first|exact HB.out|apply below_alloc|apply pw_below_drewN|apply below_drew1|refine below_set ?_ GE140.out)|exact HB.out)⟩⟩
  · rw [if_neg c4] at H
    have c4b0:decide (65536 < (l0_0.length:Int))=false:=decide_eq_false c4
    have c4b1:decide (65536 < l0_0.length)=false:=decide_eq_false (by omega)
    clear c4
    (first|rw [c4b0]|(simp only [i64_w,i32_w];rw [c4b0])|skip)
    have H':=Aside0.mk H
    clear H
    have hcz6_0:w3.cell? ⟨gb140,0,none⟩=some (.slice A0_0 l0_0.length c0_0):=(blk_cell BK140.out 0).trans rfl
    have hcz6_1:w3.cell? ⟨gb140,1,none⟩=some (.slice A0_1 l0_1.length c0_1):=(blk_cell BK140.out 1).trans rfl
    have hfz6_0:=blk_frozen BK140.out 0
    have hfz6_1:=blk_frozen BK140.out 1
    go_wp2
    repeat (go_quiet (fail);try go_wp2)
    go_meet
    case rel=>exact ⟨_,(decide ((l0_1.length:Int) > 64)),(by first|rfl|(simp;done)|(simp [*];done)),H',⟨by first|omega|exact Nat.le_refl _⟩,⟨by (with_reducible repeat (first|refine blk_drewN ?_ _|refine blk_drew ?_|refine blk_alloc ?_ _));exact BK140.out⟩,⟨by repeat (first|(with_reducible first|exact HB.out|apply below_alloc|apply pw_below_drewN|apply below_drew1|refine below_set ?_ GE140.out)|exact HB.out)⟩⟩
 case rest =>
  clear HC2
  try clear p2
  try clear c3
  try clear c4
  try clear c4b0
  try clear c4b1
  try clear hcz5_0
  try clear hcz5_1
  try clear hcz6_0
  try clear hcz6_1
  try clear hfz5_0
  try clear hfz5_1
  try clear hfz6_0
  try clear hfz6_1
  obtain ⟨kq,x13_1,rfl,HA,HJ1,BK140,HB⟩:=hcut
  cases kq with
  | zero=>exact absurd HA.out (by simp [wageofficeref42_Valid.j0])
  | succ kj1 =>
   have H:=HA.out
   clear HA
   simp only [wageofficeref42_Valid.j0] at H
   by_cases c7:x13_1=true
   · subst c7
     have H1:(some false)=some r:=by rw [if_pos rfl] at H;exact H
     clear H
     have H:=H1
     clear H1
     obtain rfl:=Option.some.inj H
     go_wp2
     repeat (go_quiet (fail);try go_wp2)
     go_ret
     exact ⟨by first|rfl|(simp [errW_none,errW_some] <;> rfl)|(simp [*,errW_none,errW_some] <;> rfl),by repeat (first|(with_reducible first|exact HB.out|apply below_alloc|apply pw_below_drewN|apply below_drew1|refine below_set ?_ GE140.out)|exact HB.out)⟩
   · replace c7:=Bool.eq_false_iff.mpr c7
     subst c7
     have H1:(wageofficeref42_Valid.l0 kj1 0 l0_0 l0_1)=some r:=by rw [if_neg (show ¬ (false=true) by decide)] at H;exact H
     clear H
     have H:=H1
     clear H1
     have H':=Aside0.mk H
     clear H
     go_wp2
     repeat (go_quiet (fail);try go_wp2)
     go_loopg [3] kj1 (fun kq v3 w'=>∃ (x3_2:Int),v3=.int .i64 x3_2∧Aside0 (wageofficeref42_Valid.l0 kq x3_2 l0_0 l0_1=some r)∧Aside0 (kq ≤ kj1)∧Aside0 (w'.heap[gb140]? = some (.cells #[(.slice A0_0 l0_0.length c0_0),(.slice A0_1 l0_1.length c0_1)] 25 (0,0)))∧Aside0 (Below w.heap.size w w'))
     case atStart=>exact ⟨(0),(by first|rfl|(simp;done)|(simp [*];done)),H',⟨Nat.le_refl _⟩,⟨by (with_reducible repeat (first|refine blk_drewN ?_ _|refine blk_drew ?_|refine blk_alloc ?_ _));exact BK140.out⟩,⟨by repeat (first|(with_reducible first|exact HB.out|apply below_alloc|apply pw_below_drewN|apply below_drew1|refine below_set ?_ GE140.out)|exact HB.out)⟩⟩
     case round =>
      clear H'
      try clear p2
      try clear c3
      try clear c4
      try clear c4b0
      try clear c4b1
      try clear c7
      try clear hcz5_0
      try clear hcz5_1
      try clear hcz6_0
      try clear hcz6_1
      try clear hfz5_0
      try clear hfz5_1
      try clear hfz6_0
      try clear hfz6_1
      try clear p2
      obtain ⟨x3_2,rfl,HA,HK2,BK140,HB⟩:=hrel
      cases gk with
      | zero=>exact absurd HA.out (by simp [wageofficeref42_Valid.l0])
      | succ k2 =>
       have H:=HA.out
       clear HA
       simp only [wageofficeref42_Valid.l0] at H
       by_cases c8:x3_2 < (l0_1.length:Int)
       · rw [if_pos c8] at H
         have c8b0:decide (x3_2 < (l0_1.length:Int))=true:=decide_eq_true c8
         clear c8
         by_cases c9:0 ≤ x3_2
         · rw [if_pos c9] at H
           have c9b0:decide (0 ≤ x3_2)=true:=decide_eq_true c9
           clear c9
           by_cases c10:((rd_T45 l0_1 x3_2).f0) < 0
           · rw [if_pos c10] at H
             have c10b0:decide (((rd_T45 l0_1 x3_2).f0) < 0)=true:=decide_eq_true c10
             clear c10
             obtain rfl:=Option.some.inj H
             have hcz11_0:wr.cell? ⟨gb140,0,none⟩=some (.slice A0_0 l0_0.length c0_0):=(blk_cell BK140.out 0).trans rfl
             have hcz11_1:wr.cell? ⟨gb140,1,none⟩=some (.slice A0_1 l0_1.length c0_1):=(blk_cell BK140.out 1).trans rfl
             have hfz11_0:=blk_frozen BK140.out 0
             have hfz11_1:=blk_frozen BK140.out 1
             have p141:0 ≤ (x3_2:Int):=of_decide_eq_true (by first|(with_reducible assumption)|assumption)
             have q141:x3_2 < (l0_1.length:Int):=of_decide_eq_true (by first|(with_reducible assumption)|assumption)
             obtain ⟨ad141,A141_1,c141_1,e141,hx141_0,hx141_1,hl141_1,hi141_1⟩:=at_T45 HR0_1.out x3_2 p141 q141
             cases e141
             replace hx141_0:=(HB.out.cell (World.block_lt_of_cell? w _ hx141_0)).trans hx141_0
             replace hx141_1:=(HB.out.cell (World.block_lt_of_cell? w _ hx141_1)).trans hx141_1
             have HR141_1:=Aside0.mk hi141_1
             have HC141_1:=Aside0.mk hl141_1
             clear hi141_1 hl141_1
             replace p141:=eq_true p141
             replace q141:=eq_true q141
             go_wp2
             repeat (go_quiet (fail);try go_wp2)
             go_ret
             exact ⟨by first|rfl|(simp [errW_none,errW_some] <;> rfl)|(simp [*,errW_none,errW_some] <;> rfl),by repeat (first|(with_reducible first|exact HB.out|apply below_alloc|apply pw_below_drewN|apply below_drew1|refine below_set ?_ GE140.out)|exact HB.out)⟩
           · rw [if_neg c10] at H
             have c10b0:decide (((rd_T45 l0_1 x3_2).f0) < 0)=false:=decide_eq_false c10
             clear c10
             by_cases c12:((rd_T45 l0_1 x3_2).f0) > (wrap64 ((l0_0.length:Int) - (((rd_T45 l0_1 x3_2).f1).length:Int)))
             · rw [if_pos c12] at H
               have c12b0:decide ((wrap64 ((l0_0.length:Int) - (((rd_T45 l0_1 x3_2).f1).length:Int))) < ((rd_T45 l0_1 x3_2).f0))=true:=decide_eq_true c12
               clear c12
               obtain rfl:=Option.some.inj H
               have hcz13_0:wr.cell? ⟨gb140,0,none⟩=some (.slice A0_0 l0_0.length c0_0):=(blk_cell BK140.out 0).trans rfl
               have hcz13_1:wr.cell? ⟨gb140,1,none⟩=some (.slice A0_1 l0_1.length c0_1):=(blk_cell BK140.out 1).trans rfl
               have hfz13_0:=blk_frozen BK140.out 0
               have hfz13_1:=blk_frozen BK140.out 1
               have p141:0 ≤ (x3_2:Int):=of_decide_eq_true (by first|(with_reducible assumption)|assumption)
               have q141:x3_2 < (l0_1.length:Int):=of_decide_eq_true (by first|(with_reducible assumption)|assumption)
               obtain ⟨ad141,A141_1,c141_1,e141,hx141_0,hx141_1,hl141_1,hi141_1⟩:=at_T45 HR0_1.out x3_2 p141 q141
               cases e141
               replace hx141_0:=(HB.out.cell (World.block_lt_of_cell? w _ hx141_0)).trans hx141_0
               replace hx141_1:=(HB.out.cell (World.block_lt_of_cell? w _ hx141_1)).trans hx141_1
               have HR141_1:=Aside0.mk hi141_1
               have HC141_1:=Aside0.mk hl141_1
               clear hi141_1 hl141_1
               replace p141:=eq_true p141
               replace q141:=eq_true q141
               have p142:0 ≤ (x3_2:Int):=of_decide_eq_true (by first|(with_reducible assumption)|assumption)
               have q142:x3_2 < (l0_1.length:Int):=of_decide_eq_true (by first|(with_reducible assumption)|assumption)
               obtain ⟨ad142,A142_1,c142_1,e142,hx142_0,hx142_1,hl142_1,hi142_1⟩:=at_T45 HR0_1.out x3_2 p142 q142
               obtain rfl:ad141=ad142:=(by injection e142)
               replace hx142_0:=(HB.out.cell (World.block_lt_of_cell? w _ hx142_0)).trans hx142_0
               replace hx142_1:=(HB.out.cell (World.block_lt_of_cell? w _ hx142_1)).trans hx142_1
               have HR142_1:=Aside0.mk hi142_1
               have HC142_1:=Aside0.mk hl142_1
               clear hi142_1 hl142_1
               replace p142:=eq_true p142
               replace q142:=eq_true q142
               have ea_:=Option.some.inj (hx141_1.symm.trans hx142_1)
               injection ea_ with ea_ en_ ec_
               subst ea_
               subst ec_
               clear en_
               have p143:0 ≤ (x3_2:Int):=of_decide_eq_true (by first|(with_reducible assumption)|assumption)
               have q143:x3_2 < (l0_1.length:Int):=of_decide_eq_true (by first|(with_reducible assumption)|assumption)
               obtain ⟨ad143,A143_1,c143_1,e143,hx143_0,hx143_1,hl143_1,hi143_1⟩:=at_T45 HR0_1.out x3_2 p143 q143
               obtain rfl:ad141=ad143:=(by injection e143)
               replace hx143_0:=(HB.out.cell (World.block_lt_of_cell? w _ hx143_0)).trans hx143_0
               replace hx143_1:=(HB.out.cell (World.block_lt_of_cell? w _ hx143_1)).trans hx143_1
               have HR143_1:=Aside0.mk hi143_1
               have HC143_1:=Aside0.mk hl143_1
               clear hi143_1 hl143_1
               replace p143:=eq_true p143
               replace q143:=eq_true q143
               have ea_:=Option.some.inj (hx141_1.symm.trans hx143_1)
               injection ea_ with ea_ en_ ec_
               subst ea_
               subst ec_
               clear en_
               go_wp2
               repeat (go_quiet (fail);try go_wp2)
               go_ret
               exact ⟨by first|rfl|(simp [errW_none,errW_some] <;> rfl)|(simp [*,errW_none,errW_some] <;> rfl),by repeat (first|(with_reducible first|exact HB.out|apply below_alloc|apply pw_below_drewN|apply below_drew1|refine below_set ?_ GE140.out)|exact HB.out)⟩
             · rw [if_neg c12] at H
               have c12b0:decide ((wrap64 ((l0_0.length:Int) - (((rd_T45 l0_1 x3_2).f1).length:Int))) < ((rd_T45 l0_1 x3_2).f0))=false:=decide_eq_false c12
               clear c12
               have H':=Aside0.mk H
               clear H
               have hcz14_0:wr.cell? ⟨gb140,0,none⟩=some (.slice A0_0 l0_0.length c0_0):=(blk_cell BK140.out 0).trans rfl
               have hcz14_1:wr.cell? ⟨gb140,1,none⟩=some (.slice A0_1 l0_1.length c0_1):=(blk_cell BK140.out 1).trans rfl
               have hfz14_0:=blk_frozen BK140.out 0
               have hfz14_1:=blk_frozen BK140.out 1
               have p141:0 ≤ (x3_2:Int):=of_decide_eq_true (by first|(with_reducible assumption)|assumption)
               have q141:x3_2 < (l0_1.length:Int):=of_decide_eq_true (by first|(with_reducible assumption)|assumption)
               obtain ⟨ad141,A141_1,c141_1,e141,hx141_0,hx141_1,hl141_1,hi141_1⟩:=at_T45 HR0_1.out x3_2 p141 q141
               cases e141
               replace hx141_0:=(HB.out.cell (World.block_lt_of_cell? w _ hx141_0)).trans hx141_0
               replace hx141_1:=(HB.out.cell (World.block_lt_of_cell? w _ hx141_1)).trans hx141_1
               have HR141_1:=Aside0.mk hi141_1
               have HC141_1:=Aside0.mk hl141_1
               clear hi141_1 hl141_1
               replace p141:=eq_true p141
               replace q141:=eq_true q141
               have p142:0 ≤ (x3_2:Int):=of_decide_eq_true (by first|(with_reducible assumption)|assumption)
               have q142:x3_2 < (l0_1.length:Int):=of_decide_eq_true (by first|(with_reducible assumption)|assumption)
               obtain ⟨ad142,A142_1,c142_1,e142,hx142_0,hx142_1,hl142_1,hi142_1⟩:=at_T45 HR0_1.out x3_2 p142 q142
               obtain rfl:ad141=ad142:=(by injection e142)
               replace hx142_0:=(HB.out.cell (World.block_lt_of_cell? w _ hx142_0)).trans hx142_0
               replace hx142_1:=(HB.out.cell (World.block_lt_of_cell? w _ hx142_1)).trans hx142_1
               have HR142_1:=Aside0.mk hi142_1
               have HC142_1:=Aside0.mk hl142_1
               clear hi142_1 hl142_1
               replace p142:=eq_true p142
               replace q142:=eq_true q142
               have ea_:=Option.some.inj (hx141_1.symm.trans hx142_1)
               injection ea_ with ea_ en_ ec_
               subst ea_
               subst ec_
               clear en_
               have p143:0 ≤ (x3_2:Int):=of_decide_eq_true (by first|(with_reducible assumption)|assumption)
               have q143:x3_2 < (l0_1.length:Int):=of_decide_eq_true (by first|(with_reducible assumption)|assumption)
               obtain ⟨ad143,A143_1,c143_1,e143,hx143_0,hx143_1,hl143_1,hi143_1⟩:=at_T45 HR0_1.out x3_2 p143 q143
               obtain rfl:ad141=ad143:=(by injection e143)
               replace hx143_0:=(HB.out.cell (World.block_lt_of_cell? w _ hx143_0)).trans hx143_0
               replace hx143_1:=(HB.out.cell (World.block_lt_of_cell? w _ hx143_1)).trans hx143_1
               have HR143_1:=Aside0.mk hi143_1
               have HC143_1:=Aside0.mk hl143_1
               clear hi143_1 hl143_1
               replace p143:=eq_true p143
               replace q143:=eq_true q143
               have ea_:=Option.some.inj (hx141_1.symm.trans hx143_1)
               injection ea_ with ea_ en_ ec_
               subst ea_
               subst ec_
               clear en_
               go_wp2
               repeat (go_quiet (fail);try go_wp2)
               go_roundg k2
               case measure=>have:=HJ1.out;have:=HK2.out;omega
               case rel=>exact ⟨(wrap64 (x3_2 + 1)),(by first|rfl|(simp;done)|(simp [*];done)),H',⟨by have:=HJ1.out;have:=HK2.out;omega⟩,⟨by (with_reducible repeat (first|refine blk_drewN ?_ _|refine blk_drew ?_|refine blk_alloc ?_ _));exact BK140.out⟩,⟨by repeat (first|(with_reducible first|exact HB.out|apply below_alloc|apply pw_below_drewN|apply below_drew1|refine below_set ?_ GE140.out)|exact HB.out)⟩⟩
         · rw [if_neg c9] at H
           exact absurd H (by simp)
       · rw [if_neg c8] at H
         have c8b0:decide (x3_2 < (l0_1.length:Int))=false:=decide_eq_false c8
         clear c8
         obtain rfl:=Option.some.inj H
         have hcz15_0:wr.cell? ⟨gb140,0,none⟩=some (.slice A0_0 l0_0.length c0_0):=(blk_cell BK140.out 0).trans rfl
         have hcz15_1:wr.cell? ⟨gb140,1,none⟩=some (.slice A0_1 l0_1.length c0_1):=(blk_cell BK140.out 1).trans rfl
         have hfz15_0:=blk_frozen BK140.out 0
         have hfz15_1:=blk_frozen BK140.out 1
         go_wp2
         repeat (go_quiet (fail);try go_wp2)
         go_ret
         exact ⟨by first|rfl|(simp [errW_none,errW_some] <;> rfl)|(simp [*,errW_none,errW_some] <;> rfl),by repeat (first|(with_reducible first|exact HB.out|apply below_alloc|apply pw_below_drewN|apply below_drew1|refine below_set ?_ GE140.out)|exact HB.out)⟩
def wageofficeref42_Copy.l0:Nat→List Int→List Int→Int→Option (List Int)
 | 0,_,_,_=>none
 | k + 1,x0,x3,x4=>if x4 < (x0.length:Int) then (if 0 ≤ x4 then (if x3.length < 140737488355328 then (wageofficeref42_Copy.l0 k x0 (x3 ++ [rd x0 x4]) (wrap64 (x4 + 1))) else (none)) else (none)) else (some x3)
def wageofficeref42_Copy.f (k:Nat) (l0:List Int):Option (List Int):=wageofficeref42_Copy.l0 k l0 ([]:List Int) 0
set_option maxHeartbeats 8000000 in
set_option maxRecDepth 100000 in
theorem wageofficeref42_Copy.calls (k:Nat) (A0:Option Addr) (c0:Nat) (l0:List Int) (r:List Int) (w:World) (hr0:Kd.C (Kd.int .u8) w A0 l0.length l0) (hc0:l0.length ≤ c0) (h:wageofficeref42_Copy.f k l0=some r) :
 Calls Try.prog 46 #[.slice A0 l0.length c0] w fun e w'=>∃ v0_:Value,e=.returned (v0_)∧Kd.R (Kd.int .u8) 5 w' w.heap.size (fun _=>True) v0_ r∧Below w.heap.size w w':=by
 have HR0:=Aside0.mk hr0
 have HC0:=Aside0.mk hc0
 clear hr0 hc0
 have HB:=Aside0.mk (Below.refl w.heap.size w)
 have H:(wageofficeref42_Copy.l0 k l0 ([]:List Int) 0)=some r:=h
 clear h
 have H':=Aside0.mk H
 clear H
 go_enter Try.func46,Try.ntmps46
 go_wp2
 go_loopg [3,4] k (fun kq v3 v4 w'=>∃ (x3_1:List Int) (x4_1:Int),v4=.int .i64 x4_1∧Aside0 (wageofficeref42_Copy.l0 kq l0 x3_1 x4_1=some r)∧Aside0 (kq ≤ k)∧Aside0 (Kd.R (Kd.int .u8) 5 w' w.heap.size (fun _=>True) v3 x3_1)∧Aside0 (Below w.heap.size w w'))
 case atStart=>exact ⟨(([]:List Int)),(0),(by first|rfl|(simp;done)|(simp [*];done)),H',⟨Nat.le_refl _⟩,⟨by first|exact Kd.R_nil _ _ _ _ _|exact Kd.N_nil _ _ _ _ _|exact Kd.V_nil _ _ _ _ _|exact Kd.Q_nil _ _ _ _ _|exact Kd.S_nil _ _ _ _ _⟩,⟨by repeat (first|(with_reducible first|exact HB.out|apply below_alloc|apply pw_below_drewN|apply below_drew1)|exact HB.out)⟩⟩
 case round =>
  clear H'
  obtain ⟨x3_1,x4_1,rfl,HA,HK1,HO_3,HB⟩:=hrel
  cases gk with
  | zero=>exact absurd HA.out (by simp [wageofficeref42_Copy.l0])
  | succ k1 =>
   have H:=HA.out
   clear HA
   simp only [wageofficeref42_Copy.l0] at H
   by_cases c2:x4_1 < (l0.length:Int)
   · rw [if_pos c2] at H
     have c2b0:decide (x4_1 < (l0.length:Int))=true:=decide_eq_true c2
     clear c2
     by_cases c3:0 ≤ x4_1
     · rw [if_pos c3] at H
       have c3b0:decide (0 ≤ x4_1)=true:=decide_eq_true c3
       clear c3
       by_cases c4:x3_1.length < 140737488355328
       · rw [if_pos c4] at H
         have LMc4:=Aside0.mk c4
         clear c4
         obtain ⟨y145,hy145⟩:∃ y_:List Int,y_=(x3_1 ++ [rd l0 x4_1]):=⟨_,rfl⟩
         replace H:(wageofficeref42_Copy.l0 k1 l0 y145 (wrap64 (x4_1 + 1)))=some r:=by first|(rw [hy145];with_reducible exact H)|(have H2_:=(Option.bind_some _ _).symm.trans H;rw [hy145];with_reducible exact H2_)|(have H2_:=(Option.bind_some _ _).symm.trans H;with_reducible exact H2_)|with_reducible exact H|(rw [hy145];exact H)|exact H
         have Ny145:=Aside0.mk hy145
         clear hy145
         have H':=Aside0.mk H
         clear H
         have p144:0 ≤ (x4_1:Int):=of_decide_eq_true (by first|(with_reducible assumption)|assumption)
         have q144:x4_1 < (l0.length:Int):=of_decide_eq_true (by first|(with_reducible assumption)|assumption)
         obtain ⟨ad144,e144,hx144_0⟩:=Kd.at_int HR0.out x4_1 p144 q144
         cases e144
         replace hx144_0:=(HB.out.cell (World.block_lt_of_cell? w _ hx144_0)).trans hx144_0
         replace p144:=eq_true p144
         replace q144:=eq_true q144
         go_wp2_with (first|((with_reducible refine gate_builtin (b:=.append) (xs:=#[.tmp 11,.tmp 16]) rfl ?_);at_builtin;refine Kd.R_append (Kd.int .u8) (w0:=w) w.heap.size rfl (.tmp 11) (.tmp 16) 22 5 (.int .u8 0) 1 rfl Try.underlying22 info5 rfl (by decide) (by omega) u3 x3_1 (rd l0 x4_1) [.int .u8 (rd l0 x4_1)] (fun _=>True) (fun _=>False) rfl rfl ?aP (fun _ hk=>hk.elim) ?aF ?aO ?aB ?aS ?aL ?_;(case aP=>exact rfl);(case aB=>exact (by repeat (first|(with_reducible first|exact HB.out|apply below_alloc|apply pw_below_drewN|apply below_drew1)|exact HB.out)));(case aF=>exact (fun _ _=>trivial));(case aO=>exact (by (with_reducible repeat (first|apply Kd.R_alloc|apply Kd.R_drewN|apply Kd.R_drew));exact HO_3.out));(case aS=>exact (below_size (by repeat (first|(with_reducible first|exact HB.out|apply below_alloc|apply pw_below_drewN|apply below_drew1)|exact HB.out))));(case aL=>have:=LMc4.out;omega);intro v146 w5 ho hb hg hat;rw [← Ny145.out] at ho;have n0_:=Aside0.mk (hb);have n1_:=Aside0.mk (ho);clear HB;clear HO_3;have HB:=n0_;have HO147:=n1_;clear n0_ n1_;clear ho hb hg hat))
         go_roundg k1
         case measure=>have:=HK1.out;omega
         case rel=>exact ⟨(y145),(wrap64 (x4_1 + 1)),(by first|rfl|(simp;done)|(simp [*];done)),H',⟨by have:=HK1.out;omega⟩,⟨by (with_reducible repeat (first|apply Kd.R_alloc|apply Kd.R_drewN|apply Kd.R_drew));exact HO147.out⟩,⟨by repeat (first|(with_reducible first|exact HB.out|apply below_alloc|apply pw_below_drewN|apply below_drew1)|exact HB.out)⟩⟩
       · rw [if_neg c4] at H
         exact absurd H (by simp)
     · rw [if_neg c3] at H
       exact absurd H (by simp)
   · rw [if_neg c2] at H
     have c2b0:decide (x4_1 < (l0.length:Int))=false:=decide_eq_false c2
     clear c2
     obtain rfl:=Option.some.inj H
     go_wp2
     go_ret
     exact ⟨_,by first|rfl|(simp [errW_none,errW_some] <;> rfl)|(simp [*,errW_none,errW_some] <;> rfl),by (with_reducible repeat (first|apply Kd.R_alloc|apply Kd.R_drewN|apply Kd.R_drew));exact HO_3.out,by repeat (first|(with_reducible first|exact HB.out|apply below_alloc|apply pw_below_drewN|apply below_drew1)|exact HB.out)⟩
end Go.Proofs.Ytfpdmlhknddffaa.Dk
end
section
namespace Go.Proofs.Ytfpdmlhknddffaa.Dk
open Go.RowKit Go.Proofs.YtfpdmlhknddffaaW.PrintWords Go.Proofs.YtfpdmlhknddffaaW.PrintLast Go.Proofs.YtfpdmlhknddffaaW.PrintMore
attribute [local go_sem] max2_int min2_int max_two min_two max_three min_three max_four min_four
set_option linter.unusedVariables false
set_option linter.unusedSimpArgs false
mutual
def wageofficeref42_Write.j0:Nat→Int→List Int→Bool→List Int→List (S45)→Option (List Int × (List (S45)) × Int)
 | 0,_,_,_,_,_=>none
 | k + 1,x1,x2,x26,x149000,x149001=>if x26=true then (some (([]:List Int),([]:List (S45)),1)) else (if (x149001.length:Int)=64 then (some (([]:List Int),([]:List (S45)),2)) else ((wageofficeref42_Copy.f k x149000).bind fun t151=>(wageofficeref42_Write.l0 k x1 x2 0 x149000 x149001 t151 ([]:List (S45)))))
def wageofficeref42_Write.l0:Nat→Int→List Int→Int→List Int→List (S45)→List Int→List (S45)→Option (List Int × (List (S45)) × Int)
 | 0,_,_,_,_,_,_,_=>none
 | k + 1,x1,x2,x9,x149000,x149001,x155000,x155001=>if x9 < (x149001.length:Int) then (if 0 ≤ x9 then ((wageofficeref42_Copy.f k ((rd_T45 x149001 x9).f1)).bind fun t157=>(if x155001.length < 4398046511104 then (wageofficeref42_Write.l0 k x1 x2 (wrap64 (x9 + 1)) x149000 x149001 x155000 (x155001 ++ [(⟨(rd_T45 x149001 x9).f0,t157⟩:S45)])) else (none))) else (none)) else ((wageofficeref42_Copy.f k x2).bind fun t163=>(if x155001.length < 4398046511104 then (some (x155000,(x155001 ++ [(⟨x1,t163⟩:S45)]),0)) else (none)))
end
def wageofficeref42_Write.f (k:Nat) (l0_0:List Int) (l0_1:List (S45)) (a1:Int) (l2:List Int):Option (List Int × (List (S45)) × Int):=(wageofficeref42_Valid.f k l0_0 l0_1).bind fun t150=>(if t150=true then (if a1 < 0 then (wageofficeref42_Write.j0 k a1 l2 true l0_0 l0_1) else (wageofficeref42_Write.j0 k a1 l2 (decide (a1 > (wrap64 ((l0_0.length:Int) - (l2.length:Int))))) l0_0 l0_1)) else (wageofficeref42_Write.j0 k a1 l2 true l0_0 l0_1))
def wageofficeref42_Write.T9:Bool × List (List Nat × List Nat):=(true,[([],[]),([0],[0]),([],[]),([2],[2]),([],[]),([3,4],[3,4]),([5],[5]),([6],[6]),([],[]),([8],[8]),([],[]),([9,10],[9,10]),([11],[11]),([12],[12]),([13],[13]),([7,14],[7,14]),([15],[15]),([1,16,14],[1,16]),([0,1,2,3,4,5,6,7,8,9,10,11,12,13,14,15,16,17],[]),([18,17,17,0,1,2,3,4,5,6,7,8,9,10,11,12,13,14,15,16,17],[17,18])])
def wageofficeref42_Write.B9:List Nat:=[0,1,0,4,0,28,60,124,0,256,0,1792,3840,7936,16128,32764,65532,131071,262143,524287]
theorem wageofficeref42_Write.tab9:rtab .any (opsOf Try.f22 9)=wageofficeref42_Write.T9:=by kernel_rfl
theorem wageofficeref42_Write.bits9:waitsOk wageofficeref42_Write.T9.2 wageofficeref42_Write.B9=true:=by kernel_rfl
def wageofficeref42_Write.T10:Bool × List (List Nat × List Nat):=(true,[([],[]),([0],[0]),([],[]),([],[]),([3],[3]),([2,4],[2,4]),([5],[5]),([1,6,4],[1,6]),([0,1,2,3,4,5,6,7],[]),([8,7,7,0,1,2,3,4,5,6,7],[7,8])])
def wageofficeref42_Write.B10:List Nat:=[0,1,0,0,8,28,60,127,255,511]
theorem wageofficeref42_Write.tab10:rtab .any (opsOf Try.f22 10)=wageofficeref42_Write.T10:=by kernel_rfl
theorem wageofficeref42_Write.bits10:waitsOk wageofficeref42_Write.T10.2 wageofficeref42_Write.B10=true:=by kernel_rfl
set_option maxHeartbeats 8000000 in
set_option maxRecDepth 100000 in
theorem wageofficeref42_Write.calls (k:Nat) (A0_0:Option Addr) (c0_0:Nat) (l0_0:List Int) (A0_1:Option Addr) (c0_1:Nat) (l0_1:List (S45)) (a1:Int) (A2:Option Addr) (c2:Nat) (l2:List Int) (r1:List Int) (r2:List (S45)) (r3:Int) (w:World) (hr0_0:Kd.C (Kd.int .u8) w A0_0 l0_0.length l0_0) (hc0_0:l0_0.length ≤ c0_0) (hr0_1:Kd.C k45 w A0_1 l0_1.length l0_1) (hc0_1:l0_1.length ≤ c0_1) (hr2:Kd.C (Kd.int .u8) w A2 l2.length l2) (hc2:l2.length ≤ c2) (h:wageofficeref42_Write.f k l0_0 l0_1 a1 l2=some (r1,r2,r3)) :
 Calls Try.prog 22 #[.agg #[.slice A0_0 l0_0.length c0_0,.slice A0_1 l0_1.length c0_1],.int .i64 a1,.slice A2 l2.length c2] w fun e w'=>∃ v0_ v1_:Value,e=.returned (.tuple #[.agg #[v0_,v1_],.int .i64 r3])∧Kd.R (Kd.int .u8) 5 w' w.heap.size (fun _=>True) v0_ r1∧Kd.S k45 45 w' w.heap.size (fun k_=>some k_ ≠ (v0_:Value).ownBlock) v1_ r2∧Below w.heap.size w w':=by
 have hu25:=Try.underlying25
 have hu45:=Try.underlying45
 have HR0_0:=Aside0.mk hr0_0
 have HC0_0:=Aside0.mk hc0_0
 clear hr0_0 hc0_0
 have HR0_1:=Aside0.mk hr0_1
 have HC0_1:=Aside0.mk hc0_1
 clear hr0_1 hc0_1
 have HR2:=Aside0.mk hr2
 have HC2:=Aside0.mk hc2
 clear hr2 hc2
 have HB:=Aside0.mk (Below.refl w.heap.size w)
 have H:((wageofficeref42_Valid.f k l0_0 l0_1).bind fun t150=>(if t150=true then (if a1 < 0 then (wageofficeref42_Write.j0 k a1 l2 true l0_0 l0_1) else (wageofficeref42_Write.j0 k a1 l2 (decide (a1 > (wrap64 ((l0_0.length:Int) - (l2.length:Int))))) l0_0 l0_1)) else (wageofficeref42_Write.j0 k a1 l2 true l0_0 l0_1)))=some (r1,r2,r3):=h
 clear h
 have HC4:=Aside0.mk H
 clear H
 go_enter Try.func22,Try.ntmps22
 go_upto_region 1 with (first|((with_reducible refine gate_dst (N:=3) rfl ?_);(try (refine gate_guard (by rfl) ?_;dsimp only));refine box_event ?hg (N:=3) ?hd (cs:=#[.slice A0_0 l0_0.length c0_0,.slice A0_1 l0_1.length c0_1]) (t:=25) ?hr ?_;(case hd=>rfl);(case hg=>rfl);(case hr=>first|(go_simp;done)|(go_simp;rfl));intro gb148 hg w5 hbox hb;have n0_:=Aside0.mk (below_step (by repeat (first|(with_reducible first|exact HB.out|apply below_alloc|apply pw_below_drewN|apply below_drew1)|exact HB.out)) hb);have n1_:=Aside0.mk (hbox);have n2_:=Aside0.mk ((by rw [hg];exact (below_size (by repeat (first|(with_reducible first|exact HB.out|apply below_alloc|apply pw_below_drewN|apply below_drew1)|exact HB.out))):w.heap.size ≤ gb148));have n3_:=Aside0.mk ((by rw [hg];exact (below_size (by repeat (first|(with_reducible first|exact HB.out|apply below_alloc|apply pw_below_drewN|apply below_drew1)|exact HB.out))):w.heap.size ≤ gb148));clear HB;have HB:=n0_;have BK148:=n1_;have GW148:=n2_;have GE148:=n3_;clear n0_ n1_ n2_ n3_;clear hb hbox hg)|((with_reducible refine gate_dst (N:=6) rfl ?_);(try (refine gate_guard (by rfl) ?_;dsimp only));refine box_event ?hg (N:=6) ?hd (cs:=#[.slice none 0 0,.slice none 0 0]) (t:=25) ?hr ?_;(case hd=>rfl);(case hg=>rfl);(case hr=>first|(go_simp;done)|(go_simp;rfl));intro gb149 hg w6 hbox hb;have n0_:=Aside0.mk (blk_below (g:=gb148) (o:=.cells #[.slice A0_0 l0_0.length c0_0,.slice A0_1 l0_1.length c0_1] 25 (0,0)) (by (with_reducible repeat (first|refine blk_drewN ?_ _|refine blk_drew ?_|refine blk_alloc ?_ _));exact BK148.out) hb);have n1_:=Aside0.mk (below_step (by repeat (first|(with_reducible first|exact HB.out|apply below_alloc|apply pw_below_drewN|apply below_drew1|refine below_set ?_ GE148.out)|exact HB.out)) hb);have n2_:=Aside0.mk (hbox);have n3_:=Aside0.mk ((by rw [hg];exact (below_size (by repeat (first|(with_reducible first|exact HB.out|apply below_alloc|apply pw_below_drewN|apply below_drew1|refine below_set ?_ GE148.out)|exact HB.out))):w.heap.size ≤ gb149));have n4_:=Aside0.mk ((by rw [hg];exact (below_size (by repeat (first|(with_reducible first|exact HB.out|apply below_alloc|apply pw_below_drewN|apply below_drew1|refine below_set ?_ GE148.out)|exact HB.out))):w.heap.size ≤ gb149));have n5_:=Aside0.mk ((by rw [hg];exact Nat.ne_of_lt (blk_lt (g:=gb148) (o:=.cells #[.slice A0_0 l0_0.length c0_0,.slice A0_1 l0_1.length c0_1] 25 (0,0)) (by (with_reducible repeat (first|refine blk_drewN ?_ _|refine blk_drew ?_|refine blk_alloc ?_ _));exact BK148.out)):gb148 ≠ gb149));have n6_:=Aside0.mk ((by rw [hg];exact Nat.ne_of_gt (blk_lt (g:=gb148) (o:=.cells #[.slice A0_0 l0_0.length c0_0,.slice A0_1 l0_1.length c0_1] 25 (0,0)) (by (with_reducible repeat (first|refine blk_drewN ?_ _|refine blk_drew ?_|refine blk_alloc ?_ _));exact BK148.out)):gb149 ≠ gb148));clear BK148;clear HB;have BK148:=n0_;have HB:=n1_;have BK149:=n2_;have GW149:=n3_;have GE149:=n4_;have NB148_149:=n5_;have NB149_148:=n6_;clear n0_ n1_ n2_ n3_ n4_ n5_ n6_;clear hb hbox hg))
 (try simp only [Act.put,List.setIfInBounds_toArray,List.set_cons_zero,List.set_cons_succ])
 go_cut [26] (fun v26 wc=>∃ (kq:Nat) (x26_3:Bool),v26=.bool x26_3∧Aside0 (wageofficeref42_Write.j0 kq a1 l2 x26_3 l0_0 l0_1=some (r1,r2,r3))∧Aside0 (kq ≤ k)∧Aside0 (wc.heap[gb148]? = some (.cells #[(.slice A0_0 l0_0.length c0_0),(.slice A0_1 l0_1.length c0_1)] 25 (0,0)))∧Aside0 (wc.heap[gb149]? = some (.cells #[(.slice none 0 0),(.slice none 0 0)] 25 (0,0)))∧Aside0 (Below w.heap.size w wc))
 case first =>
  have H:=HC4.out
  clear HC4
  replace H:=Option.bind_eq_some_iff.mp H
  obtain ⟨t150,A70,H⟩:=H
  replace H:(if t150=true then (if a1 < 0 then (wageofficeref42_Write.j0 k a1 l2 true l0_0 l0_1) else (wageofficeref42_Write.j0 k a1 l2 (decide (a1 > (wrap64 ((l0_0.length:Int) - (l2.length:Int))))) l0_0 l0_1)) else (wageofficeref42_Write.j0 k a1 l2 true l0_0 l0_1))=some (r1,r2,r3):=H
  have A7:=Aside0.mk A70
  clear A70
  by_cases c8:t150=true
  · subst c8
    have H1:(if a1 < 0 then (wageofficeref42_Write.j0 k a1 l2 true l0_0 l0_1) else (wageofficeref42_Write.j0 k a1 l2 (decide (a1 > (wrap64 ((l0_0.length:Int) - (l2.length:Int))))) l0_0 l0_1))=some (r1,r2,r3):=by rw [if_pos rfl] at H;exact H
    clear H
    have H:=H1
    clear H1
    by_cases c9:a1 < 0
    · rw [if_pos c9] at H
      have c9b0:decide (a1 < 0)=true:=decide_eq_true c9
      clear c9
      (first|rw [c9b0]|(simp only [i64_w,i32_w];rw [c9b0])|skip)
      have H':=Aside0.mk H
      clear H
      have hnb10:=NB148_149.out
      have hnc10:=NB149_148.out
      have hcz11_0:w6.cell? ⟨gb148,0,none⟩=some (.slice A0_0 l0_0.length c0_0):=(blk_cell BK148.out 0).trans rfl
      have hcz11_1:w6.cell? ⟨gb148,1,none⟩=some (.slice A0_1 l0_1.length c0_1):=(blk_cell BK148.out 1).trans rfl
      have hfz11_0:=blk_frozen BK148.out 0
      have hfz11_1:=blk_frozen BK148.out 1
      go_wp2_with (first|((with_reducible refine gate_callee (f:=31) rfl ?_);refine goesL_ (some 11) rfl rfl Try.func31 (by kernel_rfl) rfl #[.agg #[.slice A0_0 l0_0.length c0_0,.slice A0_1 l0_1.length c0_1]] rfl (by (try simp only [List.map_toArray,List.map_cons,List.map_nil]);first|done|rfl|(simp only [List.length_drop,List.length_take];rfl)) ?_;(with_reducible refine (wageofficeref42_Valid.calls k _ _ l0_0 _ _ l0_1 true _ ?side1 ?side2 ?side3 ?side4 A7.out).mono ?_);(case side1=>repeat (first|exact (Kd.C_below HR0_0.out HB.out)|(with_reducible refine Kd.C_alloc ?_ _)|(with_reducible refine Kd.C_drewN ?_ _)|(with_reducible refine Kd.C_drew ?_)));(case side2=>exact HC0_0.out);(case side3=>repeat (first|exact (Kd.C_below HR0_1.out HB.out)|(with_reducible refine Kd.C_alloc ?_ _)|(with_reducible refine Kd.C_drewN ?_ _)|(with_reducible refine Kd.C_drew ?_)));(case side4=>exact HC0_1.out);rintro e w12 ⟨rfl,hb⟩;refine ⟨_,rfl,?_⟩;have n0_:=Aside0.mk (blk_below (g:=gb148) (o:=.cells #[.slice A0_0 l0_0.length c0_0,.slice A0_1 l0_1.length c0_1] 25 (0,0)) (by (with_reducible repeat (first|refine blk_drewN ?_ _|refine blk_drew ?_|refine blk_alloc ?_ _));exact BK148.out) hb);have n1_:=Aside0.mk (blk_below (g:=gb149) (o:=.cells #[.slice none 0 0,.slice none 0 0] 25 (0,0)) (by (with_reducible repeat (first|refine blk_drewN ?_ _|refine blk_drew ?_|refine blk_alloc ?_ _));exact BK149.out) hb);have n2_:=Aside0.mk (below_step (by repeat (first|(with_reducible first|exact HB.out|apply below_alloc|apply pw_below_drewN|apply below_drew1|refine below_set ?_ GE148.out|refine below_set ?_ GE149.out)|exact HB.out)) hb);clear BK148;clear BK149;clear HB;have BK148:=n0_;have BK149:=n1_;have HB:=n2_;clear n0_ n1_ n2_;(try clear hb);(try clear hb2);(try clear hk);(try clear hi)))
      go_meet
      case rel=>exact ⟨_,(true),(by first|rfl|(simp;done)|(simp [*];done)),H',⟨by first|omega|exact Nat.le_refl _⟩,⟨by (with_reducible repeat (first|refine blk_drewN ?_ _|refine blk_drew ?_|refine blk_alloc ?_ _));exact BK148.out⟩,⟨by (with_reducible repeat (first|refine blk_drewN ?_ _|refine blk_drew ?_|refine blk_alloc ?_ _));exact BK149.out⟩,⟨by repeat (first|(with_reducible first|exact HB.out|apply below_alloc|apply pw_below_drewN|apply below_drew1|refine below_set ?_ GE148.out|refine below_set ?_ GE149.out)|exact HB.out)⟩⟩
    · rw [if_neg c9] at H
      have c9b0:decide (a1 < 0)=false:=decide_eq_false c9
      clear c9
      (first|rw [c9b0]|(simp only [i64_w,i32_w];rw [c9b0])|skip)
      have H':=Aside0.mk H
      clear H
      have hnb13:=NB148_149.out
      have hnc13:=NB149_148.out
      have hcz14_0:w6.cell? ⟨gb148,0,none⟩=some (.slice A0_0 l0_0.length c0_0):=(blk_cell BK148.out 0).trans rfl
      have hcz14_1:w6.cell? ⟨gb148,1,none⟩=some (.slice A0_1 l0_1.length c0_1):=(blk_cell BK148.out 1).trans rfl
      have hfz14_0:=blk_frozen BK148.out 0
      have hfz14_1:=blk_frozen BK148.out 1
      go_wp2_with (first|((with_reducible refine gate_callee (f:=31) rfl ?_);refine goesL_ (some 11) rfl rfl Try.func31 (by kernel_rfl) rfl #[.agg #[.slice A0_0 l0_0.length c0_0,.slice A0_1 l0_1.length c0_1]] rfl (by (try simp only [List.map_toArray,List.map_cons,List.map_nil]);first|done|rfl|(simp only [List.length_drop,List.length_take];rfl)) ?_;(with_reducible refine (wageofficeref42_Valid.calls k _ _ l0_0 _ _ l0_1 true _ ?side1 ?side2 ?side3 ?side4 A7.out).mono ?_);(case side1=>repeat (first|exact (Kd.C_below HR0_0.out HB.out)|(with_reducible refine Kd.C_alloc ?_ _)|(with_reducible refine Kd.C_drewN ?_ _)|(with_reducible refine Kd.C_drew ?_)));(case side2=>exact HC0_0.out);(case side3=>repeat (first|exact (Kd.C_below HR0_1.out HB.out)|(with_reducible refine Kd.C_alloc ?_ _)|(with_reducible refine Kd.C_drewN ?_ _)|(with_reducible refine Kd.C_drew ?_)));(case side4=>exact HC0_1.out);rintro e w15 ⟨rfl,hb⟩;refine ⟨_,rfl,?_⟩;have n0_:=Aside0.mk (blk_below (g:=gb148) (o:=.cells #[.slice A0_0 l0_0.length c0_0,.slice A0_1 l0_1.length c0_1] 25 (0,0)) (by (with_reducible repeat (first|refine blk_drewN ?_ _|refine blk_drew ?_|refine blk_alloc ?_ _));exact BK148.out) hb);have n1_:=Aside0.mk (blk_below (g:=gb149) (o:=.cells #[.slice none 0 0,.slice none 0 0] 25 (0,0)) (by (with_reducible repeat (first|refine blk_drewN ?_ _|refine blk_drew ?_|refine blk_alloc ?_ _));exact BK149.out) hb);have n2_:=Aside0.mk (below_step (by repeat (first|(with_reducible first|exact HB.out|apply below_alloc|apply pw_below_drewN|apply below_drew1|refine below_set ?_ GE148.out|refine below_set ?_ GE149.out)|exact HB.out)) hb);clear BK148;clear BK149;clear HB;have BK148:=n0_;have BK149:=n1_;have HB:=n2_;clear n0_ n1_ n2_;(try clear hb);(try clear hb2);(try clear hk);(try clear hi);have hcz16_0:w15.cell? ⟨gb148,0,none⟩=some (.slice A0_0 l0_0.length c0_0):=(blk_cell BK148.out 0).trans rfl;have hcz16_1:w15.cell? ⟨gb148,1,none⟩=some (.slice A0_1 l0_1.length c0_1):=(blk_cell BK148.out 1).trans rfl;have hfz16_0:=blk_frozen BK148.out 0;have hfz16_1:=blk_frozen BK148.out 1))
      go_meet
      case rel=>exact ⟨_,(decide (a1 > (wrap64 ((l0_0.length:Int) - (l2.length:Int))))),(by first|rfl|(simp;done)|(simp [*];done)),H',⟨by first|omega|exact Nat.le_refl _⟩,⟨by (with_reducible repeat (first|refine blk_drewN ?_ _|refine blk_drew ?_|refine blk_alloc ?_ _));exact BK148.out⟩,⟨by (with_reducible repeat (first|refine blk_drewN ?_ _|refine blk_drew ?_|refine blk_alloc ?_ _));exact BK149.out⟩,⟨by repeat (first|(with_reducible first|exact HB.out|apply below_alloc|apply pw_below_drewN|apply below_drew1|refine below_set ?_ GE148.out|refine below_set ?_ GE149.out)|exact HB.out)⟩⟩
  · replace c8:=Bool.eq_false_iff.mpr c8
    subst c8
    have H1:(wageofficeref42_Write.j0 k a1 l2 true l0_0 l0_1)=some (r1,r2,r3):=by rw [if_neg (show ¬ (false=true) by decide)] at H;exact H
    clear H
    have H:=H1
    clear H1
    have H':=Aside0.mk H
    clear H
    have hnb17:=NB148_149.out
    have hnc17:=NB149_148.out
    have hcz18_0:w6.cell? ⟨gb148,0,none⟩=some (.slice A0_0 l0_0.length c0_0):=(blk_cell BK148.out 0).trans rfl
    have hcz18_1:w6.cell? ⟨gb148,1,none⟩=some (.slice A0_1 l0_1.length c0_1):=(blk_cell BK148.out 1).trans rfl
    have hfz18_0:=blk_frozen BK148.out 0
    have hfz18_1:=blk_frozen BK148.out 1
    go_wp2_with (first|((with_reducible refine gate_callee (f:=31) rfl ?_);refine goesL_ (some 11) rfl rfl Try.func31 (by kernel_rfl) rfl #[.agg #[.slice A0_0 l0_0.length c0_0,.slice A0_1 l0_1.length c0_1]] rfl (by (try simp only [List.map_toArray,List.map_cons,List.map_nil]);first|done|rfl|(simp only [List.length_drop,List.length_take];rfl)) ?_;(with_reducible refine (wageofficeref42_Valid.calls k _ _ l0_0 _ _ l0_1 false _ ?side1 ?side2 ?side3 ?side4 A7.out).mono ?_);(case side1=>repeat (first|exact (Kd.C_below HR0_0.out HB.out)|(with_reducible refine Kd.C_alloc ?_ _)|(with_reducible refine Kd.C_drewN ?_ _)|(with_reducible refine Kd.C_drew ?_)));(case side2=>exact HC0_0.out);(case side3=>repeat (first|exact (Kd.C_below HR0_1.out HB.out)|(with_reducible refine Kd.C_alloc ?_ _)|(with_reducible refine Kd.C_drewN ?_ _)|(with_reducible refine Kd.C_drew ?_)));(case side4=>exact HC0_1.out);rintro e w19 ⟨rfl,hb⟩;refine ⟨_,rfl,?_⟩;have n0_:=Aside0.mk (blk_below (g:=gb148) (o:=.cells #[.slice A0_0 l0_0.length c0_0,.slice A0_1 l0_1.length c0_1] 25 (0,0)) (by (with_reducible repeat (first|refine blk_drewN ?_ _|refine blk_drew ?_|refine blk_alloc ?_ _));exact BK148.out) hb);have n1_:=Aside0.mk (blk_below (g:=gb149) (o:=.cells #[.slice none 0 0,.slice none 0 0] 25 (0,0)) (by (with_reducible repeat (first|refine blk_drewN ?_ _|refine blk_drew ?_|refine blk_alloc ?_ _));exact BK149.out) hb);have n2_:=Aside0.mk (below_step (by repeat (first|(with_reducible first|exact HB.out|apply below_alloc|apply pw_below_drewN|apply below_drew1|refine below_set ?_ GE148.out|refine below_set ?_ GE149.out)|exact HB.out)) hb);clear BK148;clear BK149;clear HB;have BK148:=n0_;have BK149:=n1_;have HB:=n2_;clear n0_ n1_ n2_;(try clear hb);(try clear hb2);(try clear hk);(try clear hi)))
    go_meet
    case rel=>exact ⟨_,(true),(by first|rfl|(simp;done)|(simp [*];done)),H',⟨by first|omega|exact Nat.le_refl _⟩,⟨by (with_reducible repeat (first|refine blk_drewN ?_ _|refine blk_drew ?_|refine blk_alloc ?_ _));exact BK148.out⟩,⟨by (with_reducible repeat (first|refine blk_drewN ?_ _|refine blk_drew ?_|refine blk_alloc ?_ _));exact BK149.out⟩,⟨by repeat (first|(with_reducible first|exact HB.out|apply below_alloc|apply pw_below_drewN|apply below_drew1|refine below_set ?_ GE148.out|refine below_set ?_ GE149.out)|exact HB.out)⟩⟩
 case rest =>
  clear HC4
  try clear c1
  try clear c2
  try clear p2
  try clear c3
  try clear p6
  try clear c8
  try clear c9
  try clear c9b0
  try clear c10
  try clear c13
  try clear c17
  try clear hcz11_0
  try clear hcz11_1
  try clear hcz14_0
  try clear hcz14_1
  try clear hcz16_0
  try clear hcz16_1
  try clear hcz18_0
  try clear hcz18_1
  try clear hfz11_0
  try clear hfz11_1
  try clear hfz14_0
  try clear hfz14_1
  try clear hfz16_0
  try clear hfz16_1
  try clear hfz18_0
  try clear hfz18_1
  obtain ⟨kq,x26_3,rfl,HA,HJ3,BK148,BK149,HB⟩:=hcut
  cases kq with
  | zero=>exact absurd HA.out (by simp [wageofficeref42_Write.j0])
  | succ kj3 =>
   have H:=HA.out
   clear HA
   simp only [wageofficeref42_Write.j0] at H
   by_cases c20:x26_3=true
   · subst c20
     have H1:(some (([]:List Int),([]:List (S45)),1))=some (r1,r2,r3):=by rw [if_pos rfl] at H;exact H
     clear H
     have H:=H1
     clear H1
     simp only [Option.some.injEq,Prod.mk.injEq] at H
     obtain ⟨rfl,rfl,rfl⟩:=H
     have hnb21:=NB149_148.out
     have hnc21:=NB148_149.out
     have hcz22_0:wc.cell? ⟨gb149,0,none⟩=some (.slice none 0 0):=(blk_cell BK149.out 0).trans rfl
     have hcz22_1:wc.cell? ⟨gb149,1,none⟩=some (.slice none 0 0):=(blk_cell BK149.out 1).trans rfl
     have hfz22_0:=blk_frozen BK149.out 0
     have hfz22_1:=blk_frozen BK149.out 1
     go_wp2
     refine bodyPost_ret (results_ct rfl _ _ gb149 25 #[.slice none 0 0,.slice none 0 0] (0,0) _ rfl (by (with_reducible repeat (first|refine blk_drewN ?_ _|refine blk_drew ?_|refine blk_alloc ?_ _));refine blk_put (cs:=#[.slice none 0 0,.slice none 0 0]) ?_ 1 _ rfl;(with_reducible repeat (first|refine blk_drewN ?_ _|refine blk_drew ?_|refine blk_alloc ?_ _));refine blk_put (cs:=#[.slice none 0 0,.slice none 0 0]) ?_ 0 _ rfl;(with_reducible repeat (first|refine blk_drewN ?_ _|refine blk_drew ?_|refine blk_alloc ?_ _));exact BK149.out) Try.underlying25 rfl (by kernel_rfl)) rfl ?_
     exact ⟨_,_,by first|rfl|(simp [errW_none,errW_some] <;> rfl)|(simp [*,errW_none,errW_some] <;> rfl),by first|exact Kd.R_nil _ _ _ _ _|exact Kd.N_nil _ _ _ _ _|exact Kd.V_nil _ _ _ _ _|exact Kd.Q_nil _ _ _ _ _|exact Kd.S_nil _ _ _ _ _,by first|exact Kd.S_nil _ _ _ _ _|exact Kd.N_nil _ _ _ _ _|exact Kd.V_nil _ _ _ _ _|exact Kd.Q_nil _ _ _ _ _|exact Kd.R_nil _ _ _ _ _,by repeat (first|(with_reducible first|exact HB.out|apply below_alloc|apply pw_below_drewN|apply below_drew1|refine below_set ?_ GE148.out|refine below_set ?_ GE149.out)|exact HB.out)⟩
   · replace c20:=Bool.eq_false_iff.mpr c20
     subst c20
     have H1:(if (l0_1.length:Int)=64 then (some (([]:List Int),([]:List (S45)),2)) else ((wageofficeref42_Copy.f kj3 l0_0).bind fun t151=>(wageofficeref42_Write.l0 kj3 a1 l2 0 l0_0 l0_1 t151 ([]:List (S45)))))=some (r1,r2,r3):=by rw [if_neg (show ¬ (false=true) by decide)] at H;exact H
     clear H
     have H:=H1
     clear H1
     by_cases c23:(l0_1.length:Int)=64
     · rw [if_pos c23] at H
       have c23b0:((l0_1.length:Int) == 64)=true:=beq_iff_eq.mpr c23
       have c23b1:((l0_1.length:Int) != 64)=false:=bne_eq_false_iff_eq.mpr c23
       clear c23
       simp only [Option.some.injEq,Prod.mk.injEq] at H
       obtain ⟨rfl,rfl,rfl⟩:=H
       have hnb24:=NB148_149.out
       have hnc24:=NB149_148.out
       have hcz25_0:wc.cell? ⟨gb148,0,none⟩=some (.slice A0_0 l0_0.length c0_0):=(blk_cell BK148.out 0).trans rfl
       have hcz25_1:wc.cell? ⟨gb148,1,none⟩=some (.slice A0_1 l0_1.length c0_1):=(blk_cell BK148.out 1).trans rfl
       have hfz25_0:=blk_frozen BK148.out 0
       have hfz25_1:=blk_frozen BK148.out 1
       have hcz26_0:wc.cell? ⟨gb149,0,none⟩=some (.slice none 0 0):=(blk_cell BK149.out 0).trans rfl
       have hcz26_1:wc.cell? ⟨gb149,1,none⟩=some (.slice none 0 0):=(blk_cell BK149.out 1).trans rfl
       have hfz26_0:=blk_frozen BK149.out 0
       have hfz26_1:=blk_frozen BK149.out 1
       go_wp2
       refine bodyPost_ret (results_ct rfl _ _ gb149 25 #[.slice none 0 0,.slice none 0 0] (0,0) _ rfl (by (with_reducible repeat (first|refine blk_drewN ?_ _|refine blk_drew ?_|refine blk_alloc ?_ _));refine blk_put (cs:=#[.slice none 0 0,.slice none 0 0]) ?_ 1 _ rfl;(with_reducible repeat (first|refine blk_drewN ?_ _|refine blk_drew ?_|refine blk_alloc ?_ _));refine blk_put (cs:=#[.slice none 0 0,.slice none 0 0]) ?_ 0 _ rfl;(with_reducible repeat (first|refine blk_drewN ?_ _|refine blk_drew ?_|refine blk_alloc ?_ _));exact BK149.out) Try.underlying25 rfl (by kernel_rfl)) rfl ?_
       exact ⟨_,_,by first|rfl|(simp [errW_none,errW_some] <;> rfl)|(simp [*,errW_none,errW_some] <;> rfl),by first|exact Kd.R_nil _ _ _ _ _|exact Kd.N_nil _ _ _ _ _|exact Kd.V_nil _ _ _ _ _|exact Kd.Q_nil _ _ _ _ _|exact Kd.S_nil _ _ _ _ _,by first|exact Kd.S_nil _ _ _ _ _|exact Kd.N_nil _ _ _ _ _|exact Kd.V_nil _ _ _ _ _|exact Kd.Q_nil _ _ _ _ _|exact Kd.R_nil _ _ _ _ _,by repeat (first|(with_reducible first|exact HB.out|apply below_alloc|apply pw_below_drewN|apply below_drew1|refine below_set ?_ GE148.out|refine below_set ?_ GE149.out)|exact HB.out)⟩
     · rw [if_neg c23] at H
       have c23b0:((l0_1.length:Int) == 64)=false:=beq_eq_false_iff_ne.mpr c23
       have c23b1:((l0_1.length:Int) != 64)=true:=bne_iff_ne.mpr c23
       replace H:=Option.bind_eq_some_iff.mp H
       obtain ⟨t151,A270,H⟩:=H
       replace H:(wageofficeref42_Write.l0 kj3 a1 l2 0 l0_0 l0_1 t151 ([]:List (S45)))=some (r1,r2,r3):=H
       have A27:=Aside0.mk A270
       clear A270
       have H':=Aside0.mk H
       clear H
       have hnb28:=NB148_149.out
       have hnc28:=NB149_148.out
       have hcz29_0:wc.cell? ⟨gb148,0,none⟩=some (.slice A0_0 l0_0.length c0_0):=(blk_cell BK148.out 0).trans rfl
       have hcz29_1:wc.cell? ⟨gb148,1,none⟩=some (.slice A0_1 l0_1.length c0_1):=(blk_cell BK148.out 1).trans rfl
       have hfz29_0:=blk_frozen BK148.out 0
       have hfz29_1:=blk_frozen BK148.out 1
       go_wp2_with (first|((with_reducible refine gate_callee (f:=46) rfl ?_);refine goesL_ (some 35) rfl rfl Try.func46 (by kernel_rfl) rfl #[.slice A0_0 l0_0.length c0_0] rfl (by (try simp only [List.map_toArray,List.map_cons,List.map_nil]);first|done|rfl|(simp only [List.length_drop,List.length_take];rfl)) ?_;(with_reducible refine (wageofficeref42_Copy.calls kj3 _ _ l0_0 t151 _ ?side1 ?side2 A27.out).mono ?_);(case side1=>repeat (first|exact (Kd.C_below HR0_0.out HB.out)|(with_reducible refine Kd.C_alloc ?_ _)|(with_reducible refine Kd.C_drewN ?_ _)|(with_reducible refine Kd.C_drew ?_)));(case side2=>exact HC0_0.out);rintro e w30 ⟨v152,rfl,ho0,hb⟩;refine ⟨_,rfl,?_⟩;have n0_:=Aside0.mk (Kd.R_lower ho0 (below_size (by repeat (first|(with_reducible first|exact HB.out|apply below_alloc|apply pw_below_drewN|apply below_drew1|refine below_set ?_ GE148.out|refine below_set ?_ GE149.out)|exact HB.out))));have n1_:=Aside0.mk (blk_below (g:=gb148) (o:=.cells #[.slice A0_0 l0_0.length c0_0,.slice A0_1 l0_1.length c0_1] 25 (0,0)) (by (with_reducible repeat (first|refine blk_drewN ?_ _|refine blk_drew ?_|refine blk_alloc ?_ _));exact BK148.out) hb);have n2_:=Aside0.mk (blk_below (g:=gb149) (o:=.cells #[.slice none 0 0,.slice none 0 0] 25 (0,0)) (by (with_reducible repeat (first|refine blk_drewN ?_ _|refine blk_drew ?_|refine blk_alloc ?_ _));exact BK149.out) hb);have n3_:=Aside0.mk (below_step (by repeat (first|(with_reducible first|exact HB.out|apply below_alloc|apply pw_below_drewN|apply below_drew1|refine below_set ?_ GE148.out|refine below_set ?_ GE149.out)|exact HB.out)) hb);clear BK148;clear BK149;clear HB;have HO153:=n0_;have BK148:=n1_;have BK149:=n2_;have HB:=n3_;clear n0_ n1_ n2_ n3_;(try clear hb);(try clear hb2);(try clear hk);(try clear hi);(try clear ho0);obtain ⟨Ao31,co31,eo31⟩:=Kd.R_slice HO153.out;subst eo31)|((with_reducible refine gate_dst (N:=8) rfl ?_);(try (refine gate_guard (by rfl) ?_;dsimp only));refine box_event ?hg (N:=8) ?hd (cs:=#[.slice none 0 0,.slice none 0 0]) (t:=25) ?hr ?_;(case hd=>rfl);(case hg=>rfl);(case hr=>first|(go_simp;done)|(go_simp;rfl));intro gb154 hg w32 hbox hb;have n0_:=Aside0.mk (Kd.R_below (by (with_reducible repeat (first|apply Kd.R_alloc|apply Kd.R_drewN|apply Kd.R_drew));exact HO153.out) hb);have n1_:=Aside0.mk (blk_below (g:=gb148) (o:=.cells #[.slice A0_0 l0_0.length c0_0,.slice A0_1 l0_1.length c0_1] 25 (0,0)) (by (with_reducible repeat (first|refine blk_drewN ?_ _|refine blk_drew ?_|refine blk_alloc ?_ _));exact BK148.out) hb);have n2_:=Aside0.mk (blk_below (g:=gb149) (o:=.cells #[.slice none 0 0,.slice none 0 0] 25 (0,0)) (by (with_reducible repeat (first|refine blk_drewN ?_ _|refine blk_drew ?_|refine blk_alloc ?_ _));exact BK149.out) hb);have n3_:=Aside0.mk (below_step (by repeat (first|(with_reducible first|exact HB.out|apply below_alloc|apply pw_below_drewN|apply below_drew1|refine below_set ?_ GE148.out|refine below_set ?_ GE149.out)|exact HB.out)) hb);have n4_:=Aside0.mk (hbox);have n5_:=Aside0.mk ((by rw [hg];exact (below_size (by repeat (first|(with_reducible first|exact HB.out|apply below_alloc|apply pw_below_drewN|apply below_drew1|refine below_set ?_ GE148.out|refine below_set ?_ GE149.out)|exact HB.out))):w.heap.size ≤ gb154));have n6_:=Aside0.mk ((by rw [hg];exact (below_size (by repeat (first|(with_reducible first|exact HB.out|apply below_alloc|apply pw_below_drewN|apply below_drew1|refine below_set ?_ GE148.out|refine below_set ?_ GE149.out)|exact HB.out))):w.heap.size ≤ gb154));have n7_:=Aside0.mk ((by rw [hg];exact Nat.ne_of_lt (blk_lt (g:=gb148) (o:=.cells #[.slice A0_0 l0_0.length c0_0,.slice A0_1 l0_1.length c0_1] 25 (0,0)) (by (with_reducible repeat (first|refine blk_drewN ?_ _|refine blk_drew ?_|refine blk_alloc ?_ _));exact BK148.out)):gb148 ≠ gb154));have n8_:=Aside0.mk ((by rw [hg];exact Nat.ne_of_gt (blk_lt (g:=gb148) (o:=.cells #[.slice A0_0 l0_0.length c0_0,.slice A0_1 l0_1.length c0_1] 25 (0,0)) (by (with_reducible repeat (first|refine blk_drewN ?_ _|refine blk_drew ?_|refine blk_alloc ?_ _));exact BK148.out)):gb154 ≠ gb148));have n9_:=Aside0.mk ((by rw [hg];exact Nat.ne_of_lt (blk_lt (g:=gb149) (o:=.cells #[.slice none 0 0,.slice none 0 0] 25 (0,0)) (by (with_reducible repeat (first|refine blk_drewN ?_ _|refine blk_drew ?_|refine blk_alloc ?_ _));exact BK149.out)):gb149 ≠ gb154));have n10_:=Aside0.mk ((by rw [hg];exact Nat.ne_of_gt (blk_lt (g:=gb149) (o:=.cells #[.slice none 0 0,.slice none 0 0] 25 (0,0)) (by (with_reducible repeat (first|refine blk_drewN ?_ _|refine blk_drew ?_|refine blk_alloc ?_ _));exact BK149.out)):gb154 ≠ gb149));clear HO153;clear BK148;clear BK149;clear HB;have HO153:=n0_;have BK148:=n1_;have BK149:=n2_;have HB:=n3_;have BK154:=n4_;have GW154:=n5_;have GE154:=n6_;have NB148_154:=n7_;have NB154_148:=n8_;have NB149_154:=n9_;have NB154_149:=n10_;clear n0_ n1_ n2_ n3_ n4_ n5_ n6_ n7_ n8_ n9_ n10_;clear hb hbox hg;have hnb33:=NB154_148.out;have hnc33:=NB148_154.out;have hnb34:=NB154_149.out;have hnc34:=NB149_154.out;have hcz35_0:w32.cell? ⟨gb154,0,none⟩=some (.slice none 0 0):=(blk_cell BK154.out 0).trans rfl;have hcz35_1:w32.cell? ⟨gb154,1,none⟩=some (.slice none 0 0):=(blk_cell BK154.out 1).trans rfl;have hfz35_0:=blk_frozen BK154.out 0;have hfz35_1:=blk_frozen BK154.out 1))
       go_loopg [9] kj3 (fun kq v9 w'=>∃ (x9_2:Int) (x155001_2:List (S45)) (u155001:Value),v9=.int .i64 x9_2∧Aside0 (wageofficeref42_Write.l0 kq a1 l2 x9_2 l0_0 l0_1 t151 x155001_2=some (r1,r2,r3))∧Aside0 (kq ≤ kj3)∧Aside0 (Kd.R (Kd.int .u8) 5 w' w.heap.size (fun _=>True) (.slice Ao31 t151.length co31) t151)∧Aside0 (Kd.S k45 45 w' w.heap.size (fun k_=>some k_ ≠ ((.slice Ao31 t151.length co31):Value).ownBlock) u155001 x155001_2)∧Aside0 (w'.heap[gb148]? = some (.cells #[(.slice A0_0 l0_0.length c0_0),(.slice A0_1 l0_1.length c0_1)] 25 (0,0)))∧Aside0 (w'.heap[gb149]? = some (.cells #[(.slice none 0 0),(.slice none 0 0)] 25 (0,0)))∧Aside0 (w'.heap[gb154]? = some (.cells #[(.slice Ao31 t151.length co31),u155001] 25 (0,0)))∧Aside0 (Below w.heap.size w w'))
       case atStart=>exact ⟨(0),(([]:List (S45))),(.slice none 0 0),(by first|rfl|(simp;done)|(simp [*];done)),H',⟨Nat.le_refl _⟩,⟨by (with_reducible repeat (first|apply Kd.R_alloc|apply Kd.R_drewN|apply Kd.R_drew));exact Kd.R_mono (Kd.R_far (p:=⟨gb154,1,none⟩) (Kd.R_far (p:=⟨gb154,0,none⟩) (Kd.R_types HO153.out BK154.out (by decide)) (fun _ hk=>hk.2) (.slice Ao31 t151.length co31)) (fun _ hk=>hk.2) (.slice none 0 0)) (fun _ hk=>trivial)⟩,⟨by first|exact Kd.S_nil _ _ _ _ _|exact Kd.N_nil _ _ _ _ _|exact Kd.V_nil _ _ _ _ _|exact Kd.Q_nil _ _ _ _ _|exact Kd.R_nil _ _ _ _ _⟩,⟨by (with_reducible repeat (first|refine blk_drewN ?_ _|refine blk_drew ?_|refine blk_alloc ?_ _));refine blk_far ?_ NB148_154.out _;(with_reducible repeat (first|refine blk_drewN ?_ _|refine blk_drew ?_|refine blk_alloc ?_ _));refine blk_far ?_ NB148_154.out _;(with_reducible repeat (first|refine blk_drewN ?_ _|refine blk_drew ?_|refine blk_alloc ?_ _));exact BK148.out⟩,⟨by (with_reducible repeat (first|refine blk_drewN ?_ _|refine blk_drew ?_|refine blk_alloc ?_ _));refine blk_far ?_ NB149_154.out _;(with_reducible repeat (first|refine blk_drewN ?_ _|refine blk_drew ?_|refine blk_alloc ?_ _));refine blk_far ?_ NB149_154.out _;(with_reducible repeat (first|refine blk_drewN ?_ _|refine blk_drew ?_|refine blk_alloc ?_ _));exact BK149.out⟩,⟨by (with_reducible repeat (first|refine blk_drewN ?_ _|refine blk_drew ?_|refine blk_alloc ?_ _));refine blk_put (cs:=#[.slice Ao31 t151.length co31,.slice none 0 0]) ?_ 1 _ rfl;(with_reducible repeat (first|refine blk_drewN ?_ _|refine blk_drew ?_|refine blk_alloc ?_ _));refine blk_put (cs:=#[.slice none 0 0,.slice none 0 0]) ?_ 0 _ rfl;(with_reducible repeat (first|refine blk_drewN ?_ _|refine blk_drew ?_|refine blk_alloc ?_ _));exact BK154.out⟩,⟨by repeat (first|(with_reducible first|exact HB.out|apply below_alloc|apply pw_below_drewN|apply below_drew1|refine below_set ?_ GE148.out|refine below_set ?_ GE149.out|refine below_set ?_ GE154.out)|exact HB.out)⟩⟩
       case round =>
        clear H'
        try clear c1
        try clear c2
        try clear p2
        try clear c3
        try clear c4
        try clear p6
        try clear c8
        try clear c9
        try clear c9b0
        try clear c10
        try clear c13
        try clear c17
        try clear c20
        try clear c21
        try clear c22
        try clear c23
        try clear c23b0
        try clear c23b1
        try clear c24
        try clear c28
        try clear c31
        try clear c33
        try clear c34
        try clear hcz11_0
        try clear hcz11_1
        try clear hcz14_0
        try clear hcz14_1
        try clear hcz16_0
        try clear hcz16_1
        try clear hcz18_0
        try clear hcz18_1
        try clear hcz22_0
        try clear hcz22_1
        try clear hcz25_0
        try clear hcz25_1
        try clear hcz26_0
        try clear hcz26_1
        try clear hcz29_0
        try clear hcz29_1
        try clear hcz35_0
        try clear hcz35_1
        try clear hfz11_0
        try clear hfz11_1
        try clear hfz14_0
        try clear hfz14_1
        try clear hfz16_0
        try clear hfz16_1
        try clear hfz18_0
        try clear hfz18_1
        try clear hfz22_0
        try clear hfz22_1
        try clear hfz25_0
        try clear hfz25_1
        try clear hfz26_0
        try clear hfz26_1
        try clear hfz29_0
        try clear hfz29_1
        try clear hfz35_0
        try clear hfz35_1
        try clear p2
        try clear p6
        obtain ⟨x9_2,x155001_2,u155001,rfl,HA,HK2,HO_155000,HO_155001,BK148,BK149,BK154,HB⟩:=hrel
        cases gk with
        | zero=>exact absurd HA.out (by simp [wageofficeref42_Write.l0])
        | succ k2 =>
         have H:=HA.out
         clear HA
         simp only [wageofficeref42_Write.l0] at H
         by_cases c36:x9_2 < (l0_1.length:Int)
         · rw [if_pos c36] at H
           have c36b0:decide (x9_2 < (l0_1.length:Int))=true:=decide_eq_true c36
           clear c36
           by_cases c37:0 ≤ x9_2
           · rw [if_pos c37] at H
             have c37b0:decide (0 ≤ x9_2)=true:=decide_eq_true c37
             clear c37
             replace H:=Option.bind_eq_some_iff.mp H
             obtain ⟨t157,A380,H⟩:=H
             replace H:(if x155001_2.length < 4398046511104 then (wageofficeref42_Write.l0 k2 a1 l2 (wrap64 (x9_2 + 1)) l0_0 l0_1 t151 (x155001_2 ++ [(⟨(rd_T45 l0_1 x9_2).f0,t157⟩:S45)])) else (none))=some (r1,r2,r3):=H
             have A38:=Aside0.mk A380
             clear A380
             by_cases c39:x155001_2.length < 4398046511104
             · rw [if_pos c39] at H
               have LMc39:=Aside0.mk c39
               clear c39
               obtain ⟨y160,hy160⟩:∃ y_:List (S45),y_=(x155001_2 ++ [(⟨(rd_T45 l0_1 x9_2).f0,t157⟩:S45)]):=⟨_,rfl⟩
               replace H:(wageofficeref42_Write.l0 k2 a1 l2 (wrap64 (x9_2 + 1)) l0_0 l0_1 t151 y160)=some (r1,r2,r3):=by first|(rw [hy160];with_reducible exact H)|(have H2_:=(Option.bind_some _ _).symm.trans H;rw [hy160];with_reducible exact H2_)|(have H2_:=(Option.bind_some _ _).symm.trans H;with_reducible exact H2_)|with_reducible exact H|(rw [hy160];exact H)|exact H
               have Ny160:=Aside0.mk hy160
               clear hy160
               have H':=Aside0.mk H
               clear H
               have hnb40:=NB148_149.out
               have hnc40:=NB149_148.out
               have hnb41:=NB148_154.out
               have hnc41:=NB154_148.out
               have hcz42_0:wr.cell? ⟨gb148,0,none⟩=some (.slice A0_0 l0_0.length c0_0):=(blk_cell BK148.out 0).trans rfl
               have hcz42_1:wr.cell? ⟨gb148,1,none⟩=some (.slice A0_1 l0_1.length c0_1):=(blk_cell BK148.out 1).trans rfl
               have hfz42_0:=blk_frozen BK148.out 0
               have hfz42_1:=blk_frozen BK148.out 1
               try go_wp2
               have n0_:=Aside0.mk (Kd.R_drew HO_155000.out)
               have n1_:=Aside0.mk (Kd.S_drew HO_155001.out)
               have n2_:=Aside0.mk (blk_drew BK148.out)
               have n3_:=Aside0.mk (blk_drew BK149.out)
               have n4_:=Aside0.mk (blk_drew BK154.out)
               have n5_:=Aside0.mk (below_drew1 HB.out)
               clear HO_155000
               clear HO_155001
               clear BK148
               clear BK149
               clear BK154
               clear HB
               have HO_155000:=n0_
               have HO_155001:=n1_
               have BK148:=n2_
               have BK149:=n3_
               have BK154:=n4_
               have HB:=n5_
               clear n0_ n1_ n2_ n3_ n4_ n5_
               have p155:0 ≤ (x9_2:Int):=of_decide_eq_true (by first|(with_reducible assumption)|assumption)
               have q155:x9_2 < (l0_1.length:Int):=of_decide_eq_true (by first|(with_reducible assumption)|assumption)
               obtain ⟨ad155,A155_1,c155_1,e155,hx155_0,hx155_1,hl155_1,hi155_1⟩:=at_T45 HR0_1.out x9_2 p155 q155
               have hw155_1:=hx155_1
               have hw155_0:=hx155_0
               cases e155
               replace hx155_0:=(HB.out.cell (World.block_lt_of_cell? w _ hx155_0)).trans hx155_0
               replace hx155_1:=(HB.out.cell (World.block_lt_of_cell? w _ hx155_1)).trans hx155_1
               have HR155_1:=Aside0.mk hi155_1
               have HC155_1:=Aside0.mk hl155_1
               clear hi155_1 hl155_1
               replace p155:=eq_true p155
               replace q155:=eq_true q155
               have p156:0 ≤ (x9_2:Int):=of_decide_eq_true (by first|(with_reducible assumption)|assumption)
               have q156:x9_2 < (l0_1.length:Int):=of_decide_eq_true (by first|(with_reducible assumption)|assumption)
               obtain ⟨ad156,A156_1,c156_1,e156,hx156_0,hx156_1,hl156_1,hi156_1⟩:=at_T45 HR0_1.out x9_2 p156 q156
               have hw156_1:=hx156_1
               have hw156_0:=hx156_0
               obtain rfl:ad155=ad156:=(by injection e156)
               replace hx156_0:=(HB.out.cell (World.block_lt_of_cell? w _ hx156_0)).trans hx156_0
               replace hx156_1:=(HB.out.cell (World.block_lt_of_cell? w _ hx156_1)).trans hx156_1
               have HR156_1:=Aside0.mk hi156_1
               have HC156_1:=Aside0.mk hl156_1
               clear hi156_1 hl156_1
               replace p156:=eq_true p156
               replace q156:=eq_true q156
               have ea_:=Option.some.inj (hx155_1.symm.trans hx156_1)
               injection ea_ with ea_ en_ ec_
               subst ea_
               subst ec_
               clear en_
               refine start_ (n:=20) (S:=fun w'=>w'.cell? ⟨gb154,0,none⟩=some (.slice Ao31 t151.length co31)∧w'.cell? ⟨gb154,1,none⟩=some (u155001)∧w'.cell? ⟨gb148,0,none⟩=some (.slice A0_0 l0_0.length c0_0)∧w'.cell? ⟨gb148,1,none⟩=some (.slice (some ad155) l0_1.length c0_1)∧w'.cell? (ad155.add ((x9_2).toNat * 2))=some (.int .i64 ((rd_T45 l0_1 x9_2).f0))∧w'.cell? ⟨(ad155.add ((x9_2).toNat * 2)).block,(ad155.add ((x9_2).toNat * 2)).off + 1,none⟩=some (.slice A155_1 ((rd_T45 l0_1 x9_2).f1).length c155_1)∧w'.cell? (ad155.add ((x9_2).toNat * 2))=some (.int .i64 ((rd_T45 l0_1 x9_2).f0))∧w'.cell? ⟨(ad155.add ((x9_2).toNat * 2)).block,(ad155.add ((x9_2).toNat * 2)).off + 1,none⟩=some (.slice A155_1 ((rd_T45 l0_1 x9_2).f1).length c155_1)) (ds:=[19]) #[false,false,false,false,false,false,false,false,false,false,false,false,false,false,false,false,false,false,false,false] (by kernel_rfl) rfl rfl ⟨(blk_cell BK154.out 0).trans rfl,(blk_cell BK154.out 1).trans rfl,(blk_cell BK148.out 0).trans rfl,(blk_cell BK148.out 1).trans rfl,((HB.out.cell (World.block_lt_of_cell? w _ hw155_0)).trans hw155_0),((HB.out.cell (World.block_lt_of_cell? w _ hw155_1)).trans hw155_1),((HB.out.cell (World.block_lt_of_cell? w _ hw156_0)).trans hw156_0),((HB.out.cell (World.block_lt_of_cell? w _ hw156_1)).trans hw156_1)⟩ (fun hHeld => ?_);refine with_tabW wageofficeref42_Write.tab9 wageofficeref42_Write.bits9 (fun HT_ HW_ => ?_)
               generalize wr.drew=w43 at HO_155000 HO_155001 BK148 BK149 BK154 HB HR155_1 HR156_1 hx155_0 hx155_1 hx156_0 hx156_1 hHeld ⊢
               refine pure_ (i:=0) (N:=some 44) (v:=?_) (a':=?_) #[true,false,false,false,false,false,false,false,false,false,false,false,false,false,false,false,false,false,false,false] rfl rfl (any_of HT_.out (by kernel_rfl)) (fun _ _ _ h=>h) (Or.inl ⟨by rfl,?_⟩) ?_ ?_
               rotate_left
               · intro w'
                 go_simp
                 with_reducible rfl
               rotate_left
               · simp only [Act.put,List.setIfInBounds_toArray,List.set_cons_zero,List.set_cons_succ,i64_w,i32_w]
                 rfl
               refine pure_ (i:=2) (N:=some 46) (v:=?_) (a':=?_) #[true,false,true,false,false,false,false,false,false,false,false,false,false,false,false,false,false,false,false,false] rfl rfl (any_of HT_.out (by kernel_rfl)) (fun _ _ _ h=>h) (Or.inl ⟨by rfl,?_⟩) ?_ ?_
               rotate_left
               · intro w'
                 go_simp
                 with_reducible rfl
               rotate_left
               · simp only [Act.put,List.setIfInBounds_toArray,List.set_cons_zero,List.set_cons_succ,i64_w,i32_w]
                 rfl
               refine pure_ (i:=4) (N:=some 48) (v:=?_) (a':=?_) #[true,false,true,false,true,false,false,false,false,false,false,false,false,false,false,false,false,false,false,false] rfl rfl (any_of HT_.out (by kernel_rfl)) (fun _ _ _ h=>h) (Or.inl ⟨by rfl,?_⟩) ?_ ?_
               rotate_left
               · intro w'
                 go_simp
                 with_reducible rfl
               rotate_left
               · simp only [Act.put,List.setIfInBounds_toArray,List.set_cons_zero,List.set_cons_succ,i64_w,i32_w]
                 rfl
               refine pure_ (i:=8) (N:=some 52) (v:=?_) (a':=?_) #[true,false,true,false,true,false,false,false,true,false,false,false,false,false,false,false,false,false,false,false] rfl rfl (any_of HT_.out (by kernel_rfl)) (fun _ _ _ h=>h) (Or.inl ⟨by rfl,?_⟩) ?_ ?_
               rotate_left
               · intro w'
                 go_simp
                 with_reducible rfl
               rotate_left
               · simp only [Act.put,List.setIfInBounds_toArray,List.set_cons_zero,List.set_cons_succ,i64_w,i32_w]
                 rfl
               refine pure_ (i:=10) (N:=some 54) (v:=?_) (a':=?_) #[true,false,true,false,true,false,false,false,true,false,true,false,false,false,false,false,false,false,false,false] rfl rfl (any_of HT_.out (by kernel_rfl)) (fun _ _ _ h=>h) (Or.inl ⟨by rfl,?_⟩) ?_ ?_
               rotate_left
               · intro w'
                 go_simp
                 with_reducible rfl
               rotate_left
               · simp only [Act.put,List.setIfInBounds_toArray,List.set_cons_zero,List.set_cons_succ,i64_w,i32_w]
                 rfl
               refine take_ (i:=1) (N:=some 45) (v:=?_) (a':=?_) #[true,true,true,false,true,false,false,false,true,false,true,false,false,false,false,false,false,false,false,false] rfl rfl (take_ofW HT_.out HW_.out (by kernel_rfl)) (fun _ _ _ h=>h) (Or.inl ⟨by rfl,?_⟩) hHeld ?_ ?_
               rotate_left
               · rintro w' ⟨s0,s1,s2,s3,s4,s5,s6,s7⟩
                 go_simp
                 with_reducible rfl
               rotate_left
               · simp only [Act.put,List.setIfInBounds_toArray,List.set_cons_zero,List.set_cons_succ,i64_w,i32_w]
                 rfl
               refine take_ (i:=3) (N:=some 47) (v:=?_) (a':=?_) #[true,true,true,true,true,false,false,false,true,false,true,false,false,false,false,false,false,false,false,false] rfl rfl (take_ofW HT_.out HW_.out (by kernel_rfl)) (fun _ _ _ h=>h) (Or.inl ⟨by rfl,?_⟩) hHeld ?_ ?_
               rotate_left
               · rintro w' ⟨s0,s1,s2,s3,s4,s5,s6,s7⟩
                 go_simp
                 with_reducible rfl
               rotate_left
               · simp only [Act.put,List.setIfInBounds_toArray,List.set_cons_zero,List.set_cons_succ,i64_w,i32_w]
                 rfl
               refine pure_ (i:=5) (N:=some 49) (v:=?_) (a':=?_) #[true,true,true,true,true,true,false,false,true,false,true,false,false,false,false,false,false,false,false,false] rfl rfl (any_of HT_.out (by kernel_rfl)) (fun _ _ _ h=>h) (Or.inl ⟨by rfl,?_⟩) ?_ ?_
               rotate_left
               · intro w'
                 go_simp
                 with_reducible rfl
               rotate_left
               · simp only [Act.put,List.setIfInBounds_toArray,List.set_cons_zero,List.set_cons_succ,i64_w,i32_w]
                 rfl
               refine pure_ (i:=6) (N:=some 50) (v:=?_) (a':=?_) #[true,true,true,true,true,true,true,false,true,false,true,false,false,false,false,false,false,false,false,false] rfl rfl (any_of HT_.out (by kernel_rfl)) (fun _ _ _ h=>h) (Or.inl ⟨by rfl,?_⟩) ?_ ?_
               rotate_left
               · intro w'
                 go_simp
                 with_reducible rfl
               rotate_left
               · simp only [Act.put,List.setIfInBounds_toArray,List.set_cons_zero,List.set_cons_succ,i64_w,i32_w]
                 rfl
               refine take_ (i:=7) (N:=some 51) (v:=?_) (a':=?_) #[true,true,true,true,true,true,true,true,true,false,true,false,false,false,false,false,false,false,false,false] rfl rfl (take_ofW HT_.out HW_.out (by kernel_rfl)) (fun _ _ _ h=>h) (Or.inl ⟨by rfl,?_⟩) hHeld ?_ ?_
               rotate_left
               · rintro w' ⟨s0,s1,s2,s3,s4,s5,s6,s7⟩
                 go_simp
                 with_reducible rfl
               rotate_left
               · simp only [Act.put,List.setIfInBounds_toArray,List.set_cons_zero,List.set_cons_succ,i64_w,i32_w]
                 rfl
               refine take_ (i:=9) (N:=some 53) (v:=?_) (a':=?_) #[true,true,true,true,true,true,true,true,true,true,true,false,false,false,false,false,false,false,false,false] rfl rfl (take_ofW HT_.out HW_.out (by kernel_rfl)) (fun _ _ _ h=>h) (Or.inl ⟨by rfl,?_⟩) hHeld ?_ ?_
               rotate_left
               · rintro w' ⟨s0,s1,s2,s3,s4,s5,s6,s7⟩
                 go_simp
                 with_reducible rfl
               rotate_left
               · simp only [Act.put,List.setIfInBounds_toArray,List.set_cons_zero,List.set_cons_succ,i64_w,i32_w]
                 rfl
               refine pure_ (i:=11) (N:=some 55) (v:=?_) (a':=?_) #[true,true,true,true,true,true,true,true,true,true,true,true,false,false,false,false,false,false,false,false] rfl rfl (any_of HT_.out (by kernel_rfl)) (fun _ _ _ h=>h) (Or.inl ⟨by rfl,?_⟩) ?_ ?_
               rotate_left
               · intro w'
                 go_simp
                 with_reducible rfl
               rotate_left
               · simp only [Act.put,List.setIfInBounds_toArray,List.set_cons_zero,List.set_cons_succ,i64_w,i32_w]
                 rfl
               refine pure_ (i:=12) (N:=some 56) (v:=?_) (a':=?_) #[true,true,true,true,true,true,true,true,true,true,true,true,true,false,false,false,false,false,false,false] rfl rfl (any_of HT_.out (by kernel_rfl)) (fun _ _ _ h=>h) (Or.inl ⟨by rfl,?_⟩) ?_ ?_
               rotate_left
               · intro w'
                 go_simp
                 with_reducible rfl
               rotate_left
               · simp only [Act.put,List.setIfInBounds_toArray,List.set_cons_zero,List.set_cons_succ,i64_w,i32_w]
                 rfl
               refine take_ (i:=13) (N:=some 57) (v:=?_) (a':=?_) #[true,true,true,true,true,true,true,true,true,true,true,true,true,true,false,false,false,false,false,false] rfl rfl (take_ofW HT_.out HW_.out (by kernel_rfl)) (fun _ _ _ h=>h) (Or.inl ⟨by rfl,?_⟩) hHeld ?_ ?_
               rotate_left
               · rintro w' ⟨s0,s1,s2,s3,s4,s5,s6,s7⟩
                 go_simp
                 with_reducible rfl
               rotate_left
               · simp only [Act.put,List.setIfInBounds_toArray,List.set_cons_zero,List.set_cons_succ,i64_w,i32_w]
                 rfl
               refine one_ (i:=14) (N:=some 58) #[true,true,true,true,true,true,true,true,true,true,true,true,true,true,true,false,false,false,false,false] rfl rfl (one_of HT_.out (by kernel_rfl)) (by decide) (fun K hK => ?_)
               refine goes_ Try.func46 (by kernel_rfl) rfl #[.slice A155_1 ((rd_T45 l0_1 x9_2).f1).length c155_1] (by rfl) rfl rfl (by (try simp only [List.map_toArray,List.map_cons,List.map_nil]);first|done|rfl|(simp only [List.length_drop,List.length_take];rfl)) ?_
               with_reducible refine (wageofficeref42_Copy.calls k2 _ _ ((rd_T45 l0_1 x9_2).f1) t157 _ ?side1 ?side2 A38.out).mono ?_
               (case side1=>repeat (first|exact (Kd.C_below HR156_1.out HB.out)|(with_reducible refine Kd.C_alloc ?_ _)|(with_reducible refine Kd.C_drewN ?_ _)|(with_reducible refine Kd.C_drew ?_)))
               (case side2=>exact HC156_1.out)
               rintro e w44 ⟨v158,rfl,ho0,hb⟩
               refine ⟨_,rfl,?_⟩
               have n0_:=Aside0.mk (Kd.R_elder' (by (with_reducible repeat (first|apply Kd.R_alloc|apply Kd.R_drewN|apply Kd.R_drew));exact HO_155000.out) (Kd.R_base ho0) hb)
               have n1_:=Aside0.mk (Kd.S_elder' (by (with_reducible repeat (first|apply Kd.S_alloc|apply Kd.S_drewN|apply Kd.S_drew));exact HO_155001.out) (Kd.R_base ho0) hb)
               have n2_:=Aside0.mk (Kd.R_lower (Kd.R_new' ho0 (Kd.R_lt (by (with_reducible repeat (first|apply Kd.R_alloc|apply Kd.R_drewN|apply Kd.R_drew));exact HO_155000.out))) (below_size (by repeat (first|(with_reducible first|exact HB.out|apply below_alloc|apply pw_below_drewN|apply below_drew1|refine below_set ?_ GE148.out|refine below_set ?_ GE149.out|refine below_set ?_ GE154.out)|exact HB.out))))
               have n3_:=Aside0.mk (blk_below (g:=gb148) (o:=.cells #[.slice A0_0 l0_0.length c0_0,.slice (some ad155) l0_1.length c0_1] 25 (0,0)) (by (with_reducible repeat (first|refine blk_drewN ?_ _|refine blk_drew ?_|refine blk_alloc ?_ _));exact BK148.out) hb)
               have n4_:=Aside0.mk (blk_below (g:=gb149) (o:=.cells #[.slice none 0 0,.slice none 0 0] 25 (0,0)) (by (with_reducible repeat (first|refine blk_drewN ?_ _|refine blk_drew ?_|refine blk_alloc ?_ _));exact BK149.out) hb)
               have n5_:=Aside0.mk (blk_below (g:=gb154) (o:=.cells #[.slice Ao31 t151.length co31,u155001] 25 (0,0)) (by (with_reducible repeat (first|refine blk_drewN ?_ _|refine blk_drew ?_|refine blk_alloc ?_ _));exact BK154.out) hb)
               have n6_:=Aside0.mk (below_step (by repeat (first|(with_reducible first|exact HB.out|apply below_alloc|apply pw_below_drewN|apply below_drew1|refine below_set ?_ GE148.out|refine below_set ?_ GE149.out|refine below_set ?_ GE154.out)|exact HB.out)) hb)
               clear HO_155000
               clear HO_155001
               clear BK148
               clear BK149
               clear BK154
               clear HB
               have HO_155000:=n0_
               have HO_155001:=n1_
               have HO159:=n2_
               have BK148:=n3_
               have BK149:=n4_
               have BK154:=n5_
               have HB:=n6_
               clear n0_ n1_ n2_ n3_ n4_ n5_ n6_
               (try clear hb)
               (try clear hb2)
               (try clear hk)
               (try clear hi)
               (try clear ho0)
               obtain ⟨Ao45,co45,eo45⟩:=Kd.R_slice HO159.out
               (first|subst eo45|(injection eo45 with f1_ f2_ f3_;have f4_:=f1_.symm;have f5_:=f3_.symm;clear f1_ f2_ f3_;subst f4_;subst f5_))
               refine hK.out _ _ ⟨(blk_cell BK154.out 0).trans rfl,(blk_cell BK154.out 1).trans rfl,(blk_cell BK148.out 0).trans rfl,(blk_cell BK148.out 1).trans rfl,((HB.out.cell (World.block_lt_of_cell? w _ hw155_0)).trans hw155_0),((HB.out.cell (World.block_lt_of_cell? w _ hw155_1)).trans hw155_1),((HB.out.cell (World.block_lt_of_cell? w _ hw156_0)).trans hw156_0),((HB.out.cell (World.block_lt_of_cell? w _ hw156_1)).trans hw156_1)⟩ (fun hHeld => ?_)
               clear hK K
               refine norm_ (a':=?_) ?_ ?_
               rotate_left
               · show Act.put _ (some 58) _=_
                 simp only [Act.put,List.setIfInBounds_toArray,List.set_cons_zero,List.set_cons_succ,i64_w,i32_w]
                 rfl
               refine pure_ (i:=15) (N:=some 59) (v:=?_) (a':=?_) #[true,true,true,true,true,true,true,true,true,true,true,true,true,true,true,true,false,false,false,false] rfl rfl (any_of HT_.out (by kernel_rfl)) (fun _ _ _ h=>h) (Or.inl ⟨by rfl,?_⟩) ?_ ?_
               rotate_left
               · intro w'
                 go_simp
                 with_reducible rfl
               rotate_left
               · simp only [Act.put,List.setIfInBounds_toArray,List.set_cons_zero,List.set_cons_succ,i64_w,i32_w]
                 rfl
               refine one_ (i:=16) (N:=some 60) #[true,true,true,true,true,true,true,true,true,true,true,true,true,true,true,true,true,false,false,false] rfl rfl (one_of HT_.out (by kernel_rfl)) (by decide) (fun K hK => ?_)
               refine value_ (w1:=?_) (v:=?_) (by rfl) rfl ?_ ?_
               rotate_left 2
               · go_simp
                 constructor
                 · rfl
                 · rfl
               refine hK.out _ _ ⟨(blk_cell (blk_alloc BK154.out _) 0).trans rfl,(blk_cell (blk_alloc BK154.out _) 1).trans rfl,(blk_cell (blk_alloc BK148.out _) 0).trans rfl,(blk_cell (blk_alloc BK148.out _) 1).trans rfl,(World.cell?_alloc_lt _ _ _ (World.block_lt_of_cell? _ _ (((HB.out.cell (World.block_lt_of_cell? w _ hw155_0)).trans hw155_0)))).trans (((HB.out.cell (World.block_lt_of_cell? w _ hw155_0)).trans hw155_0)),(World.cell?_alloc_lt _ _ _ (World.block_lt_of_cell? _ _ (((HB.out.cell (World.block_lt_of_cell? w _ hw155_1)).trans hw155_1)))).trans (((HB.out.cell (World.block_lt_of_cell? w _ hw155_1)).trans hw155_1)),(World.cell?_alloc_lt _ _ _ (World.block_lt_of_cell? _ _ (((HB.out.cell (World.block_lt_of_cell? w _ hw156_0)).trans hw156_0)))).trans (((HB.out.cell (World.block_lt_of_cell? w _ hw156_0)).trans hw156_0)),(World.cell?_alloc_lt _ _ _ (World.block_lt_of_cell? _ _ (((HB.out.cell (World.block_lt_of_cell? w _ hw156_1)).trans hw156_1)))).trans (((HB.out.cell (World.block_lt_of_cell? w _ hw156_1)).trans hw156_1))⟩ (fun hHeld => ?_)
               clear hK K
               refine norm_ (a':=?_) ?_ ?_
               rotate_left
               · show Act.put _ (some 60) _=_
                 simp only [Act.put,List.setIfInBounds_toArray,List.set_cons_zero,List.set_cons_succ,i64_w,i32_w]
                 rfl
               refine one_ (i:=17) (N:=some 61) #[true,true,true,true,true,true,true,true,true,true,true,true,true,true,true,true,true,true,false,false] rfl rfl (one_of HT_.out (by kernel_rfl)) (by decide) (fun K hK => ?_)
               refine Kd.S_append_step k45 (w0:=w) w.heap.size (by rfl) (.tmp 45) (.tmp 60) 23 45 (.agg #[(.int .i64 0),(.slice none 0 0)]) 32 rfl Try.underlying23 info45 rfl (by decide) (by omega) u155001 x155001_2 (⟨(rd_T45 l0_1 x9_2).f0,t157⟩:S45) [.int .i64 ((rd_T45 l0_1 x9_2).f0),.slice Ao45 t157.length co45] (fun k_=>some k_ ≠ (.slice Ao31 t151.length co31:Value).ownBlock) (fun k_=>some k_=(.slice Ao45 t157.length co45:Value).ownBlock) rfl rfl ?aP (fun k_ hk_=>((Kd.R_mono (ok':=fun k_=>((fun k_=>some k_ ≠ (.slice Ao31 t151.length co31:Value).ownBlock)) k_∧some k_ ≠ (u155001:Value).ownBlock) (Kd.R_apart' (HO159.out) (Kd.S_typed HO_155001.out) (by decide)) (fun k_ hk=>⟨hk.1.2,hk.2⟩))).1 k_ hk_.symm) ?aF ?aO ?aB ?aS ?aL ?_
               (case aP=>exact k45_mkM _ _ _ (⟨(rd_T45 l0_1 x9_2).f0,t157⟩:S45) (Kd.R_mono (Kd.R_tight rfl (Kd.R_mono (ok':=fun k_=>((fun k_=>some k_ ≠ (.slice Ao31 t151.length co31:Value).ownBlock)) k_∧some k_ ≠ (u155001:Value).ownBlock) (Kd.R_apart' (HO159.out) (Kd.S_typed HO_155001.out) (by decide)) (fun k_ hk=>⟨hk.1.2,hk.2⟩))) (fun _ h_=>h_)))
               (case aB=>exact (by repeat (first|(with_reducible first|exact HB.out|apply below_alloc|apply pw_below_drewN|apply below_drew1|refine below_set ?_ GE148.out|refine below_set ?_ GE149.out|refine below_set ?_ GE154.out)|exact HB.out)))
               (case aF=>exact (fun k_ hk=>Kd.fresh' (Kd.R_lt (by (with_reducible repeat (first|apply Kd.R_alloc|apply Kd.R_drewN|apply Kd.R_drew));exact HO_155000.out)) k_ hk))
               (case aO=>exact (by (with_reducible repeat (first|apply Kd.S_alloc|apply Kd.S_drewN|apply Kd.S_drew));exact Kd.S_mono HO_155001.out (fun k_ hk=>⟨hk.1,fun e_=>hk.2 e_⟩)))
               (case aS=>exact (below_size (by repeat (first|(with_reducible first|exact HB.out|apply below_alloc|apply pw_below_drewN|apply below_drew1|refine below_set ?_ GE148.out|refine below_set ?_ GE149.out|refine below_set ?_ GE154.out)|exact HB.out))))
               (case aL=>have:=LMc39.out;omega)
               intro v161 w46 ho hb hg hat
               rw [← Ny160.out] at ho
               have n0_:=Aside0.mk (Kd.R_over' (by (with_reducible repeat (first|apply Kd.R_alloc|apply Kd.R_drewN|apply Kd.R_drew));exact HO_155000.out) (Kd.S_typed (by (with_reducible repeat (first|apply Kd.S_alloc|apply Kd.S_drewN|apply Kd.S_drew));exact HO_155001.out)) (by decide) hg)
               have n1_:=Aside0.mk (blk_grown (g:=gb148) (o:=.cells #[.slice A0_0 l0_0.length c0_0,.slice (some ad155) l0_1.length c0_1] 25 (0,0)) (by (with_reducible repeat (first|refine blk_drewN ?_ _|refine blk_drew ?_|refine blk_alloc ?_ _));exact BK148.out) hg (Kd.S_ne HO_155001.out BK148.out (by decide)))
               have n2_:=Aside0.mk (blk_grown (g:=gb149) (o:=.cells #[.slice none 0 0,.slice none 0 0] 25 (0,0)) (by (with_reducible repeat (first|refine blk_drewN ?_ _|refine blk_drew ?_|refine blk_alloc ?_ _));exact BK149.out) hg (Kd.S_ne HO_155001.out BK149.out (by decide)))
               have n3_:=Aside0.mk (blk_grown (g:=gb154) (o:=.cells #[.slice Ao31 t151.length co31,u155001] 25 (0,0)) (by (with_reducible repeat (first|refine blk_drewN ?_ _|refine blk_drew ?_|refine blk_alloc ?_ _));exact BK154.out) hg (Kd.S_ne HO_155001.out BK154.out (by decide)))
               have n4_:=Aside0.mk (hb)
               have n5_:=Aside0.mk (ho)
               clear HO_155000
               clear BK148
               clear BK149
               clear BK154
               clear HB
               clear HO_155001
               clear HO159
               have HO_155000:=n0_
               have BK148:=n1_
               have BK149:=n2_
               have BK154:=n3_
               have HB:=n4_
               have HO162:=n5_
               clear n0_ n1_ n2_ n3_ n4_ n5_
               clear ho hb hg hat
               obtain ⟨Ao47,co47,eo47⟩:=Kd.S_slice HO162.out
               (first|subst eo47|(injection eo47 with f1_ f2_ f3_;have f4_:=f1_.symm;have f5_:=f3_.symm;clear f1_ f2_ f3_;subst f4_;subst f5_))
               refine hK.out _ _ ⟨(blk_cell BK154.out 0).trans rfl,(blk_cell BK154.out 1).trans rfl,(blk_cell BK148.out 0).trans rfl,(blk_cell BK148.out 1).trans rfl,((HB.out.cell (World.block_lt_of_cell? w _ hw155_0)).trans hw155_0),((HB.out.cell (World.block_lt_of_cell? w _ hw155_1)).trans hw155_1),((HB.out.cell (World.block_lt_of_cell? w _ hw156_0)).trans hw156_0),((HB.out.cell (World.block_lt_of_cell? w _ hw156_1)).trans hw156_1)⟩ (fun hHeld => ?_)
               clear hK K
               refine norm_ (a':=?_) ?_ ?_
               rotate_left
               · show Act.put _ (some 61) _=_
                 simp only [Act.put,List.setIfInBounds_toArray,List.set_cons_zero,List.set_cons_succ,i64_w,i32_w]
                 rfl
               refine pure_ (i:=18) (N:=some 62) (v:=?_) (a':=?_) #[true,true,true,true,true,true,true,true,true,true,true,true,true,true,true,true,true,true,true,false] rfl rfl (any_of HT_.out (by kernel_rfl)) (fun _ _ _ h=>h) (Or.inl ⟨by rfl,?_⟩) ?_ ?_
               rotate_left
               · intro w'
                 go_simp
                 with_reducible rfl
               rotate_left
               · simp only [Act.put,List.setIfInBounds_toArray,List.set_cons_zero,List.set_cons_succ,i64_w,i32_w]
                 rfl
               refine last_ (i:=19) (N:=none) #[true,true,true,true,true,true,true,true,true,true,true,true,true,true,true,true,true,true,true,true] rfl rfl (one_of HT_.out (by kernel_rfl)) (by decide) (fun K hK => ?_)
               have hs48:w46.cell? ⟨gb154,1,none⟩=some (u155001):=(blk_cell BK154.out 1).trans rfl
               have hfs48:=blk_frozen BK154.out 1
               have hns48_0:=NB148_154.out
               have hns48_1:=NB149_154.out
               have hms48_0:=NB154_148.out
               have hms48_1:=NB154_149.out
               refine skip_ (w1:=?_) (by rfl) rfl ?_ ?_
               rotate_left
               · go_simp
                 rfl
               refine hK.out _ _ ?_
               clear hK K
               refine done_ (done_of HT_.out (by kernel_rfl)) ?_
               try go_wp2
               go_roundg k2
               case measure=>have:=HJ3.out;have:=HK2.out;omega
               case rel=>exact ⟨(wrap64 (x9_2 + 1)),(y160),(.slice Ao47 y160.length co47),(by first|rfl|(simp;done)|(simp [*];done)),H',⟨by have:=HJ3.out;have:=HK2.out;omega⟩,⟨by (with_reducible repeat (first|apply Kd.R_alloc|apply Kd.R_drewN|apply Kd.R_drew));exact Kd.R_mono (Kd.R_far (p:=⟨gb154,1,none⟩) (Kd.R_types HO_155000.out BK154.out (by decide)) (fun _ hk=>hk.2) (.slice Ao47 y160.length co47)) (fun _ hk=>trivial)⟩,⟨by (with_reducible repeat (first|apply Kd.S_alloc|apply Kd.S_drewN|apply Kd.S_drew));exact Kd.S_mono (Kd.S_far (p:=⟨gb154,1,none⟩) (Kd.S_types HO162.out BK154.out (by decide)) (fun _ hk=>hk.2) (.slice Ao47 y160.length co47)) (fun _ hk=>hk.1)⟩,⟨by (with_reducible repeat (first|refine blk_drewN ?_ _|refine blk_drew ?_|refine blk_alloc ?_ _));refine blk_far ?_ NB148_154.out _;(with_reducible repeat (first|refine blk_drewN ?_ _|refine blk_drew ?_|refine blk_alloc ?_ _));exact BK148.out⟩,⟨by (with_reducible repeat (first|refine blk_drewN ?_ _|refine blk_drew ?_|refine blk_alloc ?_ _));refine blk_far ?_ NB149_154.out _;(with_reducible repeat (first|refine blk_drewN ?_ _|refine blk_drew ?_|refine blk_alloc ?_ _));exact BK149.out⟩,⟨by (with_reducible repeat (first|refine blk_drewN ?_ _|refine blk_drew ?_|refine blk_alloc ?_ _));refine blk_put (cs:=#[.slice Ao31 t151.length co31,u155001]) ?_ 1 _ rfl;(with_reducible repeat (first|refine blk_drewN ?_ _|refine blk_drew ?_|refine blk_alloc ?_ _));exact BK154.out⟩,⟨by repeat (first|(with_reducible first|exact HB.out|apply below_alloc|apply pw_below_drewN|apply below_drew1|refine below_set ?_ GE148.out|refine below_set ?_ GE149.out|refine below_set ?_ GE154.out)|exact HB.out)⟩⟩
             · rw [if_neg c39] at H
               exact absurd H (by simp)
           · rw [if_neg c37] at H
             exact absurd H (by simp)
         · rw [if_neg c36] at H
           have c36b0:decide (x9_2 < (l0_1.length:Int))=false:=decide_eq_false c36
           clear c36
           replace H:=Option.bind_eq_some_iff.mp H
           obtain ⟨t163,A490,H⟩:=H
           replace H:(if x155001_2.length < 4398046511104 then (some (t151,(x155001_2 ++ [(⟨a1,t163⟩:S45)]),0)) else (none))=some (r1,r2,r3):=H
           have A49:=Aside0.mk A490
           clear A490
           by_cases c50:x155001_2.length < 4398046511104
           · rw [if_pos c50] at H
             have LMc50:=Aside0.mk c50
             clear c50
             obtain ⟨y166,hy166⟩:∃ y_:List (S45),y_=(x155001_2 ++ [(⟨a1,t163⟩:S45)]):=⟨_,rfl⟩
             replace H:(some (t151,y166,0))=some (r1,r2,r3):=by first|(rw [hy166];with_reducible exact H)|(have H2_:=(Option.bind_some _ _).symm.trans H;rw [hy166];with_reducible exact H2_)|(have H2_:=(Option.bind_some _ _).symm.trans H;with_reducible exact H2_)|with_reducible exact H|(rw [hy166];exact H)|exact H
             have Ny166:=Aside0.mk hy166
             clear hy166
             simp only [Option.some.injEq,Prod.mk.injEq] at H
             obtain ⟨rfl,rfl,rfl⟩:=H
             have hnb51:=NB148_149.out
             have hnc51:=NB149_148.out
             have hnb52:=NB148_154.out
             have hnc52:=NB154_148.out
             have hcz53_0:wr.cell? ⟨gb148,0,none⟩=some (.slice A0_0 l0_0.length c0_0):=(blk_cell BK148.out 0).trans rfl
             have hcz53_1:wr.cell? ⟨gb148,1,none⟩=some (.slice A0_1 l0_1.length c0_1):=(blk_cell BK148.out 1).trans rfl
             have hfz53_0:=blk_frozen BK148.out 0
             have hfz53_1:=blk_frozen BK148.out 1
             try go_wp2
             have n0_:=Aside0.mk (Kd.R_drew HO_155000.out)
             have n1_:=Aside0.mk (Kd.S_drew HO_155001.out)
             have n2_:=Aside0.mk (blk_drew BK148.out)
             have n3_:=Aside0.mk (blk_drew BK149.out)
             have n4_:=Aside0.mk (blk_drew BK154.out)
             have n5_:=Aside0.mk (below_drew1 HB.out)
             clear HO_155000
             clear HO_155001
             clear BK148
             clear BK149
             clear BK154
             clear HB
             have HO_155000:=n0_
             have HO_155001:=n1_
             have BK148:=n2_
             have BK149:=n3_
             have BK154:=n4_
             have HB:=n5_
             clear n0_ n1_ n2_ n3_ n4_ n5_
             refine start_ (n:=10) (S:=fun w'=>w'.cell? ⟨gb154,0,none⟩=some (.slice Ao31 t151.length co31)∧w'.cell? ⟨gb154,1,none⟩=some (u155001)) (ds:=[9]) #[false,false,false,false,false,false,false,false,false,false] (by kernel_rfl) rfl rfl ⟨(blk_cell BK154.out 0).trans rfl,(blk_cell BK154.out 1).trans rfl⟩ (fun hHeld => ?_);refine with_tabW wageofficeref42_Write.tab10 wageofficeref42_Write.bits10 (fun HT_ HW_ => ?_)
             generalize wr.drew=w54 at HO_155000 HO_155001 BK148 BK149 BK154 HB hHeld ⊢
             refine pure_ (i:=0) (N:=some 63) (v:=?_) (a':=?_) #[true,false,false,false,false,false,false,false,false,false] rfl rfl (any_of HT_.out (by kernel_rfl)) (fun _ _ _ h=>h) (Or.inl ⟨by rfl,?_⟩) ?_ ?_
             rotate_left
             · intro w'
               go_simp
               with_reducible rfl
             rotate_left
             · simp only [Act.put,List.setIfInBounds_toArray,List.set_cons_zero,List.set_cons_succ,i64_w,i32_w]
               rfl
             refine pure_ (i:=2) (N:=some 65) (v:=?_) (a':=?_) #[true,false,true,false,false,false,false,false,false,false] rfl rfl (any_of HT_.out (by kernel_rfl)) (fun _ _ _ h=>h) (Or.inl ⟨by rfl,?_⟩) ?_ ?_
             rotate_left
             · intro w'
               go_simp
               with_reducible rfl
             rotate_left
             · simp only [Act.put,List.setIfInBounds_toArray,List.set_cons_zero,List.set_cons_succ,i64_w,i32_w]
               rfl
             refine pure_ (i:=3) (N:=some 66) (v:=?_) (a':=?_) #[true,false,true,true,false,false,false,false,false,false] rfl rfl (any_of HT_.out (by kernel_rfl)) (fun _ _ _ h=>h) (Or.inl ⟨by rfl,?_⟩) ?_ ?_
             rotate_left
             · intro w'
               go_simp
               with_reducible rfl
             rotate_left
             · simp only [Act.put,List.setIfInBounds_toArray,List.set_cons_zero,List.set_cons_succ,i64_w,i32_w]
               rfl
             refine take_ (i:=1) (N:=some 64) (v:=?_) (a':=?_) #[true,true,true,true,false,false,false,false,false,false] rfl rfl (take_ofW HT_.out HW_.out (by kernel_rfl)) (fun _ _ _ h=>h) (Or.inl ⟨by rfl,?_⟩) hHeld ?_ ?_
             rotate_left
             · rintro w' ⟨s0,s1⟩
               go_simp
               with_reducible rfl
             rotate_left
             · simp only [Act.put,List.setIfInBounds_toArray,List.set_cons_zero,List.set_cons_succ,i64_w,i32_w]
               rfl
             refine one_ (i:=4) (N:=some 67) #[true,true,true,true,true,false,false,false,false,false] rfl rfl (one_of HT_.out (by kernel_rfl)) (by decide) (fun K hK => ?_)
             refine goes_ Try.func46 (by kernel_rfl) rfl #[.slice A2 l2.length c2] (by rfl) rfl rfl (by (try simp only [List.map_toArray,List.map_cons,List.map_nil]);first|done|rfl|(simp only [List.length_drop,List.length_take];rfl)) ?_
             with_reducible refine (wageofficeref42_Copy.calls k2 _ _ l2 t163 _ ?side1 ?side2 A49.out).mono ?_
             (case side1=>repeat (first|exact (Kd.C_below HR2.out HB.out)|(with_reducible refine Kd.C_alloc ?_ _)|(with_reducible refine Kd.C_drewN ?_ _)|(with_reducible refine Kd.C_drew ?_)))
             (case side2=>exact HC2.out)
             rintro e w55 ⟨v164,rfl,ho0,hb⟩
             refine ⟨_,rfl,?_⟩
             have n0_:=Aside0.mk (Kd.R_elder' (by (with_reducible repeat (first|apply Kd.R_alloc|apply Kd.R_drewN|apply Kd.R_drew));exact HO_155000.out) (Kd.R_base ho0) hb)
             have n1_:=Aside0.mk (Kd.S_elder' (by (with_reducible repeat (first|apply Kd.S_alloc|apply Kd.S_drewN|apply Kd.S_drew));exact HO_155001.out) (Kd.R_base ho0) hb)
             have n2_:=Aside0.mk (Kd.R_lower (Kd.R_new' ho0 (Kd.R_lt (by (with_reducible repeat (first|apply Kd.R_alloc|apply Kd.R_drewN|apply Kd.R_drew));exact HO_155000.out))) (below_size (by repeat (first|(with_reducible first|exact HB.out|apply below_alloc|apply pw_below_drewN|apply below_drew1|refine below_set ?_ GE148.out|refine below_set ?_ GE149.out|refine below_set ?_ GE154.out)|exact HB.out))))
             have n3_:=Aside0.mk (blk_below (g:=gb148) (o:=.cells #[.slice A0_0 l0_0.length c0_0,.slice A0_1 l0_1.length c0_1] 25 (0,0)) (by (with_reducible repeat (first|refine blk_drewN ?_ _|refine blk_drew ?_|refine blk_alloc ?_ _));exact BK148.out) hb)
             have n4_:=Aside0.mk (blk_below (g:=gb149) (o:=.cells #[.slice none 0 0,.slice none 0 0] 25 (0,0)) (by (with_reducible repeat (first|refine blk_drewN ?_ _|refine blk_drew ?_|refine blk_alloc ?_ _));exact BK149.out) hb)
             have n5_:=Aside0.mk (blk_below (g:=gb154) (o:=.cells #[.slice Ao31 t151.length co31,u155001] 25 (0,0)) (by (with_reducible repeat (first|refine blk_drewN ?_ _|refine blk_drew ?_|refine blk_alloc ?_ _));exact BK154.out) hb)
             have n6_:=Aside0.mk (below_step (by repeat (first|(with_reducible first|exact HB.out|apply below_alloc|apply pw_below_drewN|apply below_drew1|refine below_set ?_ GE148.out|refine below_set ?_ GE149.out|refine below_set ?_ GE154.out)|exact HB.out)) hb)
             clear HO_155000
             clear HO_155001
             clear BK148
             clear BK149
             clear BK154
             clear HB
             have HO_155000:=n0_
             have HO_155001:=n1_
             have HO165:=n2_
             have BK148:=n3_
             have BK149:=n4_
             have BK154:=n5_
             have HB:=n6_
             clear n0_ n1_ n2_ n3_ n4_ n5_ n6_
             (try clear hb)
             (try clear hb2)
             (try clear hk)
             (try clear hi)
             (try clear ho0)
             obtain ⟨Ao56,co56,eo56⟩:=Kd.R_slice HO165.out
             (first|subst eo56|(injection eo56 with f1_ f2_ f3_;have f4_:=f1_.symm;have f5_:=f3_.symm;clear f1_ f2_ f3_;subst f4_;subst f5_))
             refine hK.out _ _ ⟨(blk_cell BK154.out 0).trans rfl,(blk_cell BK154.out 1).trans rfl⟩ (fun hHeld => ?_)
             clear hK K
             refine norm_ (a':=?_) ?_ ?_
             rotate_left
             · show Act.put _ (some 67) _=_
               simp only [Act.put,List.setIfInBounds_toArray,List.set_cons_zero,List.set_cons_succ,i64_w,i32_w]
               rfl
             refine pure_ (i:=5) (N:=some 68) (v:=?_) (a':=?_) #[true,true,true,true,true,true,false,false,false,false] rfl rfl (any_of HT_.out (by kernel_rfl)) (fun _ _ _ h=>h) (Or.inl ⟨by rfl,?_⟩) ?_ ?_
             rotate_left
             · intro w'
               go_simp
               with_reducible rfl
             rotate_left
             · simp only [Act.put,List.setIfInBounds_toArray,List.set_cons_zero,List.set_cons_succ,i64_w,i32_w]
               rfl
             refine one_ (i:=6) (N:=some 69) #[true,true,true,true,true,true,true,false,false,false] rfl rfl (one_of HT_.out (by kernel_rfl)) (by decide) (fun K hK => ?_)
             refine value_ (w1:=?_) (v:=?_) (by rfl) rfl ?_ ?_
             rotate_left 2
             · go_simp
               constructor
               · rfl
               · rfl
             refine hK.out _ _ ⟨(blk_cell (blk_alloc BK154.out _) 0).trans rfl,(blk_cell (blk_alloc BK154.out _) 1).trans rfl⟩ (fun hHeld => ?_)
             clear hK K
             refine norm_ (a':=?_) ?_ ?_
             rotate_left
             · show Act.put _ (some 69) _=_
               simp only [Act.put,List.setIfInBounds_toArray,List.set_cons_zero,List.set_cons_succ,i64_w,i32_w]
               rfl
             refine one_ (i:=7) (N:=some 70) #[true,true,true,true,true,true,true,true,false,false] rfl rfl (one_of HT_.out (by kernel_rfl)) (by decide) (fun K hK => ?_)
             refine Kd.S_append_step k45 (w0:=w) w.heap.size (by rfl) (.tmp 64) (.tmp 69) 23 45 (.agg #[(.int .i64 0),(.slice none 0 0)]) 32 rfl Try.underlying23 info45 rfl (by decide) (by omega) u155001 x155001_2 (⟨a1,t163⟩:S45) [.int .i64 a1,.slice Ao56 t163.length co56] (fun k_=>some k_ ≠ (.slice Ao31 t151.length co31:Value).ownBlock) (fun k_=>some k_=(.slice Ao56 t163.length co56:Value).ownBlock) rfl rfl ?aP (fun k_ hk_=>((Kd.R_mono (ok':=fun k_=>((fun k_=>some k_ ≠ (.slice Ao31 t151.length co31:Value).ownBlock)) k_∧some k_ ≠ (u155001:Value).ownBlock) (Kd.R_apart' (HO165.out) (Kd.S_typed HO_155001.out) (by decide)) (fun k_ hk=>⟨hk.1.2,hk.2⟩))).1 k_ hk_.symm) ?aF ?aO ?aB ?aS ?aL ?_
             (case aP=>exact k45_mkM _ _ _ (⟨a1,t163⟩:S45) (Kd.R_mono (Kd.R_tight rfl (Kd.R_mono (ok':=fun k_=>((fun k_=>some k_ ≠ (.slice Ao31 t151.length co31:Value).ownBlock)) k_∧some k_ ≠ (u155001:Value).ownBlock) (Kd.R_apart' (HO165.out) (Kd.S_typed HO_155001.out) (by decide)) (fun k_ hk=>⟨hk.1.2,hk.2⟩))) (fun _ h_=>h_)))
             (case aB=>exact (by repeat (first|(with_reducible first|exact HB.out|apply below_alloc|apply pw_below_drewN|apply below_drew1|refine below_set ?_ GE148.out|refine below_set ?_ GE149.out|refine below_set ?_ GE154.out)|exact HB.out)))
             (case aF=>exact (fun k_ hk=>Kd.fresh' (Kd.R_lt (by (with_reducible repeat (first|apply Kd.R_alloc|apply Kd.R_drewN|apply Kd.R_drew));exact HO_155000.out)) k_ hk))
             (case aO=>exact (by (with_reducible repeat (first|apply Kd.S_alloc|apply Kd.S_drewN|apply Kd.S_drew));exact Kd.S_mono HO_155001.out (fun k_ hk=>⟨hk.1,fun e_=>hk.2 e_⟩)))
             (case aS=>exact (below_size (by repeat (first|(with_reducible first|exact HB.out|apply below_alloc|apply pw_below_drewN|apply below_drew1|refine below_set ?_ GE148.out|refine below_set ?_ GE149.out|refine below_set ?_ GE154.out)|exact HB.out))))
             (case aL=>have:=LMc50.out;omega)
             intro v167 w57 ho hb hg hat
             rw [← Ny166.out] at ho
             have n0_:=Aside0.mk (Kd.R_over' (by (with_reducible repeat (first|apply Kd.R_alloc|apply Kd.R_drewN|apply Kd.R_drew));exact HO_155000.out) (Kd.S_typed (by (with_reducible repeat (first|apply Kd.S_alloc|apply Kd.S_drewN|apply Kd.S_drew));exact HO_155001.out)) (by decide) hg)
             have n1_:=Aside0.mk (blk_grown (g:=gb148) (o:=.cells #[.slice A0_0 l0_0.length c0_0,.slice A0_1 l0_1.length c0_1] 25 (0,0)) (by (with_reducible repeat (first|refine blk_drewN ?_ _|refine blk_drew ?_|refine blk_alloc ?_ _));exact BK148.out) hg (Kd.S_ne HO_155001.out BK148.out (by decide)))
             have n2_:=Aside0.mk (blk_grown (g:=gb149) (o:=.cells #[.slice none 0 0,.slice none 0 0] 25 (0,0)) (by (with_reducible repeat (first|refine blk_drewN ?_ _|refine blk_drew ?_|refine blk_alloc ?_ _));exact BK149.out) hg (Kd.S_ne HO_155001.out BK149.out (by decide)))
             have n3_:=Aside0.mk (blk_grown (g:=gb154) (o:=.cells #[.slice Ao31 t151.length co31,u155001] 25 (0,0)) (by (with_reducible repeat (first|refine blk_drewN ?_ _|refine blk_drew ?_|refine blk_alloc ?_ _));exact BK154.out) hg (Kd.S_ne HO_155001.out BK154.out (by decide)))
             have n4_:=Aside0.mk (hb)
             have n5_:=Aside0.mk (ho)
             clear HO_155000
             clear BK148
             clear BK149
             clear BK154
             clear HB
             clear HO_155001
             clear HO165
             have HO_155000:=n0_
             have BK148:=n1_
             have BK149:=n2_
             have BK154:=n3_
             have HB:=n4_
             have HO168:=n5_
             clear n0_ n1_ n2_ n3_ n4_ n5_
             clear ho hb hg hat
             obtain ⟨Ao58,co58,eo58⟩:=Kd.S_slice HO168.out
             (first|subst eo58|(injection eo58 with f1_ f2_ f3_;have f4_:=f1_.symm;have f5_:=f3_.symm;clear f1_ f2_ f3_;subst f4_;subst f5_))
             refine hK.out _ _ ⟨(blk_cell BK154.out 0).trans rfl,(blk_cell BK154.out 1).trans rfl⟩ (fun hHeld => ?_)
             clear hK K
             refine norm_ (a':=?_) ?_ ?_
             rotate_left
             · show Act.put _ (some 70) _=_
               simp only [Act.put,List.setIfInBounds_toArray,List.set_cons_zero,List.set_cons_succ,i64_w,i32_w]
               rfl
             refine pure_ (i:=8) (N:=some 71) (v:=?_) (a':=?_) #[true,true,true,true,true,true,true,true,true,false] rfl rfl (any_of HT_.out (by kernel_rfl)) (fun _ _ _ h=>h) (Or.inl ⟨by rfl,?_⟩) ?_ ?_
             rotate_left
             · intro w'
               go_simp
               with_reducible rfl
             rotate_left
             · simp only [Act.put,List.setIfInBounds_toArray,List.set_cons_zero,List.set_cons_succ,i64_w,i32_w]
               rfl
             refine last_ (i:=9) (N:=none) #[true,true,true,true,true,true,true,true,true,true] rfl rfl (one_of HT_.out (by kernel_rfl)) (by decide) (fun K hK => ?_)
             have hs59:w57.cell? ⟨gb154,1,none⟩=some (u155001):=(blk_cell BK154.out 1).trans rfl
             have hfs59:=blk_frozen BK154.out 1
             have hns59_0:=NB148_154.out
             have hns59_1:=NB149_154.out
             have hms59_0:=NB154_148.out
             have hms59_1:=NB154_149.out
             refine skip_ (w1:=?_) (by rfl) rfl ?_ ?_
             rotate_left
             · go_simp
               rfl
             refine hK.out _ _ ?_
             clear hK K
             refine done_ (done_of HT_.out (by kernel_rfl)) ?_
             have hnb60:=NB154_149.out
             have hnc60:=NB149_154.out
             have hcz61_0:w57.cell? ⟨gb154,0,none⟩=some (.slice Ao31 t151.length co31):=(blk_cell BK154.out 0).trans rfl
             have hcz61_1:w57.cell? ⟨gb154,1,none⟩=some (u155001):=(blk_cell BK154.out 1).trans rfl
             have hfz61_0:=blk_frozen BK154.out 0
             have hfz61_1:=blk_frozen BK154.out 1
             have hcz62_0:w57.cell? ⟨gb149,0,none⟩=some (.slice none 0 0):=(blk_cell BK149.out 0).trans rfl
             have hcz62_1:w57.cell? ⟨gb149,1,none⟩=some (.slice none 0 0):=(blk_cell BK149.out 1).trans rfl
             have hfz62_0:=blk_frozen BK149.out 0
             have hfz62_1:=blk_frozen BK149.out 1
             try go_wp2
             refine bodyPost_ret (results_ct rfl _ _ gb149 25 #[.slice Ao31 t151.length co31,.slice Ao58 y166.length co58] (0,0) _ rfl (by (with_reducible repeat (first|refine blk_drewN ?_ _|refine blk_drew ?_|refine blk_alloc ?_ _));refine blk_put (cs:=#[.slice Ao31 t151.length co31,.slice none 0 0]) ?_ 1 _ rfl;(with_reducible repeat (first|refine blk_drewN ?_ _|refine blk_drew ?_|refine blk_alloc ?_ _));refine blk_put (cs:=#[.slice none 0 0,.slice none 0 0]) ?_ 0 _ rfl;(with_reducible repeat (first|refine blk_drewN ?_ _|refine blk_drew ?_|refine blk_alloc ?_ _));refine blk_far ?_ NB149_154.out _;(with_reducible repeat (first|refine blk_drewN ?_ _|refine blk_drew ?_|refine blk_alloc ?_ _));exact BK149.out) Try.underlying25 rfl (by kernel_rfl)) rfl ?_
             exact ⟨_,_,by first|rfl|(simp [errW_none,errW_some] <;> rfl)|(simp [*,errW_none,errW_some] <;> rfl),by (with_reducible repeat (first|apply Kd.R_alloc|apply Kd.R_drewN|apply Kd.R_drew));exact Kd.R_mono (Kd.R_far (p:=⟨gb149,1,none⟩) (Kd.R_far (p:=⟨gb149,0,none⟩) (Kd.R_far (p:=⟨gb154,1,none⟩) (Kd.R_types (Kd.R_types HO_155000.out BK154.out (by decide)) BK149.out (by decide)) (fun _ hk=>hk.1.2) (.slice Ao58 y166.length co58)) (fun _ hk=>hk.2) (.slice Ao31 t151.length co31)) (fun _ hk=>hk.2) (.slice Ao58 y166.length co58)) (fun _ hk=>trivial),by (with_reducible repeat (first|apply Kd.S_alloc|apply Kd.S_drewN|apply Kd.S_drew));exact Kd.S_mono (Kd.S_far (p:=⟨gb149,1,none⟩) (Kd.S_far (p:=⟨gb149,0,none⟩) (Kd.S_far (p:=⟨gb154,1,none⟩) (Kd.S_types (Kd.S_types HO168.out BK154.out (by decide)) BK149.out (by decide)) (fun _ hk=>hk.1.2) (.slice Ao58 y166.length co58)) (fun _ hk=>hk.2) (.slice Ao31 t151.length co31)) (fun _ hk=>hk.2) (.slice Ao58 y166.length co58)) (fun _ hk=>hk.1.1),by repeat (first|(with_reducible first|exact HB.out|apply below_alloc|apply pw_below_drewN|apply below_drew1|refine below_set ?_ GE148.out|refine below_set ?_ GE149.out|refine below_set ?_ GE154.out)|exact HB.out)⟩
           · rw [if_neg c50] at H
             exact absurd H (by simp)
end Go.Proofs.Ytfpdmlhknddffaa.Dk
end
